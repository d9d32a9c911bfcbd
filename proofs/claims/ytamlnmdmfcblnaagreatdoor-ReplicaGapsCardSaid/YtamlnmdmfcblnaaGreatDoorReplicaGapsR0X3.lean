/- Written by a program of this claim's: the runs of some of the law's cases. No condition. -/
import Derived.Test.YtamlnmdmfcblnaaGreatDoorReplicaGapsR0D
set_option linter.unusedVariables false
set_option linter.unusedSimpArgs false
set_option maxRecDepth 100000
namespace Go.Proofs.YtamlnmdmfcblnaaGreatDoor.ReplicaGapsB0
open Go.Abs Go.RowKit
theorem ran19 : runAll cx 60 5 lot19 = true := by kernel_rfl
theorem ran20 : runAll cx 60 5 lot20 = true := by kernel_rfl
theorem ran21 : runAll cx 60 5 lot21 = true := by kernel_rfl
theorem ran22 : runAll cx 60 5 lot22 = true := by kernel_rfl
theorem ran23 : runAll cx 60 5 lot23 = true := by kernel_rfl
theorem ran24 : runAll cx 60 5 lot24 = true := by kernel_rfl
end Go.Proofs.YtamlnmdmfcblnaaGreatDoor.ReplicaGapsB0
