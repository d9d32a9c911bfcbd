/- Written by a program of this claim's: the runs of some of the law's cases. No condition. -/
import Derived.Test.YtamlnmdmfcblnaaGreatDoorReplicaGapsR0D
set_option linter.unusedVariables false
set_option linter.unusedSimpArgs false
set_option maxRecDepth 100000
namespace Go.Proofs.YtamlnmdmfcblnaaGreatDoor.ReplicaGapsB0
open Go.Abs Go.RowKit
theorem ran25 : runAll cx 60 5 lot25 = true := by kernel_rfl
theorem ran26 : runAll cx 60 5 lot26 = true := by kernel_rfl
theorem ran27 : runAll cx 60 5 lot27 = true := by kernel_rfl
theorem ran28 : runAll cx 60 5 lot28 = true := by kernel_rfl
theorem ran29 : runAll cx 60 5 lot29 = true := by kernel_rfl
theorem ran30 : runAll cx 60 5 lot30 = true := by kernel_rfl
end Go.Proofs.YtamlnmdmfcblnaaGreatDoor.ReplicaGapsB0
