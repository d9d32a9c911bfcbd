/- Written by a program of this claim's: the runs of some of the law's cases. No condition. -/
import Derived.Test.YtamlnmdmfcblnaaGreatDoorReplicaGapsR0D
set_option linter.unusedVariables false
set_option linter.unusedSimpArgs false
set_option maxRecDepth 100000
namespace Go.Proofs.YtamlnmdmfcblnaaGreatDoor.ReplicaGapsB0
open Go.Abs Go.RowKit
theorem ran13 : runAll cx 60 5 lot13 = true := by kernel_rfl
theorem ran14 : runAll cx 60 5 lot14 = true := by kernel_rfl
theorem ran15 : runAll cx 60 5 lot15 = true := by kernel_rfl
theorem ran16 : runAll cx 60 5 lot16 = true := by kernel_rfl
theorem ran17 : runAll cx 60 5 lot17 = true := by kernel_rfl
theorem ran18 : runAll cx 60 5 lot18 = true := by kernel_rfl
end Go.Proofs.YtamlnmdmfcblnaaGreatDoor.ReplicaGapsB0
