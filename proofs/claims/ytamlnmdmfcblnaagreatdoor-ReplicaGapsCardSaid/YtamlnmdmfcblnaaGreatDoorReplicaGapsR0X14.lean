/- Written by a program of this claim's: the runs of some of the law's cases. No condition. -/
import Derived.Test.YtamlnmdmfcblnaaGreatDoorReplicaGapsR0D
set_option linter.unusedVariables false
set_option linter.unusedSimpArgs false
set_option maxRecDepth 100000
namespace Go.Proofs.YtamlnmdmfcblnaaGreatDoor.ReplicaGapsB0
open Go.Abs Go.RowKit
theorem ran89 : runAll cx 60 5 lot89 = true := by kernel_rfl
theorem ran90 : runAll cx 60 5 lot90 = true := by kernel_rfl
theorem ran91 : runAll cx 60 5 lot91 = true := by kernel_rfl
theorem ran92 : runAll cx 60 5 lot92 = true := by kernel_rfl
theorem ran93 : runAll cx 60 5 lot93 = true := by kernel_rfl
theorem ran94 : runAll cx 60 5 lot94 = true := by kernel_rfl
end Go.Proofs.YtamlnmdmfcblnaaGreatDoor.ReplicaGapsB0
