/- Written by a program of this claim's: the runs of some of the law's cases. No condition. -/
import Derived.Test.YtamlnmdmfcblnaaGreatDoorReplicaGapsR0D
set_option linter.unusedVariables false
set_option linter.unusedSimpArgs false
set_option maxRecDepth 100000
namespace Go.Proofs.YtamlnmdmfcblnaaGreatDoor.ReplicaGapsB0
open Go.Abs Go.RowKit
theorem ran102 : runAll cx 60 5 lot102 = true := by kernel_rfl
theorem ran103 : runAll cx 60 5 lot103 = true := by kernel_rfl
theorem ran104 : runAll cx 60 5 lot104 = true := by kernel_rfl
theorem ran105 : runAll cx 60 5 lot105 = true := by kernel_rfl
theorem ran106 : runAll cx 60 5 lot106 = true := by kernel_rfl
theorem ran107 : runAll cx 60 5 lot107 = true := by kernel_rfl
end Go.Proofs.YtamlnmdmfcblnaaGreatDoor.ReplicaGapsB0
