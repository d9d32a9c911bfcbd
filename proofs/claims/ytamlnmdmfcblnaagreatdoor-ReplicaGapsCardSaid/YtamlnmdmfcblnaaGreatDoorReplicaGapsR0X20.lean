/- Written by a program of this claim's: the runs of some of the law's cases. No condition. -/
import Derived.Test.YtamlnmdmfcblnaaGreatDoorReplicaGapsR0D
set_option linter.unusedVariables false
set_option linter.unusedSimpArgs false
set_option maxRecDepth 100000
namespace Go.Proofs.YtamlnmdmfcblnaaGreatDoor.ReplicaGapsB0
open Go.Abs Go.RowKit
theorem ran128 : runAll cx 60 5 lot128 = true := by kernel_rfl
theorem ran129 : runAll cx 60 5 lot129 = true := by kernel_rfl
theorem ran130 : runAll cx 60 5 lot130 = true := by kernel_rfl
theorem ran131 : runAll cx 60 5 lot131 = true := by kernel_rfl
theorem ran132 : runAll cx 60 5 lot132 = true := by kernel_rfl
theorem ran133 : runAll cx 60 5 lot133 = true := by kernel_rfl
end Go.Proofs.YtamlnmdmfcblnaaGreatDoor.ReplicaGapsB0
