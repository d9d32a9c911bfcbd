/- Written by a program of this claim's: the runs of some of the law's cases. No condition. -/
import Derived.Test.YtamlnmdmfcblnaaGreatDoorReplicaGapsR0D
set_option linter.unusedVariables false
set_option linter.unusedSimpArgs false
set_option maxRecDepth 100000
namespace Go.Proofs.YtamlnmdmfcblnaaGreatDoor.ReplicaGapsB0
open Go.Abs Go.RowKit
theorem ran95 : runAll cx 60 5 lot95 = true := by kernel_rfl
theorem ran96 : runAll cx 60 5 lot96 = true := by kernel_rfl
theorem ran97 : runAll cx 60 5 lot97 = true := by kernel_rfl
theorem ran98 : runAll cx 60 5 lot98 = true := by kernel_rfl
theorem ran99 : runAll cx 60 5 lot99 = true := by kernel_rfl
theorem ran100 : runAll cx 60 5 lot100 = true := by kernel_rfl
theorem ran101 : runAll cx 60 5 lot101 = true := by kernel_rfl
end Go.Proofs.YtamlnmdmfcblnaaGreatDoor.ReplicaGapsB0
