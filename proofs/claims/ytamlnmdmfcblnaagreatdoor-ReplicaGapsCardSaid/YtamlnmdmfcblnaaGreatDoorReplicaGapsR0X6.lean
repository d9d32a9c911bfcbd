/- Written by a program of this claim's: the runs of some of the law's cases. No condition. -/
import Derived.Test.YtamlnmdmfcblnaaGreatDoorReplicaGapsR0D
set_option linter.unusedVariables false
set_option linter.unusedSimpArgs false
set_option maxRecDepth 100000
namespace Go.Proofs.YtamlnmdmfcblnaaGreatDoor.ReplicaGapsB0
open Go.Abs Go.RowKit
theorem ran38 : runAll cx 60 5 lot38 = true := by kernel_rfl
theorem ran39 : runAll cx 60 5 lot39 = true := by kernel_rfl
theorem ran40 : runAll cx 60 5 lot40 = true := by kernel_rfl
theorem ran41 : runAll cx 60 5 lot41 = true := by kernel_rfl
theorem ran42 : runAll cx 60 5 lot42 = true := by kernel_rfl
theorem ran43 : runAll cx 60 5 lot43 = true := by kernel_rfl
end Go.Proofs.YtamlnmdmfcblnaaGreatDoor.ReplicaGapsB0
