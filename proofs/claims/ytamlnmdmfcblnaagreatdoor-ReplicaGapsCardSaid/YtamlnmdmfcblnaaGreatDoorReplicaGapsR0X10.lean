/- Written by a program of this claim's: the runs of some of the law's cases. No condition. -/
import Derived.Test.YtamlnmdmfcblnaaGreatDoorReplicaGapsR0D
set_option linter.unusedVariables false
set_option linter.unusedSimpArgs false
set_option maxRecDepth 100000
namespace Go.Proofs.YtamlnmdmfcblnaaGreatDoor.ReplicaGapsB0
open Go.Abs Go.RowKit
theorem ran63 : runAll cx 60 5 lot63 = true := by kernel_rfl
theorem ran64 : runAll cx 60 5 lot64 = true := by kernel_rfl
theorem ran65 : runAll cx 60 5 lot65 = true := by kernel_rfl
theorem ran66 : runAll cx 60 5 lot66 = true := by kernel_rfl
theorem ran67 : runAll cx 60 5 lot67 = true := by kernel_rfl
theorem ran68 : runAll cx 60 5 lot68 = true := by kernel_rfl
theorem ran69 : runAll cx 60 5 lot69 = true := by kernel_rfl
end Go.Proofs.YtamlnmdmfcblnaaGreatDoor.ReplicaGapsB0
