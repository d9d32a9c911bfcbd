/- Written by a program of this claim's: the runs of some of the law's cases. No condition. -/
import Derived.Test.YtamlnmdmfcblnaaGreatDoorReplicaGapsR0D
set_option linter.unusedVariables false
set_option linter.unusedSimpArgs false
set_option maxRecDepth 100000
namespace Go.Proofs.YtamlnmdmfcblnaaGreatDoor.ReplicaGapsB0
open Go.Abs Go.RowKit
theorem ran114 : runAll cx 60 5 lot114 = true := by kernel_rfl
theorem ran115 : runAll cx 60 5 lot115 = true := by kernel_rfl
theorem ran116 : runAll cx 60 5 lot116 = true := by kernel_rfl
theorem ran117 : runAll cx 60 5 lot117 = true := by kernel_rfl
theorem ran118 : runAll cx 60 5 lot118 = true := by kernel_rfl
theorem ran119 : runAll cx 60 5 lot119 = true := by kernel_rfl
theorem ran120 : runAll cx 60 5 lot120 = true := by kernel_rfl
end Go.Proofs.YtamlnmdmfcblnaaGreatDoor.ReplicaGapsB0
