/- Written by a program of this claim's: the runs of some of the law's cases. No condition. -/
import Derived.Test.YtamlnmdmfcblnaaGreatDoorReplicaGapsR0D
set_option linter.unusedVariables false
set_option linter.unusedSimpArgs false
set_option maxRecDepth 100000
namespace Go.Proofs.YtamlnmdmfcblnaaGreatDoor.ReplicaGapsB0
open Go.Abs Go.RowKit
theorem ran121 : runAll cx 60 5 lot121 = true := by kernel_rfl
theorem ran122 : runAll cx 60 5 lot122 = true := by kernel_rfl
theorem ran123 : runAll cx 60 5 lot123 = true := by kernel_rfl
theorem ran124 : runAll cx 60 5 lot124 = true := by kernel_rfl
theorem ran125 : runAll cx 60 5 lot125 = true := by kernel_rfl
theorem ran126 : runAll cx 60 5 lot126 = true := by kernel_rfl
theorem ran127 : runAll cx 60 5 lot127 = true := by kernel_rfl
end Go.Proofs.YtamlnmdmfcblnaaGreatDoor.ReplicaGapsB0
