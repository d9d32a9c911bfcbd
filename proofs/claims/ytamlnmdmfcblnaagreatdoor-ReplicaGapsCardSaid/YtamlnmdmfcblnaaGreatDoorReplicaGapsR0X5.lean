/- Written by a program of this claim's: the runs of some of the law's cases. No condition. -/
import Derived.Test.YtamlnmdmfcblnaaGreatDoorReplicaGapsR0D
set_option linter.unusedVariables false
set_option linter.unusedSimpArgs false
set_option maxRecDepth 100000
namespace Go.Proofs.YtamlnmdmfcblnaaGreatDoor.ReplicaGapsB0
open Go.Abs Go.RowKit
theorem ran31 : runAll cx 60 5 lot31 = true := by kernel_rfl
theorem ran32 : runAll cx 60 5 lot32 = true := by kernel_rfl
theorem ran33 : runAll cx 60 5 lot33 = true := by kernel_rfl
theorem ran34 : runAll cx 60 5 lot34 = true := by kernel_rfl
theorem ran35 : runAll cx 60 5 lot35 = true := by kernel_rfl
theorem ran36 : runAll cx 60 5 lot36 = true := by kernel_rfl
theorem ran37 : runAll cx 60 5 lot37 = true := by kernel_rfl
end Go.Proofs.YtamlnmdmfcblnaaGreatDoor.ReplicaGapsB0
