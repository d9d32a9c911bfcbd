/- Written by a program of this claim's: the runs of some of the law's cases. No condition. -/
import Derived.Test.YtamlnmdmfcblnaaGreatDoorReplicaGapsR0D
set_option linter.unusedVariables false
set_option linter.unusedSimpArgs false
set_option maxRecDepth 100000
namespace Go.Proofs.YtamlnmdmfcblnaaGreatDoor.ReplicaGapsB0
open Go.Abs Go.RowKit
theorem ran44 : runAll cx 60 5 lot44 = true := by kernel_rfl
theorem ran45 : runAll cx 60 5 lot45 = true := by kernel_rfl
theorem ran46 : runAll cx 60 5 lot46 = true := by kernel_rfl
theorem ran47 : runAll cx 60 5 lot47 = true := by kernel_rfl
theorem ran48 : runAll cx 60 5 lot48 = true := by kernel_rfl
theorem ran49 : runAll cx 60 5 lot49 = true := by kernel_rfl
theorem ran50 : runAll cx 60 5 lot50 = true := by kernel_rfl
end Go.Proofs.YtamlnmdmfcblnaaGreatDoor.ReplicaGapsB0
