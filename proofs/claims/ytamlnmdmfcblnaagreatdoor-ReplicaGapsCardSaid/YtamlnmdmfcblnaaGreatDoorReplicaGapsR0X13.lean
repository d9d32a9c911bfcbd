/- Written by a program of this claim's: the runs of some of the law's cases. No condition. -/
import Derived.Test.YtamlnmdmfcblnaaGreatDoorReplicaGapsR0D
set_option linter.unusedVariables false
set_option linter.unusedSimpArgs false
set_option maxRecDepth 100000
namespace Go.Proofs.YtamlnmdmfcblnaaGreatDoor.ReplicaGapsB0
open Go.Abs Go.RowKit
theorem ran82 : runAll cx 60 5 lot82 = true := by kernel_rfl
theorem ran83 : runAll cx 60 5 lot83 = true := by kernel_rfl
theorem ran84 : runAll cx 60 5 lot84 = true := by kernel_rfl
theorem ran85 : runAll cx 60 5 lot85 = true := by kernel_rfl
theorem ran86 : runAll cx 60 5 lot86 = true := by kernel_rfl
theorem ran87 : runAll cx 60 5 lot87 = true := by kernel_rfl
theorem ran88 : runAll cx 60 5 lot88 = true := by kernel_rfl
end Go.Proofs.YtamlnmdmfcblnaaGreatDoor.ReplicaGapsB0
