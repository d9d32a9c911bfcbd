/- Written by a program of this claim's: the runs of some of the law's cases. No condition. -/
import Derived.Test.YtamlnmdmfcblnaaGreatDoorReplicaGapsR0D
set_option linter.unusedVariables false
set_option linter.unusedSimpArgs false
set_option maxRecDepth 100000
namespace Go.Proofs.YtamlnmdmfcblnaaGreatDoor.ReplicaGapsB0
open Go.Abs Go.RowKit
theorem ran57 : runAll cx 60 5 lot57 = true := by kernel_rfl
theorem ran58 : runAll cx 60 5 lot58 = true := by kernel_rfl
theorem ran59 : runAll cx 60 5 lot59 = true := by kernel_rfl
theorem ran60 : runAll cx 60 5 lot60 = true := by kernel_rfl
theorem ran61 : runAll cx 60 5 lot61 = true := by kernel_rfl
theorem ran62 : runAll cx 60 5 lot62 = true := by kernel_rfl
end Go.Proofs.YtamlnmdmfcblnaaGreatDoor.ReplicaGapsB0
