/- Written by a program of this claim's: the runs of some of the law's cases. No condition. -/
import Derived.Test.YtamlnmdmfcblnaaGreatDoorReplicaGapsR0D
set_option linter.unusedVariables false
set_option linter.unusedSimpArgs false
set_option maxRecDepth 100000
namespace Go.Proofs.YtamlnmdmfcblnaaGreatDoor.ReplicaGapsB0
open Go.Abs Go.RowKit
theorem ran76 : runAll cx 60 5 lot76 = true := by kernel_rfl
theorem ran77 : runAll cx 60 5 lot77 = true := by kernel_rfl
theorem ran78 : runAll cx 60 5 lot78 = true := by kernel_rfl
theorem ran79 : runAll cx 60 5 lot79 = true := by kernel_rfl
theorem ran80 : runAll cx 60 5 lot80 = true := by kernel_rfl
theorem ran81 : runAll cx 60 5 lot81 = true := by kernel_rfl
end Go.Proofs.YtamlnmdmfcblnaaGreatDoor.ReplicaGapsB0
