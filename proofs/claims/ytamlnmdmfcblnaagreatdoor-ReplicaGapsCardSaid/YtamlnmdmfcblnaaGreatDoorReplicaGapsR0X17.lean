/- Written by a program of this claim's: the runs of some of the law's cases. No condition. -/
import Derived.Test.YtamlnmdmfcblnaaGreatDoorReplicaGapsR0D
set_option linter.unusedVariables false
set_option linter.unusedSimpArgs false
set_option maxRecDepth 100000
namespace Go.Proofs.YtamlnmdmfcblnaaGreatDoor.ReplicaGapsB0
open Go.Abs Go.RowKit
theorem ran108 : runAll cx 60 5 lot108 = true := by kernel_rfl
theorem ran109 : runAll cx 60 5 lot109 = true := by kernel_rfl
theorem ran110 : runAll cx 60 5 lot110 = true := by kernel_rfl
theorem ran111 : runAll cx 60 5 lot111 = true := by kernel_rfl
theorem ran112 : runAll cx 60 5 lot112 = true := by kernel_rfl
theorem ran113 : runAll cx 60 5 lot113 = true := by kernel_rfl
end Go.Proofs.YtamlnmdmfcblnaaGreatDoor.ReplicaGapsB0
