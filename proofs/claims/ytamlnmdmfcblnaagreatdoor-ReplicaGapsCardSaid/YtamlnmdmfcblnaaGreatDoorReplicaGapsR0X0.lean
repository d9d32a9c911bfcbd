/- Written by a program of this claim's: the runs of some of the law's cases. No condition. -/
import Derived.Test.YtamlnmdmfcblnaaGreatDoorReplicaGapsR0D
set_option linter.unusedVariables false
set_option linter.unusedSimpArgs false
set_option maxRecDepth 100000
namespace Go.Proofs.YtamlnmdmfcblnaaGreatDoor.ReplicaGapsB0
open Go.Abs Go.RowKit
theorem ran0 : runAll cx 60 5 lot0 = true := by kernel_rfl
theorem ran1 : runAll cx 60 5 lot1 = true := by kernel_rfl
theorem ran2 : runAll cx 60 5 lot2 = true := by kernel_rfl
theorem ran3 : runAll cx 60 5 lot3 = true := by kernel_rfl
theorem ran4 : runAll cx 60 5 lot4 = true := by kernel_rfl
theorem ran5 : runAll cx 60 5 lot5 = true := by kernel_rfl
theorem ran6 : runAll cx 60 5 lot6 = true := by kernel_rfl
end Go.Proofs.YtamlnmdmfcblnaaGreatDoor.ReplicaGapsB0
