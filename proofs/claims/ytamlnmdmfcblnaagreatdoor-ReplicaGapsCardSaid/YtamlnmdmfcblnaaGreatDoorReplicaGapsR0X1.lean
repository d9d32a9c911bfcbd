/- Written by a program of this claim's: the runs of some of the law's cases. No condition. -/
import Derived.Test.YtamlnmdmfcblnaaGreatDoorReplicaGapsR0D
set_option linter.unusedVariables false
set_option linter.unusedSimpArgs false
set_option maxRecDepth 100000
namespace Go.Proofs.YtamlnmdmfcblnaaGreatDoor.ReplicaGapsB0
open Go.Abs Go.RowKit
theorem ran7 : runAll cx 60 5 lot7 = true := by kernel_rfl
theorem ran8 : runAll cx 60 5 lot8 = true := by kernel_rfl
theorem ran9 : runAll cx 60 5 lot9 = true := by kernel_rfl
theorem ran10 : runAll cx 60 5 lot10 = true := by kernel_rfl
theorem ran11 : runAll cx 60 5 lot11 = true := by kernel_rfl
theorem ran12 : runAll cx 60 5 lot12 = true := by kernel_rfl
end Go.Proofs.YtamlnmdmfcblnaaGreatDoor.ReplicaGapsB0
