/- Written by a program of this claim's: the runs of some of the law's cases. No condition. -/
import Derived.Test.YtamlnmdmfcblnaaGreatDoorReplicaGapsR0D
set_option linter.unusedVariables false
set_option linter.unusedSimpArgs false
set_option maxRecDepth 100000
namespace Go.Proofs.YtamlnmdmfcblnaaGreatDoor.ReplicaGapsB0
open Go.Abs Go.RowKit
theorem ran70 : runAll cx 60 5 lot70 = true := by kernel_rfl
theorem ran71 : runAll cx 60 5 lot71 = true := by kernel_rfl
theorem ran72 : runAll cx 60 5 lot72 = true := by kernel_rfl
theorem ran73 : runAll cx 60 5 lot73 = true := by kernel_rfl
theorem ran74 : runAll cx 60 5 lot74 = true := by kernel_rfl
theorem ran75 : runAll cx 60 5 lot75 = true := by kernel_rfl
end Go.Proofs.YtamlnmdmfcblnaaGreatDoor.ReplicaGapsB0
