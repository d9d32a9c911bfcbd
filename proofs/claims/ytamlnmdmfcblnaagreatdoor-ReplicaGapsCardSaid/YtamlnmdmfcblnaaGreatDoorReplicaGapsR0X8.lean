/- Written by a program of this claim's: the runs of some of the law's cases. No condition. -/
import Derived.Test.YtamlnmdmfcblnaaGreatDoorReplicaGapsR0D
set_option linter.unusedVariables false
set_option linter.unusedSimpArgs false
set_option maxRecDepth 100000
namespace Go.Proofs.YtamlnmdmfcblnaaGreatDoor.ReplicaGapsB0
open Go.Abs Go.RowKit
theorem ran51 : runAll cx 60 5 lot51 = true := by kernel_rfl
theorem ran52 : runAll cx 60 5 lot52 = true := by kernel_rfl
theorem ran53 : runAll cx 60 5 lot53 = true := by kernel_rfl
theorem ran54 : runAll cx 60 5 lot54 = true := by kernel_rfl
theorem ran55 : runAll cx 60 5 lot55 = true := by kernel_rfl
theorem ran56 : runAll cx 60 5 lot56 = true := by kernel_rfl
end Go.Proofs.YtamlnmdmfcblnaaGreatDoor.ReplicaGapsB0
