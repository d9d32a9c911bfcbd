/- Written by a program of this claim's (a symbolic run): the runs of some of the loop's states. No condition. -/
import Derived.Test.YtamlnmdmfcblnaaGreatDoorReplicaOrdersR0D
set_option linter.unusedVariables false
set_option maxRecDepth 100000
namespace Go.Proofs.YtamlnmdmfcblnaaGreatDoor.ReplicaOrdersB0
open Go.Abs Go.RowKit Go.Abs.Orc
theorem ran25 : partL cx (tabD argD defD) ⟨[], [], tabB byteSyms, [⟨0, .sym .i64 0⟩], wins.map Win.read, []⟩ [cut0] 60 4 lawArgs o0 [0, 1, 2, 3, 4, 5, 6, 7, 8, 9, 10, 11, 12, 13, 14, 15, 16, 17, 18, 19, 20, 21, 22, 23, 24, 25, 26, 27, 28, 29, 30, 31, 32, 33, 34, 35, 36, 37, 38, 39, 40, 41, 42, 43, 44, 45, 46, 47, 48, 49, 50, 51, 52, 53, 54, 55, 56, 58, 59, 60, 61, 62, 63, 64] = true := by kernel_rfl
end Go.Proofs.YtamlnmdmfcblnaaGreatDoor.ReplicaOrdersB0
