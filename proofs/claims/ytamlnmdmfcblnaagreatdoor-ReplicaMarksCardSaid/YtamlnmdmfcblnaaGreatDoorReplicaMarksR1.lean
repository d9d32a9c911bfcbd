/- Written by a program of this claim's (a symbolic run): the cases of the law's arguments. No condition but the arguments' kinds. -/
import Derived.Test.YtamlnmdmfcblnaaGreatDoorReplicaMarksR1X0
import Derived.Test.YtamlnmdmfcblnaaGreatDoorReplicaMarksR1X1
import Derived.Test.YtamlnmdmfcblnaaGreatDoorReplicaMarksR1X2
import Derived.Test.YtamlnmdmfcblnaaGreatDoorReplicaMarksR1X3
import Derived.Test.YtamlnmdmfcblnaaGreatDoorReplicaMarksR1X4
import Derived.Test.YtamlnmdmfcblnaaGreatDoorReplicaMarksR1X5
import Derived.Test.YtamlnmdmfcblnaaGreatDoorReplicaMarksR1X6
import Derived.Test.YtamlnmdmfcblnaaGreatDoorReplicaMarksR1X7
set_option linter.unusedVariables false
set_option maxRecDepth 100000
namespace Go.Proofs.YtamlnmdmfcblnaaGreatDoor.ReplicaMarksB1
open Go.Abs Go.RowKit Go.Abs.Orc
def skips : List (List Nat) := [[9, 10, 11, 12, 13, 14, 15, 16, 17, 18, 19, 20, 21, 22, 23, 24, 25, 26, 27, 28, 29, 30, 31, 32, 33, 34, 35, 36, 37, 38, 39, 40, 41, 42, 43], [0, 1, 2, 3, 4, 5, 6, 7, 8, 14, 15, 16, 17, 18, 19, 20, 21, 22, 23, 24, 25, 26, 27, 28, 29, 30, 31, 32, 33, 34, 35, 36, 37, 38, 39, 40, 41, 42, 43], [0, 1, 2, 3, 4, 5, 6, 7, 8, 9, 10, 11, 12, 13, 20, 21, 22, 23, 24, 25, 26, 27, 28, 29, 30, 31, 32, 33, 34, 35, 36, 37, 38, 39, 40, 41, 42, 43], [0, 1, 2, 3, 4, 5, 6, 7, 8, 9, 10, 11, 12, 13, 14, 15, 16, 17, 18, 19, 25, 26, 27, 28, 29, 30, 31, 32, 33, 34, 35, 36, 37, 38, 39, 40, 41, 42, 43], [0, 1, 2, 3, 4, 5, 6, 7, 8, 9, 10, 11, 12, 13, 14, 15, 16, 17, 18, 19, 20, 21, 22, 23, 24, 31, 32, 33, 34, 35, 36, 37, 38, 39, 40, 41, 42, 43], [0, 1, 2, 3, 4, 5, 6, 7, 8, 9, 10, 11, 12, 13, 14, 15, 16, 17, 18, 19, 20, 21, 22, 23, 24, 25, 26, 27, 28, 29, 30, 37, 38, 39, 40, 41, 42, 43], [0, 1, 2, 3, 4, 5, 6, 7, 8, 9, 10, 11, 12, 13, 14, 15, 16, 17, 18, 19, 20, 21, 22, 23, 24, 25, 26, 27, 28, 29, 30, 31, 32, 33, 34, 35, 36, 42, 43], [0, 1, 2, 3, 4, 5, 6, 7, 8, 9, 10, 11, 12, 13, 14, 15, 16, 17, 18, 19, 20, 21, 22, 23, 24, 25, 26, 27, 28, 29, 30, 31, 32, 33, 34, 35, 36, 37, 38, 39, 40, 41]]
theorem coverOK : coverB 44 skips = true := by kernel_rfl
theorem walk (nn : Int) (hnn : 0 ≤ nn ∧ nn < 256) (w : World) : Calls Tryz.prog 7 ⟨[.int .u8 nn, .bool true]⟩ w fun e w' => e = .returned (.bool true) ∧ Below w.heap.size w w' := by
  have ha : argsL argD [nn] := by
    refine ⟨⟨by omega, by omega⟩, trivial⟩
  exact law_cut asked sums_ok dsOK bsOK argsOK (rv := [nn]) (xs := []) ha cutOK coverOK (all_cons ran0 (all_cons ran1 (all_cons ran2 (all_cons ran3 (all_cons ran4 (all_cons ran5 (all_cons ran6 (all_cons ran7 (all_nil))))))))) w
end Go.Proofs.YtamlnmdmfcblnaaGreatDoor.ReplicaMarksB1
