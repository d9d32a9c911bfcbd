/- Written by a program of this claim's (a symbolic run): the cases of the law's arguments. No condition but the arguments' kinds. -/
import Derived.Test.YtnccccpjhoaikaaGreatDoorReplicaAsksR0X0
import Derived.Test.YtnccccpjhoaikaaGreatDoorReplicaAsksR0X1
import Derived.Test.YtnccccpjhoaikaaGreatDoorReplicaAsksR0X2
set_option linter.unusedVariables false
set_option maxRecDepth 100000
namespace Go.Proofs.YtnccccpjhoaikaaGreatDoor.ReplicaAsksB0
open Go.Abs Go.RowKit Go.Abs.Orc
def skips : List (List Nat) := [[18, 19, 20, 21, 22, 23, 24, 25, 26, 27, 28, 29, 30, 31, 32, 33, 34, 35, 36, 37, 38, 39, 40, 41, 42, 43], [0, 1, 2, 3, 4, 5, 6, 7, 8, 9, 10, 11, 12, 13, 14, 15, 16, 17, 35, 36, 37, 38, 39, 40, 41, 42, 43], [0, 1, 2, 3, 4, 5, 6, 7, 8, 9, 10, 11, 12, 13, 14, 15, 16, 17, 18, 19, 20, 21, 22, 23, 24, 25, 26, 27, 28, 29, 30, 31, 32, 33, 34]]
theorem coverOK : coverB 44 skips = true := by kernel_rfl
theorem walk (ww0 ww1 ww2 ww3 ww4 ww5 ss0 ss1 ss2 ss3 ss4 ss5 old_ : Int) (hww0 : 0 ≤ ww0 ∧ ww0 < 256) (hww1 : 0 ≤ ww1 ∧ ww1 < 256) (hww2 : 0 ≤ ww2 ∧ ww2 < 256) (hww3 : 0 ≤ ww3 ∧ ww3 < 256) (hww4 : 0 ≤ ww4 ∧ ww4 < 256) (hww5 : 0 ≤ ww5 ∧ ww5 < 256) (hss0 : 0 ≤ ss0 ∧ ss0 < 256) (hss1 : 0 ≤ ss1 ∧ ss1 < 256) (hss2 : 0 ≤ ss2 ∧ ss2 < 256) (hss3 : 0 ≤ ss3 ∧ ss3 < 256) (hss4 : 0 ≤ ss4 ∧ ss4 < 256) (hss5 : 0 ≤ ss5 ∧ ss5 < 256) (hold_ : 0 ≤ old_ ∧ old_ < 256) (w : World) : Calls Tryz.prog 6 ⟨[.agg #[.int .u8 ww0, .int .u8 ww1, .int .u8 ww2, .int .u8 ww3, .int .u8 ww4, .int .u8 ww5], .agg #[.int .u8 ss0, .int .u8 ss1, .int .u8 ss2, .int .u8 ss3, .int .u8 ss4, .int .u8 ss5], .int .u8 old_]⟩ w fun e w' => e = .returned (.bool true) ∧ Below w.heap.size w w' := by
  have ha : argsL argD [ww0, ww1, ww2, ww3, ww4, ww5, ss0, ss1, ss2, ss3, ss4, ss5, old_, 0, 0, 0, 0] := by
    refine ⟨⟨by omega, by omega⟩, ⟨by omega, by omega⟩, ⟨by omega, by omega⟩, ⟨by omega, by omega⟩, ⟨by omega, by omega⟩, ⟨by omega, by omega⟩, ⟨by omega, by omega⟩, ⟨by omega, by omega⟩, ⟨by omega, by omega⟩, ⟨by omega, by omega⟩, ⟨by omega, by omega⟩, ⟨by omega, by omega⟩, ⟨by omega, by omega⟩, ⟨by decide, by decide⟩, ⟨by decide, by decide⟩, ⟨by decide, by decide⟩, ⟨by decide, by decide⟩, trivial⟩
  exact law_cut asked sums_ok dsOK bsOK argsOK (rv := [ww0, ww1, ww2, ww3, ww4, ww5, ss0, ss1, ss2, ss3, ss4, ss5, old_]) (xs := [0, 0, 0, 0]) ha cutOK coverOK (all_cons ran0 (all_cons ran1 (all_cons ran2 (all_nil)))) w
end Go.Proofs.YtnccccpjhoaikaaGreatDoor.ReplicaAsksB0
