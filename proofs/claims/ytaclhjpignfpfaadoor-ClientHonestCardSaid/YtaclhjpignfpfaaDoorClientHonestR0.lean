/- Written by a program of this claim's (a symbolic run): the cases of the law's arguments. No condition but the arguments' kinds. -/
import Derived.Test.YtaclhjpignfpfaaDoorClientHonestR0X0
import Derived.Test.YtaclhjpignfpfaaDoorClientHonestR0X1
set_option linter.unusedVariables false
set_option maxRecDepth 100000
namespace Go.Proofs.YtaclhjpignfpfaaDoor.ClientHonestB0
open Go.Abs Go.RowKit Go.Abs.Orc
def skips : List (List Nat) := [[45, 46, 47, 48, 49, 50, 51, 52, 53, 54, 55, 56, 57, 58, 59, 60], [0, 1, 2, 3, 4, 5, 6, 7, 8, 9, 10, 11, 12, 13, 14, 15, 16, 17, 18, 19, 20, 21, 22, 23, 24, 25, 26, 27, 28, 29, 30, 31, 32, 33, 34, 35, 36, 37, 38, 39, 40, 41, 42, 43, 44]]
theorem coverOK : coverB 61 skips = true := by kernel_rfl
theorem walk {x y : Int} {v2 v3 : Value} {n2 n3 : Nat} {z2 z3 : Nat → Int} {w : World} (hx : 0 ≤ x  ∧ x ≤ 4294967295) (hy : 0 ≤ y  ∧ y ≤ 255) (i2 : IntsIn w .u32 v2 n2 z2) (i3 : IntsIn w .u8 v3 n3 z3) (l2 : 0 ≤ Int.ofNat n2  ∧ Int.ofNat n2 ≤ 0) (l3 : 0 ≤ Int.ofNat n3  ∧ Int.ofNat n3 ≤ 40) : Calls Tryd.prog 3 ⟨[.int .u32 x, .int .u8 y, v2, v3]⟩ w fun e w' => e = .returned (.bool true) ∧ Below w.heap.size w w' :=
  law_two asked sums_ok (k2 := .u32) (k3 := .u8) (r2 := (0, 4294967295)) (r3 := (0, 255)) (xd := loopD) (xs := [0, 0, 0, 0, 0, 0]) ⟨⟨by decide, by decide⟩, ⟨by decide, by decide⟩, ⟨by decide, by decide⟩, ⟨by decide, by decide⟩, ⟨by decide, by decide⟩, ⟨by decide, by decide⟩, trivial⟩ dsOK bsOK (X := [8, 9]) (W := wins) cutOK (by kernel_rfl) (fun n h => by have := wf_u32 h; simp only; omega) (fun n h => by have := wf_u8 h; simp only; omega) hx hy i2 i3 l2 l3 coverOK (all_cons ran0 (all_cons ran1 (all_nil)))
end Go.Proofs.YtaclhjpignfpfaaDoor.ClientHonestB0
