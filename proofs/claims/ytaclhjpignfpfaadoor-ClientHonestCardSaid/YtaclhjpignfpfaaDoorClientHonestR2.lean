/- Written by a program of this claim's (a symbolic run): the cases of the law's arguments. No condition but the arguments' kinds. -/
import Derived.Test.YtaclhjpignfpfaaDoorClientHonestR2X0
set_option linter.unusedVariables false
set_option maxRecDepth 100000
namespace Go.Proofs.YtaclhjpignfpfaaDoor.ClientHonestB2
open Go.Abs Go.RowKit Go.Abs.Orc
def skips : List (List Nat) := [[]]
theorem coverOK : coverB 0 skips = true := by kernel_rfl
theorem walk {x y : Int} {v2 v3 : Value} {n2 n3 : Nat} {z2 z3 : Nat → Int} {w : World} (hx : 0 ≤ x  ∧ x ≤ 4294967295) (hy : 0 ≤ y  ∧ y ≤ 255) (i2 : IntsIn w .u32 v2 n2 z2) (i3 : IntsIn w .u8 v3 n3 z3) (l2 : 11 ≤ Int.ofNat n2  ∧ Int.ofNat n2 ≤ 9223372036854775807) (l3 : 0 ≤ Int.ofNat n3  ∧ Int.ofNat n3 ≤ 9223372036854775807) : Calls Tryd.prog 3 ⟨[.int .u32 x, .int .u8 y, v2, v3]⟩ w fun e w' => e = .returned (.bool true) ∧ Below w.heap.size w w' :=
  law_two asked sums_ok (k2 := .u32) (k3 := .u8) (r2 := (0, 4294967295)) (r3 := (0, 255)) (xd := loopD) (xs := []) trivial dsOK bsOK (X := []) (W := wins) cutOK (by kernel_rfl) (fun n h => by have := wf_u32 h; simp only; omega) (fun n h => by have := wf_u8 h; simp only; omega) hx hy i2 i3 l2 l3 coverOK (all_cons ran0 (all_nil))
end Go.Proofs.YtaclhjpignfpfaaDoor.ClientHonestB2
