/- Written by a program of this claim's (a symbolic run): the cases of the law's arguments. No condition but the arguments' kinds. -/
import Derived.Test.YtaclhjpignfpfaaDoorClientTimesR1X0
set_option linter.unusedVariables false
set_option maxRecDepth 100000
namespace Go.Proofs.YtaclhjpignfpfaaDoor.ClientTimesB1
open Go.Abs Go.RowKit Go.Abs.Orc
def skips : List (List Nat) := [[]]
theorem coverOK : coverB 0 skips = true := by kernel_rfl
theorem walk {v : Value} {len : Nat} {z : Nat → Int} {w : World} (hi : IntsIn w .u8 v len z) (h1 : 41 ≤ Int.ofNat len) (h2 : Int.ofNat len ≤ 9223372036854775807) : Calls Tryd.prog 4 ⟨[v]⟩ w fun e w' => e = .returned (.bool true) ∧ Below w.heap.size w w' :=
  law_ints asked sums_ok dsOK bsOK cutOK coverOK (fun n h => by have := wf_u8 h; omega) (by decide) hi h1 h2 (all_cons ran0 (all_nil))
end Go.Proofs.YtaclhjpignfpfaaDoor.ClientTimesB1
