/- Written by a program of this claim's (a symbolic run): the cases of the law's arguments. No condition but the arguments' kinds. -/
import Derived.Test.YtamlnmdmfcblnaaGreatDoorReplicaOrdersR1X0
set_option linter.unusedVariables false
set_option maxRecDepth 100000
namespace Go.Proofs.YtamlnmdmfcblnaaGreatDoor.ReplicaOrdersB1
open Go.Abs Go.RowKit Go.Abs.Orc
def skips : List (List Nat) := [[]]
theorem coverOK : coverB 0 skips = true := by kernel_rfl
theorem walk {v2 : Value} {n2 : Nat} {z2 : Nat → Int} {w : World} (i2 : IntsIn w .u8 v2 n2 z2) (h1 : 41 ≤ Int.ofNat n2) (h2 : Int.ofNat n2 ≤ 9223372036854775807) : Calls Tryz.prog 4 ⟨[v2]⟩ w fun e w' => e = .returned (.bool true) ∧ Below w.heap.size w w' :=
  law_one asked sums_ok (k2 := .u8) (r2 := (0, 255)) (xd := loopD) (xs := []) trivial dsOK bsOK (X := []) (W := wins) cutOK (by kernel_rfl) (fun n h => by have := wf_u8 h; simp only; omega) i2 ⟨h1, h2⟩ coverOK (all_cons ran0 (all_nil))
end Go.Proofs.YtamlnmdmfcblnaaGreatDoor.ReplicaOrdersB1
