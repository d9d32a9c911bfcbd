/- Written by a program of this claim's (a symbolic run): the cases of the law's arguments. No condition but the arguments' kinds. -/
import Derived.Test.YtamlnmdmfcblnaaGreatDoorReplicaVotesR0X0
import Derived.Test.YtamlnmdmfcblnaaGreatDoorReplicaVotesR0X1
import Derived.Test.YtamlnmdmfcblnaaGreatDoorReplicaVotesR0X2
set_option linter.unusedVariables false
set_option maxRecDepth 100000
namespace Go.Proofs.YtamlnmdmfcblnaaGreatDoor.ReplicaVotesB0
open Go.Abs Go.RowKit Go.Abs.Orc
theorem walk (done_ seen_ : Int) (hdone_ : 0 ≤ done_ ∧ done_ < 256) (hseen_ : 0 ≤ seen_ ∧ seen_ < 256) (w : World) (hT : ∀ q, q < 20 → w.cell? ⟨0, q, none⟩ = some (.int .u64 ((10 ^ q : Nat) : Int))) : Calls Tryz.prog 8 ⟨[.int .u8 done_, .int .u8 seen_]⟩ w fun e w' => e = .returned (.bool true) ∧ Below w.heap.size w w' := by
  have ha : argsL argD [done_, seen_] := by
    refine ⟨⟨by omega, by omega⟩, ⟨by omega, by omega⟩, trivial⟩
  have b0 := val_among dsOK ha (s := 2) (lo := 0) (hi := 7) (by kernel_rfl)
  rcases (show (valD argD defD [done_, seen_]).num 2 = 0 ∨ (valD argD defD [done_, seen_]).num 2 = 1 ∨ (valD argD defD [done_, seen_]).num 2 = 2 ∨ (valD argD defD [done_, seen_]).num 2 = 3 ∨ (valD argD defD [done_, seen_]).num 2 = 4 ∨ (valD argD defD [done_, seen_]).num 2 = 5 ∨ (valD argD defD [done_, seen_]).num 2 = 6 ∨ (valD argD defD [done_, seen_]).num 2 = 7 by omega) with c0 | c0 | c0 | c0 | c0 | c0 | c0 | c0
  · exact law_lotG asked (sumsP_ok hT) dsOK bsOK argsOK ha ran0 (all_cons c0 (all_nil))
  · exact law_lotG asked (sumsP_ok hT) dsOK bsOK argsOK ha ran1 (all_cons c0 (all_nil))
  · exact law_lotG asked (sumsP_ok hT) dsOK bsOK argsOK ha ran2 (all_cons c0 (all_nil))
  · exact law_lotG asked (sumsP_ok hT) dsOK bsOK argsOK ha ran3 (all_cons c0 (all_nil))
  · exact law_lotG asked (sumsP_ok hT) dsOK bsOK argsOK ha ran4 (all_cons c0 (all_nil))
  · exact law_lotG asked (sumsP_ok hT) dsOK bsOK argsOK ha ran5 (all_cons c0 (all_nil))
  · exact law_lotG asked (sumsP_ok hT) dsOK bsOK argsOK ha ran6 (all_cons c0 (all_nil))
  · exact law_lotG asked (sumsP_ok hT) dsOK bsOK argsOK ha ran7 (all_cons c0 (all_nil))
end Go.Proofs.YtamlnmdmfcblnaaGreatDoor.ReplicaVotesB0
