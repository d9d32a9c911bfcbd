/- Written by a program of this claim's (a symbolic run): the cases of the law's arguments. No condition but the arguments' kinds. -/
import Derived.Test.YtnccccpjhoaikaaGreatDoorReplicaEntersR0X0
import Derived.Test.YtnccccpjhoaikaaGreatDoorReplicaEntersR0X1
import Derived.Test.YtnccccpjhoaikaaGreatDoorReplicaEntersR0X2
import Derived.Test.YtnccccpjhoaikaaGreatDoorReplicaEntersR0X3
import Derived.Test.YtnccccpjhoaikaaGreatDoorReplicaEntersR0X4
import Derived.Test.YtnccccpjhoaikaaGreatDoorReplicaEntersR0X5
import Derived.Test.YtnccccpjhoaikaaGreatDoorReplicaEntersR0X6
import Derived.Test.YtnccccpjhoaikaaGreatDoorReplicaEntersR0X7
import Derived.Test.YtnccccpjhoaikaaGreatDoorReplicaEntersR0X8
import Derived.Test.YtnccccpjhoaikaaGreatDoorReplicaEntersR0X9
import Derived.Test.YtnccccpjhoaikaaGreatDoorReplicaEntersR0X10
import Derived.Test.YtnccccpjhoaikaaGreatDoorReplicaEntersR0X11
import Derived.Test.YtnccccpjhoaikaaGreatDoorReplicaEntersR0X12
import Derived.Test.YtnccccpjhoaikaaGreatDoorReplicaEntersR0X13
import Derived.Test.YtnccccpjhoaikaaGreatDoorReplicaEntersR0X14
import Derived.Test.YtnccccpjhoaikaaGreatDoorReplicaEntersR0X15
import Derived.Test.YtnccccpjhoaikaaGreatDoorReplicaEntersR0X16
import Derived.Test.YtnccccpjhoaikaaGreatDoorReplicaEntersR0X17
import Derived.Test.YtnccccpjhoaikaaGreatDoorReplicaEntersR0X18
import Derived.Test.YtnccccpjhoaikaaGreatDoorReplicaEntersR0X19
import Derived.Test.YtnccccpjhoaikaaGreatDoorReplicaEntersR0X20
import Derived.Test.YtnccccpjhoaikaaGreatDoorReplicaEntersR0X21
import Derived.Test.YtnccccpjhoaikaaGreatDoorReplicaEntersR0X22
import Derived.Test.YtnccccpjhoaikaaGreatDoorReplicaEntersR0X23
import Derived.Test.YtnccccpjhoaikaaGreatDoorReplicaEntersR0X24
set_option linter.unusedVariables false
set_option maxRecDepth 100000
namespace Go.Proofs.YtnccccpjhoaikaaGreatDoor.ReplicaEntersB0
open Go.Abs Go.RowKit Go.Abs.Orc
theorem walk (view from_ voters had_ : Int) (hview : 0 ≤ view ∧ view < 256) (hfrom_ : 0 ≤ from_ ∧ from_ < 256) (hvoters : 0 ≤ voters ∧ voters < 256) (hhad_ : 0 ≤ had_ ∧ had_ < 256) (w : World) : Calls Tryz.prog 4 ⟨[.int .u8 view, .int .u8 from_, .int .u8 voters, .int .u8 had_]⟩ w fun e w' => e = .returned (.bool true) ∧ Below w.heap.size w w' := by
  have ha : argsL argD [view, from_, voters, had_] := by
    refine ⟨⟨by omega, by omega⟩, ⟨by omega, by omega⟩, ⟨by omega, by omega⟩, ⟨by omega, by omega⟩, trivial⟩
  have b0 := val_among dsOK ha (s := 8) (lo := 0) (hi := 1) (by kernel_rfl)
  rcases (show (valD argD defD [view, from_, voters, had_]).num 8 = 0 ∨ (valD argD defD [view, from_, voters, had_]).num 8 = 1 by omega) with c0 | c0
  · have b1 := val_among dsOK ha (s := 10) (lo := 0) (hi := 1) (by kernel_rfl)
    rcases (show (valD argD defD [view, from_, voters, had_]).num 10 = 0 ∨ (valD argD defD [view, from_, voters, had_]).num 10 = 1 by omega) with c1 | c1
    · have b2 := val_among dsOK ha (s := 12) (lo := 0) (hi := 1) (by kernel_rfl)
      rcases (show (valD argD defD [view, from_, voters, had_]).num 12 = 0 ∨ (valD argD defD [view, from_, voters, had_]).num 12 = 1 by omega) with c2 | c2
      · have b3 := val_among dsOK ha (s := 14) (lo := 0) (hi := 1) (by kernel_rfl)
        rcases (show (valD argD defD [view, from_, voters, had_]).num 14 = 0 ∨ (valD argD defD [view, from_, voters, had_]).num 14 = 1 by omega) with c3 | c3
        · have b4 := val_among dsOK ha (s := 15) (lo := 0) (hi := 3) (by kernel_rfl)
          rcases (show (valD argD defD [view, from_, voters, had_]).num 15 = 0 ∨ (valD argD defD [view, from_, voters, had_]).num 15 = 1 ∨ (valD argD defD [view, from_, voters, had_]).num 15 = 2 ∨ (valD argD defD [view, from_, voters, had_]).num 15 = 3 by omega) with c4 | c4 | c4 | c4
          · exact law_lot asked sums_ok dsOK bsOK argsOK ha ran0 (all_cons c0 (all_cons c1 (all_cons c2 (all_cons c3 (all_cons c4 (all_nil)))))) w
          · exact law_lot asked sums_ok dsOK bsOK argsOK ha ran1 (all_cons c0 (all_cons c1 (all_cons c2 (all_cons c3 (all_cons c4 (all_nil)))))) w
          · exact law_lot asked sums_ok dsOK bsOK argsOK ha ran2 (all_cons c0 (all_cons c1 (all_cons c2 (all_cons c3 (all_cons c4 (all_nil)))))) w
          · exact law_lot asked sums_ok dsOK bsOK argsOK ha ran3 (all_cons c0 (all_cons c1 (all_cons c2 (all_cons c3 (all_cons c4 (all_nil)))))) w
        · have b4 := val_among dsOK ha (s := 15) (lo := 0) (hi := 3) (by kernel_rfl)
          rcases (show (valD argD defD [view, from_, voters, had_]).num 15 = 0 ∨ (valD argD defD [view, from_, voters, had_]).num 15 = 1 ∨ (valD argD defD [view, from_, voters, had_]).num 15 = 2 ∨ (valD argD defD [view, from_, voters, had_]).num 15 = 3 by omega) with c4 | c4 | c4 | c4
          · exact law_lot asked sums_ok dsOK bsOK argsOK ha ran4 (all_cons c0 (all_cons c1 (all_cons c2 (all_cons c3 (all_cons c4 (all_nil)))))) w
          · exact law_lot asked sums_ok dsOK bsOK argsOK ha ran5 (all_cons c0 (all_cons c1 (all_cons c2 (all_cons c3 (all_cons c4 (all_nil)))))) w
          · exact law_lot asked sums_ok dsOK bsOK argsOK ha ran6 (all_cons c0 (all_cons c1 (all_cons c2 (all_cons c3 (all_cons c4 (all_nil)))))) w
          · exact law_lot asked sums_ok dsOK bsOK argsOK ha ran7 (all_cons c0 (all_cons c1 (all_cons c2 (all_cons c3 (all_cons c4 (all_nil)))))) w
      · have b3 := val_among dsOK ha (s := 14) (lo := 0) (hi := 1) (by kernel_rfl)
        rcases (show (valD argD defD [view, from_, voters, had_]).num 14 = 0 ∨ (valD argD defD [view, from_, voters, had_]).num 14 = 1 by omega) with c3 | c3
        · have b4 := val_among dsOK ha (s := 15) (lo := 0) (hi := 3) (by kernel_rfl)
          rcases (show (valD argD defD [view, from_, voters, had_]).num 15 = 0 ∨ (valD argD defD [view, from_, voters, had_]).num 15 = 1 ∨ (valD argD defD [view, from_, voters, had_]).num 15 = 2 ∨ (valD argD defD [view, from_, voters, had_]).num 15 = 3 by omega) with c4 | c4 | c4 | c4
          · exact law_lot asked sums_ok dsOK bsOK argsOK ha ran8 (all_cons c0 (all_cons c1 (all_cons c2 (all_cons c3 (all_cons c4 (all_nil)))))) w
          · exact law_lot asked sums_ok dsOK bsOK argsOK ha ran9 (all_cons c0 (all_cons c1 (all_cons c2 (all_cons c3 (all_cons c4 (all_nil)))))) w
          · exact law_lot asked sums_ok dsOK bsOK argsOK ha ran10 (all_cons c0 (all_cons c1 (all_cons c2 (all_cons c3 (all_cons c4 (all_nil)))))) w
          · exact law_lot asked sums_ok dsOK bsOK argsOK ha ran11 (all_cons c0 (all_cons c1 (all_cons c2 (all_cons c3 (all_cons c4 (all_nil)))))) w
        · have b4 := val_among dsOK ha (s := 15) (lo := 0) (hi := 3) (by kernel_rfl)
          rcases (show (valD argD defD [view, from_, voters, had_]).num 15 = 0 ∨ (valD argD defD [view, from_, voters, had_]).num 15 = 1 ∨ (valD argD defD [view, from_, voters, had_]).num 15 = 2 ∨ (valD argD defD [view, from_, voters, had_]).num 15 = 3 by omega) with c4 | c4 | c4 | c4
          · exact law_lot asked sums_ok dsOK bsOK argsOK ha ran12 (all_cons c0 (all_cons c1 (all_cons c2 (all_cons c3 (all_cons c4 (all_nil)))))) w
          · exact law_lot asked sums_ok dsOK bsOK argsOK ha ran13 (all_cons c0 (all_cons c1 (all_cons c2 (all_cons c3 (all_cons c4 (all_nil)))))) w
          · exact law_lot asked sums_ok dsOK bsOK argsOK ha ran14 (all_cons c0 (all_cons c1 (all_cons c2 (all_cons c3 (all_cons c4 (all_nil)))))) w
          · exact law_lot asked sums_ok dsOK bsOK argsOK ha ran15 (all_cons c0 (all_cons c1 (all_cons c2 (all_cons c3 (all_cons c4 (all_nil)))))) w
    · have b2 := val_among dsOK ha (s := 12) (lo := 0) (hi := 1) (by kernel_rfl)
      rcases (show (valD argD defD [view, from_, voters, had_]).num 12 = 0 ∨ (valD argD defD [view, from_, voters, had_]).num 12 = 1 by omega) with c2 | c2
      · have b3 := val_among dsOK ha (s := 14) (lo := 0) (hi := 1) (by kernel_rfl)
        rcases (show (valD argD defD [view, from_, voters, had_]).num 14 = 0 ∨ (valD argD defD [view, from_, voters, had_]).num 14 = 1 by omega) with c3 | c3
        · have b4 := val_among dsOK ha (s := 15) (lo := 0) (hi := 3) (by kernel_rfl)
          rcases (show (valD argD defD [view, from_, voters, had_]).num 15 = 0 ∨ (valD argD defD [view, from_, voters, had_]).num 15 = 1 ∨ (valD argD defD [view, from_, voters, had_]).num 15 = 2 ∨ (valD argD defD [view, from_, voters, had_]).num 15 = 3 by omega) with c4 | c4 | c4 | c4
          · exact law_lot asked sums_ok dsOK bsOK argsOK ha ran16 (all_cons c0 (all_cons c1 (all_cons c2 (all_cons c3 (all_cons c4 (all_nil)))))) w
          · exact law_lot asked sums_ok dsOK bsOK argsOK ha ran17 (all_cons c0 (all_cons c1 (all_cons c2 (all_cons c3 (all_cons c4 (all_nil)))))) w
          · exact law_lot asked sums_ok dsOK bsOK argsOK ha ran18 (all_cons c0 (all_cons c1 (all_cons c2 (all_cons c3 (all_cons c4 (all_nil)))))) w
          · exact law_lot asked sums_ok dsOK bsOK argsOK ha ran19 (all_cons c0 (all_cons c1 (all_cons c2 (all_cons c3 (all_cons c4 (all_nil)))))) w
        · have b4 := val_among dsOK ha (s := 15) (lo := 0) (hi := 3) (by kernel_rfl)
          rcases (show (valD argD defD [view, from_, voters, had_]).num 15 = 0 ∨ (valD argD defD [view, from_, voters, had_]).num 15 = 1 ∨ (valD argD defD [view, from_, voters, had_]).num 15 = 2 ∨ (valD argD defD [view, from_, voters, had_]).num 15 = 3 by omega) with c4 | c4 | c4 | c4
          · exact law_lot asked sums_ok dsOK bsOK argsOK ha ran20 (all_cons c0 (all_cons c1 (all_cons c2 (all_cons c3 (all_cons c4 (all_nil)))))) w
          · exact law_lot asked sums_ok dsOK bsOK argsOK ha ran21 (all_cons c0 (all_cons c1 (all_cons c2 (all_cons c3 (all_cons c4 (all_nil)))))) w
          · exact law_lot asked sums_ok dsOK bsOK argsOK ha ran22 (all_cons c0 (all_cons c1 (all_cons c2 (all_cons c3 (all_cons c4 (all_nil)))))) w
          · exact law_lot asked sums_ok dsOK bsOK argsOK ha ran23 (all_cons c0 (all_cons c1 (all_cons c2 (all_cons c3 (all_cons c4 (all_nil)))))) w
      · have b3 := val_among dsOK ha (s := 14) (lo := 0) (hi := 1) (by kernel_rfl)
        rcases (show (valD argD defD [view, from_, voters, had_]).num 14 = 0 ∨ (valD argD defD [view, from_, voters, had_]).num 14 = 1 by omega) with c3 | c3
        · have b4 := val_among dsOK ha (s := 15) (lo := 0) (hi := 3) (by kernel_rfl)
          rcases (show (valD argD defD [view, from_, voters, had_]).num 15 = 0 ∨ (valD argD defD [view, from_, voters, had_]).num 15 = 1 ∨ (valD argD defD [view, from_, voters, had_]).num 15 = 2 ∨ (valD argD defD [view, from_, voters, had_]).num 15 = 3 by omega) with c4 | c4 | c4 | c4
          · exact law_lot asked sums_ok dsOK bsOK argsOK ha ran24 (all_cons c0 (all_cons c1 (all_cons c2 (all_cons c3 (all_cons c4 (all_nil)))))) w
          · exact law_lot asked sums_ok dsOK bsOK argsOK ha ran25 (all_cons c0 (all_cons c1 (all_cons c2 (all_cons c3 (all_cons c4 (all_nil)))))) w
          · exact law_lot asked sums_ok dsOK bsOK argsOK ha ran26 (all_cons c0 (all_cons c1 (all_cons c2 (all_cons c3 (all_cons c4 (all_nil)))))) w
          · exact law_lot asked sums_ok dsOK bsOK argsOK ha ran27 (all_cons c0 (all_cons c1 (all_cons c2 (all_cons c3 (all_cons c4 (all_nil)))))) w
        · have b4 := val_among dsOK ha (s := 15) (lo := 0) (hi := 3) (by kernel_rfl)
          rcases (show (valD argD defD [view, from_, voters, had_]).num 15 = 0 ∨ (valD argD defD [view, from_, voters, had_]).num 15 = 1 ∨ (valD argD defD [view, from_, voters, had_]).num 15 = 2 ∨ (valD argD defD [view, from_, voters, had_]).num 15 = 3 by omega) with c4 | c4 | c4 | c4
          · exact law_lot asked sums_ok dsOK bsOK argsOK ha ran28 (all_cons c0 (all_cons c1 (all_cons c2 (all_cons c3 (all_cons c4 (all_nil)))))) w
          · exact law_lot asked sums_ok dsOK bsOK argsOK ha ran29 (all_cons c0 (all_cons c1 (all_cons c2 (all_cons c3 (all_cons c4 (all_nil)))))) w
          · exact law_lot asked sums_ok dsOK bsOK argsOK ha ran30 (all_cons c0 (all_cons c1 (all_cons c2 (all_cons c3 (all_cons c4 (all_nil)))))) w
          · exact law_lot asked sums_ok dsOK bsOK argsOK ha ran31 (all_cons c0 (all_cons c1 (all_cons c2 (all_cons c3 (all_cons c4 (all_nil)))))) w
  · have b1 := val_among dsOK ha (s := 10) (lo := 0) (hi := 1) (by kernel_rfl)
    rcases (show (valD argD defD [view, from_, voters, had_]).num 10 = 0 ∨ (valD argD defD [view, from_, voters, had_]).num 10 = 1 by omega) with c1 | c1
    · have b2 := val_among dsOK ha (s := 12) (lo := 0) (hi := 1) (by kernel_rfl)
      rcases (show (valD argD defD [view, from_, voters, had_]).num 12 = 0 ∨ (valD argD defD [view, from_, voters, had_]).num 12 = 1 by omega) with c2 | c2
      · have b3 := val_among dsOK ha (s := 14) (lo := 0) (hi := 1) (by kernel_rfl)
        rcases (show (valD argD defD [view, from_, voters, had_]).num 14 = 0 ∨ (valD argD defD [view, from_, voters, had_]).num 14 = 1 by omega) with c3 | c3
        · have b4 := val_among dsOK ha (s := 15) (lo := 0) (hi := 3) (by kernel_rfl)
          rcases (show (valD argD defD [view, from_, voters, had_]).num 15 = 0 ∨ (valD argD defD [view, from_, voters, had_]).num 15 = 1 ∨ (valD argD defD [view, from_, voters, had_]).num 15 = 2 ∨ (valD argD defD [view, from_, voters, had_]).num 15 = 3 by omega) with c4 | c4 | c4 | c4
          · exact law_lot asked sums_ok dsOK bsOK argsOK ha ran32 (all_cons c0 (all_cons c1 (all_cons c2 (all_cons c3 (all_cons c4 (all_nil)))))) w
          · exact law_lot asked sums_ok dsOK bsOK argsOK ha ran33 (all_cons c0 (all_cons c1 (all_cons c2 (all_cons c3 (all_cons c4 (all_nil)))))) w
          · exact law_lot asked sums_ok dsOK bsOK argsOK ha ran34 (all_cons c0 (all_cons c1 (all_cons c2 (all_cons c3 (all_cons c4 (all_nil)))))) w
          · exact law_lot asked sums_ok dsOK bsOK argsOK ha ran35 (all_cons c0 (all_cons c1 (all_cons c2 (all_cons c3 (all_cons c4 (all_nil)))))) w
        · have b4 := val_among dsOK ha (s := 15) (lo := 0) (hi := 3) (by kernel_rfl)
          rcases (show (valD argD defD [view, from_, voters, had_]).num 15 = 0 ∨ (valD argD defD [view, from_, voters, had_]).num 15 = 1 ∨ (valD argD defD [view, from_, voters, had_]).num 15 = 2 ∨ (valD argD defD [view, from_, voters, had_]).num 15 = 3 by omega) with c4 | c4 | c4 | c4
          · exact law_lot asked sums_ok dsOK bsOK argsOK ha ran36 (all_cons c0 (all_cons c1 (all_cons c2 (all_cons c3 (all_cons c4 (all_nil)))))) w
          · exact law_lot asked sums_ok dsOK bsOK argsOK ha ran37 (all_cons c0 (all_cons c1 (all_cons c2 (all_cons c3 (all_cons c4 (all_nil)))))) w
          · exact law_lot asked sums_ok dsOK bsOK argsOK ha ran38 (all_cons c0 (all_cons c1 (all_cons c2 (all_cons c3 (all_cons c4 (all_nil)))))) w
          · exact law_lot asked sums_ok dsOK bsOK argsOK ha ran39 (all_cons c0 (all_cons c1 (all_cons c2 (all_cons c3 (all_cons c4 (all_nil)))))) w
      · have b3 := val_among dsOK ha (s := 14) (lo := 0) (hi := 1) (by kernel_rfl)
        rcases (show (valD argD defD [view, from_, voters, had_]).num 14 = 0 ∨ (valD argD defD [view, from_, voters, had_]).num 14 = 1 by omega) with c3 | c3
        · have b4 := val_among dsOK ha (s := 15) (lo := 0) (hi := 3) (by kernel_rfl)
          rcases (show (valD argD defD [view, from_, voters, had_]).num 15 = 0 ∨ (valD argD defD [view, from_, voters, had_]).num 15 = 1 ∨ (valD argD defD [view, from_, voters, had_]).num 15 = 2 ∨ (valD argD defD [view, from_, voters, had_]).num 15 = 3 by omega) with c4 | c4 | c4 | c4
          · exact law_lot asked sums_ok dsOK bsOK argsOK ha ran40 (all_cons c0 (all_cons c1 (all_cons c2 (all_cons c3 (all_cons c4 (all_nil)))))) w
          · exact law_lot asked sums_ok dsOK bsOK argsOK ha ran41 (all_cons c0 (all_cons c1 (all_cons c2 (all_cons c3 (all_cons c4 (all_nil)))))) w
          · exact law_lot asked sums_ok dsOK bsOK argsOK ha ran42 (all_cons c0 (all_cons c1 (all_cons c2 (all_cons c3 (all_cons c4 (all_nil)))))) w
          · exact law_lot asked sums_ok dsOK bsOK argsOK ha ran43 (all_cons c0 (all_cons c1 (all_cons c2 (all_cons c3 (all_cons c4 (all_nil)))))) w
        · have b4 := val_among dsOK ha (s := 15) (lo := 0) (hi := 3) (by kernel_rfl)
          rcases (show (valD argD defD [view, from_, voters, had_]).num 15 = 0 ∨ (valD argD defD [view, from_, voters, had_]).num 15 = 1 ∨ (valD argD defD [view, from_, voters, had_]).num 15 = 2 ∨ (valD argD defD [view, from_, voters, had_]).num 15 = 3 by omega) with c4 | c4 | c4 | c4
          · exact law_lot asked sums_ok dsOK bsOK argsOK ha ran44 (all_cons c0 (all_cons c1 (all_cons c2 (all_cons c3 (all_cons c4 (all_nil)))))) w
          · exact law_lot asked sums_ok dsOK bsOK argsOK ha ran45 (all_cons c0 (all_cons c1 (all_cons c2 (all_cons c3 (all_cons c4 (all_nil)))))) w
          · exact law_lot asked sums_ok dsOK bsOK argsOK ha ran46 (all_cons c0 (all_cons c1 (all_cons c2 (all_cons c3 (all_cons c4 (all_nil)))))) w
          · exact law_lot asked sums_ok dsOK bsOK argsOK ha ran47 (all_cons c0 (all_cons c1 (all_cons c2 (all_cons c3 (all_cons c4 (all_nil)))))) w
    · have b2 := val_among dsOK ha (s := 12) (lo := 0) (hi := 1) (by kernel_rfl)
      rcases (show (valD argD defD [view, from_, voters, had_]).num 12 = 0 ∨ (valD argD defD [view, from_, voters, had_]).num 12 = 1 by omega) with c2 | c2
      · have b3 := val_among dsOK ha (s := 14) (lo := 0) (hi := 1) (by kernel_rfl)
        rcases (show (valD argD defD [view, from_, voters, had_]).num 14 = 0 ∨ (valD argD defD [view, from_, voters, had_]).num 14 = 1 by omega) with c3 | c3
        · have b4 := val_among dsOK ha (s := 15) (lo := 0) (hi := 3) (by kernel_rfl)
          rcases (show (valD argD defD [view, from_, voters, had_]).num 15 = 0 ∨ (valD argD defD [view, from_, voters, had_]).num 15 = 1 ∨ (valD argD defD [view, from_, voters, had_]).num 15 = 2 ∨ (valD argD defD [view, from_, voters, had_]).num 15 = 3 by omega) with c4 | c4 | c4 | c4
          · exact law_lot asked sums_ok dsOK bsOK argsOK ha ran48 (all_cons c0 (all_cons c1 (all_cons c2 (all_cons c3 (all_cons c4 (all_nil)))))) w
          · exact law_lot asked sums_ok dsOK bsOK argsOK ha ran49 (all_cons c0 (all_cons c1 (all_cons c2 (all_cons c3 (all_cons c4 (all_nil)))))) w
          · exact law_lot asked sums_ok dsOK bsOK argsOK ha ran50 (all_cons c0 (all_cons c1 (all_cons c2 (all_cons c3 (all_cons c4 (all_nil)))))) w
          · exact law_lot asked sums_ok dsOK bsOK argsOK ha ran51 (all_cons c0 (all_cons c1 (all_cons c2 (all_cons c3 (all_cons c4 (all_nil)))))) w
        · have b4 := val_among dsOK ha (s := 15) (lo := 0) (hi := 3) (by kernel_rfl)
          rcases (show (valD argD defD [view, from_, voters, had_]).num 15 = 0 ∨ (valD argD defD [view, from_, voters, had_]).num 15 = 1 ∨ (valD argD defD [view, from_, voters, had_]).num 15 = 2 ∨ (valD argD defD [view, from_, voters, had_]).num 15 = 3 by omega) with c4 | c4 | c4 | c4
          · exact law_lot asked sums_ok dsOK bsOK argsOK ha ran52 (all_cons c0 (all_cons c1 (all_cons c2 (all_cons c3 (all_cons c4 (all_nil)))))) w
          · exact law_lot asked sums_ok dsOK bsOK argsOK ha ran53 (all_cons c0 (all_cons c1 (all_cons c2 (all_cons c3 (all_cons c4 (all_nil)))))) w
          · exact law_lot asked sums_ok dsOK bsOK argsOK ha ran54 (all_cons c0 (all_cons c1 (all_cons c2 (all_cons c3 (all_cons c4 (all_nil)))))) w
          · exact law_lot asked sums_ok dsOK bsOK argsOK ha ran55 (all_cons c0 (all_cons c1 (all_cons c2 (all_cons c3 (all_cons c4 (all_nil)))))) w
      · have b3 := val_among dsOK ha (s := 14) (lo := 0) (hi := 1) (by kernel_rfl)
        rcases (show (valD argD defD [view, from_, voters, had_]).num 14 = 0 ∨ (valD argD defD [view, from_, voters, had_]).num 14 = 1 by omega) with c3 | c3
        · have b4 := val_among dsOK ha (s := 15) (lo := 0) (hi := 3) (by kernel_rfl)
          rcases (show (valD argD defD [view, from_, voters, had_]).num 15 = 0 ∨ (valD argD defD [view, from_, voters, had_]).num 15 = 1 ∨ (valD argD defD [view, from_, voters, had_]).num 15 = 2 ∨ (valD argD defD [view, from_, voters, had_]).num 15 = 3 by omega) with c4 | c4 | c4 | c4
          · exact law_lot asked sums_ok dsOK bsOK argsOK ha ran56 (all_cons c0 (all_cons c1 (all_cons c2 (all_cons c3 (all_cons c4 (all_nil)))))) w
          · exact law_lot asked sums_ok dsOK bsOK argsOK ha ran57 (all_cons c0 (all_cons c1 (all_cons c2 (all_cons c3 (all_cons c4 (all_nil)))))) w
          · exact law_lot asked sums_ok dsOK bsOK argsOK ha ran58 (all_cons c0 (all_cons c1 (all_cons c2 (all_cons c3 (all_cons c4 (all_nil)))))) w
          · exact law_lot asked sums_ok dsOK bsOK argsOK ha ran59 (all_cons c0 (all_cons c1 (all_cons c2 (all_cons c3 (all_cons c4 (all_nil)))))) w
        · have b4 := val_among dsOK ha (s := 15) (lo := 0) (hi := 3) (by kernel_rfl)
          rcases (show (valD argD defD [view, from_, voters, had_]).num 15 = 0 ∨ (valD argD defD [view, from_, voters, had_]).num 15 = 1 ∨ (valD argD defD [view, from_, voters, had_]).num 15 = 2 ∨ (valD argD defD [view, from_, voters, had_]).num 15 = 3 by omega) with c4 | c4 | c4 | c4
          · exact law_lot asked sums_ok dsOK bsOK argsOK ha ran60 (all_cons c0 (all_cons c1 (all_cons c2 (all_cons c3 (all_cons c4 (all_nil)))))) w
          · exact law_lot asked sums_ok dsOK bsOK argsOK ha ran61 (all_cons c0 (all_cons c1 (all_cons c2 (all_cons c3 (all_cons c4 (all_nil)))))) w
          · exact law_lot asked sums_ok dsOK bsOK argsOK ha ran62 (all_cons c0 (all_cons c1 (all_cons c2 (all_cons c3 (all_cons c4 (all_nil)))))) w
          · exact law_lot asked sums_ok dsOK bsOK argsOK ha ran63 (all_cons c0 (all_cons c1 (all_cons c2 (all_cons c3 (all_cons c4 (all_nil)))))) w
end Go.Proofs.YtnccccpjhoaikaaGreatDoor.ReplicaEntersB0
