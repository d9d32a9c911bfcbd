/- Written by a program of this claim's (a symbolic run): the cases of the law's arguments. No condition but the arguments' kinds. -/
import Derived.Test.YtamlnmdmfcblnaaGreatDoorReplicaLeadsR0X0
import Derived.Test.YtamlnmdmfcblnaaGreatDoorReplicaLeadsR0X1
import Derived.Test.YtamlnmdmfcblnaaGreatDoorReplicaLeadsR0X2
import Derived.Test.YtamlnmdmfcblnaaGreatDoorReplicaLeadsR0X3
import Derived.Test.YtamlnmdmfcblnaaGreatDoorReplicaLeadsR0X4
import Derived.Test.YtamlnmdmfcblnaaGreatDoorReplicaLeadsR0X5
import Derived.Test.YtamlnmdmfcblnaaGreatDoorReplicaLeadsR0X6
import Derived.Test.YtamlnmdmfcblnaaGreatDoorReplicaLeadsR0X7
import Derived.Test.YtamlnmdmfcblnaaGreatDoorReplicaLeadsR0X8
import Derived.Test.YtamlnmdmfcblnaaGreatDoorReplicaLeadsR0X9
import Derived.Test.YtamlnmdmfcblnaaGreatDoorReplicaLeadsR0X10
import Derived.Test.YtamlnmdmfcblnaaGreatDoorReplicaLeadsR0X11
import Derived.Test.YtamlnmdmfcblnaaGreatDoorReplicaLeadsR0X12
import Derived.Test.YtamlnmdmfcblnaaGreatDoorReplicaLeadsR0X13
import Derived.Test.YtamlnmdmfcblnaaGreatDoorReplicaLeadsR0X14
import Derived.Test.YtamlnmdmfcblnaaGreatDoorReplicaLeadsR0X15
import Derived.Test.YtamlnmdmfcblnaaGreatDoorReplicaLeadsR0X16
import Derived.Test.YtamlnmdmfcblnaaGreatDoorReplicaLeadsR0X17
set_option linter.unusedVariables false
set_option maxRecDepth 100000
namespace Go.Proofs.YtamlnmdmfcblnaaGreatDoor.ReplicaLeadsB0
open Go.Abs Go.RowKit Go.Abs.Orc
theorem walk (id_ clients : Int) (hid_ : 0 ≤ id_ ∧ id_ < 256) (hclients : 0 ≤ clients ∧ clients < 256) (w : World) : Calls Tryz.prog 6 ⟨[.int .u8 id_, .int .u8 clients]⟩ w fun e w' => e = .returned (.bool true) ∧ Below w.heap.size w w' := by
  have ha : argsL argD [id_, clients] := by
    refine ⟨⟨by omega, by omega⟩, ⟨by omega, by omega⟩, trivial⟩
  have b0 := val_among dsOK ha (s := 2) (lo := 0) (hi := 2) (by kernel_rfl)
  rcases (show (valD argD defD [id_, clients]).num 2 = 0 ∨ (valD argD defD [id_, clients]).num 2 = 1 ∨ (valD argD defD [id_, clients]).num 2 = 2 by omega) with c0 | c0 | c0
  · have b1 := val_among dsOK ha (s := 4) (lo := 0) (hi := 1) (by kernel_rfl)
    rcases (show (valD argD defD [id_, clients]).num 4 = 0 ∨ (valD argD defD [id_, clients]).num 4 = 1 by omega) with c1 | c1
    · have b2 := val_among dsOK ha (s := 6) (lo := 0) (hi := 1) (by kernel_rfl)
      rcases (show (valD argD defD [id_, clients]).num 6 = 0 ∨ (valD argD defD [id_, clients]).num 6 = 1 by omega) with c2 | c2
      · exact law_lot asked sums_ok dsOK bsOK argsOK ha ran0 (all_cons c0 (all_cons c1 (all_cons c2 (all_nil)))) w
      · have b3 := val_among dsOK ha (s := 8) (lo := 0) (hi := 1) (by kernel_rfl)
        rcases (show (valD argD defD [id_, clients]).num 8 = 0 ∨ (valD argD defD [id_, clients]).num 8 = 1 by omega) with c3 | c3
        · exact law_lot asked sums_ok dsOK bsOK argsOK ha ran1 (all_cons c0 (all_cons c1 (all_cons c2 (all_cons c3 (all_nil))))) w
        · have b4 := val_among dsOK ha (s := 10) (lo := 0) (hi := 1) (by kernel_rfl)
          rcases (show (valD argD defD [id_, clients]).num 10 = 0 ∨ (valD argD defD [id_, clients]).num 10 = 1 by omega) with c4 | c4
          · exact law_lot asked sums_ok dsOK bsOK argsOK ha ran2 (all_cons c0 (all_cons c1 (all_cons c2 (all_cons c3 (all_cons c4 (all_nil)))))) w
          · exact law_lot asked sums_ok dsOK bsOK argsOK ha ran3 (all_cons c0 (all_cons c1 (all_cons c2 (all_cons c3 (all_cons c4 (all_nil)))))) w
    · have b2 := val_among dsOK ha (s := 6) (lo := 0) (hi := 1) (by kernel_rfl)
      rcases (show (valD argD defD [id_, clients]).num 6 = 0 ∨ (valD argD defD [id_, clients]).num 6 = 1 by omega) with c2 | c2
      · have b3 := val_among dsOK ha (s := 8) (lo := 0) (hi := 1) (by kernel_rfl)
        rcases (show (valD argD defD [id_, clients]).num 8 = 0 ∨ (valD argD defD [id_, clients]).num 8 = 1 by omega) with c3 | c3
        · exact law_lot asked sums_ok dsOK bsOK argsOK ha ran4 (all_cons c0 (all_cons c1 (all_cons c2 (all_cons c3 (all_nil))))) w
        · have b4 := val_among dsOK ha (s := 10) (lo := 0) (hi := 1) (by kernel_rfl)
          rcases (show (valD argD defD [id_, clients]).num 10 = 0 ∨ (valD argD defD [id_, clients]).num 10 = 1 by omega) with c4 | c4
          · exact law_lot asked sums_ok dsOK bsOK argsOK ha ran5 (all_cons c0 (all_cons c1 (all_cons c2 (all_cons c3 (all_cons c4 (all_nil)))))) w
          · exact law_lot asked sums_ok dsOK bsOK argsOK ha ran6 (all_cons c0 (all_cons c1 (all_cons c2 (all_cons c3 (all_cons c4 (all_nil)))))) w
      · have b3 := val_among dsOK ha (s := 8) (lo := 0) (hi := 1) (by kernel_rfl)
        rcases (show (valD argD defD [id_, clients]).num 8 = 0 ∨ (valD argD defD [id_, clients]).num 8 = 1 by omega) with c3 | c3
        · have b4 := val_among dsOK ha (s := 10) (lo := 0) (hi := 1) (by kernel_rfl)
          rcases (show (valD argD defD [id_, clients]).num 10 = 0 ∨ (valD argD defD [id_, clients]).num 10 = 1 by omega) with c4 | c4
          · exact law_lot asked sums_ok dsOK bsOK argsOK ha ran7 (all_cons c0 (all_cons c1 (all_cons c2 (all_cons c3 (all_cons c4 (all_nil)))))) w
          · exact law_lot asked sums_ok dsOK bsOK argsOK ha ran8 (all_cons c0 (all_cons c1 (all_cons c2 (all_cons c3 (all_cons c4 (all_nil)))))) w
        · have b4 := val_among dsOK ha (s := 10) (lo := 0) (hi := 1) (by kernel_rfl)
          rcases (show (valD argD defD [id_, clients]).num 10 = 0 ∨ (valD argD defD [id_, clients]).num 10 = 1 by omega) with c4 | c4
          · exact law_lot asked sums_ok dsOK bsOK argsOK ha ran9 (all_cons c0 (all_cons c1 (all_cons c2 (all_cons c3 (all_cons c4 (all_nil)))))) w
          · exact law_lot asked sums_ok dsOK bsOK argsOK ha ran10 (all_cons c0 (all_cons c1 (all_cons c2 (all_cons c3 (all_cons c4 (all_nil)))))) w
  · have b1 := val_among dsOK ha (s := 4) (lo := 0) (hi := 1) (by kernel_rfl)
    rcases (show (valD argD defD [id_, clients]).num 4 = 0 ∨ (valD argD defD [id_, clients]).num 4 = 1 by omega) with c1 | c1
    · have b2 := val_among dsOK ha (s := 6) (lo := 0) (hi := 1) (by kernel_rfl)
      rcases (show (valD argD defD [id_, clients]).num 6 = 0 ∨ (valD argD defD [id_, clients]).num 6 = 1 by omega) with c2 | c2
      · exact law_lot asked sums_ok dsOK bsOK argsOK ha ran11 (all_cons c0 (all_cons c1 (all_cons c2 (all_nil)))) w
      · have b3 := val_among dsOK ha (s := 8) (lo := 0) (hi := 1) (by kernel_rfl)
        rcases (show (valD argD defD [id_, clients]).num 8 = 0 ∨ (valD argD defD [id_, clients]).num 8 = 1 by omega) with c3 | c3
        · exact law_lot asked sums_ok dsOK bsOK argsOK ha ran12 (all_cons c0 (all_cons c1 (all_cons c2 (all_cons c3 (all_nil))))) w
        · have b4 := val_among dsOK ha (s := 10) (lo := 0) (hi := 1) (by kernel_rfl)
          rcases (show (valD argD defD [id_, clients]).num 10 = 0 ∨ (valD argD defD [id_, clients]).num 10 = 1 by omega) with c4 | c4
          · exact law_lot asked sums_ok dsOK bsOK argsOK ha ran13 (all_cons c0 (all_cons c1 (all_cons c2 (all_cons c3 (all_cons c4 (all_nil)))))) w
          · exact law_lot asked sums_ok dsOK bsOK argsOK ha ran14 (all_cons c0 (all_cons c1 (all_cons c2 (all_cons c3 (all_cons c4 (all_nil)))))) w
    · have b2 := val_among dsOK ha (s := 6) (lo := 0) (hi := 1) (by kernel_rfl)
      rcases (show (valD argD defD [id_, clients]).num 6 = 0 ∨ (valD argD defD [id_, clients]).num 6 = 1 by omega) with c2 | c2
      · have b3 := val_among dsOK ha (s := 8) (lo := 0) (hi := 1) (by kernel_rfl)
        rcases (show (valD argD defD [id_, clients]).num 8 = 0 ∨ (valD argD defD [id_, clients]).num 8 = 1 by omega) with c3 | c3
        · exact law_lot asked sums_ok dsOK bsOK argsOK ha ran15 (all_cons c0 (all_cons c1 (all_cons c2 (all_cons c3 (all_nil))))) w
        · have b4 := val_among dsOK ha (s := 10) (lo := 0) (hi := 1) (by kernel_rfl)
          rcases (show (valD argD defD [id_, clients]).num 10 = 0 ∨ (valD argD defD [id_, clients]).num 10 = 1 by omega) with c4 | c4
          · exact law_lot asked sums_ok dsOK bsOK argsOK ha ran16 (all_cons c0 (all_cons c1 (all_cons c2 (all_cons c3 (all_cons c4 (all_nil)))))) w
          · exact law_lot asked sums_ok dsOK bsOK argsOK ha ran17 (all_cons c0 (all_cons c1 (all_cons c2 (all_cons c3 (all_cons c4 (all_nil)))))) w
      · have b3 := val_among dsOK ha (s := 8) (lo := 0) (hi := 1) (by kernel_rfl)
        rcases (show (valD argD defD [id_, clients]).num 8 = 0 ∨ (valD argD defD [id_, clients]).num 8 = 1 by omega) with c3 | c3
        · have b4 := val_among dsOK ha (s := 10) (lo := 0) (hi := 1) (by kernel_rfl)
          rcases (show (valD argD defD [id_, clients]).num 10 = 0 ∨ (valD argD defD [id_, clients]).num 10 = 1 by omega) with c4 | c4
          · exact law_lot asked sums_ok dsOK bsOK argsOK ha ran18 (all_cons c0 (all_cons c1 (all_cons c2 (all_cons c3 (all_cons c4 (all_nil)))))) w
          · exact law_lot asked sums_ok dsOK bsOK argsOK ha ran19 (all_cons c0 (all_cons c1 (all_cons c2 (all_cons c3 (all_cons c4 (all_nil)))))) w
        · have b4 := val_among dsOK ha (s := 10) (lo := 0) (hi := 1) (by kernel_rfl)
          rcases (show (valD argD defD [id_, clients]).num 10 = 0 ∨ (valD argD defD [id_, clients]).num 10 = 1 by omega) with c4 | c4
          · exact law_lot asked sums_ok dsOK bsOK argsOK ha ran20 (all_cons c0 (all_cons c1 (all_cons c2 (all_cons c3 (all_cons c4 (all_nil)))))) w
          · exact law_lot asked sums_ok dsOK bsOK argsOK ha ran21 (all_cons c0 (all_cons c1 (all_cons c2 (all_cons c3 (all_cons c4 (all_nil)))))) w
  · have b1 := val_among dsOK ha (s := 4) (lo := 0) (hi := 1) (by kernel_rfl)
    rcases (show (valD argD defD [id_, clients]).num 4 = 0 ∨ (valD argD defD [id_, clients]).num 4 = 1 by omega) with c1 | c1
    · have b2 := val_among dsOK ha (s := 6) (lo := 0) (hi := 1) (by kernel_rfl)
      rcases (show (valD argD defD [id_, clients]).num 6 = 0 ∨ (valD argD defD [id_, clients]).num 6 = 1 by omega) with c2 | c2
      · exact law_lot asked sums_ok dsOK bsOK argsOK ha ran22 (all_cons c0 (all_cons c1 (all_cons c2 (all_nil)))) w
      · have b3 := val_among dsOK ha (s := 8) (lo := 0) (hi := 1) (by kernel_rfl)
        rcases (show (valD argD defD [id_, clients]).num 8 = 0 ∨ (valD argD defD [id_, clients]).num 8 = 1 by omega) with c3 | c3
        · exact law_lot asked sums_ok dsOK bsOK argsOK ha ran23 (all_cons c0 (all_cons c1 (all_cons c2 (all_cons c3 (all_nil))))) w
        · have b4 := val_among dsOK ha (s := 10) (lo := 0) (hi := 1) (by kernel_rfl)
          rcases (show (valD argD defD [id_, clients]).num 10 = 0 ∨ (valD argD defD [id_, clients]).num 10 = 1 by omega) with c4 | c4
          · exact law_lot asked sums_ok dsOK bsOK argsOK ha ran24 (all_cons c0 (all_cons c1 (all_cons c2 (all_cons c3 (all_cons c4 (all_nil)))))) w
          · exact law_lot asked sums_ok dsOK bsOK argsOK ha ran25 (all_cons c0 (all_cons c1 (all_cons c2 (all_cons c3 (all_cons c4 (all_nil)))))) w
    · have b2 := val_among dsOK ha (s := 6) (lo := 0) (hi := 1) (by kernel_rfl)
      rcases (show (valD argD defD [id_, clients]).num 6 = 0 ∨ (valD argD defD [id_, clients]).num 6 = 1 by omega) with c2 | c2
      · have b3 := val_among dsOK ha (s := 8) (lo := 0) (hi := 1) (by kernel_rfl)
        rcases (show (valD argD defD [id_, clients]).num 8 = 0 ∨ (valD argD defD [id_, clients]).num 8 = 1 by omega) with c3 | c3
        · exact law_lot asked sums_ok dsOK bsOK argsOK ha ran26 (all_cons c0 (all_cons c1 (all_cons c2 (all_cons c3 (all_nil))))) w
        · have b4 := val_among dsOK ha (s := 10) (lo := 0) (hi := 1) (by kernel_rfl)
          rcases (show (valD argD defD [id_, clients]).num 10 = 0 ∨ (valD argD defD [id_, clients]).num 10 = 1 by omega) with c4 | c4
          · exact law_lot asked sums_ok dsOK bsOK argsOK ha ran27 (all_cons c0 (all_cons c1 (all_cons c2 (all_cons c3 (all_cons c4 (all_nil)))))) w
          · exact law_lot asked sums_ok dsOK bsOK argsOK ha ran28 (all_cons c0 (all_cons c1 (all_cons c2 (all_cons c3 (all_cons c4 (all_nil)))))) w
      · have b3 := val_among dsOK ha (s := 8) (lo := 0) (hi := 1) (by kernel_rfl)
        rcases (show (valD argD defD [id_, clients]).num 8 = 0 ∨ (valD argD defD [id_, clients]).num 8 = 1 by omega) with c3 | c3
        · have b4 := val_among dsOK ha (s := 10) (lo := 0) (hi := 1) (by kernel_rfl)
          rcases (show (valD argD defD [id_, clients]).num 10 = 0 ∨ (valD argD defD [id_, clients]).num 10 = 1 by omega) with c4 | c4
          · exact law_lot asked sums_ok dsOK bsOK argsOK ha ran29 (all_cons c0 (all_cons c1 (all_cons c2 (all_cons c3 (all_cons c4 (all_nil)))))) w
          · exact law_lot asked sums_ok dsOK bsOK argsOK ha ran30 (all_cons c0 (all_cons c1 (all_cons c2 (all_cons c3 (all_cons c4 (all_nil)))))) w
        · have b4 := val_among dsOK ha (s := 10) (lo := 0) (hi := 1) (by kernel_rfl)
          rcases (show (valD argD defD [id_, clients]).num 10 = 0 ∨ (valD argD defD [id_, clients]).num 10 = 1 by omega) with c4 | c4
          · exact law_lot asked sums_ok dsOK bsOK argsOK ha ran31 (all_cons c0 (all_cons c1 (all_cons c2 (all_cons c3 (all_cons c4 (all_nil)))))) w
          · exact law_lot asked sums_ok dsOK bsOK argsOK ha ran32 (all_cons c0 (all_cons c1 (all_cons c2 (all_cons c3 (all_cons c4 (all_nil)))))) w
end Go.Proofs.YtamlnmdmfcblnaaGreatDoor.ReplicaLeadsB0
