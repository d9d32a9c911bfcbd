/- Written by a program of this claim's (a symbolic run): the cases of the law's arguments. No condition but the arguments' kinds. -/
import Derived.Test.YtamlnmdmfcblnaaGreatDoorReplicaTellsR0X0
import Derived.Test.YtamlnmdmfcblnaaGreatDoorReplicaTellsR0X1
import Derived.Test.YtamlnmdmfcblnaaGreatDoorReplicaTellsR0X2
import Derived.Test.YtamlnmdmfcblnaaGreatDoorReplicaTellsR0X3
import Derived.Test.YtamlnmdmfcblnaaGreatDoorReplicaTellsR0X4
import Derived.Test.YtamlnmdmfcblnaaGreatDoorReplicaTellsR0X5
import Derived.Test.YtamlnmdmfcblnaaGreatDoorReplicaTellsR0X6
import Derived.Test.YtamlnmdmfcblnaaGreatDoorReplicaTellsR0X7
import Derived.Test.YtamlnmdmfcblnaaGreatDoorReplicaTellsR0X8
import Derived.Test.YtamlnmdmfcblnaaGreatDoorReplicaTellsR0X9
import Derived.Test.YtamlnmdmfcblnaaGreatDoorReplicaTellsR0X10
import Derived.Test.YtamlnmdmfcblnaaGreatDoorReplicaTellsR0X11
import Derived.Test.YtamlnmdmfcblnaaGreatDoorReplicaTellsR0X12
import Derived.Test.YtamlnmdmfcblnaaGreatDoorReplicaTellsR0X13
import Derived.Test.YtamlnmdmfcblnaaGreatDoorReplicaTellsR0X14
import Derived.Test.YtamlnmdmfcblnaaGreatDoorReplicaTellsR0X15
import Derived.Test.YtamlnmdmfcblnaaGreatDoorReplicaTellsR0X16
import Derived.Test.YtamlnmdmfcblnaaGreatDoorReplicaTellsR0X17
import Derived.Test.YtamlnmdmfcblnaaGreatDoorReplicaTellsR0X18
import Derived.Test.YtamlnmdmfcblnaaGreatDoorReplicaTellsR0X19
import Derived.Test.YtamlnmdmfcblnaaGreatDoorReplicaTellsR0X20
import Derived.Test.YtamlnmdmfcblnaaGreatDoorReplicaTellsR0X21
import Derived.Test.YtamlnmdmfcblnaaGreatDoorReplicaTellsR0X22
import Derived.Test.YtamlnmdmfcblnaaGreatDoorReplicaTellsR0X23
import Derived.Test.YtamlnmdmfcblnaaGreatDoorReplicaTellsR0X24
import Derived.Test.YtamlnmdmfcblnaaGreatDoorReplicaTellsR0X25
import Derived.Test.YtamlnmdmfcblnaaGreatDoorReplicaTellsR0X26
set_option linter.unusedVariables false
set_option maxRecDepth 100000
namespace Go.Proofs.YtamlnmdmfcblnaaGreatDoor.ReplicaTellsB0
open Go.Abs Go.RowKit Go.Abs.Orc
theorem walk (done_ from_ pp seq : Int) (hdone_ : 0 ≤ done_ ∧ done_ < 256) (hfrom_ : 0 ≤ from_ ∧ from_ < 256) (hpp : 0 ≤ pp ∧ pp < 256) (hseq : 0 ≤ seq ∧ seq < 256) (w : World) : Calls Tryz.prog 3 ⟨[.int .u8 done_, .int .u8 from_, .int .u8 pp, .int .u8 seq]⟩ w fun e w' => e = .returned (.bool true) ∧ Below w.heap.size w w' := by
  have ha : argsL argD [done_, from_, pp, seq] := by
    refine ⟨⟨by omega, by omega⟩, ⟨by omega, by omega⟩, ⟨by omega, by omega⟩, ⟨by omega, by omega⟩, trivial⟩
  have b0 := val_among dsOK ha (s := 4) (lo := 0) (hi := 8) (by kernel_rfl)
  rcases (show (valD argD defD [done_, from_, pp, seq]).num 4 = 0 ∨ (valD argD defD [done_, from_, pp, seq]).num 4 = 1 ∨ (valD argD defD [done_, from_, pp, seq]).num 4 = 2 ∨ (valD argD defD [done_, from_, pp, seq]).num 4 = 3 ∨ (valD argD defD [done_, from_, pp, seq]).num 4 = 4 ∨ (valD argD defD [done_, from_, pp, seq]).num 4 = 5 ∨ (valD argD defD [done_, from_, pp, seq]).num 4 = 6 ∨ (valD argD defD [done_, from_, pp, seq]).num 4 = 7 ∨ (valD argD defD [done_, from_, pp, seq]).num 4 = 8 by omega) with c0 | c0 | c0 | c0 | c0 | c0 | c0 | c0 | c0
  · have b1 := val_among dsOK ha (s := 5) (lo := 0) (hi := 2) (by kernel_rfl)
    rcases (show (valD argD defD [done_, from_, pp, seq]).num 5 = 0 ∨ (valD argD defD [done_, from_, pp, seq]).num 5 = 1 ∨ (valD argD defD [done_, from_, pp, seq]).num 5 = 2 by omega) with c1 | c1 | c1
    · exact law_lot asked sums_ok dsOK bsOK argsOK ha ran0 (all_cons c0 (all_cons c1 (all_nil))) w
    · exact law_lot asked sums_ok dsOK bsOK argsOK ha ran1 (all_cons c0 (all_cons c1 (all_nil))) w
    · exact law_lot asked sums_ok dsOK bsOK argsOK ha ran2 (all_cons c0 (all_cons c1 (all_nil))) w
  · have b1 := val_among dsOK ha (s := 5) (lo := 0) (hi := 2) (by kernel_rfl)
    rcases (show (valD argD defD [done_, from_, pp, seq]).num 5 = 0 ∨ (valD argD defD [done_, from_, pp, seq]).num 5 = 1 ∨ (valD argD defD [done_, from_, pp, seq]).num 5 = 2 by omega) with c1 | c1 | c1
    · exact law_lot asked sums_ok dsOK bsOK argsOK ha ran3 (all_cons c0 (all_cons c1 (all_nil))) w
    · exact law_lot asked sums_ok dsOK bsOK argsOK ha ran4 (all_cons c0 (all_cons c1 (all_nil))) w
    · exact law_lot asked sums_ok dsOK bsOK argsOK ha ran5 (all_cons c0 (all_cons c1 (all_nil))) w
  · have b1 := val_among dsOK ha (s := 5) (lo := 0) (hi := 2) (by kernel_rfl)
    rcases (show (valD argD defD [done_, from_, pp, seq]).num 5 = 0 ∨ (valD argD defD [done_, from_, pp, seq]).num 5 = 1 ∨ (valD argD defD [done_, from_, pp, seq]).num 5 = 2 by omega) with c1 | c1 | c1
    · exact law_lot asked sums_ok dsOK bsOK argsOK ha ran6 (all_cons c0 (all_cons c1 (all_nil))) w
    · exact law_lot asked sums_ok dsOK bsOK argsOK ha ran7 (all_cons c0 (all_cons c1 (all_nil))) w
    · exact law_lot asked sums_ok dsOK bsOK argsOK ha ran8 (all_cons c0 (all_cons c1 (all_nil))) w
  · have b1 := val_among dsOK ha (s := 5) (lo := 0) (hi := 2) (by kernel_rfl)
    rcases (show (valD argD defD [done_, from_, pp, seq]).num 5 = 0 ∨ (valD argD defD [done_, from_, pp, seq]).num 5 = 1 ∨ (valD argD defD [done_, from_, pp, seq]).num 5 = 2 by omega) with c1 | c1 | c1
    · exact law_lot asked sums_ok dsOK bsOK argsOK ha ran9 (all_cons c0 (all_cons c1 (all_nil))) w
    · exact law_lot asked sums_ok dsOK bsOK argsOK ha ran10 (all_cons c0 (all_cons c1 (all_nil))) w
    · exact law_lot asked sums_ok dsOK bsOK argsOK ha ran11 (all_cons c0 (all_cons c1 (all_nil))) w
  · have b1 := val_among dsOK ha (s := 5) (lo := 0) (hi := 2) (by kernel_rfl)
    rcases (show (valD argD defD [done_, from_, pp, seq]).num 5 = 0 ∨ (valD argD defD [done_, from_, pp, seq]).num 5 = 1 ∨ (valD argD defD [done_, from_, pp, seq]).num 5 = 2 by omega) with c1 | c1 | c1
    · exact law_lot asked sums_ok dsOK bsOK argsOK ha ran12 (all_cons c0 (all_cons c1 (all_nil))) w
    · exact law_lot asked sums_ok dsOK bsOK argsOK ha ran13 (all_cons c0 (all_cons c1 (all_nil))) w
    · exact law_lot asked sums_ok dsOK bsOK argsOK ha ran14 (all_cons c0 (all_cons c1 (all_nil))) w
  · have b1 := val_among dsOK ha (s := 5) (lo := 0) (hi := 2) (by kernel_rfl)
    rcases (show (valD argD defD [done_, from_, pp, seq]).num 5 = 0 ∨ (valD argD defD [done_, from_, pp, seq]).num 5 = 1 ∨ (valD argD defD [done_, from_, pp, seq]).num 5 = 2 by omega) with c1 | c1 | c1
    · exact law_lot asked sums_ok dsOK bsOK argsOK ha ran15 (all_cons c0 (all_cons c1 (all_nil))) w
    · exact law_lot asked sums_ok dsOK bsOK argsOK ha ran16 (all_cons c0 (all_cons c1 (all_nil))) w
    · exact law_lot asked sums_ok dsOK bsOK argsOK ha ran17 (all_cons c0 (all_cons c1 (all_nil))) w
  · have b1 := val_among dsOK ha (s := 5) (lo := 0) (hi := 2) (by kernel_rfl)
    rcases (show (valD argD defD [done_, from_, pp, seq]).num 5 = 0 ∨ (valD argD defD [done_, from_, pp, seq]).num 5 = 1 ∨ (valD argD defD [done_, from_, pp, seq]).num 5 = 2 by omega) with c1 | c1 | c1
    · exact law_lot asked sums_ok dsOK bsOK argsOK ha ran18 (all_cons c0 (all_cons c1 (all_nil))) w
    · exact law_lot asked sums_ok dsOK bsOK argsOK ha ran19 (all_cons c0 (all_cons c1 (all_nil))) w
    · exact law_lot asked sums_ok dsOK bsOK argsOK ha ran20 (all_cons c0 (all_cons c1 (all_nil))) w
  · have b1 := val_among dsOK ha (s := 5) (lo := 0) (hi := 2) (by kernel_rfl)
    rcases (show (valD argD defD [done_, from_, pp, seq]).num 5 = 0 ∨ (valD argD defD [done_, from_, pp, seq]).num 5 = 1 ∨ (valD argD defD [done_, from_, pp, seq]).num 5 = 2 by omega) with c1 | c1 | c1
    · exact law_lot asked sums_ok dsOK bsOK argsOK ha ran21 (all_cons c0 (all_cons c1 (all_nil))) w
    · exact law_lot asked sums_ok dsOK bsOK argsOK ha ran22 (all_cons c0 (all_cons c1 (all_nil))) w
    · exact law_lot asked sums_ok dsOK bsOK argsOK ha ran23 (all_cons c0 (all_cons c1 (all_nil))) w
  · have b1 := val_among dsOK ha (s := 5) (lo := 0) (hi := 2) (by kernel_rfl)
    rcases (show (valD argD defD [done_, from_, pp, seq]).num 5 = 0 ∨ (valD argD defD [done_, from_, pp, seq]).num 5 = 1 ∨ (valD argD defD [done_, from_, pp, seq]).num 5 = 2 by omega) with c1 | c1 | c1
    · have b2 := val_among dsOK ha (s := 6) (lo := 0) (hi := 13) (by kernel_rfl)
      rcases (show (valD argD defD [done_, from_, pp, seq]).num 6 = 0 ∨ (valD argD defD [done_, from_, pp, seq]).num 6 = 1 ∨ (valD argD defD [done_, from_, pp, seq]).num 6 = 2 ∨ (valD argD defD [done_, from_, pp, seq]).num 6 = 3 ∨ (valD argD defD [done_, from_, pp, seq]).num 6 = 4 ∨ (valD argD defD [done_, from_, pp, seq]).num 6 = 5 ∨ (valD argD defD [done_, from_, pp, seq]).num 6 = 6 ∨ (valD argD defD [done_, from_, pp, seq]).num 6 = 7 ∨ (valD argD defD [done_, from_, pp, seq]).num 6 = 8 ∨ (valD argD defD [done_, from_, pp, seq]).num 6 = 9 ∨ (valD argD defD [done_, from_, pp, seq]).num 6 = 10 ∨ (valD argD defD [done_, from_, pp, seq]).num 6 = 11 ∨ (valD argD defD [done_, from_, pp, seq]).num 6 = 12 ∨ (valD argD defD [done_, from_, pp, seq]).num 6 = 13 by omega) with c2 | c2 | c2 | c2 | c2 | c2 | c2 | c2 | c2 | c2 | c2 | c2 | c2 | c2
      · exact law_lot asked sums_ok dsOK bsOK argsOK ha ran24 (all_cons c0 (all_cons c1 (all_cons c2 (all_nil)))) w
      · exact law_lot asked sums_ok dsOK bsOK argsOK ha ran25 (all_cons c0 (all_cons c1 (all_cons c2 (all_nil)))) w
      · exact law_lot asked sums_ok dsOK bsOK argsOK ha ran26 (all_cons c0 (all_cons c1 (all_cons c2 (all_nil)))) w
      · exact law_lot asked sums_ok dsOK bsOK argsOK ha ran27 (all_cons c0 (all_cons c1 (all_cons c2 (all_nil)))) w
      · exact law_lot asked sums_ok dsOK bsOK argsOK ha ran28 (all_cons c0 (all_cons c1 (all_cons c2 (all_nil)))) w
      · exact law_lot asked sums_ok dsOK bsOK argsOK ha ran29 (all_cons c0 (all_cons c1 (all_cons c2 (all_nil)))) w
      · exact law_lot asked sums_ok dsOK bsOK argsOK ha ran30 (all_cons c0 (all_cons c1 (all_cons c2 (all_nil)))) w
      · exact law_lot asked sums_ok dsOK bsOK argsOK ha ran31 (all_cons c0 (all_cons c1 (all_cons c2 (all_nil)))) w
      · exact law_lot asked sums_ok dsOK bsOK argsOK ha ran32 (all_cons c0 (all_cons c1 (all_cons c2 (all_nil)))) w
      · exact law_lot asked sums_ok dsOK bsOK argsOK ha ran33 (all_cons c0 (all_cons c1 (all_cons c2 (all_nil)))) w
      · exact law_lot asked sums_ok dsOK bsOK argsOK ha ran34 (all_cons c0 (all_cons c1 (all_cons c2 (all_nil)))) w
      · exact law_lot asked sums_ok dsOK bsOK argsOK ha ran35 (all_cons c0 (all_cons c1 (all_cons c2 (all_nil)))) w
      · exact law_lot asked sums_ok dsOK bsOK argsOK ha ran36 (all_cons c0 (all_cons c1 (all_cons c2 (all_nil)))) w
      · exact law_lot asked sums_ok dsOK bsOK argsOK ha ran37 (all_cons c0 (all_cons c1 (all_cons c2 (all_nil)))) w
    · have b2 := val_among dsOK ha (s := 6) (lo := 0) (hi := 13) (by kernel_rfl)
      rcases (show (valD argD defD [done_, from_, pp, seq]).num 6 = 0 ∨ (valD argD defD [done_, from_, pp, seq]).num 6 = 1 ∨ (valD argD defD [done_, from_, pp, seq]).num 6 = 2 ∨ (valD argD defD [done_, from_, pp, seq]).num 6 = 3 ∨ (valD argD defD [done_, from_, pp, seq]).num 6 = 4 ∨ (valD argD defD [done_, from_, pp, seq]).num 6 = 5 ∨ (valD argD defD [done_, from_, pp, seq]).num 6 = 6 ∨ (valD argD defD [done_, from_, pp, seq]).num 6 = 7 ∨ (valD argD defD [done_, from_, pp, seq]).num 6 = 8 ∨ (valD argD defD [done_, from_, pp, seq]).num 6 = 9 ∨ (valD argD defD [done_, from_, pp, seq]).num 6 = 10 ∨ (valD argD defD [done_, from_, pp, seq]).num 6 = 11 ∨ (valD argD defD [done_, from_, pp, seq]).num 6 = 12 ∨ (valD argD defD [done_, from_, pp, seq]).num 6 = 13 by omega) with c2 | c2 | c2 | c2 | c2 | c2 | c2 | c2 | c2 | c2 | c2 | c2 | c2 | c2
      · exact law_lot asked sums_ok dsOK bsOK argsOK ha ran38 (all_cons c0 (all_cons c1 (all_cons c2 (all_nil)))) w
      · exact law_lot asked sums_ok dsOK bsOK argsOK ha ran39 (all_cons c0 (all_cons c1 (all_cons c2 (all_nil)))) w
      · exact law_lot asked sums_ok dsOK bsOK argsOK ha ran40 (all_cons c0 (all_cons c1 (all_cons c2 (all_nil)))) w
      · exact law_lot asked sums_ok dsOK bsOK argsOK ha ran41 (all_cons c0 (all_cons c1 (all_cons c2 (all_nil)))) w
      · exact law_lot asked sums_ok dsOK bsOK argsOK ha ran42 (all_cons c0 (all_cons c1 (all_cons c2 (all_nil)))) w
      · exact law_lot asked sums_ok dsOK bsOK argsOK ha ran43 (all_cons c0 (all_cons c1 (all_cons c2 (all_nil)))) w
      · exact law_lot asked sums_ok dsOK bsOK argsOK ha ran44 (all_cons c0 (all_cons c1 (all_cons c2 (all_nil)))) w
      · exact law_lot asked sums_ok dsOK bsOK argsOK ha ran45 (all_cons c0 (all_cons c1 (all_cons c2 (all_nil)))) w
      · exact law_lot asked sums_ok dsOK bsOK argsOK ha ran46 (all_cons c0 (all_cons c1 (all_cons c2 (all_nil)))) w
      · exact law_lot asked sums_ok dsOK bsOK argsOK ha ran47 (all_cons c0 (all_cons c1 (all_cons c2 (all_nil)))) w
      · exact law_lot asked sums_ok dsOK bsOK argsOK ha ran48 (all_cons c0 (all_cons c1 (all_cons c2 (all_nil)))) w
      · exact law_lot asked sums_ok dsOK bsOK argsOK ha ran49 (all_cons c0 (all_cons c1 (all_cons c2 (all_nil)))) w
      · exact law_lot asked sums_ok dsOK bsOK argsOK ha ran50 (all_cons c0 (all_cons c1 (all_cons c2 (all_nil)))) w
      · exact law_lot asked sums_ok dsOK bsOK argsOK ha ran51 (all_cons c0 (all_cons c1 (all_cons c2 (all_nil)))) w
    · have b2 := val_among dsOK ha (s := 6) (lo := 0) (hi := 13) (by kernel_rfl)
      rcases (show (valD argD defD [done_, from_, pp, seq]).num 6 = 0 ∨ (valD argD defD [done_, from_, pp, seq]).num 6 = 1 ∨ (valD argD defD [done_, from_, pp, seq]).num 6 = 2 ∨ (valD argD defD [done_, from_, pp, seq]).num 6 = 3 ∨ (valD argD defD [done_, from_, pp, seq]).num 6 = 4 ∨ (valD argD defD [done_, from_, pp, seq]).num 6 = 5 ∨ (valD argD defD [done_, from_, pp, seq]).num 6 = 6 ∨ (valD argD defD [done_, from_, pp, seq]).num 6 = 7 ∨ (valD argD defD [done_, from_, pp, seq]).num 6 = 8 ∨ (valD argD defD [done_, from_, pp, seq]).num 6 = 9 ∨ (valD argD defD [done_, from_, pp, seq]).num 6 = 10 ∨ (valD argD defD [done_, from_, pp, seq]).num 6 = 11 ∨ (valD argD defD [done_, from_, pp, seq]).num 6 = 12 ∨ (valD argD defD [done_, from_, pp, seq]).num 6 = 13 by omega) with c2 | c2 | c2 | c2 | c2 | c2 | c2 | c2 | c2 | c2 | c2 | c2 | c2 | c2
      · exact law_lot asked sums_ok dsOK bsOK argsOK ha ran52 (all_cons c0 (all_cons c1 (all_cons c2 (all_nil)))) w
      · exact law_lot asked sums_ok dsOK bsOK argsOK ha ran53 (all_cons c0 (all_cons c1 (all_cons c2 (all_nil)))) w
      · exact law_lot asked sums_ok dsOK bsOK argsOK ha ran54 (all_cons c0 (all_cons c1 (all_cons c2 (all_nil)))) w
      · exact law_lot asked sums_ok dsOK bsOK argsOK ha ran55 (all_cons c0 (all_cons c1 (all_cons c2 (all_nil)))) w
      · exact law_lot asked sums_ok dsOK bsOK argsOK ha ran56 (all_cons c0 (all_cons c1 (all_cons c2 (all_nil)))) w
      · exact law_lot asked sums_ok dsOK bsOK argsOK ha ran57 (all_cons c0 (all_cons c1 (all_cons c2 (all_nil)))) w
      · exact law_lot asked sums_ok dsOK bsOK argsOK ha ran58 (all_cons c0 (all_cons c1 (all_cons c2 (all_nil)))) w
      · exact law_lot asked sums_ok dsOK bsOK argsOK ha ran59 (all_cons c0 (all_cons c1 (all_cons c2 (all_nil)))) w
      · exact law_lot asked sums_ok dsOK bsOK argsOK ha ran60 (all_cons c0 (all_cons c1 (all_cons c2 (all_nil)))) w
      · exact law_lot asked sums_ok dsOK bsOK argsOK ha ran61 (all_cons c0 (all_cons c1 (all_cons c2 (all_nil)))) w
      · exact law_lot asked sums_ok dsOK bsOK argsOK ha ran62 (all_cons c0 (all_cons c1 (all_cons c2 (all_nil)))) w
      · exact law_lot asked sums_ok dsOK bsOK argsOK ha ran63 (all_cons c0 (all_cons c1 (all_cons c2 (all_nil)))) w
      · exact law_lot asked sums_ok dsOK bsOK argsOK ha ran64 (all_cons c0 (all_cons c1 (all_cons c2 (all_nil)))) w
      · exact law_lot asked sums_ok dsOK bsOK argsOK ha ran65 (all_cons c0 (all_cons c1 (all_cons c2 (all_nil)))) w
end Go.Proofs.YtamlnmdmfcblnaaGreatDoor.ReplicaTellsB0
