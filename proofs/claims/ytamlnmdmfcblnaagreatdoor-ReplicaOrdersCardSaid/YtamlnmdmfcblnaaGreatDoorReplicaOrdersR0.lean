/- Written by a program of this claim's (a symbolic run): the cases of the law's arguments. No condition but the arguments' kinds. -/
import Derived.Test.YtamlnmdmfcblnaaGreatDoorReplicaOrdersR0X0
import Derived.Test.YtamlnmdmfcblnaaGreatDoorReplicaOrdersR0X1
import Derived.Test.YtamlnmdmfcblnaaGreatDoorReplicaOrdersR0X2
import Derived.Test.YtamlnmdmfcblnaaGreatDoorReplicaOrdersR0X3
import Derived.Test.YtamlnmdmfcblnaaGreatDoorReplicaOrdersR0X4
import Derived.Test.YtamlnmdmfcblnaaGreatDoorReplicaOrdersR0X5
import Derived.Test.YtamlnmdmfcblnaaGreatDoorReplicaOrdersR0X6
import Derived.Test.YtamlnmdmfcblnaaGreatDoorReplicaOrdersR0X7
import Derived.Test.YtamlnmdmfcblnaaGreatDoorReplicaOrdersR0X8
import Derived.Test.YtamlnmdmfcblnaaGreatDoorReplicaOrdersR0X9
import Derived.Test.YtamlnmdmfcblnaaGreatDoorReplicaOrdersR0X10
import Derived.Test.YtamlnmdmfcblnaaGreatDoorReplicaOrdersR0X11
import Derived.Test.YtamlnmdmfcblnaaGreatDoorReplicaOrdersR0X12
import Derived.Test.YtamlnmdmfcblnaaGreatDoorReplicaOrdersR0X13
import Derived.Test.YtamlnmdmfcblnaaGreatDoorReplicaOrdersR0X14
import Derived.Test.YtamlnmdmfcblnaaGreatDoorReplicaOrdersR0X15
import Derived.Test.YtamlnmdmfcblnaaGreatDoorReplicaOrdersR0X16
import Derived.Test.YtamlnmdmfcblnaaGreatDoorReplicaOrdersR0X17
import Derived.Test.YtamlnmdmfcblnaaGreatDoorReplicaOrdersR0X18
import Derived.Test.YtamlnmdmfcblnaaGreatDoorReplicaOrdersR0X19
import Derived.Test.YtamlnmdmfcblnaaGreatDoorReplicaOrdersR0X20
import Derived.Test.YtamlnmdmfcblnaaGreatDoorReplicaOrdersR0X21
import Derived.Test.YtamlnmdmfcblnaaGreatDoorReplicaOrdersR0X22
import Derived.Test.YtamlnmdmfcblnaaGreatDoorReplicaOrdersR0X23
import Derived.Test.YtamlnmdmfcblnaaGreatDoorReplicaOrdersR0X24
import Derived.Test.YtamlnmdmfcblnaaGreatDoorReplicaOrdersR0X25
import Derived.Test.YtamlnmdmfcblnaaGreatDoorReplicaOrdersR0X26
import Derived.Test.YtamlnmdmfcblnaaGreatDoorReplicaOrdersR0X27
import Derived.Test.YtamlnmdmfcblnaaGreatDoorReplicaOrdersR0X28
import Derived.Test.YtamlnmdmfcblnaaGreatDoorReplicaOrdersR0X29
import Derived.Test.YtamlnmdmfcblnaaGreatDoorReplicaOrdersR0X30
import Derived.Test.YtamlnmdmfcblnaaGreatDoorReplicaOrdersR0X31
import Derived.Test.YtamlnmdmfcblnaaGreatDoorReplicaOrdersR0X32
set_option linter.unusedVariables false
set_option maxRecDepth 100000
namespace Go.Proofs.YtamlnmdmfcblnaaGreatDoor.ReplicaOrdersB0
open Go.Abs Go.RowKit Go.Abs.Orc
def sk (l : List Nat) : List Nat := (List.range 65).filter fun i => !l.contains i
def skips : List (List Nat) := [sk [0, 1, 2, 3, 4, 5], sk [6, 7, 8, 9, 10, 11], sk [12, 13, 14, 15, 16], sk [17, 18], sk [21, 22], sk [25, 26], sk [29, 30], sk [33, 34], sk [37, 38], sk [41], sk [42], sk [43], sk [44], sk [45], sk [46], sk [47], sk [48], sk [49], sk [50], sk [51], sk [52], sk [53], sk [54], sk [55], sk [56], sk [57], sk [58], sk [59], sk [60], sk [61], sk [62], sk [63], sk [64], sk [19, 20], sk [23, 24], sk [27, 28], sk [31, 32], sk [35, 36], sk [39, 40]]
theorem coverOK : coverB 65 skips = true := by kernel_rfl
theorem walk {v2 : Value} {n2 : Nat} {z2 : Nat → Int} {w : World} (i2 : IntsIn w .u8 v2 n2 z2) (h1 : 0 ≤ Int.ofNat n2) (h2 : Int.ofNat n2 ≤ 40) : Calls Tryz.prog 4 ⟨[v2]⟩ w fun e w' => e = .returned (.bool true) ∧ Below w.heap.size w w' :=
  law_one asked sums_ok (k2 := .u8) (r2 := (0, 255)) (xd := loopD) (xs := [0, 0]) ⟨⟨by decide, by decide⟩, ⟨by decide, by decide⟩, trivial⟩ dsOK bsOK (X := [2]) (W := wins) cutOK (by kernel_rfl) (fun n h => by have := wf_u8 h; simp only; omega) i2 ⟨h1, h2⟩ coverOK (all_cons ran0 (all_cons ran1 (all_cons ran2 (all_cons ran3 (all_cons ran4 (all_cons ran5 (all_cons ran6 (all_cons ran7 (all_cons ran8 (all_cons ran9 (all_cons ran10 (all_cons ran11 (all_cons ran12 (all_cons ran13 (all_cons ran14 (all_cons ran15 (all_cons ran16 (all_cons ran17 (all_cons ran18 (all_cons ran19 (all_cons ran20 (all_cons ran21 (all_cons ran22 (all_cons ran23 (all_cons ran24 (all_cons ran25 (all_cons ran26 (all_cons ran27 (all_cons ran28 (all_cons ran29 (all_cons ran30 (all_cons ran31 (all_cons ran32 (all_cons ran33 (all_cons ran34 (all_cons ran35 (all_cons ran36 (all_cons ran37 (all_cons ran38 (all_nil))))))))))))))))))))))))))))))))))))))))
end Go.Proofs.YtamlnmdmfcblnaaGreatDoor.ReplicaOrdersB0
