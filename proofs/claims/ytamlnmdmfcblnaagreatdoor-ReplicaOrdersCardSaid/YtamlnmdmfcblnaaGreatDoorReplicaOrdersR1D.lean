/- Written by a program of this claim's (a symbolic run): the symbols of the law's cases, the states of its loop's head. No condition. -/
import Derived.Test.YtamlnmdmfcblnaaGreatDoorCom
set_option linter.unusedVariables false
set_option maxRecDepth 100000
namespace Go.Proofs.YtamlnmdmfcblnaaGreatDoor.ReplicaOrdersB1
open Go.Abs Go.RowKit Go.Abs.Orc
def loopD : List Def := []
def argD : List Def := asO  (41, 9223372036854775807) loopD
def wins : List Win := []
def defD : List Def := []
def byteSyms : List Nat := []
noncomputable def D : Tr Def := tabD argD defD
theorem dsOK : wfDs argD argD.length defD = true := by kernel_rfl
theorem bsOK : bytesB (tabD argD defD) byteSyms = true := by kernel_rfl
def lawArgs : List AV := [.opq 0]
def dead : List Nat := []
def ovs : List (Nat × Nat × AV) := []
def cut0 : CutS := ⟨[], [], [], none, [], [], []⟩
theorem cutOK : cutsDB argD defD 1 [] wins [] = true := by kernel_rfl
def o0 : Orc := run 2 (dec .gtr (.sym .i64 0) (.int .i64 40) true (fin))
end Go.Proofs.YtamlnmdmfcblnaaGreatDoor.ReplicaOrdersB1
