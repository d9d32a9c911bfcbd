/- Written by a program of this claim's (a symbolic run): the symbols of the law's cases, the states of its loop's head. No condition. -/
import Derived.Test.YtaclhjpignfpfaaDoorCom
set_option linter.unusedVariables false
set_option maxRecDepth 100000
namespace Go.Proofs.YtaclhjpignfpfaaDoor.ClientTimesB1
open Go.Abs Go.RowKit Go.Abs.Orc
def argD : List Def := asI 41 9223372036854775807 .u8 0 255 0
def defD : List Def := []
def byteSyms : List Nat := []
noncomputable def D : Tr Def := tabD argD defD
theorem dsOK : wfDs argD.length defD = true := by kernel_rfl
theorem bsOK : bytesB (tabD argD defD) byteSyms = true := by kernel_rfl
def lawArgs : List AV := [.opq 0]
def dead : List Nat := []
def ovs : List (Nat × Nat × AV) := []
def cut0 : CutS := ⟨[], [], [], none, [], [], []⟩
theorem cutOK : cutsLB argD defD 1 (intsW 0 1 0 .u8) [] = true := by kernel_rfl
def o0 : Orc := run 2 (dec .gtr (.sym .i64 0) (.int .i64 40) true (fin))
end Go.Proofs.YtaclhjpignfpfaaDoor.ClientTimesB1
