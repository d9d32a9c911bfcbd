/- Written by a program of this claim's (a symbolic run): the symbols of the law's cases. No condition. -/
import Derived.Test.YtnccccpjhoaikaaGreatDoorPq
set_option linter.unusedVariables false
set_option maxRecDepth 100000
namespace Go.Proofs.YtnccccpjhoaikaaGreatDoor.ReplicaKeepsB0
open Go.Abs Go.RowKit Go.Abs.Orc
def argD : List Def := [.arg .u8 0 255, .arg .u16 0 65535]
def defD : List Def := [.bin .rem .u8 (.sym .u8 0) (.int .u8 8), .conv .u32 (.sym .u16 1), .bin .add .u32 (.sym .u32 3) (.int .u32 1), .conv .u16 (.sym .u32 4)]
def byteSyms : List Nat := [0, 2]
noncomputable def D : Tr Def := tabD argD defD
theorem dsOK : wfDs argD argD.length defD = true := by kernel_rfl
theorem bsOK : bytesB (tabD argD defD) byteSyms = true := by kernel_rfl
def lawArgs : List AV := [.sym .u8 0, .sym .u16 1]
theorem argsOK : lawArgs.all (argLt argD.length) = true := by kernel_rfl
end Go.Proofs.YtnccccpjhoaikaaGreatDoor.ReplicaKeepsB0
