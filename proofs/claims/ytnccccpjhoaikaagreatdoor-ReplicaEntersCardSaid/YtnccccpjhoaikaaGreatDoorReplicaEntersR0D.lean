/- Written by a program of this claim's (a symbolic run): the symbols of the law's cases. No condition. -/
import Derived.Test.YtnccccpjhoaikaaGreatDoorCom
set_option linter.unusedVariables false
set_option maxRecDepth 100000
namespace Go.Proofs.YtnccccpjhoaikaaGreatDoor.ReplicaEntersB0
open Go.Abs Go.RowKit Go.Abs.Orc
def argD : List Def := [.arg .u8 0 255, .arg .u8 0 255, .arg .u8 0 255, .arg .u8 0 255]
def defD : List Def := [.bin .rem .u8 (.sym .u8 0) (.int .u8 30), .conv .u32 (.sym .u8 4), .bin .add .u32 (.sym .u32 5) (.int .u32 1), .bin .shr .u8 (.sym .u8 2) (.int .u8 0), .bin .and .u8 (.sym .u8 7) (.int .u8 1), .bin .shr .u8 (.sym .u8 2) (.int .u8 1), .bin .and .u8 (.sym .u8 9) (.int .u8 1), .bin .shr .u8 (.sym .u8 2) (.int .u8 2), .bin .and .u8 (.sym .u8 11) (.int .u8 1), .bin .shr .u8 (.sym .u8 2) (.int .u8 3), .bin .and .u8 (.sym .u8 13) (.int .u8 1), .bin .rem .u8 (.sym .u8 1) (.int .u8 4), .bin .rem .u8 (.sym .u8 3) (.int .u8 3), .bin .rem .u8 (.sym .u8 3) (.int .u8 32), .conv .u32 (.sym .u8 17), .bin .add .u32 (.sym .u32 18) (.int .u32 1), .bin .rem .u32 (.sym .u32 19) (.int .u32 4), .conv .u8 (.sym .u32 20), .bin .rem .u32 (.sym .u32 6) (.int .u32 4), .conv .u8 (.sym .u32 22)]
def byteSyms : List Nat := [0, 1, 2, 3, 4, 7, 8, 9, 10, 11, 12, 13, 14, 15, 16, 17, 21, 23]
noncomputable def D : Tr Def := tabD argD defD
theorem dsOK : wfDs argD argD.length defD = true := by kernel_rfl
theorem bsOK : bytesB (tabD argD defD) byteSyms = true := by kernel_rfl
def lawArgs : List AV := [.sym .u8 0, .sym .u8 1, .sym .u8 2, .sym .u8 3]
theorem argsOK : lawArgs.all (argLt argD.length) = true := by kernel_rfl
end Go.Proofs.YtnccccpjhoaikaaGreatDoor.ReplicaEntersB0
