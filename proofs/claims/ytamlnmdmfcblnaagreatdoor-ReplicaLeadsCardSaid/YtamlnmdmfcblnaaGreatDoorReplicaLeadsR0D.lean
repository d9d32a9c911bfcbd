/- Written by a program of this claim's (a symbolic run): the symbols of the law's cases. No condition. -/
import Derived.Test.YtamlnmdmfcblnaaGreatDoorCom
set_option linter.unusedVariables false
set_option maxRecDepth 100000
namespace Go.Proofs.YtamlnmdmfcblnaaGreatDoor.ReplicaLeadsB0
open Go.Abs Go.RowKit Go.Abs.Orc
def argD : List Def := [.arg .u8 0 255, .arg .u8 0 255]
def defD : List Def := [.bin .rem .u8 (.sym .u8 0) (.int .u8 3), .bin .shr .u8 (.sym .u8 1) (.int .u8 1), .bin .and .u8 (.sym .u8 3) (.int .u8 1), .bin .shr .u8 (.sym .u8 1) (.int .u8 2), .bin .and .u8 (.sym .u8 5) (.int .u8 1), .bin .shr .u8 (.sym .u8 1) (.int .u8 3), .bin .and .u8 (.sym .u8 7) (.int .u8 1), .bin .shr .u8 (.sym .u8 1) (.int .u8 4), .bin .and .u8 (.sym .u8 9) (.int .u8 1)]
def byteSyms : List Nat := [0, 1, 2, 3, 4, 5, 6, 7, 8, 9, 10]
noncomputable def D : Tr Def := tabD argD defD
theorem dsOK : wfDs argD argD.length defD = true := by kernel_rfl
theorem bsOK : bytesB (tabD argD defD) byteSyms = true := by kernel_rfl
def lawArgs : List AV := [.sym .u8 0, .sym .u8 1]
theorem argsOK : lawArgs.all (argLt argD.length) = true := by kernel_rfl
end Go.Proofs.YtamlnmdmfcblnaaGreatDoor.ReplicaLeadsB0
