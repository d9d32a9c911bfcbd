/- Written by a program of this claim's (a symbolic run): the symbols of the law's cases. No condition. -/
import Derived.Test.YtamlnmdmfcblnaaGreatDoorPq
set_option linter.unusedVariables false
set_option maxRecDepth 100000
namespace Go.Proofs.YtamlnmdmfcblnaaGreatDoor.ReplicaVotesB0
open Go.Abs Go.RowKit Go.Abs.Orc
def argD : List Def := [.arg .u8 0 255, .arg .u8 0 255]
def defD : List Def := [.bin .rem .u8 (.sym .u8 0) (.int .u8 8), .bin .rem .u8 (.sym .u8 1) (.int .u8 4)]
def byteSyms : List Nat := [0, 1, 2, 3]
noncomputable def D : Tr Def := tabD argD defD
theorem dsOK : wfDs argD argD.length defD = true := by kernel_rfl
theorem bsOK : bytesB (tabD argD defD) byteSyms = true := by kernel_rfl
def lawArgs : List AV := [.sym .u8 0, .sym .u8 1]
theorem argsOK : lawArgs.all (argLt argD.length) = true := by kernel_rfl
end Go.Proofs.YtamlnmdmfcblnaaGreatDoor.ReplicaVotesB0
