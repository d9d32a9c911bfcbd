/- Written by a program of this claim's (a symbolic run): the runs of some of the loop's states. No condition. -/
import Derived.Test.YtamlnmdmfcblnaaGreatDoorReplicaOrdersR1D
set_option linter.unusedVariables false
set_option maxRecDepth 100000
namespace Go.Proofs.YtamlnmdmfcblnaaGreatDoor.ReplicaOrdersB1
open Go.Abs Go.RowKit Go.Abs.Orc
theorem ran0 : partL cx (tabD argD defD) ⟨[], [], tabB byteSyms, [⟨0, .sym .i64 0⟩], wins.map Win.read, []⟩ [] 60 4 lawArgs o0 [] = true := by kernel_rfl
end Go.Proofs.YtamlnmdmfcblnaaGreatDoor.ReplicaOrdersB1
