/- Written by a program of this claim's (a symbolic run): the runs of some of the law's cases. No condition. -/
import Derived.Test.YtamlnmdmfcblnaaGreatDoorReplicaLeadsR0D
set_option linter.unusedVariables false
set_option maxRecDepth 100000
namespace Go.Proofs.YtamlnmdmfcblnaaGreatDoor.ReplicaLeadsB0
open Go.Abs Go.RowKit Go.Abs.Orc
def o32 : Orc := run 7 (dfn 3 (run 5 (dfn 5 (run 5 (dfn 7 (run 5 (dfn 9 (fin))))))))
theorem ran32 : lotB cx (tabD argD defD) byteSyms 60 6 lawArgs [(2, 2), (4, 1), (6, 1), (8, 1), (10, 1)] o32 = true := by kernel_rfl
end Go.Proofs.YtamlnmdmfcblnaaGreatDoor.ReplicaLeadsB0
