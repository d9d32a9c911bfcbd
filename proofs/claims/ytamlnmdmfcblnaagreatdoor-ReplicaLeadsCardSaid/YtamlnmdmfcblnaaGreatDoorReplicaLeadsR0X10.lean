/- Written by a program of this claim's (a symbolic run): the runs of some of the law's cases. No condition. -/
import Derived.Test.YtamlnmdmfcblnaaGreatDoorReplicaLeadsR0D
set_option linter.unusedVariables false
set_option maxRecDepth 100000
namespace Go.Proofs.YtamlnmdmfcblnaaGreatDoor.ReplicaLeadsB0
open Go.Abs Go.RowKit Go.Abs.Orc
def o19 : Orc := run 7 (dfn 3 (run 5 (dfn 5 (run 5 (dfn 7 (run 3 (dfn 9 (fin))))))))
theorem ran19 : lotB cx (tabD argD defD) byteSyms 60 6 lawArgs [(2, 1), (4, 1), (6, 1), (8, 0), (10, 1)] o19 = true := by kernel_rfl
def o20 : Orc := run 7 (dfn 3 (run 5 (dfn 5 (run 5 (dfn 7 (run 5 (dfn 9 (fin))))))))
theorem ran20 : lotB cx (tabD argD defD) byteSyms 60 6 lawArgs [(2, 1), (4, 1), (6, 1), (8, 1), (10, 0)] o20 = true := by kernel_rfl
end Go.Proofs.YtamlnmdmfcblnaaGreatDoor.ReplicaLeadsB0
