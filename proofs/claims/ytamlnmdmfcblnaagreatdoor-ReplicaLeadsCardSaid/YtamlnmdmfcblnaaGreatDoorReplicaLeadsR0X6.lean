/- Written by a program of this claim's (a symbolic run): the runs of some of the law's cases. No condition. -/
import Derived.Test.YtamlnmdmfcblnaaGreatDoorReplicaLeadsR0D
set_option linter.unusedVariables false
set_option maxRecDepth 100000
namespace Go.Proofs.YtamlnmdmfcblnaaGreatDoor.ReplicaLeadsB0
open Go.Abs Go.RowKit Go.Abs.Orc
def o11 : Orc := run 7 (dfn 3 (run 3 (dfn 5 (run 3 (dfn 7 (rng 8 0 (alt (run 3 (dfn 9 (rng 10 0 (alt (fin) (alt (fin) (fin)))))) (alt (run 5 (dfn 9 (rng 10 0 (alt (fin) (alt (fin) (fin)))))) (fin)))))))))
theorem ran11 : lotB cx (tabD argD defD) byteSyms 60 6 lawArgs [(2, 1), (4, 0), (6, 0)] o11 = true := by kernel_rfl
def o12 : Orc := run 7 (dfn 3 (run 3 (dfn 5 (run 5 (dfn 7 (run 3 (dfn 9 (rng 10 0 (alt (fin) (alt (fin) (fin)))))))))))
theorem ran12 : lotB cx (tabD argD defD) byteSyms 60 6 lawArgs [(2, 1), (4, 0), (6, 1), (8, 0)] o12 = true := by kernel_rfl
end Go.Proofs.YtamlnmdmfcblnaaGreatDoor.ReplicaLeadsB0
