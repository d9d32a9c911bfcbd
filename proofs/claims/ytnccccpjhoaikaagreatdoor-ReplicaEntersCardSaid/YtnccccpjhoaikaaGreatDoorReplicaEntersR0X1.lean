/- Written by a program of this claim's (a symbolic run): the runs of some of the law's cases. No condition. -/
import Derived.Test.YtnccccpjhoaikaaGreatDoorReplicaEntersR0S
set_option linter.unusedVariables false
set_option maxRecDepth 100000
namespace Go.Proofs.YtnccccpjhoaikaaGreatDoor.ReplicaEntersB0
open Go.Abs Go.RowKit Go.Abs.Orc
def o4 : Orc := run 2 (dfn 4 (dfn 5 (dfn 6 (run 4 (dfn 7 (run 3 (dfn 9 e97)))))))
theorem ran4 : lotB cx (tabD argD defD) byteSyms 60 4 lawArgs [(8, 0), (10, 0), (12, 0), (14, 1), (15, 0)] o4 = true := by kernel_rfl
def o5 : Orc := run 2 (dfn 4 (dfn 5 (dfn 6 (run 4 (dfn 7 (run 3 (dfn 9 e120)))))))
theorem ran5 : lotB cx (tabD argD defD) byteSyms 60 4 lawArgs [(8, 0), (10, 0), (12, 0), (14, 1), (15, 1)] o5 = true := by kernel_rfl
def o6 : Orc := run 2 (dfn 4 (dfn 5 (dfn 6 (run 4 (dfn 7 (run 3 (dfn 9 e143)))))))
theorem ran6 : lotB cx (tabD argD defD) byteSyms 60 4 lawArgs [(8, 0), (10, 0), (12, 0), (14, 1), (15, 2)] o6 = true := by kernel_rfl
end Go.Proofs.YtnccccpjhoaikaaGreatDoor.ReplicaEntersB0
