/- Written by a program of this claim's (a symbolic run): the runs of some of the law's cases. No condition. -/
import Derived.Test.YtnccccpjhoaikaaGreatDoorReplicaEntersR0S
set_option linter.unusedVariables false
set_option maxRecDepth 100000
namespace Go.Proofs.YtnccccpjhoaikaaGreatDoor.ReplicaEntersB0
open Go.Abs Go.RowKit Go.Abs.Orc
def o55 : Orc := run 2 (dfn 4 (dfn 5 (dfn 6 (run 4 (dfn 7 (run 4 (dfn 9 (run 4 (dfn 11 (run 3 e303))))))))))
theorem ran55 : lotB cx (tabD argD defD) byteSyms 60 4 lawArgs [(8, 1), (10, 1), (12, 0), (14, 1), (15, 3)] o55 = true := by kernel_rfl
def o56 : Orc := run 2 (dfn 4 (dfn 5 (dfn 6 (run 4 (dfn 7 (run 4 (dfn 9 (run 4 (dfn 11 (run 4 (dfn 13 (run 7 (dfn 16 e215)))))))))))))
theorem ran56 : lotB cx (tabD argD defD) byteSyms 60 4 lawArgs [(8, 1), (10, 1), (12, 1), (14, 0), (15, 0)] o56 = true := by kernel_rfl
end Go.Proofs.YtnccccpjhoaikaaGreatDoor.ReplicaEntersB0
