/- Written by a program of this claim's (a symbolic run): the runs of some of the law's cases. No condition. -/
import Derived.Test.YtnccccpjhoaikaaGreatDoorReplicaEntersR0S
set_option linter.unusedVariables false
set_option maxRecDepth 100000
namespace Go.Proofs.YtnccccpjhoaikaaGreatDoor.ReplicaEntersB0
open Go.Abs Go.RowKit Go.Abs.Orc
def o32 : Orc := run 2 (dfn 4 (dfn 5 (dfn 6 (run 4 (dfn 7 (run 4 (dfn 9 (run 3 (dfn 11 (run 3 e167))))))))))
theorem ran32 : lotB cx (tabD argD defD) byteSyms 60 4 lawArgs [(8, 1), (10, 0), (12, 0), (14, 0), (15, 0)] o32 = true := by kernel_rfl
def o33 : Orc := run 2 (dfn 4 (dfn 5 (dfn 6 (run 4 (dfn 7 (run 4 (dfn 9 (run 3 (dfn 11 (run 3 e169))))))))))
theorem ran33 : lotB cx (tabD argD defD) byteSyms 60 4 lawArgs [(8, 1), (10, 0), (12, 0), (14, 0), (15, 1)] o33 = true := by kernel_rfl
def o34 : Orc := run 2 (dfn 4 (dfn 5 (dfn 6 (run 4 (dfn 7 (run 4 (dfn 9 (run 3 (dfn 11 (run 3 e171))))))))))
theorem ran34 : lotB cx (tabD argD defD) byteSyms 60 4 lawArgs [(8, 1), (10, 0), (12, 0), (14, 0), (15, 2)] o34 = true := by kernel_rfl
end Go.Proofs.YtnccccpjhoaikaaGreatDoor.ReplicaEntersB0
