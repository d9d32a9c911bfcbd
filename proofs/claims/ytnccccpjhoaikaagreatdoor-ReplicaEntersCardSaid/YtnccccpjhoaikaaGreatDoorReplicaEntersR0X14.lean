/- Written by a program of this claim's (a symbolic run): the runs of some of the law's cases. No condition. -/
import Derived.Test.YtnccccpjhoaikaaGreatDoorReplicaEntersR0S
set_option linter.unusedVariables false
set_option maxRecDepth 100000
namespace Go.Proofs.YtnccccpjhoaikaaGreatDoor.ReplicaEntersB0
open Go.Abs Go.RowKit Go.Abs.Orc
def o41 : Orc := run 2 (dfn 4 (dfn 5 (dfn 6 (run 4 (dfn 7 (run 4 (dfn 9 e170)))))))
theorem ran41 : lotB cx (tabD argD defD) byteSyms 60 4 lawArgs [(8, 1), (10, 0), (12, 1), (14, 0), (15, 1)] o41 = true := by kernel_rfl
def o42 : Orc := run 2 (dfn 4 (dfn 5 (dfn 6 (run 4 (dfn 7 (run 4 (dfn 9 e172)))))))
theorem ran42 : lotB cx (tabD argD defD) byteSyms 60 4 lawArgs [(8, 1), (10, 0), (12, 1), (14, 0), (15, 2)] o42 = true := by kernel_rfl
def o43 : Orc := run 2 (dfn 4 (dfn 5 (dfn 6 (run 4 (dfn 7 (run 4 (dfn 9 e174)))))))
theorem ran43 : lotB cx (tabD argD defD) byteSyms 60 4 lawArgs [(8, 1), (10, 0), (12, 1), (14, 0), (15, 3)] o43 = true := by kernel_rfl
end Go.Proofs.YtnccccpjhoaikaaGreatDoor.ReplicaEntersB0
