/- Written by a program of this claim's (a symbolic run): the runs of some of the law's cases. No condition. -/
import Derived.Test.YtnccccpjhoaikaaGreatDoorReplicaEntersR0S
set_option linter.unusedVariables false
set_option maxRecDepth 100000
namespace Go.Proofs.YtnccccpjhoaikaaGreatDoor.ReplicaEntersB0
open Go.Abs Go.RowKit Go.Abs.Orc
def o19 : Orc := run 2 (dfn 4 (dfn 5 (dfn 6 (run 4 (dfn 7 (run 3 (dfn 9 e178)))))))
theorem ran19 : lotB cx (tabD argD defD) byteSyms 60 4 lawArgs [(8, 0), (10, 1), (12, 0), (14, 0), (15, 3)] o19 = true := by kernel_rfl
def o20 : Orc := run 2 (dfn 4 (dfn 5 (dfn 6 (run 4 (dfn 7 (run 3 (dfn 9 (run 4 (dfn 11 (run 3 e96))))))))))
theorem ran20 : lotB cx (tabD argD defD) byteSyms 60 4 lawArgs [(8, 0), (10, 1), (12, 0), (14, 1), (15, 0)] o20 = true := by kernel_rfl
def o21 : Orc := run 2 (dfn 4 (dfn 5 (dfn 6 (run 4 (dfn 7 (run 3 (dfn 9 (run 4 (dfn 11 (run 3 e119))))))))))
theorem ran21 : lotB cx (tabD argD defD) byteSyms 60 4 lawArgs [(8, 0), (10, 1), (12, 0), (14, 1), (15, 1)] o21 = true := by kernel_rfl
end Go.Proofs.YtnccccpjhoaikaaGreatDoor.ReplicaEntersB0
