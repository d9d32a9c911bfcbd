/- Written by a program of this claim's (a symbolic run): the runs of some of the law's cases. No condition. -/
import Derived.Test.YtnccccpjhoaikaaGreatDoorReplicaEntersR0S
set_option linter.unusedVariables false
set_option maxRecDepth 100000
namespace Go.Proofs.YtnccccpjhoaikaaGreatDoor.ReplicaEntersB0
open Go.Abs Go.RowKit Go.Abs.Orc
def o10 : Orc := run 2 (dfn 4 (dfn 5 (dfn 6 (run 4 (dfn 7 (run 3 (dfn 9 e172)))))))
theorem ran10 : lotB cx (tabD argD defD) byteSyms 60 4 lawArgs [(8, 0), (10, 0), (12, 1), (14, 0), (15, 2)] o10 = true := by kernel_rfl
def o11 : Orc := run 2 (dfn 4 (dfn 5 (dfn 6 (run 4 (dfn 7 (run 3 (dfn 9 e174)))))))
theorem ran11 : lotB cx (tabD argD defD) byteSyms 60 4 lawArgs [(8, 0), (10, 0), (12, 1), (14, 0), (15, 3)] o11 = true := by kernel_rfl
def o12 : Orc := run 2 (dfn 4 (dfn 5 (dfn 6 (run 4 (dfn 7 (run 3 (dfn 9 (run 3 (dfn 11 (run 4 e96))))))))))
theorem ran12 : lotB cx (tabD argD defD) byteSyms 60 4 lawArgs [(8, 0), (10, 0), (12, 1), (14, 1), (15, 0)] o12 = true := by kernel_rfl
end Go.Proofs.YtnccccpjhoaikaaGreatDoor.ReplicaEntersB0
