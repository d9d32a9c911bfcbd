/- Written by a program of this claim's (a symbolic run): the runs of some of the law's cases. No condition. -/
import Derived.Test.YtnccccpjhoaikaaGreatDoorReplicaEntersR0S
set_option linter.unusedVariables false
set_option maxRecDepth 100000
namespace Go.Proofs.YtnccccpjhoaikaaGreatDoor.ReplicaEntersB0
open Go.Abs Go.RowKit Go.Abs.Orc
def o25 : Orc := run 2 (dfn 4 (dfn 5 (dfn 6 (run 4 (dfn 7 (run 3 (dfn 9 (run 4 (dfn 11 (run 4 e169))))))))))
theorem ran25 : lotB cx (tabD argD defD) byteSyms 60 4 lawArgs [(8, 0), (10, 1), (12, 1), (14, 0), (15, 1)] o25 = true := by kernel_rfl
def o26 : Orc := run 2 (dfn 4 (dfn 5 (dfn 6 (run 4 (dfn 7 (run 3 (dfn 9 (run 4 (dfn 11 (run 4 e171))))))))))
theorem ran26 : lotB cx (tabD argD defD) byteSyms 60 4 lawArgs [(8, 0), (10, 1), (12, 1), (14, 0), (15, 2)] o26 = true := by kernel_rfl
def o27 : Orc := run 2 (dfn 4 (dfn 5 (dfn 6 (run 4 (dfn 7 (run 3 (dfn 9 (run 4 (dfn 11 (run 4 e173))))))))))
theorem ran27 : lotB cx (tabD argD defD) byteSyms 60 4 lawArgs [(8, 0), (10, 1), (12, 1), (14, 0), (15, 3)] o27 = true := by kernel_rfl
end Go.Proofs.YtnccccpjhoaikaaGreatDoor.ReplicaEntersB0
