/- Written by a program of this claim's (a symbolic run): the runs of some of the law's cases. No condition. -/
import Derived.Test.YtnccccpjhoaikaaGreatDoorReplicaEntersR0S
set_option linter.unusedVariables false
set_option maxRecDepth 100000
namespace Go.Proofs.YtnccccpjhoaikaaGreatDoor.ReplicaEntersB0
open Go.Abs Go.RowKit Go.Abs.Orc
def o38 : Orc := run 2 (dfn 4 (dfn 5 (dfn 6 (run 4 (dfn 7 (run 4 (dfn 9 e143)))))))
theorem ran38 : lotB cx (tabD argD defD) byteSyms 60 4 lawArgs [(8, 1), (10, 0), (12, 0), (14, 1), (15, 2)] o38 = true := by kernel_rfl
def o39 : Orc := run 2 (dfn 4 (dfn 5 (dfn 6 (run 4 (dfn 7 (run 4 (dfn 9 e166)))))))
theorem ran39 : lotB cx (tabD argD defD) byteSyms 60 4 lawArgs [(8, 1), (10, 0), (12, 0), (14, 1), (15, 3)] o39 = true := by kernel_rfl
def o40 : Orc := run 2 (dfn 4 (dfn 5 (dfn 6 (run 4 (dfn 7 (run 4 (dfn 9 e168)))))))
theorem ran40 : lotB cx (tabD argD defD) byteSyms 60 4 lawArgs [(8, 1), (10, 0), (12, 1), (14, 0), (15, 0)] o40 = true := by kernel_rfl
end Go.Proofs.YtnccccpjhoaikaaGreatDoor.ReplicaEntersB0
