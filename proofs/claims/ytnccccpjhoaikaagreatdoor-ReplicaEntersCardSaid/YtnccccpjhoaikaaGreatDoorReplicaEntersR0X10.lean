/- Written by a program of this claim's (a symbolic run): the runs of some of the law's cases. No condition. -/
import Derived.Test.YtnccccpjhoaikaaGreatDoorReplicaEntersR0S
set_option linter.unusedVariables false
set_option maxRecDepth 100000
namespace Go.Proofs.YtnccccpjhoaikaaGreatDoor.ReplicaEntersB0
open Go.Abs Go.RowKit Go.Abs.Orc
def o30 : Orc := run 2 (dfn 4 (dfn 5 (dfn 6 (run 4 (dfn 7 (run 3 (dfn 9 e275)))))))
theorem ran30 : lotB cx (tabD argD defD) byteSyms 60 4 lawArgs [(8, 0), (10, 1), (12, 1), (14, 1), (15, 2)] o30 = true := by kernel_rfl
def o31 : Orc := run 2 (dfn 4 (dfn 5 (dfn 6 (run 4 (dfn 7 (run 3 (dfn 9 e304)))))))
theorem ran31 : lotB cx (tabD argD defD) byteSyms 60 4 lawArgs [(8, 0), (10, 1), (12, 1), (14, 1), (15, 3)] o31 = true := by kernel_rfl
end Go.Proofs.YtnccccpjhoaikaaGreatDoor.ReplicaEntersB0
