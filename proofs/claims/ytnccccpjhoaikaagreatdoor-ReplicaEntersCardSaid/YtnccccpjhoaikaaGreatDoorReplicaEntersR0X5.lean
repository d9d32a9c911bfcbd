/- Written by a program of this claim's (a symbolic run): the runs of some of the law's cases. No condition. -/
import Derived.Test.YtnccccpjhoaikaaGreatDoorReplicaEntersR0S
set_option linter.unusedVariables false
set_option maxRecDepth 100000
namespace Go.Proofs.YtnccccpjhoaikaaGreatDoor.ReplicaEntersB0
open Go.Abs Go.RowKit Go.Abs.Orc
def o16 : Orc := run 2 (dfn 4 (dfn 5 (dfn 6 (run 4 (dfn 7 (run 3 (dfn 9 e175)))))))
theorem ran16 : lotB cx (tabD argD defD) byteSyms 60 4 lawArgs [(8, 0), (10, 1), (12, 0), (14, 0), (15, 0)] o16 = true := by kernel_rfl
def o17 : Orc := run 2 (dfn 4 (dfn 5 (dfn 6 (run 4 (dfn 7 (run 3 (dfn 9 e176)))))))
theorem ran17 : lotB cx (tabD argD defD) byteSyms 60 4 lawArgs [(8, 0), (10, 1), (12, 0), (14, 0), (15, 1)] o17 = true := by kernel_rfl
def o18 : Orc := run 2 (dfn 4 (dfn 5 (dfn 6 (run 4 (dfn 7 (run 3 (dfn 9 e177)))))))
theorem ran18 : lotB cx (tabD argD defD) byteSyms 60 4 lawArgs [(8, 0), (10, 1), (12, 0), (14, 0), (15, 2)] o18 = true := by kernel_rfl
end Go.Proofs.YtnccccpjhoaikaaGreatDoor.ReplicaEntersB0
