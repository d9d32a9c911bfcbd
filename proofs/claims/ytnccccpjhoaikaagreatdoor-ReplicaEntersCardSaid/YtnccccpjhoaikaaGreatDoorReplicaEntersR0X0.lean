/- Written by a program of this claim's (a symbolic run): the runs of some of the law's cases. No condition. -/
import Derived.Test.YtnccccpjhoaikaaGreatDoorReplicaEntersR0S
set_option linter.unusedVariables false
set_option maxRecDepth 100000
namespace Go.Proofs.YtnccccpjhoaikaaGreatDoor.ReplicaEntersB0
open Go.Abs Go.RowKit Go.Abs.Orc
def o0 : Orc := run 2 (dfn 4 (dfn 5 (dfn 6 (run 4 (dfn 7 (run 3 (dfn 9 (run 3 (dfn 11 (run 3 (dfn 13 (run 7 (dfn 16 (cmp .gtr (.sym .u8 16) (.int .u8 0) (run 1 (dfn 17 (dfn 18 (dfn 19 (run 1 (dfn 20 (rng 21 0 (alt (run 2 e16) (alt fin (alt (run 2 e16) (alt (run 2 e16) fin))))))))))) (run 1 (dec .geq (.sym .u32 6) (.int .u32 1) true (dec .leq (.sym .u32 6) (.int .u32 1048576) true e20)))))))))))))))))
theorem ran0 : lotB cx (tabD argD defD) byteSyms 60 4 lawArgs [(8, 0), (10, 0), (12, 0), (14, 0), (15, 0)] o0 = true := by kernel_rfl
def o1 : Orc := run 2 (dfn 4 (dfn 5 (dfn 6 (run 4 (dfn 7 (run 3 (dfn 9 (run 3 (dfn 11 (run 3 (dfn 13 (run 7 (dfn 16 (cmp .gtr (.sym .u8 16) (.int .u8 0) (run 1 (dfn 17 (dfn 18 (dfn 19 (run 1 (dfn 20 (rng 21 0 (alt (run 2 e35) (alt (run 2 e35) (alt fin (alt (run 2 e35) fin))))))))))) (run 1 (dec .geq (.sym .u32 6) (.int .u32 1) true (dec .leq (.sym .u32 6) (.int .u32 1048576) true e38)))))))))))))))))
theorem ran1 : lotB cx (tabD argD defD) byteSyms 60 4 lawArgs [(8, 0), (10, 0), (12, 0), (14, 0), (15, 1)] o1 = true := by kernel_rfl
def o2 : Orc := run 2 (dfn 4 (dfn 5 (dfn 6 (run 4 (dfn 7 (run 3 (dfn 9 (run 3 (dfn 11 (run 3 (dfn 13 (run 7 (dfn 16 (cmp .gtr (.sym .u8 16) (.int .u8 0) (run 1 (dfn 17 (dfn 18 (dfn 19 (run 1 (dfn 20 (rng 21 0 (alt (run 2 e53) (alt (run 2 e53) (alt (run 2 e53) (alt fin fin))))))))))) (run 1 (dec .geq (.sym .u32 6) (.int .u32 1) true (dec .leq (.sym .u32 6) (.int .u32 1048576) true e56)))))))))))))))))
theorem ran2 : lotB cx (tabD argD defD) byteSyms 60 4 lawArgs [(8, 0), (10, 0), (12, 0), (14, 0), (15, 2)] o2 = true := by kernel_rfl
def o3 : Orc := run 2 (dfn 4 (dfn 5 (dfn 6 (run 4 (dfn 7 (run 3 (dfn 9 (run 3 (dfn 11 (run 3 (dfn 13 (run 7 (dfn 16 (cmp .gtr (.sym .u8 16) (.int .u8 0) (run 1 (dfn 17 (dfn 18 (dfn 19 (run 1 (dfn 20 (rng 21 0 (alt fin (alt (run 2 e71) (alt (run 2 e71) (alt (run 2 e71) fin))))))))))) (run 1 (dec .geq (.sym .u32 6) (.int .u32 1) true (dec .leq (.sym .u32 6) (.int .u32 1048576) true e74)))))))))))))))))
theorem ran3 : lotB cx (tabD argD defD) byteSyms 60 4 lawArgs [(8, 0), (10, 0), (12, 0), (14, 0), (15, 3)] o3 = true := by kernel_rfl
end Go.Proofs.YtnccccpjhoaikaaGreatDoor.ReplicaEntersB0
