/- Written by a program of this claim's (a symbolic run): the runs of some of the law's cases. No condition. -/
import Derived.Test.YtnccccpjhoaikaaGreatDoorReplicaKeepsR0D
set_option linter.unusedVariables false
set_option maxRecDepth 100000
namespace Go.Proofs.YtnccccpjhoaikaaGreatDoor.ReplicaKeepsB0
open Go.Abs Go.RowKit Go.Abs.Orc
def o4 : Orc := run 2 (dfn 3 (dfn 4 (dfn 5 (run 13 (dec .neq (.sym .u32 4) (.int .u32 0) true (dec .eql (.sym .u32 4) (.sym .u32 4) true (dec .eql (.sym .u16 5) (.sym .u16 5) true (fin))))))))
theorem ran4 : lotB cxQ (tabD argD defD) byteSyms 60 3 lawArgs [(2, 4)] o4 = true := by kernel_rfl
def o5 : Orc := run 2 (dfn 3 (dfn 4 (dfn 5 (run 13 (dec .neq (.sym .u32 4) (.int .u32 0) true (dec .eql (.sym .u32 4) (.sym .u32 4) true (dec .eql (.sym .u16 5) (.sym .u16 5) true (fin))))))))
theorem ran5 : lotB cxQ (tabD argD defD) byteSyms 60 3 lawArgs [(2, 5)] o5 = true := by kernel_rfl
def o6 : Orc := run 2 (dfn 3 (dfn 4 (dfn 5 (run 13 (dec .neq (.sym .u32 4) (.int .u32 0) true (dec .eql (.sym .u32 4) (.sym .u32 4) true (dec .eql (.sym .u16 5) (.sym .u16 5) true (fin))))))))
theorem ran6 : lotB cxQ (tabD argD defD) byteSyms 60 3 lawArgs [(2, 6)] o6 = true := by kernel_rfl
end Go.Proofs.YtnccccpjhoaikaaGreatDoor.ReplicaKeepsB0
