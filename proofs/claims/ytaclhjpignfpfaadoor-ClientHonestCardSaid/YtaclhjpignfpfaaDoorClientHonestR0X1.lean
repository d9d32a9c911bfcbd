/- Written by a program of this claim's (a symbolic run): the runs of some of the loop's states. No condition. -/
import Derived.Test.YtaclhjpignfpfaaDoorClientHonestR0D
set_option linter.unusedVariables false
set_option maxRecDepth 100000
namespace Go.Proofs.YtaclhjpignfpfaaDoor.ClientHonestB0
open Go.Abs Go.RowKit Go.Abs.Orc
theorem ran1 : partL cx (tabD argD defD) ⟨[], [], tabB byteSyms, [⟨0, .sym .i64 2⟩, ⟨1, .sym .i64 3⟩], wins.map Win.read, []⟩ [cut0] 60 3 lawArgs o0 [0, 1, 2, 3, 4, 5, 6, 7, 8, 9, 10, 11, 12, 13, 14, 15, 16, 17, 18, 19, 20, 21, 22, 23, 24, 25, 26, 27, 28, 29, 30, 31, 32, 33, 34, 35, 36, 37, 38, 39, 40, 41, 42, 43, 44] = true := by kernel_rfl
end Go.Proofs.YtaclhjpignfpfaaDoor.ClientHonestB0
