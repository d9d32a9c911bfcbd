/- Written by a program of this claim's (a symbolic run): the runs of some of the loop's states. No condition. -/
import Derived.Test.YtaclhjpignfpfaaDoorClientHonestR2D
set_option linter.unusedVariables false
set_option maxRecDepth 100000
namespace Go.Proofs.YtaclhjpignfpfaaDoor.ClientHonestB2
open Go.Abs Go.RowKit Go.Abs.Orc
theorem ran0 : partL cx (tabD argD defD) ⟨[], [], tabB byteSyms, [⟨0, .sym .i64 2⟩, ⟨1, .sym .i64 3⟩], wins.map Win.read, []⟩ [] 60 3 lawArgs o0 [] = true := by kernel_rfl
end Go.Proofs.YtaclhjpignfpfaaDoor.ClientHonestB2
