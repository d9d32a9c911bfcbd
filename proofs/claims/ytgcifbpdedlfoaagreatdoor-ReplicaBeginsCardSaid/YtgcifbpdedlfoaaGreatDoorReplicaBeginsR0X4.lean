/- Written by a program of this claim's: the runs of some of the law's cases. No condition. -/
import Derived.Test.YtgcifbpdedlfoaaGreatDoorReplicaBeginsR0D
set_option linter.unusedVariables false
set_option linter.unusedSimpArgs false
set_option maxRecDepth 100000
namespace Go.Proofs.YtgcifbpdedlfoaaGreatDoor.ReplicaBeginsB0
open Go.Abs Go.RowKit
theorem ran28 : runAll cx 60 3 lot28 = true := by kernel_rfl
theorem ran29 : runAll cx 60 3 lot29 = true := by kernel_rfl
theorem ran30 : runAll cx 60 3 lot30 = true := by kernel_rfl
theorem ran31 : runAll cx 60 3 lot31 = true := by kernel_rfl
theorem ran32 : runAll cx 60 3 lot32 = true := by kernel_rfl
end Go.Proofs.YtgcifbpdedlfoaaGreatDoor.ReplicaBeginsB0
