/- Written by a program of this claim's: the runs of some of the law's cases. No condition. -/
import Derived.Test.YtgcifbpdedlfoaaGreatDoorReplicaBeginsR0D
set_option linter.unusedVariables false
set_option linter.unusedSimpArgs false
set_option maxRecDepth 100000
namespace Go.Proofs.YtgcifbpdedlfoaaGreatDoor.ReplicaBeginsB0
open Go.Abs Go.RowKit
theorem ran21 : runAll cx 60 3 lot21 = true := by kernel_rfl
theorem ran22 : runAll cx 60 3 lot22 = true := by kernel_rfl
theorem ran23 : runAll cx 60 3 lot23 = true := by kernel_rfl
theorem ran24 : runAll cx 60 3 lot24 = true := by kernel_rfl
theorem ran25 : runAll cx 60 3 lot25 = true := by kernel_rfl
theorem ran26 : runAll cx 60 3 lot26 = true := by kernel_rfl
theorem ran27 : runAll cx 60 3 lot27 = true := by kernel_rfl
end Go.Proofs.YtgcifbpdedlfoaaGreatDoor.ReplicaBeginsB0
