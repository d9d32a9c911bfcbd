/- Written by a program of this claim's: the runs of some of the law's cases. No condition. -/
import Derived.Test.YtgcifbpdedlfoaaGreatDoorReplicaCommitsR0D
set_option linter.unusedVariables false
set_option linter.unusedSimpArgs false
set_option maxRecDepth 100000
namespace Go.Proofs.YtgcifbpdedlfoaaGreatDoor.ReplicaCommitsB0
open Go.Abs Go.RowKit
theorem ran72 : runAll cx 60 5 lot72 = true := by kernel_rfl
theorem ran73 : runAll cx 60 5 lot73 = true := by kernel_rfl
theorem ran74 : runAll cx 60 5 lot74 = true := by kernel_rfl
theorem ran75 : runAll cx 60 5 lot75 = true := by kernel_rfl
theorem ran76 : runAll cx 60 5 lot76 = true := by kernel_rfl
theorem ran77 : runAll cx 60 5 lot77 = true := by kernel_rfl
theorem ran78 : runAll cx 60 5 lot78 = true := by kernel_rfl
theorem ran79 : runAll cx 60 5 lot79 = true := by kernel_rfl
end Go.Proofs.YtgcifbpdedlfoaaGreatDoor.ReplicaCommitsB0
