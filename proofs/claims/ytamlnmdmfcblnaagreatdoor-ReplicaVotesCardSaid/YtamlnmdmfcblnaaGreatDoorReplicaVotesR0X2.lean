/- Written by a program of this claim's (a symbolic run): the runs of some of the law's cases. No condition. -/
import Derived.Test.YtamlnmdmfcblnaaGreatDoorReplicaVotesR0D
set_option linter.unusedVariables false
set_option maxRecDepth 100000
namespace Go.Proofs.YtamlnmdmfcblnaaGreatDoor.ReplicaVotesB0
open Go.Abs Go.RowKit Go.Abs.Orc
def o6 : Orc := run 24 (rng 3 0 (alt (fin) (alt (fin) (alt (fin) (alt (fin) (fin))))))
theorem ran6 : lotB cxP (tabD argD defD) byteSyms 60 8 lawArgs [(2, 6)] o6 = true := by kernel_rfl
def o7 : Orc := run 27 (rng 3 0 (alt (fin) (alt (fin) (alt (fin) (alt (fin) (fin))))))
theorem ran7 : lotB cxP (tabD argD defD) byteSyms 60 8 lawArgs [(2, 7)] o7 = true := by kernel_rfl
end Go.Proofs.YtamlnmdmfcblnaaGreatDoor.ReplicaVotesB0
