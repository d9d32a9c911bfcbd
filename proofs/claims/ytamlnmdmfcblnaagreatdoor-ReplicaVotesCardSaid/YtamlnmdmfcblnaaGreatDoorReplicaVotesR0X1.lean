/- Written by a program of this claim's (a symbolic run): the runs of some of the law's cases. No condition. -/
import Derived.Test.YtamlnmdmfcblnaaGreatDoorReplicaVotesR0D
set_option linter.unusedVariables false
set_option maxRecDepth 100000
namespace Go.Proofs.YtamlnmdmfcblnaaGreatDoor.ReplicaVotesB0
open Go.Abs Go.RowKit Go.Abs.Orc
def o4 : Orc := run 18 (rng 3 0 (alt (fin) (alt (fin) (alt (fin) (alt (fin) (fin))))))
theorem ran4 : lotB cxP (tabD argD defD) byteSyms 60 8 lawArgs [(2, 4)] o4 = true := by kernel_rfl
def o5 : Orc := run 21 (rng 3 0 (alt (fin) (alt (fin) (alt (fin) (alt (fin) (fin))))))
theorem ran5 : lotB cxP (tabD argD defD) byteSyms 60 8 lawArgs [(2, 5)] o5 = true := by kernel_rfl
end Go.Proofs.YtamlnmdmfcblnaaGreatDoor.ReplicaVotesB0
