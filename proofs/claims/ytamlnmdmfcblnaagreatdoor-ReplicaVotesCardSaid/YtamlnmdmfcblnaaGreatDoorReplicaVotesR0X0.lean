/- Written by a program of this claim's (a symbolic run): the runs of some of the law's cases. No condition. -/
import Derived.Test.YtamlnmdmfcblnaaGreatDoorReplicaVotesR0D
set_option linter.unusedVariables false
set_option maxRecDepth 100000
namespace Go.Proofs.YtamlnmdmfcblnaaGreatDoor.ReplicaVotesB0
open Go.Abs Go.RowKit Go.Abs.Orc
def o0 : Orc := run 6 (rng 3 0 (alt (fin) (alt (fin) (alt (fin) (alt (fin) (fin))))))
theorem ran0 : lotB cxP (tabD argD defD) byteSyms 60 8 lawArgs [(2, 0)] o0 = true := by kernel_rfl
def o1 : Orc := run 9 (rng 3 0 (alt (fin) (alt (fin) (alt (fin) (alt (fin) (fin))))))
theorem ran1 : lotB cxP (tabD argD defD) byteSyms 60 8 lawArgs [(2, 1)] o1 = true := by kernel_rfl
def o2 : Orc := run 12 (rng 3 0 (alt (fin) (alt (fin) (alt (fin) (alt (fin) (fin))))))
theorem ran2 : lotB cxP (tabD argD defD) byteSyms 60 8 lawArgs [(2, 2)] o2 = true := by kernel_rfl
def o3 : Orc := run 15 (rng 3 0 (alt (fin) (alt (fin) (alt (fin) (alt (fin) (fin))))))
theorem ran3 : lotB cxP (tabD argD defD) byteSyms 60 8 lawArgs [(2, 3)] o3 = true := by kernel_rfl
end Go.Proofs.YtamlnmdmfcblnaaGreatDoor.ReplicaVotesB0
