/- Written by a program of this claim's (a symbolic run): the runs of some of the law's cases. No condition. -/
import Derived.Test.YtamlnmdmfcblnaaGreatDoorReplicaTellsR0D
set_option linter.unusedVariables false
set_option maxRecDepth 100000
namespace Go.Proofs.YtamlnmdmfcblnaaGreatDoor.ReplicaTellsB0
open Go.Abs Go.RowKit Go.Abs.Orc
def o39 : Orc := run 36 (rng 7 0 (alt (fin) (alt (fin) (alt (fin) (alt (fin) (alt (fin) (alt (fin) (alt (fin) (alt (fin) (fin))))))))))
theorem ran39 : lotB cx (tabD argD defD) byteSyms 60 3 lawArgs [(4, 8), (5, 1), (6, 1)] o39 = true := by kernel_rfl
def o40 : Orc := run 36 (rng 7 0 (alt (fin) (alt (fin) (alt (fin) (alt (fin) (alt (fin) (alt (fin) (alt (fin) (alt (fin) (fin))))))))))
theorem ran40 : lotB cx (tabD argD defD) byteSyms 60 3 lawArgs [(4, 8), (5, 1), (6, 2)] o40 = true := by kernel_rfl
def o41 : Orc := run 36 (rng 7 0 (alt (fin) (alt (fin) (alt (fin) (alt (fin) (alt (fin) (alt (fin) (alt (fin) (alt (fin) (fin))))))))))
theorem ran41 : lotB cx (tabD argD defD) byteSyms 60 3 lawArgs [(4, 8), (5, 1), (6, 3)] o41 = true := by kernel_rfl
end Go.Proofs.YtamlnmdmfcblnaaGreatDoor.ReplicaTellsB0
