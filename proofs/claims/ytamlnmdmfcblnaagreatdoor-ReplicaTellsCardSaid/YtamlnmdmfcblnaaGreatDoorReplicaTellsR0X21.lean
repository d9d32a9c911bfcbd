/- Written by a program of this claim's (a symbolic run): the runs of some of the law's cases. No condition. -/
import Derived.Test.YtamlnmdmfcblnaaGreatDoorReplicaTellsR0D
set_option linter.unusedVariables false
set_option maxRecDepth 100000
namespace Go.Proofs.YtamlnmdmfcblnaaGreatDoor.ReplicaTellsB0
open Go.Abs Go.RowKit Go.Abs.Orc
def o50 : Orc := run 36 (rng 7 0 (alt (fin) (alt (fin) (alt (fin) (alt (fin) (alt (fin) (alt (fin) (alt (fin) (alt (fin) (fin))))))))))
theorem ran50 : lotB cx (tabD argD defD) byteSyms 60 3 lawArgs [(4, 8), (5, 1), (6, 12)] o50 = true := by kernel_rfl
def o51 : Orc := run 36 (rng 7 0 (alt (fin) (alt (fin) (alt (fin) (alt (fin) (alt (fin) (alt (fin) (alt (fin) (alt (fin) (fin))))))))))
theorem ran51 : lotB cx (tabD argD defD) byteSyms 60 3 lawArgs [(4, 8), (5, 1), (6, 13)] o51 = true := by kernel_rfl
def o52 : Orc := run 36 (rng 7 0 (alt (fin) (alt (fin) (alt (fin) (alt (fin) (alt (fin) (alt (fin) (alt (fin) (alt (fin) (fin))))))))))
theorem ran52 : lotB cx (tabD argD defD) byteSyms 60 3 lawArgs [(4, 8), (5, 2), (6, 0)] o52 = true := by kernel_rfl
end Go.Proofs.YtamlnmdmfcblnaaGreatDoor.ReplicaTellsB0
