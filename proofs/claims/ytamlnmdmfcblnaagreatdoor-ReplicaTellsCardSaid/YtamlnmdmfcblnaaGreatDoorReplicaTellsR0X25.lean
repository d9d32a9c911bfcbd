/- Written by a program of this claim's (a symbolic run): the runs of some of the law's cases. No condition. -/
import Derived.Test.YtamlnmdmfcblnaaGreatDoorReplicaTellsR0D
set_option linter.unusedVariables false
set_option maxRecDepth 100000
namespace Go.Proofs.YtamlnmdmfcblnaaGreatDoor.ReplicaTellsB0
open Go.Abs Go.RowKit Go.Abs.Orc
def o61 : Orc := run 36 (rng 7 0 (alt (fin) (alt (fin) (alt (fin) (alt (fin) (alt (fin) (alt (fin) (alt (fin) (alt (fin) (fin))))))))))
theorem ran61 : lotB cx (tabD argD defD) byteSyms 60 3 lawArgs [(4, 8), (5, 2), (6, 9)] o61 = true := by kernel_rfl
def o62 : Orc := run 36 (rng 7 0 (alt (fin) (alt (fin) (alt (fin) (alt (fin) (alt (fin) (alt (fin) (alt (fin) (alt (fin) (fin))))))))))
theorem ran62 : lotB cx (tabD argD defD) byteSyms 60 3 lawArgs [(4, 8), (5, 2), (6, 10)] o62 = true := by kernel_rfl
def o63 : Orc := run 36 (rng 7 0 (alt (fin) (alt (fin) (alt (fin) (alt (fin) (alt (fin) (alt (fin) (alt (fin) (alt (fin) (fin))))))))))
theorem ran63 : lotB cx (tabD argD defD) byteSyms 60 3 lawArgs [(4, 8), (5, 2), (6, 11)] o63 = true := by kernel_rfl
end Go.Proofs.YtamlnmdmfcblnaaGreatDoor.ReplicaTellsB0
