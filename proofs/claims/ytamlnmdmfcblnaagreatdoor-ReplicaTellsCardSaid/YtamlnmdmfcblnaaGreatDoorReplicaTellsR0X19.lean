/- Written by a program of this claim's (a symbolic run): the runs of some of the law's cases. No condition. -/
import Derived.Test.YtamlnmdmfcblnaaGreatDoorReplicaTellsR0D
set_option linter.unusedVariables false
set_option maxRecDepth 100000
namespace Go.Proofs.YtamlnmdmfcblnaaGreatDoor.ReplicaTellsB0
open Go.Abs Go.RowKit Go.Abs.Orc
def o44 : Orc := run 36 (rng 7 0 (alt (fin) (alt (fin) (alt (fin) (alt (fin) (alt (fin) (alt (fin) (alt (fin) (alt (fin) (fin))))))))))
theorem ran44 : lotB cx (tabD argD defD) byteSyms 60 3 lawArgs [(4, 8), (5, 1), (6, 6)] o44 = true := by kernel_rfl
def o45 : Orc := run 36 (rng 7 0 (alt (fin) (alt (fin) (alt (fin) (alt (fin) (alt (fin) (alt (fin) (alt (fin) (alt (fin) (fin))))))))))
theorem ran45 : lotB cx (tabD argD defD) byteSyms 60 3 lawArgs [(4, 8), (5, 1), (6, 7)] o45 = true := by kernel_rfl
def o46 : Orc := run 36 (rng 7 0 (alt (fin) (alt (fin) (alt (fin) (alt (fin) (alt (fin) (alt (fin) (alt (fin) (alt (fin) (fin))))))))))
theorem ran46 : lotB cx (tabD argD defD) byteSyms 60 3 lawArgs [(4, 8), (5, 1), (6, 8)] o46 = true := by kernel_rfl
end Go.Proofs.YtamlnmdmfcblnaaGreatDoor.ReplicaTellsB0
