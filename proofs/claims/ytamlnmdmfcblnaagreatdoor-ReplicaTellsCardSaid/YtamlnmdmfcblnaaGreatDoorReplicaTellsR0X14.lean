/- Written by a program of this claim's (a symbolic run): the runs of some of the law's cases. No condition. -/
import Derived.Test.YtamlnmdmfcblnaaGreatDoorReplicaTellsR0D
set_option linter.unusedVariables false
set_option maxRecDepth 100000
namespace Go.Proofs.YtamlnmdmfcblnaaGreatDoor.ReplicaTellsB0
open Go.Abs Go.RowKit Go.Abs.Orc
def o30 : Orc := run 36 (rng 7 0 (alt (fin) (alt (fin) (alt (fin) (alt (fin) (alt (fin) (alt (fin) (alt (fin) (alt (fin) (fin))))))))))
theorem ran30 : lotB cx (tabD argD defD) byteSyms 60 3 lawArgs [(4, 8), (5, 0), (6, 6)] o30 = true := by kernel_rfl
def o31 : Orc := run 36 (rng 7 0 (alt (fin) (alt (fin) (alt (fin) (alt (fin) (alt (fin) (alt (fin) (alt (fin) (alt (fin) (fin))))))))))
theorem ran31 : lotB cx (tabD argD defD) byteSyms 60 3 lawArgs [(4, 8), (5, 0), (6, 7)] o31 = true := by kernel_rfl
def o32 : Orc := run 36 (rng 7 0 (alt (fin) (alt (fin) (alt (fin) (alt (fin) (alt (fin) (alt (fin) (alt (fin) (alt (fin) (fin))))))))))
theorem ran32 : lotB cx (tabD argD defD) byteSyms 60 3 lawArgs [(4, 8), (5, 0), (6, 8)] o32 = true := by kernel_rfl
end Go.Proofs.YtamlnmdmfcblnaaGreatDoor.ReplicaTellsB0
