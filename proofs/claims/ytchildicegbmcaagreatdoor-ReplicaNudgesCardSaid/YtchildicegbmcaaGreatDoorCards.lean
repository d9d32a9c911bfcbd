/-
  DERIVED. GIVEN WITH THE SEED: THE CARDS: each row of YtchildicegbmcaaGreatDoorRows.lean that lists a variable, with what it lists TIED to the program's text (the seventh form; the later family's looks); each row that meets fmt, with fmt's text TOLD by the authors' own Lean function (tested against real Go, not proved from fmt's source: count such statements apart). THE CARD IS WHAT COUNTS. Prove the row's statement (the work); the ties are given (YtchildicegbmcaaGreatDoorTie.lean); close each card by the builder's one call (the guide's Derived/Test/ToyasCard.lean, 'card_holds'). Laid BY PROGRAM, IN A SANDBOX (cutbox-door.mjs). By AI agents, Wed Nov 11 2026. No macro, syntax, notation, axiom, sorry.
-/
import Derived.Test.YtchildicegbmcaaGreatDoorRows
import GoSem.ClaimSeven
namespace Go.Proofs.YtchildicegbmcaaGreatDoor
namespace Rows

/-- THE TIED CARD OF 'palisadelaw20.ReplicaPrepares'. -/
def replicaPreparesCard : Claim7 := { stood := { row := replicaPreparesRow, standIns := [], harness := (true, "43e93d2c324f5932a2ac437dcf3ff22dc6c0cdd501e3d4dd7e07469547ece27c"), looks := false }, kinds := [], alts := [], laidByText := true, laidKinds := [.data, .data, .data], laidTests := true, laidLooks := .later }
def ReplicaPreparesCardSaid : Prop := Claim7.holds Tryz.pinned (.plain (OpenSpec.ofChange replicaPreparesSpec)) replicaPreparesCard

/-- THE TIED CARD OF 'palisadelaw20.ReplicaJoins'. -/
def replicaJoinsCard : Claim7 := { stood := { row := replicaJoinsRow, standIns := [], harness := (true, "43e93d2c324f5932a2ac437dcf3ff22dc6c0cdd501e3d4dd7e07469547ece27c"), looks := false }, kinds := [], alts := [], laidByText := true, laidKinds := [.data, .data, .data], laidTests := true, laidLooks := .later }
def ReplicaJoinsCardSaid : Prop := Claim7.holds Tryz.pinned (.plain (OpenSpec.ofChange replicaJoinsSpec)) replicaJoinsCard

/-- THE TIED CARD OF 'palisadelaw20.ReplicaNudges'. -/
def replicaNudgesCard : Claim7 := { stood := { row := replicaNudgesRow, standIns := [], harness := (true, "43e93d2c324f5932a2ac437dcf3ff22dc6c0cdd501e3d4dd7e07469547ece27c"), looks := false }, kinds := [], alts := [], laidByText := true, laidKinds := [.data, .data, .data], laidTests := true, laidLooks := .later }
def ReplicaNudgesCardSaid : Prop := Claim7.holds Tryz.pinned (.plain (OpenSpec.ofChange replicaNudgesSpec)) replicaNudgesCard

/-- THE TIED CARD OF 'palisadelaw20.ReplicaBehind'. -/
def replicaBehindCard : Claim7 := { stood := { row := replicaBehindRow, standIns := [], harness := (true, "43e93d2c324f5932a2ac437dcf3ff22dc6c0cdd501e3d4dd7e07469547ece27c"), looks := false }, kinds := [], alts := [], laidByText := true, laidKinds := [.data, .data, .data], laidTests := true, laidLooks := .later }
def ReplicaBehindCardSaid : Prop := Claim7.holds Tryz.pinned (.plain (OpenSpec.ofChange replicaBehindSpec)) replicaBehindCard

/-- THE TIED CARD OF 'palisadelaw20.ReplicaPatience'. -/
def replicaPatienceCard : Claim7 := { stood := { row := replicaPatienceRow, standIns := [], harness := (true, "43e93d2c324f5932a2ac437dcf3ff22dc6c0cdd501e3d4dd7e07469547ece27c"), looks := false }, kinds := [], alts := [], laidByText := true, laidKinds := [.data, .data, .data], laidTests := true, laidLooks := .later }
def ReplicaPatienceCardSaid : Prop := Claim7.holds Tryz.pinned (.plain (OpenSpec.ofChange replicaPatienceSpec)) replicaPatienceCard

/-- THE TIED CARD OF 'palisadelaw20.ReplicaHalts'. -/
def replicaHaltsCard : Claim7 := { stood := { row := replicaHaltsRow, standIns := [], harness := (true, "43e93d2c324f5932a2ac437dcf3ff22dc6c0cdd501e3d4dd7e07469547ece27c"), looks := false }, kinds := [], alts := [], laidByText := true, laidKinds := [.data, .data, .data], laidTests := true, laidLooks := .later }
def ReplicaHaltsCardSaid : Prop := Claim7.holds Tryz.pinned (.plain (OpenSpec.ofChange replicaHaltsSpec)) replicaHaltsCard

/-- THE SECOND FORM's CARD OF 'palisadelaw20.ReplicaPrepares'. -/
def replicaPreparesUptoCard : Claim7 := { stood := { row := replicaPreparesUptoRow, standIns := [], harness := (true, "43e93d2c324f5932a2ac437dcf3ff22dc6c0cdd501e3d4dd7e07469547ece27c"), looks := false }, kinds := [], alts := [], laidByText := true, laidKinds := [.data, .data, .data], laidTests := true, laidLooks := .later }
def ReplicaPreparesUptoCardSaid : Prop := Claim7.holds Tryz.pinned (.plain (OpenSpec.upto replicaPreparesSpec)) replicaPreparesUptoCard

/-- THE SECOND FORM's CARD OF 'palisadelaw20.ReplicaJoins'. -/
def replicaJoinsUptoCard : Claim7 := { stood := { row := replicaJoinsUptoRow, standIns := [], harness := (true, "43e93d2c324f5932a2ac437dcf3ff22dc6c0cdd501e3d4dd7e07469547ece27c"), looks := false }, kinds := [], alts := [], laidByText := true, laidKinds := [.data, .data, .data], laidTests := true, laidLooks := .later }
def ReplicaJoinsUptoCardSaid : Prop := Claim7.holds Tryz.pinned (.plain (OpenSpec.upto replicaJoinsSpec)) replicaJoinsUptoCard

/-- THE SECOND FORM's CARD OF 'palisadelaw20.ReplicaNudges'. -/
def replicaNudgesUptoCard : Claim7 := { stood := { row := replicaNudgesUptoRow, standIns := [], harness := (true, "43e93d2c324f5932a2ac437dcf3ff22dc6c0cdd501e3d4dd7e07469547ece27c"), looks := false }, kinds := [], alts := [], laidByText := true, laidKinds := [.data, .data, .data], laidTests := true, laidLooks := .later }
def ReplicaNudgesUptoCardSaid : Prop := Claim7.holds Tryz.pinned (.plain (OpenSpec.upto replicaNudgesSpec)) replicaNudgesUptoCard

/-- THE SECOND FORM's CARD OF 'palisadelaw20.ReplicaBehind'. -/
def replicaBehindUptoCard : Claim7 := { stood := { row := replicaBehindUptoRow, standIns := [], harness := (true, "43e93d2c324f5932a2ac437dcf3ff22dc6c0cdd501e3d4dd7e07469547ece27c"), looks := false }, kinds := [], alts := [], laidByText := true, laidKinds := [.data, .data, .data], laidTests := true, laidLooks := .later }
def ReplicaBehindUptoCardSaid : Prop := Claim7.holds Tryz.pinned (.plain (OpenSpec.upto replicaBehindSpec)) replicaBehindUptoCard

/-- THE SECOND FORM's CARD OF 'palisadelaw20.ReplicaPatience'. -/
def replicaPatienceUptoCard : Claim7 := { stood := { row := replicaPatienceUptoRow, standIns := [], harness := (true, "43e93d2c324f5932a2ac437dcf3ff22dc6c0cdd501e3d4dd7e07469547ece27c"), looks := false }, kinds := [], alts := [], laidByText := true, laidKinds := [.data, .data, .data], laidTests := true, laidLooks := .later }
def ReplicaPatienceUptoCardSaid : Prop := Claim7.holds Tryz.pinned (.plain (OpenSpec.upto replicaPatienceSpec)) replicaPatienceUptoCard

/-- THE SECOND FORM's CARD OF 'palisadelaw20.ReplicaHalts'. -/
def replicaHaltsUptoCard : Claim7 := { stood := { row := replicaHaltsUptoRow, standIns := [], harness := (true, "43e93d2c324f5932a2ac437dcf3ff22dc6c0cdd501e3d4dd7e07469547ece27c"), looks := false }, kinds := [], alts := [], laidByText := true, laidKinds := [.data, .data, .data], laidTests := true, laidLooks := .later }
def ReplicaHaltsUptoCardSaid : Prop := Claim7.holds Tryz.pinned (.plain (OpenSpec.upto replicaHaltsSpec)) replicaHaltsUptoCard
end Rows
end Go.Proofs.YtchildicegbmcaaGreatDoor
