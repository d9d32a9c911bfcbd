/-
  DERIVED. GIVEN WITH THE SEED: THE CARDS: each row of YtamlnmdmfcblnaaGreatDoorRows.lean that lists a variable, with what it lists TIED to the program's text (the seventh form; the later family's looks); each row that meets fmt, with fmt's text TOLD by the authors' own Lean function (tested against real Go, not proved from fmt's source: count such statements apart). THE CARD IS WHAT COUNTS. Prove the row's statement (the work); the ties are given (YtamlnmdmfcblnaaGreatDoorTie.lean); close each card by the builder's one call (the guide's Derived/Test/ToyasCard.lean, 'card_holds'). Laid BY PROGRAM, IN A SANDBOX (cutbox-door.mjs). By AI agents, Wed Nov 11 2026. No macro, syntax, notation, axiom, sorry.
-/
import Derived.Test.YtamlnmdmfcblnaaGreatDoorRows
import GoSem.ClaimSeven
namespace Go.Proofs.YtamlnmdmfcblnaaGreatDoor
namespace Rows

/-- THE TIED CARD OF 'palisadelaw20.ReplicaTells'. -/
def replicaTellsCard : Claim7 := { stood := { row := replicaTellsRow, standIns := [], harness := (true, "f062b4e28f5527b6202bcfcff4a2093c1d30a1ec0e34f166e4932990a361b3b2"), looks := false }, kinds := [], alts := [], laidByText := true, laidKinds := [.data, .data, .data], laidTests := true, laidLooks := .later }
def ReplicaTellsCardSaid : Prop := Claim7.holds Tryz.pinned (.plain (OpenSpec.ofChange replicaTellsSpec)) replicaTellsCard

/-- THE TIED CARD OF 'palisadelaw20.ReplicaOrders'. -/
def replicaOrdersCard : Claim7 := { stood := { row := replicaOrdersRow, standIns := [], harness := (true, "f062b4e28f5527b6202bcfcff4a2093c1d30a1ec0e34f166e4932990a361b3b2"), looks := false }, kinds := [], alts := [], laidByText := true, laidKinds := [.data, .data, .data], laidTests := true, laidLooks := .later }
def ReplicaOrdersCardSaid : Prop := Claim7.holds Tryz.pinned (.plain (OpenSpec.ofChange replicaOrdersSpec)) replicaOrdersCard

/-- THE TIED CARD OF 'palisadelaw20.ReplicaGaps'. -/
def replicaGapsCard : Claim7 := { stood := { row := replicaGapsRow, standIns := [], harness := (true, "f062b4e28f5527b6202bcfcff4a2093c1d30a1ec0e34f166e4932990a361b3b2"), looks := false }, kinds := [], alts := [], laidByText := true, laidKinds := [.data, .data, .data], laidTests := true, laidLooks := .later }
def ReplicaGapsCardSaid : Prop := Claim7.holds Tryz.pinned (.plain (OpenSpec.ofChange replicaGapsSpec)) replicaGapsCard

/-- THE TIED CARD OF 'palisadelaw20.ReplicaLeads'. -/
def replicaLeadsCard : Claim7 := { stood := { row := replicaLeadsRow, standIns := [], harness := (true, "f062b4e28f5527b6202bcfcff4a2093c1d30a1ec0e34f166e4932990a361b3b2"), looks := false }, kinds := [], alts := [], laidByText := true, laidKinds := [.data, .data, .data], laidTests := true, laidLooks := .later }
def ReplicaLeadsCardSaid : Prop := Claim7.holds Tryz.pinned (.plain (OpenSpec.ofChange replicaLeadsSpec)) replicaLeadsCard

/-- THE TIED CARD OF 'palisadelaw20.ReplicaMarks'. -/
def replicaMarksCard : Claim7 := { stood := { row := replicaMarksRow, standIns := [], harness := (true, "f062b4e28f5527b6202bcfcff4a2093c1d30a1ec0e34f166e4932990a361b3b2"), looks := false }, kinds := [], alts := [], laidByText := true, laidKinds := [.data, .data, .data], laidTests := true, laidLooks := .later }
def ReplicaMarksCardSaid : Prop := Claim7.holds Tryz.pinned (.plain (OpenSpec.ofChange replicaMarksSpec)) replicaMarksCard

/-- THE TIED CARD OF 'palisadelaw20.ReplicaVotes'. -/
def replicaVotesCard : Claim7 := { stood := { row := replicaVotesRow, standIns := [], harness := (true, "f062b4e28f5527b6202bcfcff4a2093c1d30a1ec0e34f166e4932990a361b3b2"), looks := false }, kinds := [], alts := [], laidByText := true, laidKinds := [.data, .data, .data], laidTests := true, laidLooks := .later }
def ReplicaVotesCardSaid : Prop := Claim7.holds Tryz.pinned (.plain (OpenSpec.ofChange replicaVotesSpec)) replicaVotesCard

/-- THE SECOND FORM's CARD OF 'palisadelaw20.ReplicaTells'. -/
def replicaTellsUptoCard : Claim7 := { stood := { row := replicaTellsUptoRow, standIns := [], harness := (true, "f062b4e28f5527b6202bcfcff4a2093c1d30a1ec0e34f166e4932990a361b3b2"), looks := false }, kinds := [], alts := [], laidByText := true, laidKinds := [.data, .data, .data], laidTests := true, laidLooks := .later }
def ReplicaTellsUptoCardSaid : Prop := Claim7.holds Tryz.pinned (.plain (OpenSpec.upto replicaTellsSpec)) replicaTellsUptoCard

/-- THE SECOND FORM's CARD OF 'palisadelaw20.ReplicaOrders'. -/
def replicaOrdersUptoCard : Claim7 := { stood := { row := replicaOrdersUptoRow, standIns := [], harness := (true, "f062b4e28f5527b6202bcfcff4a2093c1d30a1ec0e34f166e4932990a361b3b2"), looks := false }, kinds := [], alts := [], laidByText := true, laidKinds := [.data, .data, .data], laidTests := true, laidLooks := .later }
def ReplicaOrdersUptoCardSaid : Prop := Claim7.holds Tryz.pinned (.plain (OpenSpec.upto replicaOrdersSpec)) replicaOrdersUptoCard

/-- THE SECOND FORM's CARD OF 'palisadelaw20.ReplicaGaps'. -/
def replicaGapsUptoCard : Claim7 := { stood := { row := replicaGapsUptoRow, standIns := [], harness := (true, "f062b4e28f5527b6202bcfcff4a2093c1d30a1ec0e34f166e4932990a361b3b2"), looks := false }, kinds := [], alts := [], laidByText := true, laidKinds := [.data, .data, .data], laidTests := true, laidLooks := .later }
def ReplicaGapsUptoCardSaid : Prop := Claim7.holds Tryz.pinned (.plain (OpenSpec.upto replicaGapsSpec)) replicaGapsUptoCard

/-- THE SECOND FORM's CARD OF 'palisadelaw20.ReplicaLeads'. -/
def replicaLeadsUptoCard : Claim7 := { stood := { row := replicaLeadsUptoRow, standIns := [], harness := (true, "f062b4e28f5527b6202bcfcff4a2093c1d30a1ec0e34f166e4932990a361b3b2"), looks := false }, kinds := [], alts := [], laidByText := true, laidKinds := [.data, .data, .data], laidTests := true, laidLooks := .later }
def ReplicaLeadsUptoCardSaid : Prop := Claim7.holds Tryz.pinned (.plain (OpenSpec.upto replicaLeadsSpec)) replicaLeadsUptoCard

/-- THE SECOND FORM's CARD OF 'palisadelaw20.ReplicaMarks'. -/
def replicaMarksUptoCard : Claim7 := { stood := { row := replicaMarksUptoRow, standIns := [], harness := (true, "f062b4e28f5527b6202bcfcff4a2093c1d30a1ec0e34f166e4932990a361b3b2"), looks := false }, kinds := [], alts := [], laidByText := true, laidKinds := [.data, .data, .data], laidTests := true, laidLooks := .later }
def ReplicaMarksUptoCardSaid : Prop := Claim7.holds Tryz.pinned (.plain (OpenSpec.upto replicaMarksSpec)) replicaMarksUptoCard

/-- THE SECOND FORM's CARD OF 'palisadelaw20.ReplicaVotes'. -/
def replicaVotesUptoCard : Claim7 := { stood := { row := replicaVotesUptoRow, standIns := [], harness := (true, "f062b4e28f5527b6202bcfcff4a2093c1d30a1ec0e34f166e4932990a361b3b2"), looks := false }, kinds := [], alts := [], laidByText := true, laidKinds := [.data, .data, .data], laidTests := true, laidLooks := .later }
def ReplicaVotesUptoCardSaid : Prop := Claim7.holds Tryz.pinned (.plain (OpenSpec.upto replicaVotesSpec)) replicaVotesUptoCard
end Rows
end Go.Proofs.YtamlnmdmfcblnaaGreatDoor
