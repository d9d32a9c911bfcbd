/-
  DERIVED. GIVEN WITH THE SEED: THE CARDS: each row of YtgcifbpdedlfoaaGreatDoorRows.lean that lists a variable, with what it lists TIED to the program's text (the seventh form; the later family's looks); each row that meets fmt, with fmt's text TOLD by the authors' own Lean function (tested against real Go, not proved from fmt's source: count such statements apart). THE CARD IS WHAT COUNTS. Prove the row's statement (the work); the ties are given (YtgcifbpdedlfoaaGreatDoorTie.lean); close each card by the builder's one call (the guide's Derived/Test/ToyasCard.lean, 'card_holds'). Laid BY PROGRAM, IN A SANDBOX (cutbox-door.mjs). By AI agents, Wed Nov 11 2026. No macro, syntax, notation, axiom, sorry.
-/
import Derived.Test.YtgcifbpdedlfoaaGreatDoorRows
import GoSem.ClaimSeven
namespace Go.Proofs.YtgcifbpdedlfoaaGreatDoor
namespace Rows

/-- THE TIED CARD OF 'palisadelaw20.ReplicaBegins'. -/
def replicaBeginsCard : Claim7 := { stood := { row := replicaBeginsRow, standIns := [], harness := (true, "d59b6bc2202799a5c632d23831b54e48595e09068c7249e6fed968d0fa27ebd3"), looks := false }, kinds := [], alts := [], laidByText := true, laidKinds := [.data, .data, .data], laidTests := true, laidLooks := .later }
def ReplicaBeginsCardSaid : Prop := Claim7.holds Tryz.pinned (.plain (OpenSpec.ofChange replicaBeginsSpec)) replicaBeginsCard

/-- THE TIED CARD OF 'palisadelaw20.ReplicaKeeps'. -/
def replicaKeepsCard : Claim7 := { stood := { row := replicaKeepsRow, standIns := [], harness := (true, "d59b6bc2202799a5c632d23831b54e48595e09068c7249e6fed968d0fa27ebd3"), looks := false }, kinds := [], alts := [], laidByText := true, laidKinds := [.data, .data, .data], laidTests := true, laidLooks := .later }
def ReplicaKeepsCardSaid : Prop := Claim7.holds Tryz.pinned (.plain (OpenSpec.ofChange replicaKeepsSpec)) replicaKeepsCard

/-- THE TIED CARD OF 'palisadelaw20.ReplicaCommits'. -/
def replicaCommitsCard : Claim7 := { stood := { row := replicaCommitsRow, standIns := [], harness := (true, "d59b6bc2202799a5c632d23831b54e48595e09068c7249e6fed968d0fa27ebd3"), looks := false }, kinds := [], alts := [], laidByText := true, laidKinds := [.data, .data, .data], laidTests := true, laidLooks := .later }
def ReplicaCommitsCardSaid : Prop := Claim7.holds Tryz.pinned (.plain (OpenSpec.ofChange replicaCommitsSpec)) replicaCommitsCard

/-- THE TIED CARD OF 'palisadelaw20.ReplicaEnters'. -/
def replicaEntersCard : Claim7 := { stood := { row := replicaEntersRow, standIns := [], harness := (true, "d59b6bc2202799a5c632d23831b54e48595e09068c7249e6fed968d0fa27ebd3"), looks := false }, kinds := [], alts := [], laidByText := true, laidKinds := [.data, .data, .data], laidTests := true, laidLooks := .later }
def ReplicaEntersCardSaid : Prop := Claim7.holds Tryz.pinned (.plain (OpenSpec.ofChange replicaEntersSpec)) replicaEntersCard

/-- THE TIED CARD OF 'palisadelaw20.ReplicaAgain'. -/
def replicaAgainCard : Claim7 := { stood := { row := replicaAgainRow, standIns := [], harness := (true, "d59b6bc2202799a5c632d23831b54e48595e09068c7249e6fed968d0fa27ebd3"), looks := false }, kinds := [], alts := [], laidByText := true, laidKinds := [.data, .data, .data], laidTests := true, laidLooks := .later }
def ReplicaAgainCardSaid : Prop := Claim7.holds Tryz.pinned (.plain (OpenSpec.ofChange replicaAgainSpec)) replicaAgainCard

/-- THE TIED CARD OF 'palisadelaw20.ReplicaAsks'. -/
def replicaAsksCard : Claim7 := { stood := { row := replicaAsksRow, standIns := [], harness := (true, "d59b6bc2202799a5c632d23831b54e48595e09068c7249e6fed968d0fa27ebd3"), looks := false }, kinds := [], alts := [], laidByText := true, laidKinds := [.data, .data, .data], laidTests := true, laidLooks := .later }
def ReplicaAsksCardSaid : Prop := Claim7.holds Tryz.pinned (.plain (OpenSpec.ofChange replicaAsksSpec)) replicaAsksCard

/-- THE SECOND FORM's CARD OF 'palisadelaw20.ReplicaBegins'. -/
def replicaBeginsUptoCard : Claim7 := { stood := { row := replicaBeginsUptoRow, standIns := [], harness := (true, "d59b6bc2202799a5c632d23831b54e48595e09068c7249e6fed968d0fa27ebd3"), looks := false }, kinds := [], alts := [], laidByText := true, laidKinds := [.data, .data, .data], laidTests := true, laidLooks := .later }
def ReplicaBeginsUptoCardSaid : Prop := Claim7.holds Tryz.pinned (.plain (OpenSpec.upto replicaBeginsSpec)) replicaBeginsUptoCard

/-- THE SECOND FORM's CARD OF 'palisadelaw20.ReplicaKeeps'. -/
def replicaKeepsUptoCard : Claim7 := { stood := { row := replicaKeepsUptoRow, standIns := [], harness := (true, "d59b6bc2202799a5c632d23831b54e48595e09068c7249e6fed968d0fa27ebd3"), looks := false }, kinds := [], alts := [], laidByText := true, laidKinds := [.data, .data, .data], laidTests := true, laidLooks := .later }
def ReplicaKeepsUptoCardSaid : Prop := Claim7.holds Tryz.pinned (.plain (OpenSpec.upto replicaKeepsSpec)) replicaKeepsUptoCard

/-- THE SECOND FORM's CARD OF 'palisadelaw20.ReplicaCommits'. -/
def replicaCommitsUptoCard : Claim7 := { stood := { row := replicaCommitsUptoRow, standIns := [], harness := (true, "d59b6bc2202799a5c632d23831b54e48595e09068c7249e6fed968d0fa27ebd3"), looks := false }, kinds := [], alts := [], laidByText := true, laidKinds := [.data, .data, .data], laidTests := true, laidLooks := .later }
def ReplicaCommitsUptoCardSaid : Prop := Claim7.holds Tryz.pinned (.plain (OpenSpec.upto replicaCommitsSpec)) replicaCommitsUptoCard

/-- THE SECOND FORM's CARD OF 'palisadelaw20.ReplicaEnters'. -/
def replicaEntersUptoCard : Claim7 := { stood := { row := replicaEntersUptoRow, standIns := [], harness := (true, "d59b6bc2202799a5c632d23831b54e48595e09068c7249e6fed968d0fa27ebd3"), looks := false }, kinds := [], alts := [], laidByText := true, laidKinds := [.data, .data, .data], laidTests := true, laidLooks := .later }
def ReplicaEntersUptoCardSaid : Prop := Claim7.holds Tryz.pinned (.plain (OpenSpec.upto replicaEntersSpec)) replicaEntersUptoCard

/-- THE SECOND FORM's CARD OF 'palisadelaw20.ReplicaAgain'. -/
def replicaAgainUptoCard : Claim7 := { stood := { row := replicaAgainUptoRow, standIns := [], harness := (true, "d59b6bc2202799a5c632d23831b54e48595e09068c7249e6fed968d0fa27ebd3"), looks := false }, kinds := [], alts := [], laidByText := true, laidKinds := [.data, .data, .data], laidTests := true, laidLooks := .later }
def ReplicaAgainUptoCardSaid : Prop := Claim7.holds Tryz.pinned (.plain (OpenSpec.upto replicaAgainSpec)) replicaAgainUptoCard

/-- THE SECOND FORM's CARD OF 'palisadelaw20.ReplicaAsks'. -/
def replicaAsksUptoCard : Claim7 := { stood := { row := replicaAsksUptoRow, standIns := [], harness := (true, "d59b6bc2202799a5c632d23831b54e48595e09068c7249e6fed968d0fa27ebd3"), looks := false }, kinds := [], alts := [], laidByText := true, laidKinds := [.data, .data, .data], laidTests := true, laidLooks := .later }
def ReplicaAsksUptoCardSaid : Prop := Claim7.holds Tryz.pinned (.plain (OpenSpec.upto replicaAsksSpec)) replicaAsksUptoCard
end Rows
end Go.Proofs.YtgcifbpdedlfoaaGreatDoor
