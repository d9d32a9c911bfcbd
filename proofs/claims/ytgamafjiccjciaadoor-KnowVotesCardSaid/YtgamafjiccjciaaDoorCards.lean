/-
  DERIVED. GIVEN WITH THE SEED: THE CARDS: each row of YtgamafjiccjciaaDoorRows.lean that lists a variable, with what it lists TIED to the program's text (the seventh form; the later family's looks); each row that meets fmt, with fmt's text TOLD by the authors' own Lean function (tested against real Go, not proved from fmt's source: count such statements apart). THE CARD IS WHAT COUNTS. Prove the row's statement (the work); the ties are given (YtgamafjiccjciaaDoorTie.lean); close each card by the builder's one call (the guide's Derived/Test/ToyasCard.lean, 'card_holds'). Laid BY PROGRAM, IN A SANDBOX (cutbox-door.mjs). By AI agents, Wed Nov 11 2026. No macro, syntax, notation, axiom, sorry.
-/
import Derived.Test.YtgamafjiccjciaaDoorRows
import GoSem.ClaimSeven
namespace Go.Proofs.YtgamafjiccjciaaDoor
namespace Rows

/-- THE TIED CARD OF 'palisadelaw4.KnowOwn'. -/
def knowOwnCard : Claim7 := { stood := { row := knowOwnRow, standIns := [], harness := (true, "4bf643b039981b1e1cb4e85cc942b031f8550bc397c0bbf7000f2e7ecb2a3dd0"), looks := false }, kinds := [], alts := [], laidByText := true, laidKinds := [.data, .data, .data], laidTests := true, laidLooks := .later }
def KnowOwnCardSaid : Prop := Claim7.holds Tryd.pinned (.plain (OpenSpec.ofChange knowOwnSpec)) knowOwnCard

/-- THE TIED CARD OF 'palisadelaw4.KnowVotes'. -/
def knowVotesCard : Claim7 := { stood := { row := knowVotesRow, standIns := [], harness := (true, "4bf643b039981b1e1cb4e85cc942b031f8550bc397c0bbf7000f2e7ecb2a3dd0"), looks := false }, kinds := [], alts := [], laidByText := true, laidKinds := [.data, .data, .data], laidTests := true, laidLooks := .later }
def KnowVotesCardSaid : Prop := Claim7.holds Tryd.pinned (.plain (OpenSpec.ofChange knowVotesSpec)) knowVotesCard

/-- THE TIED CARD OF 'palisadelaw4.KnowReplays'. -/
def knowReplaysCard : Claim7 := { stood := { row := knowReplaysRow, standIns := [], harness := (true, "4bf643b039981b1e1cb4e85cc942b031f8550bc397c0bbf7000f2e7ecb2a3dd0"), looks := false }, kinds := [], alts := [], laidByText := true, laidKinds := [.data, .data, .data], laidTests := true, laidLooks := .later }
def KnowReplaysCardSaid : Prop := Claim7.holds Tryd.pinned (.plain (OpenSpec.ofChange knowReplaysSpec)) knowReplaysCard

/-- THE SECOND FORM's CARD OF 'palisadelaw4.KnowOwn'. -/
def knowOwnUptoCard : Claim7 := { stood := { row := knowOwnUptoRow, standIns := [], harness := (true, "4bf643b039981b1e1cb4e85cc942b031f8550bc397c0bbf7000f2e7ecb2a3dd0"), looks := false }, kinds := [], alts := [], laidByText := true, laidKinds := [.data, .data, .data], laidTests := true, laidLooks := .later }
def KnowOwnUptoCardSaid : Prop := Claim7.holds Tryd.pinned (.plain (OpenSpec.upto knowOwnSpec)) knowOwnUptoCard

/-- THE SECOND FORM's CARD OF 'palisadelaw4.KnowVotes'. -/
def knowVotesUptoCard : Claim7 := { stood := { row := knowVotesUptoRow, standIns := [], harness := (true, "4bf643b039981b1e1cb4e85cc942b031f8550bc397c0bbf7000f2e7ecb2a3dd0"), looks := false }, kinds := [], alts := [], laidByText := true, laidKinds := [.data, .data, .data], laidTests := true, laidLooks := .later }
def KnowVotesUptoCardSaid : Prop := Claim7.holds Tryd.pinned (.plain (OpenSpec.upto knowVotesSpec)) knowVotesUptoCard

/-- THE SECOND FORM's CARD OF 'palisadelaw4.KnowReplays'. -/
def knowReplaysUptoCard : Claim7 := { stood := { row := knowReplaysUptoRow, standIns := [], harness := (true, "4bf643b039981b1e1cb4e85cc942b031f8550bc397c0bbf7000f2e7ecb2a3dd0"), looks := false }, kinds := [], alts := [], laidByText := true, laidKinds := [.data, .data, .data], laidTests := true, laidLooks := .later }
def KnowReplaysUptoCardSaid : Prop := Claim7.holds Tryd.pinned (.plain (OpenSpec.upto knowReplaysSpec)) knowReplaysUptoCard
end Rows
end Go.Proofs.YtgamafjiccjciaaDoor
