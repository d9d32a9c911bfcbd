/-
  DERIVED. GIVEN WITH THE SEED: THE CARDS: each row of YtaclhjpignfpfaaDoorRows.lean that lists a variable, with what it lists TIED to the program's text (the seventh form; the later family's looks); each row that meets fmt, with fmt's text TOLD by the authors' own Lean function (tested against real Go, not proved from fmt's source: count such statements apart). THE CARD IS WHAT COUNTS. Prove the row's statement (the work); the ties are given (YtaclhjpignfpfaaDoorTie.lean); close each card by the builder's one call (the guide's Derived/Test/ToyasCard.lean, 'card_holds'). Laid BY PROGRAM, IN A SANDBOX (cutbox-door.mjs). By AI agents, Wed Nov 11 2026. No macro, syntax, notation, axiom, sorry.
-/
import Derived.Test.YtaclhjpignfpfaaDoorRows
import GoSem.ClaimSeven
namespace Go.Proofs.YtaclhjpignfpfaaDoor
namespace Rows

/-- THE TIED CARD OF 'palisadelaw21.ClientHonest'. -/
def clientHonestCard : Claim7 := { stood := { row := clientHonestRow, standIns := [], harness := (true, "edcf28e44ba4074e72655d8d6415a46bf229f82427bca9c9c67c0d9b28a0fb82"), looks := false }, kinds := [], alts := [], laidByText := true, laidKinds := [.data, .data, .data], laidTests := true, laidLooks := .later }
def ClientHonestCardSaid : Prop := Claim7.holds Tryd.pinned (.plain (OpenSpec.ofChange clientHonestSpec)) clientHonestCard

/-- THE TIED CARD OF 'palisadelaw21.ClientTimes'. -/
def clientTimesCard : Claim7 := { stood := { row := clientTimesRow, standIns := [], harness := (true, "edcf28e44ba4074e72655d8d6415a46bf229f82427bca9c9c67c0d9b28a0fb82"), looks := false }, kinds := [], alts := [], laidByText := true, laidKinds := [.data, .data, .data], laidTests := true, laidLooks := .later }
def ClientTimesCardSaid : Prop := Claim7.holds Tryd.pinned (.plain (OpenSpec.ofChange clientTimesSpec)) clientTimesCard

/-- THE TIED CARD OF 'palisadelaw21.ClientFirst'. -/
def clientFirstCard : Claim7 := { stood := { row := clientFirstRow, standIns := [], harness := (true, "edcf28e44ba4074e72655d8d6415a46bf229f82427bca9c9c67c0d9b28a0fb82"), looks := false }, kinds := [], alts := [], laidByText := true, laidKinds := [.data, .data, .data], laidTests := true, laidLooks := .later }
def ClientFirstCardSaid : Prop := Claim7.holds Tryd.pinned (.plain (OpenSpec.ofChange clientFirstSpec)) clientFirstCard

/-- THE TIED CARD OF 'palisadelaw21.ClientPlays'. -/
def clientPlaysCard : Claim7 := { stood := { row := clientPlaysRow, standIns := [], harness := (true, "edcf28e44ba4074e72655d8d6415a46bf229f82427bca9c9c67c0d9b28a0fb82"), looks := false }, kinds := [], alts := [], laidByText := true, laidKinds := [.data, .data, .data], laidTests := true, laidLooks := .later }
def ClientPlaysCardSaid : Prop := Claim7.holds Tryd.pinned (.plain (OpenSpec.ofChange clientPlaysSpec)) clientPlaysCard

/-- THE TIED CARD OF 'palisadelaw21.ClientStray'. -/
def clientStrayCard : Claim7 := { stood := { row := clientStrayRow, standIns := [], harness := (true, "edcf28e44ba4074e72655d8d6415a46bf229f82427bca9c9c67c0d9b28a0fb82"), looks := false }, kinds := [], alts := [], laidByText := true, laidKinds := [.data, .data, .data], laidTests := true, laidLooks := .later }
def ClientStrayCardSaid : Prop := Claim7.holds Tryd.pinned (.plain (OpenSpec.ofChange clientStraySpec)) clientStrayCard

/-- THE SECOND FORM's CARD OF 'palisadelaw21.ClientHonest'. -/
def clientHonestUptoCard : Claim7 := { stood := { row := clientHonestUptoRow, standIns := [], harness := (true, "edcf28e44ba4074e72655d8d6415a46bf229f82427bca9c9c67c0d9b28a0fb82"), looks := false }, kinds := [], alts := [], laidByText := true, laidKinds := [.data, .data, .data], laidTests := true, laidLooks := .later }
def ClientHonestUptoCardSaid : Prop := Claim7.holds Tryd.pinned (.plain (OpenSpec.upto clientHonestSpec)) clientHonestUptoCard

/-- THE SECOND FORM's CARD OF 'palisadelaw21.ClientTimes'. -/
def clientTimesUptoCard : Claim7 := { stood := { row := clientTimesUptoRow, standIns := [], harness := (true, "edcf28e44ba4074e72655d8d6415a46bf229f82427bca9c9c67c0d9b28a0fb82"), looks := false }, kinds := [], alts := [], laidByText := true, laidKinds := [.data, .data, .data], laidTests := true, laidLooks := .later }
def ClientTimesUptoCardSaid : Prop := Claim7.holds Tryd.pinned (.plain (OpenSpec.upto clientTimesSpec)) clientTimesUptoCard

/-- THE SECOND FORM's CARD OF 'palisadelaw21.ClientFirst'. -/
def clientFirstUptoCard : Claim7 := { stood := { row := clientFirstUptoRow, standIns := [], harness := (true, "edcf28e44ba4074e72655d8d6415a46bf229f82427bca9c9c67c0d9b28a0fb82"), looks := false }, kinds := [], alts := [], laidByText := true, laidKinds := [.data, .data, .data], laidTests := true, laidLooks := .later }
def ClientFirstUptoCardSaid : Prop := Claim7.holds Tryd.pinned (.plain (OpenSpec.upto clientFirstSpec)) clientFirstUptoCard

/-- THE SECOND FORM's CARD OF 'palisadelaw21.ClientPlays'. -/
def clientPlaysUptoCard : Claim7 := { stood := { row := clientPlaysUptoRow, standIns := [], harness := (true, "edcf28e44ba4074e72655d8d6415a46bf229f82427bca9c9c67c0d9b28a0fb82"), looks := false }, kinds := [], alts := [], laidByText := true, laidKinds := [.data, .data, .data], laidTests := true, laidLooks := .later }
def ClientPlaysUptoCardSaid : Prop := Claim7.holds Tryd.pinned (.plain (OpenSpec.upto clientPlaysSpec)) clientPlaysUptoCard

/-- THE SECOND FORM's CARD OF 'palisadelaw21.ClientStray'. -/
def clientStrayUptoCard : Claim7 := { stood := { row := clientStrayUptoRow, standIns := [], harness := (true, "edcf28e44ba4074e72655d8d6415a46bf229f82427bca9c9c67c0d9b28a0fb82"), looks := false }, kinds := [], alts := [], laidByText := true, laidKinds := [.data, .data, .data], laidTests := true, laidLooks := .later }
def ClientStrayUptoCardSaid : Prop := Claim7.holds Tryd.pinned (.plain (OpenSpec.upto clientStraySpec)) clientStrayUptoCard
end Rows
end Go.Proofs.YtaclhjpignfpfaaDoor
