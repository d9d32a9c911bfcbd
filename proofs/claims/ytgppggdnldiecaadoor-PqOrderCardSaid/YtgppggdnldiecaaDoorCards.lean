/-
  DERIVED. GIVEN WITH THE SEED: THE CARDS: each row of YtgppggdnldiecaaDoorRows.lean that lists a variable, with what it lists TIED to the program's text (the seventh form; the later family's looks); each row that meets fmt, with fmt's text TOLD by the authors' own Lean function (tested against real Go, not proved from fmt's source: count such statements apart). THE CARD IS WHAT COUNTS. Prove the row's statement (the work); the ties are given (YtgppggdnldiecaaDoorTie.lean); close each card by the builder's one call (the guide's Derived/Test/ToyasCard.lean, 'card_holds'). Laid BY PROGRAM, IN A SANDBOX (cutbox-door.mjs). By AI agents, Wed Nov 11 2026. No macro, syntax, notation, axiom, sorry.
-/
import Derived.Test.YtgppggdnldiecaaDoorRows
import GoSem.ClaimSeven
namespace Go.Proofs.YtgppggdnldiecaaDoor
namespace Rows

/-- THE TIED CARD OF 'palisadelaw14.PqKeeps'. -/
def pqKeepsCard : Claim7 := { stood := { row := pqKeepsRow, standIns := [], harness := (true, "301d0da71df1b3e34d90c0a81a102acd27e3e7bc78f0c5fa0930ae5840ce9ca9"), looks := false }, kinds := [], alts := [], laidByText := true, laidKinds := [.data, .data, .data], laidTests := true, laidLooks := .later }
def PqKeepsCardSaid : Prop := Claim7.holds Tryd.pinned (.plain (OpenSpec.ofChange pqKeepsSpec)) pqKeepsCard

/-- THE TIED CARD OF 'palisadelaw14.PqOrder'. -/
def pqOrderCard : Claim7 := { stood := { row := pqOrderRow, standIns := [], harness := (true, "301d0da71df1b3e34d90c0a81a102acd27e3e7bc78f0c5fa0930ae5840ce9ca9"), looks := false }, kinds := [], alts := [], laidByText := true, laidKinds := [.data, .data, .data], laidTests := true, laidLooks := .later }
def PqOrderCardSaid : Prop := Claim7.holds Tryd.pinned (.plain (OpenSpec.ofChange pqOrderSpec)) pqOrderCard

/-- THE TIED CARD OF 'palisadelaw14.PqPlays'. -/
def pqPlaysCard : Claim7 := { stood := { row := pqPlaysRow, standIns := [], harness := (true, "301d0da71df1b3e34d90c0a81a102acd27e3e7bc78f0c5fa0930ae5840ce9ca9"), looks := false }, kinds := [], alts := [], laidByText := true, laidKinds := [.data, .data, .data], laidTests := true, laidLooks := .later }
def PqPlaysCardSaid : Prop := Claim7.holds Tryd.pinned (.plain (OpenSpec.ofChange pqPlaysSpec)) pqPlaysCard

/-- THE TIED CARD OF 'palisadelaw14.PqBounds'. -/
def pqBoundsCard : Claim7 := { stood := { row := pqBoundsRow, standIns := [], harness := (true, "301d0da71df1b3e34d90c0a81a102acd27e3e7bc78f0c5fa0930ae5840ce9ca9"), looks := false }, kinds := [], alts := [], laidByText := true, laidKinds := [.data, .data, .data], laidTests := true, laidLooks := .later }
def PqBoundsCardSaid : Prop := Claim7.holds Tryd.pinned (.plain (OpenSpec.ofChange pqBoundsSpec)) pqBoundsCard

/-- THE SECOND FORM's CARD OF 'palisadelaw14.PqKeeps'. -/
def pqKeepsUptoCard : Claim7 := { stood := { row := pqKeepsUptoRow, standIns := [], harness := (true, "301d0da71df1b3e34d90c0a81a102acd27e3e7bc78f0c5fa0930ae5840ce9ca9"), looks := false }, kinds := [], alts := [], laidByText := true, laidKinds := [.data, .data, .data], laidTests := true, laidLooks := .later }
def PqKeepsUptoCardSaid : Prop := Claim7.holds Tryd.pinned (.plain (OpenSpec.upto pqKeepsSpec)) pqKeepsUptoCard

/-- THE SECOND FORM's CARD OF 'palisadelaw14.PqOrder'. -/
def pqOrderUptoCard : Claim7 := { stood := { row := pqOrderUptoRow, standIns := [], harness := (true, "301d0da71df1b3e34d90c0a81a102acd27e3e7bc78f0c5fa0930ae5840ce9ca9"), looks := false }, kinds := [], alts := [], laidByText := true, laidKinds := [.data, .data, .data], laidTests := true, laidLooks := .later }
def PqOrderUptoCardSaid : Prop := Claim7.holds Tryd.pinned (.plain (OpenSpec.upto pqOrderSpec)) pqOrderUptoCard

/-- THE SECOND FORM's CARD OF 'palisadelaw14.PqPlays'. -/
def pqPlaysUptoCard : Claim7 := { stood := { row := pqPlaysUptoRow, standIns := [], harness := (true, "301d0da71df1b3e34d90c0a81a102acd27e3e7bc78f0c5fa0930ae5840ce9ca9"), looks := false }, kinds := [], alts := [], laidByText := true, laidKinds := [.data, .data, .data], laidTests := true, laidLooks := .later }
def PqPlaysUptoCardSaid : Prop := Claim7.holds Tryd.pinned (.plain (OpenSpec.upto pqPlaysSpec)) pqPlaysUptoCard

/-- THE SECOND FORM's CARD OF 'palisadelaw14.PqBounds'. -/
def pqBoundsUptoCard : Claim7 := { stood := { row := pqBoundsUptoRow, standIns := [], harness := (true, "301d0da71df1b3e34d90c0a81a102acd27e3e7bc78f0c5fa0930ae5840ce9ca9"), looks := false }, kinds := [], alts := [], laidByText := true, laidKinds := [.data, .data, .data], laidTests := true, laidLooks := .later }
def PqBoundsUptoCardSaid : Prop := Claim7.holds Tryd.pinned (.plain (OpenSpec.upto pqBoundsSpec)) pqBoundsUptoCard
end Rows
end Go.Proofs.YtgppggdnldiecaaDoor
