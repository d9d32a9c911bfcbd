/-
  DERIVED. GIVEN WITH THE SEED: THE CARDS: each row of YtnccccpjhoaikaaGreatDoorRows.lean that lists a variable, with what it lists TIED to the program's text (the seventh form; the later family's looks); each row that meets fmt, with fmt's text TOLD by the authors' own Lean function (tested against real Go, not proved from fmt's source: count such statements apart). THE CARD IS WHAT COUNTS. Prove the row's statement (the work); the ties are given (YtnccccpjhoaikaaGreatDoorTie.lean); close each card by the builder's one call (the guide's Derived/Test/ToyasCard.lean, 'card_holds'). Laid BY PROGRAM, IN A SANDBOX (cutbox-door.mjs). By AI agents, Wed Nov 11 2026. No macro, syntax, notation, axiom, sorry.
-/
import Derived.Test.YtnccccpjhoaikaaGreatDoorRows
import GoSem.ClaimSeven
namespace Go.Proofs.YtnccccpjhoaikaaGreatDoor
namespace Rows

/-- THE TIED CARD OF 'palisadelaw20.ReplicaKeeps'. -/
def replicaKeepsCard : Claim7 := { stood := { row := replicaKeepsRow, standIns := [], harness := (true, "271aa3d4d82c7d93e19256f55ccb91b66e7c072ba0f06a4b54374de550a0167e"), looks := false }, kinds := [], alts := [], laidByText := true, laidKinds := [.data, .data, .data], laidTests := true, laidLooks := .later }
def ReplicaKeepsCardSaid : Prop := Claim7.holds Tryz.pinned (.plain (OpenSpec.ofChange replicaKeepsSpec)) replicaKeepsCard

/-- THE TIED CARD OF 'palisadelaw20.ReplicaEnters'. -/
def replicaEntersCard : Claim7 := { stood := { row := replicaEntersRow, standIns := [], harness := (true, "271aa3d4d82c7d93e19256f55ccb91b66e7c072ba0f06a4b54374de550a0167e"), looks := false }, kinds := [], alts := [], laidByText := true, laidKinds := [.data, .data, .data], laidTests := true, laidLooks := .later }
def ReplicaEntersCardSaid : Prop := Claim7.holds Tryz.pinned (.plain (OpenSpec.ofChange replicaEntersSpec)) replicaEntersCard

/-- THE TIED CARD OF 'palisadelaw20.ReplicaStranger'. -/
def replicaStrangerCard : Claim7 := { stood := { row := replicaStrangerRow, standIns := [], harness := (true, "271aa3d4d82c7d93e19256f55ccb91b66e7c072ba0f06a4b54374de550a0167e"), looks := false }, kinds := [], alts := [], laidByText := true, laidKinds := [.data, .data, .data], laidTests := true, laidLooks := .later }
def ReplicaStrangerCardSaid : Prop := Claim7.holds Tryz.pinned (.plain (OpenSpec.ofChange replicaStrangerSpec)) replicaStrangerCard

/-- THE TIED CARD OF 'palisadelaw20.ReplicaAsks'. -/
def replicaAsksCard : Claim7 := { stood := { row := replicaAsksRow, standIns := [], harness := (true, "271aa3d4d82c7d93e19256f55ccb91b66e7c072ba0f06a4b54374de550a0167e"), looks := false }, kinds := [], alts := [], laidByText := true, laidKinds := [.data, .data, .data], laidTests := true, laidLooks := .later }
def ReplicaAsksCardSaid : Prop := Claim7.holds Tryz.pinned (.plain (OpenSpec.ofChange replicaAsksSpec)) replicaAsksCard

/-- THE TIED CARD OF 'palisadelaw20.ReplicaHalts'. -/
def replicaHaltsCard : Claim7 := { stood := { row := replicaHaltsRow, standIns := [], harness := (true, "271aa3d4d82c7d93e19256f55ccb91b66e7c072ba0f06a4b54374de550a0167e"), looks := false }, kinds := [], alts := [], laidByText := true, laidKinds := [.data, .data, .data], laidTests := true, laidLooks := .later }
def ReplicaHaltsCardSaid : Prop := Claim7.holds Tryz.pinned (.plain (OpenSpec.ofChange replicaHaltsSpec)) replicaHaltsCard

/-- THE TIED CARD OF 'palisadelaw20.ReplicaBlank'. -/
def replicaBlankCard : Claim7 := { stood := { row := replicaBlankRow, standIns := [], harness := (true, "271aa3d4d82c7d93e19256f55ccb91b66e7c072ba0f06a4b54374de550a0167e"), looks := false }, kinds := [], alts := [], laidByText := true, laidKinds := [.data, .data, .data], laidTests := true, laidLooks := .later }
def ReplicaBlankCardSaid : Prop := Claim7.holds Tryz.pinned (.plain (OpenSpec.ofChange replicaBlankSpec)) replicaBlankCard

/-- THE SECOND FORM's CARD OF 'palisadelaw20.ReplicaKeeps'. -/
def replicaKeepsUptoCard : Claim7 := { stood := { row := replicaKeepsUptoRow, standIns := [], harness := (true, "271aa3d4d82c7d93e19256f55ccb91b66e7c072ba0f06a4b54374de550a0167e"), looks := false }, kinds := [], alts := [], laidByText := true, laidKinds := [.data, .data, .data], laidTests := true, laidLooks := .later }
def ReplicaKeepsUptoCardSaid : Prop := Claim7.holds Tryz.pinned (.plain (OpenSpec.upto replicaKeepsSpec)) replicaKeepsUptoCard

/-- THE SECOND FORM's CARD OF 'palisadelaw20.ReplicaEnters'. -/
def replicaEntersUptoCard : Claim7 := { stood := { row := replicaEntersUptoRow, standIns := [], harness := (true, "271aa3d4d82c7d93e19256f55ccb91b66e7c072ba0f06a4b54374de550a0167e"), looks := false }, kinds := [], alts := [], laidByText := true, laidKinds := [.data, .data, .data], laidTests := true, laidLooks := .later }
def ReplicaEntersUptoCardSaid : Prop := Claim7.holds Tryz.pinned (.plain (OpenSpec.upto replicaEntersSpec)) replicaEntersUptoCard

/-- THE SECOND FORM's CARD OF 'palisadelaw20.ReplicaStranger'. -/
def replicaStrangerUptoCard : Claim7 := { stood := { row := replicaStrangerUptoRow, standIns := [], harness := (true, "271aa3d4d82c7d93e19256f55ccb91b66e7c072ba0f06a4b54374de550a0167e"), looks := false }, kinds := [], alts := [], laidByText := true, laidKinds := [.data, .data, .data], laidTests := true, laidLooks := .later }
def ReplicaStrangerUptoCardSaid : Prop := Claim7.holds Tryz.pinned (.plain (OpenSpec.upto replicaStrangerSpec)) replicaStrangerUptoCard

/-- THE SECOND FORM's CARD OF 'palisadelaw20.ReplicaAsks'. -/
def replicaAsksUptoCard : Claim7 := { stood := { row := replicaAsksUptoRow, standIns := [], harness := (true, "271aa3d4d82c7d93e19256f55ccb91b66e7c072ba0f06a4b54374de550a0167e"), looks := false }, kinds := [], alts := [], laidByText := true, laidKinds := [.data, .data, .data], laidTests := true, laidLooks := .later }
def ReplicaAsksUptoCardSaid : Prop := Claim7.holds Tryz.pinned (.plain (OpenSpec.upto replicaAsksSpec)) replicaAsksUptoCard

/-- THE SECOND FORM's CARD OF 'palisadelaw20.ReplicaHalts'. -/
def replicaHaltsUptoCard : Claim7 := { stood := { row := replicaHaltsUptoRow, standIns := [], harness := (true, "271aa3d4d82c7d93e19256f55ccb91b66e7c072ba0f06a4b54374de550a0167e"), looks := false }, kinds := [], alts := [], laidByText := true, laidKinds := [.data, .data, .data], laidTests := true, laidLooks := .later }
def ReplicaHaltsUptoCardSaid : Prop := Claim7.holds Tryz.pinned (.plain (OpenSpec.upto replicaHaltsSpec)) replicaHaltsUptoCard

/-- THE SECOND FORM's CARD OF 'palisadelaw20.ReplicaBlank'. -/
def replicaBlankUptoCard : Claim7 := { stood := { row := replicaBlankUptoRow, standIns := [], harness := (true, "271aa3d4d82c7d93e19256f55ccb91b66e7c072ba0f06a4b54374de550a0167e"), looks := false }, kinds := [], alts := [], laidByText := true, laidKinds := [.data, .data, .data], laidTests := true, laidLooks := .later }
def ReplicaBlankUptoCardSaid : Prop := Claim7.holds Tryz.pinned (.plain (OpenSpec.upto replicaBlankSpec)) replicaBlankUptoCard
end Rows
end Go.Proofs.YtnccccpjhoaikaaGreatDoor
