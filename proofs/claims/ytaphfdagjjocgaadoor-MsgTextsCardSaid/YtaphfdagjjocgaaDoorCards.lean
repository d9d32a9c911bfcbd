/-
  DERIVED. GIVEN WITH THE SEED: THE CARDS: each row of YtaphfdagjjocgaaDoorRows.lean that lists a variable, with what it lists TIED to the program's text (the seventh form; the later family's looks); each row that meets fmt, with fmt's text TOLD by the authors' own Lean function (tested against real Go, not proved from fmt's source: count such statements apart). THE CARD IS WHAT COUNTS. Prove the row's statement (the work); the ties are given (YtaphfdagjjocgaaDoorTie.lean); close each card by the builder's one call (the guide's Derived/Test/ToyasCard.lean, 'card_holds'). Laid BY PROGRAM, IN A SANDBOX (cutbox-door.mjs). By AI agents, Wed Nov 11 2026. No macro, syntax, notation, axiom, sorry.
-/
import Derived.Test.YtaphfdagjjocgaaDoorRows
import GoSem.ClaimSeven
namespace Go.Proofs.YtaphfdagjjocgaaDoor
namespace Rows

/-- THE TIED CARD OF 'palisadelaw3.MsgBack'. -/
def msgBackCard : Claim7 := { stood := { row := msgBackRow, standIns := [], harness := (true, "885e38e92fe4c588961cd12a0f3917c77e404edaa375afd67f090c511a70ac46"), looks := false }, kinds := [], alts := [], laidByText := true, laidKinds := [.data, .data, .data], laidTests := true, laidLooks := .later }
def MsgBackCardSaid : Prop := Claim7.holds Tryd.pinned (.plain (OpenSpec.ofChange msgBackSpec)) msgBackCard

/-- THE TIED CARD OF 'palisadelaw3.MsgVotes'. -/
def msgVotesCard : Claim7 := { stood := { row := msgVotesRow, standIns := [], harness := (true, "885e38e92fe4c588961cd12a0f3917c77e404edaa375afd67f090c511a70ac46"), looks := false }, kinds := [], alts := [], laidByText := true, laidKinds := [.data, .data, .data], laidTests := true, laidLooks := .later }
def MsgVotesCardSaid : Prop := Claim7.holds Tryd.pinned (.plain (OpenSpec.ofChange msgVotesSpec)) msgVotesCard

/-- THE TIED CARD OF 'palisadelaw3.MsgKinds'. -/
def msgKindsCard : Claim7 := { stood := { row := msgKindsRow, standIns := [], harness := (true, "885e38e92fe4c588961cd12a0f3917c77e404edaa375afd67f090c511a70ac46"), looks := false }, kinds := [], alts := [], laidByText := true, laidKinds := [.data, .data, .data], laidTests := true, laidLooks := .later }
def MsgKindsCardSaid : Prop := Claim7.holds Tryd.pinned (.plain (OpenSpec.ofChange msgKindsSpec)) msgKindsCard

/-- THE TIED CARD OF 'palisadelaw3.MsgReqs'. -/
def msgReqsCard : Claim7 := { stood := { row := msgReqsRow, standIns := [], harness := (true, "885e38e92fe4c588961cd12a0f3917c77e404edaa375afd67f090c511a70ac46"), looks := false }, kinds := [], alts := [], laidByText := true, laidKinds := [.data, .data, .data], laidTests := true, laidLooks := .later }
def MsgReqsCardSaid : Prop := Claim7.holds Tryd.pinned (.plain (OpenSpec.ofChange msgReqsSpec)) msgReqsCard

/-- THE TIED CARD OF 'palisadelaw3.MsgTexts'. -/
def msgTextsCard : Claim7 := { stood := { row := msgTextsRow, standIns := [], harness := (true, "885e38e92fe4c588961cd12a0f3917c77e404edaa375afd67f090c511a70ac46"), looks := false }, kinds := [], alts := [], laidByText := true, laidKinds := [.data, .data, .data], laidTests := true, laidLooks := .later }
def MsgTextsCardSaid : Prop := Claim7.holds Tryd.pinned (.plain (OpenSpec.ofChange msgTextsSpec)) msgTextsCard

/-- THE SECOND FORM's CARD OF 'palisadelaw3.MsgBack'. -/
def msgBackUptoCard : Claim7 := { stood := { row := msgBackUptoRow, standIns := [], harness := (true, "885e38e92fe4c588961cd12a0f3917c77e404edaa375afd67f090c511a70ac46"), looks := false }, kinds := [], alts := [], laidByText := true, laidKinds := [.data, .data, .data], laidTests := true, laidLooks := .later }
def MsgBackUptoCardSaid : Prop := Claim7.holds Tryd.pinned (.plain (OpenSpec.upto msgBackSpec)) msgBackUptoCard

/-- THE SECOND FORM's CARD OF 'palisadelaw3.MsgVotes'. -/
def msgVotesUptoCard : Claim7 := { stood := { row := msgVotesUptoRow, standIns := [], harness := (true, "885e38e92fe4c588961cd12a0f3917c77e404edaa375afd67f090c511a70ac46"), looks := false }, kinds := [], alts := [], laidByText := true, laidKinds := [.data, .data, .data], laidTests := true, laidLooks := .later }
def MsgVotesUptoCardSaid : Prop := Claim7.holds Tryd.pinned (.plain (OpenSpec.upto msgVotesSpec)) msgVotesUptoCard

/-- THE SECOND FORM's CARD OF 'palisadelaw3.MsgKinds'. -/
def msgKindsUptoCard : Claim7 := { stood := { row := msgKindsUptoRow, standIns := [], harness := (true, "885e38e92fe4c588961cd12a0f3917c77e404edaa375afd67f090c511a70ac46"), looks := false }, kinds := [], alts := [], laidByText := true, laidKinds := [.data, .data, .data], laidTests := true, laidLooks := .later }
def MsgKindsUptoCardSaid : Prop := Claim7.holds Tryd.pinned (.plain (OpenSpec.upto msgKindsSpec)) msgKindsUptoCard

/-- THE SECOND FORM's CARD OF 'palisadelaw3.MsgReqs'. -/
def msgReqsUptoCard : Claim7 := { stood := { row := msgReqsUptoRow, standIns := [], harness := (true, "885e38e92fe4c588961cd12a0f3917c77e404edaa375afd67f090c511a70ac46"), looks := false }, kinds := [], alts := [], laidByText := true, laidKinds := [.data, .data, .data], laidTests := true, laidLooks := .later }
def MsgReqsUptoCardSaid : Prop := Claim7.holds Tryd.pinned (.plain (OpenSpec.upto msgReqsSpec)) msgReqsUptoCard

/-- THE SECOND FORM's CARD OF 'palisadelaw3.MsgTexts'. -/
def msgTextsUptoCard : Claim7 := { stood := { row := msgTextsUptoRow, standIns := [], harness := (true, "885e38e92fe4c588961cd12a0f3917c77e404edaa375afd67f090c511a70ac46"), looks := false }, kinds := [], alts := [], laidByText := true, laidKinds := [.data, .data, .data], laidTests := true, laidLooks := .later }
def MsgTextsUptoCardSaid : Prop := Claim7.holds Tryd.pinned (.plain (OpenSpec.upto msgTextsSpec)) msgTextsUptoCard
end Rows
end Go.Proofs.YtaphfdagjjocgaaDoor
