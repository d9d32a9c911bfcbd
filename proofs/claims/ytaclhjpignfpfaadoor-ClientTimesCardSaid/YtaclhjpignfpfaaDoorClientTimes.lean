/- ClientTimes: the law returns true for every input of its kinds, and the memory that was there stays as it was. No condition but the row's own (the listed tables as the program lays them). -/
import Derived.Test.YtaclhjpignfpfaaDoorCom
import Derived.Test.YtaclhjpignfpfaaDoorCards
import Derived.Test.YtaclhjpignfpfaaDoorClientTimesR0
import Derived.Test.YtaclhjpignfpfaaDoorClientTimesR1
namespace Go.Proofs.YtaclhjpignfpfaaDoor.ClientTimes
open Go.ChangeShapes Go.WideShapes Go.ChangeAt Go.WideMaps Go.WideElems Go.RowKit Go.Abs

theorem walk {v : Value} {len : Nat} {z : Nat → Int} {w : World} (hi : IntsIn w .u8 v len z) : Calls Tryd.prog 4 ⟨[v]⟩ w fun e w' => e = .returned (.bool true) ∧ Below w.heap.size w w' := by
  rcases Nat.lt_or_ge 40 len with h | h
  · exact ClientTimesB1.walk hi (by simp only [Int.ofNat_eq_natCast]; omega) (by have := hi.top; simp only [maxLen] at this; simp only [Int.ofNat_eq_natCast]; omega)
  · exact ClientTimesB0.walk hi (by simp only [Int.ofNat_eq_natCast]; omega) (by simp only [Int.ofNat_eq_natCast]; omega)
set_option maxRecDepth 100000 in
theorem lifted (os : Os) (started : os.Started) (H : Type) (enc : TypeId × Value → H) :
    ReturnsInHanded {} Tryd.checked os 4 .any (fun w args => (Rows.clientTimesSpec.pre enc Tryd.prog Tryd.f4 [] false w args ∧ laidMetH Tryd.prog laidAll w) ∧ sizedMet enc Tryd.prog Tryd.f4 (OpenSpec.ofChange Rows.clientTimesSpec) false w args)
      (Rows.clientTimesSpec.post enc Tryd.prog Tryd.f4 false true false false) := by
  refine returnsInHanded_of_change_and (C := Tryd.checked) (X := fun w _ => laidMetH Tryd.prog laidAll w) (fun _ _ _ hh h => h.of_heap hh) own started (by kernel_rfl) Tryd.func4
    (ChangeSpec.witness_shaped (enc := enc) (C := Tryd.checked) (os := os) (X := fun w _ => laidMetH Tryd.prog laidAll w) false (World.doorLaid Tryd.prog 400 os) #[.slice none 0 0] 8 rfl (World.shaped_of_RefB (by kernel_rfl) (by kernel_rfl)) (by kernel_rfl) (by kernel_rfl) (by kernel_rfl) (door_met os _)) ?_
  intro W base args ds gs before hval0 hW _ _ _ _
  have hW' := hW
  obtain ⟨p, q, hA, hV, rfl, hfz, hnd⟩ := hW
  obtain ⟨v, d, rfl, rfl, h0⟩ := trodAll_one hA
  obtain ⟨rfl, rfl⟩ := trodVars_none hV
  obtain ⟨len, z, hi⟩ := ints_in (show Tryd.prog.underlying 24 = some (.slice 5) by kernel_rfl) (show Tryd.prog.underlying 5 = some (.int .u8) by kernel_rfl) (by kernel_rfl) (hval0 0 _ _ rfl rfl) h0
  simp only [List.append_nil] at hW'
  have hlt := hW'.lt
  refine (walk hi).mono fun e W' ⟨he, hb⟩ => ?_
  subst he
  exact ⟨_, rfl, post_of_below (pa := p) (pv := []) hW' (fun _ _ _ => (trodAll_cons_mk (shut_bool (by kernel_rfl) _) trodAll_mk0))
    (fun sp hsp => trodAll_mk1 (WideElems.Trod_stays g_laid (by kernel_rfl) (of_decide_eq_true (by kernel_rfl)) h0 (fun x hx => hb.same (hlt x hx)) hsp)) (fun _ _ => rfl) (by simp)
    hb (ok_one (t := 4) (by kernel_rfl) rfl (okWide_bool_mk (show Tryd.prog.underlying 4 = some .bool by kernel_rfl) _))⟩

theorem j9 : (Rows.clientTimesRow.inPlace == Tryd.prog.inPlace 4) = true := by kernel_rfl
theorem j10 : (Rows.clientTimesRow.unfollowed == Tryd.prog.unfollowed 4) = true := by kernel_rfl
theorem j11 : (Rows.clientTimesRow.recurses == Tryd.prog.recurses 4) = true := by kernel_rfl
theorem j12 : (Rows.clientTimesRow.named == Tryd.prog.varsNamed 4) = true := by kernel_rfl
theorem closed : joinedFacts Tryd.prog 4 Tryd.f4 Rows.clientTimesSpec Rows.clientTimesRow = true :=
  joined_mk (by as_aux_lemma => kernel_rfl) g_laid g_rowed (by as_aux_lemma => kernel_rfl) (by as_aux_lemma => kernel_rfl) rfl (by as_aux_lemma => kernel_rfl) rfl (by as_aux_lemma => kernel_rfl) j9 j10 j11 j12
    (by as_aux_lemma => kernel_rfl) (by as_aux_lemma => kernel_rfl) (by as_aux_lemma => kernel_rfl) (by as_aux_lemma => kernel_rfl) (by as_aux_lemma => kernel_rfl) (by as_aux_lemma => kernel_rfl) (by as_aux_lemma => kernel_rfl) (by as_aux_lemma => kernel_rfl) (by as_aux_lemma => kernel_rfl) g_plain rfl g_heard g_enter g_lift g_make
    (by as_aux_lemma => kernel_rfl) (by as_aux_lemma => kernel_rfl) (by as_aux_lemma => kernel_rfl) (by as_aux_lemma => kernel_rfl)
theorem named : Tryd.prog.funcNamed "palisade/palisadelaw21.ClientTimes" = some 4 := by kernel_rfl

theorem row_holds : Rows.ClientTimesSaid :=
  OpenClaim.holds_of_wide 4 Tryd.f4 rfl rfl rfl rfl rfl rfl rfl ⟨rfl, rfl, rfl, rfl, rfl⟩ rfl rfl rfl rfl rfl named Tryd.func4 closed
    (of_decide_eq_true (by as_aux_lemma => kernel_rfl)) (by unfold Func.isWrapper; first | (rw [if_pos (by decide +kernel)]; kernel_rfl) | (rw [if_neg (by decide +kernel)]; exact ⟨rfl, rfl⟩))
    (fun os started H enc _ => lifted os started H enc)

theorem byText : Rows.clientTimesRow.wfByText (OpenSpec.ofChange Rows.clientTimesSpec) = true := by kernel_rfl
theorem main : Tryd.prog.mainIs = some (true, "edcf28e44ba4074e72655d8d6415a46bf229f82427bca9c9c67c0d9b28a0fb82".toList) := by kernel_rfl
theorem looks : false = Tryd.prog.looks [] := by kernel_rfl
theorem goes : false = Rows.clientTimesRow.goesBy Tryd.prog := by kernel_rfl
theorem standIn : ([24].all fun u => !Tryd.prog.wantsStandIn u) = true := by kernel_rfl
/-- The tied card. -/
theorem card_holds : Rows.ClientTimesCardSaid :=
  Claim7.holds_tied_plain_at .later [] [.data, .data, .data] true (true, "edcf28e44ba4074e72655d8d6415a46bf229f82427bca9c9c67c0d9b28a0fb82") false
    row_holds (fun _ h => by cases h) byText (fun _ h => by cases h) clientTimes_row_tie rfl ⟨rfl, rfl⟩ main rfl
    (fun f fn hf hfn => by
      obtain rfl : f = 4 := Option.some.inj (named.symm.trans hf) |>.symm
      obtain rfl : fn = Tryd.f4 := (Option.some.inj (Tryd.func4.symm.trans hfn)).symm
      exact ⟨looks, fun j t ht => by
        rw [Tryd.params4] at ht
        have hm : t ∈ [24] := by simpa using Array.mem_of_getElem? ht
        exact (show Tryd.prog.wantsStandIn t = false by simpa using List.all_eq_true.1 standIn t hm)⟩)
    goes
#print axioms card_holds
end Go.Proofs.YtaclhjpignfpfaaDoor.ClientTimes
