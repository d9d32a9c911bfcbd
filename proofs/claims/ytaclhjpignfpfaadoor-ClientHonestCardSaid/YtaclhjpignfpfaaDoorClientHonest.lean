/- ClientHonest: the law returns true for every input of its kinds, and the memory that was there stays as it was. No condition but the row's own (the listed tables as the program lays them). -/
import Derived.Test.YtaclhjpignfpfaaDoorCom
import Derived.Test.YtaclhjpignfpfaaDoorCards
import Derived.Test.YtaclhjpignfpfaaDoorClientHonestR0
import Derived.Test.YtaclhjpignfpfaaDoorClientHonestR1
import Derived.Test.YtaclhjpignfpfaaDoorClientHonestR2
import Derived.Test.YtaclhjpignfpfaaDoorClientHonestR3
namespace Go.Proofs.YtaclhjpignfpfaaDoor.ClientHonest
open Go.ChangeShapes Go.WideShapes Go.ChangeAt Go.WideMaps Go.WideElems Go.RowKit Go.Abs

theorem walk {x y : Int} {v2 v3 : Value} {n2 n3 : Nat} {z2 z3 : Nat → Int} {w : World} (wx : (Lit.int .u32 x).wf = true) (wy : (Lit.int .u8 y).wf = true) (i2 : IntsIn w .u32 v2 n2 z2) (i3 : IntsIn w .u8 v3 n3 z3) : Calls Tryd.prog 3 ⟨[.int .u32 x, .int .u8 y, v2, v3]⟩ w fun e w' => e = .returned (.bool true) ∧ Below w.heap.size w w' := by
  have hx := wf_u32 wx
  have hy := wf_u8 wy
  have t2 := i2.top
  have t3 := i3.top
  simp only [maxLen] at t2 t3
  rcases Nat.lt_or_ge 10 n2 with h | h
  · exact ClientHonestB2.walk (by omega) (by omega) i2 i3 (by simp only [Int.ofNat_eq_natCast]; omega) (by simp only [Int.ofNat_eq_natCast]; omega)
  rcases Nat.lt_or_ge 40 n3 with h' | h'
  · exact ClientHonestB3.walk (by omega) (by omega) i2 i3 (by simp only [Int.ofNat_eq_natCast]; omega) (by simp only [Int.ofNat_eq_natCast]; omega)
  rcases Nat.eq_zero_or_pos n2 with h0 | h0
  · exact ClientHonestB0.walk (by omega) (by omega) i2 i3 (by simp only [Int.ofNat_eq_natCast]; omega) (by simp only [Int.ofNat_eq_natCast]; omega)
  · exact ClientHonestB1.walk (by omega) (by omega) i2 i3 (by simp only [Int.ofNat_eq_natCast]; omega) (by simp only [Int.ofNat_eq_natCast]; omega)
set_option maxRecDepth 100000 in
theorem lifted (os : Os) (started : os.Started) (H : Type) (enc : TypeId × Value → H) :
    ReturnsInHanded {} Tryd.checked os 3 .any (fun w args => (Rows.clientHonestSpec.pre enc Tryd.prog Tryd.f3 [] false w args ∧ laidMetH Tryd.prog laidAll w) ∧ sizedMet enc Tryd.prog Tryd.f3 (OpenSpec.ofChange Rows.clientHonestSpec) false w args)
      (Rows.clientHonestSpec.post enc Tryd.prog Tryd.f3 false true false false) := by
  refine returnsInHanded_of_change_and (C := Tryd.checked) (X := fun w _ => laidMetH Tryd.prog laidAll w) (fun _ _ _ hh h => h.of_heap hh) own started (by kernel_rfl) Tryd.func3
    (ChangeSpec.witness_shaped (enc := enc) (C := Tryd.checked) (os := os) (X := fun w _ => laidMetH Tryd.prog laidAll w) false (World.doorLaid Tryd.prog 400 os) #[.int .u32 0, .int .u8 0, .slice none 0 0, .slice none 0 0] 8 rfl (World.shaped_of_RefB (by kernel_rfl) (by kernel_rfl)) (by kernel_rfl) (by kernel_rfl) (by kernel_rfl) (door_met os _)) ?_
  intro W base args ds gs before hval0 hW _ _ _ _
  have hW' := hW
  obtain ⟨p, q, hA, hV, rfl, hfz, hnd⟩ := hW
  obtain ⟨v0, v1, v2, v3, d0, d1, d2, d3, p0, p1, p2, p3, rfl, rfl, rfl, h0, h1, h2, h3⟩ := trodAll_four hA
  obtain ⟨rfl, rfl⟩ := trodVars_none hV
  obtain ⟨x, rfl, _, _, wx⟩ := open_int (show Tryd.prog.underlying 22 = some (.int .u32) by kernel_rfl) (hval0 0 _ _ rfl rfl) h0
  obtain ⟨y, rfl, _, _, wy⟩ := open_int (show Tryd.prog.underlying 5 = some (.int .u8) by kernel_rfl) (hval0 1 _ _ rfl rfl) h1
  obtain ⟨n2, z2, i2⟩ := ints_in (show Tryd.prog.underlying 23 = some (.slice 22) by kernel_rfl) (show Tryd.prog.underlying 22 = some (.int .u32) by kernel_rfl) (by kernel_rfl) (hval0 2 _ _ rfl rfl) h2
  obtain ⟨n3, z3, i3⟩ := ints_in (show Tryd.prog.underlying 24 = some (.slice 5) by kernel_rfl) (show Tryd.prog.underlying 5 = some (.int .u8) by kernel_rfl) (by kernel_rfl) (hval0 3 _ _ rfl rfl) h3
  simp only [List.append_nil] at hW'
  have hlt := hW'.lt
  refine (walk wx wy i2 i3).mono fun e W' ⟨he, hb⟩ => ?_
  subst he
  have st : ∀ {t : TypeId} {v : Value} {d : DataW H} {ps : List MemPlace} {sp : Nat → Bool}, Tryd.prog.readableRec t = true → t < Tryd.prog.types.size → DataW.Trod enc Tryd.prog W 0 (fun _ => true) true t v d ps → (∀ x ∈ ps, x ∈ p0 ++ p1 ++ p2 ++ p3) → (∀ x ∈ p0 ++ p1 ++ p2 ++ p3, sp x.block = true) → DataW.Trod enc Tryd.prog W' 0 sp true t v d ps :=
    fun hr ht h hm hsp => WideElems.Trod_stays g_laid hr ht h (fun x hx => hb.same (hlt x (hm x hx))) (fun x hx => hsp x (hm x hx))
  exact ⟨_, rfl, post_of_below (pa := p0 ++ (p1 ++ (p2 ++ p3))) (pv := []) hW' (fun _ _ _ => (trodAll_cons_mk (shut_bool (by kernel_rfl) _) trodAll_mk0))
    (fun sp hsp => trodAll_mk4 (st (by kernel_rfl) (of_decide_eq_true (by kernel_rfl)) h0 (fun x hx => by simp [hx]) hsp) (st (by kernel_rfl) (of_decide_eq_true (by kernel_rfl)) h1 (fun x hx => by simp [hx]) hsp)
      (st (by kernel_rfl) (of_decide_eq_true (by kernel_rfl)) h2 (fun x hx => by simp [hx]) hsp) (st (by kernel_rfl) (of_decide_eq_true (by kernel_rfl)) h3 (fun x hx => by simp [hx]) hsp)) (fun _ _ => rfl) (by simp)
    hb (ok_one (t := 4) (by kernel_rfl) rfl (okWide_bool_mk (show Tryd.prog.underlying 4 = some .bool by kernel_rfl) _))⟩

theorem j9 : (Rows.clientHonestRow.inPlace == Tryd.prog.inPlace 3) = true := by kernel_rfl
theorem j10 : (Rows.clientHonestRow.unfollowed == Tryd.prog.unfollowed 3) = true := by kernel_rfl
theorem j11 : (Rows.clientHonestRow.recurses == Tryd.prog.recurses 3) = true := by kernel_rfl
theorem j12 : (Rows.clientHonestRow.named == Tryd.prog.varsNamed 3) = true := by kernel_rfl
theorem closed : joinedFacts Tryd.prog 3 Tryd.f3 Rows.clientHonestSpec Rows.clientHonestRow = true :=
  joined_mk (by as_aux_lemma => kernel_rfl) g_laid g_rowed (by as_aux_lemma => kernel_rfl) (by as_aux_lemma => kernel_rfl) rfl (by as_aux_lemma => kernel_rfl) rfl (by as_aux_lemma => kernel_rfl) j9 j10 j11 j12
    (by as_aux_lemma => kernel_rfl) (by as_aux_lemma => kernel_rfl) (by as_aux_lemma => kernel_rfl) (by as_aux_lemma => kernel_rfl) (by as_aux_lemma => kernel_rfl) (by as_aux_lemma => kernel_rfl) (by as_aux_lemma => kernel_rfl) (by as_aux_lemma => kernel_rfl) (by as_aux_lemma => kernel_rfl) g_plain rfl g_heard g_enter g_lift g_make
    (by as_aux_lemma => kernel_rfl) (by as_aux_lemma => kernel_rfl) (by as_aux_lemma => kernel_rfl) (by as_aux_lemma => kernel_rfl)
theorem named : Tryd.prog.funcNamed "palisade/palisadelaw21.ClientHonest" = some 3 := by kernel_rfl

theorem row_holds : Rows.ClientHonestSaid :=
  OpenClaim.holds_of_wide 3 Tryd.f3 rfl rfl rfl rfl rfl rfl rfl ⟨rfl, rfl, rfl, rfl, rfl⟩ rfl rfl rfl rfl rfl named Tryd.func3 closed
    (of_decide_eq_true (by as_aux_lemma => kernel_rfl)) (by unfold Func.isWrapper; first | (rw [if_pos (by decide +kernel)]; kernel_rfl) | (rw [if_neg (by decide +kernel)]; exact ⟨rfl, rfl⟩))
    (fun os started H enc _ => lifted os started H enc)

theorem byText : Rows.clientHonestRow.wfByText (OpenSpec.ofChange Rows.clientHonestSpec) = true := by kernel_rfl
theorem main : Tryd.prog.mainIs = some (true, "edcf28e44ba4074e72655d8d6415a46bf229f82427bca9c9c67c0d9b28a0fb82".toList) := by kernel_rfl
theorem looks : false = Tryd.prog.looks [] := by kernel_rfl
theorem goes : false = Rows.clientHonestRow.goesBy Tryd.prog := by kernel_rfl
theorem standIn : ([22, 5, 23, 24].all fun u => !Tryd.prog.wantsStandIn u) = true := by kernel_rfl
/-- The tied card. -/
theorem card_holds : Rows.ClientHonestCardSaid :=
  Claim7.holds_tied_plain_at .later [] [.data, .data, .data] true (true, "edcf28e44ba4074e72655d8d6415a46bf229f82427bca9c9c67c0d9b28a0fb82") false
    row_holds (fun _ h => by cases h) byText (fun _ h => by cases h) clientHonest_row_tie rfl ⟨rfl, rfl⟩ main rfl
    (fun f fn hf hfn => by
      obtain rfl : f = 3 := Option.some.inj (named.symm.trans hf) |>.symm
      obtain rfl : fn = Tryd.f3 := (Option.some.inj (Tryd.func3.symm.trans hfn)).symm
      exact ⟨looks, fun j t ht => by
        rw [Tryd.params3] at ht
        have hm : t ∈ [22, 5, 23, 24] := by simpa using Array.mem_of_getElem? ht
        exact (show Tryd.prog.wantsStandIn t = false by simpa using List.all_eq_true.1 standIn t hm)⟩)
    goes
#print axioms card_holds
end Go.Proofs.YtaclhjpignfpfaaDoor.ClientHonest
