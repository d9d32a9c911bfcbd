/- ReplicaOrders: the law returns true for every input of its kinds, and the memory that was there stays as it was. No condition but the row's own (the listed tables as the program lays them). -/
import Derived.Test.YtamlnmdmfcblnaaGreatDoorCom
import Derived.Test.YtamlnmdmfcblnaaGreatDoorCards
import Derived.Test.YtamlnmdmfcblnaaGreatDoorReplicaOrdersR0
import Derived.Test.YtamlnmdmfcblnaaGreatDoorReplicaOrdersR1
namespace Go.Proofs.YtamlnmdmfcblnaaGreatDoor.ReplicaOrders
open Go.ChangeShapes Go.WideShapes Go.ChangeAt Go.WideMaps Go.WideElems Go.RowKit Go.Abs

theorem walk {v : Value} {len : Nat} {z : Nat → Int} {w : World} (hi : IntsIn w .u8 v len z) : Calls Tryz.prog 4 ⟨[v]⟩ w fun e w' => e = .returned (.bool true) ∧ Below w.heap.size w w' := by
  rcases Nat.lt_or_ge 40 len with h | h
  · exact ReplicaOrdersB1.walk hi (by simp only [Int.ofNat_eq_natCast]; omega) (by have := hi.top; simp only [maxLen] at this; simp only [Int.ofNat_eq_natCast]; omega)
  · exact ReplicaOrdersB0.walk hi (by simp only [Int.ofNat_eq_natCast]; omega) (by simp only [Int.ofNat_eq_natCast]; omega)
set_option maxRecDepth 100000 in
theorem lifted (os : Os) (started : os.Started) (H : Type) (enc : TypeId × Value → H) :
    ReturnsInHanded {} Tryz.checked os 4 .any (fun w args => (Rows.replicaOrdersSpec.pre enc Tryz.prog Tryz.f4 [] false w args ∧ laidMetH Tryz.prog laidAll w) ∧ sizedMet enc Tryz.prog Tryz.f4 (OpenSpec.ofChange Rows.replicaOrdersSpec) false w args)
      (Rows.replicaOrdersSpec.post enc Tryz.prog Tryz.f4 false true false false) := by
  refine returnsInHanded_of_change_and (C := Tryz.checked) (X := fun w _ => laidMetH Tryz.prog laidAll w) (fun _ _ _ hh h => h.of_heap hh) own started (by kernel_rfl) Tryz.func4
    (ChangeSpec.witness_shaped (enc := enc) (C := Tryz.checked) (os := os) (X := fun w _ => laidMetH Tryz.prog laidAll w) false (World.doorLaid Tryz.prog 400 os) #[.slice none 0 0] 8 rfl (World.shaped_of_RefB (by kernel_rfl) (by kernel_rfl)) (by kernel_rfl) (by kernel_rfl) (by kernel_rfl) (door_met os _)) ?_
  intro W base args ds gs before hval0 hW _ _ _ _
  have hW' := hW
  obtain ⟨p, q, hA, hV, rfl, hfz, hnd⟩ := hW
  obtain ⟨v, d, rfl, rfl, h0⟩ := trodAll_one hA
  obtain ⟨rfl, rfl⟩ := trodVars_none hV
  obtain ⟨len, z, hi⟩ := ints_in (show Tryz.prog.underlying 43 = some (.slice 5) by kernel_rfl) (show Tryz.prog.underlying 5 = some (.int .u8) by kernel_rfl) (by kernel_rfl) (hval0 0 _ _ rfl rfl) h0
  simp only [List.append_nil] at hW'
  have hlt := hW'.lt
  refine (walk hi).mono fun e W' ⟨he, hb⟩ => ?_
  subst he
  exact ⟨_, rfl, post_of_below (pa := p) (pv := []) hW' (fun _ _ _ => (trodAll_cons_mk (shut_bool (by kernel_rfl) _) trodAll_mk0))
    (fun sp hsp => trodAll_mk1 (WideElems.Trod_stays g_laid (by kernel_rfl) (of_decide_eq_true (by kernel_rfl)) h0 (fun x hx => hb.same (hlt x hx)) hsp)) (fun _ _ => rfl) (by simp)
    hb (ok_one (t := 4) (by kernel_rfl) rfl (okWide_bool_mk (show Tryz.prog.underlying 4 = some .bool by kernel_rfl) _))⟩

theorem j9 : (Rows.replicaOrdersRow.inPlace == Tryz.prog.inPlace 4) = true := by kernel_rfl
theorem j10 : (Rows.replicaOrdersRow.unfollowed == Tryz.prog.unfollowed 4) = true := by kernel_rfl
theorem j11 : (Rows.replicaOrdersRow.recurses == Tryz.prog.recurses 4) = true := by kernel_rfl
theorem j12 : (Rows.replicaOrdersRow.named == Tryz.prog.varsNamed 4) = true := by kernel_rfl
theorem closed : joinedFacts Tryz.prog 4 Tryz.f4 Rows.replicaOrdersSpec Rows.replicaOrdersRow = true :=
  joined_mk (by as_aux_lemma => kernel_rfl) g_laid g_rowed (by as_aux_lemma => kernel_rfl) (by as_aux_lemma => kernel_rfl) rfl (by as_aux_lemma => kernel_rfl) rfl (by as_aux_lemma => kernel_rfl) j9 j10 j11 j12
    (by as_aux_lemma => kernel_rfl) (by as_aux_lemma => kernel_rfl) (by as_aux_lemma => kernel_rfl) (by as_aux_lemma => kernel_rfl) (by as_aux_lemma => kernel_rfl) (by as_aux_lemma => kernel_rfl) (by as_aux_lemma => kernel_rfl) (by as_aux_lemma => kernel_rfl) (by as_aux_lemma => kernel_rfl) g_plain rfl g_heard g_enter g_lift g_make
    (by as_aux_lemma => kernel_rfl) (by as_aux_lemma => kernel_rfl) (by as_aux_lemma => kernel_rfl) (by as_aux_lemma => kernel_rfl)
theorem named : Tryz.prog.funcNamed "palisade/palisadelaw20.ReplicaOrders" = some 4 := by kernel_rfl

theorem row_holds : Rows.ReplicaOrdersSaid :=
  OpenClaim.holds_of_wide 4 Tryz.f4 rfl rfl rfl rfl rfl rfl rfl ⟨rfl, rfl, rfl, rfl, rfl⟩ rfl rfl rfl rfl rfl named Tryz.func4 closed
    (of_decide_eq_true (by as_aux_lemma => kernel_rfl)) (by unfold Func.isWrapper; first | (rw [if_pos (by decide +kernel)]; kernel_rfl) | (rw [if_neg (by decide +kernel)]; exact ⟨rfl, rfl⟩))
    (fun os started H enc _ => lifted os started H enc)

theorem byText : Rows.replicaOrdersRow.wfByText (OpenSpec.ofChange Rows.replicaOrdersSpec) = true := by kernel_rfl
theorem main : Tryz.prog.mainIs = some (true, "f062b4e28f5527b6202bcfcff4a2093c1d30a1ec0e34f166e4932990a361b3b2".toList) := by kernel_rfl
theorem looks : false = Tryz.prog.looks [] := by kernel_rfl
theorem goes : false = Rows.replicaOrdersRow.goesBy Tryz.prog := by kernel_rfl
theorem standIn : ([43].all fun u => !Tryz.prog.wantsStandIn u) = true := by kernel_rfl
/-- The tied card. -/
theorem card_holds : Rows.ReplicaOrdersCardSaid :=
  Claim7.holds_tied_plain_at .later [] [.data, .data, .data] true (true, "f062b4e28f5527b6202bcfcff4a2093c1d30a1ec0e34f166e4932990a361b3b2") false
    row_holds (fun _ h => by cases h) byText (fun _ h => by cases h) replicaOrders_row_tie rfl ⟨rfl, rfl⟩ main rfl
    (fun f fn hf hfn => by
      obtain rfl : f = 4 := Option.some.inj (named.symm.trans hf) |>.symm
      obtain rfl : fn = Tryz.f4 := (Option.some.inj (Tryz.func4.symm.trans hfn)).symm
      exact ⟨looks, fun j t ht => by
        rw [Tryz.params4] at ht
        have hm : t ∈ [43] := by simpa using Array.mem_of_getElem? ht
        exact (show Tryz.prog.wantsStandIn t = false by simpa using List.all_eq_true.1 standIn t hm)⟩)
    goes
#print axioms card_holds
end Go.Proofs.YtamlnmdmfcblnaaGreatDoor.ReplicaOrders
