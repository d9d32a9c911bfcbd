/- ReplicaHalts: the law returns true for every input of its kinds, and the memory that was there stays as it was. No condition but the row's own (the listed tables as the program lays them). -/
import Derived.Test.YtnccccpjhoaikaaGreatDoorCom
import Derived.Test.YtnccccpjhoaikaaGreatDoorCards
import Derived.Test.YtnccccpjhoaikaaGreatDoorReplicaHaltsR0
namespace Go.Proofs.YtnccccpjhoaikaaGreatDoor.ReplicaHalts
open Go.ChangeShapes Go.WideShapes Go.ChangeAt Go.WideMaps Go.WideElems Go.RowKit Go.Abs

theorem agg_in {P : Program} {w : World} {r : Reach} {b : Nat} {t : TypeId} {v : Value} (h : aggK (tyK P (P.underlying t)) = true) (hv : Value.okWide P w r b t v) : ∃ cs, v = .agg cs := by
  unfold Value.okWide at hv
  cases hu : P.underlying t with
  | none => rw [hu] at h; cases h
  | some d =>
    rw [hu] at h hv
    cases d <;> first | (cases h; done) | skip
    all_goals
      obtain ⟨cs, rfl, _⟩ := hv
      exact ⟨cs, rfl⟩
set_option maxRecDepth 100000 in
theorem lifted (os : Os) (started : os.Started) (H : Type) (enc : TypeId × Value → H) :
    ReturnsInHanded {} Tryz.checked os 7 .any (fun w args => (Rows.replicaHaltsSpec.pre enc Tryz.prog Tryz.f7 [] false w args ∧ laidMetH Tryz.prog laidAll w) ∧ sizedMet enc Tryz.prog Tryz.f7 (OpenSpec.ofChange Rows.replicaHaltsSpec) false w args)
      (Rows.replicaHaltsSpec.post enc Tryz.prog Tryz.f7 false true false false) := by
  refine returnsInHanded_of_change_and (C := Tryz.checked) (X := fun w _ => laidMetH Tryz.prog laidAll w) (fun _ _ _ hh h => h.of_heap hh) own started (by kernel_rfl) Tryz.func7
    (ChangeSpec.witness_shaped (enc := enc) (C := Tryz.checked) (os := os) (X := fun w _ => laidMetH Tryz.prog laidAll w) false (World.doorLaid Tryz.prog 400 os) #[.int .u8 0, .agg #[.int .u8 0, .int .u8 0, .int .u8 0, .int .u8 0, .int .u32 0, .int .u32 0, .int .u8 0, .int .u32 0, .int .u8 0, .int .u8 0, .int .u16 0, .int .u64 0, .int .u8 0, .int .u8 0, .int .u32 0, .int .u8 0, .int .u8 0, .int .u32 0, .int .u32 0, .slice none 0 0, .slice none 0 0, .slice none 0 0, .slice none 0 0, .slice none 0 0, .slice none 0 0]] 8 rfl (World.shaped_of_RefB (by kernel_rfl) (by kernel_rfl)) (by kernel_rfl) (by kernel_rfl) (by kernel_rfl) (door_met os _)) ?_
  intro W base args ds gs before hval0 hW _ _ _ _
  have hW' := hW
  obtain ⟨p, q, hA, hV, rfl, hfz, hnd⟩ := hW
  obtain ⟨v0, v1, d0, d1, p0, p1, rfl, rfl, rfl, h0, h1⟩ := trodAll_two hA
  obtain ⟨rfl, rfl⟩ := trodVars_none hV
  have h0k := h0
  obtain ⟨n, rfl, _, _, hwf⟩ := open_int (show Tryz.prog.underlying 5 = some (.int .u8) by kernel_rfl) (hval0 0 _ _ rfl rfl) h0
  obtain ⟨cs, rfl⟩ := agg_in (show aggK (tyK Tryz.prog (Tryz.prog.underlying 39)) = true by kernel_rfl) (hval0 1 _ _ rfl rfl)
  obtain ⟨fuel, h1f⟩ := h1
  have hcs : FitsF enc Tryz.prog ⟨W, 0, fun _ => true, true⟩ ReplicaHaltsB0.ks cs.toList := trod_flat (M := ⟨W, 0, fun _ => true, true⟩) 40 39 ReplicaHaltsB0.ks (by kernel_rfl) fuel _ _ (show DataW.trod enc Tryz.prog W 0 (fun _ => true) true fuel 39 cs.toList = some (d1, p1) from h1f)
  simp only [List.append_nil] at hW'
  have hlt := hW'.lt
  have walk := ReplicaHaltsB0.walk hcs (wf_u8 hwf)
  rw [show (⟨cs.toList⟩ : Array Value) = cs from rfl] at walk
  refine walk.mono fun e W' ⟨he, hb⟩ => ?_
  subst he
  exact ⟨_, rfl, post_of_below (pa := p0 ++ p1) (pv := []) hW' (fun _ _ _ => (trodAll_cons_mk (shut_bool (by kernel_rfl) _) trodAll_mk0))
    (fun sp hsp => trodAll_mk2 (WideElems.Trod_stays g_laid (by kernel_rfl) (of_decide_eq_true (by kernel_rfl)) h0k (fun x hx => hb.same (hlt x (List.mem_append_left _ hx))) (fun x hx => hsp x (List.mem_append_left _ hx)))
      (WideElems.Trod_stays g_laid (by kernel_rfl) (of_decide_eq_true (by kernel_rfl)) ⟨fuel, h1f⟩ (fun x hx => hb.same (hlt x (List.mem_append_right _ hx))) (fun x hx => hsp x (List.mem_append_right _ hx)))) (fun _ _ => rfl) (by simp)
    hb (ok_one (t := 4) (by kernel_rfl) rfl (okWide_bool_mk (show Tryz.prog.underlying 4 = some .bool by kernel_rfl) _))⟩

theorem j9 : (Rows.replicaHaltsRow.inPlace == Tryz.prog.inPlace 7) = true := by kernel_rfl
theorem j10 : (Rows.replicaHaltsRow.unfollowed == Tryz.prog.unfollowed 7) = true := by kernel_rfl
theorem j11 : (Rows.replicaHaltsRow.recurses == Tryz.prog.recurses 7) = true := by kernel_rfl
theorem j12 : (Rows.replicaHaltsRow.named == Tryz.prog.varsNamed 7) = true := by kernel_rfl
theorem closed : joinedFacts Tryz.prog 7 Tryz.f7 Rows.replicaHaltsSpec Rows.replicaHaltsRow = true :=
  joined_mk (by as_aux_lemma => kernel_rfl) g_laid g_rowed (by as_aux_lemma => kernel_rfl) (by as_aux_lemma => kernel_rfl) rfl (by as_aux_lemma => kernel_rfl) rfl (by as_aux_lemma => kernel_rfl) j9 j10 j11 j12
    (by as_aux_lemma => kernel_rfl) (by as_aux_lemma => kernel_rfl) (by as_aux_lemma => kernel_rfl) (by as_aux_lemma => kernel_rfl) (by as_aux_lemma => kernel_rfl) (by as_aux_lemma => kernel_rfl) (by as_aux_lemma => kernel_rfl) (by as_aux_lemma => kernel_rfl) (by as_aux_lemma => kernel_rfl) g_plain rfl g_heard g_enter g_lift g_make
    (by as_aux_lemma => kernel_rfl) (by as_aux_lemma => kernel_rfl) (by as_aux_lemma => kernel_rfl) (by as_aux_lemma => kernel_rfl)
theorem named : Tryz.prog.funcNamed "palisade/palisadelaw20.ReplicaHalts" = some 7 := by kernel_rfl

theorem row_holds : Rows.ReplicaHaltsSaid :=
  OpenClaim.holds_of_wide 7 Tryz.f7 rfl rfl rfl rfl rfl rfl rfl ⟨rfl, rfl, rfl, rfl, rfl⟩ rfl rfl rfl rfl rfl named Tryz.func7 closed
    (of_decide_eq_true (by as_aux_lemma => kernel_rfl)) (by unfold Func.isWrapper; first | (rw [if_pos (by decide +kernel)]; kernel_rfl) | (rw [if_neg (by decide +kernel)]; exact ⟨rfl, rfl⟩))
    (fun os started H enc _ => lifted os started H enc)

theorem byText : Rows.replicaHaltsRow.wfByText (OpenSpec.ofChange Rows.replicaHaltsSpec) = true := by kernel_rfl
theorem main : Tryz.prog.mainIs = some (true, "271aa3d4d82c7d93e19256f55ccb91b66e7c072ba0f06a4b54374de550a0167e".toList) := by kernel_rfl
theorem looks : false = Tryz.prog.looks [] := by kernel_rfl
theorem goes : false = Rows.replicaHaltsRow.goesBy Tryz.prog := by kernel_rfl
theorem standIn : ([5, 39].all fun u => !Tryz.prog.wantsStandIn u) = true := by kernel_rfl
/-- The tied card. -/
theorem card_holds : Rows.ReplicaHaltsCardSaid :=
  Claim7.holds_tied_plain_at .later [] [.data, .data, .data] true (true, "271aa3d4d82c7d93e19256f55ccb91b66e7c072ba0f06a4b54374de550a0167e") false
    row_holds (fun _ h => by cases h) byText (fun _ h => by cases h) replicaHalts_row_tie rfl ⟨rfl, rfl⟩ main rfl
    (fun f fn hf hfn => by
      obtain rfl : f = 7 := Option.some.inj (named.symm.trans hf) |>.symm
      obtain rfl : fn = Tryz.f7 := (Option.some.inj (Tryz.func7.symm.trans hfn)).symm
      exact ⟨looks, fun j t ht => by
        rw [Tryz.params7] at ht
        have hm : t ∈ [5, 39] := by simpa using Array.mem_of_getElem? ht
        exact (show Tryz.prog.wantsStandIn t = false by simpa using List.all_eq_true.1 standIn t hm)⟩)
    goes
#print axioms card_holds
end Go.Proofs.YtnccccpjhoaikaaGreatDoor.ReplicaHalts
