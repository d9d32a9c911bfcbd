/- ReplicaAsks: the law returns true for every input of its kinds, and the memory that was there stays as it was. No condition but the row's own (the listed tables as the program lays them). -/
import Derived.Test.YtnccccpjhoaikaaGreatDoorCom
import Derived.Test.YtnccccpjhoaikaaGreatDoorCards
import Derived.Test.YtnccccpjhoaikaaGreatDoorReplicaAsksR0
namespace Go.Proofs.YtnccccpjhoaikaaGreatDoor.ReplicaAsks
open Go.ChangeShapes Go.WideShapes Go.ChangeAt Go.WideMaps Go.WideElems Go.RowKit Go.Abs

def kinds : List ArgK := [(true, [.int .u8, .int .u8, .int .u8, .int .u8, .int .u8, .int .u8]), (true, [.int .u8, .int .u8, .int .u8, .int .u8, .int .u8, .int .u8]), (false, [.int .u8])]
theorem walk (A : List Value) (h : FitsAll kinds A) (w : World) : Calls Tryz.prog 6 ⟨A⟩ w fun e w' => e = .returned (.bool true) ∧ Below w.heap.size w w' := by
  obtain ⟨cs0, A0, g0, rfl, h0⟩ := fit_agg h
  obtain ⟨ww0, rww0, www0, rfl, gww0⟩ := fitL_int g0
  obtain ⟨ww1, rww1, www1, rfl, gww1⟩ := fitL_int gww0
  obtain ⟨ww2, rww2, www2, rfl, gww2⟩ := fitL_int gww1
  obtain ⟨ww3, rww3, www3, rfl, gww3⟩ := fitL_int gww2
  obtain ⟨ww4, rww4, www4, rfl, gww4⟩ := fitL_int gww3
  obtain ⟨ww5, rww5, www5, rfl, gww5⟩ := fitL_int gww4
  obtain rfl := fitL_nil gww5
  obtain ⟨cs1, A1, g1, rfl, h1⟩ := fit_agg h0
  obtain ⟨ss0, rss0, wss0, rfl, gss0⟩ := fitL_int g1
  obtain ⟨ss1, rss1, wss1, rfl, gss1⟩ := fitL_int gss0
  obtain ⟨ss2, rss2, wss2, rfl, gss2⟩ := fitL_int gss1
  obtain ⟨ss3, rss3, wss3, rfl, gss3⟩ := fitL_int gss2
  obtain ⟨ss4, rss4, wss4, rfl, gss4⟩ := fitL_int gss3
  obtain ⟨ss5, rss5, wss5, rfl, gss5⟩ := fitL_int gss4
  obtain rfl := fitL_nil gss5
  obtain ⟨old_, A2, wold_, rfl, h2⟩ := fit_int h1
  obtain rfl := fit_nil h2
  exact ReplicaAsksB0.walk ww0 ww1 ww2 ww3 ww4 ww5 ss0 ss1 ss2 ss3 ss4 ss5 old_ (wf_u8 www0) (wf_u8 www1) (wf_u8 www2) (wf_u8 www3) (wf_u8 www4) (wf_u8 www5) (wf_u8 wss0) (wf_u8 wss1) (wf_u8 wss2) (wf_u8 wss3) (wf_u8 wss4) (wf_u8 wss5) (wf_u8 wold_) w

set_option maxRecDepth 100000 in
theorem lifted (os : Os) (started : os.Started) (H : Type) (enc : TypeId × Value → H) :
    ReturnsInHanded {} Tryz.checked os 6 .any (fun w args => (Rows.replicaAsksSpec.pre enc Tryz.prog Tryz.f6 [] false w args ∧ laidMetH Tryz.prog laidAll w) ∧ sizedMet enc Tryz.prog Tryz.f6 (OpenSpec.ofChange Rows.replicaAsksSpec) false w args)
      (Rows.replicaAsksSpec.post enc Tryz.prog Tryz.f6 false true false false) := by
  refine returnsInHanded_of_change_and (C := Tryz.checked) (X := fun w _ => laidMetH Tryz.prog laidAll w) (fun _ _ _ hh h => h.of_heap hh) own started (by kernel_rfl) Tryz.func6
    (ChangeSpec.witness_shaped (enc := enc) (C := Tryz.checked) (os := os) (X := fun w _ => laidMetH Tryz.prog laidAll w) false (World.doorLaid Tryz.prog 400 os) #[.agg #[.int .u8 0, .int .u8 0, .int .u8 0, .int .u8 0, .int .u8 0, .int .u8 0], .agg #[.int .u8 0, .int .u8 0, .int .u8 0, .int .u8 0, .int .u8 0, .int .u8 0], .int .u8 0] 8 rfl (World.shaped_of_RefB (by kernel_rfl) (by kernel_rfl)) (by kernel_rfl) (by kernel_rfl) (by kernel_rfl) (door_met os _)) ?_
  intro W base args ds gs before hval0 hW _ _ _ _
  have hval : ∀ (j : Nat) (t : TypeId) (v : Value), Tryz.f6.params.toList[j]? = some t → args.toList[j]? = some v → Value.okWide Tryz.prog W .any base t v := fun j t v ht hv => hval0 j t v (by simpa using ht) (by simpa using hv)
  have hW' := hW
  obtain ⟨p, q, hA, hV, rfl, hfz, hnd⟩ := hW
  obtain ⟨rfl, hfit, hstill⟩ := trodAll_plain (show plainArgs Tryz.prog Tryz.f6.params.toList = some kinds by kernel_rfl) hval hA
  obtain ⟨rfl, rfl⟩ := trodVars_none hV
  have hl := trodAll_len hA
  obtain ⟨d0, d1, d2, rfl⟩ : ∃ d0 d1 d2, ds = [d0, d1, d2] := len3 (hl.trans (by kernel_rfl))
  simp only [List.append_nil] at hW'
  refine (walk args.toList hfit W).mono fun e W' ⟨he, hb⟩ => ?_
  subst he
  exact ⟨_, rfl, post_of_below (pa := []) (pv := []) hW' (fun _ _ _ => (trodAll_cons_mk (shut_bool (by kernel_rfl) _) trodAll_mk0)) (fun sp _ => hstill _ _ _ _) (fun _ _ => rfl) rfl
    hb (ok_one (t := 4) (by kernel_rfl) rfl (okWide_bool_mk (show Tryz.prog.underlying 4 = some .bool by kernel_rfl) _))⟩

theorem j9 : (Rows.replicaAsksRow.inPlace == Tryz.prog.inPlace 6) = true := by kernel_rfl
theorem j10 : (Rows.replicaAsksRow.unfollowed == Tryz.prog.unfollowed 6) = true := by kernel_rfl
theorem j11 : (Rows.replicaAsksRow.recurses == Tryz.prog.recurses 6) = true := by kernel_rfl
theorem j12 : (Rows.replicaAsksRow.named == Tryz.prog.varsNamed 6) = true := by kernel_rfl
theorem closed : joinedFacts Tryz.prog 6 Tryz.f6 Rows.replicaAsksSpec Rows.replicaAsksRow = true :=
  joined_mk (by as_aux_lemma => kernel_rfl) g_laid g_rowed (by as_aux_lemma => kernel_rfl) (by as_aux_lemma => kernel_rfl) rfl (by as_aux_lemma => kernel_rfl) rfl (by as_aux_lemma => kernel_rfl) j9 j10 j11 j12
    (by as_aux_lemma => kernel_rfl) (by as_aux_lemma => kernel_rfl) (by as_aux_lemma => kernel_rfl) (by as_aux_lemma => kernel_rfl) (by as_aux_lemma => kernel_rfl) (by as_aux_lemma => kernel_rfl) (by as_aux_lemma => kernel_rfl) (by as_aux_lemma => kernel_rfl) (by as_aux_lemma => kernel_rfl) g_plain rfl g_heard g_enter g_lift g_make
    (by as_aux_lemma => kernel_rfl) (by as_aux_lemma => kernel_rfl) (by as_aux_lemma => kernel_rfl) (by as_aux_lemma => kernel_rfl)
theorem named : Tryz.prog.funcNamed "palisade/palisadelaw20.ReplicaAsks" = some 6 := by kernel_rfl

theorem row_holds : Rows.ReplicaAsksSaid :=
  OpenClaim.holds_of_wide 6 Tryz.f6 rfl rfl rfl rfl rfl rfl rfl ⟨rfl, rfl, rfl, rfl, rfl⟩ rfl rfl rfl rfl rfl named Tryz.func6 closed
    (of_decide_eq_true (by as_aux_lemma => kernel_rfl)) (by unfold Func.isWrapper; first | (rw [if_pos (by decide +kernel)]; kernel_rfl) | (rw [if_neg (by decide +kernel)]; exact ⟨rfl, rfl⟩))
    (fun os started H enc _ => lifted os started H enc)

theorem byText : Rows.replicaAsksRow.wfByText (OpenSpec.ofChange Rows.replicaAsksSpec) = true := by kernel_rfl
theorem main : Tryz.prog.mainIs = some (true, "271aa3d4d82c7d93e19256f55ccb91b66e7c072ba0f06a4b54374de550a0167e".toList) := by kernel_rfl
theorem looks : false = Tryz.prog.looks [] := by kernel_rfl
theorem goes : false = Rows.replicaAsksRow.goesBy Tryz.prog := by kernel_rfl
theorem standIn : ([65, 65, 5].all fun u => !Tryz.prog.wantsStandIn u) = true := by kernel_rfl
/-- The tied card. -/
theorem card_holds : Rows.ReplicaAsksCardSaid :=
  Claim7.holds_tied_plain_at .later [] [.data, .data, .data] true (true, "271aa3d4d82c7d93e19256f55ccb91b66e7c072ba0f06a4b54374de550a0167e") false
    row_holds (fun _ h => by cases h) byText (fun _ h => by cases h) replicaAsks_row_tie rfl ⟨rfl, rfl⟩ main rfl
    (fun f fn hf hfn => by
      obtain rfl : f = 6 := Option.some.inj (named.symm.trans hf) |>.symm
      obtain rfl : fn = Tryz.f6 := (Option.some.inj (Tryz.func6.symm.trans hfn)).symm
      exact ⟨looks, fun j t ht => by
        rw [Tryz.params6] at ht
        have hm : t ∈ [65, 65, 5] := by simpa using Array.mem_of_getElem? ht
        exact (show Tryz.prog.wantsStandIn t = false by simpa using List.all_eq_true.1 standIn t hm)⟩)
    goes
#print axioms card_holds
end Go.Proofs.YtnccccpjhoaikaaGreatDoor.ReplicaAsks
