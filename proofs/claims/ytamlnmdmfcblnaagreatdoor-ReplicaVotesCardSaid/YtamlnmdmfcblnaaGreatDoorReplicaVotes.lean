/- ReplicaVotes: the law returns true for every input of its kinds, and the memory that was there stays as it was. No condition but the row's own (the listed tables as the program lays them). -/
import Derived.Test.YtamlnmdmfcblnaaGreatDoorCom
import Derived.Test.YtamlnmdmfcblnaaGreatDoorText
import Derived.Test.YtamlnmdmfcblnaaGreatDoorCards
import Derived.Test.YtamlnmdmfcblnaaGreatDoorReplicaVotesR0
namespace Go.Proofs.YtamlnmdmfcblnaaGreatDoor.ReplicaVotes
open Go.ChangeShapes Go.WideShapes Go.ChangeAt Go.WideMaps Go.WideElems Go.RowKit Go.Abs

def kinds : List ArgK := [(false, [.int .u8]), (false, [.int .u8])]
theorem walk (A : List Value) (h : FitsAll kinds A) (w : World) (hT : ∀ q, q < 20 → w.cell? ⟨0, q, none⟩ = some (.int .u64 ((10 ^ q : Nat) : Int))) : Calls Tryz.prog 8 ⟨A⟩ w fun e w' => e = .returned (.bool true) ∧ Below w.heap.size w w' := by
  obtain ⟨done_, A0, wdone_, rfl, h0⟩ := fit_int h
  obtain ⟨seen_, A1, wseen_, rfl, h1⟩ := fit_int h0
  obtain rfl := fit_nil h1
  exact ReplicaVotesB0.walk done_ seen_ (wf_u8 wdone_) (wf_u8 wseen_) w hT

set_option maxRecDepth 100000 in
theorem lifted (os : Os) (started : os.Started) (H : Type) (enc : TypeId × Value → H) :
    ReturnsInHanded {} Tryz.checked os 8 .any (fun w args => (Rows.replicaVotesSpec.pre enc Tryz.prog Tryz.f8 [] false w args ∧ laidMetH Tryz.prog laidAll w) ∧ sizedMet enc Tryz.prog Tryz.f8 (OpenSpec.ofChange Rows.replicaVotesSpec) false w args)
      (Rows.replicaVotesSpec.post enc Tryz.prog Tryz.f8 false true false false) := by
  refine returnsInHanded_of_change_and (C := Tryz.checked) (X := fun w _ => laidMetH Tryz.prog laidAll w) (fun _ _ _ hh h => h.of_heap hh) own started (by kernel_rfl) Tryz.func8
    (ChangeSpec.witness_shaped (enc := enc) (C := Tryz.checked) (os := os) (X := fun w _ => laidMetH Tryz.prog laidAll w) false (World.doorLaid Tryz.prog 400 os) #[.int .u8 0, .int .u8 0] 8 rfl (World.shaped_of_RefB (by kernel_rfl) (by kernel_rfl)) (by kernel_rfl) (by kernel_rfl) (by kernel_rfl) (door_met os _)) ?_
  intro W base args ds gs before hval0 hW x1 x2 x3 x4
  have hLd : laidMetH Tryz.prog laidAll W := by assumption
  have hval : ∀ (j : Nat) (t : TypeId) (v : Value), Tryz.f8.params.toList[j]? = some t → args.toList[j]? = some v → Value.okWide Tryz.prog W .any base t v := fun j t v ht hv => hval0 j t v (by simpa using ht) (by simpa using hv)
  have hW' := hW
  obtain ⟨p, q, hA, hV, rfl, hfz, hnd⟩ := hW
  obtain ⟨rfl, hfit, hstill⟩ := trodAll_plain (show plainArgs Tryz.prog Tryz.f8.params.toList = some kinds by kernel_rfl) hval hA
  obtain ⟨rfl, rfl⟩ := trodVars_none hV
  have hl := trodAll_len hA
  obtain ⟨d0, d1, rfl⟩ : ∃ d0 d1, ds = [d0, d1] := len2 (hl.trans (by kernel_rfl))
  simp only [List.append_nil] at hW'
  refine (walk args.toList hfit W (laid_pow hLd)).mono fun e W' ⟨he, hb⟩ => ?_
  subst he
  exact ⟨_, rfl, post_of_below (pa := []) (pv := []) hW' (fun _ _ _ => (trodAll_cons_mk (shut_bool (by kernel_rfl) _) trodAll_mk0)) (fun sp _ => hstill _ _ _ _) (fun _ _ => rfl) rfl
    hb (ok_one (t := 4) (by kernel_rfl) rfl (okWide_bool_mk (show Tryz.prog.underlying 4 = some .bool by kernel_rfl) _))⟩

theorem j9 : (Rows.replicaVotesRow.inPlace == Tryz.prog.inPlace 8) = true := by kernel_rfl
theorem j10 : (Rows.replicaVotesRow.unfollowed == Tryz.prog.unfollowed 8) = true := by kernel_rfl
theorem j11 : (Rows.replicaVotesRow.recurses == Tryz.prog.recurses 8) = true := by kernel_rfl
theorem j12 : (Rows.replicaVotesRow.named == Tryz.prog.varsNamed 8) = true := by kernel_rfl
theorem closed : joinedFacts Tryz.prog 8 Tryz.f8 Rows.replicaVotesSpec Rows.replicaVotesRow = true :=
  joined_mk (by as_aux_lemma => kernel_rfl) g_laid g_rowed (by as_aux_lemma => kernel_rfl) (by as_aux_lemma => kernel_rfl) rfl (by as_aux_lemma => kernel_rfl) rfl (by as_aux_lemma => kernel_rfl) j9 j10 j11 j12
    (by as_aux_lemma => kernel_rfl) (by as_aux_lemma => kernel_rfl) (by as_aux_lemma => kernel_rfl) (by as_aux_lemma => kernel_rfl) (by as_aux_lemma => kernel_rfl) (by as_aux_lemma => kernel_rfl) (by as_aux_lemma => kernel_rfl) (by as_aux_lemma => kernel_rfl) (by as_aux_lemma => kernel_rfl) g_plain rfl g_heard g_enter g_lift g_make
    (by as_aux_lemma => kernel_rfl) (by as_aux_lemma => kernel_rfl) (by as_aux_lemma => kernel_rfl) (by as_aux_lemma => kernel_rfl)
theorem named : Tryz.prog.funcNamed "palisade/palisadelaw20.ReplicaVotes" = some 8 := by kernel_rfl

theorem row_holds : Rows.ReplicaVotesSaid :=
  OpenClaim.holds_of_wide 8 Tryz.f8 rfl rfl rfl rfl rfl rfl rfl ⟨rfl, rfl, rfl, rfl, rfl⟩ rfl rfl rfl rfl rfl named Tryz.func8 closed
    (of_decide_eq_true (by as_aux_lemma => kernel_rfl)) (by unfold Func.isWrapper; first | (rw [if_pos (by decide +kernel)]; kernel_rfl) | (rw [if_neg (by decide +kernel)]; exact ⟨rfl, rfl⟩))
    (fun os started H enc _ => lifted os started H enc)

theorem byText : Rows.replicaVotesRow.wfByText (OpenSpec.ofChange Rows.replicaVotesSpec) = true := by kernel_rfl
theorem main : Tryz.prog.mainIs = some (true, "f062b4e28f5527b6202bcfcff4a2093c1d30a1ec0e34f166e4932990a361b3b2".toList) := by kernel_rfl
theorem looks : false = Tryz.prog.looks [] := by kernel_rfl
theorem goes : false = Rows.replicaVotesRow.goesBy Tryz.prog := by kernel_rfl
theorem standIn : ([5, 5].all fun u => !Tryz.prog.wantsStandIn u) = true := by kernel_rfl
/-- The tied card. -/
theorem card_holds : Rows.ReplicaVotesCardSaid :=
  Claim7.holds_tied_plain_at .later [] [.data, .data, .data] true (true, "f062b4e28f5527b6202bcfcff4a2093c1d30a1ec0e34f166e4932990a361b3b2") false
    row_holds (fun _ h => by cases h) byText (fun _ h => by cases h) replicaVotes_row_tie rfl ⟨rfl, rfl⟩ main rfl
    (fun f fn hf hfn => by
      obtain rfl : f = 8 := Option.some.inj (named.symm.trans hf) |>.symm
      obtain rfl : fn = Tryz.f8 := (Option.some.inj (Tryz.func8.symm.trans hfn)).symm
      exact ⟨looks, fun j t ht => by
        rw [Tryz.params8] at ht
        have hm : t ∈ [5, 5] := by simpa using Array.mem_of_getElem? ht
        exact (show Tryz.prog.wantsStandIn t = false by simpa using List.all_eq_true.1 standIn t hm)⟩)
    goes
#print axioms card_holds
end Go.Proofs.YtamlnmdmfcblnaaGreatDoor.ReplicaVotes
