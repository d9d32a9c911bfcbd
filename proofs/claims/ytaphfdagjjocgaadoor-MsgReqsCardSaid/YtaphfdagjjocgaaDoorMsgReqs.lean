/- MsgReqs: the law returns true for every input of its kinds, and the memory that was there stays as it was. No condition but the row's own (the listed tables as the program lays them). -/
import Derived.Test.YtaphfdagjjocgaaDoorCom
import Derived.Test.YtaphfdagjjocgaaDoorCards
import Derived.Test.YtaphfdagjjocgaaDoorMsgReqsR0
namespace Go.Proofs.YtaphfdagjjocgaaDoor.MsgReqs
open Go.ChangeShapes Go.WideShapes Go.ChangeAt Go.WideMaps Go.WideElems Go.RowKit Go.Abs

def kinds : List ArgK := [(true, [.int .u8, .int .u32, .int .u8, .int .u8, .int .u16])]
theorem walk (A : List Value) (h : FitsAll kinds A) (w : World) : Calls Tryd.prog 6 ⟨A⟩ w fun e w' => e = .returned (.bool true) ∧ Below w.heap.size w w' := by
  obtain ⟨cs0, A0, g0, rfl, h0⟩ := fit_agg h
  obtain ⟨client, rclient, wclient, rfl, gclient⟩ := fitL_int g0
  obtain ⟨ts, rts, wts, rfl, gts⟩ := fitL_int gclient
  obtain ⟨kind, rkind, wkind, rfl, gkind⟩ := fitL_int gts
  obtain ⟨key, rkey, wkey, rfl, gkey⟩ := fitL_int gkind
  obtain ⟨vl, rvl, wvl, rfl, gvl⟩ := fitL_int gkey
  obtain rfl := fitL_nil gvl
  obtain rfl := fit_nil h0
  exact MsgReqsB0.walk client ts kind key vl (wf_u8 wclient) (wf_u32 wts) (wf_u8 wkind) (wf_u8 wkey) (wf_u16 wvl) w

set_option maxRecDepth 100000 in
theorem lifted (os : Os) (started : os.Started) (H : Type) (enc : TypeId × Value → H) :
    ReturnsInHanded {} Tryd.checked os 6 .any (fun w args => (Rows.msgReqsSpec.pre enc Tryd.prog Tryd.f6 [] false w args ∧ laidMetH Tryd.prog laidAll w) ∧ sizedMet enc Tryd.prog Tryd.f6 (OpenSpec.ofChange Rows.msgReqsSpec) false w args)
      (Rows.msgReqsSpec.post enc Tryd.prog Tryd.f6 false true false false) := by
  refine returnsInHanded_of_change_and (C := Tryd.checked) (X := fun w _ => laidMetH Tryd.prog laidAll w) (fun _ _ _ hh h => h.of_heap hh) own started (by kernel_rfl) Tryd.func6
    (ChangeSpec.witness_shaped (enc := enc) (C := Tryd.checked) (os := os) (X := fun w _ => laidMetH Tryd.prog laidAll w) false (World.doorLaid Tryd.prog 400 os) #[.agg #[.int .u8 0, .int .u32 0, .int .u8 0, .int .u8 0, .int .u16 0]] 8 rfl (World.shaped_of_RefB (by kernel_rfl) (by kernel_rfl)) (by kernel_rfl) (by kernel_rfl) (by kernel_rfl) (door_met os _)) ?_
  intro W base args ds gs before hval0 hW _ _ _ _
  have hval : ∀ (j : Nat) (t : TypeId) (v : Value), Tryd.f6.params.toList[j]? = some t → args.toList[j]? = some v → Value.okWide Tryd.prog W .any base t v := fun j t v ht hv => hval0 j t v (by simpa using ht) (by simpa using hv)
  have hW' := hW
  obtain ⟨p, q, hA, hV, rfl, hfz, hnd⟩ := hW
  obtain ⟨rfl, hfit, hstill⟩ := trodAll_plain (show plainArgs Tryd.prog Tryd.f6.params.toList = some kinds by kernel_rfl) hval hA
  obtain ⟨rfl, rfl⟩ := trodVars_none hV
  have hl := trodAll_len hA
  obtain ⟨d0, rfl⟩ : ∃ d0, ds = [d0] := len1 (hl.trans (by kernel_rfl))
  simp only [List.append_nil] at hW'
  refine (walk args.toList hfit W).mono fun e W' ⟨he, hb⟩ => ?_
  subst he
  exact ⟨_, rfl, post_of_below (pa := []) (pv := []) hW' (fun _ _ _ => (trodAll_cons_mk (shut_bool (by kernel_rfl) _) trodAll_mk0)) (fun sp _ => hstill _ _ _ _) (fun _ _ => rfl) rfl
    hb (ok_one (t := 4) (by kernel_rfl) rfl (okWide_bool_mk (show Tryd.prog.underlying 4 = some .bool by kernel_rfl) _))⟩

theorem row_holds : Rows.MsgReqsSaid :=
  OpenClaim.holds_of_wide 6 Tryd.f6 rfl rfl rfl rfl rfl rfl rfl ⟨rfl, rfl, rfl, rfl, rfl⟩ rfl rfl rfl rfl rfl (by kernel_rfl) Tryd.func6 (by kernel_rfl)
    (of_decide_eq_true (by kernel_rfl)) (by unfold Func.isWrapper; first | (rw [if_pos (by decide +kernel)]; kernel_rfl) | (rw [if_neg (by decide +kernel)]; exact ⟨rfl, rfl⟩))
    (fun os started H enc _ => lifted os started H enc)

/-- The tied card. -/
theorem card_holds : Rows.MsgReqsCardSaid :=
  Claim7.holds_tied_plain_at .later [] [.data, .data, .data] true (true, "885e38e92fe4c588961cd12a0f3917c77e404edaa375afd67f090c511a70ac46") false
    row_holds (fun _ h => by cases h) (by kernel_rfl) (fun _ h => by cases h) msgReqs_row_tie rfl ⟨rfl, rfl⟩ (by kernel_rfl) rfl
    (fun f fn hf hfn => by
      obtain rfl : f = 6 := Option.some.inj ((show Tryd.prog.funcNamed "palisade/palisadelaw3.MsgReqs" = some 6 by kernel_rfl).symm.trans hf) |>.symm
      obtain rfl : fn = Tryd.f6 := (Option.some.inj (Tryd.func6.symm.trans hfn)).symm
      exact ⟨by kernel_rfl, fun j t ht => by
        rw [Tryd.params6] at ht
        have hm : t ∈ [27] := by simpa using Array.mem_of_getElem? ht
        have hall : ([27].all fun u => !Tryd.prog.wantsStandIn u) = true := by kernel_rfl
        exact (show Tryd.prog.wantsStandIn t = false by simpa using List.all_eq_true.1 hall t hm)⟩)
    (by kernel_rfl)
#print axioms card_holds
end Go.Proofs.YtaphfdagjjocgaaDoor.MsgReqs
