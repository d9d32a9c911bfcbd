/- ClientFirst: of each replica the first word counts: the law returns true for every a, b and who, and the memory that was there stays as it was. No condition but the row's own (the listed tables as the program lays them). -/
import Derived.Test.YtaclhjpignfpfaaDoorCom
import Derived.Test.YtaclhjpignfpfaaDoorCards
namespace Go.Proofs.YtaclhjpignfpfaaDoor.First
open Go.ChangeShapes Go.WideShapes Go.ChangeAt Go.WideMaps Go.WideElems Go.RowKit Go.Abs

/-! ### The runs: whether a is b, and which replica it is -/
def facts (e : Bool) (r : Int) : List Fact := [⟨.eql, .sym .u32 0, .sym .u32 0, .bool true⟩, ⟨.eql, .sym .u32 1, .sym .u32 1, .bool true⟩, ⟨.eql, .sym .u32 0, .sym .u32 1, .bool e⟩, ⟨.eql, .sym .u32 1, .sym .u32 0, .bool e⟩, ⟨.rem, .sym .u8 2, .int .u8 4, .int .u8 r⟩]
noncomputable def cx (e : Bool) (r : Int) : Cx := cxW Tryd.prog plan (facts e r) [] .nil
def args : List AV := [.sym .u32 0, .sym .u32 1, .sym .u8 2]
theorem run0 : isTrue (runF (cx true 0) 1000 5 args ⟨.nil, 0⟩) = true := by kernel_rfl
theorem run1 : isTrue (runF (cx false 0) 1000 5 args ⟨.nil, 0⟩) = true := by kernel_rfl
theorem run2 : isTrue (runF (cx false 1) 1000 5 args ⟨.nil, 0⟩) = true := by kernel_rfl
theorem run3 : isTrue (runF (cx false 2) 1000 5 args ⟨.nil, 0⟩) = true := by kernel_rfl
theorem run4 : isTrue (runF (cx false 3) 1000 5 args ⟨.nil, 0⟩) = true := by kernel_rfl
theorem run5 : isTrue (runF (cx true 1) 1000 5 args ⟨.nil, 0⟩) = true := by kernel_rfl
theorem run6 : isTrue (runF (cx true 2) 1000 5 args ⟨.nil, 0⟩) = true := by kernel_rfl
theorem run7 : isTrue (runF (cx true 3) 1000 5 args ⟨.nil, 0⟩) = true := by kernel_rfl

def at3 (a b who : Int) : Nat → Int
  | 0 => a
  | 1 => b
  | _ => who

theorem runs (e : Bool) (r : Int) (h : r = 0 ∨ r = 1 ∨ r = 2 ∨ r = 3) : isTrue (runF (cx e r) 1000 5 args ⟨.nil, 0⟩) = true := by
  cases e
  · rcases h with rfl | rfl | rfl | rfl
    · exact run1
    · exact run2
    · exact run3
    · exact run4
  · rcases h with rfl | rfl | rfl | rfl
    · exact run0
    · exact run5
    · exact run6
    · exact run7

theorem facts_ok (a b who : Int) : ∀ f ∈ facts (a == b) (who.tmod 4), FactOK Tryd.prog (at3 a b who) f := by
  intro f hf
  simp only [facts, List.mem_cons, List.not_mem_nil, or_false] at hf
  rcases hf with rfl | rfl | rfl | rfl | rfl
  · exact fact_eql (by simp)
  · exact fact_eql (by simp)
  · exact fact_eql rfl
  · exact fact_eql (by simp only [at3]; exact BEq.comm)
  · exact fact_of (conc_symI _ _) (conc_intI _ _) rfl

theorem walk (a0 : Int) (a1 : Int) (a2 : Int) (w2 : (Lit.int .u8 a2).wf = true) (w : World) :
    Calls Tryd.prog 5 #[.int .u32 a0, .int .u32 a1, .int .u8 a2] w fun e w' => e = .returned (.bool true) ∧ Below w.heap.size w w' := by
  have h4 : a2.tmod 4 = 0 ∨ a2.tmod 4 = 1 ∨ a2.tmod 4 = 2 ∨ a2.tmod 4 = 3 := by
    have h0 : 0 ≤ a2 := by
      simp only [Lit.wf, Bool.and_eq_true, decide_eq_true_eq] at w2
      exact w2.1
    have := Int.tmod_nonneg 4 h0
    have := Int.tmod_lt_of_pos a2 (show (0 : Int) < 4 by decide)
    omega
  have hp : ProgOK Tryd.prog (at3 a0 a1 a2) (cx (a0 == a1) (a2.tmod 4)) masks :=
    progOK_of asked rfl rfl rfl (facts_ok a0 a1 a2) (fun _ h => by cases h) (fun g s h => by simp [cx, cxW] at h)
  exact law_of_run hp (A := [.int .u32 a0, .int .u32 a1, .int .u8 a2]) rfl (runs _ _ h4) w

set_option maxRecDepth 100000 in
theorem lifted (os : Os) (started : os.Started) (H : Type) (enc : TypeId × Value → H) :
    ReturnsInHanded {} Tryd.checked os 5 .any (fun w args => (Rows.clientFirstSpec.pre enc Tryd.prog Tryd.f5 [] false w args ∧ laidMetH Tryd.prog laidAll w) ∧ sizedMet enc Tryd.prog Tryd.f5 (OpenSpec.ofChange Rows.clientFirstSpec) false w args)
      (Rows.clientFirstSpec.post enc Tryd.prog Tryd.f5 false true false false) := by
  refine returnsInHanded_of_change_and (C := Tryd.checked) (X := fun w _ => laidMetH Tryd.prog laidAll w) (fun _ _ _ hh h => h.of_heap hh) own started (by kernel_rfl) Tryd.func5
    (ChangeSpec.witness_shaped (enc := enc) (C := Tryd.checked) (os := os) (X := fun w _ => laidMetH Tryd.prog laidAll w) false (World.doorLaid Tryd.prog 400 os) #[.int .u32 0, .int .u32 0, .int .u8 0] 8 rfl (World.shaped_of_RefB (by kernel_rfl) (by kernel_rfl)) (by kernel_rfl) (by kernel_rfl) (by kernel_rfl) (door_met os _)) ?_
  intro W base args ds gs before hval0 hW _ _ _ _
  have hval : ∀ (j : Nat) t v, Tryd.f5.params[j]? = some t → args[j]? = some v → Value.okWide Tryd.prog W .any base t v := hval0
  have hW' := hW
  obtain ⟨p, q, hA0, hV, rfl, hfz, hnd⟩ := hW
  have hA : DataW.TrodAll enc Tryd.prog W 0 (fun _ => true) true Tryd.f5.params.toList args.toList ds p := hA0
  rw [Tryd.params5] at hA hval
  obtain ⟨v0, vs0, d0, ds0, p0, q0, hargs, rfl, rfl, h0, r0⟩ := trodAll_cons hA
  obtain ⟨v1, vs1, d1, ds1, p1, q1, rfl, rfl, rfl, h1, r1⟩ := trodAll_cons r0
  obtain ⟨v2, vs2, d2, ds2, p2, q2, rfl, rfl, rfl, h2, r2⟩ := trodAll_cons r1
  obtain ⟨rfl, rfl, rfl⟩ := trodAll_nil r2
  obtain rfl : args = #[v0, v1, v2] := by cases args; simp_all
  obtain ⟨rfl, rfl⟩ := trodVars_none hV
  obtain ⟨a0, rfl, rfl, rfl, w0⟩ := open_int Tryd.underlying22 (hval 0 22 v0 rfl rfl) h0
  obtain ⟨a1, rfl, rfl, rfl, w1⟩ := open_int Tryd.underlying22 (hval 1 22 v1 rfl rfl) h1
  obtain ⟨a2, rfl, rfl, rfl, w2⟩ := open_int Tryd.underlying5 (hval 2 5 v2 rfl rfl) h2
  clear hA0 hval0
  simp only [List.append_nil] at hW'
  refine (walk a0 a1 a2 w2 W).mono fun e W' ⟨he, hb⟩ => ?_
  subst he
  exact ⟨_, rfl, post_of_below (pa := []) (pv := []) hW' (fun _ _ _ => (trodAll_cons_mk (shut_bool Tryd.underlying4 _) trodAll_mk0))
    (fun sp _ => (trodAll_cons_mk (shut_int Tryd.underlying22 w0) (trodAll_cons_mk (shut_int Tryd.underlying22 w1) (trodAll_cons_mk (shut_int Tryd.underlying5 w2) trodAll_mk0)))) (fun _ _ => rfl) rfl
    hb (ok_one (by kernel_rfl) rfl (okWide_bool_mk Tryd.underlying4 _))⟩

theorem row_holds : Rows.ClientFirstSaid :=
  OpenClaim.holds_of_wide 5 Tryd.f5 rfl rfl rfl rfl rfl rfl rfl ⟨rfl, rfl, rfl, rfl, rfl⟩ rfl rfl rfl rfl rfl (by kernel_rfl) Tryd.func5 (by kernel_rfl)
    (of_decide_eq_true (by kernel_rfl)) (by unfold Func.isWrapper; first | (rw [if_pos (by decide +kernel)]; kernel_rfl) | (rw [if_neg (by decide +kernel)]; exact ⟨rfl, rfl⟩))
    (fun os started H enc _ => lifted os started H enc)

/-- The tied card. -/
theorem card_holds : Rows.ClientFirstCardSaid :=
  Claim7.holds_tied_plain_at .later [] [.data, .data, .data] true (true, "edcf28e44ba4074e72655d8d6415a46bf229f82427bca9c9c67c0d9b28a0fb82") false
    row_holds (fun _ h => by cases h) (by kernel_rfl) (fun _ h => by cases h) clientFirst_row_tie rfl ⟨rfl, rfl⟩ (by kernel_rfl) rfl
    (fun f fn hf hfn => by
      obtain rfl : f = 5 := Option.some.inj ((show Tryd.prog.funcNamed "palisade/palisadelaw21.ClientFirst" = some 5 by kernel_rfl).symm.trans hf) |>.symm
      obtain rfl : fn = Tryd.f5 := (Option.some.inj (Tryd.func5.symm.trans hfn)).symm
      exact ⟨by kernel_rfl, fun j t ht => by
        rw [Tryd.params5] at ht
        have hm : t ∈ [22, 22, 5] := by simpa using Array.mem_of_getElem? ht
        have hall : ([22, 22, 5].all fun u => !Tryd.prog.wantsStandIn u) = true := by kernel_rfl
        exact (show Tryd.prog.wantsStandIn t = false by simpa using List.all_eq_true.1 hall t hm)⟩)
    (by kernel_rfl)
#print axioms card_holds
end Go.Proofs.YtaclhjpignfpfaaDoor.First
