/- MsgTexts: the law returns true for every input of its kinds, and the memory that was there stays as it was. No condition but the row's own (the listed tables as the program lays them). -/
import Derived.Test.YtaphfdagjjocgaaDoorCom
import Derived.Test.YtaphfdagjjocgaaDoorText
import Derived.Test.YtaphfdagjjocgaaDoorCards
namespace Go.Proofs.YtaphfdagjjocgaaDoor.MsgTexts
open Go.ChangeShapes Go.WideShapes Go.ChangeAt Go.WideMaps Go.WideElems Go.RowKit Go.Abs

def kinds : List ArgK := [(true, [.int .u8, .int .u32, .int .u8, .int .u8, .int .u16]), (true, [.int .u8, .int .u32, .int .u8, .int .u8, .int .u16])]
def opqF (v : Nat → Int) (j : Nat) : Value :=
  if j < 10 then .string ⟨(Lib.decDigits (v j).toNat).toArray⟩
  else if j = 10 then .string ⟨(textB [(v 0).toNat, (v 1).toNat, (v 2).toNat, (v 3).toNat, (v 4).toNat]).toArray⟩
  else .string ⟨(textB [(v 5).toNat, (v 6).toNat, (v 7).toNat, (v 8).toNat, (v 9).toNat]).toArray⟩
def sg (v : Nat → Int) : Val := ⟨v, powF 0, opqF v⟩
def tabJ : List (List Nat × Nat) := [([0, 1, 2, 3, 4], 10), ([5, 6, 7, 8, 9], 11)]
def args : List AV := [.agg [.sym .u8 0, .sym .u32 1, .sym .u8 2, .sym .u8 3, .sym .u16 4], .agg [.sym .u8 5, .sym .u32 6, .sym .u8 7, .sym .u8 8, .sym .u16 9]]
def calls : List FCall := [⟨40, [.sym .u64 0, .int .i64 10], .opq 0⟩, ⟨40, [.sym .u64 1, .int .i64 10], .opq 1⟩, ⟨40, [.sym .u64 2, .int .i64 10], .opq 2⟩, ⟨40, [.sym .u64 3, .int .i64 10], .opq 3⟩, ⟨40, [.sym .u64 4, .int .i64 10], .opq 4⟩, ⟨40, [.sym .u64 5, .int .i64 10], .opq 5⟩, ⟨40, [.sym .u64 6, .int .i64 10], .opq 6⟩, ⟨40, [.sym .u64 7, .int .i64 10], .opq 7⟩, ⟨40, [.sym .u64 8, .int .i64 10], .opq 8⟩, ⟨40, [.sym .u64 9, .int .i64 10], .opq 9⟩]
def convs : List FConv := [⟨.u64, .sym .u8 0, .sym .u64 0⟩, ⟨.u64, .sym .u32 1, .sym .u64 1⟩, ⟨.u64, .sym .u8 2, .sym .u64 2⟩, ⟨.u64, .sym .u8 3, .sym .u64 3⟩, ⟨.u64, .sym .u16 4, .sym .u64 4⟩, ⟨.u64, .sym .u8 5, .sym .u64 5⟩, ⟨.u64, .sym .u32 6, .sym .u64 6⟩, ⟨.u64, .sym .u8 7, .sym .u64 7⟩, ⟨.u64, .sym .u8 8, .sym .u64 8⟩, ⟨.u64, .sym .u16 9, .sym .u64 9⟩]
def qk (l : List Fact) : Kn := ⟨l, convs, .nil, [], [], calls⟩
noncomputable def sumsX : Tr Sum := sums.set 41 (joinSumT tabJ)
noncomputable def cxX : Cx := cxW Tryd.prog plan .nil sumsX
def l0 : List Fact := [⟨.eql, .sym .u8 0, .sym .u8 5, .bool false⟩, ⟨.eql, .opq 10, .opq 11, .bool false⟩]
theorem run0 : isTrueR (goT cxX (qk l0) 60 7 args ⟨.nil, 0⟩) = true := by kernel_rfl
def l1 : List Fact := [⟨.eql, .sym .u8 0, .sym .u8 5, .bool true⟩, ⟨.eql, .sym .u32 1, .sym .u32 6, .bool false⟩, ⟨.eql, .opq 10, .opq 11, .bool false⟩]
theorem run1 : isTrueR (goT cxX (qk l1) 60 7 args ⟨.nil, 0⟩) = true := by kernel_rfl
def l2 : List Fact := [⟨.eql, .sym .u8 0, .sym .u8 5, .bool true⟩, ⟨.eql, .sym .u32 1, .sym .u32 6, .bool true⟩, ⟨.eql, .sym .u8 2, .sym .u8 7, .bool false⟩, ⟨.eql, .opq 10, .opq 11, .bool false⟩]
theorem run2 : isTrueR (goT cxX (qk l2) 60 7 args ⟨.nil, 0⟩) = true := by kernel_rfl
def l3 : List Fact := [⟨.eql, .sym .u8 0, .sym .u8 5, .bool true⟩, ⟨.eql, .sym .u32 1, .sym .u32 6, .bool true⟩, ⟨.eql, .sym .u8 2, .sym .u8 7, .bool true⟩, ⟨.eql, .sym .u8 3, .sym .u8 8, .bool false⟩, ⟨.eql, .opq 10, .opq 11, .bool false⟩]
theorem run3 : isTrueR (goT cxX (qk l3) 60 7 args ⟨.nil, 0⟩) = true := by kernel_rfl
def l4 : List Fact := [⟨.eql, .sym .u8 0, .sym .u8 5, .bool true⟩, ⟨.eql, .sym .u32 1, .sym .u32 6, .bool true⟩, ⟨.eql, .sym .u8 2, .sym .u8 7, .bool true⟩, ⟨.eql, .sym .u8 3, .sym .u8 8, .bool true⟩, ⟨.eql, .sym .u16 4, .sym .u16 9, .bool false⟩, ⟨.eql, .opq 10, .opq 11, .bool false⟩]
theorem run4 : isTrueR (goT cxX (qk l4) 60 7 args ⟨.nil, 0⟩) = true := by kernel_rfl
def l5 : List Fact := [⟨.eql, .sym .u8 0, .sym .u8 5, .bool true⟩, ⟨.eql, .sym .u32 1, .sym .u32 6, .bool true⟩, ⟨.eql, .sym .u8 2, .sym .u8 7, .bool true⟩, ⟨.eql, .sym .u8 3, .sym .u8 8, .bool true⟩, ⟨.eql, .sym .u16 4, .sym .u16 9, .bool true⟩, ⟨.eql, .opq 10, .opq 11, .bool true⟩]
theorem run5 : isTrueR (goT cxX (qk l5) 60 7 args ⟨.nil, 0⟩) = true := by kernel_rfl
def Small (v : Nat → Int) : Prop := ∀ i, i < 10 → 0 ≤ v i ∧ v i < 4294967296
theorem join_ok {v : Nat → Int} (h : Small v) : JoinOK (sg v) tabJ := by
  have hl : ∀ a b c d e : Nat, a < 10 → b < 10 → c < 10 → d < 10 → e < 10 → (Lib.join [Lib.decDigits (v a).toNat, Lib.decDigits (v b).toNat, Lib.decDigits (v c).toNat, Lib.decDigits (v d).toNat, Lib.decDigits (v e).toNat] [58]).length ≤ 140737488355328 := fun a b c d e ha hb hc hd he => by
    have := textB_len (l := [(v a).toNat, (v b).toNat, (v c).toNat, (v d).toNat, (v e).toNat]) (fun u hu => by
      simp only [List.mem_cons, List.not_mem_nil, or_false] at hu
      have h1 := h a ha; have h2 := h b hb; have h3 := h c hc; have h4 := h d hd; have h5 := h e he
      rcases hu with rfl | rfl | rfl | rfl | rfl <;> omega)
    simp only [List.length_cons, List.length_nil] at this
    exact Nat.le_trans this (by decide)
  intro l j hm
  simp only [tabJ, List.mem_cons, Prod.mk.injEq, List.not_mem_nil, or_false] at hm
  rcases hm with ⟨rfl, rfl⟩ | ⟨rfl, rfl⟩
  · exact ⟨[Lib.decDigits (v 0).toNat, Lib.decDigits (v 1).toNat, Lib.decDigits (v 2).toNat, Lib.decDigits (v 3).toNat, Lib.decDigits (v 4).toNat], rfl, rfl, by simp, hl 0 1 2 3 4 (by omega) (by omega) (by omega) (by omega) (by omega)⟩
  · exact ⟨[Lib.decDigits (v 5).toNat, Lib.decDigits (v 6).toNat, Lib.decDigits (v 7).toNat, Lib.decDigits (v 8).toNat, Lib.decDigits (v 9).toNat], rfl, rfl, by simp, hl 5 6 7 8 9 (by omega) (by omega) (by omega) (by omega) (by omega)⟩
theorem sums_okX {v : Nat → Int} (h : Small v) : ∀ g s, sumsX.get g = some s → SumOK Tryd.prog (sg v) g s :=
  setSum_ok sums_ok (joinT_sumOK (join_ok h) (fn := (Tryd.prog.funcs[41]?).getD default) (c := ((Tryd.prog.funcs[41]?).getD default).body.getD .skip) (by kernel_rfl) (by kernel_rfl) (by kernel_rfl) (fun bk o c xs sep w h1 h2 h3 h4 h5 => Tryd.strings_Join bk o c xs sep w h1 h2 h3 h4 h5))
theorem calls_ok {v : Nat → Int} (h : Small v) : ∀ f ∈ calls, FCallOK Tryd.prog (sg v) f := by
  have h1 : ∀ i, i < 10 → FCallOK Tryd.prog (sg v) ⟨40, [.sym .u64 i, .int .i64 10], .opq i⟩ := fun i hi =>
    fu_callOK (g := 40) (gT := 0) (fn := (Tryd.prog.funcs[40]?).getD default) (c := ((Tryd.prog.funcs[40]?).getD default).body.getD .skip) (by kernel_rfl) (by kernel_rfl) (by kernel_rfl) (fun u w hu hT => fu u w hu hT) (powF_at 0) (u := (v i).toNat) (by have := h i hi; show v i = _; omega) (by have := h i hi; omega) (if_pos hi)
  unfold calls
  exact all_cons (h1 0 (by omega)) (all_cons (h1 1 (by omega)) (all_cons (h1 2 (by omega)) (all_cons (h1 3 (by omega)) (all_cons (h1 4 (by omega)) (all_cons (h1 5 (by omega)) (all_cons (h1 6 (by omega)) (all_cons (h1 7 (by omega)) (all_cons (h1 8 (by omega)) (all_cons (h1 9 (by omega)) (all_nil))))))))))
theorem convs_ok {v : Nat → Int} (h : Small v) : ∀ f ∈ convs, FConvOK (sg v) f := by
  unfold convs
  exact all_cons (conv_num (σ := sg v) rfl rfl (by have := h 0 (by omega); show v 0 = IntKind.u64.wrap (v 0); rw [wrap_u64]; omega)) (all_cons (conv_num (σ := sg v) rfl rfl (by have := h 1 (by omega); show v 1 = IntKind.u64.wrap (v 1); rw [wrap_u64]; omega)) (all_cons (conv_num (σ := sg v) rfl rfl (by have := h 2 (by omega); show v 2 = IntKind.u64.wrap (v 2); rw [wrap_u64]; omega)) (all_cons (conv_num (σ := sg v) rfl rfl (by have := h 3 (by omega); show v 3 = IntKind.u64.wrap (v 3); rw [wrap_u64]; omega)) (all_cons (conv_num (σ := sg v) rfl rfl (by have := h 4 (by omega); show v 4 = IntKind.u64.wrap (v 4); rw [wrap_u64]; omega)) (all_cons (conv_num (σ := sg v) rfl rfl (by have := h 5 (by omega); show v 5 = IntKind.u64.wrap (v 5); rw [wrap_u64]; omega)) (all_cons (conv_num (σ := sg v) rfl rfl (by have := h 6 (by omega); show v 6 = IntKind.u64.wrap (v 6); rw [wrap_u64]; omega)) (all_cons (conv_num (σ := sg v) rfl rfl (by have := h 7 (by omega); show v 7 = IntKind.u64.wrap (v 7); rw [wrap_u64]; omega)) (all_cons (conv_num (σ := sg v) rfl rfl (by have := h 8 (by omega); show v 8 = IntKind.u64.wrap (v 8); rw [wrap_u64]; omega)) (all_cons (conv_num (σ := sg v) rfl rfl (by have := h 9 (by omega); show v 9 = IntKind.u64.wrap (v 9); rw [wrap_u64]; omega)) (all_nil))))))))))
theorem txt {v : Nat → Int} {b : Bool} (h : Small v) (hb : b = decide (v 0 = v 5 ∧ v 1 = v 6 ∧ v 2 = v 7 ∧ v 3 = v 8 ∧ v 4 = v 9)) : FactOK Tryd.prog (sg v) ⟨.eql, .opq 10, .opq 11, .bool b⟩ :=
  fact_str (σ := sg v) (a := textB [(v 0).toNat, (v 1).toNat, (v 2).toNat, (v 3).toNat, (v 4).toNat]) (b := textB [(v 5).toNat, (v 6).toNat, (v 7).toNat, (v 8).toNat, (v 9).toNat]) rfl rfl (by
    simp only [binStr, strEq_eq, Option.some.injEq, AV.bool.injEq, hb]
    have h0 := h 0 (by omega); have h1 := h 1 (by omega); have h2 := h 2 (by omega); have h3 := h 3 (by omega); have h4 := h 4 (by omega); have h5 := h 5 (by omega); have h6 := h 6 (by omega); have h7 := h 7 (by omega); have h8 := h 8 (by omega); have h9 := h 9 (by omega)
    by_cases e : v 0 = v 5 ∧ v 1 = v 6 ∧ v 2 = v 7 ∧ v 3 = v 8 ∧ v 4 = v 9
    · obtain ⟨e0, e1, e2, e3, e4⟩ := e
      simp [e0, e1, e2, e3, e4]
    · rw [decide_eq_false e]
      simp only [beq_eq_false_iff_ne]
      intro hh
      have := textB_inj hh
      simp only [List.cons.injEq, and_true] at this
      exact e ⟨by omega, by omega, by omega, by omega, by omega⟩)
theorem walkv (v : Nat → Int) (h : Small v) {l : List Fact} (hl : ∀ f ∈ l, FactOK Tryd.prog (sg v) f) (hr : isTrueR (goT cxX (qk l) 60 7 args ⟨.nil, 0⟩) = true) (A : List Value) (hA : concs (noEnv (sg v)) args = some A) (w : World) (hT : ∀ q, q < 20 → w.cell? ⟨0, q, none⟩ = some (.int .u64 ((10 ^ q : Nat) : Int))) :
    Calls Tryd.prog 7 ⟨A⟩ w fun e w' => e = .returned (.bool true) ∧ Below w.heap.size w w' :=
  law_of_run (σ := sg v) (cx := cxX) (q := qk l) (progOK_W asked hl (convs_ok h) bytes_nil all_nil all_nil (calls_ok h) globs_nil (sums_okX h)) hA hr w (powF_in hT)
theorem walks (v : Nat → Int) (h : Small v) (A : List Value) (hA : concs (noEnv (sg v)) args = some A) (w : World) (hT : ∀ q, q < 20 → w.cell? ⟨0, q, none⟩ = some (.int .u64 ((10 ^ q : Nat) : Int))) :
    Calls Tryd.prog 7 ⟨A⟩ w fun e w' => e = .returned (.bool true) ∧ Below w.heap.size w w' := by
  by_cases e0 : v 0 = v 5
  rotate_left
  · exact walkv v h (l := l0) (all_cons (fact_ne (σ := sg v) rfl rfl e0) (all_cons (txt h (by simp [e0])) all_nil)) run0 A hA w hT
  by_cases e1 : v 1 = v 6
  rotate_left
  · exact walkv v h (l := l1) (all_cons (fact_eq (σ := sg v) rfl rfl e0) (all_cons (fact_ne (σ := sg v) rfl rfl e1) (all_cons (txt h (by simp [e1])) all_nil))) run1 A hA w hT
  by_cases e2 : v 2 = v 7
  rotate_left
  · exact walkv v h (l := l2) (all_cons (fact_eq (σ := sg v) rfl rfl e0) (all_cons (fact_eq (σ := sg v) rfl rfl e1) (all_cons (fact_ne (σ := sg v) rfl rfl e2) (all_cons (txt h (by simp [e2])) all_nil)))) run2 A hA w hT
  by_cases e3 : v 3 = v 8
  rotate_left
  · exact walkv v h (l := l3) (all_cons (fact_eq (σ := sg v) rfl rfl e0) (all_cons (fact_eq (σ := sg v) rfl rfl e1) (all_cons (fact_eq (σ := sg v) rfl rfl e2) (all_cons (fact_ne (σ := sg v) rfl rfl e3) (all_cons (txt h (by simp [e3])) all_nil))))) run3 A hA w hT
  by_cases e4 : v 4 = v 9
  rotate_left
  · exact walkv v h (l := l4) (all_cons (fact_eq (σ := sg v) rfl rfl e0) (all_cons (fact_eq (σ := sg v) rfl rfl e1) (all_cons (fact_eq (σ := sg v) rfl rfl e2) (all_cons (fact_eq (σ := sg v) rfl rfl e3) (all_cons (fact_ne (σ := sg v) rfl rfl e4) (all_cons (txt h (by simp [e4])) all_nil)))))) run4 A hA w hT
  exact walkv v h (l := l5) (all_cons (fact_eq (σ := sg v) rfl rfl e0) (all_cons (fact_eq (σ := sg v) rfl rfl e1) (all_cons (fact_eq (σ := sg v) rfl rfl e2) (all_cons (fact_eq (σ := sg v) rfl rfl e3) (all_cons (fact_eq (σ := sg v) rfl rfl e4) (all_cons (txt h (by simp [e0, e1, e2, e3, e4])) all_nil)))))) run5 A hA w hT
theorem walk (A : List Value) (h : FitsAll kinds A) (w : World) (hT : ∀ q, q < 20 → w.cell? ⟨0, q, none⟩ = some (.int .u64 ((10 ^ q : Nat) : Int))) : Calls Tryd.prog 7 ⟨A⟩ w fun e w' => e = .returned (.bool true) ∧ Below w.heap.size w w' := by
  obtain ⟨cs0, A0, g0, rfl, h0⟩ := fit_agg h
  obtain ⟨ca, rca, wca, rfl, gca⟩ := fitL_int g0
  obtain ⟨ta, rta, wta, rfl, gta⟩ := fitL_int gca
  obtain ⟨ka, rka, wka, rfl, gka⟩ := fitL_int gta
  obtain ⟨ya, rya, wya, rfl, gya⟩ := fitL_int gka
  obtain ⟨va, rva, wva, rfl, gva⟩ := fitL_int gya
  obtain rfl := fitL_nil gva
  obtain ⟨cs1, A1, g1, rfl, h1⟩ := fit_agg h0
  obtain ⟨cb, rcb, wcb, rfl, gcb⟩ := fitL_int g1
  obtain ⟨tb, rtb, wtb, rfl, gtb⟩ := fitL_int gcb
  obtain ⟨kb, rkb, wkb, rfl, gkb⟩ := fitL_int gtb
  obtain ⟨yb, ryb, wyb, rfl, gyb⟩ := fitL_int gkb
  obtain ⟨vb, rvb, wvb, rfl, gvb⟩ := fitL_int gyb
  obtain rfl := fitL_nil gvb
  obtain rfl := fit_nil h1
  have bca := wf_u8 wca
  have bta := wf_u32 wta
  have bka := wf_u8 wka
  have bya := wf_u8 wya
  have bva := wf_u16 wva
  have bcb := wf_u8 wcb
  have btb := wf_u32 wtb
  have bkb := wf_u8 wkb
  have byb := wf_u8 wyb
  have bvb := wf_u16 wvb
  refine walks (fun i => [ca, ta, ka, ya, va, cb, tb, kb, yb, vb].getD i 0) (fun i hi => ?_) _ rfl w hT
  match i, hi with
  | 0, _ => show 0 ≤ ca ∧ ca < 4294967296; omega
  | 1, _ => show 0 ≤ ta ∧ ta < 4294967296; omega
  | 2, _ => show 0 ≤ ka ∧ ka < 4294967296; omega
  | 3, _ => show 0 ≤ ya ∧ ya < 4294967296; omega
  | 4, _ => show 0 ≤ va ∧ va < 4294967296; omega
  | 5, _ => show 0 ≤ cb ∧ cb < 4294967296; omega
  | 6, _ => show 0 ≤ tb ∧ tb < 4294967296; omega
  | 7, _ => show 0 ≤ kb ∧ kb < 4294967296; omega
  | 8, _ => show 0 ≤ yb ∧ yb < 4294967296; omega
  | 9, _ => show 0 ≤ vb ∧ vb < 4294967296; omega

set_option maxRecDepth 100000 in
theorem lifted (os : Os) (started : os.Started) (H : Type) (enc : TypeId × Value → H) :
    ReturnsInHanded {} Tryd.checked os 7 .any (fun w args => (Rows.msgTextsSpec.pre enc Tryd.prog Tryd.f7 [] false w args ∧ laidMetH Tryd.prog laidAll w) ∧ sizedMet enc Tryd.prog Tryd.f7 (OpenSpec.ofChange Rows.msgTextsSpec) false w args)
      (Rows.msgTextsSpec.post enc Tryd.prog Tryd.f7 false true false false) := by
  refine returnsInHanded_of_change_and (C := Tryd.checked) (X := fun w _ => laidMetH Tryd.prog laidAll w) (fun _ _ _ hh h => h.of_heap hh) own started (by kernel_rfl) Tryd.func7
    (ChangeSpec.witness_shaped (enc := enc) (C := Tryd.checked) (os := os) (X := fun w _ => laidMetH Tryd.prog laidAll w) false (World.doorLaid Tryd.prog 400 os) #[.agg #[.int .u8 0, .int .u32 0, .int .u8 0, .int .u8 0, .int .u16 0], .agg #[.int .u8 0, .int .u32 0, .int .u8 0, .int .u8 0, .int .u16 0]] 8 rfl (World.shaped_of_RefB (by kernel_rfl) (by kernel_rfl)) (by kernel_rfl) (by kernel_rfl) (by kernel_rfl) (door_met os _)) ?_
  intro W base args ds gs before hval0 hW x1 x2 x3 x4
  have hLd : laidMetH Tryd.prog laidAll W := by assumption
  have hval : ∀ (j : Nat) (t : TypeId) (v : Value), Tryd.f7.params.toList[j]? = some t → args.toList[j]? = some v → Value.okWide Tryd.prog W .any base t v := fun j t v ht hv => hval0 j t v (by simpa using ht) (by simpa using hv)
  have hW' := hW
  obtain ⟨p, q, hA, hV, rfl, hfz, hnd⟩ := hW
  obtain ⟨rfl, hfit, hstill⟩ := trodAll_plain (show plainArgs Tryd.prog Tryd.f7.params.toList = some kinds by kernel_rfl) hval hA
  obtain ⟨rfl, rfl⟩ := trodVars_none hV
  have hl := trodAll_len hA
  obtain ⟨d0, d1, rfl⟩ : ∃ d0 d1, ds = [d0, d1] := len2 (hl.trans (by kernel_rfl))
  simp only [List.append_nil] at hW'
  refine (walk args.toList hfit W (laid_pow hLd)).mono fun e W' ⟨he, hb⟩ => ?_
  subst he
  exact ⟨_, rfl, post_of_below (pa := []) (pv := []) hW' (fun _ _ _ => (trodAll_cons_mk (shut_bool (by kernel_rfl) _) trodAll_mk0)) (fun sp _ => hstill _ _ _ _) (fun _ _ => rfl) rfl
    hb (ok_one (t := 4) (by kernel_rfl) rfl (okWide_bool_mk (show Tryd.prog.underlying 4 = some .bool by kernel_rfl) _))⟩

theorem j9 : (Rows.msgTextsRow.inPlace == Tryd.prog.inPlace 7) = true := by kernel_rfl
theorem j10 : (Rows.msgTextsRow.unfollowed == Tryd.prog.unfollowed 7) = true := by kernel_rfl
theorem j11 : (Rows.msgTextsRow.recurses == Tryd.prog.recurses 7) = true := by kernel_rfl
theorem j12 : (Rows.msgTextsRow.named == Tryd.prog.varsNamed 7) = true := by kernel_rfl
theorem closed : joinedFacts Tryd.prog 7 Tryd.f7 Rows.msgTextsSpec Rows.msgTextsRow = true :=
  joined_mk (by as_aux_lemma => kernel_rfl) g_laid g_rowed (by as_aux_lemma => kernel_rfl) (by as_aux_lemma => kernel_rfl) rfl (by as_aux_lemma => kernel_rfl) rfl (by as_aux_lemma => kernel_rfl) j9 j10 j11 j12
    (by as_aux_lemma => kernel_rfl) (by as_aux_lemma => kernel_rfl) (by as_aux_lemma => kernel_rfl) (by as_aux_lemma => kernel_rfl) (by as_aux_lemma => kernel_rfl) (by as_aux_lemma => kernel_rfl) (by as_aux_lemma => kernel_rfl) (by as_aux_lemma => kernel_rfl) (by as_aux_lemma => kernel_rfl) g_plain rfl g_heard g_enter g_lift g_make
    (by as_aux_lemma => kernel_rfl) (by as_aux_lemma => kernel_rfl) (by as_aux_lemma => kernel_rfl) (by as_aux_lemma => kernel_rfl)
theorem named : Tryd.prog.funcNamed "palisade/palisadelaw3.MsgTexts" = some 7 := by kernel_rfl

theorem row_holds : Rows.MsgTextsSaid :=
  OpenClaim.holds_of_wide 7 Tryd.f7 rfl rfl rfl rfl rfl rfl rfl ⟨rfl, rfl, rfl, rfl, rfl⟩ rfl rfl rfl rfl rfl named Tryd.func7 closed
    (of_decide_eq_true (by as_aux_lemma => kernel_rfl)) (by unfold Func.isWrapper; first | (rw [if_pos (by decide +kernel)]; kernel_rfl) | (rw [if_neg (by decide +kernel)]; exact ⟨rfl, rfl⟩))
    (fun os started H enc _ => lifted os started H enc)

theorem byText : Rows.msgTextsRow.wfByText (OpenSpec.ofChange Rows.msgTextsSpec) = true := by kernel_rfl
theorem main : Tryd.prog.mainIs = some (true, "885e38e92fe4c588961cd12a0f3917c77e404edaa375afd67f090c511a70ac46".toList) := by kernel_rfl
theorem looks : false = Tryd.prog.looks [] := by kernel_rfl
theorem goes : false = Rows.msgTextsRow.goesBy Tryd.prog := by kernel_rfl
theorem standIn : ([27, 27].all fun u => !Tryd.prog.wantsStandIn u) = true := by kernel_rfl
/-- The tied card. -/
theorem card_holds : Rows.MsgTextsCardSaid :=
  Claim7.holds_tied_plain_at .later [] [.data, .data, .data] true (true, "885e38e92fe4c588961cd12a0f3917c77e404edaa375afd67f090c511a70ac46") false
    row_holds (fun _ h => by cases h) byText (fun _ h => by cases h) msgTexts_row_tie rfl ⟨rfl, rfl⟩ main rfl
    (fun f fn hf hfn => by
      obtain rfl : f = 7 := Option.some.inj (named.symm.trans hf) |>.symm
      obtain rfl : fn = Tryd.f7 := (Option.some.inj (Tryd.func7.symm.trans hfn)).symm
      exact ⟨looks, fun j t ht => by
        rw [Tryd.params7] at ht
        have hm : t ∈ [27, 27] := by simpa using Array.mem_of_getElem? ht
        exact (show Tryd.prog.wantsStandIn t = false by simpa using List.all_eq_true.1 standIn t hm)⟩)
    goes
#print axioms card_holds
end Go.Proofs.YtaphfdagjjocgaaDoor.MsgTexts
