/- PqOrder: the law returns true for every input of its kinds, and the memory that was there stays as it was. No condition but the row's own (the listed tables as the program lays them). -/
import Derived.Test.YtgppggdnldiecaaDoorCom
import Derived.Test.YtgppggdnldiecaaDoorText
import Derived.Test.YtgppggdnldiecaaDoorCards
namespace Go.Proofs.YtgppggdnldiecaaDoor.PqOrder
open Go.ChangeShapes Go.WideShapes Go.ChangeAt Go.WideMaps Go.WideElems Go.RowKit Go.Abs

def kinds : List ArgK := [(true, [.int .u32, .int .u32, .int .u8, .int .u32, .int .u8, .int .u8, .int .u16]), (true, [.int .u32, .int .u32, .int .u8, .int .u32, .int .u8, .int .u8, .int .u16]), (true, [.int .u32, .int .u32, .int .u8, .int .u32, .int .u8, .int .u8, .int .u16])]
set_option linter.unusedVariables false
set_option linter.unusedSimpArgs false
def opqF (v : Nat → Int) (j : Nat) : Value :=
  if j < 20 then .string ⟨(Lib.decDigits (v j).toNat).toArray⟩
  else if j = 20 then .string ⟨(textB [(v 2).toNat, (v 3).toNat, (v 4).toNat, (v 5).toNat, (v 6).toNat]).toArray⟩ else .string ⟨(textB [(v 9).toNat, (v 10).toNat, (v 11).toNat, (v 12).toNat, (v 13).toNat]).toArray⟩
def sg (v : Nat → Int) : Val := ⟨v, powF 0, opqF v⟩
def tabJ : List (List Nat × Nat) := [([2, 3, 4, 5, 6], 20), ([9, 10, 11, 12, 13], 21)]
def args2 : List AV := [.agg [.sym .u32 0, .sym .u32 1, .sym .u8 2, .sym .u32 3, .sym .u8 4, .sym .u8 5, .sym .u16 6], .agg [.sym .u32 7, .sym .u32 8, .sym .u8 9, .sym .u32 10, .sym .u8 11, .sym .u8 12, .sym .u16 13]]
def calls : List FCall := [⟨48, [.sym .u64 2, .int .i64 10], .opq 2⟩, ⟨48, [.sym .u64 3, .int .i64 10], .opq 3⟩, ⟨48, [.sym .u64 4, .int .i64 10], .opq 4⟩, ⟨48, [.sym .u64 5, .int .i64 10], .opq 5⟩, ⟨48, [.sym .u64 6, .int .i64 10], .opq 6⟩, ⟨48, [.sym .u64 9, .int .i64 10], .opq 9⟩, ⟨48, [.sym .u64 10, .int .i64 10], .opq 10⟩, ⟨48, [.sym .u64 11, .int .i64 10], .opq 11⟩, ⟨48, [.sym .u64 12, .int .i64 10], .opq 12⟩, ⟨48, [.sym .u64 13, .int .i64 10], .opq 13⟩]
def convs : List FConv := [⟨.u64, .sym .u8 2, .sym .u64 2⟩, ⟨.u64, .sym .u32 3, .sym .u64 3⟩, ⟨.u64, .sym .u8 4, .sym .u64 4⟩, ⟨.u64, .sym .u8 5, .sym .u64 5⟩, ⟨.u64, .sym .u16 6, .sym .u64 6⟩, ⟨.u64, .sym .u8 9, .sym .u64 9⟩, ⟨.u64, .sym .u32 10, .sym .u64 10⟩, ⟨.u64, .sym .u8 11, .sym .u64 11⟩, ⟨.u64, .sym .u8 12, .sym .u64 12⟩, ⟨.u64, .sym .u16 13, .sym .u64 13⟩]
def qk (l : List Fact) : Kn := ⟨l, convs, .nil, [], [], calls⟩
noncomputable def sumsX : Tr Sum := sums.set 49 (joinSumT tabJ)
noncomputable def cxX : Cx := cxW Tryd.prog plan .nil sumsX
def Small (v : Nat → Int) : Prop := ∀ i, i < 14 → 0 ≤ v i ∧ v i < 4294967296
theorem join_ok {v : Nat → Int} (h : Small v) : JoinOK (sg v) tabJ := by
  have hl : ∀ a b c d e : Nat, a < 14 → b < 14 → c < 14 → d < 14 → e < 14 → (Lib.join [Lib.decDigits (v a).toNat, Lib.decDigits (v b).toNat, Lib.decDigits (v c).toNat, Lib.decDigits (v d).toNat, Lib.decDigits (v e).toNat] [58]).length ≤ 140737488355328 := fun a b c d e ha hb hc hd he => by
    have := textB_len (l := [(v a).toNat, (v b).toNat, (v c).toNat, (v d).toNat, (v e).toNat]) (fun u hu => by
      simp only [List.mem_cons, List.not_mem_nil, or_false] at hu
      have h1 := h a ha; have h2 := h b hb; have h3 := h c hc; have h4 := h d hd; have h5 := h e he
      rcases hu with rfl | rfl | rfl | rfl | rfl <;> omega)
    simp only [List.length_cons, List.length_nil] at this
    exact Nat.le_trans this (by decide)
  intro l j hm
  simp only [tabJ, List.mem_cons, Prod.mk.injEq, List.not_mem_nil, or_false] at hm
  rcases hm with ⟨rfl, rfl⟩ | ⟨rfl, rfl⟩
  · exact ⟨[Lib.decDigits (v 2).toNat, Lib.decDigits (v 3).toNat, Lib.decDigits (v 4).toNat, Lib.decDigits (v 5).toNat, Lib.decDigits (v 6).toNat], rfl, rfl, by simp, hl 2 3 4 5 6 (by omega) (by omega) (by omega) (by omega) (by omega)⟩
  · exact ⟨[Lib.decDigits (v 9).toNat, Lib.decDigits (v 10).toNat, Lib.decDigits (v 11).toNat, Lib.decDigits (v 12).toNat, Lib.decDigits (v 13).toNat], rfl, rfl, by simp, hl 9 10 11 12 13 (by omega) (by omega) (by omega) (by omega) (by omega)⟩
theorem sums_okX {v : Nat → Int} (h : Small v) : ∀ g s, sumsX.get g = some s → SumOK Tryd.prog (sg v) g s :=
  setSum_ok sums_ok (joinT_sumOK (join_ok h) (fn := (Tryd.prog.funcs[49]?).getD default) (c := ((Tryd.prog.funcs[49]?).getD default).body.getD .skip) (by kernel_rfl) (by kernel_rfl) (by kernel_rfl) (fun bk o c xs sep w h1 h2 h3 h4 h5 => Tryd.strings_Join bk o c xs sep w h1 h2 h3 h4 h5))
theorem calls_ok {v : Nat → Int} (h : Small v) : ∀ f ∈ calls, FCallOK Tryd.prog (sg v) f := by
  have h1 : ∀ i, i < 14 → FCallOK Tryd.prog (sg v) ⟨48, [.sym .u64 i, .int .i64 10], .opq i⟩ := fun i hi =>
    fu_callOK (g := 48) (gT := 0) (fn := (Tryd.prog.funcs[48]?).getD default) (c := ((Tryd.prog.funcs[48]?).getD default).body.getD .skip) (by kernel_rfl) (by kernel_rfl) (by kernel_rfl) (fun u w hu hT => fu u w hu hT) (powF_at 0) (u := (v i).toNat) (by have := h i hi; show v i = _; omega) (by have := h i hi; omega) (if_pos (by omega))
  unfold calls
  exact all_cons (h1 2 (by omega)) (all_cons (h1 3 (by omega)) (all_cons (h1 4 (by omega)) (all_cons (h1 5 (by omega)) (all_cons (h1 6 (by omega)) (all_cons (h1 9 (by omega)) (all_cons (h1 10 (by omega)) (all_cons (h1 11 (by omega)) (all_cons (h1 12 (by omega)) (all_cons (h1 13 (by omega)) (all_nil))))))))))
theorem convs_ok {v : Nat → Int} (h : Small v) : ∀ f ∈ convs, FConvOK (sg v) f := by
  unfold convs
  exact all_cons (conv_num (σ := sg v) rfl rfl (by have := h 2 (by omega); show v 2 = IntKind.u64.wrap (v 2); rw [wrap_u64]; omega)) (all_cons (conv_num (σ := sg v) rfl rfl (by have := h 3 (by omega); show v 3 = IntKind.u64.wrap (v 3); rw [wrap_u64]; omega)) (all_cons (conv_num (σ := sg v) rfl rfl (by have := h 4 (by omega); show v 4 = IntKind.u64.wrap (v 4); rw [wrap_u64]; omega)) (all_cons (conv_num (σ := sg v) rfl rfl (by have := h 5 (by omega); show v 5 = IntKind.u64.wrap (v 5); rw [wrap_u64]; omega)) (all_cons (conv_num (σ := sg v) rfl rfl (by have := h 6 (by omega); show v 6 = IntKind.u64.wrap (v 6); rw [wrap_u64]; omega)) (all_cons (conv_num (σ := sg v) rfl rfl (by have := h 9 (by omega); show v 9 = IntKind.u64.wrap (v 9); rw [wrap_u64]; omega)) (all_cons (conv_num (σ := sg v) rfl rfl (by have := h 10 (by omega); show v 10 = IntKind.u64.wrap (v 10); rw [wrap_u64]; omega)) (all_cons (conv_num (σ := sg v) rfl rfl (by have := h 11 (by omega); show v 11 = IntKind.u64.wrap (v 11); rw [wrap_u64]; omega)) (all_cons (conv_num (σ := sg v) rfl rfl (by have := h 12 (by omega); show v 12 = IntKind.u64.wrap (v 12); rw [wrap_u64]; omega)) (all_cons (conv_num (σ := sg v) rfl rfl (by have := h 13 (by omega); show v 13 = IntKind.u64.wrap (v 13); rw [wrap_u64]; omega)) (all_nil))))))))))
def f00 : List Fact := [⟨.neq, .sym .u32 0, .sym .u32 0, .bool false⟩, ⟨.neq, .sym .u32 7, .sym .u32 7, .bool false⟩, ⟨.lss, .sym .u32 0, .sym .u32 7, .bool true⟩, ⟨.gtr, .sym .u32 0, .sym .u32 7, .bool false⟩, ⟨.neq, .opq 20, .opq 20, .bool false⟩, ⟨.neq, .opq 21, .opq 21, .bool false⟩, ⟨.lss, .opq 20, .opq 21, .bool true⟩, ⟨.gtr, .opq 20, .opq 21, .bool false⟩]
theorem run00 : isVR (goT cxX (qk f00) 60 14 args2 ⟨.nil, 0⟩) (.bool true) = true := by kernel_rfl
def f01 : List Fact := [⟨.neq, .sym .u32 0, .sym .u32 0, .bool false⟩, ⟨.neq, .sym .u32 7, .sym .u32 7, .bool false⟩, ⟨.lss, .sym .u32 0, .sym .u32 7, .bool true⟩, ⟨.gtr, .sym .u32 0, .sym .u32 7, .bool false⟩, ⟨.neq, .opq 20, .opq 20, .bool false⟩, ⟨.neq, .opq 21, .opq 21, .bool false⟩, ⟨.lss, .opq 20, .opq 21, .bool false⟩, ⟨.gtr, .opq 20, .opq 21, .bool false⟩]
theorem run01 : isVR (goT cxX (qk f01) 60 14 args2 ⟨.nil, 0⟩) (.bool true) = true := by kernel_rfl
def f02 : List Fact := [⟨.neq, .sym .u32 0, .sym .u32 0, .bool false⟩, ⟨.neq, .sym .u32 7, .sym .u32 7, .bool false⟩, ⟨.lss, .sym .u32 0, .sym .u32 7, .bool true⟩, ⟨.gtr, .sym .u32 0, .sym .u32 7, .bool false⟩, ⟨.neq, .opq 20, .opq 20, .bool false⟩, ⟨.neq, .opq 21, .opq 21, .bool false⟩, ⟨.lss, .opq 20, .opq 21, .bool false⟩, ⟨.gtr, .opq 20, .opq 21, .bool true⟩]
theorem run02 : isVR (goT cxX (qk f02) 60 14 args2 ⟨.nil, 0⟩) (.bool true) = true := by kernel_rfl
def f10 : List Fact := [⟨.neq, .sym .u32 0, .sym .u32 0, .bool false⟩, ⟨.neq, .sym .u32 7, .sym .u32 7, .bool false⟩, ⟨.lss, .sym .u32 0, .sym .u32 7, .bool false⟩, ⟨.gtr, .sym .u32 0, .sym .u32 7, .bool false⟩, ⟨.neq, .opq 20, .opq 20, .bool false⟩, ⟨.neq, .opq 21, .opq 21, .bool false⟩, ⟨.lss, .opq 20, .opq 21, .bool true⟩, ⟨.gtr, .opq 20, .opq 21, .bool false⟩]
theorem run10 : isVR (goT cxX (qk f10) 60 14 args2 ⟨.nil, 0⟩) (.bool true) = true := by kernel_rfl
def f11 : List Fact := [⟨.neq, .sym .u32 0, .sym .u32 0, .bool false⟩, ⟨.neq, .sym .u32 7, .sym .u32 7, .bool false⟩, ⟨.lss, .sym .u32 0, .sym .u32 7, .bool false⟩, ⟨.gtr, .sym .u32 0, .sym .u32 7, .bool false⟩, ⟨.neq, .opq 20, .opq 20, .bool false⟩, ⟨.neq, .opq 21, .opq 21, .bool false⟩, ⟨.lss, .opq 20, .opq 21, .bool false⟩, ⟨.gtr, .opq 20, .opq 21, .bool false⟩]
theorem run11 : isVR (goT cxX (qk f11) 60 14 args2 ⟨.nil, 0⟩) (.bool false) = true := by kernel_rfl
def f12 : List Fact := [⟨.neq, .sym .u32 0, .sym .u32 0, .bool false⟩, ⟨.neq, .sym .u32 7, .sym .u32 7, .bool false⟩, ⟨.lss, .sym .u32 0, .sym .u32 7, .bool false⟩, ⟨.gtr, .sym .u32 0, .sym .u32 7, .bool false⟩, ⟨.neq, .opq 20, .opq 20, .bool false⟩, ⟨.neq, .opq 21, .opq 21, .bool false⟩, ⟨.lss, .opq 20, .opq 21, .bool false⟩, ⟨.gtr, .opq 20, .opq 21, .bool true⟩]
theorem run12 : isVR (goT cxX (qk f12) 60 14 args2 ⟨.nil, 0⟩) (.bool false) = true := by kernel_rfl
def f20 : List Fact := [⟨.neq, .sym .u32 0, .sym .u32 0, .bool false⟩, ⟨.neq, .sym .u32 7, .sym .u32 7, .bool false⟩, ⟨.lss, .sym .u32 0, .sym .u32 7, .bool false⟩, ⟨.gtr, .sym .u32 0, .sym .u32 7, .bool true⟩, ⟨.neq, .opq 20, .opq 20, .bool false⟩, ⟨.neq, .opq 21, .opq 21, .bool false⟩, ⟨.lss, .opq 20, .opq 21, .bool true⟩, ⟨.gtr, .opq 20, .opq 21, .bool false⟩]
theorem run20 : isVR (goT cxX (qk f20) 60 14 args2 ⟨.nil, 0⟩) (.bool false) = true := by kernel_rfl
def f21 : List Fact := [⟨.neq, .sym .u32 0, .sym .u32 0, .bool false⟩, ⟨.neq, .sym .u32 7, .sym .u32 7, .bool false⟩, ⟨.lss, .sym .u32 0, .sym .u32 7, .bool false⟩, ⟨.gtr, .sym .u32 0, .sym .u32 7, .bool true⟩, ⟨.neq, .opq 20, .opq 20, .bool false⟩, ⟨.neq, .opq 21, .opq 21, .bool false⟩, ⟨.lss, .opq 20, .opq 21, .bool false⟩, ⟨.gtr, .opq 20, .opq 21, .bool false⟩]
theorem run21 : isVR (goT cxX (qk f21) 60 14 args2 ⟨.nil, 0⟩) (.bool false) = true := by kernel_rfl
def f22 : List Fact := [⟨.neq, .sym .u32 0, .sym .u32 0, .bool false⟩, ⟨.neq, .sym .u32 7, .sym .u32 7, .bool false⟩, ⟨.lss, .sym .u32 0, .sym .u32 7, .bool false⟩, ⟨.gtr, .sym .u32 0, .sym .u32 7, .bool true⟩, ⟨.neq, .opq 20, .opq 20, .bool false⟩, ⟨.neq, .opq 21, .opq 21, .bool false⟩, ⟨.lss, .opq 20, .opq 21, .bool false⟩, ⟨.gtr, .opq 20, .opq 21, .bool true⟩]
theorem run22 : isVR (goT cxX (qk f22) 60 14 args2 ⟨.nil, 0⟩) (.bool false) = true := by kernel_rfl
theorem less_v (v : Nat → Int) (h : Small v) {l : List Fact} (hl : ∀ f ∈ l, FactOK Tryd.prog (sg v) f) {b : Bool} (hr : isVR (goT cxX (qk l) 60 14 args2 ⟨.nil, 0⟩) (.bool b) = true) {A : List Value} (hA : concs (noEnv (sg v)) args2 = some A) (w : World) (hg : ∀ g j v, powF 0 g j = some v → g < w.heap.size ∧ w.cell? ⟨g, j, none⟩ = some v) :
    Calls Tryd.prog 14 ⟨A⟩ w fun e w' => e = .returned (.bool b) ∧ Below w.heap.size w w' :=
  bool_of_run (σ := sg v) (cx := cxX) (q := qk l) (progOK_W asked hl (convs_ok h) bytes_nil all_nil all_nil (calls_ok h) globs_nil (sums_okX h)) hA hr w hg
theorem facts_v (v : Nat → Int) (b1 b2 b3 b4 : Bool) (h1 : decide (v 0 < v 7) = b1) (h2 : decide (v 0 > v 7) = b2) (h3 : strLess (textB [(v 2).toNat, (v 3).toNat, (v 4).toNat, (v 5).toNat, (v 6).toNat]) (textB [(v 9).toNat, (v 10).toNat, (v 11).toNat, (v 12).toNat, (v 13).toNat]) = b3) (h4 : (!(strLess (textB [(v 2).toNat, (v 3).toNat, (v 4).toNat, (v 5).toNat, (v 6).toNat]) (textB [(v 9).toNat, (v 10).toNat, (v 11).toNat, (v 12).toNat, (v 13).toNat]) || strEq (textB [(v 2).toNat, (v 3).toNat, (v 4).toNat, (v 5).toNat, (v 6).toNat]) (textB [(v 9).toNat, (v 10).toNat, (v 11).toNat, (v 12).toNat, (v 13).toNat]))) = b4) :
    ∀ f ∈ ([⟨.neq, .sym .u32 0, .sym .u32 0, .bool false⟩, ⟨.neq, .sym .u32 7, .sym .u32 7, .bool false⟩, ⟨.lss, .sym .u32 0, .sym .u32 7, .bool b1⟩, ⟨.gtr, .sym .u32 0, .sym .u32 7, .bool b2⟩, ⟨.neq, .opq 20, .opq 20, .bool false⟩, ⟨.neq, .opq 21, .opq 21, .bool false⟩, ⟨.lss, .opq 20, .opq 21, .bool b3⟩, ⟨.gtr, .opq 20, .opq 21, .bool b4⟩] : List Fact), FactOK Tryd.prog (sg v) f :=
  all_cons (fact_neq_f (σ := sg v) rfl rfl rfl) (all_cons (fact_neq_f (σ := sg v) rfl rfl rfl)
    (all_cons (fact_cmp (σ := sg v) (a := v 0) (b := v 7) rfl rfl (by simp only [cmpI, intLt_eq]; exact h1) rfl) (all_cons (fact_cmp (σ := sg v) (a := v 0) (b := v 7) rfl rfl (by simp only [cmpI, intLt_eq]; exact h2) rfl)
    (all_cons (fact_str (σ := sg v) (a := textB [(v 2).toNat, (v 3).toNat, (v 4).toNat, (v 5).toNat, (v 6).toNat]) (b := textB [(v 2).toNat, (v 3).toNat, (v 4).toNat, (v 5).toNat, (v 6).toNat]) rfl rfl (by simp [binStr, strEq_eq])) (all_cons (fact_str (σ := sg v) (a := textB [(v 9).toNat, (v 10).toNat, (v 11).toNat, (v 12).toNat, (v 13).toNat]) (b := textB [(v 9).toNat, (v 10).toNat, (v 11).toNat, (v 12).toNat, (v 13).toNat]) rfl rfl (by simp [binStr, strEq_eq]))
    (all_cons (fact_str (σ := sg v) (a := textB [(v 2).toNat, (v 3).toNat, (v 4).toNat, (v 5).toNat, (v 6).toNat]) (b := textB [(v 9).toNat, (v 10).toNat, (v 11).toNat, (v 12).toNat, (v 13).toNat]) rfl rfl (by simp only [binStr, h3])) (all_cons (fact_str (σ := sg v) (a := textB [(v 2).toNat, (v 3).toNat, (v 4).toNat, (v 5).toNat, (v 6).toNat]) (b := textB [(v 9).toNat, (v 10).toNat, (v 11).toNat, (v 12).toNat, (v 13).toNat]) rfl rfl (by simp only [binStr, h4])) all_nil)))))))
/-- pq.Less: by places, then by texts. -/
theorem less_calls (v : Nat → Int) (h : Small v) {A : List Value} (hA : concs (noEnv (sg v)) args2 = some A) (w : World) (hg : ∀ g j v, powF 0 g j = some v → g < w.heap.size ∧ w.cell? ⟨g, j, none⟩ = some v) :
    Calls Tryd.prog 14 ⟨A⟩ w fun e w' => e = .returned (.bool (lessB (v 0) (textB [(v 2).toNat, (v 3).toNat, (v 4).toNat, (v 5).toNat, (v 6).toNat]) (v 7) (textB [(v 9).toNat, (v 10).toNat, (v 11).toNat, (v 12).toNat, (v 13).toNat]))) ∧ Below w.heap.size w w' := by
  have key : ∀ b1 b2 b3 b4 : Bool, decide (v 0 < v 7) = b1 → decide (v 0 > v 7) = b2 → strLess (textB [(v 2).toNat, (v 3).toNat, (v 4).toNat, (v 5).toNat, (v 6).toNat]) (textB [(v 9).toNat, (v 10).toNat, (v 11).toNat, (v 12).toNat, (v 13).toNat]) = b3 → (!(strLess (textB [(v 2).toNat, (v 3).toNat, (v 4).toNat, (v 5).toNat, (v 6).toNat]) (textB [(v 9).toNat, (v 10).toNat, (v 11).toNat, (v 12).toNat, (v 13).toNat]) || strEq (textB [(v 2).toNat, (v 3).toNat, (v 4).toNat, (v 5).toNat, (v 6).toNat]) (textB [(v 9).toNat, (v 10).toNat, (v 11).toNat, (v 12).toNat, (v 13).toNat]))) = b4 → Calls Tryd.prog 14 ⟨A⟩ w fun e w' => e = .returned (.bool (b1 || (!b1 && !b2 && b3))) ∧ Below w.heap.size w w' := by
    intro b1 b2 b3 b4 h1 h2 h3 h4
    have F := facts_v v b1 b2 b3 b4 h1 h2 h3 h4
    have n1 : ¬ (b1 = true ∧ b2 = true) := by
      rintro ⟨rfl, rfl⟩
      have := of_decide_eq_true h1; have := of_decide_eq_true h2; omega
    have n2 : ¬ (b3 = true ∧ b4 = true) := by
      rintro ⟨rfl, rfl⟩
      rw [h3] at h4; simp at h4
    cases b1 <;> cases b2 <;> cases b3 <;> cases b4 <;> first | exact absurd ⟨rfl, rfl⟩ n1 | exact absurd ⟨rfl, rfl⟩ n2 | skip
    · exact less_v v h F run11 hA w hg
    · exact less_v v h F run12 hA w hg
    · exact less_v v h F run10 hA w hg
    · exact less_v v h F run21 hA w hg
    · exact less_v v h F run22 hA w hg
    · exact less_v v h F run20 hA w hg
    · exact less_v v h F run01 hA w hg
    · exact less_v v h F run02 hA w hg
    · exact less_v v h F run00 hA w hg
  refine (key _ _ _ _ rfl rfl rfl rfl).mono fun e w' ⟨he, hw⟩ => ⟨by
    rw [he]; congr 2
    unfold lessB
    by_cases e1 : v 0 < v 7
    · simp [e1]
    · by_cases e2 : v 0 > v 7
      · have : ¬ v 0 = v 7 := by omega
        simp [e1, e2, this]
      · have : v 0 = v 7 := by omega
        simp [e1, e2, this], hw⟩

def sg3 (v : Nat → Int) : Val := ⟨v, powF 0, fun _ => undef⟩
def args : List AV := [.agg [.sym .u32 0, .sym .u32 1, .sym .u8 2, .sym .u32 3, .sym .u8 4, .sym .u8 5, .sym .u16 6], .agg [.sym .u32 7, .sym .u32 8, .sym .u8 9, .sym .u32 10, .sym .u8 11, .sym .u8 12, .sym .u16 13], .agg [.sym .u32 14, .sym .u32 15, .sym .u8 16, .sym .u32 17, .sym .u8 18, .sym .u8 19, .sym .u16 20]]
def q3 (l : List Fact) (cs : List FCall) : Kn := ⟨l, [], .nil, [], [], cs⟩
noncomputable def cx3 : Cx := cxW Tryd.prog plan .nil sums
def g01 : List Fact := [⟨.eql, .sym .u32 0, .sym .u32 7, .bool false⟩, ⟨.geq, .sym .u32 0, .sym .u32 7, .bool false⟩]
def c01 : List FCall := [⟨14, [.agg [.sym .u32 0, .sym .u32 1, .sym .u8 2, .sym .u32 3, .sym .u8 4, .sym .u8 5, .sym .u16 6], .agg [.sym .u32 7, .sym .u32 8, .sym .u8 9, .sym .u32 10, .sym .u8 11, .sym .u8 12, .sym .u16 13]], .bool true⟩, ⟨14, [.agg [.sym .u32 0, .int .u32 7, .sym .u8 2, .sym .u32 3, .sym .u8 4, .sym .u8 5, .sym .u16 6], .agg [.sym .u32 7, .int .u32 3, .sym .u8 9, .sym .u32 10, .sym .u8 11, .sym .u8 12, .sym .u16 13]], .bool true⟩, ⟨14, [.agg [.sym .u32 7, .sym .u32 8, .sym .u8 9, .sym .u32 10, .sym .u8 11, .sym .u8 12, .sym .u16 13], .agg [.sym .u32 0, .sym .u32 1, .sym .u8 2, .sym .u32 3, .sym .u8 4, .sym .u8 5, .sym .u16 6]], .bool false⟩, ⟨14, [.agg [.sym .u32 7, .sym .u32 8, .sym .u8 9, .sym .u32 10, .sym .u8 11, .sym .u8 12, .sym .u16 13], .agg [.sym .u32 14, .sym .u32 15, .sym .u8 16, .sym .u32 17, .sym .u8 18, .sym .u8 19, .sym .u16 20]], .bool false⟩]
theorem law01 : isTrueR (goT cx3 (q3 g01 c01) 60 4 args ⟨.nil, 0⟩) = true := by kernel_rfl
def g02 : List Fact := [⟨.eql, .sym .u32 0, .sym .u32 7, .bool false⟩, ⟨.geq, .sym .u32 0, .sym .u32 7, .bool false⟩]
def c02 : List FCall := [⟨14, [.agg [.sym .u32 0, .sym .u32 1, .sym .u8 2, .sym .u32 3, .sym .u8 4, .sym .u8 5, .sym .u16 6], .agg [.sym .u32 7, .sym .u32 8, .sym .u8 9, .sym .u32 10, .sym .u8 11, .sym .u8 12, .sym .u16 13]], .bool true⟩, ⟨14, [.agg [.sym .u32 0, .int .u32 7, .sym .u8 2, .sym .u32 3, .sym .u8 4, .sym .u8 5, .sym .u16 6], .agg [.sym .u32 7, .int .u32 3, .sym .u8 9, .sym .u32 10, .sym .u8 11, .sym .u8 12, .sym .u16 13]], .bool true⟩, ⟨14, [.agg [.sym .u32 7, .sym .u32 8, .sym .u8 9, .sym .u32 10, .sym .u8 11, .sym .u8 12, .sym .u16 13], .agg [.sym .u32 0, .sym .u32 1, .sym .u8 2, .sym .u32 3, .sym .u8 4, .sym .u8 5, .sym .u16 6]], .bool false⟩, ⟨14, [.agg [.sym .u32 7, .sym .u32 8, .sym .u8 9, .sym .u32 10, .sym .u8 11, .sym .u8 12, .sym .u16 13], .agg [.sym .u32 14, .sym .u32 15, .sym .u8 16, .sym .u32 17, .sym .u8 18, .sym .u8 19, .sym .u16 20]], .bool true⟩, ⟨14, [.agg [.sym .u32 0, .sym .u32 1, .sym .u8 2, .sym .u32 3, .sym .u8 4, .sym .u8 5, .sym .u16 6], .agg [.sym .u32 14, .sym .u32 15, .sym .u8 16, .sym .u32 17, .sym .u8 18, .sym .u8 19, .sym .u16 20]], .bool true⟩]
theorem law02 : isTrueR (goT cx3 (q3 g02 c02) 60 4 args ⟨.nil, 0⟩) = true := by kernel_rfl
def g03 : List Fact := [⟨.eql, .sym .u32 0, .sym .u32 7, .bool false⟩, ⟨.geq, .sym .u32 0, .sym .u32 7, .bool true⟩]
def c03 : List FCall := [⟨14, [.agg [.sym .u32 0, .sym .u32 1, .sym .u8 2, .sym .u32 3, .sym .u8 4, .sym .u8 5, .sym .u16 6], .agg [.sym .u32 7, .sym .u32 8, .sym .u8 9, .sym .u32 10, .sym .u8 11, .sym .u8 12, .sym .u16 13]], .bool false⟩, ⟨14, [.agg [.sym .u32 0, .int .u32 7, .sym .u8 2, .sym .u32 3, .sym .u8 4, .sym .u8 5, .sym .u16 6], .agg [.sym .u32 7, .int .u32 3, .sym .u8 9, .sym .u32 10, .sym .u8 11, .sym .u8 12, .sym .u16 13]], .bool false⟩, ⟨14, [.agg [.sym .u32 7, .sym .u32 8, .sym .u8 9, .sym .u32 10, .sym .u8 11, .sym .u8 12, .sym .u16 13], .agg [.sym .u32 0, .sym .u32 1, .sym .u8 2, .sym .u32 3, .sym .u8 4, .sym .u8 5, .sym .u16 6]], .bool true⟩]
theorem law03 : isTrueR (goT cx3 (q3 g03 c03) 60 4 args ⟨.nil, 0⟩) = true := by kernel_rfl
def g11 : List Fact := [⟨.eql, .sym .u32 0, .sym .u32 7, .bool true⟩, ⟨.eql, .sym .u8 2, .sym .u8 9, .bool false⟩, ⟨.geq, .sym .u32 0, .sym .u32 7, .bool true⟩]
def c11 : List FCall := [⟨14, [.agg [.sym .u32 0, .sym .u32 1, .sym .u8 2, .sym .u32 3, .sym .u8 4, .sym .u8 5, .sym .u16 6], .agg [.sym .u32 7, .sym .u32 8, .sym .u8 9, .sym .u32 10, .sym .u8 11, .sym .u8 12, .sym .u16 13]], .bool true⟩, ⟨14, [.agg [.sym .u32 0, .int .u32 7, .sym .u8 2, .sym .u32 3, .sym .u8 4, .sym .u8 5, .sym .u16 6], .agg [.sym .u32 7, .int .u32 3, .sym .u8 9, .sym .u32 10, .sym .u8 11, .sym .u8 12, .sym .u16 13]], .bool true⟩, ⟨14, [.agg [.sym .u32 7, .sym .u32 8, .sym .u8 9, .sym .u32 10, .sym .u8 11, .sym .u8 12, .sym .u16 13], .agg [.sym .u32 0, .sym .u32 1, .sym .u8 2, .sym .u32 3, .sym .u8 4, .sym .u8 5, .sym .u16 6]], .bool false⟩, ⟨14, [.agg [.sym .u32 7, .sym .u32 8, .sym .u8 9, .sym .u32 10, .sym .u8 11, .sym .u8 12, .sym .u16 13], .agg [.sym .u32 14, .sym .u32 15, .sym .u8 16, .sym .u32 17, .sym .u8 18, .sym .u8 19, .sym .u16 20]], .bool false⟩]
theorem law11 : isTrueR (goT cx3 (q3 g11 c11) 60 4 args ⟨.nil, 0⟩) = true := by kernel_rfl
def g12 : List Fact := [⟨.eql, .sym .u32 0, .sym .u32 7, .bool true⟩, ⟨.eql, .sym .u8 2, .sym .u8 9, .bool false⟩, ⟨.geq, .sym .u32 0, .sym .u32 7, .bool true⟩]
def c12 : List FCall := [⟨14, [.agg [.sym .u32 0, .sym .u32 1, .sym .u8 2, .sym .u32 3, .sym .u8 4, .sym .u8 5, .sym .u16 6], .agg [.sym .u32 7, .sym .u32 8, .sym .u8 9, .sym .u32 10, .sym .u8 11, .sym .u8 12, .sym .u16 13]], .bool true⟩, ⟨14, [.agg [.sym .u32 0, .int .u32 7, .sym .u8 2, .sym .u32 3, .sym .u8 4, .sym .u8 5, .sym .u16 6], .agg [.sym .u32 7, .int .u32 3, .sym .u8 9, .sym .u32 10, .sym .u8 11, .sym .u8 12, .sym .u16 13]], .bool true⟩, ⟨14, [.agg [.sym .u32 7, .sym .u32 8, .sym .u8 9, .sym .u32 10, .sym .u8 11, .sym .u8 12, .sym .u16 13], .agg [.sym .u32 0, .sym .u32 1, .sym .u8 2, .sym .u32 3, .sym .u8 4, .sym .u8 5, .sym .u16 6]], .bool false⟩, ⟨14, [.agg [.sym .u32 7, .sym .u32 8, .sym .u8 9, .sym .u32 10, .sym .u8 11, .sym .u8 12, .sym .u16 13], .agg [.sym .u32 14, .sym .u32 15, .sym .u8 16, .sym .u32 17, .sym .u8 18, .sym .u8 19, .sym .u16 20]], .bool true⟩, ⟨14, [.agg [.sym .u32 0, .sym .u32 1, .sym .u8 2, .sym .u32 3, .sym .u8 4, .sym .u8 5, .sym .u16 6], .agg [.sym .u32 14, .sym .u32 15, .sym .u8 16, .sym .u32 17, .sym .u8 18, .sym .u8 19, .sym .u16 20]], .bool true⟩]
theorem law12 : isTrueR (goT cx3 (q3 g12 c12) 60 4 args ⟨.nil, 0⟩) = true := by kernel_rfl
def g13 : List Fact := [⟨.eql, .sym .u32 0, .sym .u32 7, .bool true⟩, ⟨.eql, .sym .u8 2, .sym .u8 9, .bool false⟩, ⟨.geq, .sym .u32 0, .sym .u32 7, .bool true⟩]
def c13 : List FCall := [⟨14, [.agg [.sym .u32 0, .sym .u32 1, .sym .u8 2, .sym .u32 3, .sym .u8 4, .sym .u8 5, .sym .u16 6], .agg [.sym .u32 7, .sym .u32 8, .sym .u8 9, .sym .u32 10, .sym .u8 11, .sym .u8 12, .sym .u16 13]], .bool false⟩, ⟨14, [.agg [.sym .u32 0, .int .u32 7, .sym .u8 2, .sym .u32 3, .sym .u8 4, .sym .u8 5, .sym .u16 6], .agg [.sym .u32 7, .int .u32 3, .sym .u8 9, .sym .u32 10, .sym .u8 11, .sym .u8 12, .sym .u16 13]], .bool false⟩, ⟨14, [.agg [.sym .u32 7, .sym .u32 8, .sym .u8 9, .sym .u32 10, .sym .u8 11, .sym .u8 12, .sym .u16 13], .agg [.sym .u32 0, .sym .u32 1, .sym .u8 2, .sym .u32 3, .sym .u8 4, .sym .u8 5, .sym .u16 6]], .bool true⟩]
theorem law13 : isTrueR (goT cx3 (q3 g13 c13) 60 4 args ⟨.nil, 0⟩) = true := by kernel_rfl
def g21 : List Fact := [⟨.eql, .sym .u32 0, .sym .u32 7, .bool true⟩, ⟨.eql, .sym .u8 2, .sym .u8 9, .bool true⟩, ⟨.eql, .sym .u32 3, .sym .u32 10, .bool false⟩, ⟨.geq, .sym .u32 0, .sym .u32 7, .bool true⟩]
def c21 : List FCall := [⟨14, [.agg [.sym .u32 0, .sym .u32 1, .sym .u8 2, .sym .u32 3, .sym .u8 4, .sym .u8 5, .sym .u16 6], .agg [.sym .u32 7, .sym .u32 8, .sym .u8 9, .sym .u32 10, .sym .u8 11, .sym .u8 12, .sym .u16 13]], .bool true⟩, ⟨14, [.agg [.sym .u32 0, .int .u32 7, .sym .u8 2, .sym .u32 3, .sym .u8 4, .sym .u8 5, .sym .u16 6], .agg [.sym .u32 7, .int .u32 3, .sym .u8 9, .sym .u32 10, .sym .u8 11, .sym .u8 12, .sym .u16 13]], .bool true⟩, ⟨14, [.agg [.sym .u32 7, .sym .u32 8, .sym .u8 9, .sym .u32 10, .sym .u8 11, .sym .u8 12, .sym .u16 13], .agg [.sym .u32 0, .sym .u32 1, .sym .u8 2, .sym .u32 3, .sym .u8 4, .sym .u8 5, .sym .u16 6]], .bool false⟩, ⟨14, [.agg [.sym .u32 7, .sym .u32 8, .sym .u8 9, .sym .u32 10, .sym .u8 11, .sym .u8 12, .sym .u16 13], .agg [.sym .u32 14, .sym .u32 15, .sym .u8 16, .sym .u32 17, .sym .u8 18, .sym .u8 19, .sym .u16 20]], .bool false⟩]
theorem law21 : isTrueR (goT cx3 (q3 g21 c21) 60 4 args ⟨.nil, 0⟩) = true := by kernel_rfl
def g22 : List Fact := [⟨.eql, .sym .u32 0, .sym .u32 7, .bool true⟩, ⟨.eql, .sym .u8 2, .sym .u8 9, .bool true⟩, ⟨.eql, .sym .u32 3, .sym .u32 10, .bool false⟩, ⟨.geq, .sym .u32 0, .sym .u32 7, .bool true⟩]
def c22 : List FCall := [⟨14, [.agg [.sym .u32 0, .sym .u32 1, .sym .u8 2, .sym .u32 3, .sym .u8 4, .sym .u8 5, .sym .u16 6], .agg [.sym .u32 7, .sym .u32 8, .sym .u8 9, .sym .u32 10, .sym .u8 11, .sym .u8 12, .sym .u16 13]], .bool true⟩, ⟨14, [.agg [.sym .u32 0, .int .u32 7, .sym .u8 2, .sym .u32 3, .sym .u8 4, .sym .u8 5, .sym .u16 6], .agg [.sym .u32 7, .int .u32 3, .sym .u8 9, .sym .u32 10, .sym .u8 11, .sym .u8 12, .sym .u16 13]], .bool true⟩, ⟨14, [.agg [.sym .u32 7, .sym .u32 8, .sym .u8 9, .sym .u32 10, .sym .u8 11, .sym .u8 12, .sym .u16 13], .agg [.sym .u32 0, .sym .u32 1, .sym .u8 2, .sym .u32 3, .sym .u8 4, .sym .u8 5, .sym .u16 6]], .bool false⟩, ⟨14, [.agg [.sym .u32 7, .sym .u32 8, .sym .u8 9, .sym .u32 10, .sym .u8 11, .sym .u8 12, .sym .u16 13], .agg [.sym .u32 14, .sym .u32 15, .sym .u8 16, .sym .u32 17, .sym .u8 18, .sym .u8 19, .sym .u16 20]], .bool true⟩, ⟨14, [.agg [.sym .u32 0, .sym .u32 1, .sym .u8 2, .sym .u32 3, .sym .u8 4, .sym .u8 5, .sym .u16 6], .agg [.sym .u32 14, .sym .u32 15, .sym .u8 16, .sym .u32 17, .sym .u8 18, .sym .u8 19, .sym .u16 20]], .bool true⟩]
theorem law22 : isTrueR (goT cx3 (q3 g22 c22) 60 4 args ⟨.nil, 0⟩) = true := by kernel_rfl
def g23 : List Fact := [⟨.eql, .sym .u32 0, .sym .u32 7, .bool true⟩, ⟨.eql, .sym .u8 2, .sym .u8 9, .bool true⟩, ⟨.eql, .sym .u32 3, .sym .u32 10, .bool false⟩, ⟨.geq, .sym .u32 0, .sym .u32 7, .bool true⟩]
def c23 : List FCall := [⟨14, [.agg [.sym .u32 0, .sym .u32 1, .sym .u8 2, .sym .u32 3, .sym .u8 4, .sym .u8 5, .sym .u16 6], .agg [.sym .u32 7, .sym .u32 8, .sym .u8 9, .sym .u32 10, .sym .u8 11, .sym .u8 12, .sym .u16 13]], .bool false⟩, ⟨14, [.agg [.sym .u32 0, .int .u32 7, .sym .u8 2, .sym .u32 3, .sym .u8 4, .sym .u8 5, .sym .u16 6], .agg [.sym .u32 7, .int .u32 3, .sym .u8 9, .sym .u32 10, .sym .u8 11, .sym .u8 12, .sym .u16 13]], .bool false⟩, ⟨14, [.agg [.sym .u32 7, .sym .u32 8, .sym .u8 9, .sym .u32 10, .sym .u8 11, .sym .u8 12, .sym .u16 13], .agg [.sym .u32 0, .sym .u32 1, .sym .u8 2, .sym .u32 3, .sym .u8 4, .sym .u8 5, .sym .u16 6]], .bool true⟩]
theorem law23 : isTrueR (goT cx3 (q3 g23 c23) 60 4 args ⟨.nil, 0⟩) = true := by kernel_rfl
def g31 : List Fact := [⟨.eql, .sym .u32 0, .sym .u32 7, .bool true⟩, ⟨.eql, .sym .u8 2, .sym .u8 9, .bool true⟩, ⟨.eql, .sym .u32 3, .sym .u32 10, .bool true⟩, ⟨.eql, .sym .u8 4, .sym .u8 11, .bool false⟩, ⟨.geq, .sym .u32 0, .sym .u32 7, .bool true⟩]
def c31 : List FCall := [⟨14, [.agg [.sym .u32 0, .sym .u32 1, .sym .u8 2, .sym .u32 3, .sym .u8 4, .sym .u8 5, .sym .u16 6], .agg [.sym .u32 7, .sym .u32 8, .sym .u8 9, .sym .u32 10, .sym .u8 11, .sym .u8 12, .sym .u16 13]], .bool true⟩, ⟨14, [.agg [.sym .u32 0, .int .u32 7, .sym .u8 2, .sym .u32 3, .sym .u8 4, .sym .u8 5, .sym .u16 6], .agg [.sym .u32 7, .int .u32 3, .sym .u8 9, .sym .u32 10, .sym .u8 11, .sym .u8 12, .sym .u16 13]], .bool true⟩, ⟨14, [.agg [.sym .u32 7, .sym .u32 8, .sym .u8 9, .sym .u32 10, .sym .u8 11, .sym .u8 12, .sym .u16 13], .agg [.sym .u32 0, .sym .u32 1, .sym .u8 2, .sym .u32 3, .sym .u8 4, .sym .u8 5, .sym .u16 6]], .bool false⟩, ⟨14, [.agg [.sym .u32 7, .sym .u32 8, .sym .u8 9, .sym .u32 10, .sym .u8 11, .sym .u8 12, .sym .u16 13], .agg [.sym .u32 14, .sym .u32 15, .sym .u8 16, .sym .u32 17, .sym .u8 18, .sym .u8 19, .sym .u16 20]], .bool false⟩]
theorem law31 : isTrueR (goT cx3 (q3 g31 c31) 60 4 args ⟨.nil, 0⟩) = true := by kernel_rfl
def g32 : List Fact := [⟨.eql, .sym .u32 0, .sym .u32 7, .bool true⟩, ⟨.eql, .sym .u8 2, .sym .u8 9, .bool true⟩, ⟨.eql, .sym .u32 3, .sym .u32 10, .bool true⟩, ⟨.eql, .sym .u8 4, .sym .u8 11, .bool false⟩, ⟨.geq, .sym .u32 0, .sym .u32 7, .bool true⟩]
def c32 : List FCall := [⟨14, [.agg [.sym .u32 0, .sym .u32 1, .sym .u8 2, .sym .u32 3, .sym .u8 4, .sym .u8 5, .sym .u16 6], .agg [.sym .u32 7, .sym .u32 8, .sym .u8 9, .sym .u32 10, .sym .u8 11, .sym .u8 12, .sym .u16 13]], .bool true⟩, ⟨14, [.agg [.sym .u32 0, .int .u32 7, .sym .u8 2, .sym .u32 3, .sym .u8 4, .sym .u8 5, .sym .u16 6], .agg [.sym .u32 7, .int .u32 3, .sym .u8 9, .sym .u32 10, .sym .u8 11, .sym .u8 12, .sym .u16 13]], .bool true⟩, ⟨14, [.agg [.sym .u32 7, .sym .u32 8, .sym .u8 9, .sym .u32 10, .sym .u8 11, .sym .u8 12, .sym .u16 13], .agg [.sym .u32 0, .sym .u32 1, .sym .u8 2, .sym .u32 3, .sym .u8 4, .sym .u8 5, .sym .u16 6]], .bool false⟩, ⟨14, [.agg [.sym .u32 7, .sym .u32 8, .sym .u8 9, .sym .u32 10, .sym .u8 11, .sym .u8 12, .sym .u16 13], .agg [.sym .u32 14, .sym .u32 15, .sym .u8 16, .sym .u32 17, .sym .u8 18, .sym .u8 19, .sym .u16 20]], .bool true⟩, ⟨14, [.agg [.sym .u32 0, .sym .u32 1, .sym .u8 2, .sym .u32 3, .sym .u8 4, .sym .u8 5, .sym .u16 6], .agg [.sym .u32 14, .sym .u32 15, .sym .u8 16, .sym .u32 17, .sym .u8 18, .sym .u8 19, .sym .u16 20]], .bool true⟩]
theorem law32 : isTrueR (goT cx3 (q3 g32 c32) 60 4 args ⟨.nil, 0⟩) = true := by kernel_rfl
def g33 : List Fact := [⟨.eql, .sym .u32 0, .sym .u32 7, .bool true⟩, ⟨.eql, .sym .u8 2, .sym .u8 9, .bool true⟩, ⟨.eql, .sym .u32 3, .sym .u32 10, .bool true⟩, ⟨.eql, .sym .u8 4, .sym .u8 11, .bool false⟩, ⟨.geq, .sym .u32 0, .sym .u32 7, .bool true⟩]
def c33 : List FCall := [⟨14, [.agg [.sym .u32 0, .sym .u32 1, .sym .u8 2, .sym .u32 3, .sym .u8 4, .sym .u8 5, .sym .u16 6], .agg [.sym .u32 7, .sym .u32 8, .sym .u8 9, .sym .u32 10, .sym .u8 11, .sym .u8 12, .sym .u16 13]], .bool false⟩, ⟨14, [.agg [.sym .u32 0, .int .u32 7, .sym .u8 2, .sym .u32 3, .sym .u8 4, .sym .u8 5, .sym .u16 6], .agg [.sym .u32 7, .int .u32 3, .sym .u8 9, .sym .u32 10, .sym .u8 11, .sym .u8 12, .sym .u16 13]], .bool false⟩, ⟨14, [.agg [.sym .u32 7, .sym .u32 8, .sym .u8 9, .sym .u32 10, .sym .u8 11, .sym .u8 12, .sym .u16 13], .agg [.sym .u32 0, .sym .u32 1, .sym .u8 2, .sym .u32 3, .sym .u8 4, .sym .u8 5, .sym .u16 6]], .bool true⟩]
theorem law33 : isTrueR (goT cx3 (q3 g33 c33) 60 4 args ⟨.nil, 0⟩) = true := by kernel_rfl
def g41 : List Fact := [⟨.eql, .sym .u32 0, .sym .u32 7, .bool true⟩, ⟨.eql, .sym .u8 2, .sym .u8 9, .bool true⟩, ⟨.eql, .sym .u32 3, .sym .u32 10, .bool true⟩, ⟨.eql, .sym .u8 4, .sym .u8 11, .bool true⟩, ⟨.eql, .sym .u8 5, .sym .u8 12, .bool false⟩, ⟨.geq, .sym .u32 0, .sym .u32 7, .bool true⟩]
def c41 : List FCall := [⟨14, [.agg [.sym .u32 0, .sym .u32 1, .sym .u8 2, .sym .u32 3, .sym .u8 4, .sym .u8 5, .sym .u16 6], .agg [.sym .u32 7, .sym .u32 8, .sym .u8 9, .sym .u32 10, .sym .u8 11, .sym .u8 12, .sym .u16 13]], .bool true⟩, ⟨14, [.agg [.sym .u32 0, .int .u32 7, .sym .u8 2, .sym .u32 3, .sym .u8 4, .sym .u8 5, .sym .u16 6], .agg [.sym .u32 7, .int .u32 3, .sym .u8 9, .sym .u32 10, .sym .u8 11, .sym .u8 12, .sym .u16 13]], .bool true⟩, ⟨14, [.agg [.sym .u32 7, .sym .u32 8, .sym .u8 9, .sym .u32 10, .sym .u8 11, .sym .u8 12, .sym .u16 13], .agg [.sym .u32 0, .sym .u32 1, .sym .u8 2, .sym .u32 3, .sym .u8 4, .sym .u8 5, .sym .u16 6]], .bool false⟩, ⟨14, [.agg [.sym .u32 7, .sym .u32 8, .sym .u8 9, .sym .u32 10, .sym .u8 11, .sym .u8 12, .sym .u16 13], .agg [.sym .u32 14, .sym .u32 15, .sym .u8 16, .sym .u32 17, .sym .u8 18, .sym .u8 19, .sym .u16 20]], .bool false⟩]
theorem law41 : isTrueR (goT cx3 (q3 g41 c41) 60 4 args ⟨.nil, 0⟩) = true := by kernel_rfl
def g42 : List Fact := [⟨.eql, .sym .u32 0, .sym .u32 7, .bool true⟩, ⟨.eql, .sym .u8 2, .sym .u8 9, .bool true⟩, ⟨.eql, .sym .u32 3, .sym .u32 10, .bool true⟩, ⟨.eql, .sym .u8 4, .sym .u8 11, .bool true⟩, ⟨.eql, .sym .u8 5, .sym .u8 12, .bool false⟩, ⟨.geq, .sym .u32 0, .sym .u32 7, .bool true⟩]
def c42 : List FCall := [⟨14, [.agg [.sym .u32 0, .sym .u32 1, .sym .u8 2, .sym .u32 3, .sym .u8 4, .sym .u8 5, .sym .u16 6], .agg [.sym .u32 7, .sym .u32 8, .sym .u8 9, .sym .u32 10, .sym .u8 11, .sym .u8 12, .sym .u16 13]], .bool true⟩, ⟨14, [.agg [.sym .u32 0, .int .u32 7, .sym .u8 2, .sym .u32 3, .sym .u8 4, .sym .u8 5, .sym .u16 6], .agg [.sym .u32 7, .int .u32 3, .sym .u8 9, .sym .u32 10, .sym .u8 11, .sym .u8 12, .sym .u16 13]], .bool true⟩, ⟨14, [.agg [.sym .u32 7, .sym .u32 8, .sym .u8 9, .sym .u32 10, .sym .u8 11, .sym .u8 12, .sym .u16 13], .agg [.sym .u32 0, .sym .u32 1, .sym .u8 2, .sym .u32 3, .sym .u8 4, .sym .u8 5, .sym .u16 6]], .bool false⟩, ⟨14, [.agg [.sym .u32 7, .sym .u32 8, .sym .u8 9, .sym .u32 10, .sym .u8 11, .sym .u8 12, .sym .u16 13], .agg [.sym .u32 14, .sym .u32 15, .sym .u8 16, .sym .u32 17, .sym .u8 18, .sym .u8 19, .sym .u16 20]], .bool true⟩, ⟨14, [.agg [.sym .u32 0, .sym .u32 1, .sym .u8 2, .sym .u32 3, .sym .u8 4, .sym .u8 5, .sym .u16 6], .agg [.sym .u32 14, .sym .u32 15, .sym .u8 16, .sym .u32 17, .sym .u8 18, .sym .u8 19, .sym .u16 20]], .bool true⟩]
theorem law42 : isTrueR (goT cx3 (q3 g42 c42) 60 4 args ⟨.nil, 0⟩) = true := by kernel_rfl
def g43 : List Fact := [⟨.eql, .sym .u32 0, .sym .u32 7, .bool true⟩, ⟨.eql, .sym .u8 2, .sym .u8 9, .bool true⟩, ⟨.eql, .sym .u32 3, .sym .u32 10, .bool true⟩, ⟨.eql, .sym .u8 4, .sym .u8 11, .bool true⟩, ⟨.eql, .sym .u8 5, .sym .u8 12, .bool false⟩, ⟨.geq, .sym .u32 0, .sym .u32 7, .bool true⟩]
def c43 : List FCall := [⟨14, [.agg [.sym .u32 0, .sym .u32 1, .sym .u8 2, .sym .u32 3, .sym .u8 4, .sym .u8 5, .sym .u16 6], .agg [.sym .u32 7, .sym .u32 8, .sym .u8 9, .sym .u32 10, .sym .u8 11, .sym .u8 12, .sym .u16 13]], .bool false⟩, ⟨14, [.agg [.sym .u32 0, .int .u32 7, .sym .u8 2, .sym .u32 3, .sym .u8 4, .sym .u8 5, .sym .u16 6], .agg [.sym .u32 7, .int .u32 3, .sym .u8 9, .sym .u32 10, .sym .u8 11, .sym .u8 12, .sym .u16 13]], .bool false⟩, ⟨14, [.agg [.sym .u32 7, .sym .u32 8, .sym .u8 9, .sym .u32 10, .sym .u8 11, .sym .u8 12, .sym .u16 13], .agg [.sym .u32 0, .sym .u32 1, .sym .u8 2, .sym .u32 3, .sym .u8 4, .sym .u8 5, .sym .u16 6]], .bool true⟩]
theorem law43 : isTrueR (goT cx3 (q3 g43 c43) 60 4 args ⟨.nil, 0⟩) = true := by kernel_rfl
def g51 : List Fact := [⟨.eql, .sym .u32 0, .sym .u32 7, .bool true⟩, ⟨.eql, .sym .u8 2, .sym .u8 9, .bool true⟩, ⟨.eql, .sym .u32 3, .sym .u32 10, .bool true⟩, ⟨.eql, .sym .u8 4, .sym .u8 11, .bool true⟩, ⟨.eql, .sym .u8 5, .sym .u8 12, .bool true⟩, ⟨.eql, .sym .u16 6, .sym .u16 13, .bool false⟩, ⟨.geq, .sym .u32 0, .sym .u32 7, .bool true⟩]
def c51 : List FCall := [⟨14, [.agg [.sym .u32 0, .sym .u32 1, .sym .u8 2, .sym .u32 3, .sym .u8 4, .sym .u8 5, .sym .u16 6], .agg [.sym .u32 7, .sym .u32 8, .sym .u8 9, .sym .u32 10, .sym .u8 11, .sym .u8 12, .sym .u16 13]], .bool true⟩, ⟨14, [.agg [.sym .u32 0, .int .u32 7, .sym .u8 2, .sym .u32 3, .sym .u8 4, .sym .u8 5, .sym .u16 6], .agg [.sym .u32 7, .int .u32 3, .sym .u8 9, .sym .u32 10, .sym .u8 11, .sym .u8 12, .sym .u16 13]], .bool true⟩, ⟨14, [.agg [.sym .u32 7, .sym .u32 8, .sym .u8 9, .sym .u32 10, .sym .u8 11, .sym .u8 12, .sym .u16 13], .agg [.sym .u32 0, .sym .u32 1, .sym .u8 2, .sym .u32 3, .sym .u8 4, .sym .u8 5, .sym .u16 6]], .bool false⟩, ⟨14, [.agg [.sym .u32 7, .sym .u32 8, .sym .u8 9, .sym .u32 10, .sym .u8 11, .sym .u8 12, .sym .u16 13], .agg [.sym .u32 14, .sym .u32 15, .sym .u8 16, .sym .u32 17, .sym .u8 18, .sym .u8 19, .sym .u16 20]], .bool false⟩]
theorem law51 : isTrueR (goT cx3 (q3 g51 c51) 60 4 args ⟨.nil, 0⟩) = true := by kernel_rfl
def g52 : List Fact := [⟨.eql, .sym .u32 0, .sym .u32 7, .bool true⟩, ⟨.eql, .sym .u8 2, .sym .u8 9, .bool true⟩, ⟨.eql, .sym .u32 3, .sym .u32 10, .bool true⟩, ⟨.eql, .sym .u8 4, .sym .u8 11, .bool true⟩, ⟨.eql, .sym .u8 5, .sym .u8 12, .bool true⟩, ⟨.eql, .sym .u16 6, .sym .u16 13, .bool false⟩, ⟨.geq, .sym .u32 0, .sym .u32 7, .bool true⟩]
def c52 : List FCall := [⟨14, [.agg [.sym .u32 0, .sym .u32 1, .sym .u8 2, .sym .u32 3, .sym .u8 4, .sym .u8 5, .sym .u16 6], .agg [.sym .u32 7, .sym .u32 8, .sym .u8 9, .sym .u32 10, .sym .u8 11, .sym .u8 12, .sym .u16 13]], .bool true⟩, ⟨14, [.agg [.sym .u32 0, .int .u32 7, .sym .u8 2, .sym .u32 3, .sym .u8 4, .sym .u8 5, .sym .u16 6], .agg [.sym .u32 7, .int .u32 3, .sym .u8 9, .sym .u32 10, .sym .u8 11, .sym .u8 12, .sym .u16 13]], .bool true⟩, ⟨14, [.agg [.sym .u32 7, .sym .u32 8, .sym .u8 9, .sym .u32 10, .sym .u8 11, .sym .u8 12, .sym .u16 13], .agg [.sym .u32 0, .sym .u32 1, .sym .u8 2, .sym .u32 3, .sym .u8 4, .sym .u8 5, .sym .u16 6]], .bool false⟩, ⟨14, [.agg [.sym .u32 7, .sym .u32 8, .sym .u8 9, .sym .u32 10, .sym .u8 11, .sym .u8 12, .sym .u16 13], .agg [.sym .u32 14, .sym .u32 15, .sym .u8 16, .sym .u32 17, .sym .u8 18, .sym .u8 19, .sym .u16 20]], .bool true⟩, ⟨14, [.agg [.sym .u32 0, .sym .u32 1, .sym .u8 2, .sym .u32 3, .sym .u8 4, .sym .u8 5, .sym .u16 6], .agg [.sym .u32 14, .sym .u32 15, .sym .u8 16, .sym .u32 17, .sym .u8 18, .sym .u8 19, .sym .u16 20]], .bool true⟩]
theorem law52 : isTrueR (goT cx3 (q3 g52 c52) 60 4 args ⟨.nil, 0⟩) = true := by kernel_rfl
def g53 : List Fact := [⟨.eql, .sym .u32 0, .sym .u32 7, .bool true⟩, ⟨.eql, .sym .u8 2, .sym .u8 9, .bool true⟩, ⟨.eql, .sym .u32 3, .sym .u32 10, .bool true⟩, ⟨.eql, .sym .u8 4, .sym .u8 11, .bool true⟩, ⟨.eql, .sym .u8 5, .sym .u8 12, .bool true⟩, ⟨.eql, .sym .u16 6, .sym .u16 13, .bool false⟩, ⟨.geq, .sym .u32 0, .sym .u32 7, .bool true⟩]
def c53 : List FCall := [⟨14, [.agg [.sym .u32 0, .sym .u32 1, .sym .u8 2, .sym .u32 3, .sym .u8 4, .sym .u8 5, .sym .u16 6], .agg [.sym .u32 7, .sym .u32 8, .sym .u8 9, .sym .u32 10, .sym .u8 11, .sym .u8 12, .sym .u16 13]], .bool false⟩, ⟨14, [.agg [.sym .u32 0, .int .u32 7, .sym .u8 2, .sym .u32 3, .sym .u8 4, .sym .u8 5, .sym .u16 6], .agg [.sym .u32 7, .int .u32 3, .sym .u8 9, .sym .u32 10, .sym .u8 11, .sym .u8 12, .sym .u16 13]], .bool false⟩, ⟨14, [.agg [.sym .u32 7, .sym .u32 8, .sym .u8 9, .sym .u32 10, .sym .u8 11, .sym .u8 12, .sym .u16 13], .agg [.sym .u32 0, .sym .u32 1, .sym .u8 2, .sym .u32 3, .sym .u8 4, .sym .u8 5, .sym .u16 6]], .bool true⟩]
theorem law53 : isTrueR (goT cx3 (q3 g53 c53) 60 4 args ⟨.nil, 0⟩) = true := by kernel_rfl
def g60 : List Fact := [⟨.eql, .sym .u32 0, .sym .u32 7, .bool true⟩, ⟨.eql, .sym .u8 2, .sym .u8 9, .bool true⟩, ⟨.eql, .sym .u32 3, .sym .u32 10, .bool true⟩, ⟨.eql, .sym .u8 4, .sym .u8 11, .bool true⟩, ⟨.eql, .sym .u8 5, .sym .u8 12, .bool true⟩, ⟨.eql, .sym .u16 6, .sym .u16 13, .bool true⟩, ⟨.geq, .sym .u32 0, .sym .u32 7, .bool true⟩]
def c60 : List FCall := [⟨14, [.agg [.sym .u32 0, .sym .u32 1, .sym .u8 2, .sym .u32 3, .sym .u8 4, .sym .u8 5, .sym .u16 6], .agg [.sym .u32 7, .sym .u32 8, .sym .u8 9, .sym .u32 10, .sym .u8 11, .sym .u8 12, .sym .u16 13]], .bool false⟩, ⟨14, [.agg [.sym .u32 0, .int .u32 7, .sym .u8 2, .sym .u32 3, .sym .u8 4, .sym .u8 5, .sym .u16 6], .agg [.sym .u32 7, .int .u32 3, .sym .u8 9, .sym .u32 10, .sym .u8 11, .sym .u8 12, .sym .u16 13]], .bool false⟩, ⟨14, [.agg [.sym .u32 7, .sym .u32 8, .sym .u8 9, .sym .u32 10, .sym .u8 11, .sym .u8 12, .sym .u16 13], .agg [.sym .u32 0, .sym .u32 1, .sym .u8 2, .sym .u32 3, .sym .u8 4, .sym .u8 5, .sym .u16 6]], .bool false⟩]
theorem law60 : isTrueR (goT cx3 (q3 g60 c60) 60 4 args ⟨.nil, 0⟩) = true := by kernel_rfl
def Small3 (v : Nat → Int) : Prop := ∀ i, i < 21 → 0 ≤ v i ∧ v i < 4294967296
def tx (v : Nat → Int) (i : Nat) : List UInt8 := textB [(v (i + 2)).toNat, (v (i + 3)).toNat, (v (i + 4)).toNat, (v (i + 5)).toNat, (v (i + 6)).toNat]
def lt (v : Nat → Int) (i j : Nat) : Bool := lessB (v i) (tx v i) (v j) (tx v j)
/-- two entries out of three -/
def two (v : Nat → Int) (i j : Nat) (x y : Option Int) : Nat → Int := fun s => if s < 7 then (if s = 1 then x.getD (v (i + 1)) else v (i + s)) else (if s = 8 then y.getD (v (j + 1)) else v (j + (s - 7)))
theorem call_ok {v : Nat → Int} (h : Small3 v) (i j : Nat) (x y : Option Int) (hi : i + 6 < 21) (hj : j + 6 < 21) (hx : ∀ z, x = some z → 0 ≤ z ∧ z < 4294967296) (hy : ∀ z, y = some z → 0 ≤ z ∧ z < 4294967296) {as2 : List AV} (hp : plains as2 = true) {A : List Value} (hA : concs (noEnv (sg3 v)) as2 = some A) (hA2 : concs (noEnv (sg (two v i j x y))) args2 = some A) {b : Bool} (hb : lt v i j = b) :
    FCallOK Tryd.prog (sg3 v) ⟨14, as2, .bool b⟩ := by
  have hs : Small (two v i j x y) := by
    intro s hs
    unfold two
    split
    · split
      · cases x with
        | none => exact h _ (by omega)
        | some z => exact hx z rfl
      · exact h _ (by omega)
    · split
      · cases y with
        | none => exact h _ (by omega)
        | some z => exact hy z rfl
      · exact h _ (by omega)
  refine callOK_of (fn := (Tryd.prog.funcs[14]?).getD default) (c := ((Tryd.prog.funcs[14]?).getD default).body.getD .skip) (by kernel_rfl) (by kernel_rfl) (by kernel_rfl) hp hA (V := .bool b) (fun _ _ => rfl) fun w hg => ?_
  refine (less_calls (two v i j x y) hs hA2 w hg).mono fun e w' ⟨he, hw⟩ => ⟨?_, hw⟩
  rw [he, ← hb]
  rfl
theorem walkv (v : Nat → Int) (h : Small3 v) {l : List Fact} (hl : ∀ f ∈ l, FactOK Tryd.prog (sg3 v) f) {cs : List FCall} (hc : ∀ f ∈ cs, FCallOK Tryd.prog (sg3 v) f) (hr : isTrueR (goT cx3 (q3 l cs) 60 4 args ⟨.nil, 0⟩) = true) (A : List Value) (hA : concs (noEnv (sg3 v)) args = some A) (w : World) (hT : ∀ q, q < 20 → w.cell? ⟨0, q, none⟩ = some (.int .u64 ((10 ^ q : Nat) : Int))) :
    Calls Tryd.prog 4 ⟨A⟩ w fun e w' => e = .returned (.bool true) ∧ Below w.heap.size w w' :=
  law_of_run (σ := sg3 v) (cx := cx3) (q := q3 l cs) (progOK_W asked hl all_nil bytes_nil all_nil all_nil hc globs_nil sums_ok) hA hr w (powF_in hT)
theorem all_same {v : Nat → Int} (h : Small3 v) (e : v 0 = v 7 ∧ tx v 0 = tx v 7) : v 0 = v 7 ∧ v 2 = v 9 ∧ v 3 = v 10 ∧ v 4 = v 11 ∧ v 5 = v 12 ∧ v 6 = v 13 := by
  have := textB_inj e.2
  simp only [List.cons.injEq, and_true, Nat.zero_add, Nat.reduceAdd] at this
  have a2 := h 2 (by omega); have a3 := h 3 (by omega); have a4 := h 4 (by omega); have a5 := h 5 (by omega); have a6 := h 6 (by omega)
  have b2 := h 9 (by omega); have b3 := h 10 (by omega); have b4 := h 11 (by omega); have b5 := h 12 (by omega); have b6 := h 13 (by omega)
  exact ⟨e.1, by omega, by omega, by omega, by omega, by omega⟩
theorem walks (v : Nat → Int) (h : Small3 v) (A : List Value) (hA : concs (noEnv (sg3 v)) args = some A) (w : World) (hT : ∀ q, q < 20 → w.cell? ⟨0, q, none⟩ = some (.int .u64 ((10 ^ q : Nat) : Int))) :
    Calls Tryd.prog 4 ⟨A⟩ w fun e w' => e = .returned (.bool true) ∧ Below w.heap.size w w' := by
  have C01 : ∀ b, lt v 0 7 = b → FCallOK Tryd.prog (sg3 v) ⟨14, [.agg [.sym .u32 0, .sym .u32 1, .sym .u8 2, .sym .u32 3, .sym .u8 4, .sym .u8 5, .sym .u16 6], .agg [.sym .u32 7, .sym .u32 8, .sym .u8 9, .sym .u32 10, .sym .u8 11, .sym .u8 12, .sym .u16 13]], .bool b⟩ := fun b hb => call_ok h 0 7 none none (by omega) (by omega) (by simp) (by simp) rfl rfl rfl hb
  have C01x : ∀ b, lt v 0 7 = b → FCallOK Tryd.prog (sg3 v) ⟨14, [.agg [.sym .u32 0, .int .u32 7, .sym .u8 2, .sym .u32 3, .sym .u8 4, .sym .u8 5, .sym .u16 6], .agg [.sym .u32 7, .int .u32 3, .sym .u8 9, .sym .u32 10, .sym .u8 11, .sym .u8 12, .sym .u16 13]], .bool b⟩ := fun b hb => call_ok h 0 7 (some 7) (some 3) (by omega) (by omega) (by simp) (by simp) rfl rfl rfl hb
  have C10 : ∀ b, lt v 7 0 = b → FCallOK Tryd.prog (sg3 v) ⟨14, [.agg [.sym .u32 7, .sym .u32 8, .sym .u8 9, .sym .u32 10, .sym .u8 11, .sym .u8 12, .sym .u16 13], .agg [.sym .u32 0, .sym .u32 1, .sym .u8 2, .sym .u32 3, .sym .u8 4, .sym .u8 5, .sym .u16 6]], .bool b⟩ := fun b hb => call_ok h 7 0 none none (by omega) (by omega) (by simp) (by simp) rfl rfl rfl hb
  have C12 : ∀ b, lt v 7 14 = b → FCallOK Tryd.prog (sg3 v) ⟨14, [.agg [.sym .u32 7, .sym .u32 8, .sym .u8 9, .sym .u32 10, .sym .u8 11, .sym .u8 12, .sym .u16 13], .agg [.sym .u32 14, .sym .u32 15, .sym .u8 16, .sym .u32 17, .sym .u8 18, .sym .u8 19, .sym .u16 20]], .bool b⟩ := fun b hb => call_ok h 7 14 none none (by omega) (by omega) (by simp) (by simp) rfl rfl rfl hb
  have C02 : ∀ b, lt v 0 14 = b → FCallOK Tryd.prog (sg3 v) ⟨14, [.agg [.sym .u32 0, .sym .u32 1, .sym .u8 2, .sym .u32 3, .sym .u8 4, .sym .u8 5, .sym .u16 6], .agg [.sym .u32 14, .sym .u32 15, .sym .u8 16, .sym .u32 17, .sym .u8 18, .sym .u8 19, .sym .u16 20]], .bool b⟩ := fun b hb => call_ok h 0 14 none none (by omega) (by omega) (by simp) (by simp) rfl rfl rfl hb
  by_cases e0 : v 0 = v 7
  rotate_left
  · cases h1 : lt v 0 7 with
    | false =>
      have h2 : lt v 7 0 = true := by
        cases h2 : lt v 7 0 with
        | true => rfl
        | false => exact absurd (lessB_conn h1 h2) (fun hh => e0 (all_same h hh).1)
      exact walkv v h (l := g03) (all_cons (fact_ne (σ := sg3 v) rfl rfl e0) (all_cons (fact_geq_t (σ := sg3 v) rfl rfl (lessB_ge h1)) all_nil)) (cs := c03) (all_cons (C01 _ h1) (all_cons (C01x _ h1) (all_cons (C10 _ h2) all_nil))) law03 A hA w hT
    | true =>
      have h2 : lt v 7 0 = false := lessB_asym h1
      cases h3 : lt v 7 14 with
      | false => exact walkv v h (l := g01) (all_cons (fact_ne (σ := sg3 v) rfl rfl e0) (all_cons (fact_geq_f (σ := sg3 v) rfl rfl (by have := lessB_lt h1 e0; show ¬ v 0 ≥ v 7; omega)) all_nil)) (cs := c01) (all_cons (C01 _ h1) (all_cons (C01x _ h1) (all_cons (C10 _ h2) (all_cons (C12 _ h3) all_nil)))) law01 A hA w hT
      | true =>
        have h4 : lt v 0 14 = true := lessB_trans h1 h3
        exact walkv v h (l := g02) (all_cons (fact_ne (σ := sg3 v) rfl rfl e0) (all_cons (fact_geq_f (σ := sg3 v) rfl rfl (by have := lessB_lt h1 e0; show ¬ v 0 ≥ v 7; omega)) all_nil)) (cs := c02) (all_cons (C01 _ h1) (all_cons (C01x _ h1) (all_cons (C10 _ h2) (all_cons (C12 _ h3) (all_cons (C02 _ h4) all_nil))))) law02 A hA w hT
  by_cases e2 : v 2 = v 9
  rotate_left
  · cases h1 : lt v 0 7 with
    | false =>
      have h2 : lt v 7 0 = true := by
        cases h2 : lt v 7 0 with
        | true => rfl
        | false => exact absurd (lessB_conn h1 h2) (fun hh => e2 (all_same h hh).2.1)
      exact walkv v h (l := g13) (all_cons (fact_eq (σ := sg3 v) rfl rfl e0) (all_cons (fact_ne (σ := sg3 v) rfl rfl e2) (all_cons (fact_geq_t (σ := sg3 v) rfl rfl (Int.le_of_eq e0.symm)) all_nil))) (cs := c13) (all_cons (C01 _ h1) (all_cons (C01x _ h1) (all_cons (C10 _ h2) all_nil))) law13 A hA w hT
    | true =>
      have h2 : lt v 7 0 = false := lessB_asym h1
      cases h3 : lt v 7 14 with
      | false => exact walkv v h (l := g11) (all_cons (fact_eq (σ := sg3 v) rfl rfl e0) (all_cons (fact_ne (σ := sg3 v) rfl rfl e2) (all_cons (fact_geq_t (σ := sg3 v) rfl rfl (Int.le_of_eq e0.symm)) all_nil))) (cs := c11) (all_cons (C01 _ h1) (all_cons (C01x _ h1) (all_cons (C10 _ h2) (all_cons (C12 _ h3) all_nil)))) law11 A hA w hT
      | true =>
        have h4 : lt v 0 14 = true := lessB_trans h1 h3
        exact walkv v h (l := g12) (all_cons (fact_eq (σ := sg3 v) rfl rfl e0) (all_cons (fact_ne (σ := sg3 v) rfl rfl e2) (all_cons (fact_geq_t (σ := sg3 v) rfl rfl (Int.le_of_eq e0.symm)) all_nil))) (cs := c12) (all_cons (C01 _ h1) (all_cons (C01x _ h1) (all_cons (C10 _ h2) (all_cons (C12 _ h3) (all_cons (C02 _ h4) all_nil))))) law12 A hA w hT
  by_cases e3 : v 3 = v 10
  rotate_left
  · cases h1 : lt v 0 7 with
    | false =>
      have h2 : lt v 7 0 = true := by
        cases h2 : lt v 7 0 with
        | true => rfl
        | false => exact absurd (lessB_conn h1 h2) (fun hh => e3 (all_same h hh).2.2.1)
      exact walkv v h (l := g23) (all_cons (fact_eq (σ := sg3 v) rfl rfl e0) (all_cons (fact_eq (σ := sg3 v) rfl rfl e2) (all_cons (fact_ne (σ := sg3 v) rfl rfl e3) (all_cons (fact_geq_t (σ := sg3 v) rfl rfl (Int.le_of_eq e0.symm)) all_nil)))) (cs := c23) (all_cons (C01 _ h1) (all_cons (C01x _ h1) (all_cons (C10 _ h2) all_nil))) law23 A hA w hT
    | true =>
      have h2 : lt v 7 0 = false := lessB_asym h1
      cases h3 : lt v 7 14 with
      | false => exact walkv v h (l := g21) (all_cons (fact_eq (σ := sg3 v) rfl rfl e0) (all_cons (fact_eq (σ := sg3 v) rfl rfl e2) (all_cons (fact_ne (σ := sg3 v) rfl rfl e3) (all_cons (fact_geq_t (σ := sg3 v) rfl rfl (Int.le_of_eq e0.symm)) all_nil)))) (cs := c21) (all_cons (C01 _ h1) (all_cons (C01x _ h1) (all_cons (C10 _ h2) (all_cons (C12 _ h3) all_nil)))) law21 A hA w hT
      | true =>
        have h4 : lt v 0 14 = true := lessB_trans h1 h3
        exact walkv v h (l := g22) (all_cons (fact_eq (σ := sg3 v) rfl rfl e0) (all_cons (fact_eq (σ := sg3 v) rfl rfl e2) (all_cons (fact_ne (σ := sg3 v) rfl rfl e3) (all_cons (fact_geq_t (σ := sg3 v) rfl rfl (Int.le_of_eq e0.symm)) all_nil)))) (cs := c22) (all_cons (C01 _ h1) (all_cons (C01x _ h1) (all_cons (C10 _ h2) (all_cons (C12 _ h3) (all_cons (C02 _ h4) all_nil))))) law22 A hA w hT
  by_cases e4 : v 4 = v 11
  rotate_left
  · cases h1 : lt v 0 7 with
    | false =>
      have h2 : lt v 7 0 = true := by
        cases h2 : lt v 7 0 with
        | true => rfl
        | false => exact absurd (lessB_conn h1 h2) (fun hh => e4 (all_same h hh).2.2.2.1)
      exact walkv v h (l := g33) (all_cons (fact_eq (σ := sg3 v) rfl rfl e0) (all_cons (fact_eq (σ := sg3 v) rfl rfl e2) (all_cons (fact_eq (σ := sg3 v) rfl rfl e3) (all_cons (fact_ne (σ := sg3 v) rfl rfl e4) (all_cons (fact_geq_t (σ := sg3 v) rfl rfl (Int.le_of_eq e0.symm)) all_nil))))) (cs := c33) (all_cons (C01 _ h1) (all_cons (C01x _ h1) (all_cons (C10 _ h2) all_nil))) law33 A hA w hT
    | true =>
      have h2 : lt v 7 0 = false := lessB_asym h1
      cases h3 : lt v 7 14 with
      | false => exact walkv v h (l := g31) (all_cons (fact_eq (σ := sg3 v) rfl rfl e0) (all_cons (fact_eq (σ := sg3 v) rfl rfl e2) (all_cons (fact_eq (σ := sg3 v) rfl rfl e3) (all_cons (fact_ne (σ := sg3 v) rfl rfl e4) (all_cons (fact_geq_t (σ := sg3 v) rfl rfl (Int.le_of_eq e0.symm)) all_nil))))) (cs := c31) (all_cons (C01 _ h1) (all_cons (C01x _ h1) (all_cons (C10 _ h2) (all_cons (C12 _ h3) all_nil)))) law31 A hA w hT
      | true =>
        have h4 : lt v 0 14 = true := lessB_trans h1 h3
        exact walkv v h (l := g32) (all_cons (fact_eq (σ := sg3 v) rfl rfl e0) (all_cons (fact_eq (σ := sg3 v) rfl rfl e2) (all_cons (fact_eq (σ := sg3 v) rfl rfl e3) (all_cons (fact_ne (σ := sg3 v) rfl rfl e4) (all_cons (fact_geq_t (σ := sg3 v) rfl rfl (Int.le_of_eq e0.symm)) all_nil))))) (cs := c32) (all_cons (C01 _ h1) (all_cons (C01x _ h1) (all_cons (C10 _ h2) (all_cons (C12 _ h3) (all_cons (C02 _ h4) all_nil))))) law32 A hA w hT
  by_cases e5 : v 5 = v 12
  rotate_left
  · cases h1 : lt v 0 7 with
    | false =>
      have h2 : lt v 7 0 = true := by
        cases h2 : lt v 7 0 with
        | true => rfl
        | false => exact absurd (lessB_conn h1 h2) (fun hh => e5 (all_same h hh).2.2.2.2.1)
      exact walkv v h (l := g43) (all_cons (fact_eq (σ := sg3 v) rfl rfl e0) (all_cons (fact_eq (σ := sg3 v) rfl rfl e2) (all_cons (fact_eq (σ := sg3 v) rfl rfl e3) (all_cons (fact_eq (σ := sg3 v) rfl rfl e4) (all_cons (fact_ne (σ := sg3 v) rfl rfl e5) (all_cons (fact_geq_t (σ := sg3 v) rfl rfl (Int.le_of_eq e0.symm)) all_nil)))))) (cs := c43) (all_cons (C01 _ h1) (all_cons (C01x _ h1) (all_cons (C10 _ h2) all_nil))) law43 A hA w hT
    | true =>
      have h2 : lt v 7 0 = false := lessB_asym h1
      cases h3 : lt v 7 14 with
      | false => exact walkv v h (l := g41) (all_cons (fact_eq (σ := sg3 v) rfl rfl e0) (all_cons (fact_eq (σ := sg3 v) rfl rfl e2) (all_cons (fact_eq (σ := sg3 v) rfl rfl e3) (all_cons (fact_eq (σ := sg3 v) rfl rfl e4) (all_cons (fact_ne (σ := sg3 v) rfl rfl e5) (all_cons (fact_geq_t (σ := sg3 v) rfl rfl (Int.le_of_eq e0.symm)) all_nil)))))) (cs := c41) (all_cons (C01 _ h1) (all_cons (C01x _ h1) (all_cons (C10 _ h2) (all_cons (C12 _ h3) all_nil)))) law41 A hA w hT
      | true =>
        have h4 : lt v 0 14 = true := lessB_trans h1 h3
        exact walkv v h (l := g42) (all_cons (fact_eq (σ := sg3 v) rfl rfl e0) (all_cons (fact_eq (σ := sg3 v) rfl rfl e2) (all_cons (fact_eq (σ := sg3 v) rfl rfl e3) (all_cons (fact_eq (σ := sg3 v) rfl rfl e4) (all_cons (fact_ne (σ := sg3 v) rfl rfl e5) (all_cons (fact_geq_t (σ := sg3 v) rfl rfl (Int.le_of_eq e0.symm)) all_nil)))))) (cs := c42) (all_cons (C01 _ h1) (all_cons (C01x _ h1) (all_cons (C10 _ h2) (all_cons (C12 _ h3) (all_cons (C02 _ h4) all_nil))))) law42 A hA w hT
  by_cases e6 : v 6 = v 13
  rotate_left
  · cases h1 : lt v 0 7 with
    | false =>
      have h2 : lt v 7 0 = true := by
        cases h2 : lt v 7 0 with
        | true => rfl
        | false => exact absurd (lessB_conn h1 h2) (fun hh => e6 (all_same h hh).2.2.2.2.2)
      exact walkv v h (l := g53) (all_cons (fact_eq (σ := sg3 v) rfl rfl e0) (all_cons (fact_eq (σ := sg3 v) rfl rfl e2) (all_cons (fact_eq (σ := sg3 v) rfl rfl e3) (all_cons (fact_eq (σ := sg3 v) rfl rfl e4) (all_cons (fact_eq (σ := sg3 v) rfl rfl e5) (all_cons (fact_ne (σ := sg3 v) rfl rfl e6) (all_cons (fact_geq_t (σ := sg3 v) rfl rfl (Int.le_of_eq e0.symm)) all_nil))))))) (cs := c53) (all_cons (C01 _ h1) (all_cons (C01x _ h1) (all_cons (C10 _ h2) all_nil))) law53 A hA w hT
    | true =>
      have h2 : lt v 7 0 = false := lessB_asym h1
      cases h3 : lt v 7 14 with
      | false => exact walkv v h (l := g51) (all_cons (fact_eq (σ := sg3 v) rfl rfl e0) (all_cons (fact_eq (σ := sg3 v) rfl rfl e2) (all_cons (fact_eq (σ := sg3 v) rfl rfl e3) (all_cons (fact_eq (σ := sg3 v) rfl rfl e4) (all_cons (fact_eq (σ := sg3 v) rfl rfl e5) (all_cons (fact_ne (σ := sg3 v) rfl rfl e6) (all_cons (fact_geq_t (σ := sg3 v) rfl rfl (Int.le_of_eq e0.symm)) all_nil))))))) (cs := c51) (all_cons (C01 _ h1) (all_cons (C01x _ h1) (all_cons (C10 _ h2) (all_cons (C12 _ h3) all_nil)))) law51 A hA w hT
      | true =>
        have h4 : lt v 0 14 = true := lessB_trans h1 h3
        exact walkv v h (l := g52) (all_cons (fact_eq (σ := sg3 v) rfl rfl e0) (all_cons (fact_eq (σ := sg3 v) rfl rfl e2) (all_cons (fact_eq (σ := sg3 v) rfl rfl e3) (all_cons (fact_eq (σ := sg3 v) rfl rfl e4) (all_cons (fact_eq (σ := sg3 v) rfl rfl e5) (all_cons (fact_ne (σ := sg3 v) rfl rfl e6) (all_cons (fact_geq_t (σ := sg3 v) rfl rfl (Int.le_of_eq e0.symm)) all_nil))))))) (cs := c52) (all_cons (C01 _ h1) (all_cons (C01x _ h1) (all_cons (C10 _ h2) (all_cons (C12 _ h3) (all_cons (C02 _ h4) all_nil))))) law52 A hA w hT
  have et : tx v 0 = tx v 7 := by simp [tx, e2, e3, e4, e5, e6]
  have h1 : lt v 0 7 = false := by unfold lt; rw [e0, et]; exact lessB_irr _ _
  have h2 : lt v 7 0 = false := by unfold lt; rw [e0, et]; exact lessB_irr _ _
  exact walkv v h (l := g60) (all_cons (fact_eq (σ := sg3 v) rfl rfl e0) (all_cons (fact_eq (σ := sg3 v) rfl rfl e2) (all_cons (fact_eq (σ := sg3 v) rfl rfl e3) (all_cons (fact_eq (σ := sg3 v) rfl rfl e4) (all_cons (fact_eq (σ := sg3 v) rfl rfl e5) (all_cons (fact_eq (σ := sg3 v) rfl rfl e6) (all_cons (fact_geq_t (σ := sg3 v) rfl rfl (Int.le_of_eq e0.symm)) all_nil))))))) (cs := c60) (all_cons (C01 _ h1) (all_cons (C01x _ h1) (all_cons (C10 _ h2) all_nil))) law60 A hA w hT
theorem walk (A : List Value) (h : FitsAll kinds A) (w : World) (hT : ∀ q, q < 20 → w.cell? ⟨0, q, none⟩ = some (.int .u64 ((10 ^ q : Nat) : Int))) : Calls Tryd.prog 4 ⟨A⟩ w fun e w' => e = .returned (.bool true) ∧ Below w.heap.size w w' := by
  obtain ⟨cs0, A0, g0, rfl, h0⟩ := fit_agg h
  obtain ⟨sqa, rsqa, wsqa, rfl, gsqa⟩ := fitL_int g0
  obtain ⟨vwa, rvwa, wvwa, rfl, gvwa⟩ := fitL_int gsqa
  obtain ⟨cia, rcia, wcia, rfl, gcia⟩ := fitL_int gvwa
  obtain ⟨tsa, rtsa, wtsa, rfl, gtsa⟩ := fitL_int gcia
  obtain ⟨kda, rkda, wkda, rfl, gkda⟩ := fitL_int gtsa
  obtain ⟨kya, rkya, wkya, rfl, gkya⟩ := fitL_int gkda
  obtain ⟨vla, rvla, wvla, rfl, gvla⟩ := fitL_int gkya
  obtain rfl := fitL_nil gvla
  obtain ⟨cs1, A1, g1, rfl, h1⟩ := fit_agg h0
  obtain ⟨sqb, rsqb, wsqb, rfl, gsqb⟩ := fitL_int g1
  obtain ⟨vwb, rvwb, wvwb, rfl, gvwb⟩ := fitL_int gsqb
  obtain ⟨cib, rcib, wcib, rfl, gcib⟩ := fitL_int gvwb
  obtain ⟨tsb, rtsb, wtsb, rfl, gtsb⟩ := fitL_int gcib
  obtain ⟨kdb, rkdb, wkdb, rfl, gkdb⟩ := fitL_int gtsb
  obtain ⟨kyb, rkyb, wkyb, rfl, gkyb⟩ := fitL_int gkdb
  obtain ⟨vlb, rvlb, wvlb, rfl, gvlb⟩ := fitL_int gkyb
  obtain rfl := fitL_nil gvlb
  obtain ⟨cs2, A2, g2, rfl, h2⟩ := fit_agg h1
  obtain ⟨sqc, rsqc, wsqc, rfl, gsqc⟩ := fitL_int g2
  obtain ⟨vwc, rvwc, wvwc, rfl, gvwc⟩ := fitL_int gsqc
  obtain ⟨cic, rcic, wcic, rfl, gcic⟩ := fitL_int gvwc
  obtain ⟨tsc, rtsc, wtsc, rfl, gtsc⟩ := fitL_int gcic
  obtain ⟨kdc, rkdc, wkdc, rfl, gkdc⟩ := fitL_int gtsc
  obtain ⟨kyc, rkyc, wkyc, rfl, gkyc⟩ := fitL_int gkdc
  obtain ⟨vlc, rvlc, wvlc, rfl, gvlc⟩ := fitL_int gkyc
  obtain rfl := fitL_nil gvlc
  obtain rfl := fit_nil h2
  have bsqa := wf_u32 wsqa
  have bvwa := wf_u32 wvwa
  have bcia := wf_u8 wcia
  have btsa := wf_u32 wtsa
  have bkda := wf_u8 wkda
  have bkya := wf_u8 wkya
  have bvla := wf_u16 wvla
  have bsqb := wf_u32 wsqb
  have bvwb := wf_u32 wvwb
  have bcib := wf_u8 wcib
  have btsb := wf_u32 wtsb
  have bkdb := wf_u8 wkdb
  have bkyb := wf_u8 wkyb
  have bvlb := wf_u16 wvlb
  have bsqc := wf_u32 wsqc
  have bvwc := wf_u32 wvwc
  have bcic := wf_u8 wcic
  have btsc := wf_u32 wtsc
  have bkdc := wf_u8 wkdc
  have bkyc := wf_u8 wkyc
  have bvlc := wf_u16 wvlc
  refine walks (fun i => [sqa, vwa, cia, tsa, kda, kya, vla, sqb, vwb, cib, tsb, kdb, kyb, vlb, sqc, vwc, cic, tsc, kdc, kyc, vlc].getD i 0) (fun i hi => ?_) _ rfl w hT
  match i, hi with
  | 0, _ => show 0 ≤ sqa ∧ sqa < 4294967296; omega
  | 1, _ => show 0 ≤ vwa ∧ vwa < 4294967296; omega
  | 2, _ => show 0 ≤ cia ∧ cia < 4294967296; omega
  | 3, _ => show 0 ≤ tsa ∧ tsa < 4294967296; omega
  | 4, _ => show 0 ≤ kda ∧ kda < 4294967296; omega
  | 5, _ => show 0 ≤ kya ∧ kya < 4294967296; omega
  | 6, _ => show 0 ≤ vla ∧ vla < 4294967296; omega
  | 7, _ => show 0 ≤ sqb ∧ sqb < 4294967296; omega
  | 8, _ => show 0 ≤ vwb ∧ vwb < 4294967296; omega
  | 9, _ => show 0 ≤ cib ∧ cib < 4294967296; omega
  | 10, _ => show 0 ≤ tsb ∧ tsb < 4294967296; omega
  | 11, _ => show 0 ≤ kdb ∧ kdb < 4294967296; omega
  | 12, _ => show 0 ≤ kyb ∧ kyb < 4294967296; omega
  | 13, _ => show 0 ≤ vlb ∧ vlb < 4294967296; omega
  | 14, _ => show 0 ≤ sqc ∧ sqc < 4294967296; omega
  | 15, _ => show 0 ≤ vwc ∧ vwc < 4294967296; omega
  | 16, _ => show 0 ≤ cic ∧ cic < 4294967296; omega
  | 17, _ => show 0 ≤ tsc ∧ tsc < 4294967296; omega
  | 18, _ => show 0 ≤ kdc ∧ kdc < 4294967296; omega
  | 19, _ => show 0 ≤ kyc ∧ kyc < 4294967296; omega
  | 20, _ => show 0 ≤ vlc ∧ vlc < 4294967296; omega
  | n + 21, hi => exact absurd hi (by omega)

set_option maxRecDepth 100000 in
theorem lifted (os : Os) (started : os.Started) (H : Type) (enc : TypeId × Value → H) :
    ReturnsInHanded {} Tryd.checked os 4 .any (fun w args => (Rows.pqOrderSpec.pre enc Tryd.prog Tryd.f4 [] false w args ∧ laidMetH Tryd.prog laidAll w) ∧ sizedMet enc Tryd.prog Tryd.f4 (OpenSpec.ofChange Rows.pqOrderSpec) false w args)
      (Rows.pqOrderSpec.post enc Tryd.prog Tryd.f4 false true false false) := by
  refine returnsInHanded_of_change_and (C := Tryd.checked) (X := fun w _ => laidMetH Tryd.prog laidAll w) (fun _ _ _ hh h => h.of_heap hh) own started (by kernel_rfl) Tryd.func4
    (ChangeSpec.witness_shaped (enc := enc) (C := Tryd.checked) (os := os) (X := fun w _ => laidMetH Tryd.prog laidAll w) false (World.doorLaid Tryd.prog 400 os) #[.agg #[.int .u32 0, .int .u32 0, .int .u8 0, .int .u32 0, .int .u8 0, .int .u8 0, .int .u16 0], .agg #[.int .u32 0, .int .u32 0, .int .u8 0, .int .u32 0, .int .u8 0, .int .u8 0, .int .u16 0], .agg #[.int .u32 0, .int .u32 0, .int .u8 0, .int .u32 0, .int .u8 0, .int .u8 0, .int .u16 0]] 8 rfl (World.shaped_of_RefB (by kernel_rfl) (by kernel_rfl)) (by kernel_rfl) (by kernel_rfl) (by kernel_rfl) (door_met os _)) ?_
  intro W base args ds gs before hval0 hW x1 x2 x3 x4
  have hLd : laidMetH Tryd.prog laidAll W := by assumption
  have hval : ∀ (j : Nat) (t : TypeId) (v : Value), Tryd.f4.params.toList[j]? = some t → args.toList[j]? = some v → Value.okWide Tryd.prog W .any base t v := fun j t v ht hv => hval0 j t v (by simpa using ht) (by simpa using hv)
  have hW' := hW
  obtain ⟨p, q, hA, hV, rfl, hfz, hnd⟩ := hW
  obtain ⟨rfl, hfit, hstill⟩ := trodAll_plain (show plainArgs Tryd.prog Tryd.f4.params.toList = some kinds by kernel_rfl) hval hA
  obtain ⟨rfl, rfl⟩ := trodVars_none hV
  have hl := trodAll_len hA
  obtain ⟨d0, d1, d2, rfl⟩ : ∃ d0 d1 d2, ds = [d0, d1, d2] := len3 (hl.trans (by kernel_rfl))
  simp only [List.append_nil] at hW'
  refine (walk args.toList hfit W (laid_pow hLd)).mono fun e W' ⟨he, hb⟩ => ?_
  subst he
  exact ⟨_, rfl, post_of_below (pa := []) (pv := []) hW' (fun _ _ _ => (trodAll_cons_mk (shut_bool (by kernel_rfl) _) trodAll_mk0)) (fun sp _ => hstill _ _ _ _) (fun _ _ => rfl) rfl
    hb (ok_one (t := 4) (by kernel_rfl) rfl (okWide_bool_mk (show Tryd.prog.underlying 4 = some .bool by kernel_rfl) _))⟩

theorem j9 : (Rows.pqOrderRow.inPlace == Tryd.prog.inPlace 4) = true := by kernel_rfl
theorem j10 : (Rows.pqOrderRow.unfollowed == Tryd.prog.unfollowed 4) = true := by kernel_rfl
theorem j11 : (Rows.pqOrderRow.recurses == Tryd.prog.recurses 4) = true := by kernel_rfl
theorem j12 : (Rows.pqOrderRow.named == Tryd.prog.varsNamed 4) = true := by kernel_rfl
theorem closed : joinedFacts Tryd.prog 4 Tryd.f4 Rows.pqOrderSpec Rows.pqOrderRow = true :=
  joined_mk (by as_aux_lemma => kernel_rfl) g_laid g_rowed (by as_aux_lemma => kernel_rfl) (by as_aux_lemma => kernel_rfl) rfl (by as_aux_lemma => kernel_rfl) rfl (by as_aux_lemma => kernel_rfl) j9 j10 j11 j12
    (by as_aux_lemma => kernel_rfl) (by as_aux_lemma => kernel_rfl) (by as_aux_lemma => kernel_rfl) (by as_aux_lemma => kernel_rfl) (by as_aux_lemma => kernel_rfl) (by as_aux_lemma => kernel_rfl) (by as_aux_lemma => kernel_rfl) (by as_aux_lemma => kernel_rfl) (by as_aux_lemma => kernel_rfl) g_plain rfl g_heard g_enter g_lift g_make
    (by as_aux_lemma => kernel_rfl) (by as_aux_lemma => kernel_rfl) (by as_aux_lemma => kernel_rfl) (by as_aux_lemma => kernel_rfl)
theorem named : Tryd.prog.funcNamed "palisade/palisadelaw14.PqOrder" = some 4 := by kernel_rfl

theorem row_holds : Rows.PqOrderSaid :=
  OpenClaim.holds_of_wide 4 Tryd.f4 rfl rfl rfl rfl rfl rfl rfl ⟨rfl, rfl, rfl, rfl, rfl⟩ rfl rfl rfl rfl rfl named Tryd.func4 closed
    (of_decide_eq_true (by as_aux_lemma => kernel_rfl)) (by unfold Func.isWrapper; first | (rw [if_pos (by decide +kernel)]; kernel_rfl) | (rw [if_neg (by decide +kernel)]; exact ⟨rfl, rfl⟩))
    (fun os started H enc _ => lifted os started H enc)

theorem byText : Rows.pqOrderRow.wfByText (OpenSpec.ofChange Rows.pqOrderSpec) = true := by kernel_rfl
theorem main : Tryd.prog.mainIs = some (true, "301d0da71df1b3e34d90c0a81a102acd27e3e7bc78f0c5fa0930ae5840ce9ca9".toList) := by kernel_rfl
theorem looks : false = Tryd.prog.looks [] := by kernel_rfl
theorem goes : false = Rows.pqOrderRow.goesBy Tryd.prog := by kernel_rfl
theorem standIn : ([37, 37, 37].all fun u => !Tryd.prog.wantsStandIn u) = true := by kernel_rfl
/-- The tied card. -/
theorem card_holds : Rows.PqOrderCardSaid :=
  Claim7.holds_tied_plain_at .later [] [.data, .data, .data] true (true, "301d0da71df1b3e34d90c0a81a102acd27e3e7bc78f0c5fa0930ae5840ce9ca9") false
    row_holds (fun _ h => by cases h) byText (fun _ h => by cases h) pqOrder_row_tie rfl ⟨rfl, rfl⟩ main rfl
    (fun f fn hf hfn => by
      obtain rfl : f = 4 := Option.some.inj (named.symm.trans hf) |>.symm
      obtain rfl : fn = Tryd.f4 := (Option.some.inj (Tryd.func4.symm.trans hfn)).symm
      exact ⟨looks, fun j t ht => by
        rw [Tryd.params4] at ht
        have hm : t ∈ [37, 37, 37] := by simpa using Array.mem_of_getElem? ht
        exact (show Tryd.prog.wantsStandIn t = false by simpa using List.all_eq_true.1 standIn t hm)⟩)
    goes
#print axioms card_holds
end Go.Proofs.YtgppggdnldiecaaDoor.PqOrder
