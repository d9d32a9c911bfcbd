/- Written by a program of this claim's (a symbolic run): the cases of the law's arguments, and the run of each. No condition but the arguments' kinds. -/
import Derived.Test.YtchildicegbmcaaGreatDoorCom
set_option linter.unusedVariables false
set_option linter.unusedSimpArgs false
set_option maxRecDepth 100000
namespace Go.Proofs.YtchildicegbmcaaGreatDoor.ReplicaPreparesB1
open Go.Abs Go.RowKit
def byteSyms : List Nat := [1, 2, 5, 6, 9]
def val (seq from_ view : Int) : Nat → Int
  | 0 => seq
  | 1 => from_
  | 2 => view
  | 3 => (seq % 12)
  | 4 => (((seq % 12) + 1) % 4294967296)
  | 5 => (from_ % 3)
  | 6 => (view % 2)
  | 7 => (view % 2)
  | 8 => ((view % 2) % 4)
  | 9 => (((view % 2) % 4) % 256)
  | 10 => (((((seq % 12) + 1) % 4294967296) - 0) % 4294967296)
  | 11 => (((view % 2) % 4) % 256)
  | _ => 0
def sg (seq from_ view : Int) : Val := ⟨val seq from_ view, fun _ _ => none⟩
theorem bytes_ok (seq from_ view : Int) (hseq : 0 ≤ seq ∧ seq < 4294967296) (hfrom_ : 0 ≤ from_ ∧ from_ < 256) (hview : 0 ≤ view ∧ view < 256) : ∀ s ∈ byteSyms, 0 ≤ (sg seq from_ view).num s ∧ (sg seq from_ view).num s < 256 :=
  all_cons (by simp only [sg, val]; omega) (all_cons (by simp only [sg, val]; omega) (all_cons (by simp only [sg, val]; omega) (all_cons (by simp only [sg, val]; omega) (all_cons (by simp only [sg, val]; omega) (all_nil)))))
def F0 : Fact := ⟨.rem, .sym .u32 0, .int .u32 12, .sym .u32 3⟩
def F1 : Fact := ⟨.add, .sym .u32 3, .int .u32 1, .sym .u32 4⟩
def F2 : Fact := ⟨.rem, .sym .u8 2, .int .u8 2, .sym .u8 6⟩
def F3 : FConv := ⟨.u32, .sym .u8 6, .sym .u32 7⟩
def F4 : Fact := ⟨.rem, .sym .u32 7, .int .u32 4, .sym .u32 8⟩
def F5 : FConv := ⟨.u8, .sym .u32 8, .sym .u8 9⟩
def F6 : Fact := ⟨.sub, .sym .u32 4, .int .u32 0, .sym .u32 10⟩
def F7 : Fact := ⟨.neq, .sym .u32 7, .int .u32 0, .bool true⟩
def F8 : Fact := ⟨.eql, .sym .u32 4, .sym .u32 4, .bool true⟩
def F9 : Fact := ⟨.eql, .sym .u32 7, .sym .u32 7, .bool true⟩
def F10 : Fact := ⟨.geq, .sym .u32 4, .int .u32 1, .bool true⟩
def F11 : Fact := ⟨.leq, .sym .u32 7, .int .u32 1048576, .bool true⟩
def F12 : Fact := ⟨.leq, .sym .u32 4, .int .u32 1073741824, .bool true⟩
def F13 : Fact := ⟨.rem, .sym .u8 1, .int .u8 3, .int .u8 0⟩
def F14 : Fact := ⟨.eql, .sym .u32 7, .int .u32 0, .bool true⟩
def F15 : Fact := ⟨.neq, .sym .u32 4, .sym .u32 4, .bool false⟩
def F16 : Fact := ⟨.gtr, .sym .u32 4, .int .u32 8, .bool false⟩
def F17 : Fact := ⟨.eql, .int .u32 1, .sym .u32 4, .bool true⟩
def F18 : Fact := ⟨.neq, .int .i64 3, .sym .i64 11, .bool true⟩
def F19 : Fact := ⟨.lss, .int .u32 0, .sym .u32 7, .bool false⟩
def F20 : Fact := ⟨.eql, .sym .u32 4, .int .u32 0, .bool false⟩
def F21 : Fact := ⟨.leq, .sym .u32 10, .int .u32 8, .bool true⟩
def F22 : Fact := ⟨.gtr, .sym .u32 4, .int .u32 0, .bool true⟩
def F23 : Fact := ⟨.neq, .int .u8 0, .sym .u8 9, .bool false⟩
def F24 : Fact := ⟨.neq, .sym .u32 7, .int .u32 0, .bool false⟩
def F25 : FConv := ⟨.i64, .sym .u8 9, .sym .i64 11⟩
def F26 : Fact := ⟨.eql, .int .u32 1, .sym .u32 4, .bool false⟩
def F27 : Fact := ⟨.gtr, .sym .u32 4, .int .u32 8, .bool true⟩
def F28 : Fact := ⟨.leq, .sym .u32 10, .int .u32 8, .bool false⟩
def F29 : Fact := ⟨.rem, .sym .u8 1, .int .u8 3, .int .u8 1⟩
def F30 : Fact := ⟨.neq, .int .u8 1, .sym .u8 9, .bool true⟩
def F31 : Fact := ⟨.rem, .sym .u8 1, .int .u8 3, .int .u8 2⟩
def F32 : Fact := ⟨.neq, .int .u8 2, .sym .u8 9, .bool true⟩
noncomputable def q0 : Kn := ⟨[F7, F8, F9, F10, F11, F12, F2, F13, F1, F0], [F3], tabB byteSyms⟩
noncomputable def q1 : Kn := ⟨[F14, F15, F16, F17, F18, F19, F20, F21, F6, F22, F23, F4, F24, F8, F9, F10, F11, F12, F2, F13, F1, F0], [F25, F5, F3], tabB byteSyms⟩
noncomputable def q2 : Kn := ⟨[F14, F15, F16, F26, F18, F19, F20, F21, F6, F22, F23, F4, F24, F8, F9, F10, F11, F12, F2, F13, F1, F0], [F25, F5, F3], tabB byteSyms⟩
noncomputable def q3 : Kn := ⟨[F27, F28, F6, F22, F23, F4, F24, F8, F9, F10, F11, F12, F2, F13, F1, F0], [F5, F3], tabB byteSyms⟩
noncomputable def q4 : Kn := ⟨[F7, F8, F9, F10, F11, F12, F2, F29, F1, F0], [F3], tabB byteSyms⟩
noncomputable def q5 : Kn := ⟨[F30, F4, F24, F8, F9, F10, F11, F12, F2, F29, F1, F0], [F5, F3], tabB byteSyms⟩
noncomputable def q6 : Kn := ⟨[F7, F8, F9, F10, F11, F12, F2, F31, F1, F0], [F3], tabB byteSyms⟩
noncomputable def q7 : Kn := ⟨[F32, F4, F24, F8, F9, F10, F11, F12, F2, F31, F1, F0], [F5, F3], tabB byteSyms⟩
noncomputable def lot0 : List (Kn × List AV) := [(q0, [.sym .u32 0, .sym .u8 1, .sym .u8 2, .bool true]), (q1, [.sym .u32 0, .sym .u8 1, .sym .u8 2, .bool true]), (q2, [.sym .u32 0, .sym .u8 1, .sym .u8 2, .bool true]), (q3, [.sym .u32 0, .sym .u8 1, .sym .u8 2, .bool true]), (q4, [.sym .u32 0, .sym .u8 1, .sym .u8 2, .bool true]), (q5, [.sym .u32 0, .sym .u8 1, .sym .u8 2, .bool true]), (q6, [.sym .u32 0, .sym .u8 1, .sym .u8 2, .bool true])]
theorem ran0 : runAll cx 60 3 lot0 = true := by kernel_rfl
noncomputable def lot1 : List (Kn × List AV) := [(q7, [.sym .u32 0, .sym .u8 1, .sym .u8 2, .bool true])]
theorem ran1 : runAll cx 60 3 lot1 = true := by kernel_rfl
theorem leaf (seq from_ view : Int) (hseq : 0 ≤ seq ∧ seq < 4294967296) (hfrom_ : 0 ≤ from_ ∧ from_ < 256) (hview : 0 ≤ view ∧ view < 256) (w : World) {l : List (Kn × List AV)} (hl : runAll cx 60 3 l = true) (i : Nat) {q : Kn} {args : List AV} {A : List Value} (hp : l[i]? = some (q, args)) (hA : concs (noEnv (sg seq from_ view)) args = some A) (hb : q.bytes = tabB byteSyms) (hf : ∀ f ∈ q.facts, FactOK Tryz.prog (sg seq from_ view) f) (hc : ∀ f ∈ q.convs, FConvOK (sg seq from_ view) f) : Calls Tryz.prog 3 ⟨A⟩ w fun e w' => e = .returned (.bool true) ∧ Below w.heap.size w w' :=
  law_of_run (progOK_W asked hf hc (by rw [hb]; exact tabB_ok (bytes_ok seq from_ view hseq hfrom_ hview)) globs_nil sums_ok) hA (runAll_get hl i hp) w (fun _ _ _ h => by cases h)
set_option maxHeartbeats 100000000 in
theorem walk (seq from_ view : Int) (hseq : 0 ≤ seq ∧ seq < 4294967296) (hfrom_ : 0 ≤ from_ ∧ from_ < 256) (hview : 0 ≤ view ∧ view < 256) (w : World) : Calls Tryz.prog 3 ⟨[.int .u32 seq, .int .u8 from_, .int .u8 view, .bool true]⟩ w fun e w' => e = .returned (.bool true) ∧ Below w.heap.size w w' := by
  have L := @leaf seq from_ view hseq hfrom_ hview w
  have d0 : FactOK Tryz.prog (sg seq from_ view) F0 := fact_num rfl rfl rfl (binI_rem (by simp only [sg, val]; omega) (by decide)) rfl
  have d1 : FactOK Tryz.prog (sg seq from_ view) F1 := fact_num rfl rfl rfl rfl rfl
  have d2 : FactOK Tryz.prog (sg seq from_ view) F2 := fact_num rfl rfl rfl (binI_rem (by simp only [sg, val]; omega) (by decide)) rfl
  have d3 : FConvOK (sg seq from_ view) F3 := conv_num rfl rfl (by simp only [sg, val, wrap_u8, wrap_u16, wrap_u32, wrap_u64]; omega)
  have d4 : FactOK Tryz.prog (sg seq from_ view) F4 := fact_num rfl rfl rfl (binI_rem (by simp only [sg, val]; omega) (by decide)) rfl
  have d5 : FConvOK (sg seq from_ view) F5 := conv_num rfl rfl rfl
  have d6 : FactOK Tryz.prog (sg seq from_ view) F6 := fact_num rfl rfl rfl rfl rfl
  rcases (show (from_ % 3) = 0 ∨ (from_ % 3) = 1 ∨ (from_ % 3) = 2 by omega) with c0 | c0 | c0
  · have c1 : (((seq % 12) + 1) % 4294967296) ≤ 1073741824 := by omega
    have c2 : (view % 2) ≤ 1048576 := by omega
    have c3 : (((seq % 12) + 1) % 4294967296) ≥ 1 := by omega
    rcases (show (¬ (view % 2) = 0) ∨ ((view % 2) = 0) by omega) with c4 | c4
    · exact L ran0 0 (q := q0) rfl rfl rfl (all_cons (fact_neq_t rfl rfl c4) (all_cons (fact_eq rfl rfl rfl) (all_cons (fact_eq rfl rfl rfl) (all_cons (fact_geq_t rfl rfl c3) (all_cons (fact_leq_t rfl rfl c2) (all_cons (fact_leq_t rfl rfl c1) (all_cons (d2) (all_cons (fact_num rfl rfl rfl (binI_rem (by simp only [sg, val]; omega) (by decide)) (by simp only [sg, val]; omega)) (all_cons (d1) (all_cons (d0) (all_nil))))))))))) (all_cons (d3) (all_nil))
    · have c5 : 0 = (((view % 2) % 4) % 256) := by omega
      have c6 : (((seq % 12) + 1) % 4294967296) > 0 := by omega
      rcases (show ((((((seq % 12) + 1) % 4294967296) - 0) % 4294967296) ≤ 8) ∨ (¬ (((((seq % 12) + 1) % 4294967296) - 0) % 4294967296) ≤ 8) by omega) with c7 | c7
      · have c8 : ¬ (((seq % 12) + 1) % 4294967296) = 0 := by omega
        have c9 : ¬ 0 < (view % 2) := by omega
        have c10 : ¬ 3 = (((view % 2) % 4) % 256) := by omega
        rcases (show (1 = (((seq % 12) + 1) % 4294967296)) ∨ (¬ 1 = (((seq % 12) + 1) % 4294967296)) by omega) with c11 | c11
        · have c12 : ¬ (((seq % 12) + 1) % 4294967296) > 8 := by omega
          have c13 : (((seq % 12) + 1) % 4294967296) = (((seq % 12) + 1) % 4294967296) := by omega
          have c14 : (view % 2) = 0 := by omega
          exact L ran0 1 (q := q1) rfl rfl rfl (all_cons (fact_eq rfl rfl c14) (all_cons (fact_neq_f rfl rfl c13) (all_cons (fact_gtr_f rfl rfl c12) (all_cons (fact_eq rfl rfl c11) (all_cons (fact_neq_t rfl rfl c10) (all_cons (fact_lss_f rfl rfl c9) (all_cons (fact_ne rfl rfl c8) (all_cons (fact_leq_t rfl rfl c7) (all_cons (d6) (all_cons (fact_gtr_t rfl rfl c6) (all_cons (fact_neq_f rfl rfl c5) (all_cons (d4) (all_cons (fact_neq_f rfl rfl c4) (all_cons (fact_eq rfl rfl rfl) (all_cons (fact_eq rfl rfl rfl) (all_cons (fact_geq_t rfl rfl c3) (all_cons (fact_leq_t rfl rfl c2) (all_cons (fact_leq_t rfl rfl c1) (all_cons (d2) (all_cons (fact_num rfl rfl rfl (binI_rem (by simp only [sg, val]; omega) (by decide)) (by simp only [sg, val]; omega)) (all_cons (d1) (all_cons (d0) (all_nil))))))))))))))))))))))) (all_cons (conv_num rfl rfl (wrap_i64 (by simp only [sg, val]; omega) (by simp only [sg, val]; omega)).symm) (all_cons (d5) (all_cons (d3) (all_nil))))
        · have c12 : ¬ (((seq % 12) + 1) % 4294967296) > 8 := by omega
          have c13 : (((seq % 12) + 1) % 4294967296) = (((seq % 12) + 1) % 4294967296) := by omega
          have c14 : (view % 2) = 0 := by omega
          exact L ran0 2 (q := q2) rfl rfl rfl (all_cons (fact_eq rfl rfl c14) (all_cons (fact_neq_f rfl rfl c13) (all_cons (fact_gtr_f rfl rfl c12) (all_cons (fact_ne rfl rfl c11) (all_cons (fact_neq_t rfl rfl c10) (all_cons (fact_lss_f rfl rfl c9) (all_cons (fact_ne rfl rfl c8) (all_cons (fact_leq_t rfl rfl c7) (all_cons (d6) (all_cons (fact_gtr_t rfl rfl c6) (all_cons (fact_neq_f rfl rfl c5) (all_cons (d4) (all_cons (fact_neq_f rfl rfl c4) (all_cons (fact_eq rfl rfl rfl) (all_cons (fact_eq rfl rfl rfl) (all_cons (fact_geq_t rfl rfl c3) (all_cons (fact_leq_t rfl rfl c2) (all_cons (fact_leq_t rfl rfl c1) (all_cons (d2) (all_cons (fact_num rfl rfl rfl (binI_rem (by simp only [sg, val]; omega) (by decide)) (by simp only [sg, val]; omega)) (all_cons (d1) (all_cons (d0) (all_nil))))))))))))))))))))))) (all_cons (conv_num rfl rfl (wrap_i64 (by simp only [sg, val]; omega) (by simp only [sg, val]; omega)).symm) (all_cons (d5) (all_cons (d3) (all_nil))))
      · have c8 : (((seq % 12) + 1) % 4294967296) > 8 := by omega
        exact L ran0 3 (q := q3) rfl rfl rfl (all_cons (fact_gtr_t rfl rfl c8) (all_cons (fact_leq_f rfl rfl c7) (all_cons (d6) (all_cons (fact_gtr_t rfl rfl c6) (all_cons (fact_neq_f rfl rfl c5) (all_cons (d4) (all_cons (fact_neq_f rfl rfl c4) (all_cons (fact_eq rfl rfl rfl) (all_cons (fact_eq rfl rfl rfl) (all_cons (fact_geq_t rfl rfl c3) (all_cons (fact_leq_t rfl rfl c2) (all_cons (fact_leq_t rfl rfl c1) (all_cons (d2) (all_cons (fact_num rfl rfl rfl (binI_rem (by simp only [sg, val]; omega) (by decide)) (by simp only [sg, val]; omega)) (all_cons (d1) (all_cons (d0) (all_nil))))))))))))))))) (all_cons (d5) (all_cons (d3) (all_nil)))
  · have c1 : (((seq % 12) + 1) % 4294967296) ≤ 1073741824 := by omega
    have c2 : (view % 2) ≤ 1048576 := by omega
    have c3 : (((seq % 12) + 1) % 4294967296) ≥ 1 := by omega
    rcases (show (¬ (view % 2) = 0) ∨ ((view % 2) = 0) by omega) with c4 | c4
    · exact L ran0 4 (q := q4) rfl rfl rfl (all_cons (fact_neq_t rfl rfl c4) (all_cons (fact_eq rfl rfl rfl) (all_cons (fact_eq rfl rfl rfl) (all_cons (fact_geq_t rfl rfl c3) (all_cons (fact_leq_t rfl rfl c2) (all_cons (fact_leq_t rfl rfl c1) (all_cons (d2) (all_cons (fact_num rfl rfl rfl (binI_rem (by simp only [sg, val]; omega) (by decide)) (by simp only [sg, val]; omega)) (all_cons (d1) (all_cons (d0) (all_nil))))))))))) (all_cons (d3) (all_nil))
    · have c5 : ¬ 1 = (((view % 2) % 4) % 256) := by omega
      exact L ran0 5 (q := q5) rfl rfl rfl (all_cons (fact_neq_t rfl rfl c5) (all_cons (d4) (all_cons (fact_neq_f rfl rfl c4) (all_cons (fact_eq rfl rfl rfl) (all_cons (fact_eq rfl rfl rfl) (all_cons (fact_geq_t rfl rfl c3) (all_cons (fact_leq_t rfl rfl c2) (all_cons (fact_leq_t rfl rfl c1) (all_cons (d2) (all_cons (fact_num rfl rfl rfl (binI_rem (by simp only [sg, val]; omega) (by decide)) (by simp only [sg, val]; omega)) (all_cons (d1) (all_cons (d0) (all_nil))))))))))))) (all_cons (d5) (all_cons (d3) (all_nil)))
  · have c1 : (((seq % 12) + 1) % 4294967296) ≤ 1073741824 := by omega
    have c2 : (view % 2) ≤ 1048576 := by omega
    have c3 : (((seq % 12) + 1) % 4294967296) ≥ 1 := by omega
    rcases (show (¬ (view % 2) = 0) ∨ ((view % 2) = 0) by omega) with c4 | c4
    · exact L ran0 6 (q := q6) rfl rfl rfl (all_cons (fact_neq_t rfl rfl c4) (all_cons (fact_eq rfl rfl rfl) (all_cons (fact_eq rfl rfl rfl) (all_cons (fact_geq_t rfl rfl c3) (all_cons (fact_leq_t rfl rfl c2) (all_cons (fact_leq_t rfl rfl c1) (all_cons (d2) (all_cons (fact_num rfl rfl rfl (binI_rem (by simp only [sg, val]; omega) (by decide)) (by simp only [sg, val]; omega)) (all_cons (d1) (all_cons (d0) (all_nil))))))))))) (all_cons (d3) (all_nil))
    · have c5 : ¬ 2 = (((view % 2) % 4) % 256) := by omega
      exact L ran1 0 (q := q7) rfl rfl rfl (all_cons (fact_neq_t rfl rfl c5) (all_cons (d4) (all_cons (fact_neq_f rfl rfl c4) (all_cons (fact_eq rfl rfl rfl) (all_cons (fact_eq rfl rfl rfl) (all_cons (fact_geq_t rfl rfl c3) (all_cons (fact_leq_t rfl rfl c2) (all_cons (fact_leq_t rfl rfl c1) (all_cons (d2) (all_cons (fact_num rfl rfl rfl (binI_rem (by simp only [sg, val]; omega) (by decide)) (by simp only [sg, val]; omega)) (all_cons (d1) (all_cons (d0) (all_nil))))))))))))) (all_cons (d5) (all_cons (d3) (all_nil)))
end Go.Proofs.YtchildicegbmcaaGreatDoor.ReplicaPreparesB1
