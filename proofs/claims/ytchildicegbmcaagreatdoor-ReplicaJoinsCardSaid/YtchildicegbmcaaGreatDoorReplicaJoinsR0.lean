/- Written by a program of this claim's (a symbolic run): the cases of the law's arguments, and the run of each. No condition but the arguments' kinds. -/
import Derived.Test.YtchildicegbmcaaGreatDoorCom
set_option linter.unusedVariables false
set_option linter.unusedSimpArgs false
set_option maxRecDepth 100000
namespace Go.Proofs.YtchildicegbmcaaGreatDoor.ReplicaJoinsB0
open Go.Abs Go.RowKit
def byteSyms : List Nat := [0, 1, 2, 5, 9, 11]
def val (aa bb : Int) : Nat → Int
  | 0 => aa
  | 1 => bb
  | 2 => (aa % 20)
  | 3 => (aa % 20)
  | 4 => (((aa % 20) + 1) % 4294967296)
  | 5 => (bb % 20)
  | 6 => (bb % 20)
  | 7 => (((bb % 20) + 1) % 4294967296)
  | 8 => ((((bb % 20) + 1) % 4294967296) % 4)
  | 9 => (((((bb % 20) + 1) % 4294967296) % 4) % 256)
  | 10 => ((((aa % 20) + 1) % 4294967296) % 4)
  | 11 => (((((aa % 20) + 1) % 4294967296) % 4) % 256)
  | _ => 0
def sg (aa bb : Int) : Val := ⟨val aa bb, fun _ _ => none⟩
theorem bytes_ok (aa bb : Int) (haa : 0 ≤ aa ∧ aa < 256) (hbb : 0 ≤ bb ∧ bb < 256) : ∀ s ∈ byteSyms, 0 ≤ (sg aa bb).num s ∧ (sg aa bb).num s < 256 :=
  all_cons (by simp only [sg, val]; omega) (all_cons (by simp only [sg, val]; omega) (all_cons (by simp only [sg, val]; omega) (all_cons (by simp only [sg, val]; omega) (all_cons (by simp only [sg, val]; omega) (all_cons (by simp only [sg, val]; omega) (all_nil))))))
def F0 : Fact := ⟨.rem, .sym .u8 0, .int .u8 20, .sym .u8 2⟩
def F1 : FConv := ⟨.u32, .sym .u8 2, .sym .u32 3⟩
def F2 : Fact := ⟨.add, .sym .u32 3, .int .u32 1, .sym .u32 4⟩
def F3 : Fact := ⟨.rem, .sym .u8 1, .int .u8 20, .sym .u8 5⟩
def F4 : FConv := ⟨.u32, .sym .u8 5, .sym .u32 6⟩
def F5 : Fact := ⟨.add, .sym .u32 6, .int .u32 1, .sym .u32 7⟩
def F6 : Fact := ⟨.rem, .sym .u32 7, .int .u32 4, .sym .u32 8⟩
def F7 : FConv := ⟨.u8, .sym .u32 8, .sym .u8 9⟩
def F8 : Fact := ⟨.rem, .sym .u32 4, .int .u32 4, .sym .u32 10⟩
def F9 : FConv := ⟨.u8, .sym .u32 10, .sym .u8 11⟩
def F10 : Fact := ⟨.neq, .sym .u32 7, .sym .u32 7, .bool false⟩
def F11 : Fact := ⟨.eql, .int .u32 0, .sym .u32 7, .bool false⟩
def F12 : Fact := ⟨.gtr, .sym .u32 7, .int .u32 0, .bool true⟩
def F13 : Fact := ⟨.eql, .sym .u32 4, .sym .u32 7, .bool false⟩
def F14 : Fact := ⟨.eql, .sym .u8 9, .int .u8 3, .bool true⟩
def F15 : Fact := ⟨.lss, .int .u32 0, .sym .u32 7, .bool true⟩
def F16 : Fact := ⟨.lss, .int .u32 1048576, .sym .u32 7, .bool false⟩
def F17 : Fact := ⟨.lss, .sym .u32 7, .sym .u32 4, .bool true⟩
def F18 : Fact := ⟨.leq, .sym .u32 7, .int .u32 0, .bool false⟩
def F19 : Fact := ⟨.geq, .int .u32 0, .sym .u32 7, .bool false⟩
def F20 : Fact := ⟨.eql, .sym .u32 7, .sym .u32 7, .bool true⟩
def F21 : Fact := ⟨.leq, .sym .u32 7, .int .u32 1048576, .bool true⟩
def F22 : Fact := ⟨.geq, .sym .u32 7, .int .u32 1, .bool true⟩
def F23 : Fact := ⟨.leq, .sym .u32 4, .int .u32 0, .bool false⟩
def F24 : Fact := ⟨.geq, .int .u32 0, .sym .u32 4, .bool false⟩
def F25 : Fact := ⟨.eql, .sym .u32 4, .sym .u32 4, .bool true⟩
def F26 : Fact := ⟨.leq, .sym .u32 4, .int .u32 1048576, .bool true⟩
def F27 : Fact := ⟨.geq, .sym .u32 4, .int .u32 1, .bool true⟩
def F28 : Fact := ⟨.eql, .sym .u8 9, .int .u8 3, .bool false⟩
def F29 : Fact := ⟨.eql, .sym .u32 10, .int .u32 3, .bool true⟩
def F30 : Fact := ⟨.eql, .sym .u32 4, .sym .u32 7, .bool true⟩
def F31 : Fact := ⟨.leq, .int .u32 0, .sym .u32 4, .bool true⟩
def F32 : Fact := ⟨.leq, .sym .u32 7, .sym .u32 4, .bool true⟩
def F33 : Fact := ⟨.leq, .sym .u32 4, .sym .u32 4, .bool true⟩
def F34 : Fact := ⟨.neq, .sym .u32 7, .sym .u32 4, .bool false⟩
def F35 : Fact := ⟨.neq, .sym .u32 4, .sym .u32 4, .bool false⟩
def F36 : Fact := ⟨.eql, .int .u32 0, .sym .u32 4, .bool false⟩
def F37 : Fact := ⟨.eql, .sym .u32 7, .sym .u32 4, .bool true⟩
def F38 : Fact := ⟨.gtr, .sym .u32 4, .int .u32 0, .bool true⟩
def F39 : Fact := ⟨.eql, .sym .u8 11, .int .u8 3, .bool true⟩
def F40 : Fact := ⟨.lss, .int .u32 0, .sym .u32 4, .bool true⟩
def F41 : Fact := ⟨.lss, .int .u32 1048576, .sym .u32 4, .bool false⟩
def F42 : Fact := ⟨.lss, .sym .u32 7, .sym .u32 4, .bool false⟩
def F43 : Fact := ⟨.eql, .sym .u32 7, .sym .u32 4, .bool false⟩
def F44 : Fact := ⟨.eql, .sym .u32 10, .int .u32 3, .bool false⟩
def F45 : Fact := ⟨.eql, .sym .u8 11, .int .u8 3, .bool false⟩
noncomputable def q0 : Kn := ⟨[F10, F11, F12, F13, F14, F6, F15, F16, F17, F18, F19, F20, F21, F22, F23, F24, F25, F26, F27, F5, F3, F2, F0], [F7, F4, F1], tabB byteSyms⟩
noncomputable def q1 : Kn := ⟨[F13, F10, F28, F6, F15, F16, F17, F18, F19, F20, F21, F22, F23, F24, F25, F26, F27, F5, F3, F2, F0], [F7, F4, F1], tabB byteSyms⟩
noncomputable def q2 : Kn := ⟨[F29, F30, F31, F32, F33, F34, F35, F36, F37, F38, F39, F8, F40, F41, F42, F18, F19, F20, F21, F22, F23, F24, F25, F26, F27, F5, F3, F2, F0], [F9, F4, F1], tabB byteSyms⟩
noncomputable def q3 : Kn := ⟨[F13, F35, F36, F43, F38, F39, F8, F40, F41, F42, F18, F19, F20, F21, F22, F23, F24, F25, F26, F27, F5, F3, F2, F0], [F9, F4, F1], tabB byteSyms⟩
noncomputable def q4 : Kn := ⟨[F44, F30, F35, F45, F8, F40, F41, F42, F18, F19, F20, F21, F22, F23, F24, F25, F26, F27, F5, F3, F2, F0], [F9, F4, F1], tabB byteSyms⟩
noncomputable def q5 : Kn := ⟨[F13, F35, F45, F8, F40, F41, F42, F18, F19, F20, F21, F22, F23, F24, F25, F26, F27, F5, F3, F2, F0], [F9, F4, F1], tabB byteSyms⟩
noncomputable def lot0 : List (Kn × List AV) := [(q0, [.sym .u8 0, .sym .u8 1]), (q1, [.sym .u8 0, .sym .u8 1]), (q2, [.sym .u8 0, .sym .u8 1])]
theorem ran0 : runAll cx 60 4 lot0 = true := by kernel_rfl
noncomputable def lot1 : List (Kn × List AV) := [(q3, [.sym .u8 0, .sym .u8 1]), (q4, [.sym .u8 0, .sym .u8 1]), (q5, [.sym .u8 0, .sym .u8 1])]
theorem ran1 : runAll cx 60 4 lot1 = true := by kernel_rfl
theorem leaf (aa bb : Int) (haa : 0 ≤ aa ∧ aa < 256) (hbb : 0 ≤ bb ∧ bb < 256) (w : World) {l : List (Kn × List AV)} (hl : runAll cx 60 4 l = true) (i : Nat) {q : Kn} {args : List AV} {A : List Value} (hp : l[i]? = some (q, args)) (hA : concs (noEnv (sg aa bb)) args = some A) (hb : q.bytes = tabB byteSyms) (hf : ∀ f ∈ q.facts, FactOK Tryz.prog (sg aa bb) f) (hc : ∀ f ∈ q.convs, FConvOK (sg aa bb) f) : Calls Tryz.prog 4 ⟨A⟩ w fun e w' => e = .returned (.bool true) ∧ Below w.heap.size w w' :=
  law_of_run (progOK_W asked hf hc (by rw [hb]; exact tabB_ok (bytes_ok aa bb haa hbb)) globs_nil sums_ok) hA (runAll_get hl i hp) w (fun _ _ _ h => by cases h)
set_option maxHeartbeats 100000000 in
theorem walk (aa bb : Int) (haa : 0 ≤ aa ∧ aa < 256) (hbb : 0 ≤ bb ∧ bb < 256) (w : World) : Calls Tryz.prog 4 ⟨[.int .u8 aa, .int .u8 bb]⟩ w fun e w' => e = .returned (.bool true) ∧ Below w.heap.size w w' := by
  have L := @leaf aa bb haa hbb w
  have d0 : FactOK Tryz.prog (sg aa bb) F0 := fact_num rfl rfl rfl (binI_rem (by simp only [sg, val]; omega) (by decide)) rfl
  have d1 : FConvOK (sg aa bb) F1 := conv_num rfl rfl (by simp only [sg, val, wrap_u8, wrap_u16, wrap_u32, wrap_u64]; omega)
  have d2 : FactOK Tryz.prog (sg aa bb) F2 := fact_num rfl rfl rfl rfl rfl
  have d3 : FactOK Tryz.prog (sg aa bb) F3 := fact_num rfl rfl rfl (binI_rem (by simp only [sg, val]; omega) (by decide)) rfl
  have d4 : FConvOK (sg aa bb) F4 := conv_num rfl rfl (by simp only [sg, val, wrap_u8, wrap_u16, wrap_u32, wrap_u64]; omega)
  have d5 : FactOK Tryz.prog (sg aa bb) F5 := fact_num rfl rfl rfl rfl rfl
  have d6 : FactOK Tryz.prog (sg aa bb) F6 := fact_num rfl rfl rfl (binI_rem (by simp only [sg, val]; omega) (by decide)) rfl
  have d7 : FConvOK (sg aa bb) F7 := conv_num rfl rfl rfl
  have d8 : FactOK Tryz.prog (sg aa bb) F8 := fact_num rfl rfl rfl (binI_rem (by simp only [sg, val]; omega) (by decide)) rfl
  have d9 : FConvOK (sg aa bb) F9 := conv_num rfl rfl rfl
  have c0 : (((aa % 20) + 1) % 4294967296) ≥ 1 := by omega
  have c1 : (((aa % 20) + 1) % 4294967296) ≤ 1048576 := by omega
  have c2 : ¬ 0 ≥ (((aa % 20) + 1) % 4294967296) := by omega
  have c3 : ¬ (((aa % 20) + 1) % 4294967296) ≤ 0 := by omega
  have c4 : (((bb % 20) + 1) % 4294967296) ≥ 1 := by omega
  have c5 : (((bb % 20) + 1) % 4294967296) ≤ 1048576 := by omega
  have c6 : ¬ 0 ≥ (((bb % 20) + 1) % 4294967296) := by omega
  have c7 : ¬ (((bb % 20) + 1) % 4294967296) ≤ 0 := by omega
  rcases (show ((((bb % 20) + 1) % 4294967296) < (((aa % 20) + 1) % 4294967296)) ∨ (¬ (((bb % 20) + 1) % 4294967296) < (((aa % 20) + 1) % 4294967296)) by omega) with c8 | c8
  · have c9 : ¬ 1048576 < (((bb % 20) + 1) % 4294967296) := by omega
    have c10 : 0 < (((bb % 20) + 1) % 4294967296) := by omega
    rcases (show ((((((bb % 20) + 1) % 4294967296) % 4) % 256) = 3) ∨ (¬ (((((bb % 20) + 1) % 4294967296) % 4) % 256) = 3) by omega) with c11 | c11
    · have c12 : ¬ (((aa % 20) + 1) % 4294967296) = (((bb % 20) + 1) % 4294967296) := by omega
      have c13 : (((bb % 20) + 1) % 4294967296) > 0 := by omega
      have c14 : ¬ 0 = (((bb % 20) + 1) % 4294967296) := by omega
      have c15 : (((bb % 20) + 1) % 4294967296) = (((bb % 20) + 1) % 4294967296) := by omega
      exact L ran0 0 (q := q0) rfl rfl rfl (all_cons (fact_neq_f rfl rfl c15) (all_cons (fact_ne rfl rfl c14) (all_cons (fact_gtr_t rfl rfl c13) (all_cons (fact_ne rfl rfl c12) (all_cons (fact_eq rfl rfl c11) (all_cons (d6) (all_cons (fact_lss_t rfl rfl c10) (all_cons (fact_lss_f rfl rfl c9) (all_cons (fact_lss_t rfl rfl c8) (all_cons (fact_leq_f rfl rfl c7) (all_cons (fact_geq_f rfl rfl c6) (all_cons (fact_eq rfl rfl rfl) (all_cons (fact_leq_t rfl rfl c5) (all_cons (fact_geq_t rfl rfl c4) (all_cons (fact_leq_f rfl rfl c3) (all_cons (fact_geq_f rfl rfl c2) (all_cons (fact_eq rfl rfl rfl) (all_cons (fact_leq_t rfl rfl c1) (all_cons (fact_geq_t rfl rfl c0) (all_cons (d5) (all_cons (d3) (all_cons (d2) (all_cons (d0) (all_nil)))))))))))))))))))))))) (all_cons (d7) (all_cons (d4) (all_cons (d1) (all_nil))))
    · have c12 : (((bb % 20) + 1) % 4294967296) = (((bb % 20) + 1) % 4294967296) := by omega
      have c13 : ¬ (((aa % 20) + 1) % 4294967296) = (((bb % 20) + 1) % 4294967296) := by omega
      exact L ran0 1 (q := q1) rfl rfl rfl (all_cons (fact_ne rfl rfl c13) (all_cons (fact_neq_f rfl rfl c12) (all_cons (fact_ne rfl rfl c11) (all_cons (d6) (all_cons (fact_lss_t rfl rfl c10) (all_cons (fact_lss_f rfl rfl c9) (all_cons (fact_lss_t rfl rfl c8) (all_cons (fact_leq_f rfl rfl c7) (all_cons (fact_geq_f rfl rfl c6) (all_cons (fact_eq rfl rfl rfl) (all_cons (fact_leq_t rfl rfl c5) (all_cons (fact_geq_t rfl rfl c4) (all_cons (fact_leq_f rfl rfl c3) (all_cons (fact_geq_f rfl rfl c2) (all_cons (fact_eq rfl rfl rfl) (all_cons (fact_leq_t rfl rfl c1) (all_cons (fact_geq_t rfl rfl c0) (all_cons (d5) (all_cons (d3) (all_cons (d2) (all_cons (d0) (all_nil)))))))))))))))))))))) (all_cons (d7) (all_cons (d4) (all_cons (d1) (all_nil))))
  · have c9 : ¬ 1048576 < (((aa % 20) + 1) % 4294967296) := by omega
    have c10 : 0 < (((aa % 20) + 1) % 4294967296) := by omega
    rcases (show ((((((aa % 20) + 1) % 4294967296) % 4) % 256) = 3) ∨ (¬ (((((aa % 20) + 1) % 4294967296) % 4) % 256) = 3) by omega) with c11 | c11
    · have c12 : (((aa % 20) + 1) % 4294967296) > 0 := by omega
      rcases (show ((((bb % 20) + 1) % 4294967296) = (((aa % 20) + 1) % 4294967296)) ∨ (¬ (((bb % 20) + 1) % 4294967296) = (((aa % 20) + 1) % 4294967296)) by omega) with c13 | c13
      · have c14 : ¬ 0 = (((aa % 20) + 1) % 4294967296) := by omega
        have c15 : (((aa % 20) + 1) % 4294967296) = (((aa % 20) + 1) % 4294967296) := by omega
        have c16 : (((bb % 20) + 1) % 4294967296) = (((aa % 20) + 1) % 4294967296) := by omega
        have c17 : (((aa % 20) + 1) % 4294967296) ≤ (((aa % 20) + 1) % 4294967296) := by omega
        have c18 : (((bb % 20) + 1) % 4294967296) ≤ (((aa % 20) + 1) % 4294967296) := by omega
        have c19 : 0 ≤ (((aa % 20) + 1) % 4294967296) := by omega
        have c20 : (((aa % 20) + 1) % 4294967296) = (((bb % 20) + 1) % 4294967296) := by omega
        have c21 : ((((aa % 20) + 1) % 4294967296) % 4) = 3 := by omega
        exact L ran0 2 (q := q2) rfl rfl rfl (all_cons (fact_eq rfl rfl c21) (all_cons (fact_eq rfl rfl c20) (all_cons (fact_leq_t rfl rfl c19) (all_cons (fact_leq_t rfl rfl c18) (all_cons (fact_leq_t rfl rfl c17) (all_cons (fact_neq_f rfl rfl c16) (all_cons (fact_neq_f rfl rfl c15) (all_cons (fact_ne rfl rfl c14) (all_cons (fact_eq rfl rfl c13) (all_cons (fact_gtr_t rfl rfl c12) (all_cons (fact_eq rfl rfl c11) (all_cons (d8) (all_cons (fact_lss_t rfl rfl c10) (all_cons (fact_lss_f rfl rfl c9) (all_cons (fact_lss_f rfl rfl c8) (all_cons (fact_leq_f rfl rfl c7) (all_cons (fact_geq_f rfl rfl c6) (all_cons (fact_eq rfl rfl rfl) (all_cons (fact_leq_t rfl rfl c5) (all_cons (fact_geq_t rfl rfl c4) (all_cons (fact_leq_f rfl rfl c3) (all_cons (fact_geq_f rfl rfl c2) (all_cons (fact_eq rfl rfl rfl) (all_cons (fact_leq_t rfl rfl c1) (all_cons (fact_geq_t rfl rfl c0) (all_cons (d5) (all_cons (d3) (all_cons (d2) (all_cons (d0) (all_nil)))))))))))))))))))))))))))))) (all_cons (d9) (all_cons (d4) (all_cons (d1) (all_nil))))
      · have c14 : ¬ 0 = (((aa % 20) + 1) % 4294967296) := by omega
        have c15 : (((aa % 20) + 1) % 4294967296) = (((aa % 20) + 1) % 4294967296) := by omega
        have c16 : ¬ (((aa % 20) + 1) % 4294967296) = (((bb % 20) + 1) % 4294967296) := by omega
        exact L ran1 0 (q := q3) rfl rfl rfl (all_cons (fact_ne rfl rfl c16) (all_cons (fact_neq_f rfl rfl c15) (all_cons (fact_ne rfl rfl c14) (all_cons (fact_ne rfl rfl c13) (all_cons (fact_gtr_t rfl rfl c12) (all_cons (fact_eq rfl rfl c11) (all_cons (d8) (all_cons (fact_lss_t rfl rfl c10) (all_cons (fact_lss_f rfl rfl c9) (all_cons (fact_lss_f rfl rfl c8) (all_cons (fact_leq_f rfl rfl c7) (all_cons (fact_geq_f rfl rfl c6) (all_cons (fact_eq rfl rfl rfl) (all_cons (fact_leq_t rfl rfl c5) (all_cons (fact_geq_t rfl rfl c4) (all_cons (fact_leq_f rfl rfl c3) (all_cons (fact_geq_f rfl rfl c2) (all_cons (fact_eq rfl rfl rfl) (all_cons (fact_leq_t rfl rfl c1) (all_cons (fact_geq_t rfl rfl c0) (all_cons (d5) (all_cons (d3) (all_cons (d2) (all_cons (d0) (all_nil))))))))))))))))))))))))) (all_cons (d9) (all_cons (d4) (all_cons (d1) (all_nil))))
    · have c12 : (((aa % 20) + 1) % 4294967296) = (((aa % 20) + 1) % 4294967296) := by omega
      rcases (show ((((aa % 20) + 1) % 4294967296) = (((bb % 20) + 1) % 4294967296)) ∨ (¬ (((aa % 20) + 1) % 4294967296) = (((bb % 20) + 1) % 4294967296)) by omega) with c13 | c13
      · have c14 : ¬ ((((aa % 20) + 1) % 4294967296) % 4) = 3 := by omega
        exact L ran1 1 (q := q4) rfl rfl rfl (all_cons (fact_ne rfl rfl c14) (all_cons (fact_eq rfl rfl c13) (all_cons (fact_neq_f rfl rfl c12) (all_cons (fact_ne rfl rfl c11) (all_cons (d8) (all_cons (fact_lss_t rfl rfl c10) (all_cons (fact_lss_f rfl rfl c9) (all_cons (fact_lss_f rfl rfl c8) (all_cons (fact_leq_f rfl rfl c7) (all_cons (fact_geq_f rfl rfl c6) (all_cons (fact_eq rfl rfl rfl) (all_cons (fact_leq_t rfl rfl c5) (all_cons (fact_geq_t rfl rfl c4) (all_cons (fact_leq_f rfl rfl c3) (all_cons (fact_geq_f rfl rfl c2) (all_cons (fact_eq rfl rfl rfl) (all_cons (fact_leq_t rfl rfl c1) (all_cons (fact_geq_t rfl rfl c0) (all_cons (d5) (all_cons (d3) (all_cons (d2) (all_cons (d0) (all_nil))))))))))))))))))))))) (all_cons (d9) (all_cons (d4) (all_cons (d1) (all_nil))))
      · exact L ran1 2 (q := q5) rfl rfl rfl (all_cons (fact_ne rfl rfl c13) (all_cons (fact_neq_f rfl rfl c12) (all_cons (fact_ne rfl rfl c11) (all_cons (d8) (all_cons (fact_lss_t rfl rfl c10) (all_cons (fact_lss_f rfl rfl c9) (all_cons (fact_lss_f rfl rfl c8) (all_cons (fact_leq_f rfl rfl c7) (all_cons (fact_geq_f rfl rfl c6) (all_cons (fact_eq rfl rfl rfl) (all_cons (fact_leq_t rfl rfl c5) (all_cons (fact_geq_t rfl rfl c4) (all_cons (fact_leq_f rfl rfl c3) (all_cons (fact_geq_f rfl rfl c2) (all_cons (fact_eq rfl rfl rfl) (all_cons (fact_leq_t rfl rfl c1) (all_cons (fact_geq_t rfl rfl c0) (all_cons (d5) (all_cons (d3) (all_cons (d2) (all_cons (d0) (all_nil)))))))))))))))))))))) (all_cons (d9) (all_cons (d4) (all_cons (d1) (all_nil))))
end Go.Proofs.YtchildicegbmcaaGreatDoor.ReplicaJoinsB0
