/- Written by a program of this claim's (a symbolic run): the cases of the law's arguments, and the run of each. No condition but the arguments' kinds. -/
import Derived.Test.YtgcifbpdedlfoaaGreatDoorCom
set_option linter.unusedVariables false
set_option linter.unusedSimpArgs false
set_option maxRecDepth 100000
namespace Go.Proofs.YtgcifbpdedlfoaaGreatDoor.ReplicaAgainB0
open Go.Abs Go.RowKit
def byteSyms : List Nat := [0, 5]
def val (times_ ts : Int) : Nat → Int
  | 0 => times_
  | 1 => ts
  | 2 => (ts % 1000)
  | 3 => (((ts % 1000) + 2) % 4294967296)
  | 4 => ((((ts % 1000) + 2) % 4294967296) % 65536)
  | 5 => (times_ % 6)
  | 6 => (times_ % 6)
  | 7 => (((((ts % 1000) + 2) % 4294967296) - 1) % 4294967296)
  | 8 => ((((((ts % 1000) + 2) % 4294967296) - 1) % 4294967296) % 65536)
  | _ => 0
def sg (times_ ts : Int) : Val := ⟨val times_ ts, fun _ _ => none⟩
theorem bytes_ok (times_ ts : Int) (htimes_ : 0 ≤ times_ ∧ times_ < 256) (hts : 0 ≤ ts ∧ ts < 4294967296) : ∀ s ∈ byteSyms, 0 ≤ (sg times_ ts).num s ∧ (sg times_ ts).num s < 256 :=
  all_cons (by simp only [sg, val]; omega) (all_cons (by simp only [sg, val]; omega) (all_nil))
def F0 : Fact := ⟨.rem, .sym .u32 1, .int .u32 1000, .sym .u32 2⟩
def F1 : Fact := ⟨.add, .sym .u32 2, .int .u32 2, .sym .u32 3⟩
def F2 : FConv := ⟨.u16, .sym .u32 3, .sym .u16 4⟩
def F3 : Fact := ⟨.rem, .sym .u8 0, .int .u8 6, .sym .u8 5⟩
def F4 : Fact := ⟨.sub, .sym .u32 3, .int .u32 1, .sym .u32 7⟩
def F5 : FConv := ⟨.u16, .sym .u32 7, .sym .u16 8⟩
def F6 : Fact := ⟨.eql, .sym .u32 3, .sym .u32 7, .bool false⟩
def F7 : Fact := ⟨.gtr, .sym .u32 7, .sym .u32 3, .bool false⟩
def F8 : Fact := ⟨.eql, .sym .u16 8, .sym .u16 8, .bool true⟩
def F9 : Fact := ⟨.eql, .sym .u32 7, .sym .u32 7, .bool true⟩
def F10 : Fact := ⟨.neq, .sym .u32 7, .int .u32 0, .bool true⟩
def F11 : Fact := ⟨.lss, .int .i64 5, .sym .i64 6, .bool false⟩
def F12 : Fact := ⟨.lss, .int .i64 4, .sym .i64 6, .bool true⟩
def F13 : Fact := ⟨.lss, .int .i64 3, .sym .i64 6, .bool true⟩
def F14 : Fact := ⟨.lss, .int .i64 2, .sym .i64 6, .bool true⟩
def F15 : Fact := ⟨.lss, .int .i64 1, .sym .i64 6, .bool true⟩
def F16 : Fact := ⟨.gtr, .sym .u32 3, .sym .u32 3, .bool false⟩
def F17 : Fact := ⟨.lss, .int .i64 0, .sym .i64 6, .bool true⟩
def F18 : Fact := ⟨.leq, .sym .u32 3, .sym .u32 3, .bool true⟩
def F19 : Fact := ⟨.eql, .sym .u32 3, .int .u32 0, .bool false⟩
def F20 : Fact := ⟨.gtr, .sym .u32 3, .int .u32 0, .bool true⟩
def F21 : Fact := ⟨.eql, .sym .u16 4, .sym .u16 4, .bool true⟩
def F22 : Fact := ⟨.eql, .sym .u32 3, .sym .u32 3, .bool true⟩
def F23 : Fact := ⟨.neq, .sym .u32 3, .int .u32 0, .bool true⟩
def F24 : FConv := ⟨.i64, .sym .u8 5, .sym .i64 6⟩
def F25 : Fact := ⟨.lss, .int .i64 4, .sym .i64 6, .bool false⟩
def F26 : Fact := ⟨.lss, .int .i64 3, .sym .i64 6, .bool false⟩
def F27 : Fact := ⟨.lss, .int .i64 2, .sym .i64 6, .bool false⟩
def F28 : Fact := ⟨.lss, .int .i64 1, .sym .i64 6, .bool false⟩
def F29 : Fact := ⟨.lss, .int .i64 0, .sym .i64 6, .bool false⟩
noncomputable def q0 : Kn := ⟨[F6, F7, F8, F9, F10, F4, F11, F12, F13, F14, F15, F16, F17, F3, F18, F19, F20, F21, F22, F23, F1, F0], [F5, F24, F2], tabB byteSyms⟩
noncomputable def q1 : Kn := ⟨[F6, F7, F8, F9, F10, F4, F25, F13, F14, F15, F16, F17, F3, F18, F19, F20, F21, F22, F23, F1, F0], [F5, F24, F2], tabB byteSyms⟩
noncomputable def q2 : Kn := ⟨[F6, F7, F8, F9, F10, F4, F26, F14, F15, F16, F17, F3, F18, F19, F20, F21, F22, F23, F1, F0], [F5, F24, F2], tabB byteSyms⟩
noncomputable def q3 : Kn := ⟨[F6, F7, F8, F9, F10, F4, F27, F15, F16, F17, F3, F18, F19, F20, F21, F22, F23, F1, F0], [F5, F24, F2], tabB byteSyms⟩
noncomputable def q4 : Kn := ⟨[F6, F7, F8, F9, F10, F4, F28, F16, F17, F3, F18, F19, F20, F21, F22, F23, F1, F0], [F5, F24, F2], tabB byteSyms⟩
noncomputable def q5 : Kn := ⟨[F6, F7, F8, F9, F10, F4, F29, F3, F18, F19, F20, F21, F22, F23, F1, F0], [F5, F24, F2], tabB byteSyms⟩
noncomputable def lot0 : List (Kn × List AV) := [(q0, [.sym .u8 0, .sym .u32 1]), (q1, [.sym .u8 0, .sym .u32 1])]
theorem ran0 : runAll cx 60 7 lot0 = true := by kernel_rfl
noncomputable def lot1 : List (Kn × List AV) := [(q2, [.sym .u8 0, .sym .u32 1]), (q3, [.sym .u8 0, .sym .u32 1])]
theorem ran1 : runAll cx 60 7 lot1 = true := by kernel_rfl
noncomputable def lot2 : List (Kn × List AV) := [(q4, [.sym .u8 0, .sym .u32 1]), (q5, [.sym .u8 0, .sym .u32 1])]
theorem ran2 : runAll cx 60 7 lot2 = true := by kernel_rfl
theorem leaf (times_ ts : Int) (htimes_ : 0 ≤ times_ ∧ times_ < 256) (hts : 0 ≤ ts ∧ ts < 4294967296) (w : World) {l : List (Kn × List AV)} (hl : runAll cx 60 7 l = true) (i : Nat) {q : Kn} {args : List AV} {A : List Value} (hp : l[i]? = some (q, args)) (hA : concs (noEnv (sg times_ ts)) args = some A) (hb : q.bytes = tabB byteSyms) (hf : ∀ f ∈ q.facts, FactOK Tryz.prog (sg times_ ts) f) (hc : ∀ f ∈ q.convs, FConvOK (sg times_ ts) f) : Calls Tryz.prog 7 ⟨A⟩ w fun e w' => e = .returned (.bool true) ∧ Below w.heap.size w w' :=
  law_of_run (progOK_W asked hf hc (by rw [hb]; exact tabB_ok (bytes_ok times_ ts htimes_ hts)) globs_nil sums_ok) hA (runAll_get hl i hp) w (fun _ _ _ h => by cases h)
set_option maxHeartbeats 100000000 in
theorem walk (times_ ts : Int) (htimes_ : 0 ≤ times_ ∧ times_ < 256) (hts : 0 ≤ ts ∧ ts < 4294967296) (w : World) : Calls Tryz.prog 7 ⟨[.int .u8 times_, .int .u32 ts]⟩ w fun e w' => e = .returned (.bool true) ∧ Below w.heap.size w w' := by
  have L := @leaf times_ ts htimes_ hts w
  have d0 : FactOK Tryz.prog (sg times_ ts) F0 := fact_num rfl rfl rfl (binI_rem (by simp only [sg, val]; omega) (by decide)) rfl
  have d1 : FactOK Tryz.prog (sg times_ ts) F1 := fact_num rfl rfl rfl rfl rfl
  have d2 : FConvOK (sg times_ ts) F2 := conv_num rfl rfl rfl
  have d3 : FactOK Tryz.prog (sg times_ ts) F3 := fact_num rfl rfl rfl (binI_rem (by simp only [sg, val]; omega) (by decide)) rfl
  have d4 : FactOK Tryz.prog (sg times_ ts) F4 := fact_num rfl rfl rfl rfl rfl
  have d5 : FConvOK (sg times_ ts) F5 := conv_num rfl rfl rfl
  have c0 : ¬ (((ts % 1000) + 2) % 4294967296) = 0 := by omega
  have c1 : (((ts % 1000) + 2) % 4294967296) > 0 := by omega
  have c2 : ¬ (((ts % 1000) + 2) % 4294967296) = 0 := by omega
  have c3 : (((ts % 1000) + 2) % 4294967296) ≤ (((ts % 1000) + 2) % 4294967296) := by omega
  rcases (show (0 < (times_ % 6)) ∨ (¬ 0 < (times_ % 6)) by omega) with c4 | c4
  · have c5 : ¬ (((ts % 1000) + 2) % 4294967296) > (((ts % 1000) + 2) % 4294967296) := by omega
    rcases (show (1 < (times_ % 6)) ∨ (¬ 1 < (times_ % 6)) by omega) with c6 | c6
    · rcases (show (2 < (times_ % 6)) ∨ (¬ 2 < (times_ % 6)) by omega) with c7 | c7
      · rcases (show (3 < (times_ % 6)) ∨ (¬ 3 < (times_ % 6)) by omega) with c8 | c8
        · rcases (show (4 < (times_ % 6)) ∨ (¬ 4 < (times_ % 6)) by omega) with c9 | c9
          · have c10 : ¬ 5 < (times_ % 6) := by omega
            have c11 : ¬ (((((ts % 1000) + 2) % 4294967296) - 1) % 4294967296) = 0 := by omega
            have c12 : ¬ (((((ts % 1000) + 2) % 4294967296) - 1) % 4294967296) > (((ts % 1000) + 2) % 4294967296) := by omega
            have c13 : ¬ (((ts % 1000) + 2) % 4294967296) = (((((ts % 1000) + 2) % 4294967296) - 1) % 4294967296) := by omega
            exact L ran0 0 (q := q0) rfl rfl rfl (all_cons (fact_ne rfl rfl c13) (all_cons (fact_gtr_f rfl rfl c12) (all_cons (fact_eq rfl rfl rfl) (all_cons (fact_eq rfl rfl rfl) (all_cons (fact_neq_t rfl rfl c11) (all_cons (d4) (all_cons (fact_lss_f rfl rfl c10) (all_cons (fact_lss_t rfl rfl c9) (all_cons (fact_lss_t rfl rfl c8) (all_cons (fact_lss_t rfl rfl c7) (all_cons (fact_lss_t rfl rfl c6) (all_cons (fact_gtr_f rfl rfl c5) (all_cons (fact_lss_t rfl rfl c4) (all_cons (d3) (all_cons (fact_leq_t rfl rfl c3) (all_cons (fact_ne rfl rfl c2) (all_cons (fact_gtr_t rfl rfl c1) (all_cons (fact_eq rfl rfl rfl) (all_cons (fact_eq rfl rfl rfl) (all_cons (fact_neq_t rfl rfl c0) (all_cons (d1) (all_cons (d0) (all_nil))))))))))))))))))))))) (all_cons (d5) (all_cons (conv_num rfl rfl (wrap_i64 (by simp only [sg, val]; omega) (by simp only [sg, val]; omega)).symm) (all_cons (d2) (all_nil))))
          · have c10 : ¬ (((((ts % 1000) + 2) % 4294967296) - 1) % 4294967296) = 0 := by omega
            have c11 : ¬ (((((ts % 1000) + 2) % 4294967296) - 1) % 4294967296) > (((ts % 1000) + 2) % 4294967296) := by omega
            have c12 : ¬ (((ts % 1000) + 2) % 4294967296) = (((((ts % 1000) + 2) % 4294967296) - 1) % 4294967296) := by omega
            exact L ran0 1 (q := q1) rfl rfl rfl (all_cons (fact_ne rfl rfl c12) (all_cons (fact_gtr_f rfl rfl c11) (all_cons (fact_eq rfl rfl rfl) (all_cons (fact_eq rfl rfl rfl) (all_cons (fact_neq_t rfl rfl c10) (all_cons (d4) (all_cons (fact_lss_f rfl rfl c9) (all_cons (fact_lss_t rfl rfl c8) (all_cons (fact_lss_t rfl rfl c7) (all_cons (fact_lss_t rfl rfl c6) (all_cons (fact_gtr_f rfl rfl c5) (all_cons (fact_lss_t rfl rfl c4) (all_cons (d3) (all_cons (fact_leq_t rfl rfl c3) (all_cons (fact_ne rfl rfl c2) (all_cons (fact_gtr_t rfl rfl c1) (all_cons (fact_eq rfl rfl rfl) (all_cons (fact_eq rfl rfl rfl) (all_cons (fact_neq_t rfl rfl c0) (all_cons (d1) (all_cons (d0) (all_nil)))))))))))))))))))))) (all_cons (d5) (all_cons (conv_num rfl rfl (wrap_i64 (by simp only [sg, val]; omega) (by simp only [sg, val]; omega)).symm) (all_cons (d2) (all_nil))))
        · have c9 : ¬ (((((ts % 1000) + 2) % 4294967296) - 1) % 4294967296) = 0 := by omega
          have c10 : ¬ (((((ts % 1000) + 2) % 4294967296) - 1) % 4294967296) > (((ts % 1000) + 2) % 4294967296) := by omega
          have c11 : ¬ (((ts % 1000) + 2) % 4294967296) = (((((ts % 1000) + 2) % 4294967296) - 1) % 4294967296) := by omega
          exact L ran1 0 (q := q2) rfl rfl rfl (all_cons (fact_ne rfl rfl c11) (all_cons (fact_gtr_f rfl rfl c10) (all_cons (fact_eq rfl rfl rfl) (all_cons (fact_eq rfl rfl rfl) (all_cons (fact_neq_t rfl rfl c9) (all_cons (d4) (all_cons (fact_lss_f rfl rfl c8) (all_cons (fact_lss_t rfl rfl c7) (all_cons (fact_lss_t rfl rfl c6) (all_cons (fact_gtr_f rfl rfl c5) (all_cons (fact_lss_t rfl rfl c4) (all_cons (d3) (all_cons (fact_leq_t rfl rfl c3) (all_cons (fact_ne rfl rfl c2) (all_cons (fact_gtr_t rfl rfl c1) (all_cons (fact_eq rfl rfl rfl) (all_cons (fact_eq rfl rfl rfl) (all_cons (fact_neq_t rfl rfl c0) (all_cons (d1) (all_cons (d0) (all_nil))))))))))))))))))))) (all_cons (d5) (all_cons (conv_num rfl rfl (wrap_i64 (by simp only [sg, val]; omega) (by simp only [sg, val]; omega)).symm) (all_cons (d2) (all_nil))))
      · have c8 : ¬ (((((ts % 1000) + 2) % 4294967296) - 1) % 4294967296) = 0 := by omega
        have c9 : ¬ (((((ts % 1000) + 2) % 4294967296) - 1) % 4294967296) > (((ts % 1000) + 2) % 4294967296) := by omega
        have c10 : ¬ (((ts % 1000) + 2) % 4294967296) = (((((ts % 1000) + 2) % 4294967296) - 1) % 4294967296) := by omega
        exact L ran1 1 (q := q3) rfl rfl rfl (all_cons (fact_ne rfl rfl c10) (all_cons (fact_gtr_f rfl rfl c9) (all_cons (fact_eq rfl rfl rfl) (all_cons (fact_eq rfl rfl rfl) (all_cons (fact_neq_t rfl rfl c8) (all_cons (d4) (all_cons (fact_lss_f rfl rfl c7) (all_cons (fact_lss_t rfl rfl c6) (all_cons (fact_gtr_f rfl rfl c5) (all_cons (fact_lss_t rfl rfl c4) (all_cons (d3) (all_cons (fact_leq_t rfl rfl c3) (all_cons (fact_ne rfl rfl c2) (all_cons (fact_gtr_t rfl rfl c1) (all_cons (fact_eq rfl rfl rfl) (all_cons (fact_eq rfl rfl rfl) (all_cons (fact_neq_t rfl rfl c0) (all_cons (d1) (all_cons (d0) (all_nil)))))))))))))))))))) (all_cons (d5) (all_cons (conv_num rfl rfl (wrap_i64 (by simp only [sg, val]; omega) (by simp only [sg, val]; omega)).symm) (all_cons (d2) (all_nil))))
    · have c7 : ¬ (((((ts % 1000) + 2) % 4294967296) - 1) % 4294967296) = 0 := by omega
      have c8 : ¬ (((((ts % 1000) + 2) % 4294967296) - 1) % 4294967296) > (((ts % 1000) + 2) % 4294967296) := by omega
      have c9 : ¬ (((ts % 1000) + 2) % 4294967296) = (((((ts % 1000) + 2) % 4294967296) - 1) % 4294967296) := by omega
      exact L ran2 0 (q := q4) rfl rfl rfl (all_cons (fact_ne rfl rfl c9) (all_cons (fact_gtr_f rfl rfl c8) (all_cons (fact_eq rfl rfl rfl) (all_cons (fact_eq rfl rfl rfl) (all_cons (fact_neq_t rfl rfl c7) (all_cons (d4) (all_cons (fact_lss_f rfl rfl c6) (all_cons (fact_gtr_f rfl rfl c5) (all_cons (fact_lss_t rfl rfl c4) (all_cons (d3) (all_cons (fact_leq_t rfl rfl c3) (all_cons (fact_ne rfl rfl c2) (all_cons (fact_gtr_t rfl rfl c1) (all_cons (fact_eq rfl rfl rfl) (all_cons (fact_eq rfl rfl rfl) (all_cons (fact_neq_t rfl rfl c0) (all_cons (d1) (all_cons (d0) (all_nil))))))))))))))))))) (all_cons (d5) (all_cons (conv_num rfl rfl (wrap_i64 (by simp only [sg, val]; omega) (by simp only [sg, val]; omega)).symm) (all_cons (d2) (all_nil))))
  · have c5 : ¬ (((((ts % 1000) + 2) % 4294967296) - 1) % 4294967296) = 0 := by omega
    have c6 : ¬ (((((ts % 1000) + 2) % 4294967296) - 1) % 4294967296) > (((ts % 1000) + 2) % 4294967296) := by omega
    have c7 : ¬ (((ts % 1000) + 2) % 4294967296) = (((((ts % 1000) + 2) % 4294967296) - 1) % 4294967296) := by omega
    exact L ran2 1 (q := q5) rfl rfl rfl (all_cons (fact_ne rfl rfl c7) (all_cons (fact_gtr_f rfl rfl c6) (all_cons (fact_eq rfl rfl rfl) (all_cons (fact_eq rfl rfl rfl) (all_cons (fact_neq_t rfl rfl c5) (all_cons (d4) (all_cons (fact_lss_f rfl rfl c4) (all_cons (d3) (all_cons (fact_leq_t rfl rfl c3) (all_cons (fact_ne rfl rfl c2) (all_cons (fact_gtr_t rfl rfl c1) (all_cons (fact_eq rfl rfl rfl) (all_cons (fact_eq rfl rfl rfl) (all_cons (fact_neq_t rfl rfl c0) (all_cons (d1) (all_cons (d0) (all_nil))))))))))))))))) (all_cons (d5) (all_cons (conv_num rfl rfl (wrap_i64 (by simp only [sg, val]; omega) (by simp only [sg, val]; omega)).symm) (all_cons (d2) (all_nil))))
end Go.Proofs.YtgcifbpdedlfoaaGreatDoor.ReplicaAgainB0
