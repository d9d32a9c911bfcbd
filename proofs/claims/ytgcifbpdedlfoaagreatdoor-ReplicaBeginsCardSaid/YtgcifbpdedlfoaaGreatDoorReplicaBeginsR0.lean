/- Written by a program of this claim's (a symbolic run): the cases of the law's arguments. No condition but the arguments' kinds. -/
import Derived.Test.YtgcifbpdedlfoaaGreatDoorReplicaBeginsR0X0
import Derived.Test.YtgcifbpdedlfoaaGreatDoorReplicaBeginsR0X1
import Derived.Test.YtgcifbpdedlfoaaGreatDoorReplicaBeginsR0X2
import Derived.Test.YtgcifbpdedlfoaaGreatDoorReplicaBeginsR0X3
import Derived.Test.YtgcifbpdedlfoaaGreatDoorReplicaBeginsR0X4
set_option linter.unusedVariables false
set_option linter.unusedSimpArgs false
set_option maxRecDepth 100000
namespace Go.Proofs.YtgcifbpdedlfoaaGreatDoor.ReplicaBeginsB0
open Go.Abs Go.RowKit
theorem leaf (view first_ second_ qq : Int) (hview : 0 ≤ view ∧ view < 65536) (hfirst_ : 0 ≤ first_ ∧ first_ < 256) (hsecond_ : 0 ≤ second_ ∧ second_ < 256) (hqq : 0 ≤ qq ∧ qq < 256) (w : World) {l : List (Kn × List AV)} (hl : runAll cx 60 3 l = true) (i : Nat) {q : Kn} {args : List AV} {A : List Value} (hp : l[i]? = some (q, args)) (hA : concs (noEnv (sg view first_ second_ qq)) args = some A) (hb : q.bytes = tabB byteSyms) (hf : ∀ f ∈ q.facts, FactOK Tryz.prog (sg view first_ second_ qq) f) (hc : ∀ f ∈ q.convs, FConvOK (sg view first_ second_ qq) f) : Calls Tryz.prog 3 ⟨A⟩ w fun e w' => e = .returned (.bool true) ∧ Below w.heap.size w w' :=
  law_of_run (progOK_W asked hf hc (by rw [hb]; exact tabB_ok (bytes_ok view first_ second_ qq hview hfirst_ hsecond_ hqq)) globs_nil sums_ok) hA (runAll_get hl i hp) w (fun _ _ _ h => by cases h)
set_option maxHeartbeats 100000000 in
theorem walk (view first_ second_ qq : Int) (hview : 0 ≤ view ∧ view < 65536) (hfirst_ : 0 ≤ first_ ∧ first_ < 256) (hsecond_ : 0 ≤ second_ ∧ second_ < 256) (hqq : 0 ≤ qq ∧ qq < 256) (w : World) : Calls Tryz.prog 3 ⟨[.int .u16 view, .int .u8 first_, .int .u8 second_, .int .u8 qq]⟩ w fun e w' => e = .returned (.bool true) ∧ Below w.heap.size w w' := by
  have L := @leaf view first_ second_ qq hview hfirst_ hsecond_ hqq w
  have d0 : FConvOK (sg view first_ second_ qq) F0 := conv_num rfl rfl (by simp only [sg, val, wrap_u8, wrap_u16, wrap_u32, wrap_u64]; omega)
  have d1 : FactOK Tryz.prog (sg view first_ second_ qq) F1 := fact_num rfl rfl rfl rfl rfl
  have d2 : FactOK Tryz.prog (sg view first_ second_ qq) F2 := fact_num rfl rfl rfl (binI_rem (by simp only [sg, val]; omega) (by decide)) rfl
  have d3 : FactOK Tryz.prog (sg view first_ second_ qq) F3 := fact_num rfl rfl rfl (binI_rem (by simp only [sg, val]; omega) (by decide)) rfl
  have d4 : FactOK Tryz.prog (sg view first_ second_ qq) F4 := fact_num rfl rfl rfl rfl rfl
  have d5 : FactOK Tryz.prog (sg view first_ second_ qq) F5 := fact_num rfl rfl rfl (binI_rem (by simp only [sg, val]; omega) (by decide)) rfl
  have d6 : FactOK Tryz.prog (sg view first_ second_ qq) F6 := fact_num rfl rfl rfl rfl rfl
  have d7 : FactOK Tryz.prog (sg view first_ second_ qq) F7 := fact_num rfl rfl rfl (binI_rem (by simp only [sg, val]; omega) (by decide)) rfl
  have d8 : FactOK Tryz.prog (sg view first_ second_ qq) F8 := fact_num rfl rfl rfl rfl rfl
  have d9 : FactOK Tryz.prog (sg view first_ second_ qq) F9 := fact_num rfl rfl rfl rfl rfl
  have d10 : FactOK Tryz.prog (sg view first_ second_ qq) F10 := fact_num rfl rfl rfl rfl rfl
  have d11 : FactOK Tryz.prog (sg view first_ second_ qq) F11 := fact_num rfl rfl rfl rfl rfl
  have d12 : FactOK Tryz.prog (sg view first_ second_ qq) F12 := fact_num rfl rfl rfl rfl rfl
  have d13 : FactOK Tryz.prog (sg view first_ second_ qq) F13 := fact_num rfl rfl rfl rfl rfl
  rcases (show ((((view + 1) % 4294967296) % 4) % 256) = 0 ∨ ((((view + 1) % 4294967296) % 4) % 256) = 1 ∨ ((((view + 1) % 4294967296) % 4) % 256) = 2 ∨ ((((view + 1) % 4294967296) % 4) % 256) = 3 by omega) with c0 | c0 | c0 | c0
  · rcases (show (((1 + (first_ % 3)) % 256) % 4) = 1 ∨ (((1 + (first_ % 3)) % 256) % 4) = 2 ∨ (((1 + (first_ % 3)) % 256) % 4) = 3 by omega) with c1 | c1 | c1
    · rcases (show (((1 + (second_ % 3)) % 256) % 4) = 1 ∨ (((1 + (second_ % 3)) % 256) % 4) = 2 ∨ (((1 + (second_ % 3)) % 256) % 4) = 3 by omega) with c2 | c2 | c2
      · rcases (show ((qq % 2) = 0) ∨ (¬ (qq % 2) = 0) by omega) with c3 | c3
        · have c4 : ((view + 1) % 4294967296) ≥ 1 := by omega
          have c5 : ((view + 1) % 4294967296) ≤ 1048576 := by omega
          have c6 : ¬ 0 ≥ ((view + 1) % 4294967296) := by omega
          have c7 : ¬ ((view + 1) % 4294967296) ≤ 0 := by omega
          have c8 : ((view + 1) % 4294967296) ≥ ((view + 1) % 4294967296) := by omega
          exact L ran0 0 (q := q0) rfl rfl rfl (all_cons (fact_geq_t rfl rfl c8) (all_cons (fact_leq_f rfl rfl c7) (all_cons (fact_geq_f rfl rfl c6) (all_cons (fact_eq rfl rfl rfl) (all_cons (fact_leq_t rfl rfl c5) (all_cons (fact_geq_t rfl rfl c4) (all_cons (fact_eq rfl rfl c3) (all_cons (d7) (all_cons (fact_num rfl rfl rfl (binI_rem (by simp only [sg, val]; omega) (by decide)) (by simp only [sg, val]; omega)) (all_cons (d6) (all_cons (d5) (all_cons (fact_num rfl rfl rfl (binI_rem (by simp only [sg, val]; omega) (by decide)) (by simp only [sg, val]; omega)) (all_cons (d4) (all_cons (d3) (all_cons (d2) (all_cons (d1) (all_nil))))))))))))))))) (all_cons (conv_num rfl rfl (by simp only [sg, val, wrap_u8, wrap_u16, wrap_u32, wrap_u64]; first | rfl | omega | (rw [wrap_i64 (by omega) (by omega)]; omega))) (all_cons (d0) (all_nil)))
        · have c4 : ((view + 1) % 4294967296) ≥ 1 := by omega
          have c5 : ((view + 1) % 4294967296) ≤ 1048576 := by omega
          have c6 : ¬ 0 ≥ ((view + 1) % 4294967296) := by omega
          have c7 : ¬ ((view + 1) % 4294967296) ≤ 0 := by omega
          have c8 : ((view + 1) % 4294967296) ≥ ((view + 1) % 4294967296) := by omega
          exact L ran0 1 (q := q1) rfl rfl rfl (all_cons (fact_geq_t rfl rfl c8) (all_cons (fact_leq_f rfl rfl c7) (all_cons (fact_geq_f rfl rfl c6) (all_cons (fact_eq rfl rfl rfl) (all_cons (fact_leq_t rfl rfl c5) (all_cons (fact_geq_t rfl rfl c4) (all_cons (fact_ne rfl rfl c3) (all_cons (d7) (all_cons (fact_num rfl rfl rfl (binI_rem (by simp only [sg, val]; omega) (by decide)) (by simp only [sg, val]; omega)) (all_cons (d6) (all_cons (d5) (all_cons (fact_num rfl rfl rfl (binI_rem (by simp only [sg, val]; omega) (by decide)) (by simp only [sg, val]; omega)) (all_cons (d4) (all_cons (d3) (all_cons (d2) (all_cons (d1) (all_nil))))))))))))))))) (all_cons (conv_num rfl rfl (by simp only [sg, val, wrap_u8, wrap_u16, wrap_u32, wrap_u64]; first | rfl | omega | (rw [wrap_i64 (by omega) (by omega)]; omega))) (all_cons (d0) (all_nil)))
      · rcases (show ((qq % 2) = 0) ∨ (¬ (qq % 2) = 0) by omega) with c3 | c3
        · have c4 : ((view + 1) % 4294967296) ≥ 1 := by omega
          have c5 : ((view + 1) % 4294967296) ≤ 1048576 := by omega
          have c6 : ¬ 0 ≥ ((view + 1) % 4294967296) := by omega
          have c7 : ¬ ((view + 1) % 4294967296) ≤ 0 := by omega
          have c8 : ¬ ((view + 1) % 4294967296) < ((view + 1) % 4294967296) := by omega
          have c9 : ¬ 1048576 < ((view + 1) % 4294967296) := by omega
          have c10 : 0 < ((view + 1) % 4294967296) := by omega
          have c11 : ((view + 1) % 4294967296) > 0 := by omega
          have c12 : ¬ 0 = ((view + 1) % 4294967296) := by omega
          have c13 : ((view + 1) % 4294967296) = ((view + 1) % 4294967296) := by omega
          have c14 : ((view + 1) % 4294967296) ≤ ((view + 1) % 4294967296) := by omega
          have c15 : 0 ≤ ((view + 1) % 4294967296) := by omega
          have c16 : ¬ 0 > ((view + 1) % 4294967296) := by omega
          exact L ran0 2 (q := q2) rfl rfl rfl (all_cons (fact_gtr_f rfl rfl c16) (all_cons (fact_leq_t rfl rfl c15) (all_cons (fact_leq_t rfl rfl c14) (all_cons (fact_neq_f rfl rfl c13) (all_cons (fact_ne rfl rfl c12) (all_cons (fact_gtr_t rfl rfl c11) (all_cons (fact_lss_t rfl rfl c10) (all_cons (fact_lss_f rfl rfl c9) (all_cons (fact_lss_f rfl rfl c8) (all_cons (fact_leq_f rfl rfl c7) (all_cons (fact_geq_f rfl rfl c6) (all_cons (fact_eq rfl rfl rfl) (all_cons (fact_leq_t rfl rfl c5) (all_cons (fact_geq_t rfl rfl c4) (all_cons (fact_eq rfl rfl c3) (all_cons (d7) (all_cons (fact_num rfl rfl rfl (binI_rem (by simp only [sg, val]; omega) (by decide)) (by simp only [sg, val]; omega)) (all_cons (d6) (all_cons (d5) (all_cons (fact_num rfl rfl rfl (binI_rem (by simp only [sg, val]; omega) (by decide)) (by simp only [sg, val]; omega)) (all_cons (d4) (all_cons (d3) (all_cons (d2) (all_cons (d1) (all_nil))))))))))))))))))))))))) (all_cons (conv_num rfl rfl (by simp only [sg, val, wrap_u8, wrap_u16, wrap_u32, wrap_u64]; first | rfl | omega | (rw [wrap_i64 (by omega) (by omega)]; omega))) (all_cons (d0) (all_nil)))
        · have c4 : ((view + 1) % 4294967296) ≥ 1 := by omega
          have c5 : ((view + 1) % 4294967296) ≤ 1048576 := by omega
          have c6 : ¬ 0 ≥ ((view + 1) % 4294967296) := by omega
          have c7 : ¬ ((view + 1) % 4294967296) ≤ 0 := by omega
          have c8 : ¬ ((view + 1) % 4294967296) < ((view + 1) % 4294967296) := by omega
          have c9 : ¬ 1048576 < ((view + 1) % 4294967296) := by omega
          have c10 : 0 < ((view + 1) % 4294967296) := by omega
          have c11 : ((view + 1) % 4294967296) > 0 := by omega
          have c12 : ¬ 0 = ((view + 1) % 4294967296) := by omega
          have c13 : ((view + 1) % 4294967296) = ((view + 1) % 4294967296) := by omega
          have c14 : ((view + 1) % 4294967296) ≤ ((view + 1) % 4294967296) := by omega
          have c15 : 0 ≤ ((view + 1) % 4294967296) := by omega
          exact L ran1 0 (q := q3) rfl rfl rfl (all_cons (fact_leq_t rfl rfl c15) (all_cons (fact_leq_t rfl rfl c14) (all_cons (fact_neq_f rfl rfl c13) (all_cons (fact_ne rfl rfl c12) (all_cons (fact_gtr_t rfl rfl c11) (all_cons (fact_lss_t rfl rfl c10) (all_cons (fact_lss_f rfl rfl c9) (all_cons (fact_lss_f rfl rfl c8) (all_cons (fact_leq_f rfl rfl c7) (all_cons (fact_geq_f rfl rfl c6) (all_cons (fact_eq rfl rfl rfl) (all_cons (fact_leq_t rfl rfl c5) (all_cons (fact_geq_t rfl rfl c4) (all_cons (fact_ne rfl rfl c3) (all_cons (d7) (all_cons (fact_num rfl rfl rfl (binI_rem (by simp only [sg, val]; omega) (by decide)) (by simp only [sg, val]; omega)) (all_cons (d6) (all_cons (d5) (all_cons (fact_num rfl rfl rfl (binI_rem (by simp only [sg, val]; omega) (by decide)) (by simp only [sg, val]; omega)) (all_cons (d4) (all_cons (d3) (all_cons (d2) (all_cons (d1) (all_nil)))))))))))))))))))))))) (all_cons (conv_num rfl rfl (by simp only [sg, val, wrap_u8, wrap_u16, wrap_u32, wrap_u64]; first | rfl | omega | (rw [wrap_i64 (by omega) (by omega)]; omega))) (all_cons (d0) (all_nil)))
      · rcases (show ((qq % 2) = 0) ∨ (¬ (qq % 2) = 0) by omega) with c3 | c3
        · have c4 : ((view + 1) % 4294967296) ≥ 1 := by omega
          have c5 : ((view + 1) % 4294967296) ≤ 1048576 := by omega
          have c6 : ¬ 0 ≥ ((view + 1) % 4294967296) := by omega
          have c7 : ¬ ((view + 1) % 4294967296) ≤ 0 := by omega
          have c8 : ¬ ((view + 1) % 4294967296) < ((view + 1) % 4294967296) := by omega
          have c9 : ¬ 1048576 < ((view + 1) % 4294967296) := by omega
          have c10 : 0 < ((view + 1) % 4294967296) := by omega
          have c11 : ((view + 1) % 4294967296) > 0 := by omega
          have c12 : ¬ 0 = ((view + 1) % 4294967296) := by omega
          have c13 : ((view + 1) % 4294967296) = ((view + 1) % 4294967296) := by omega
          have c14 : ((view + 1) % 4294967296) ≤ ((view + 1) % 4294967296) := by omega
          have c15 : 0 ≤ ((view + 1) % 4294967296) := by omega
          have c16 : ¬ 0 > ((view + 1) % 4294967296) := by omega
          exact L ran1 1 (q := q4) rfl rfl rfl (all_cons (fact_gtr_f rfl rfl c16) (all_cons (fact_leq_t rfl rfl c15) (all_cons (fact_leq_t rfl rfl c14) (all_cons (fact_neq_f rfl rfl c13) (all_cons (fact_ne rfl rfl c12) (all_cons (fact_gtr_t rfl rfl c11) (all_cons (fact_lss_t rfl rfl c10) (all_cons (fact_lss_f rfl rfl c9) (all_cons (fact_lss_f rfl rfl c8) (all_cons (fact_leq_f rfl rfl c7) (all_cons (fact_geq_f rfl rfl c6) (all_cons (fact_eq rfl rfl rfl) (all_cons (fact_leq_t rfl rfl c5) (all_cons (fact_geq_t rfl rfl c4) (all_cons (fact_eq rfl rfl c3) (all_cons (d7) (all_cons (fact_num rfl rfl rfl (binI_rem (by simp only [sg, val]; omega) (by decide)) (by simp only [sg, val]; omega)) (all_cons (d6) (all_cons (d5) (all_cons (fact_num rfl rfl rfl (binI_rem (by simp only [sg, val]; omega) (by decide)) (by simp only [sg, val]; omega)) (all_cons (d4) (all_cons (d3) (all_cons (d2) (all_cons (d1) (all_nil))))))))))))))))))))))))) (all_cons (conv_num rfl rfl (by simp only [sg, val, wrap_u8, wrap_u16, wrap_u32, wrap_u64]; first | rfl | omega | (rw [wrap_i64 (by omega) (by omega)]; omega))) (all_cons (d0) (all_nil)))
        · have c4 : ((view + 1) % 4294967296) ≥ 1 := by omega
          have c5 : ((view + 1) % 4294967296) ≤ 1048576 := by omega
          have c6 : ¬ 0 ≥ ((view + 1) % 4294967296) := by omega
          have c7 : ¬ ((view + 1) % 4294967296) ≤ 0 := by omega
          have c8 : ¬ ((view + 1) % 4294967296) < ((view + 1) % 4294967296) := by omega
          have c9 : ¬ 1048576 < ((view + 1) % 4294967296) := by omega
          have c10 : 0 < ((view + 1) % 4294967296) := by omega
          have c11 : ((view + 1) % 4294967296) > 0 := by omega
          have c12 : ¬ 0 = ((view + 1) % 4294967296) := by omega
          have c13 : ((view + 1) % 4294967296) = ((view + 1) % 4294967296) := by omega
          have c14 : ((view + 1) % 4294967296) ≤ ((view + 1) % 4294967296) := by omega
          have c15 : 0 ≤ ((view + 1) % 4294967296) := by omega
          exact L ran2 0 (q := q5) rfl rfl rfl (all_cons (fact_leq_t rfl rfl c15) (all_cons (fact_leq_t rfl rfl c14) (all_cons (fact_neq_f rfl rfl c13) (all_cons (fact_ne rfl rfl c12) (all_cons (fact_gtr_t rfl rfl c11) (all_cons (fact_lss_t rfl rfl c10) (all_cons (fact_lss_f rfl rfl c9) (all_cons (fact_lss_f rfl rfl c8) (all_cons (fact_leq_f rfl rfl c7) (all_cons (fact_geq_f rfl rfl c6) (all_cons (fact_eq rfl rfl rfl) (all_cons (fact_leq_t rfl rfl c5) (all_cons (fact_geq_t rfl rfl c4) (all_cons (fact_ne rfl rfl c3) (all_cons (d7) (all_cons (fact_num rfl rfl rfl (binI_rem (by simp only [sg, val]; omega) (by decide)) (by simp only [sg, val]; omega)) (all_cons (d6) (all_cons (d5) (all_cons (fact_num rfl rfl rfl (binI_rem (by simp only [sg, val]; omega) (by decide)) (by simp only [sg, val]; omega)) (all_cons (d4) (all_cons (d3) (all_cons (d2) (all_cons (d1) (all_nil)))))))))))))))))))))))) (all_cons (conv_num rfl rfl (by simp only [sg, val, wrap_u8, wrap_u16, wrap_u32, wrap_u64]; first | rfl | omega | (rw [wrap_i64 (by omega) (by omega)]; omega))) (all_cons (d0) (all_nil)))
    · rcases (show (((1 + (second_ % 3)) % 256) % 4) = 1 ∨ (((1 + (second_ % 3)) % 256) % 4) = 2 ∨ (((1 + (second_ % 3)) % 256) % 4) = 3 by omega) with c2 | c2 | c2
      · rcases (show ((qq % 2) = 0) ∨ (¬ (qq % 2) = 0) by omega) with c3 | c3
        · have c4 : ((view + 1) % 4294967296) ≥ 1 := by omega
          have c5 : ((view + 1) % 4294967296) ≤ 1048576 := by omega
          have c6 : ¬ 0 ≥ ((view + 1) % 4294967296) := by omega
          have c7 : ¬ ((view + 1) % 4294967296) ≤ 0 := by omega
          have c8 : ¬ ((view + 1) % 4294967296) < ((view + 1) % 4294967296) := by omega
          have c9 : ¬ 1048576 < ((view + 1) % 4294967296) := by omega
          have c10 : 0 < ((view + 1) % 4294967296) := by omega
          have c11 : ((view + 1) % 4294967296) > 0 := by omega
          have c12 : ¬ 0 = ((view + 1) % 4294967296) := by omega
          have c13 : ((view + 1) % 4294967296) = ((view + 1) % 4294967296) := by omega
          have c14 : ((view + 1) % 4294967296) ≤ ((view + 1) % 4294967296) := by omega
          have c15 : 0 ≤ ((view + 1) % 4294967296) := by omega
          have c16 : ¬ 0 > ((view + 1) % 4294967296) := by omega
          exact L ran2 1 (q := q6) rfl rfl rfl (all_cons (fact_gtr_f rfl rfl c16) (all_cons (fact_leq_t rfl rfl c15) (all_cons (fact_leq_t rfl rfl c14) (all_cons (fact_neq_f rfl rfl c13) (all_cons (fact_ne rfl rfl c12) (all_cons (fact_gtr_t rfl rfl c11) (all_cons (fact_lss_t rfl rfl c10) (all_cons (fact_lss_f rfl rfl c9) (all_cons (fact_lss_f rfl rfl c8) (all_cons (fact_leq_f rfl rfl c7) (all_cons (fact_geq_f rfl rfl c6) (all_cons (fact_eq rfl rfl rfl) (all_cons (fact_leq_t rfl rfl c5) (all_cons (fact_geq_t rfl rfl c4) (all_cons (fact_eq rfl rfl c3) (all_cons (d7) (all_cons (fact_num rfl rfl rfl (binI_rem (by simp only [sg, val]; omega) (by decide)) (by simp only [sg, val]; omega)) (all_cons (d6) (all_cons (d5) (all_cons (fact_num rfl rfl rfl (binI_rem (by simp only [sg, val]; omega) (by decide)) (by simp only [sg, val]; omega)) (all_cons (d4) (all_cons (d3) (all_cons (d2) (all_cons (d1) (all_nil))))))))))))))))))))))))) (all_cons (conv_num rfl rfl (by simp only [sg, val, wrap_u8, wrap_u16, wrap_u32, wrap_u64]; first | rfl | omega | (rw [wrap_i64 (by omega) (by omega)]; omega))) (all_cons (d0) (all_nil)))
        · have c4 : ((view + 1) % 4294967296) ≥ 1 := by omega
          have c5 : ((view + 1) % 4294967296) ≤ 1048576 := by omega
          have c6 : ¬ 0 ≥ ((view + 1) % 4294967296) := by omega
          have c7 : ¬ ((view + 1) % 4294967296) ≤ 0 := by omega
          have c8 : ¬ ((view + 1) % 4294967296) < ((view + 1) % 4294967296) := by omega
          have c9 : ¬ 1048576 < ((view + 1) % 4294967296) := by omega
          have c10 : 0 < ((view + 1) % 4294967296) := by omega
          have c11 : ((view + 1) % 4294967296) > 0 := by omega
          have c12 : ¬ 0 = ((view + 1) % 4294967296) := by omega
          have c13 : ((view + 1) % 4294967296) = ((view + 1) % 4294967296) := by omega
          have c14 : ((view + 1) % 4294967296) ≤ ((view + 1) % 4294967296) := by omega
          have c15 : 0 ≤ ((view + 1) % 4294967296) := by omega
          exact L ran3 0 (q := q7) rfl rfl rfl (all_cons (fact_leq_t rfl rfl c15) (all_cons (fact_leq_t rfl rfl c14) (all_cons (fact_neq_f rfl rfl c13) (all_cons (fact_ne rfl rfl c12) (all_cons (fact_gtr_t rfl rfl c11) (all_cons (fact_lss_t rfl rfl c10) (all_cons (fact_lss_f rfl rfl c9) (all_cons (fact_lss_f rfl rfl c8) (all_cons (fact_leq_f rfl rfl c7) (all_cons (fact_geq_f rfl rfl c6) (all_cons (fact_eq rfl rfl rfl) (all_cons (fact_leq_t rfl rfl c5) (all_cons (fact_geq_t rfl rfl c4) (all_cons (fact_ne rfl rfl c3) (all_cons (d7) (all_cons (fact_num rfl rfl rfl (binI_rem (by simp only [sg, val]; omega) (by decide)) (by simp only [sg, val]; omega)) (all_cons (d6) (all_cons (d5) (all_cons (fact_num rfl rfl rfl (binI_rem (by simp only [sg, val]; omega) (by decide)) (by simp only [sg, val]; omega)) (all_cons (d4) (all_cons (d3) (all_cons (d2) (all_cons (d1) (all_nil)))))))))))))))))))))))) (all_cons (conv_num rfl rfl (by simp only [sg, val, wrap_u8, wrap_u16, wrap_u32, wrap_u64]; first | rfl | omega | (rw [wrap_i64 (by omega) (by omega)]; omega))) (all_cons (d0) (all_nil)))
      · rcases (show ((qq % 2) = 0) ∨ (¬ (qq % 2) = 0) by omega) with c3 | c3
        · have c4 : ((view + 1) % 4294967296) ≥ 1 := by omega
          have c5 : ((view + 1) % 4294967296) ≤ 1048576 := by omega
          have c6 : ¬ 0 ≥ ((view + 1) % 4294967296) := by omega
          have c7 : ¬ ((view + 1) % 4294967296) ≤ 0 := by omega
          have c8 : ((view + 1) % 4294967296) ≥ ((view + 1) % 4294967296) := by omega
          exact L ran3 1 (q := q8) rfl rfl rfl (all_cons (fact_geq_t rfl rfl c8) (all_cons (fact_leq_f rfl rfl c7) (all_cons (fact_geq_f rfl rfl c6) (all_cons (fact_eq rfl rfl rfl) (all_cons (fact_leq_t rfl rfl c5) (all_cons (fact_geq_t rfl rfl c4) (all_cons (fact_eq rfl rfl c3) (all_cons (d7) (all_cons (fact_num rfl rfl rfl (binI_rem (by simp only [sg, val]; omega) (by decide)) (by simp only [sg, val]; omega)) (all_cons (d6) (all_cons (d5) (all_cons (fact_num rfl rfl rfl (binI_rem (by simp only [sg, val]; omega) (by decide)) (by simp only [sg, val]; omega)) (all_cons (d4) (all_cons (d3) (all_cons (d2) (all_cons (d1) (all_nil))))))))))))))))) (all_cons (conv_num rfl rfl (by simp only [sg, val, wrap_u8, wrap_u16, wrap_u32, wrap_u64]; first | rfl | omega | (rw [wrap_i64 (by omega) (by omega)]; omega))) (all_cons (d0) (all_nil)))
        · have c4 : ((view + 1) % 4294967296) ≥ 1 := by omega
          have c5 : ((view + 1) % 4294967296) ≤ 1048576 := by omega
          have c6 : ¬ 0 ≥ ((view + 1) % 4294967296) := by omega
          have c7 : ¬ ((view + 1) % 4294967296) ≤ 0 := by omega
          have c8 : ((view + 1) % 4294967296) ≥ ((view + 1) % 4294967296) := by omega
          exact L ran4 0 (q := q9) rfl rfl rfl (all_cons (fact_geq_t rfl rfl c8) (all_cons (fact_leq_f rfl rfl c7) (all_cons (fact_geq_f rfl rfl c6) (all_cons (fact_eq rfl rfl rfl) (all_cons (fact_leq_t rfl rfl c5) (all_cons (fact_geq_t rfl rfl c4) (all_cons (fact_ne rfl rfl c3) (all_cons (d7) (all_cons (fact_num rfl rfl rfl (binI_rem (by simp only [sg, val]; omega) (by decide)) (by simp only [sg, val]; omega)) (all_cons (d6) (all_cons (d5) (all_cons (fact_num rfl rfl rfl (binI_rem (by simp only [sg, val]; omega) (by decide)) (by simp only [sg, val]; omega)) (all_cons (d4) (all_cons (d3) (all_cons (d2) (all_cons (d1) (all_nil))))))))))))))))) (all_cons (conv_num rfl rfl (by simp only [sg, val, wrap_u8, wrap_u16, wrap_u32, wrap_u64]; first | rfl | omega | (rw [wrap_i64 (by omega) (by omega)]; omega))) (all_cons (d0) (all_nil)))
      · rcases (show ((qq % 2) = 0) ∨ (¬ (qq % 2) = 0) by omega) with c3 | c3
        · have c4 : ((view + 1) % 4294967296) ≥ 1 := by omega
          have c5 : ((view + 1) % 4294967296) ≤ 1048576 := by omega
          have c6 : ¬ 0 ≥ ((view + 1) % 4294967296) := by omega
          have c7 : ¬ ((view + 1) % 4294967296) ≤ 0 := by omega
          have c8 : ¬ ((view + 1) % 4294967296) < ((view + 1) % 4294967296) := by omega
          have c9 : ¬ 1048576 < ((view + 1) % 4294967296) := by omega
          have c10 : 0 < ((view + 1) % 4294967296) := by omega
          have c11 : ((view + 1) % 4294967296) > 0 := by omega
          have c12 : ¬ 0 = ((view + 1) % 4294967296) := by omega
          have c13 : ((view + 1) % 4294967296) = ((view + 1) % 4294967296) := by omega
          have c14 : ((view + 1) % 4294967296) ≤ ((view + 1) % 4294967296) := by omega
          have c15 : 0 ≤ ((view + 1) % 4294967296) := by omega
          have c16 : ¬ 0 > ((view + 1) % 4294967296) := by omega
          exact L ran4 1 (q := q10) rfl rfl rfl (all_cons (fact_gtr_f rfl rfl c16) (all_cons (fact_leq_t rfl rfl c15) (all_cons (fact_leq_t rfl rfl c14) (all_cons (fact_neq_f rfl rfl c13) (all_cons (fact_ne rfl rfl c12) (all_cons (fact_gtr_t rfl rfl c11) (all_cons (fact_lss_t rfl rfl c10) (all_cons (fact_lss_f rfl rfl c9) (all_cons (fact_lss_f rfl rfl c8) (all_cons (fact_leq_f rfl rfl c7) (all_cons (fact_geq_f rfl rfl c6) (all_cons (fact_eq rfl rfl rfl) (all_cons (fact_leq_t rfl rfl c5) (all_cons (fact_geq_t rfl rfl c4) (all_cons (fact_eq rfl rfl c3) (all_cons (d7) (all_cons (fact_num rfl rfl rfl (binI_rem (by simp only [sg, val]; omega) (by decide)) (by simp only [sg, val]; omega)) (all_cons (d6) (all_cons (d5) (all_cons (fact_num rfl rfl rfl (binI_rem (by simp only [sg, val]; omega) (by decide)) (by simp only [sg, val]; omega)) (all_cons (d4) (all_cons (d3) (all_cons (d2) (all_cons (d1) (all_nil))))))))))))))))))))))))) (all_cons (conv_num rfl rfl (by simp only [sg, val, wrap_u8, wrap_u16, wrap_u32, wrap_u64]; first | rfl | omega | (rw [wrap_i64 (by omega) (by omega)]; omega))) (all_cons (d0) (all_nil)))
        · have c4 : ((view + 1) % 4294967296) ≥ 1 := by omega
          have c5 : ((view + 1) % 4294967296) ≤ 1048576 := by omega
          have c6 : ¬ 0 ≥ ((view + 1) % 4294967296) := by omega
          have c7 : ¬ ((view + 1) % 4294967296) ≤ 0 := by omega
          have c8 : ¬ ((view + 1) % 4294967296) < ((view + 1) % 4294967296) := by omega
          have c9 : ¬ 1048576 < ((view + 1) % 4294967296) := by omega
          have c10 : 0 < ((view + 1) % 4294967296) := by omega
          have c11 : ((view + 1) % 4294967296) > 0 := by omega
          have c12 : ¬ 0 = ((view + 1) % 4294967296) := by omega
          have c13 : ((view + 1) % 4294967296) = ((view + 1) % 4294967296) := by omega
          have c14 : ((view + 1) % 4294967296) ≤ ((view + 1) % 4294967296) := by omega
          have c15 : 0 ≤ ((view + 1) % 4294967296) := by omega
          exact L ran5 0 (q := q11) rfl rfl rfl (all_cons (fact_leq_t rfl rfl c15) (all_cons (fact_leq_t rfl rfl c14) (all_cons (fact_neq_f rfl rfl c13) (all_cons (fact_ne rfl rfl c12) (all_cons (fact_gtr_t rfl rfl c11) (all_cons (fact_lss_t rfl rfl c10) (all_cons (fact_lss_f rfl rfl c9) (all_cons (fact_lss_f rfl rfl c8) (all_cons (fact_leq_f rfl rfl c7) (all_cons (fact_geq_f rfl rfl c6) (all_cons (fact_eq rfl rfl rfl) (all_cons (fact_leq_t rfl rfl c5) (all_cons (fact_geq_t rfl rfl c4) (all_cons (fact_ne rfl rfl c3) (all_cons (d7) (all_cons (fact_num rfl rfl rfl (binI_rem (by simp only [sg, val]; omega) (by decide)) (by simp only [sg, val]; omega)) (all_cons (d6) (all_cons (d5) (all_cons (fact_num rfl rfl rfl (binI_rem (by simp only [sg, val]; omega) (by decide)) (by simp only [sg, val]; omega)) (all_cons (d4) (all_cons (d3) (all_cons (d2) (all_cons (d1) (all_nil)))))))))))))))))))))))) (all_cons (conv_num rfl rfl (by simp only [sg, val, wrap_u8, wrap_u16, wrap_u32, wrap_u64]; first | rfl | omega | (rw [wrap_i64 (by omega) (by omega)]; omega))) (all_cons (d0) (all_nil)))
    · rcases (show (((1 + (second_ % 3)) % 256) % 4) = 1 ∨ (((1 + (second_ % 3)) % 256) % 4) = 2 ∨ (((1 + (second_ % 3)) % 256) % 4) = 3 by omega) with c2 | c2 | c2
      · rcases (show ((qq % 2) = 0) ∨ (¬ (qq % 2) = 0) by omega) with c3 | c3
        · have c4 : ((view + 1) % 4294967296) ≥ 1 := by omega
          have c5 : ((view + 1) % 4294967296) ≤ 1048576 := by omega
          have c6 : ¬ 0 ≥ ((view + 1) % 4294967296) := by omega
          have c7 : ¬ ((view + 1) % 4294967296) ≤ 0 := by omega
          have c8 : ¬ ((view + 1) % 4294967296) < ((view + 1) % 4294967296) := by omega
          have c9 : ¬ 1048576 < ((view + 1) % 4294967296) := by omega
          have c10 : 0 < ((view + 1) % 4294967296) := by omega
          have c11 : ((view + 1) % 4294967296) > 0 := by omega
          have c12 : ¬ 0 = ((view + 1) % 4294967296) := by omega
          have c13 : ((view + 1) % 4294967296) = ((view + 1) % 4294967296) := by omega
          have c14 : ((view + 1) % 4294967296) ≤ ((view + 1) % 4294967296) := by omega
          have c15 : 0 ≤ ((view + 1) % 4294967296) := by omega
          have c16 : ¬ 0 > ((view + 1) % 4294967296) := by omega
          exact L ran5 1 (q := q12) rfl rfl rfl (all_cons (fact_gtr_f rfl rfl c16) (all_cons (fact_leq_t rfl rfl c15) (all_cons (fact_leq_t rfl rfl c14) (all_cons (fact_neq_f rfl rfl c13) (all_cons (fact_ne rfl rfl c12) (all_cons (fact_gtr_t rfl rfl c11) (all_cons (fact_lss_t rfl rfl c10) (all_cons (fact_lss_f rfl rfl c9) (all_cons (fact_lss_f rfl rfl c8) (all_cons (fact_leq_f rfl rfl c7) (all_cons (fact_geq_f rfl rfl c6) (all_cons (fact_eq rfl rfl rfl) (all_cons (fact_leq_t rfl rfl c5) (all_cons (fact_geq_t rfl rfl c4) (all_cons (fact_eq rfl rfl c3) (all_cons (d7) (all_cons (fact_num rfl rfl rfl (binI_rem (by simp only [sg, val]; omega) (by decide)) (by simp only [sg, val]; omega)) (all_cons (d6) (all_cons (d5) (all_cons (fact_num rfl rfl rfl (binI_rem (by simp only [sg, val]; omega) (by decide)) (by simp only [sg, val]; omega)) (all_cons (d4) (all_cons (d3) (all_cons (d2) (all_cons (d1) (all_nil))))))))))))))))))))))))) (all_cons (conv_num rfl rfl (by simp only [sg, val, wrap_u8, wrap_u16, wrap_u32, wrap_u64]; first | rfl | omega | (rw [wrap_i64 (by omega) (by omega)]; omega))) (all_cons (d0) (all_nil)))
        · have c4 : ((view + 1) % 4294967296) ≥ 1 := by omega
          have c5 : ((view + 1) % 4294967296) ≤ 1048576 := by omega
          have c6 : ¬ 0 ≥ ((view + 1) % 4294967296) := by omega
          have c7 : ¬ ((view + 1) % 4294967296) ≤ 0 := by omega
          have c8 : ¬ ((view + 1) % 4294967296) < ((view + 1) % 4294967296) := by omega
          have c9 : ¬ 1048576 < ((view + 1) % 4294967296) := by omega
          have c10 : 0 < ((view + 1) % 4294967296) := by omega
          have c11 : ((view + 1) % 4294967296) > 0 := by omega
          have c12 : ¬ 0 = ((view + 1) % 4294967296) := by omega
          have c13 : ((view + 1) % 4294967296) = ((view + 1) % 4294967296) := by omega
          have c14 : ((view + 1) % 4294967296) ≤ ((view + 1) % 4294967296) := by omega
          have c15 : 0 ≤ ((view + 1) % 4294967296) := by omega
          exact L ran6 0 (q := q13) rfl rfl rfl (all_cons (fact_leq_t rfl rfl c15) (all_cons (fact_leq_t rfl rfl c14) (all_cons (fact_neq_f rfl rfl c13) (all_cons (fact_ne rfl rfl c12) (all_cons (fact_gtr_t rfl rfl c11) (all_cons (fact_lss_t rfl rfl c10) (all_cons (fact_lss_f rfl rfl c9) (all_cons (fact_lss_f rfl rfl c8) (all_cons (fact_leq_f rfl rfl c7) (all_cons (fact_geq_f rfl rfl c6) (all_cons (fact_eq rfl rfl rfl) (all_cons (fact_leq_t rfl rfl c5) (all_cons (fact_geq_t rfl rfl c4) (all_cons (fact_ne rfl rfl c3) (all_cons (d7) (all_cons (fact_num rfl rfl rfl (binI_rem (by simp only [sg, val]; omega) (by decide)) (by simp only [sg, val]; omega)) (all_cons (d6) (all_cons (d5) (all_cons (fact_num rfl rfl rfl (binI_rem (by simp only [sg, val]; omega) (by decide)) (by simp only [sg, val]; omega)) (all_cons (d4) (all_cons (d3) (all_cons (d2) (all_cons (d1) (all_nil)))))))))))))))))))))))) (all_cons (conv_num rfl rfl (by simp only [sg, val, wrap_u8, wrap_u16, wrap_u32, wrap_u64]; first | rfl | omega | (rw [wrap_i64 (by omega) (by omega)]; omega))) (all_cons (d0) (all_nil)))
      · rcases (show ((qq % 2) = 0) ∨ (¬ (qq % 2) = 0) by omega) with c3 | c3
        · have c4 : ((view + 1) % 4294967296) ≥ 1 := by omega
          have c5 : ((view + 1) % 4294967296) ≤ 1048576 := by omega
          have c6 : ¬ 0 ≥ ((view + 1) % 4294967296) := by omega
          have c7 : ¬ ((view + 1) % 4294967296) ≤ 0 := by omega
          have c8 : ¬ ((view + 1) % 4294967296) < ((view + 1) % 4294967296) := by omega
          have c9 : ¬ 1048576 < ((view + 1) % 4294967296) := by omega
          have c10 : 0 < ((view + 1) % 4294967296) := by omega
          have c11 : ((view + 1) % 4294967296) > 0 := by omega
          have c12 : ¬ 0 = ((view + 1) % 4294967296) := by omega
          have c13 : ((view + 1) % 4294967296) = ((view + 1) % 4294967296) := by omega
          have c14 : ((view + 1) % 4294967296) ≤ ((view + 1) % 4294967296) := by omega
          have c15 : 0 ≤ ((view + 1) % 4294967296) := by omega
          have c16 : ¬ 0 > ((view + 1) % 4294967296) := by omega
          exact L ran6 1 (q := q14) rfl rfl rfl (all_cons (fact_gtr_f rfl rfl c16) (all_cons (fact_leq_t rfl rfl c15) (all_cons (fact_leq_t rfl rfl c14) (all_cons (fact_neq_f rfl rfl c13) (all_cons (fact_ne rfl rfl c12) (all_cons (fact_gtr_t rfl rfl c11) (all_cons (fact_lss_t rfl rfl c10) (all_cons (fact_lss_f rfl rfl c9) (all_cons (fact_lss_f rfl rfl c8) (all_cons (fact_leq_f rfl rfl c7) (all_cons (fact_geq_f rfl rfl c6) (all_cons (fact_eq rfl rfl rfl) (all_cons (fact_leq_t rfl rfl c5) (all_cons (fact_geq_t rfl rfl c4) (all_cons (fact_eq rfl rfl c3) (all_cons (d7) (all_cons (fact_num rfl rfl rfl (binI_rem (by simp only [sg, val]; omega) (by decide)) (by simp only [sg, val]; omega)) (all_cons (d6) (all_cons (d5) (all_cons (fact_num rfl rfl rfl (binI_rem (by simp only [sg, val]; omega) (by decide)) (by simp only [sg, val]; omega)) (all_cons (d4) (all_cons (d3) (all_cons (d2) (all_cons (d1) (all_nil))))))))))))))))))))))))) (all_cons (conv_num rfl rfl (by simp only [sg, val, wrap_u8, wrap_u16, wrap_u32, wrap_u64]; first | rfl | omega | (rw [wrap_i64 (by omega) (by omega)]; omega))) (all_cons (d0) (all_nil)))
        · have c4 : ((view + 1) % 4294967296) ≥ 1 := by omega
          have c5 : ((view + 1) % 4294967296) ≤ 1048576 := by omega
          have c6 : ¬ 0 ≥ ((view + 1) % 4294967296) := by omega
          have c7 : ¬ ((view + 1) % 4294967296) ≤ 0 := by omega
          have c8 : ¬ ((view + 1) % 4294967296) < ((view + 1) % 4294967296) := by omega
          have c9 : ¬ 1048576 < ((view + 1) % 4294967296) := by omega
          have c10 : 0 < ((view + 1) % 4294967296) := by omega
          have c11 : ((view + 1) % 4294967296) > 0 := by omega
          have c12 : ¬ 0 = ((view + 1) % 4294967296) := by omega
          have c13 : ((view + 1) % 4294967296) = ((view + 1) % 4294967296) := by omega
          have c14 : ((view + 1) % 4294967296) ≤ ((view + 1) % 4294967296) := by omega
          have c15 : 0 ≤ ((view + 1) % 4294967296) := by omega
          exact L ran7 0 (q := q15) rfl rfl rfl (all_cons (fact_leq_t rfl rfl c15) (all_cons (fact_leq_t rfl rfl c14) (all_cons (fact_neq_f rfl rfl c13) (all_cons (fact_ne rfl rfl c12) (all_cons (fact_gtr_t rfl rfl c11) (all_cons (fact_lss_t rfl rfl c10) (all_cons (fact_lss_f rfl rfl c9) (all_cons (fact_lss_f rfl rfl c8) (all_cons (fact_leq_f rfl rfl c7) (all_cons (fact_geq_f rfl rfl c6) (all_cons (fact_eq rfl rfl rfl) (all_cons (fact_leq_t rfl rfl c5) (all_cons (fact_geq_t rfl rfl c4) (all_cons (fact_ne rfl rfl c3) (all_cons (d7) (all_cons (fact_num rfl rfl rfl (binI_rem (by simp only [sg, val]; omega) (by decide)) (by simp only [sg, val]; omega)) (all_cons (d6) (all_cons (d5) (all_cons (fact_num rfl rfl rfl (binI_rem (by simp only [sg, val]; omega) (by decide)) (by simp only [sg, val]; omega)) (all_cons (d4) (all_cons (d3) (all_cons (d2) (all_cons (d1) (all_nil)))))))))))))))))))))))) (all_cons (conv_num rfl rfl (by simp only [sg, val, wrap_u8, wrap_u16, wrap_u32, wrap_u64]; first | rfl | omega | (rw [wrap_i64 (by omega) (by omega)]; omega))) (all_cons (d0) (all_nil)))
      · rcases (show ((qq % 2) = 0) ∨ (¬ (qq % 2) = 0) by omega) with c3 | c3
        · have c4 : ((view + 1) % 4294967296) ≥ 1 := by omega
          have c5 : ((view + 1) % 4294967296) ≤ 1048576 := by omega
          have c6 : ¬ 0 ≥ ((view + 1) % 4294967296) := by omega
          have c7 : ¬ ((view + 1) % 4294967296) ≤ 0 := by omega
          have c8 : ((view + 1) % 4294967296) ≥ ((view + 1) % 4294967296) := by omega
          exact L ran7 1 (q := q16) rfl rfl rfl (all_cons (fact_geq_t rfl rfl c8) (all_cons (fact_leq_f rfl rfl c7) (all_cons (fact_geq_f rfl rfl c6) (all_cons (fact_eq rfl rfl rfl) (all_cons (fact_leq_t rfl rfl c5) (all_cons (fact_geq_t rfl rfl c4) (all_cons (fact_eq rfl rfl c3) (all_cons (d7) (all_cons (fact_num rfl rfl rfl (binI_rem (by simp only [sg, val]; omega) (by decide)) (by simp only [sg, val]; omega)) (all_cons (d6) (all_cons (d5) (all_cons (fact_num rfl rfl rfl (binI_rem (by simp only [sg, val]; omega) (by decide)) (by simp only [sg, val]; omega)) (all_cons (d4) (all_cons (d3) (all_cons (d2) (all_cons (d1) (all_nil))))))))))))))))) (all_cons (conv_num rfl rfl (by simp only [sg, val, wrap_u8, wrap_u16, wrap_u32, wrap_u64]; first | rfl | omega | (rw [wrap_i64 (by omega) (by omega)]; omega))) (all_cons (d0) (all_nil)))
        · have c4 : ((view + 1) % 4294967296) ≥ 1 := by omega
          have c5 : ((view + 1) % 4294967296) ≤ 1048576 := by omega
          have c6 : ¬ 0 ≥ ((view + 1) % 4294967296) := by omega
          have c7 : ¬ ((view + 1) % 4294967296) ≤ 0 := by omega
          have c8 : ((view + 1) % 4294967296) ≥ ((view + 1) % 4294967296) := by omega
          exact L ran8 0 (q := q17) rfl rfl rfl (all_cons (fact_geq_t rfl rfl c8) (all_cons (fact_leq_f rfl rfl c7) (all_cons (fact_geq_f rfl rfl c6) (all_cons (fact_eq rfl rfl rfl) (all_cons (fact_leq_t rfl rfl c5) (all_cons (fact_geq_t rfl rfl c4) (all_cons (fact_ne rfl rfl c3) (all_cons (d7) (all_cons (fact_num rfl rfl rfl (binI_rem (by simp only [sg, val]; omega) (by decide)) (by simp only [sg, val]; omega)) (all_cons (d6) (all_cons (d5) (all_cons (fact_num rfl rfl rfl (binI_rem (by simp only [sg, val]; omega) (by decide)) (by simp only [sg, val]; omega)) (all_cons (d4) (all_cons (d3) (all_cons (d2) (all_cons (d1) (all_nil))))))))))))))))) (all_cons (conv_num rfl rfl (by simp only [sg, val, wrap_u8, wrap_u16, wrap_u32, wrap_u64]; first | rfl | omega | (rw [wrap_i64 (by omega) (by omega)]; omega))) (all_cons (d0) (all_nil)))
  · rcases (show (((2 + (first_ % 3)) % 256) % 4) = 0 ∨ (((2 + (first_ % 3)) % 256) % 4) = 2 ∨ (((2 + (first_ % 3)) % 256) % 4) = 3 by omega) with c1 | c1 | c1
    · rcases (show (((2 + (second_ % 3)) % 256) % 4) = 0 ∨ (((2 + (second_ % 3)) % 256) % 4) = 2 ∨ (((2 + (second_ % 3)) % 256) % 4) = 3 by omega) with c2 | c2 | c2
      · rcases (show ((qq % 2) = 0) ∨ (¬ (qq % 2) = 0) by omega) with c3 | c3
        · have c4 : ((view + 1) % 4294967296) ≥ 1 := by omega
          have c5 : ((view + 1) % 4294967296) ≤ 1048576 := by omega
          have c6 : ¬ 0 ≥ ((view + 1) % 4294967296) := by omega
          have c7 : ¬ ((view + 1) % 4294967296) ≤ 0 := by omega
          have c8 : ((view + 1) % 4294967296) ≥ ((view + 1) % 4294967296) := by omega
          exact L ran8 1 (q := q18) rfl rfl rfl (all_cons (fact_geq_t rfl rfl c8) (all_cons (fact_leq_f rfl rfl c7) (all_cons (fact_geq_f rfl rfl c6) (all_cons (fact_eq rfl rfl rfl) (all_cons (fact_leq_t rfl rfl c5) (all_cons (fact_geq_t rfl rfl c4) (all_cons (fact_eq rfl rfl c3) (all_cons (d7) (all_cons (fact_num rfl rfl rfl (binI_rem (by simp only [sg, val]; omega) (by decide)) (by simp only [sg, val]; omega)) (all_cons (d9) (all_cons (d5) (all_cons (fact_num rfl rfl rfl (binI_rem (by simp only [sg, val]; omega) (by decide)) (by simp only [sg, val]; omega)) (all_cons (d8) (all_cons (d3) (all_cons (d2) (all_cons (d1) (all_nil))))))))))))))))) (all_cons (conv_num rfl rfl (by simp only [sg, val, wrap_u8, wrap_u16, wrap_u32, wrap_u64]; first | rfl | omega | (rw [wrap_i64 (by omega) (by omega)]; omega))) (all_cons (d0) (all_nil)))
        · have c4 : ((view + 1) % 4294967296) ≥ 1 := by omega
          have c5 : ((view + 1) % 4294967296) ≤ 1048576 := by omega
          have c6 : ¬ 0 ≥ ((view + 1) % 4294967296) := by omega
          have c7 : ¬ ((view + 1) % 4294967296) ≤ 0 := by omega
          have c8 : ((view + 1) % 4294967296) ≥ ((view + 1) % 4294967296) := by omega
          exact L ran8 2 (q := q19) rfl rfl rfl (all_cons (fact_geq_t rfl rfl c8) (all_cons (fact_leq_f rfl rfl c7) (all_cons (fact_geq_f rfl rfl c6) (all_cons (fact_eq rfl rfl rfl) (all_cons (fact_leq_t rfl rfl c5) (all_cons (fact_geq_t rfl rfl c4) (all_cons (fact_ne rfl rfl c3) (all_cons (d7) (all_cons (fact_num rfl rfl rfl (binI_rem (by simp only [sg, val]; omega) (by decide)) (by simp only [sg, val]; omega)) (all_cons (d9) (all_cons (d5) (all_cons (fact_num rfl rfl rfl (binI_rem (by simp only [sg, val]; omega) (by decide)) (by simp only [sg, val]; omega)) (all_cons (d8) (all_cons (d3) (all_cons (d2) (all_cons (d1) (all_nil))))))))))))))))) (all_cons (conv_num rfl rfl (by simp only [sg, val, wrap_u8, wrap_u16, wrap_u32, wrap_u64]; first | rfl | omega | (rw [wrap_i64 (by omega) (by omega)]; omega))) (all_cons (d0) (all_nil)))
      · rcases (show ((qq % 2) = 0) ∨ (¬ (qq % 2) = 0) by omega) with c3 | c3
        · have c4 : ((view + 1) % 4294967296) ≥ 1 := by omega
          have c5 : ((view + 1) % 4294967296) ≤ 1048576 := by omega
          have c6 : ¬ 0 ≥ ((view + 1) % 4294967296) := by omega
          have c7 : ¬ ((view + 1) % 4294967296) ≤ 0 := by omega
          have c8 : ¬ ((view + 1) % 4294967296) < ((view + 1) % 4294967296) := by omega
          have c9 : ¬ 1048576 < ((view + 1) % 4294967296) := by omega
          have c10 : 0 < ((view + 1) % 4294967296) := by omega
          have c11 : ((view + 1) % 4294967296) > 0 := by omega
          have c12 : ¬ 0 = ((view + 1) % 4294967296) := by omega
          have c13 : ((view + 1) % 4294967296) = ((view + 1) % 4294967296) := by omega
          have c14 : ((view + 1) % 4294967296) ≤ ((view + 1) % 4294967296) := by omega
          have c15 : 0 ≤ ((view + 1) % 4294967296) := by omega
          exact L ran9 0 (q := q20) rfl rfl rfl (all_cons (fact_leq_t rfl rfl c15) (all_cons (fact_leq_t rfl rfl c14) (all_cons (fact_neq_f rfl rfl c13) (all_cons (fact_ne rfl rfl c12) (all_cons (fact_gtr_t rfl rfl c11) (all_cons (fact_lss_t rfl rfl c10) (all_cons (fact_lss_f rfl rfl c9) (all_cons (fact_lss_f rfl rfl c8) (all_cons (fact_leq_f rfl rfl c7) (all_cons (fact_geq_f rfl rfl c6) (all_cons (fact_eq rfl rfl rfl) (all_cons (fact_leq_t rfl rfl c5) (all_cons (fact_geq_t rfl rfl c4) (all_cons (fact_eq rfl rfl c3) (all_cons (d7) (all_cons (fact_num rfl rfl rfl (binI_rem (by simp only [sg, val]; omega) (by decide)) (by simp only [sg, val]; omega)) (all_cons (d9) (all_cons (d5) (all_cons (fact_num rfl rfl rfl (binI_rem (by simp only [sg, val]; omega) (by decide)) (by simp only [sg, val]; omega)) (all_cons (d8) (all_cons (d3) (all_cons (d2) (all_cons (d1) (all_nil)))))))))))))))))))))))) (all_cons (conv_num rfl rfl (by simp only [sg, val, wrap_u8, wrap_u16, wrap_u32, wrap_u64]; first | rfl | omega | (rw [wrap_i64 (by omega) (by omega)]; omega))) (all_cons (d0) (all_nil)))
        · have c4 : ((view + 1) % 4294967296) ≥ 1 := by omega
          have c5 : ((view + 1) % 4294967296) ≤ 1048576 := by omega
          have c6 : ¬ 0 ≥ ((view + 1) % 4294967296) := by omega
          have c7 : ¬ ((view + 1) % 4294967296) ≤ 0 := by omega
          have c8 : ¬ ((view + 1) % 4294967296) < ((view + 1) % 4294967296) := by omega
          have c9 : ¬ 1048576 < ((view + 1) % 4294967296) := by omega
          have c10 : 0 < ((view + 1) % 4294967296) := by omega
          have c11 : ((view + 1) % 4294967296) > 0 := by omega
          have c12 : ¬ 0 = ((view + 1) % 4294967296) := by omega
          have c13 : ((view + 1) % 4294967296) = ((view + 1) % 4294967296) := by omega
          have c14 : ((view + 1) % 4294967296) ≤ ((view + 1) % 4294967296) := by omega
          have c15 : 0 ≤ ((view + 1) % 4294967296) := by omega
          exact L ran9 1 (q := q21) rfl rfl rfl (all_cons (fact_leq_t rfl rfl c15) (all_cons (fact_leq_t rfl rfl c14) (all_cons (fact_neq_f rfl rfl c13) (all_cons (fact_ne rfl rfl c12) (all_cons (fact_gtr_t rfl rfl c11) (all_cons (fact_lss_t rfl rfl c10) (all_cons (fact_lss_f rfl rfl c9) (all_cons (fact_lss_f rfl rfl c8) (all_cons (fact_leq_f rfl rfl c7) (all_cons (fact_geq_f rfl rfl c6) (all_cons (fact_eq rfl rfl rfl) (all_cons (fact_leq_t rfl rfl c5) (all_cons (fact_geq_t rfl rfl c4) (all_cons (fact_ne rfl rfl c3) (all_cons (d7) (all_cons (fact_num rfl rfl rfl (binI_rem (by simp only [sg, val]; omega) (by decide)) (by simp only [sg, val]; omega)) (all_cons (d9) (all_cons (d5) (all_cons (fact_num rfl rfl rfl (binI_rem (by simp only [sg, val]; omega) (by decide)) (by simp only [sg, val]; omega)) (all_cons (d8) (all_cons (d3) (all_cons (d2) (all_cons (d1) (all_nil)))))))))))))))))))))))) (all_cons (conv_num rfl rfl (by simp only [sg, val, wrap_u8, wrap_u16, wrap_u32, wrap_u64]; first | rfl | omega | (rw [wrap_i64 (by omega) (by omega)]; omega))) (all_cons (d0) (all_nil)))
      · rcases (show ((qq % 2) = 0) ∨ (¬ (qq % 2) = 0) by omega) with c3 | c3
        · have c4 : ((view + 1) % 4294967296) ≥ 1 := by omega
          have c5 : ((view + 1) % 4294967296) ≤ 1048576 := by omega
          have c6 : ¬ 0 ≥ ((view + 1) % 4294967296) := by omega
          have c7 : ¬ ((view + 1) % 4294967296) ≤ 0 := by omega
          have c8 : ¬ ((view + 1) % 4294967296) < ((view + 1) % 4294967296) := by omega
          have c9 : ¬ 1048576 < ((view + 1) % 4294967296) := by omega
          have c10 : 0 < ((view + 1) % 4294967296) := by omega
          have c11 : ((view + 1) % 4294967296) > 0 := by omega
          have c12 : ¬ 0 = ((view + 1) % 4294967296) := by omega
          have c13 : ((view + 1) % 4294967296) = ((view + 1) % 4294967296) := by omega
          have c14 : ((view + 1) % 4294967296) ≤ ((view + 1) % 4294967296) := by omega
          have c15 : 0 ≤ ((view + 1) % 4294967296) := by omega
          exact L ran10 0 (q := q22) rfl rfl rfl (all_cons (fact_leq_t rfl rfl c15) (all_cons (fact_leq_t rfl rfl c14) (all_cons (fact_neq_f rfl rfl c13) (all_cons (fact_ne rfl rfl c12) (all_cons (fact_gtr_t rfl rfl c11) (all_cons (fact_lss_t rfl rfl c10) (all_cons (fact_lss_f rfl rfl c9) (all_cons (fact_lss_f rfl rfl c8) (all_cons (fact_leq_f rfl rfl c7) (all_cons (fact_geq_f rfl rfl c6) (all_cons (fact_eq rfl rfl rfl) (all_cons (fact_leq_t rfl rfl c5) (all_cons (fact_geq_t rfl rfl c4) (all_cons (fact_eq rfl rfl c3) (all_cons (d7) (all_cons (fact_num rfl rfl rfl (binI_rem (by simp only [sg, val]; omega) (by decide)) (by simp only [sg, val]; omega)) (all_cons (d9) (all_cons (d5) (all_cons (fact_num rfl rfl rfl (binI_rem (by simp only [sg, val]; omega) (by decide)) (by simp only [sg, val]; omega)) (all_cons (d8) (all_cons (d3) (all_cons (d2) (all_cons (d1) (all_nil)))))))))))))))))))))))) (all_cons (conv_num rfl rfl (by simp only [sg, val, wrap_u8, wrap_u16, wrap_u32, wrap_u64]; first | rfl | omega | (rw [wrap_i64 (by omega) (by omega)]; omega))) (all_cons (d0) (all_nil)))
        · have c4 : ((view + 1) % 4294967296) ≥ 1 := by omega
          have c5 : ((view + 1) % 4294967296) ≤ 1048576 := by omega
          have c6 : ¬ 0 ≥ ((view + 1) % 4294967296) := by omega
          have c7 : ¬ ((view + 1) % 4294967296) ≤ 0 := by omega
          have c8 : ¬ ((view + 1) % 4294967296) < ((view + 1) % 4294967296) := by omega
          have c9 : ¬ 1048576 < ((view + 1) % 4294967296) := by omega
          have c10 : 0 < ((view + 1) % 4294967296) := by omega
          have c11 : ((view + 1) % 4294967296) > 0 := by omega
          have c12 : ¬ 0 = ((view + 1) % 4294967296) := by omega
          have c13 : ((view + 1) % 4294967296) = ((view + 1) % 4294967296) := by omega
          have c14 : ((view + 1) % 4294967296) ≤ ((view + 1) % 4294967296) := by omega
          have c15 : 0 ≤ ((view + 1) % 4294967296) := by omega
          exact L ran10 1 (q := q23) rfl rfl rfl (all_cons (fact_leq_t rfl rfl c15) (all_cons (fact_leq_t rfl rfl c14) (all_cons (fact_neq_f rfl rfl c13) (all_cons (fact_ne rfl rfl c12) (all_cons (fact_gtr_t rfl rfl c11) (all_cons (fact_lss_t rfl rfl c10) (all_cons (fact_lss_f rfl rfl c9) (all_cons (fact_lss_f rfl rfl c8) (all_cons (fact_leq_f rfl rfl c7) (all_cons (fact_geq_f rfl rfl c6) (all_cons (fact_eq rfl rfl rfl) (all_cons (fact_leq_t rfl rfl c5) (all_cons (fact_geq_t rfl rfl c4) (all_cons (fact_ne rfl rfl c3) (all_cons (d7) (all_cons (fact_num rfl rfl rfl (binI_rem (by simp only [sg, val]; omega) (by decide)) (by simp only [sg, val]; omega)) (all_cons (d9) (all_cons (d5) (all_cons (fact_num rfl rfl rfl (binI_rem (by simp only [sg, val]; omega) (by decide)) (by simp only [sg, val]; omega)) (all_cons (d8) (all_cons (d3) (all_cons (d2) (all_cons (d1) (all_nil)))))))))))))))))))))))) (all_cons (conv_num rfl rfl (by simp only [sg, val, wrap_u8, wrap_u16, wrap_u32, wrap_u64]; first | rfl | omega | (rw [wrap_i64 (by omega) (by omega)]; omega))) (all_cons (d0) (all_nil)))
    · rcases (show (((2 + (second_ % 3)) % 256) % 4) = 0 ∨ (((2 + (second_ % 3)) % 256) % 4) = 2 ∨ (((2 + (second_ % 3)) % 256) % 4) = 3 by omega) with c2 | c2 | c2
      · rcases (show ((qq % 2) = 0) ∨ (¬ (qq % 2) = 0) by omega) with c3 | c3
        · have c4 : ((view + 1) % 4294967296) ≥ 1 := by omega
          have c5 : ((view + 1) % 4294967296) ≤ 1048576 := by omega
          have c6 : ¬ 0 ≥ ((view + 1) % 4294967296) := by omega
          have c7 : ¬ ((view + 1) % 4294967296) ≤ 0 := by omega
          have c8 : ¬ ((view + 1) % 4294967296) < ((view + 1) % 4294967296) := by omega
          have c9 : ¬ 1048576 < ((view + 1) % 4294967296) := by omega
          have c10 : 0 < ((view + 1) % 4294967296) := by omega
          have c11 : ((view + 1) % 4294967296) > 0 := by omega
          have c12 : ¬ 0 = ((view + 1) % 4294967296) := by omega
          have c13 : ((view + 1) % 4294967296) = ((view + 1) % 4294967296) := by omega
          have c14 : ((view + 1) % 4294967296) ≤ ((view + 1) % 4294967296) := by omega
          have c15 : 0 ≤ ((view + 1) % 4294967296) := by omega
          exact L ran11 0 (q := q24) rfl rfl rfl (all_cons (fact_leq_t rfl rfl c15) (all_cons (fact_leq_t rfl rfl c14) (all_cons (fact_neq_f rfl rfl c13) (all_cons (fact_ne rfl rfl c12) (all_cons (fact_gtr_t rfl rfl c11) (all_cons (fact_lss_t rfl rfl c10) (all_cons (fact_lss_f rfl rfl c9) (all_cons (fact_lss_f rfl rfl c8) (all_cons (fact_leq_f rfl rfl c7) (all_cons (fact_geq_f rfl rfl c6) (all_cons (fact_eq rfl rfl rfl) (all_cons (fact_leq_t rfl rfl c5) (all_cons (fact_geq_t rfl rfl c4) (all_cons (fact_eq rfl rfl c3) (all_cons (d7) (all_cons (fact_num rfl rfl rfl (binI_rem (by simp only [sg, val]; omega) (by decide)) (by simp only [sg, val]; omega)) (all_cons (d9) (all_cons (d5) (all_cons (fact_num rfl rfl rfl (binI_rem (by simp only [sg, val]; omega) (by decide)) (by simp only [sg, val]; omega)) (all_cons (d8) (all_cons (d3) (all_cons (d2) (all_cons (d1) (all_nil)))))))))))))))))))))))) (all_cons (conv_num rfl rfl (by simp only [sg, val, wrap_u8, wrap_u16, wrap_u32, wrap_u64]; first | rfl | omega | (rw [wrap_i64 (by omega) (by omega)]; omega))) (all_cons (d0) (all_nil)))
        · have c4 : ((view + 1) % 4294967296) ≥ 1 := by omega
          have c5 : ((view + 1) % 4294967296) ≤ 1048576 := by omega
          have c6 : ¬ 0 ≥ ((view + 1) % 4294967296) := by omega
          have c7 : ¬ ((view + 1) % 4294967296) ≤ 0 := by omega
          have c8 : ¬ ((view + 1) % 4294967296) < ((view + 1) % 4294967296) := by omega
          have c9 : ¬ 1048576 < ((view + 1) % 4294967296) := by omega
          have c10 : 0 < ((view + 1) % 4294967296) := by omega
          have c11 : ((view + 1) % 4294967296) > 0 := by omega
          have c12 : ¬ 0 = ((view + 1) % 4294967296) := by omega
          have c13 : ((view + 1) % 4294967296) = ((view + 1) % 4294967296) := by omega
          have c14 : ((view + 1) % 4294967296) ≤ ((view + 1) % 4294967296) := by omega
          have c15 : 0 ≤ ((view + 1) % 4294967296) := by omega
          exact L ran11 1 (q := q25) rfl rfl rfl (all_cons (fact_leq_t rfl rfl c15) (all_cons (fact_leq_t rfl rfl c14) (all_cons (fact_neq_f rfl rfl c13) (all_cons (fact_ne rfl rfl c12) (all_cons (fact_gtr_t rfl rfl c11) (all_cons (fact_lss_t rfl rfl c10) (all_cons (fact_lss_f rfl rfl c9) (all_cons (fact_lss_f rfl rfl c8) (all_cons (fact_leq_f rfl rfl c7) (all_cons (fact_geq_f rfl rfl c6) (all_cons (fact_eq rfl rfl rfl) (all_cons (fact_leq_t rfl rfl c5) (all_cons (fact_geq_t rfl rfl c4) (all_cons (fact_ne rfl rfl c3) (all_cons (d7) (all_cons (fact_num rfl rfl rfl (binI_rem (by simp only [sg, val]; omega) (by decide)) (by simp only [sg, val]; omega)) (all_cons (d9) (all_cons (d5) (all_cons (fact_num rfl rfl rfl (binI_rem (by simp only [sg, val]; omega) (by decide)) (by simp only [sg, val]; omega)) (all_cons (d8) (all_cons (d3) (all_cons (d2) (all_cons (d1) (all_nil)))))))))))))))))))))))) (all_cons (conv_num rfl rfl (by simp only [sg, val, wrap_u8, wrap_u16, wrap_u32, wrap_u64]; first | rfl | omega | (rw [wrap_i64 (by omega) (by omega)]; omega))) (all_cons (d0) (all_nil)))
      · rcases (show ((qq % 2) = 0) ∨ (¬ (qq % 2) = 0) by omega) with c3 | c3
        · have c4 : ((view + 1) % 4294967296) ≥ 1 := by omega
          have c5 : ((view + 1) % 4294967296) ≤ 1048576 := by omega
          have c6 : ¬ 0 ≥ ((view + 1) % 4294967296) := by omega
          have c7 : ¬ ((view + 1) % 4294967296) ≤ 0 := by omega
          have c8 : ((view + 1) % 4294967296) ≥ ((view + 1) % 4294967296) := by omega
          exact L ran12 0 (q := q26) rfl rfl rfl (all_cons (fact_geq_t rfl rfl c8) (all_cons (fact_leq_f rfl rfl c7) (all_cons (fact_geq_f rfl rfl c6) (all_cons (fact_eq rfl rfl rfl) (all_cons (fact_leq_t rfl rfl c5) (all_cons (fact_geq_t rfl rfl c4) (all_cons (fact_eq rfl rfl c3) (all_cons (d7) (all_cons (fact_num rfl rfl rfl (binI_rem (by simp only [sg, val]; omega) (by decide)) (by simp only [sg, val]; omega)) (all_cons (d9) (all_cons (d5) (all_cons (fact_num rfl rfl rfl (binI_rem (by simp only [sg, val]; omega) (by decide)) (by simp only [sg, val]; omega)) (all_cons (d8) (all_cons (d3) (all_cons (d2) (all_cons (d1) (all_nil))))))))))))))))) (all_cons (conv_num rfl rfl (by simp only [sg, val, wrap_u8, wrap_u16, wrap_u32, wrap_u64]; first | rfl | omega | (rw [wrap_i64 (by omega) (by omega)]; omega))) (all_cons (d0) (all_nil)))
        · have c4 : ((view + 1) % 4294967296) ≥ 1 := by omega
          have c5 : ((view + 1) % 4294967296) ≤ 1048576 := by omega
          have c6 : ¬ 0 ≥ ((view + 1) % 4294967296) := by omega
          have c7 : ¬ ((view + 1) % 4294967296) ≤ 0 := by omega
          have c8 : ((view + 1) % 4294967296) ≥ ((view + 1) % 4294967296) := by omega
          exact L ran12 1 (q := q27) rfl rfl rfl (all_cons (fact_geq_t rfl rfl c8) (all_cons (fact_leq_f rfl rfl c7) (all_cons (fact_geq_f rfl rfl c6) (all_cons (fact_eq rfl rfl rfl) (all_cons (fact_leq_t rfl rfl c5) (all_cons (fact_geq_t rfl rfl c4) (all_cons (fact_ne rfl rfl c3) (all_cons (d7) (all_cons (fact_num rfl rfl rfl (binI_rem (by simp only [sg, val]; omega) (by decide)) (by simp only [sg, val]; omega)) (all_cons (d9) (all_cons (d5) (all_cons (fact_num rfl rfl rfl (binI_rem (by simp only [sg, val]; omega) (by decide)) (by simp only [sg, val]; omega)) (all_cons (d8) (all_cons (d3) (all_cons (d2) (all_cons (d1) (all_nil))))))))))))))))) (all_cons (conv_num rfl rfl (by simp only [sg, val, wrap_u8, wrap_u16, wrap_u32, wrap_u64]; first | rfl | omega | (rw [wrap_i64 (by omega) (by omega)]; omega))) (all_cons (d0) (all_nil)))
      · rcases (show ((qq % 2) = 0) ∨ (¬ (qq % 2) = 0) by omega) with c3 | c3
        · have c4 : ((view + 1) % 4294967296) ≥ 1 := by omega
          have c5 : ((view + 1) % 4294967296) ≤ 1048576 := by omega
          have c6 : ¬ 0 ≥ ((view + 1) % 4294967296) := by omega
          have c7 : ¬ ((view + 1) % 4294967296) ≤ 0 := by omega
          have c8 : ¬ ((view + 1) % 4294967296) < ((view + 1) % 4294967296) := by omega
          have c9 : ¬ 1048576 < ((view + 1) % 4294967296) := by omega
          have c10 : 0 < ((view + 1) % 4294967296) := by omega
          have c11 : ¬ 0 = ((view + 1) % 4294967296) := by omega
          have c12 : ((view + 1) % 4294967296) > 0 := by omega
          have c13 : ((view + 1) % 4294967296) = ((view + 1) % 4294967296) := by omega
          have c14 : 0 ≤ ((view + 1) % 4294967296) := by omega
          have c15 : ((view + 1) % 4294967296) ≤ ((view + 1) % 4294967296) := by omega
          exact L ran12 2 (q := q28) rfl rfl rfl (all_cons (fact_leq_t rfl rfl c15) (all_cons (fact_leq_t rfl rfl c14) (all_cons (fact_neq_f rfl rfl c13) (all_cons (fact_gtr_t rfl rfl c12) (all_cons (fact_ne rfl rfl c11) (all_cons (fact_lss_t rfl rfl c10) (all_cons (fact_lss_f rfl rfl c9) (all_cons (fact_lss_f rfl rfl c8) (all_cons (fact_leq_f rfl rfl c7) (all_cons (fact_geq_f rfl rfl c6) (all_cons (fact_eq rfl rfl rfl) (all_cons (fact_leq_t rfl rfl c5) (all_cons (fact_geq_t rfl rfl c4) (all_cons (fact_eq rfl rfl c3) (all_cons (d7) (all_cons (fact_num rfl rfl rfl (binI_rem (by simp only [sg, val]; omega) (by decide)) (by simp only [sg, val]; omega)) (all_cons (d9) (all_cons (d5) (all_cons (fact_num rfl rfl rfl (binI_rem (by simp only [sg, val]; omega) (by decide)) (by simp only [sg, val]; omega)) (all_cons (d8) (all_cons (d3) (all_cons (d2) (all_cons (d1) (all_nil)))))))))))))))))))))))) (all_cons (conv_num rfl rfl (by simp only [sg, val, wrap_u8, wrap_u16, wrap_u32, wrap_u64]; first | rfl | omega | (rw [wrap_i64 (by omega) (by omega)]; omega))) (all_cons (d0) (all_nil)))
        · have c4 : ((view + 1) % 4294967296) ≥ 1 := by omega
          have c5 : ((view + 1) % 4294967296) ≤ 1048576 := by omega
          have c6 : ¬ 0 ≥ ((view + 1) % 4294967296) := by omega
          have c7 : ¬ ((view + 1) % 4294967296) ≤ 0 := by omega
          have c8 : ¬ ((view + 1) % 4294967296) < ((view + 1) % 4294967296) := by omega
          have c9 : ¬ 1048576 < ((view + 1) % 4294967296) := by omega
          have c10 : 0 < ((view + 1) % 4294967296) := by omega
          have c11 : ¬ 0 = ((view + 1) % 4294967296) := by omega
          have c12 : ((view + 1) % 4294967296) > 0 := by omega
          have c13 : ((view + 1) % 4294967296) = ((view + 1) % 4294967296) := by omega
          have c14 : 0 ≤ ((view + 1) % 4294967296) := by omega
          have c15 : ((view + 1) % 4294967296) ≤ ((view + 1) % 4294967296) := by omega
          exact L ran13 0 (q := q29) rfl rfl rfl (all_cons (fact_leq_t rfl rfl c15) (all_cons (fact_leq_t rfl rfl c14) (all_cons (fact_neq_f rfl rfl c13) (all_cons (fact_gtr_t rfl rfl c12) (all_cons (fact_ne rfl rfl c11) (all_cons (fact_lss_t rfl rfl c10) (all_cons (fact_lss_f rfl rfl c9) (all_cons (fact_lss_f rfl rfl c8) (all_cons (fact_leq_f rfl rfl c7) (all_cons (fact_geq_f rfl rfl c6) (all_cons (fact_eq rfl rfl rfl) (all_cons (fact_leq_t rfl rfl c5) (all_cons (fact_geq_t rfl rfl c4) (all_cons (fact_ne rfl rfl c3) (all_cons (d7) (all_cons (fact_num rfl rfl rfl (binI_rem (by simp only [sg, val]; omega) (by decide)) (by simp only [sg, val]; omega)) (all_cons (d9) (all_cons (d5) (all_cons (fact_num rfl rfl rfl (binI_rem (by simp only [sg, val]; omega) (by decide)) (by simp only [sg, val]; omega)) (all_cons (d8) (all_cons (d3) (all_cons (d2) (all_cons (d1) (all_nil)))))))))))))))))))))))) (all_cons (conv_num rfl rfl (by simp only [sg, val, wrap_u8, wrap_u16, wrap_u32, wrap_u64]; first | rfl | omega | (rw [wrap_i64 (by omega) (by omega)]; omega))) (all_cons (d0) (all_nil)))
    · rcases (show (((2 + (second_ % 3)) % 256) % 4) = 0 ∨ (((2 + (second_ % 3)) % 256) % 4) = 2 ∨ (((2 + (second_ % 3)) % 256) % 4) = 3 by omega) with c2 | c2 | c2
      · rcases (show ((qq % 2) = 0) ∨ (¬ (qq % 2) = 0) by omega) with c3 | c3
        · have c4 : ((view + 1) % 4294967296) ≥ 1 := by omega
          have c5 : ((view + 1) % 4294967296) ≤ 1048576 := by omega
          have c6 : ¬ 0 ≥ ((view + 1) % 4294967296) := by omega
          have c7 : ¬ ((view + 1) % 4294967296) ≤ 0 := by omega
          have c8 : ¬ ((view + 1) % 4294967296) < ((view + 1) % 4294967296) := by omega
          have c9 : ¬ 1048576 < ((view + 1) % 4294967296) := by omega
          have c10 : 0 < ((view + 1) % 4294967296) := by omega
          have c11 : ((view + 1) % 4294967296) > 0 := by omega
          have c12 : ¬ 0 = ((view + 1) % 4294967296) := by omega
          have c13 : ((view + 1) % 4294967296) = ((view + 1) % 4294967296) := by omega
          have c14 : ((view + 1) % 4294967296) ≤ ((view + 1) % 4294967296) := by omega
          have c15 : 0 ≤ ((view + 1) % 4294967296) := by omega
          exact L ran13 1 (q := q30) rfl rfl rfl (all_cons (fact_leq_t rfl rfl c15) (all_cons (fact_leq_t rfl rfl c14) (all_cons (fact_neq_f rfl rfl c13) (all_cons (fact_ne rfl rfl c12) (all_cons (fact_gtr_t rfl rfl c11) (all_cons (fact_lss_t rfl rfl c10) (all_cons (fact_lss_f rfl rfl c9) (all_cons (fact_lss_f rfl rfl c8) (all_cons (fact_leq_f rfl rfl c7) (all_cons (fact_geq_f rfl rfl c6) (all_cons (fact_eq rfl rfl rfl) (all_cons (fact_leq_t rfl rfl c5) (all_cons (fact_geq_t rfl rfl c4) (all_cons (fact_eq rfl rfl c3) (all_cons (d7) (all_cons (fact_num rfl rfl rfl (binI_rem (by simp only [sg, val]; omega) (by decide)) (by simp only [sg, val]; omega)) (all_cons (d9) (all_cons (d5) (all_cons (fact_num rfl rfl rfl (binI_rem (by simp only [sg, val]; omega) (by decide)) (by simp only [sg, val]; omega)) (all_cons (d8) (all_cons (d3) (all_cons (d2) (all_cons (d1) (all_nil)))))))))))))))))))))))) (all_cons (conv_num rfl rfl (by simp only [sg, val, wrap_u8, wrap_u16, wrap_u32, wrap_u64]; first | rfl | omega | (rw [wrap_i64 (by omega) (by omega)]; omega))) (all_cons (d0) (all_nil)))
        · have c4 : ((view + 1) % 4294967296) ≥ 1 := by omega
          have c5 : ((view + 1) % 4294967296) ≤ 1048576 := by omega
          have c6 : ¬ 0 ≥ ((view + 1) % 4294967296) := by omega
          have c7 : ¬ ((view + 1) % 4294967296) ≤ 0 := by omega
          have c8 : ¬ ((view + 1) % 4294967296) < ((view + 1) % 4294967296) := by omega
          have c9 : ¬ 1048576 < ((view + 1) % 4294967296) := by omega
          have c10 : 0 < ((view + 1) % 4294967296) := by omega
          have c11 : ((view + 1) % 4294967296) > 0 := by omega
          have c12 : ¬ 0 = ((view + 1) % 4294967296) := by omega
          have c13 : ((view + 1) % 4294967296) = ((view + 1) % 4294967296) := by omega
          have c14 : ((view + 1) % 4294967296) ≤ ((view + 1) % 4294967296) := by omega
          have c15 : 0 ≤ ((view + 1) % 4294967296) := by omega
          exact L ran14 0 (q := q31) rfl rfl rfl (all_cons (fact_leq_t rfl rfl c15) (all_cons (fact_leq_t rfl rfl c14) (all_cons (fact_neq_f rfl rfl c13) (all_cons (fact_ne rfl rfl c12) (all_cons (fact_gtr_t rfl rfl c11) (all_cons (fact_lss_t rfl rfl c10) (all_cons (fact_lss_f rfl rfl c9) (all_cons (fact_lss_f rfl rfl c8) (all_cons (fact_leq_f rfl rfl c7) (all_cons (fact_geq_f rfl rfl c6) (all_cons (fact_eq rfl rfl rfl) (all_cons (fact_leq_t rfl rfl c5) (all_cons (fact_geq_t rfl rfl c4) (all_cons (fact_ne rfl rfl c3) (all_cons (d7) (all_cons (fact_num rfl rfl rfl (binI_rem (by simp only [sg, val]; omega) (by decide)) (by simp only [sg, val]; omega)) (all_cons (d9) (all_cons (d5) (all_cons (fact_num rfl rfl rfl (binI_rem (by simp only [sg, val]; omega) (by decide)) (by simp only [sg, val]; omega)) (all_cons (d8) (all_cons (d3) (all_cons (d2) (all_cons (d1) (all_nil)))))))))))))))))))))))) (all_cons (conv_num rfl rfl (by simp only [sg, val, wrap_u8, wrap_u16, wrap_u32, wrap_u64]; first | rfl | omega | (rw [wrap_i64 (by omega) (by omega)]; omega))) (all_cons (d0) (all_nil)))
      · rcases (show ((qq % 2) = 0) ∨ (¬ (qq % 2) = 0) by omega) with c3 | c3
        · have c4 : ((view + 1) % 4294967296) ≥ 1 := by omega
          have c5 : ((view + 1) % 4294967296) ≤ 1048576 := by omega
          have c6 : ¬ 0 ≥ ((view + 1) % 4294967296) := by omega
          have c7 : ¬ ((view + 1) % 4294967296) ≤ 0 := by omega
          have c8 : ¬ ((view + 1) % 4294967296) < ((view + 1) % 4294967296) := by omega
          have c9 : ¬ 1048576 < ((view + 1) % 4294967296) := by omega
          have c10 : 0 < ((view + 1) % 4294967296) := by omega
          have c11 : ¬ 0 = ((view + 1) % 4294967296) := by omega
          have c12 : ((view + 1) % 4294967296) > 0 := by omega
          have c13 : ((view + 1) % 4294967296) = ((view + 1) % 4294967296) := by omega
          have c14 : 0 ≤ ((view + 1) % 4294967296) := by omega
          have c15 : ((view + 1) % 4294967296) ≤ ((view + 1) % 4294967296) := by omega
          exact L ran14 1 (q := q32) rfl rfl rfl (all_cons (fact_leq_t rfl rfl c15) (all_cons (fact_leq_t rfl rfl c14) (all_cons (fact_neq_f rfl rfl c13) (all_cons (fact_gtr_t rfl rfl c12) (all_cons (fact_ne rfl rfl c11) (all_cons (fact_lss_t rfl rfl c10) (all_cons (fact_lss_f rfl rfl c9) (all_cons (fact_lss_f rfl rfl c8) (all_cons (fact_leq_f rfl rfl c7) (all_cons (fact_geq_f rfl rfl c6) (all_cons (fact_eq rfl rfl rfl) (all_cons (fact_leq_t rfl rfl c5) (all_cons (fact_geq_t rfl rfl c4) (all_cons (fact_eq rfl rfl c3) (all_cons (d7) (all_cons (fact_num rfl rfl rfl (binI_rem (by simp only [sg, val]; omega) (by decide)) (by simp only [sg, val]; omega)) (all_cons (d9) (all_cons (d5) (all_cons (fact_num rfl rfl rfl (binI_rem (by simp only [sg, val]; omega) (by decide)) (by simp only [sg, val]; omega)) (all_cons (d8) (all_cons (d3) (all_cons (d2) (all_cons (d1) (all_nil)))))))))))))))))))))))) (all_cons (conv_num rfl rfl (by simp only [sg, val, wrap_u8, wrap_u16, wrap_u32, wrap_u64]; first | rfl | omega | (rw [wrap_i64 (by omega) (by omega)]; omega))) (all_cons (d0) (all_nil)))
        · have c4 : ((view + 1) % 4294967296) ≥ 1 := by omega
          have c5 : ((view + 1) % 4294967296) ≤ 1048576 := by omega
          have c6 : ¬ 0 ≥ ((view + 1) % 4294967296) := by omega
          have c7 : ¬ ((view + 1) % 4294967296) ≤ 0 := by omega
          have c8 : ¬ ((view + 1) % 4294967296) < ((view + 1) % 4294967296) := by omega
          have c9 : ¬ 1048576 < ((view + 1) % 4294967296) := by omega
          have c10 : 0 < ((view + 1) % 4294967296) := by omega
          have c11 : ¬ 0 = ((view + 1) % 4294967296) := by omega
          have c12 : ((view + 1) % 4294967296) > 0 := by omega
          have c13 : ((view + 1) % 4294967296) = ((view + 1) % 4294967296) := by omega
          have c14 : 0 ≤ ((view + 1) % 4294967296) := by omega
          have c15 : ((view + 1) % 4294967296) ≤ ((view + 1) % 4294967296) := by omega
          exact L ran15 0 (q := q33) rfl rfl rfl (all_cons (fact_leq_t rfl rfl c15) (all_cons (fact_leq_t rfl rfl c14) (all_cons (fact_neq_f rfl rfl c13) (all_cons (fact_gtr_t rfl rfl c12) (all_cons (fact_ne rfl rfl c11) (all_cons (fact_lss_t rfl rfl c10) (all_cons (fact_lss_f rfl rfl c9) (all_cons (fact_lss_f rfl rfl c8) (all_cons (fact_leq_f rfl rfl c7) (all_cons (fact_geq_f rfl rfl c6) (all_cons (fact_eq rfl rfl rfl) (all_cons (fact_leq_t rfl rfl c5) (all_cons (fact_geq_t rfl rfl c4) (all_cons (fact_ne rfl rfl c3) (all_cons (d7) (all_cons (fact_num rfl rfl rfl (binI_rem (by simp only [sg, val]; omega) (by decide)) (by simp only [sg, val]; omega)) (all_cons (d9) (all_cons (d5) (all_cons (fact_num rfl rfl rfl (binI_rem (by simp only [sg, val]; omega) (by decide)) (by simp only [sg, val]; omega)) (all_cons (d8) (all_cons (d3) (all_cons (d2) (all_cons (d1) (all_nil)))))))))))))))))))))))) (all_cons (conv_num rfl rfl (by simp only [sg, val, wrap_u8, wrap_u16, wrap_u32, wrap_u64]; first | rfl | omega | (rw [wrap_i64 (by omega) (by omega)]; omega))) (all_cons (d0) (all_nil)))
      · rcases (show ((qq % 2) = 0) ∨ (¬ (qq % 2) = 0) by omega) with c3 | c3
        · have c4 : ((view + 1) % 4294967296) ≥ 1 := by omega
          have c5 : ((view + 1) % 4294967296) ≤ 1048576 := by omega
          have c6 : ¬ 0 ≥ ((view + 1) % 4294967296) := by omega
          have c7 : ¬ ((view + 1) % 4294967296) ≤ 0 := by omega
          have c8 : ((view + 1) % 4294967296) ≥ ((view + 1) % 4294967296) := by omega
          exact L ran15 1 (q := q34) rfl rfl rfl (all_cons (fact_geq_t rfl rfl c8) (all_cons (fact_leq_f rfl rfl c7) (all_cons (fact_geq_f rfl rfl c6) (all_cons (fact_eq rfl rfl rfl) (all_cons (fact_leq_t rfl rfl c5) (all_cons (fact_geq_t rfl rfl c4) (all_cons (fact_eq rfl rfl c3) (all_cons (d7) (all_cons (fact_num rfl rfl rfl (binI_rem (by simp only [sg, val]; omega) (by decide)) (by simp only [sg, val]; omega)) (all_cons (d9) (all_cons (d5) (all_cons (fact_num rfl rfl rfl (binI_rem (by simp only [sg, val]; omega) (by decide)) (by simp only [sg, val]; omega)) (all_cons (d8) (all_cons (d3) (all_cons (d2) (all_cons (d1) (all_nil))))))))))))))))) (all_cons (conv_num rfl rfl (by simp only [sg, val, wrap_u8, wrap_u16, wrap_u32, wrap_u64]; first | rfl | omega | (rw [wrap_i64 (by omega) (by omega)]; omega))) (all_cons (d0) (all_nil)))
        · have c4 : ((view + 1) % 4294967296) ≥ 1 := by omega
          have c5 : ((view + 1) % 4294967296) ≤ 1048576 := by omega
          have c6 : ¬ 0 ≥ ((view + 1) % 4294967296) := by omega
          have c7 : ¬ ((view + 1) % 4294967296) ≤ 0 := by omega
          have c8 : ((view + 1) % 4294967296) ≥ ((view + 1) % 4294967296) := by omega
          exact L ran16 0 (q := q35) rfl rfl rfl (all_cons (fact_geq_t rfl rfl c8) (all_cons (fact_leq_f rfl rfl c7) (all_cons (fact_geq_f rfl rfl c6) (all_cons (fact_eq rfl rfl rfl) (all_cons (fact_leq_t rfl rfl c5) (all_cons (fact_geq_t rfl rfl c4) (all_cons (fact_ne rfl rfl c3) (all_cons (d7) (all_cons (fact_num rfl rfl rfl (binI_rem (by simp only [sg, val]; omega) (by decide)) (by simp only [sg, val]; omega)) (all_cons (d9) (all_cons (d5) (all_cons (fact_num rfl rfl rfl (binI_rem (by simp only [sg, val]; omega) (by decide)) (by simp only [sg, val]; omega)) (all_cons (d8) (all_cons (d3) (all_cons (d2) (all_cons (d1) (all_nil))))))))))))))))) (all_cons (conv_num rfl rfl (by simp only [sg, val, wrap_u8, wrap_u16, wrap_u32, wrap_u64]; first | rfl | omega | (rw [wrap_i64 (by omega) (by omega)]; omega))) (all_cons (d0) (all_nil)))
  · rcases (show (((3 + (first_ % 3)) % 256) % 4) = 0 ∨ (((3 + (first_ % 3)) % 256) % 4) = 1 ∨ (((3 + (first_ % 3)) % 256) % 4) = 3 by omega) with c1 | c1 | c1
    · rcases (show (((3 + (second_ % 3)) % 256) % 4) = 0 ∨ (((3 + (second_ % 3)) % 256) % 4) = 1 ∨ (((3 + (second_ % 3)) % 256) % 4) = 3 by omega) with c2 | c2 | c2
      · rcases (show ((qq % 2) = 0) ∨ (¬ (qq % 2) = 0) by omega) with c3 | c3
        · have c4 : ((view + 1) % 4294967296) ≥ 1 := by omega
          have c5 : ((view + 1) % 4294967296) ≤ 1048576 := by omega
          have c6 : ¬ 0 ≥ ((view + 1) % 4294967296) := by omega
          have c7 : ¬ ((view + 1) % 4294967296) ≤ 0 := by omega
          have c8 : ((view + 1) % 4294967296) ≥ ((view + 1) % 4294967296) := by omega
          exact L ran16 1 (q := q36) rfl rfl rfl (all_cons (fact_geq_t rfl rfl c8) (all_cons (fact_leq_f rfl rfl c7) (all_cons (fact_geq_f rfl rfl c6) (all_cons (fact_eq rfl rfl rfl) (all_cons (fact_leq_t rfl rfl c5) (all_cons (fact_geq_t rfl rfl c4) (all_cons (fact_eq rfl rfl c3) (all_cons (d7) (all_cons (fact_num rfl rfl rfl (binI_rem (by simp only [sg, val]; omega) (by decide)) (by simp only [sg, val]; omega)) (all_cons (d11) (all_cons (d5) (all_cons (fact_num rfl rfl rfl (binI_rem (by simp only [sg, val]; omega) (by decide)) (by simp only [sg, val]; omega)) (all_cons (d10) (all_cons (d3) (all_cons (d2) (all_cons (d1) (all_nil))))))))))))))))) (all_cons (conv_num rfl rfl (by simp only [sg, val, wrap_u8, wrap_u16, wrap_u32, wrap_u64]; first | rfl | omega | (rw [wrap_i64 (by omega) (by omega)]; omega))) (all_cons (d0) (all_nil)))
        · have c4 : ((view + 1) % 4294967296) ≥ 1 := by omega
          have c5 : ((view + 1) % 4294967296) ≤ 1048576 := by omega
          have c6 : ¬ 0 ≥ ((view + 1) % 4294967296) := by omega
          have c7 : ¬ ((view + 1) % 4294967296) ≤ 0 := by omega
          have c8 : ((view + 1) % 4294967296) ≥ ((view + 1) % 4294967296) := by omega
          exact L ran16 2 (q := q37) rfl rfl rfl (all_cons (fact_geq_t rfl rfl c8) (all_cons (fact_leq_f rfl rfl c7) (all_cons (fact_geq_f rfl rfl c6) (all_cons (fact_eq rfl rfl rfl) (all_cons (fact_leq_t rfl rfl c5) (all_cons (fact_geq_t rfl rfl c4) (all_cons (fact_ne rfl rfl c3) (all_cons (d7) (all_cons (fact_num rfl rfl rfl (binI_rem (by simp only [sg, val]; omega) (by decide)) (by simp only [sg, val]; omega)) (all_cons (d11) (all_cons (d5) (all_cons (fact_num rfl rfl rfl (binI_rem (by simp only [sg, val]; omega) (by decide)) (by simp only [sg, val]; omega)) (all_cons (d10) (all_cons (d3) (all_cons (d2) (all_cons (d1) (all_nil))))))))))))))))) (all_cons (conv_num rfl rfl (by simp only [sg, val, wrap_u8, wrap_u16, wrap_u32, wrap_u64]; first | rfl | omega | (rw [wrap_i64 (by omega) (by omega)]; omega))) (all_cons (d0) (all_nil)))
      · rcases (show ((qq % 2) = 0) ∨ (¬ (qq % 2) = 0) by omega) with c3 | c3
        · have c4 : ((view + 1) % 4294967296) ≥ 1 := by omega
          have c5 : ((view + 1) % 4294967296) ≤ 1048576 := by omega
          have c6 : ¬ 0 ≥ ((view + 1) % 4294967296) := by omega
          have c7 : ¬ ((view + 1) % 4294967296) ≤ 0 := by omega
          have c8 : ¬ ((view + 1) % 4294967296) < ((view + 1) % 4294967296) := by omega
          have c9 : ¬ 1048576 < ((view + 1) % 4294967296) := by omega
          have c10 : 0 < ((view + 1) % 4294967296) := by omega
          have c11 : ((view + 1) % 4294967296) > 0 := by omega
          have c12 : ¬ 0 = ((view + 1) % 4294967296) := by omega
          have c13 : ((view + 1) % 4294967296) = ((view + 1) % 4294967296) := by omega
          have c14 : ((view + 1) % 4294967296) ≤ ((view + 1) % 4294967296) := by omega
          have c15 : 0 ≤ ((view + 1) % 4294967296) := by omega
          exact L ran17 0 (q := q38) rfl rfl rfl (all_cons (fact_leq_t rfl rfl c15) (all_cons (fact_leq_t rfl rfl c14) (all_cons (fact_neq_f rfl rfl c13) (all_cons (fact_ne rfl rfl c12) (all_cons (fact_gtr_t rfl rfl c11) (all_cons (fact_lss_t rfl rfl c10) (all_cons (fact_lss_f rfl rfl c9) (all_cons (fact_lss_f rfl rfl c8) (all_cons (fact_leq_f rfl rfl c7) (all_cons (fact_geq_f rfl rfl c6) (all_cons (fact_eq rfl rfl rfl) (all_cons (fact_leq_t rfl rfl c5) (all_cons (fact_geq_t rfl rfl c4) (all_cons (fact_eq rfl rfl c3) (all_cons (d7) (all_cons (fact_num rfl rfl rfl (binI_rem (by simp only [sg, val]; omega) (by decide)) (by simp only [sg, val]; omega)) (all_cons (d11) (all_cons (d5) (all_cons (fact_num rfl rfl rfl (binI_rem (by simp only [sg, val]; omega) (by decide)) (by simp only [sg, val]; omega)) (all_cons (d10) (all_cons (d3) (all_cons (d2) (all_cons (d1) (all_nil)))))))))))))))))))))))) (all_cons (conv_num rfl rfl (by simp only [sg, val, wrap_u8, wrap_u16, wrap_u32, wrap_u64]; first | rfl | omega | (rw [wrap_i64 (by omega) (by omega)]; omega))) (all_cons (d0) (all_nil)))
        · have c4 : ((view + 1) % 4294967296) ≥ 1 := by omega
          have c5 : ((view + 1) % 4294967296) ≤ 1048576 := by omega
          have c6 : ¬ 0 ≥ ((view + 1) % 4294967296) := by omega
          have c7 : ¬ ((view + 1) % 4294967296) ≤ 0 := by omega
          have c8 : ¬ ((view + 1) % 4294967296) < ((view + 1) % 4294967296) := by omega
          have c9 : ¬ 1048576 < ((view + 1) % 4294967296) := by omega
          have c10 : 0 < ((view + 1) % 4294967296) := by omega
          have c11 : ((view + 1) % 4294967296) > 0 := by omega
          have c12 : ¬ 0 = ((view + 1) % 4294967296) := by omega
          have c13 : ((view + 1) % 4294967296) = ((view + 1) % 4294967296) := by omega
          have c14 : ((view + 1) % 4294967296) ≤ ((view + 1) % 4294967296) := by omega
          have c15 : 0 ≤ ((view + 1) % 4294967296) := by omega
          exact L ran17 1 (q := q39) rfl rfl rfl (all_cons (fact_leq_t rfl rfl c15) (all_cons (fact_leq_t rfl rfl c14) (all_cons (fact_neq_f rfl rfl c13) (all_cons (fact_ne rfl rfl c12) (all_cons (fact_gtr_t rfl rfl c11) (all_cons (fact_lss_t rfl rfl c10) (all_cons (fact_lss_f rfl rfl c9) (all_cons (fact_lss_f rfl rfl c8) (all_cons (fact_leq_f rfl rfl c7) (all_cons (fact_geq_f rfl rfl c6) (all_cons (fact_eq rfl rfl rfl) (all_cons (fact_leq_t rfl rfl c5) (all_cons (fact_geq_t rfl rfl c4) (all_cons (fact_ne rfl rfl c3) (all_cons (d7) (all_cons (fact_num rfl rfl rfl (binI_rem (by simp only [sg, val]; omega) (by decide)) (by simp only [sg, val]; omega)) (all_cons (d11) (all_cons (d5) (all_cons (fact_num rfl rfl rfl (binI_rem (by simp only [sg, val]; omega) (by decide)) (by simp only [sg, val]; omega)) (all_cons (d10) (all_cons (d3) (all_cons (d2) (all_cons (d1) (all_nil)))))))))))))))))))))))) (all_cons (conv_num rfl rfl (by simp only [sg, val, wrap_u8, wrap_u16, wrap_u32, wrap_u64]; first | rfl | omega | (rw [wrap_i64 (by omega) (by omega)]; omega))) (all_cons (d0) (all_nil)))
      · rcases (show ((qq % 2) = 0) ∨ (¬ (qq % 2) = 0) by omega) with c3 | c3
        · have c4 : ((view + 1) % 4294967296) ≥ 1 := by omega
          have c5 : ((view + 1) % 4294967296) ≤ 1048576 := by omega
          have c6 : ¬ 0 ≥ ((view + 1) % 4294967296) := by omega
          have c7 : ¬ ((view + 1) % 4294967296) ≤ 0 := by omega
          have c8 : ¬ ((view + 1) % 4294967296) < ((view + 1) % 4294967296) := by omega
          have c9 : ¬ 1048576 < ((view + 1) % 4294967296) := by omega
          have c10 : 0 < ((view + 1) % 4294967296) := by omega
          have c11 : ((view + 1) % 4294967296) > 0 := by omega
          have c12 : ¬ 0 = ((view + 1) % 4294967296) := by omega
          have c13 : ((view + 1) % 4294967296) = ((view + 1) % 4294967296) := by omega
          have c14 : ((view + 1) % 4294967296) ≤ ((view + 1) % 4294967296) := by omega
          have c15 : 0 ≤ ((view + 1) % 4294967296) := by omega
          exact L ran18 0 (q := q40) rfl rfl rfl (all_cons (fact_leq_t rfl rfl c15) (all_cons (fact_leq_t rfl rfl c14) (all_cons (fact_neq_f rfl rfl c13) (all_cons (fact_ne rfl rfl c12) (all_cons (fact_gtr_t rfl rfl c11) (all_cons (fact_lss_t rfl rfl c10) (all_cons (fact_lss_f rfl rfl c9) (all_cons (fact_lss_f rfl rfl c8) (all_cons (fact_leq_f rfl rfl c7) (all_cons (fact_geq_f rfl rfl c6) (all_cons (fact_eq rfl rfl rfl) (all_cons (fact_leq_t rfl rfl c5) (all_cons (fact_geq_t rfl rfl c4) (all_cons (fact_eq rfl rfl c3) (all_cons (d7) (all_cons (fact_num rfl rfl rfl (binI_rem (by simp only [sg, val]; omega) (by decide)) (by simp only [sg, val]; omega)) (all_cons (d11) (all_cons (d5) (all_cons (fact_num rfl rfl rfl (binI_rem (by simp only [sg, val]; omega) (by decide)) (by simp only [sg, val]; omega)) (all_cons (d10) (all_cons (d3) (all_cons (d2) (all_cons (d1) (all_nil)))))))))))))))))))))))) (all_cons (conv_num rfl rfl (by simp only [sg, val, wrap_u8, wrap_u16, wrap_u32, wrap_u64]; first | rfl | omega | (rw [wrap_i64 (by omega) (by omega)]; omega))) (all_cons (d0) (all_nil)))
        · have c4 : ((view + 1) % 4294967296) ≥ 1 := by omega
          have c5 : ((view + 1) % 4294967296) ≤ 1048576 := by omega
          have c6 : ¬ 0 ≥ ((view + 1) % 4294967296) := by omega
          have c7 : ¬ ((view + 1) % 4294967296) ≤ 0 := by omega
          have c8 : ¬ ((view + 1) % 4294967296) < ((view + 1) % 4294967296) := by omega
          have c9 : ¬ 1048576 < ((view + 1) % 4294967296) := by omega
          have c10 : 0 < ((view + 1) % 4294967296) := by omega
          have c11 : ((view + 1) % 4294967296) > 0 := by omega
          have c12 : ¬ 0 = ((view + 1) % 4294967296) := by omega
          have c13 : ((view + 1) % 4294967296) = ((view + 1) % 4294967296) := by omega
          have c14 : ((view + 1) % 4294967296) ≤ ((view + 1) % 4294967296) := by omega
          have c15 : 0 ≤ ((view + 1) % 4294967296) := by omega
          exact L ran18 1 (q := q41) rfl rfl rfl (all_cons (fact_leq_t rfl rfl c15) (all_cons (fact_leq_t rfl rfl c14) (all_cons (fact_neq_f rfl rfl c13) (all_cons (fact_ne rfl rfl c12) (all_cons (fact_gtr_t rfl rfl c11) (all_cons (fact_lss_t rfl rfl c10) (all_cons (fact_lss_f rfl rfl c9) (all_cons (fact_lss_f rfl rfl c8) (all_cons (fact_leq_f rfl rfl c7) (all_cons (fact_geq_f rfl rfl c6) (all_cons (fact_eq rfl rfl rfl) (all_cons (fact_leq_t rfl rfl c5) (all_cons (fact_geq_t rfl rfl c4) (all_cons (fact_ne rfl rfl c3) (all_cons (d7) (all_cons (fact_num rfl rfl rfl (binI_rem (by simp only [sg, val]; omega) (by decide)) (by simp only [sg, val]; omega)) (all_cons (d11) (all_cons (d5) (all_cons (fact_num rfl rfl rfl (binI_rem (by simp only [sg, val]; omega) (by decide)) (by simp only [sg, val]; omega)) (all_cons (d10) (all_cons (d3) (all_cons (d2) (all_cons (d1) (all_nil)))))))))))))))))))))))) (all_cons (conv_num rfl rfl (by simp only [sg, val, wrap_u8, wrap_u16, wrap_u32, wrap_u64]; first | rfl | omega | (rw [wrap_i64 (by omega) (by omega)]; omega))) (all_cons (d0) (all_nil)))
    · rcases (show (((3 + (second_ % 3)) % 256) % 4) = 0 ∨ (((3 + (second_ % 3)) % 256) % 4) = 1 ∨ (((3 + (second_ % 3)) % 256) % 4) = 3 by omega) with c2 | c2 | c2
      · rcases (show ((qq % 2) = 0) ∨ (¬ (qq % 2) = 0) by omega) with c3 | c3
        · have c4 : ((view + 1) % 4294967296) ≥ 1 := by omega
          have c5 : ((view + 1) % 4294967296) ≤ 1048576 := by omega
          have c6 : ¬ 0 ≥ ((view + 1) % 4294967296) := by omega
          have c7 : ¬ ((view + 1) % 4294967296) ≤ 0 := by omega
          have c8 : ¬ ((view + 1) % 4294967296) < ((view + 1) % 4294967296) := by omega
          have c9 : ¬ 1048576 < ((view + 1) % 4294967296) := by omega
          have c10 : 0 < ((view + 1) % 4294967296) := by omega
          have c11 : ((view + 1) % 4294967296) > 0 := by omega
          have c12 : ¬ 0 = ((view + 1) % 4294967296) := by omega
          have c13 : ((view + 1) % 4294967296) = ((view + 1) % 4294967296) := by omega
          have c14 : ((view + 1) % 4294967296) ≤ ((view + 1) % 4294967296) := by omega
          have c15 : 0 ≤ ((view + 1) % 4294967296) := by omega
          exact L ran19 0 (q := q42) rfl rfl rfl (all_cons (fact_leq_t rfl rfl c15) (all_cons (fact_leq_t rfl rfl c14) (all_cons (fact_neq_f rfl rfl c13) (all_cons (fact_ne rfl rfl c12) (all_cons (fact_gtr_t rfl rfl c11) (all_cons (fact_lss_t rfl rfl c10) (all_cons (fact_lss_f rfl rfl c9) (all_cons (fact_lss_f rfl rfl c8) (all_cons (fact_leq_f rfl rfl c7) (all_cons (fact_geq_f rfl rfl c6) (all_cons (fact_eq rfl rfl rfl) (all_cons (fact_leq_t rfl rfl c5) (all_cons (fact_geq_t rfl rfl c4) (all_cons (fact_eq rfl rfl c3) (all_cons (d7) (all_cons (fact_num rfl rfl rfl (binI_rem (by simp only [sg, val]; omega) (by decide)) (by simp only [sg, val]; omega)) (all_cons (d11) (all_cons (d5) (all_cons (fact_num rfl rfl rfl (binI_rem (by simp only [sg, val]; omega) (by decide)) (by simp only [sg, val]; omega)) (all_cons (d10) (all_cons (d3) (all_cons (d2) (all_cons (d1) (all_nil)))))))))))))))))))))))) (all_cons (conv_num rfl rfl (by simp only [sg, val, wrap_u8, wrap_u16, wrap_u32, wrap_u64]; first | rfl | omega | (rw [wrap_i64 (by omega) (by omega)]; omega))) (all_cons (d0) (all_nil)))
        · have c4 : ((view + 1) % 4294967296) ≥ 1 := by omega
          have c5 : ((view + 1) % 4294967296) ≤ 1048576 := by omega
          have c6 : ¬ 0 ≥ ((view + 1) % 4294967296) := by omega
          have c7 : ¬ ((view + 1) % 4294967296) ≤ 0 := by omega
          have c8 : ¬ ((view + 1) % 4294967296) < ((view + 1) % 4294967296) := by omega
          have c9 : ¬ 1048576 < ((view + 1) % 4294967296) := by omega
          have c10 : 0 < ((view + 1) % 4294967296) := by omega
          have c11 : ((view + 1) % 4294967296) > 0 := by omega
          have c12 : ¬ 0 = ((view + 1) % 4294967296) := by omega
          have c13 : ((view + 1) % 4294967296) = ((view + 1) % 4294967296) := by omega
          have c14 : ((view + 1) % 4294967296) ≤ ((view + 1) % 4294967296) := by omega
          have c15 : 0 ≤ ((view + 1) % 4294967296) := by omega
          exact L ran19 1 (q := q43) rfl rfl rfl (all_cons (fact_leq_t rfl rfl c15) (all_cons (fact_leq_t rfl rfl c14) (all_cons (fact_neq_f rfl rfl c13) (all_cons (fact_ne rfl rfl c12) (all_cons (fact_gtr_t rfl rfl c11) (all_cons (fact_lss_t rfl rfl c10) (all_cons (fact_lss_f rfl rfl c9) (all_cons (fact_lss_f rfl rfl c8) (all_cons (fact_leq_f rfl rfl c7) (all_cons (fact_geq_f rfl rfl c6) (all_cons (fact_eq rfl rfl rfl) (all_cons (fact_leq_t rfl rfl c5) (all_cons (fact_geq_t rfl rfl c4) (all_cons (fact_ne rfl rfl c3) (all_cons (d7) (all_cons (fact_num rfl rfl rfl (binI_rem (by simp only [sg, val]; omega) (by decide)) (by simp only [sg, val]; omega)) (all_cons (d11) (all_cons (d5) (all_cons (fact_num rfl rfl rfl (binI_rem (by simp only [sg, val]; omega) (by decide)) (by simp only [sg, val]; omega)) (all_cons (d10) (all_cons (d3) (all_cons (d2) (all_cons (d1) (all_nil)))))))))))))))))))))))) (all_cons (conv_num rfl rfl (by simp only [sg, val, wrap_u8, wrap_u16, wrap_u32, wrap_u64]; first | rfl | omega | (rw [wrap_i64 (by omega) (by omega)]; omega))) (all_cons (d0) (all_nil)))
      · rcases (show ((qq % 2) = 0) ∨ (¬ (qq % 2) = 0) by omega) with c3 | c3
        · have c4 : ((view + 1) % 4294967296) ≥ 1 := by omega
          have c5 : ((view + 1) % 4294967296) ≤ 1048576 := by omega
          have c6 : ¬ 0 ≥ ((view + 1) % 4294967296) := by omega
          have c7 : ¬ ((view + 1) % 4294967296) ≤ 0 := by omega
          have c8 : ((view + 1) % 4294967296) ≥ ((view + 1) % 4294967296) := by omega
          exact L ran20 0 (q := q44) rfl rfl rfl (all_cons (fact_geq_t rfl rfl c8) (all_cons (fact_leq_f rfl rfl c7) (all_cons (fact_geq_f rfl rfl c6) (all_cons (fact_eq rfl rfl rfl) (all_cons (fact_leq_t rfl rfl c5) (all_cons (fact_geq_t rfl rfl c4) (all_cons (fact_eq rfl rfl c3) (all_cons (d7) (all_cons (fact_num rfl rfl rfl (binI_rem (by simp only [sg, val]; omega) (by decide)) (by simp only [sg, val]; omega)) (all_cons (d11) (all_cons (d5) (all_cons (fact_num rfl rfl rfl (binI_rem (by simp only [sg, val]; omega) (by decide)) (by simp only [sg, val]; omega)) (all_cons (d10) (all_cons (d3) (all_cons (d2) (all_cons (d1) (all_nil))))))))))))))))) (all_cons (conv_num rfl rfl (by simp only [sg, val, wrap_u8, wrap_u16, wrap_u32, wrap_u64]; first | rfl | omega | (rw [wrap_i64 (by omega) (by omega)]; omega))) (all_cons (d0) (all_nil)))
        · have c4 : ((view + 1) % 4294967296) ≥ 1 := by omega
          have c5 : ((view + 1) % 4294967296) ≤ 1048576 := by omega
          have c6 : ¬ 0 ≥ ((view + 1) % 4294967296) := by omega
          have c7 : ¬ ((view + 1) % 4294967296) ≤ 0 := by omega
          have c8 : ((view + 1) % 4294967296) ≥ ((view + 1) % 4294967296) := by omega
          exact L ran20 1 (q := q45) rfl rfl rfl (all_cons (fact_geq_t rfl rfl c8) (all_cons (fact_leq_f rfl rfl c7) (all_cons (fact_geq_f rfl rfl c6) (all_cons (fact_eq rfl rfl rfl) (all_cons (fact_leq_t rfl rfl c5) (all_cons (fact_geq_t rfl rfl c4) (all_cons (fact_ne rfl rfl c3) (all_cons (d7) (all_cons (fact_num rfl rfl rfl (binI_rem (by simp only [sg, val]; omega) (by decide)) (by simp only [sg, val]; omega)) (all_cons (d11) (all_cons (d5) (all_cons (fact_num rfl rfl rfl (binI_rem (by simp only [sg, val]; omega) (by decide)) (by simp only [sg, val]; omega)) (all_cons (d10) (all_cons (d3) (all_cons (d2) (all_cons (d1) (all_nil))))))))))))))))) (all_cons (conv_num rfl rfl (by simp only [sg, val, wrap_u8, wrap_u16, wrap_u32, wrap_u64]; first | rfl | omega | (rw [wrap_i64 (by omega) (by omega)]; omega))) (all_cons (d0) (all_nil)))
      · rcases (show ((qq % 2) = 0) ∨ (¬ (qq % 2) = 0) by omega) with c3 | c3
        · have c4 : ((view + 1) % 4294967296) ≥ 1 := by omega
          have c5 : ((view + 1) % 4294967296) ≤ 1048576 := by omega
          have c6 : ¬ 0 ≥ ((view + 1) % 4294967296) := by omega
          have c7 : ¬ ((view + 1) % 4294967296) ≤ 0 := by omega
          have c8 : ¬ ((view + 1) % 4294967296) < ((view + 1) % 4294967296) := by omega
          have c9 : ¬ 1048576 < ((view + 1) % 4294967296) := by omega
          have c10 : 0 < ((view + 1) % 4294967296) := by omega
          have c11 : ¬ 0 = ((view + 1) % 4294967296) := by omega
          have c12 : ((view + 1) % 4294967296) > 0 := by omega
          have c13 : ((view + 1) % 4294967296) = ((view + 1) % 4294967296) := by omega
          have c14 : 0 ≤ ((view + 1) % 4294967296) := by omega
          have c15 : ((view + 1) % 4294967296) ≤ ((view + 1) % 4294967296) := by omega
          exact L ran20 2 (q := q46) rfl rfl rfl (all_cons (fact_leq_t rfl rfl c15) (all_cons (fact_leq_t rfl rfl c14) (all_cons (fact_neq_f rfl rfl c13) (all_cons (fact_gtr_t rfl rfl c12) (all_cons (fact_ne rfl rfl c11) (all_cons (fact_lss_t rfl rfl c10) (all_cons (fact_lss_f rfl rfl c9) (all_cons (fact_lss_f rfl rfl c8) (all_cons (fact_leq_f rfl rfl c7) (all_cons (fact_geq_f rfl rfl c6) (all_cons (fact_eq rfl rfl rfl) (all_cons (fact_leq_t rfl rfl c5) (all_cons (fact_geq_t rfl rfl c4) (all_cons (fact_eq rfl rfl c3) (all_cons (d7) (all_cons (fact_num rfl rfl rfl (binI_rem (by simp only [sg, val]; omega) (by decide)) (by simp only [sg, val]; omega)) (all_cons (d11) (all_cons (d5) (all_cons (fact_num rfl rfl rfl (binI_rem (by simp only [sg, val]; omega) (by decide)) (by simp only [sg, val]; omega)) (all_cons (d10) (all_cons (d3) (all_cons (d2) (all_cons (d1) (all_nil)))))))))))))))))))))))) (all_cons (conv_num rfl rfl (by simp only [sg, val, wrap_u8, wrap_u16, wrap_u32, wrap_u64]; first | rfl | omega | (rw [wrap_i64 (by omega) (by omega)]; omega))) (all_cons (d0) (all_nil)))
        · have c4 : ((view + 1) % 4294967296) ≥ 1 := by omega
          have c5 : ((view + 1) % 4294967296) ≤ 1048576 := by omega
          have c6 : ¬ 0 ≥ ((view + 1) % 4294967296) := by omega
          have c7 : ¬ ((view + 1) % 4294967296) ≤ 0 := by omega
          have c8 : ¬ ((view + 1) % 4294967296) < ((view + 1) % 4294967296) := by omega
          have c9 : ¬ 1048576 < ((view + 1) % 4294967296) := by omega
          have c10 : 0 < ((view + 1) % 4294967296) := by omega
          have c11 : ¬ 0 = ((view + 1) % 4294967296) := by omega
          have c12 : ((view + 1) % 4294967296) > 0 := by omega
          have c13 : ((view + 1) % 4294967296) = ((view + 1) % 4294967296) := by omega
          have c14 : 0 ≤ ((view + 1) % 4294967296) := by omega
          have c15 : ((view + 1) % 4294967296) ≤ ((view + 1) % 4294967296) := by omega
          exact L ran21 0 (q := q47) rfl rfl rfl (all_cons (fact_leq_t rfl rfl c15) (all_cons (fact_leq_t rfl rfl c14) (all_cons (fact_neq_f rfl rfl c13) (all_cons (fact_gtr_t rfl rfl c12) (all_cons (fact_ne rfl rfl c11) (all_cons (fact_lss_t rfl rfl c10) (all_cons (fact_lss_f rfl rfl c9) (all_cons (fact_lss_f rfl rfl c8) (all_cons (fact_leq_f rfl rfl c7) (all_cons (fact_geq_f rfl rfl c6) (all_cons (fact_eq rfl rfl rfl) (all_cons (fact_leq_t rfl rfl c5) (all_cons (fact_geq_t rfl rfl c4) (all_cons (fact_ne rfl rfl c3) (all_cons (d7) (all_cons (fact_num rfl rfl rfl (binI_rem (by simp only [sg, val]; omega) (by decide)) (by simp only [sg, val]; omega)) (all_cons (d11) (all_cons (d5) (all_cons (fact_num rfl rfl rfl (binI_rem (by simp only [sg, val]; omega) (by decide)) (by simp only [sg, val]; omega)) (all_cons (d10) (all_cons (d3) (all_cons (d2) (all_cons (d1) (all_nil)))))))))))))))))))))))) (all_cons (conv_num rfl rfl (by simp only [sg, val, wrap_u8, wrap_u16, wrap_u32, wrap_u64]; first | rfl | omega | (rw [wrap_i64 (by omega) (by omega)]; omega))) (all_cons (d0) (all_nil)))
    · rcases (show (((3 + (second_ % 3)) % 256) % 4) = 0 ∨ (((3 + (second_ % 3)) % 256) % 4) = 1 ∨ (((3 + (second_ % 3)) % 256) % 4) = 3 by omega) with c2 | c2 | c2
      · rcases (show ((qq % 2) = 0) ∨ (¬ (qq % 2) = 0) by omega) with c3 | c3
        · have c4 : ((view + 1) % 4294967296) ≥ 1 := by omega
          have c5 : ((view + 1) % 4294967296) ≤ 1048576 := by omega
          have c6 : ¬ 0 ≥ ((view + 1) % 4294967296) := by omega
          have c7 : ¬ ((view + 1) % 4294967296) ≤ 0 := by omega
          have c8 : ¬ ((view + 1) % 4294967296) < ((view + 1) % 4294967296) := by omega
          have c9 : ¬ 1048576 < ((view + 1) % 4294967296) := by omega
          have c10 : 0 < ((view + 1) % 4294967296) := by omega
          have c11 : ((view + 1) % 4294967296) > 0 := by omega
          have c12 : ¬ 0 = ((view + 1) % 4294967296) := by omega
          have c13 : ((view + 1) % 4294967296) = ((view + 1) % 4294967296) := by omega
          have c14 : ((view + 1) % 4294967296) ≤ ((view + 1) % 4294967296) := by omega
          have c15 : 0 ≤ ((view + 1) % 4294967296) := by omega
          exact L ran21 1 (q := q48) rfl rfl rfl (all_cons (fact_leq_t rfl rfl c15) (all_cons (fact_leq_t rfl rfl c14) (all_cons (fact_neq_f rfl rfl c13) (all_cons (fact_ne rfl rfl c12) (all_cons (fact_gtr_t rfl rfl c11) (all_cons (fact_lss_t rfl rfl c10) (all_cons (fact_lss_f rfl rfl c9) (all_cons (fact_lss_f rfl rfl c8) (all_cons (fact_leq_f rfl rfl c7) (all_cons (fact_geq_f rfl rfl c6) (all_cons (fact_eq rfl rfl rfl) (all_cons (fact_leq_t rfl rfl c5) (all_cons (fact_geq_t rfl rfl c4) (all_cons (fact_eq rfl rfl c3) (all_cons (d7) (all_cons (fact_num rfl rfl rfl (binI_rem (by simp only [sg, val]; omega) (by decide)) (by simp only [sg, val]; omega)) (all_cons (d11) (all_cons (d5) (all_cons (fact_num rfl rfl rfl (binI_rem (by simp only [sg, val]; omega) (by decide)) (by simp only [sg, val]; omega)) (all_cons (d10) (all_cons (d3) (all_cons (d2) (all_cons (d1) (all_nil)))))))))))))))))))))))) (all_cons (conv_num rfl rfl (by simp only [sg, val, wrap_u8, wrap_u16, wrap_u32, wrap_u64]; first | rfl | omega | (rw [wrap_i64 (by omega) (by omega)]; omega))) (all_cons (d0) (all_nil)))
        · have c4 : ((view + 1) % 4294967296) ≥ 1 := by omega
          have c5 : ((view + 1) % 4294967296) ≤ 1048576 := by omega
          have c6 : ¬ 0 ≥ ((view + 1) % 4294967296) := by omega
          have c7 : ¬ ((view + 1) % 4294967296) ≤ 0 := by omega
          have c8 : ¬ ((view + 1) % 4294967296) < ((view + 1) % 4294967296) := by omega
          have c9 : ¬ 1048576 < ((view + 1) % 4294967296) := by omega
          have c10 : 0 < ((view + 1) % 4294967296) := by omega
          have c11 : ((view + 1) % 4294967296) > 0 := by omega
          have c12 : ¬ 0 = ((view + 1) % 4294967296) := by omega
          have c13 : ((view + 1) % 4294967296) = ((view + 1) % 4294967296) := by omega
          have c14 : ((view + 1) % 4294967296) ≤ ((view + 1) % 4294967296) := by omega
          have c15 : 0 ≤ ((view + 1) % 4294967296) := by omega
          exact L ran22 0 (q := q49) rfl rfl rfl (all_cons (fact_leq_t rfl rfl c15) (all_cons (fact_leq_t rfl rfl c14) (all_cons (fact_neq_f rfl rfl c13) (all_cons (fact_ne rfl rfl c12) (all_cons (fact_gtr_t rfl rfl c11) (all_cons (fact_lss_t rfl rfl c10) (all_cons (fact_lss_f rfl rfl c9) (all_cons (fact_lss_f rfl rfl c8) (all_cons (fact_leq_f rfl rfl c7) (all_cons (fact_geq_f rfl rfl c6) (all_cons (fact_eq rfl rfl rfl) (all_cons (fact_leq_t rfl rfl c5) (all_cons (fact_geq_t rfl rfl c4) (all_cons (fact_ne rfl rfl c3) (all_cons (d7) (all_cons (fact_num rfl rfl rfl (binI_rem (by simp only [sg, val]; omega) (by decide)) (by simp only [sg, val]; omega)) (all_cons (d11) (all_cons (d5) (all_cons (fact_num rfl rfl rfl (binI_rem (by simp only [sg, val]; omega) (by decide)) (by simp only [sg, val]; omega)) (all_cons (d10) (all_cons (d3) (all_cons (d2) (all_cons (d1) (all_nil)))))))))))))))))))))))) (all_cons (conv_num rfl rfl (by simp only [sg, val, wrap_u8, wrap_u16, wrap_u32, wrap_u64]; first | rfl | omega | (rw [wrap_i64 (by omega) (by omega)]; omega))) (all_cons (d0) (all_nil)))
      · rcases (show ((qq % 2) = 0) ∨ (¬ (qq % 2) = 0) by omega) with c3 | c3
        · have c4 : ((view + 1) % 4294967296) ≥ 1 := by omega
          have c5 : ((view + 1) % 4294967296) ≤ 1048576 := by omega
          have c6 : ¬ 0 ≥ ((view + 1) % 4294967296) := by omega
          have c7 : ¬ ((view + 1) % 4294967296) ≤ 0 := by omega
          have c8 : ¬ ((view + 1) % 4294967296) < ((view + 1) % 4294967296) := by omega
          have c9 : ¬ 1048576 < ((view + 1) % 4294967296) := by omega
          have c10 : 0 < ((view + 1) % 4294967296) := by omega
          have c11 : ¬ 0 = ((view + 1) % 4294967296) := by omega
          have c12 : ((view + 1) % 4294967296) > 0 := by omega
          have c13 : ((view + 1) % 4294967296) = ((view + 1) % 4294967296) := by omega
          have c14 : 0 ≤ ((view + 1) % 4294967296) := by omega
          have c15 : ((view + 1) % 4294967296) ≤ ((view + 1) % 4294967296) := by omega
          exact L ran22 1 (q := q50) rfl rfl rfl (all_cons (fact_leq_t rfl rfl c15) (all_cons (fact_leq_t rfl rfl c14) (all_cons (fact_neq_f rfl rfl c13) (all_cons (fact_gtr_t rfl rfl c12) (all_cons (fact_ne rfl rfl c11) (all_cons (fact_lss_t rfl rfl c10) (all_cons (fact_lss_f rfl rfl c9) (all_cons (fact_lss_f rfl rfl c8) (all_cons (fact_leq_f rfl rfl c7) (all_cons (fact_geq_f rfl rfl c6) (all_cons (fact_eq rfl rfl rfl) (all_cons (fact_leq_t rfl rfl c5) (all_cons (fact_geq_t rfl rfl c4) (all_cons (fact_eq rfl rfl c3) (all_cons (d7) (all_cons (fact_num rfl rfl rfl (binI_rem (by simp only [sg, val]; omega) (by decide)) (by simp only [sg, val]; omega)) (all_cons (d11) (all_cons (d5) (all_cons (fact_num rfl rfl rfl (binI_rem (by simp only [sg, val]; omega) (by decide)) (by simp only [sg, val]; omega)) (all_cons (d10) (all_cons (d3) (all_cons (d2) (all_cons (d1) (all_nil)))))))))))))))))))))))) (all_cons (conv_num rfl rfl (by simp only [sg, val, wrap_u8, wrap_u16, wrap_u32, wrap_u64]; first | rfl | omega | (rw [wrap_i64 (by omega) (by omega)]; omega))) (all_cons (d0) (all_nil)))
        · have c4 : ((view + 1) % 4294967296) ≥ 1 := by omega
          have c5 : ((view + 1) % 4294967296) ≤ 1048576 := by omega
          have c6 : ¬ 0 ≥ ((view + 1) % 4294967296) := by omega
          have c7 : ¬ ((view + 1) % 4294967296) ≤ 0 := by omega
          have c8 : ¬ ((view + 1) % 4294967296) < ((view + 1) % 4294967296) := by omega
          have c9 : ¬ 1048576 < ((view + 1) % 4294967296) := by omega
          have c10 : 0 < ((view + 1) % 4294967296) := by omega
          have c11 : ¬ 0 = ((view + 1) % 4294967296) := by omega
          have c12 : ((view + 1) % 4294967296) > 0 := by omega
          have c13 : ((view + 1) % 4294967296) = ((view + 1) % 4294967296) := by omega
          have c14 : 0 ≤ ((view + 1) % 4294967296) := by omega
          have c15 : ((view + 1) % 4294967296) ≤ ((view + 1) % 4294967296) := by omega
          exact L ran23 0 (q := q51) rfl rfl rfl (all_cons (fact_leq_t rfl rfl c15) (all_cons (fact_leq_t rfl rfl c14) (all_cons (fact_neq_f rfl rfl c13) (all_cons (fact_gtr_t rfl rfl c12) (all_cons (fact_ne rfl rfl c11) (all_cons (fact_lss_t rfl rfl c10) (all_cons (fact_lss_f rfl rfl c9) (all_cons (fact_lss_f rfl rfl c8) (all_cons (fact_leq_f rfl rfl c7) (all_cons (fact_geq_f rfl rfl c6) (all_cons (fact_eq rfl rfl rfl) (all_cons (fact_leq_t rfl rfl c5) (all_cons (fact_geq_t rfl rfl c4) (all_cons (fact_ne rfl rfl c3) (all_cons (d7) (all_cons (fact_num rfl rfl rfl (binI_rem (by simp only [sg, val]; omega) (by decide)) (by simp only [sg, val]; omega)) (all_cons (d11) (all_cons (d5) (all_cons (fact_num rfl rfl rfl (binI_rem (by simp only [sg, val]; omega) (by decide)) (by simp only [sg, val]; omega)) (all_cons (d10) (all_cons (d3) (all_cons (d2) (all_cons (d1) (all_nil)))))))))))))))))))))))) (all_cons (conv_num rfl rfl (by simp only [sg, val, wrap_u8, wrap_u16, wrap_u32, wrap_u64]; first | rfl | omega | (rw [wrap_i64 (by omega) (by omega)]; omega))) (all_cons (d0) (all_nil)))
      · rcases (show ((qq % 2) = 0) ∨ (¬ (qq % 2) = 0) by omega) with c3 | c3
        · have c4 : ((view + 1) % 4294967296) ≥ 1 := by omega
          have c5 : ((view + 1) % 4294967296) ≤ 1048576 := by omega
          have c6 : ¬ 0 ≥ ((view + 1) % 4294967296) := by omega
          have c7 : ¬ ((view + 1) % 4294967296) ≤ 0 := by omega
          have c8 : ((view + 1) % 4294967296) ≥ ((view + 1) % 4294967296) := by omega
          exact L ran23 1 (q := q52) rfl rfl rfl (all_cons (fact_geq_t rfl rfl c8) (all_cons (fact_leq_f rfl rfl c7) (all_cons (fact_geq_f rfl rfl c6) (all_cons (fact_eq rfl rfl rfl) (all_cons (fact_leq_t rfl rfl c5) (all_cons (fact_geq_t rfl rfl c4) (all_cons (fact_eq rfl rfl c3) (all_cons (d7) (all_cons (fact_num rfl rfl rfl (binI_rem (by simp only [sg, val]; omega) (by decide)) (by simp only [sg, val]; omega)) (all_cons (d11) (all_cons (d5) (all_cons (fact_num rfl rfl rfl (binI_rem (by simp only [sg, val]; omega) (by decide)) (by simp only [sg, val]; omega)) (all_cons (d10) (all_cons (d3) (all_cons (d2) (all_cons (d1) (all_nil))))))))))))))))) (all_cons (conv_num rfl rfl (by simp only [sg, val, wrap_u8, wrap_u16, wrap_u32, wrap_u64]; first | rfl | omega | (rw [wrap_i64 (by omega) (by omega)]; omega))) (all_cons (d0) (all_nil)))
        · have c4 : ((view + 1) % 4294967296) ≥ 1 := by omega
          have c5 : ((view + 1) % 4294967296) ≤ 1048576 := by omega
          have c6 : ¬ 0 ≥ ((view + 1) % 4294967296) := by omega
          have c7 : ¬ ((view + 1) % 4294967296) ≤ 0 := by omega
          have c8 : ((view + 1) % 4294967296) ≥ ((view + 1) % 4294967296) := by omega
          exact L ran24 0 (q := q53) rfl rfl rfl (all_cons (fact_geq_t rfl rfl c8) (all_cons (fact_leq_f rfl rfl c7) (all_cons (fact_geq_f rfl rfl c6) (all_cons (fact_eq rfl rfl rfl) (all_cons (fact_leq_t rfl rfl c5) (all_cons (fact_geq_t rfl rfl c4) (all_cons (fact_ne rfl rfl c3) (all_cons (d7) (all_cons (fact_num rfl rfl rfl (binI_rem (by simp only [sg, val]; omega) (by decide)) (by simp only [sg, val]; omega)) (all_cons (d11) (all_cons (d5) (all_cons (fact_num rfl rfl rfl (binI_rem (by simp only [sg, val]; omega) (by decide)) (by simp only [sg, val]; omega)) (all_cons (d10) (all_cons (d3) (all_cons (d2) (all_cons (d1) (all_nil))))))))))))))))) (all_cons (conv_num rfl rfl (by simp only [sg, val, wrap_u8, wrap_u16, wrap_u32, wrap_u64]; first | rfl | omega | (rw [wrap_i64 (by omega) (by omega)]; omega))) (all_cons (d0) (all_nil)))
  · rcases (show (((4 + (first_ % 3)) % 256) % 4) = 0 ∨ (((4 + (first_ % 3)) % 256) % 4) = 1 ∨ (((4 + (first_ % 3)) % 256) % 4) = 2 by omega) with c1 | c1 | c1
    · rcases (show (((4 + (second_ % 3)) % 256) % 4) = 0 ∨ (((4 + (second_ % 3)) % 256) % 4) = 1 ∨ (((4 + (second_ % 3)) % 256) % 4) = 2 by omega) with c2 | c2 | c2
      · rcases (show ((qq % 2) = 0) ∨ (¬ (qq % 2) = 0) by omega) with c3 | c3
        · have c4 : ((view + 1) % 4294967296) ≥ 1 := by omega
          have c5 : ((view + 1) % 4294967296) ≤ 1048576 := by omega
          have c6 : ¬ 0 ≥ ((view + 1) % 4294967296) := by omega
          have c7 : ¬ ((view + 1) % 4294967296) ≤ 0 := by omega
          have c8 : ((view + 1) % 4294967296) ≥ ((view + 1) % 4294967296) := by omega
          exact L ran24 1 (q := q54) rfl rfl rfl (all_cons (fact_geq_t rfl rfl c8) (all_cons (fact_leq_f rfl rfl c7) (all_cons (fact_geq_f rfl rfl c6) (all_cons (fact_eq rfl rfl rfl) (all_cons (fact_leq_t rfl rfl c5) (all_cons (fact_geq_t rfl rfl c4) (all_cons (fact_eq rfl rfl c3) (all_cons (d7) (all_cons (fact_num rfl rfl rfl (binI_rem (by simp only [sg, val]; omega) (by decide)) (by simp only [sg, val]; omega)) (all_cons (d13) (all_cons (d5) (all_cons (fact_num rfl rfl rfl (binI_rem (by simp only [sg, val]; omega) (by decide)) (by simp only [sg, val]; omega)) (all_cons (d12) (all_cons (d3) (all_cons (d2) (all_cons (d1) (all_nil))))))))))))))))) (all_cons (conv_num rfl rfl (by simp only [sg, val, wrap_u8, wrap_u16, wrap_u32, wrap_u64]; first | rfl | omega | (rw [wrap_i64 (by omega) (by omega)]; omega))) (all_cons (d0) (all_nil)))
        · have c4 : ((view + 1) % 4294967296) ≥ 1 := by omega
          have c5 : ((view + 1) % 4294967296) ≤ 1048576 := by omega
          have c6 : ¬ 0 ≥ ((view + 1) % 4294967296) := by omega
          have c7 : ¬ ((view + 1) % 4294967296) ≤ 0 := by omega
          have c8 : ((view + 1) % 4294967296) ≥ ((view + 1) % 4294967296) := by omega
          exact L ran24 2 (q := q55) rfl rfl rfl (all_cons (fact_geq_t rfl rfl c8) (all_cons (fact_leq_f rfl rfl c7) (all_cons (fact_geq_f rfl rfl c6) (all_cons (fact_eq rfl rfl rfl) (all_cons (fact_leq_t rfl rfl c5) (all_cons (fact_geq_t rfl rfl c4) (all_cons (fact_ne rfl rfl c3) (all_cons (d7) (all_cons (fact_num rfl rfl rfl (binI_rem (by simp only [sg, val]; omega) (by decide)) (by simp only [sg, val]; omega)) (all_cons (d13) (all_cons (d5) (all_cons (fact_num rfl rfl rfl (binI_rem (by simp only [sg, val]; omega) (by decide)) (by simp only [sg, val]; omega)) (all_cons (d12) (all_cons (d3) (all_cons (d2) (all_cons (d1) (all_nil))))))))))))))))) (all_cons (conv_num rfl rfl (by simp only [sg, val, wrap_u8, wrap_u16, wrap_u32, wrap_u64]; first | rfl | omega | (rw [wrap_i64 (by omega) (by omega)]; omega))) (all_cons (d0) (all_nil)))
      · rcases (show ((qq % 2) = 0) ∨ (¬ (qq % 2) = 0) by omega) with c3 | c3
        · have c4 : ((view + 1) % 4294967296) ≥ 1 := by omega
          have c5 : ((view + 1) % 4294967296) ≤ 1048576 := by omega
          have c6 : ¬ 0 ≥ ((view + 1) % 4294967296) := by omega
          have c7 : ¬ ((view + 1) % 4294967296) ≤ 0 := by omega
          have c8 : ¬ ((view + 1) % 4294967296) < ((view + 1) % 4294967296) := by omega
          have c9 : ¬ 1048576 < ((view + 1) % 4294967296) := by omega
          have c10 : 0 < ((view + 1) % 4294967296) := by omega
          have c11 : ((view + 1) % 4294967296) > 0 := by omega
          have c12 : ¬ 0 = ((view + 1) % 4294967296) := by omega
          have c13 : ((view + 1) % 4294967296) = ((view + 1) % 4294967296) := by omega
          have c14 : ((view + 1) % 4294967296) ≤ ((view + 1) % 4294967296) := by omega
          have c15 : 0 ≤ ((view + 1) % 4294967296) := by omega
          exact L ran25 0 (q := q56) rfl rfl rfl (all_cons (fact_leq_t rfl rfl c15) (all_cons (fact_leq_t rfl rfl c14) (all_cons (fact_neq_f rfl rfl c13) (all_cons (fact_ne rfl rfl c12) (all_cons (fact_gtr_t rfl rfl c11) (all_cons (fact_lss_t rfl rfl c10) (all_cons (fact_lss_f rfl rfl c9) (all_cons (fact_lss_f rfl rfl c8) (all_cons (fact_leq_f rfl rfl c7) (all_cons (fact_geq_f rfl rfl c6) (all_cons (fact_eq rfl rfl rfl) (all_cons (fact_leq_t rfl rfl c5) (all_cons (fact_geq_t rfl rfl c4) (all_cons (fact_eq rfl rfl c3) (all_cons (d7) (all_cons (fact_num rfl rfl rfl (binI_rem (by simp only [sg, val]; omega) (by decide)) (by simp only [sg, val]; omega)) (all_cons (d13) (all_cons (d5) (all_cons (fact_num rfl rfl rfl (binI_rem (by simp only [sg, val]; omega) (by decide)) (by simp only [sg, val]; omega)) (all_cons (d12) (all_cons (d3) (all_cons (d2) (all_cons (d1) (all_nil)))))))))))))))))))))))) (all_cons (conv_num rfl rfl (by simp only [sg, val, wrap_u8, wrap_u16, wrap_u32, wrap_u64]; first | rfl | omega | (rw [wrap_i64 (by omega) (by omega)]; omega))) (all_cons (d0) (all_nil)))
        · have c4 : ((view + 1) % 4294967296) ≥ 1 := by omega
          have c5 : ((view + 1) % 4294967296) ≤ 1048576 := by omega
          have c6 : ¬ 0 ≥ ((view + 1) % 4294967296) := by omega
          have c7 : ¬ ((view + 1) % 4294967296) ≤ 0 := by omega
          have c8 : ¬ ((view + 1) % 4294967296) < ((view + 1) % 4294967296) := by omega
          have c9 : ¬ 1048576 < ((view + 1) % 4294967296) := by omega
          have c10 : 0 < ((view + 1) % 4294967296) := by omega
          have c11 : ((view + 1) % 4294967296) > 0 := by omega
          have c12 : ¬ 0 = ((view + 1) % 4294967296) := by omega
          have c13 : ((view + 1) % 4294967296) = ((view + 1) % 4294967296) := by omega
          have c14 : ((view + 1) % 4294967296) ≤ ((view + 1) % 4294967296) := by omega
          have c15 : 0 ≤ ((view + 1) % 4294967296) := by omega
          exact L ran25 1 (q := q57) rfl rfl rfl (all_cons (fact_leq_t rfl rfl c15) (all_cons (fact_leq_t rfl rfl c14) (all_cons (fact_neq_f rfl rfl c13) (all_cons (fact_ne rfl rfl c12) (all_cons (fact_gtr_t rfl rfl c11) (all_cons (fact_lss_t rfl rfl c10) (all_cons (fact_lss_f rfl rfl c9) (all_cons (fact_lss_f rfl rfl c8) (all_cons (fact_leq_f rfl rfl c7) (all_cons (fact_geq_f rfl rfl c6) (all_cons (fact_eq rfl rfl rfl) (all_cons (fact_leq_t rfl rfl c5) (all_cons (fact_geq_t rfl rfl c4) (all_cons (fact_ne rfl rfl c3) (all_cons (d7) (all_cons (fact_num rfl rfl rfl (binI_rem (by simp only [sg, val]; omega) (by decide)) (by simp only [sg, val]; omega)) (all_cons (d13) (all_cons (d5) (all_cons (fact_num rfl rfl rfl (binI_rem (by simp only [sg, val]; omega) (by decide)) (by simp only [sg, val]; omega)) (all_cons (d12) (all_cons (d3) (all_cons (d2) (all_cons (d1) (all_nil)))))))))))))))))))))))) (all_cons (conv_num rfl rfl (by simp only [sg, val, wrap_u8, wrap_u16, wrap_u32, wrap_u64]; first | rfl | omega | (rw [wrap_i64 (by omega) (by omega)]; omega))) (all_cons (d0) (all_nil)))
      · rcases (show ((qq % 2) = 0) ∨ (¬ (qq % 2) = 0) by omega) with c3 | c3
        · have c4 : ((view + 1) % 4294967296) ≥ 1 := by omega
          have c5 : ((view + 1) % 4294967296) ≤ 1048576 := by omega
          have c6 : ¬ 0 ≥ ((view + 1) % 4294967296) := by omega
          have c7 : ¬ ((view + 1) % 4294967296) ≤ 0 := by omega
          have c8 : ¬ ((view + 1) % 4294967296) < ((view + 1) % 4294967296) := by omega
          have c9 : ¬ 1048576 < ((view + 1) % 4294967296) := by omega
          have c10 : 0 < ((view + 1) % 4294967296) := by omega
          have c11 : ((view + 1) % 4294967296) > 0 := by omega
          have c12 : ¬ 0 = ((view + 1) % 4294967296) := by omega
          have c13 : ((view + 1) % 4294967296) = ((view + 1) % 4294967296) := by omega
          have c14 : ((view + 1) % 4294967296) ≤ ((view + 1) % 4294967296) := by omega
          have c15 : 0 ≤ ((view + 1) % 4294967296) := by omega
          exact L ran26 0 (q := q58) rfl rfl rfl (all_cons (fact_leq_t rfl rfl c15) (all_cons (fact_leq_t rfl rfl c14) (all_cons (fact_neq_f rfl rfl c13) (all_cons (fact_ne rfl rfl c12) (all_cons (fact_gtr_t rfl rfl c11) (all_cons (fact_lss_t rfl rfl c10) (all_cons (fact_lss_f rfl rfl c9) (all_cons (fact_lss_f rfl rfl c8) (all_cons (fact_leq_f rfl rfl c7) (all_cons (fact_geq_f rfl rfl c6) (all_cons (fact_eq rfl rfl rfl) (all_cons (fact_leq_t rfl rfl c5) (all_cons (fact_geq_t rfl rfl c4) (all_cons (fact_eq rfl rfl c3) (all_cons (d7) (all_cons (fact_num rfl rfl rfl (binI_rem (by simp only [sg, val]; omega) (by decide)) (by simp only [sg, val]; omega)) (all_cons (d13) (all_cons (d5) (all_cons (fact_num rfl rfl rfl (binI_rem (by simp only [sg, val]; omega) (by decide)) (by simp only [sg, val]; omega)) (all_cons (d12) (all_cons (d3) (all_cons (d2) (all_cons (d1) (all_nil)))))))))))))))))))))))) (all_cons (conv_num rfl rfl (by simp only [sg, val, wrap_u8, wrap_u16, wrap_u32, wrap_u64]; first | rfl | omega | (rw [wrap_i64 (by omega) (by omega)]; omega))) (all_cons (d0) (all_nil)))
        · have c4 : ((view + 1) % 4294967296) ≥ 1 := by omega
          have c5 : ((view + 1) % 4294967296) ≤ 1048576 := by omega
          have c6 : ¬ 0 ≥ ((view + 1) % 4294967296) := by omega
          have c7 : ¬ ((view + 1) % 4294967296) ≤ 0 := by omega
          have c8 : ¬ ((view + 1) % 4294967296) < ((view + 1) % 4294967296) := by omega
          have c9 : ¬ 1048576 < ((view + 1) % 4294967296) := by omega
          have c10 : 0 < ((view + 1) % 4294967296) := by omega
          have c11 : ((view + 1) % 4294967296) > 0 := by omega
          have c12 : ¬ 0 = ((view + 1) % 4294967296) := by omega
          have c13 : ((view + 1) % 4294967296) = ((view + 1) % 4294967296) := by omega
          have c14 : ((view + 1) % 4294967296) ≤ ((view + 1) % 4294967296) := by omega
          have c15 : 0 ≤ ((view + 1) % 4294967296) := by omega
          exact L ran26 1 (q := q59) rfl rfl rfl (all_cons (fact_leq_t rfl rfl c15) (all_cons (fact_leq_t rfl rfl c14) (all_cons (fact_neq_f rfl rfl c13) (all_cons (fact_ne rfl rfl c12) (all_cons (fact_gtr_t rfl rfl c11) (all_cons (fact_lss_t rfl rfl c10) (all_cons (fact_lss_f rfl rfl c9) (all_cons (fact_lss_f rfl rfl c8) (all_cons (fact_leq_f rfl rfl c7) (all_cons (fact_geq_f rfl rfl c6) (all_cons (fact_eq rfl rfl rfl) (all_cons (fact_leq_t rfl rfl c5) (all_cons (fact_geq_t rfl rfl c4) (all_cons (fact_ne rfl rfl c3) (all_cons (d7) (all_cons (fact_num rfl rfl rfl (binI_rem (by simp only [sg, val]; omega) (by decide)) (by simp only [sg, val]; omega)) (all_cons (d13) (all_cons (d5) (all_cons (fact_num rfl rfl rfl (binI_rem (by simp only [sg, val]; omega) (by decide)) (by simp only [sg, val]; omega)) (all_cons (d12) (all_cons (d3) (all_cons (d2) (all_cons (d1) (all_nil)))))))))))))))))))))))) (all_cons (conv_num rfl rfl (by simp only [sg, val, wrap_u8, wrap_u16, wrap_u32, wrap_u64]; first | rfl | omega | (rw [wrap_i64 (by omega) (by omega)]; omega))) (all_cons (d0) (all_nil)))
    · rcases (show (((4 + (second_ % 3)) % 256) % 4) = 0 ∨ (((4 + (second_ % 3)) % 256) % 4) = 1 ∨ (((4 + (second_ % 3)) % 256) % 4) = 2 by omega) with c2 | c2 | c2
      · rcases (show ((qq % 2) = 0) ∨ (¬ (qq % 2) = 0) by omega) with c3 | c3
        · have c4 : ((view + 1) % 4294967296) ≥ 1 := by omega
          have c5 : ((view + 1) % 4294967296) ≤ 1048576 := by omega
          have c6 : ¬ 0 ≥ ((view + 1) % 4294967296) := by omega
          have c7 : ¬ ((view + 1) % 4294967296) ≤ 0 := by omega
          have c8 : ¬ ((view + 1) % 4294967296) < ((view + 1) % 4294967296) := by omega
          have c9 : ¬ 1048576 < ((view + 1) % 4294967296) := by omega
          have c10 : 0 < ((view + 1) % 4294967296) := by omega
          have c11 : ((view + 1) % 4294967296) > 0 := by omega
          have c12 : ¬ 0 = ((view + 1) % 4294967296) := by omega
          have c13 : ((view + 1) % 4294967296) = ((view + 1) % 4294967296) := by omega
          have c14 : ((view + 1) % 4294967296) ≤ ((view + 1) % 4294967296) := by omega
          have c15 : 0 ≤ ((view + 1) % 4294967296) := by omega
          exact L ran27 0 (q := q60) rfl rfl rfl (all_cons (fact_leq_t rfl rfl c15) (all_cons (fact_leq_t rfl rfl c14) (all_cons (fact_neq_f rfl rfl c13) (all_cons (fact_ne rfl rfl c12) (all_cons (fact_gtr_t rfl rfl c11) (all_cons (fact_lss_t rfl rfl c10) (all_cons (fact_lss_f rfl rfl c9) (all_cons (fact_lss_f rfl rfl c8) (all_cons (fact_leq_f rfl rfl c7) (all_cons (fact_geq_f rfl rfl c6) (all_cons (fact_eq rfl rfl rfl) (all_cons (fact_leq_t rfl rfl c5) (all_cons (fact_geq_t rfl rfl c4) (all_cons (fact_eq rfl rfl c3) (all_cons (d7) (all_cons (fact_num rfl rfl rfl (binI_rem (by simp only [sg, val]; omega) (by decide)) (by simp only [sg, val]; omega)) (all_cons (d13) (all_cons (d5) (all_cons (fact_num rfl rfl rfl (binI_rem (by simp only [sg, val]; omega) (by decide)) (by simp only [sg, val]; omega)) (all_cons (d12) (all_cons (d3) (all_cons (d2) (all_cons (d1) (all_nil)))))))))))))))))))))))) (all_cons (conv_num rfl rfl (by simp only [sg, val, wrap_u8, wrap_u16, wrap_u32, wrap_u64]; first | rfl | omega | (rw [wrap_i64 (by omega) (by omega)]; omega))) (all_cons (d0) (all_nil)))
        · have c4 : ((view + 1) % 4294967296) ≥ 1 := by omega
          have c5 : ((view + 1) % 4294967296) ≤ 1048576 := by omega
          have c6 : ¬ 0 ≥ ((view + 1) % 4294967296) := by omega
          have c7 : ¬ ((view + 1) % 4294967296) ≤ 0 := by omega
          have c8 : ¬ ((view + 1) % 4294967296) < ((view + 1) % 4294967296) := by omega
          have c9 : ¬ 1048576 < ((view + 1) % 4294967296) := by omega
          have c10 : 0 < ((view + 1) % 4294967296) := by omega
          have c11 : ((view + 1) % 4294967296) > 0 := by omega
          have c12 : ¬ 0 = ((view + 1) % 4294967296) := by omega
          have c13 : ((view + 1) % 4294967296) = ((view + 1) % 4294967296) := by omega
          have c14 : ((view + 1) % 4294967296) ≤ ((view + 1) % 4294967296) := by omega
          have c15 : 0 ≤ ((view + 1) % 4294967296) := by omega
          exact L ran27 1 (q := q61) rfl rfl rfl (all_cons (fact_leq_t rfl rfl c15) (all_cons (fact_leq_t rfl rfl c14) (all_cons (fact_neq_f rfl rfl c13) (all_cons (fact_ne rfl rfl c12) (all_cons (fact_gtr_t rfl rfl c11) (all_cons (fact_lss_t rfl rfl c10) (all_cons (fact_lss_f rfl rfl c9) (all_cons (fact_lss_f rfl rfl c8) (all_cons (fact_leq_f rfl rfl c7) (all_cons (fact_geq_f rfl rfl c6) (all_cons (fact_eq rfl rfl rfl) (all_cons (fact_leq_t rfl rfl c5) (all_cons (fact_geq_t rfl rfl c4) (all_cons (fact_ne rfl rfl c3) (all_cons (d7) (all_cons (fact_num rfl rfl rfl (binI_rem (by simp only [sg, val]; omega) (by decide)) (by simp only [sg, val]; omega)) (all_cons (d13) (all_cons (d5) (all_cons (fact_num rfl rfl rfl (binI_rem (by simp only [sg, val]; omega) (by decide)) (by simp only [sg, val]; omega)) (all_cons (d12) (all_cons (d3) (all_cons (d2) (all_cons (d1) (all_nil)))))))))))))))))))))))) (all_cons (conv_num rfl rfl (by simp only [sg, val, wrap_u8, wrap_u16, wrap_u32, wrap_u64]; first | rfl | omega | (rw [wrap_i64 (by omega) (by omega)]; omega))) (all_cons (d0) (all_nil)))
      · rcases (show ((qq % 2) = 0) ∨ (¬ (qq % 2) = 0) by omega) with c3 | c3
        · have c4 : ((view + 1) % 4294967296) ≥ 1 := by omega
          have c5 : ((view + 1) % 4294967296) ≤ 1048576 := by omega
          have c6 : ¬ 0 ≥ ((view + 1) % 4294967296) := by omega
          have c7 : ¬ ((view + 1) % 4294967296) ≤ 0 := by omega
          have c8 : ((view + 1) % 4294967296) ≥ ((view + 1) % 4294967296) := by omega
          exact L ran28 0 (q := q62) rfl rfl rfl (all_cons (fact_geq_t rfl rfl c8) (all_cons (fact_leq_f rfl rfl c7) (all_cons (fact_geq_f rfl rfl c6) (all_cons (fact_eq rfl rfl rfl) (all_cons (fact_leq_t rfl rfl c5) (all_cons (fact_geq_t rfl rfl c4) (all_cons (fact_eq rfl rfl c3) (all_cons (d7) (all_cons (fact_num rfl rfl rfl (binI_rem (by simp only [sg, val]; omega) (by decide)) (by simp only [sg, val]; omega)) (all_cons (d13) (all_cons (d5) (all_cons (fact_num rfl rfl rfl (binI_rem (by simp only [sg, val]; omega) (by decide)) (by simp only [sg, val]; omega)) (all_cons (d12) (all_cons (d3) (all_cons (d2) (all_cons (d1) (all_nil))))))))))))))))) (all_cons (conv_num rfl rfl (by simp only [sg, val, wrap_u8, wrap_u16, wrap_u32, wrap_u64]; first | rfl | omega | (rw [wrap_i64 (by omega) (by omega)]; omega))) (all_cons (d0) (all_nil)))
        · have c4 : ((view + 1) % 4294967296) ≥ 1 := by omega
          have c5 : ((view + 1) % 4294967296) ≤ 1048576 := by omega
          have c6 : ¬ 0 ≥ ((view + 1) % 4294967296) := by omega
          have c7 : ¬ ((view + 1) % 4294967296) ≤ 0 := by omega
          have c8 : ((view + 1) % 4294967296) ≥ ((view + 1) % 4294967296) := by omega
          exact L ran28 1 (q := q63) rfl rfl rfl (all_cons (fact_geq_t rfl rfl c8) (all_cons (fact_leq_f rfl rfl c7) (all_cons (fact_geq_f rfl rfl c6) (all_cons (fact_eq rfl rfl rfl) (all_cons (fact_leq_t rfl rfl c5) (all_cons (fact_geq_t rfl rfl c4) (all_cons (fact_ne rfl rfl c3) (all_cons (d7) (all_cons (fact_num rfl rfl rfl (binI_rem (by simp only [sg, val]; omega) (by decide)) (by simp only [sg, val]; omega)) (all_cons (d13) (all_cons (d5) (all_cons (fact_num rfl rfl rfl (binI_rem (by simp only [sg, val]; omega) (by decide)) (by simp only [sg, val]; omega)) (all_cons (d12) (all_cons (d3) (all_cons (d2) (all_cons (d1) (all_nil))))))))))))))))) (all_cons (conv_num rfl rfl (by simp only [sg, val, wrap_u8, wrap_u16, wrap_u32, wrap_u64]; first | rfl | omega | (rw [wrap_i64 (by omega) (by omega)]; omega))) (all_cons (d0) (all_nil)))
      · rcases (show ((qq % 2) = 0) ∨ (¬ (qq % 2) = 0) by omega) with c3 | c3
        · have c4 : ((view + 1) % 4294967296) ≥ 1 := by omega
          have c5 : ((view + 1) % 4294967296) ≤ 1048576 := by omega
          have c6 : ¬ 0 ≥ ((view + 1) % 4294967296) := by omega
          have c7 : ¬ ((view + 1) % 4294967296) ≤ 0 := by omega
          have c8 : ¬ ((view + 1) % 4294967296) < ((view + 1) % 4294967296) := by omega
          have c9 : ¬ 1048576 < ((view + 1) % 4294967296) := by omega
          have c10 : 0 < ((view + 1) % 4294967296) := by omega
          have c11 : ¬ 0 = ((view + 1) % 4294967296) := by omega
          have c12 : ((view + 1) % 4294967296) > 0 := by omega
          have c13 : ((view + 1) % 4294967296) = ((view + 1) % 4294967296) := by omega
          have c14 : 0 ≤ ((view + 1) % 4294967296) := by omega
          have c15 : ((view + 1) % 4294967296) ≤ ((view + 1) % 4294967296) := by omega
          exact L ran28 2 (q := q64) rfl rfl rfl (all_cons (fact_leq_t rfl rfl c15) (all_cons (fact_leq_t rfl rfl c14) (all_cons (fact_neq_f rfl rfl c13) (all_cons (fact_gtr_t rfl rfl c12) (all_cons (fact_ne rfl rfl c11) (all_cons (fact_lss_t rfl rfl c10) (all_cons (fact_lss_f rfl rfl c9) (all_cons (fact_lss_f rfl rfl c8) (all_cons (fact_leq_f rfl rfl c7) (all_cons (fact_geq_f rfl rfl c6) (all_cons (fact_eq rfl rfl rfl) (all_cons (fact_leq_t rfl rfl c5) (all_cons (fact_geq_t rfl rfl c4) (all_cons (fact_eq rfl rfl c3) (all_cons (d7) (all_cons (fact_num rfl rfl rfl (binI_rem (by simp only [sg, val]; omega) (by decide)) (by simp only [sg, val]; omega)) (all_cons (d13) (all_cons (d5) (all_cons (fact_num rfl rfl rfl (binI_rem (by simp only [sg, val]; omega) (by decide)) (by simp only [sg, val]; omega)) (all_cons (d12) (all_cons (d3) (all_cons (d2) (all_cons (d1) (all_nil)))))))))))))))))))))))) (all_cons (conv_num rfl rfl (by simp only [sg, val, wrap_u8, wrap_u16, wrap_u32, wrap_u64]; first | rfl | omega | (rw [wrap_i64 (by omega) (by omega)]; omega))) (all_cons (d0) (all_nil)))
        · have c4 : ((view + 1) % 4294967296) ≥ 1 := by omega
          have c5 : ((view + 1) % 4294967296) ≤ 1048576 := by omega
          have c6 : ¬ 0 ≥ ((view + 1) % 4294967296) := by omega
          have c7 : ¬ ((view + 1) % 4294967296) ≤ 0 := by omega
          have c8 : ¬ ((view + 1) % 4294967296) < ((view + 1) % 4294967296) := by omega
          have c9 : ¬ 1048576 < ((view + 1) % 4294967296) := by omega
          have c10 : 0 < ((view + 1) % 4294967296) := by omega
          have c11 : ¬ 0 = ((view + 1) % 4294967296) := by omega
          have c12 : ((view + 1) % 4294967296) > 0 := by omega
          have c13 : ((view + 1) % 4294967296) = ((view + 1) % 4294967296) := by omega
          have c14 : 0 ≤ ((view + 1) % 4294967296) := by omega
          have c15 : ((view + 1) % 4294967296) ≤ ((view + 1) % 4294967296) := by omega
          exact L ran29 0 (q := q65) rfl rfl rfl (all_cons (fact_leq_t rfl rfl c15) (all_cons (fact_leq_t rfl rfl c14) (all_cons (fact_neq_f rfl rfl c13) (all_cons (fact_gtr_t rfl rfl c12) (all_cons (fact_ne rfl rfl c11) (all_cons (fact_lss_t rfl rfl c10) (all_cons (fact_lss_f rfl rfl c9) (all_cons (fact_lss_f rfl rfl c8) (all_cons (fact_leq_f rfl rfl c7) (all_cons (fact_geq_f rfl rfl c6) (all_cons (fact_eq rfl rfl rfl) (all_cons (fact_leq_t rfl rfl c5) (all_cons (fact_geq_t rfl rfl c4) (all_cons (fact_ne rfl rfl c3) (all_cons (d7) (all_cons (fact_num rfl rfl rfl (binI_rem (by simp only [sg, val]; omega) (by decide)) (by simp only [sg, val]; omega)) (all_cons (d13) (all_cons (d5) (all_cons (fact_num rfl rfl rfl (binI_rem (by simp only [sg, val]; omega) (by decide)) (by simp only [sg, val]; omega)) (all_cons (d12) (all_cons (d3) (all_cons (d2) (all_cons (d1) (all_nil)))))))))))))))))))))))) (all_cons (conv_num rfl rfl (by simp only [sg, val, wrap_u8, wrap_u16, wrap_u32, wrap_u64]; first | rfl | omega | (rw [wrap_i64 (by omega) (by omega)]; omega))) (all_cons (d0) (all_nil)))
    · rcases (show (((4 + (second_ % 3)) % 256) % 4) = 0 ∨ (((4 + (second_ % 3)) % 256) % 4) = 1 ∨ (((4 + (second_ % 3)) % 256) % 4) = 2 by omega) with c2 | c2 | c2
      · rcases (show ((qq % 2) = 0) ∨ (¬ (qq % 2) = 0) by omega) with c3 | c3
        · have c4 : ((view + 1) % 4294967296) ≥ 1 := by omega
          have c5 : ((view + 1) % 4294967296) ≤ 1048576 := by omega
          have c6 : ¬ 0 ≥ ((view + 1) % 4294967296) := by omega
          have c7 : ¬ ((view + 1) % 4294967296) ≤ 0 := by omega
          have c8 : ¬ ((view + 1) % 4294967296) < ((view + 1) % 4294967296) := by omega
          have c9 : ¬ 1048576 < ((view + 1) % 4294967296) := by omega
          have c10 : 0 < ((view + 1) % 4294967296) := by omega
          have c11 : ((view + 1) % 4294967296) > 0 := by omega
          have c12 : ¬ 0 = ((view + 1) % 4294967296) := by omega
          have c13 : ((view + 1) % 4294967296) = ((view + 1) % 4294967296) := by omega
          have c14 : ((view + 1) % 4294967296) ≤ ((view + 1) % 4294967296) := by omega
          have c15 : 0 ≤ ((view + 1) % 4294967296) := by omega
          exact L ran29 1 (q := q66) rfl rfl rfl (all_cons (fact_leq_t rfl rfl c15) (all_cons (fact_leq_t rfl rfl c14) (all_cons (fact_neq_f rfl rfl c13) (all_cons (fact_ne rfl rfl c12) (all_cons (fact_gtr_t rfl rfl c11) (all_cons (fact_lss_t rfl rfl c10) (all_cons (fact_lss_f rfl rfl c9) (all_cons (fact_lss_f rfl rfl c8) (all_cons (fact_leq_f rfl rfl c7) (all_cons (fact_geq_f rfl rfl c6) (all_cons (fact_eq rfl rfl rfl) (all_cons (fact_leq_t rfl rfl c5) (all_cons (fact_geq_t rfl rfl c4) (all_cons (fact_eq rfl rfl c3) (all_cons (d7) (all_cons (fact_num rfl rfl rfl (binI_rem (by simp only [sg, val]; omega) (by decide)) (by simp only [sg, val]; omega)) (all_cons (d13) (all_cons (d5) (all_cons (fact_num rfl rfl rfl (binI_rem (by simp only [sg, val]; omega) (by decide)) (by simp only [sg, val]; omega)) (all_cons (d12) (all_cons (d3) (all_cons (d2) (all_cons (d1) (all_nil)))))))))))))))))))))))) (all_cons (conv_num rfl rfl (by simp only [sg, val, wrap_u8, wrap_u16, wrap_u32, wrap_u64]; first | rfl | omega | (rw [wrap_i64 (by omega) (by omega)]; omega))) (all_cons (d0) (all_nil)))
        · have c4 : ((view + 1) % 4294967296) ≥ 1 := by omega
          have c5 : ((view + 1) % 4294967296) ≤ 1048576 := by omega
          have c6 : ¬ 0 ≥ ((view + 1) % 4294967296) := by omega
          have c7 : ¬ ((view + 1) % 4294967296) ≤ 0 := by omega
          have c8 : ¬ ((view + 1) % 4294967296) < ((view + 1) % 4294967296) := by omega
          have c9 : ¬ 1048576 < ((view + 1) % 4294967296) := by omega
          have c10 : 0 < ((view + 1) % 4294967296) := by omega
          have c11 : ((view + 1) % 4294967296) > 0 := by omega
          have c12 : ¬ 0 = ((view + 1) % 4294967296) := by omega
          have c13 : ((view + 1) % 4294967296) = ((view + 1) % 4294967296) := by omega
          have c14 : ((view + 1) % 4294967296) ≤ ((view + 1) % 4294967296) := by omega
          have c15 : 0 ≤ ((view + 1) % 4294967296) := by omega
          exact L ran30 0 (q := q67) rfl rfl rfl (all_cons (fact_leq_t rfl rfl c15) (all_cons (fact_leq_t rfl rfl c14) (all_cons (fact_neq_f rfl rfl c13) (all_cons (fact_ne rfl rfl c12) (all_cons (fact_gtr_t rfl rfl c11) (all_cons (fact_lss_t rfl rfl c10) (all_cons (fact_lss_f rfl rfl c9) (all_cons (fact_lss_f rfl rfl c8) (all_cons (fact_leq_f rfl rfl c7) (all_cons (fact_geq_f rfl rfl c6) (all_cons (fact_eq rfl rfl rfl) (all_cons (fact_leq_t rfl rfl c5) (all_cons (fact_geq_t rfl rfl c4) (all_cons (fact_ne rfl rfl c3) (all_cons (d7) (all_cons (fact_num rfl rfl rfl (binI_rem (by simp only [sg, val]; omega) (by decide)) (by simp only [sg, val]; omega)) (all_cons (d13) (all_cons (d5) (all_cons (fact_num rfl rfl rfl (binI_rem (by simp only [sg, val]; omega) (by decide)) (by simp only [sg, val]; omega)) (all_cons (d12) (all_cons (d3) (all_cons (d2) (all_cons (d1) (all_nil)))))))))))))))))))))))) (all_cons (conv_num rfl rfl (by simp only [sg, val, wrap_u8, wrap_u16, wrap_u32, wrap_u64]; first | rfl | omega | (rw [wrap_i64 (by omega) (by omega)]; omega))) (all_cons (d0) (all_nil)))
      · rcases (show ((qq % 2) = 0) ∨ (¬ (qq % 2) = 0) by omega) with c3 | c3
        · have c4 : ((view + 1) % 4294967296) ≥ 1 := by omega
          have c5 : ((view + 1) % 4294967296) ≤ 1048576 := by omega
          have c6 : ¬ 0 ≥ ((view + 1) % 4294967296) := by omega
          have c7 : ¬ ((view + 1) % 4294967296) ≤ 0 := by omega
          have c8 : ¬ ((view + 1) % 4294967296) < ((view + 1) % 4294967296) := by omega
          have c9 : ¬ 1048576 < ((view + 1) % 4294967296) := by omega
          have c10 : 0 < ((view + 1) % 4294967296) := by omega
          have c11 : ¬ 0 = ((view + 1) % 4294967296) := by omega
          have c12 : ((view + 1) % 4294967296) > 0 := by omega
          have c13 : ((view + 1) % 4294967296) = ((view + 1) % 4294967296) := by omega
          have c14 : 0 ≤ ((view + 1) % 4294967296) := by omega
          have c15 : ((view + 1) % 4294967296) ≤ ((view + 1) % 4294967296) := by omega
          exact L ran30 1 (q := q68) rfl rfl rfl (all_cons (fact_leq_t rfl rfl c15) (all_cons (fact_leq_t rfl rfl c14) (all_cons (fact_neq_f rfl rfl c13) (all_cons (fact_gtr_t rfl rfl c12) (all_cons (fact_ne rfl rfl c11) (all_cons (fact_lss_t rfl rfl c10) (all_cons (fact_lss_f rfl rfl c9) (all_cons (fact_lss_f rfl rfl c8) (all_cons (fact_leq_f rfl rfl c7) (all_cons (fact_geq_f rfl rfl c6) (all_cons (fact_eq rfl rfl rfl) (all_cons (fact_leq_t rfl rfl c5) (all_cons (fact_geq_t rfl rfl c4) (all_cons (fact_eq rfl rfl c3) (all_cons (d7) (all_cons (fact_num rfl rfl rfl (binI_rem (by simp only [sg, val]; omega) (by decide)) (by simp only [sg, val]; omega)) (all_cons (d13) (all_cons (d5) (all_cons (fact_num rfl rfl rfl (binI_rem (by simp only [sg, val]; omega) (by decide)) (by simp only [sg, val]; omega)) (all_cons (d12) (all_cons (d3) (all_cons (d2) (all_cons (d1) (all_nil)))))))))))))))))))))))) (all_cons (conv_num rfl rfl (by simp only [sg, val, wrap_u8, wrap_u16, wrap_u32, wrap_u64]; first | rfl | omega | (rw [wrap_i64 (by omega) (by omega)]; omega))) (all_cons (d0) (all_nil)))
        · have c4 : ((view + 1) % 4294967296) ≥ 1 := by omega
          have c5 : ((view + 1) % 4294967296) ≤ 1048576 := by omega
          have c6 : ¬ 0 ≥ ((view + 1) % 4294967296) := by omega
          have c7 : ¬ ((view + 1) % 4294967296) ≤ 0 := by omega
          have c8 : ¬ ((view + 1) % 4294967296) < ((view + 1) % 4294967296) := by omega
          have c9 : ¬ 1048576 < ((view + 1) % 4294967296) := by omega
          have c10 : 0 < ((view + 1) % 4294967296) := by omega
          have c11 : ¬ 0 = ((view + 1) % 4294967296) := by omega
          have c12 : ((view + 1) % 4294967296) > 0 := by omega
          have c13 : ((view + 1) % 4294967296) = ((view + 1) % 4294967296) := by omega
          have c14 : 0 ≤ ((view + 1) % 4294967296) := by omega
          have c15 : ((view + 1) % 4294967296) ≤ ((view + 1) % 4294967296) := by omega
          exact L ran31 0 (q := q69) rfl rfl rfl (all_cons (fact_leq_t rfl rfl c15) (all_cons (fact_leq_t rfl rfl c14) (all_cons (fact_neq_f rfl rfl c13) (all_cons (fact_gtr_t rfl rfl c12) (all_cons (fact_ne rfl rfl c11) (all_cons (fact_lss_t rfl rfl c10) (all_cons (fact_lss_f rfl rfl c9) (all_cons (fact_lss_f rfl rfl c8) (all_cons (fact_leq_f rfl rfl c7) (all_cons (fact_geq_f rfl rfl c6) (all_cons (fact_eq rfl rfl rfl) (all_cons (fact_leq_t rfl rfl c5) (all_cons (fact_geq_t rfl rfl c4) (all_cons (fact_ne rfl rfl c3) (all_cons (d7) (all_cons (fact_num rfl rfl rfl (binI_rem (by simp only [sg, val]; omega) (by decide)) (by simp only [sg, val]; omega)) (all_cons (d13) (all_cons (d5) (all_cons (fact_num rfl rfl rfl (binI_rem (by simp only [sg, val]; omega) (by decide)) (by simp only [sg, val]; omega)) (all_cons (d12) (all_cons (d3) (all_cons (d2) (all_cons (d1) (all_nil)))))))))))))))))))))))) (all_cons (conv_num rfl rfl (by simp only [sg, val, wrap_u8, wrap_u16, wrap_u32, wrap_u64]; first | rfl | omega | (rw [wrap_i64 (by omega) (by omega)]; omega))) (all_cons (d0) (all_nil)))
      · rcases (show ((qq % 2) = 0) ∨ (¬ (qq % 2) = 0) by omega) with c3 | c3
        · have c4 : ((view + 1) % 4294967296) ≥ 1 := by omega
          have c5 : ((view + 1) % 4294967296) ≤ 1048576 := by omega
          have c6 : ¬ 0 ≥ ((view + 1) % 4294967296) := by omega
          have c7 : ¬ ((view + 1) % 4294967296) ≤ 0 := by omega
          have c8 : ((view + 1) % 4294967296) ≥ ((view + 1) % 4294967296) := by omega
          exact L ran31 1 (q := q70) rfl rfl rfl (all_cons (fact_geq_t rfl rfl c8) (all_cons (fact_leq_f rfl rfl c7) (all_cons (fact_geq_f rfl rfl c6) (all_cons (fact_eq rfl rfl rfl) (all_cons (fact_leq_t rfl rfl c5) (all_cons (fact_geq_t rfl rfl c4) (all_cons (fact_eq rfl rfl c3) (all_cons (d7) (all_cons (fact_num rfl rfl rfl (binI_rem (by simp only [sg, val]; omega) (by decide)) (by simp only [sg, val]; omega)) (all_cons (d13) (all_cons (d5) (all_cons (fact_num rfl rfl rfl (binI_rem (by simp only [sg, val]; omega) (by decide)) (by simp only [sg, val]; omega)) (all_cons (d12) (all_cons (d3) (all_cons (d2) (all_cons (d1) (all_nil))))))))))))))))) (all_cons (conv_num rfl rfl (by simp only [sg, val, wrap_u8, wrap_u16, wrap_u32, wrap_u64]; first | rfl | omega | (rw [wrap_i64 (by omega) (by omega)]; omega))) (all_cons (d0) (all_nil)))
        · have c4 : ((view + 1) % 4294967296) ≥ 1 := by omega
          have c5 : ((view + 1) % 4294967296) ≤ 1048576 := by omega
          have c6 : ¬ 0 ≥ ((view + 1) % 4294967296) := by omega
          have c7 : ¬ ((view + 1) % 4294967296) ≤ 0 := by omega
          have c8 : ((view + 1) % 4294967296) ≥ ((view + 1) % 4294967296) := by omega
          exact L ran32 0 (q := q71) rfl rfl rfl (all_cons (fact_geq_t rfl rfl c8) (all_cons (fact_leq_f rfl rfl c7) (all_cons (fact_geq_f rfl rfl c6) (all_cons (fact_eq rfl rfl rfl) (all_cons (fact_leq_t rfl rfl c5) (all_cons (fact_geq_t rfl rfl c4) (all_cons (fact_ne rfl rfl c3) (all_cons (d7) (all_cons (fact_num rfl rfl rfl (binI_rem (by simp only [sg, val]; omega) (by decide)) (by simp only [sg, val]; omega)) (all_cons (d13) (all_cons (d5) (all_cons (fact_num rfl rfl rfl (binI_rem (by simp only [sg, val]; omega) (by decide)) (by simp only [sg, val]; omega)) (all_cons (d12) (all_cons (d3) (all_cons (d2) (all_cons (d1) (all_nil))))))))))))))))) (all_cons (conv_num rfl rfl (by simp only [sg, val, wrap_u8, wrap_u16, wrap_u32, wrap_u64]; first | rfl | omega | (rw [wrap_i64 (by omega) (by omega)]; omega))) (all_cons (d0) (all_nil)))
end Go.Proofs.YtgcifbpdedlfoaaGreatDoor.ReplicaBeginsB0
