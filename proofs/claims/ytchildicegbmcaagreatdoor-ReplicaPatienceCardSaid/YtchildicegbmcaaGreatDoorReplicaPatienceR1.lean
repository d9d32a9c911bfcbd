/- Written by a program of this claim's (a symbolic run): the cases of the law's arguments, and the run of each. No condition but the arguments' kinds. -/
import Derived.Test.YtchildicegbmcaaGreatDoorCom
set_option linter.unusedVariables false
set_option linter.unusedSimpArgs false
set_option maxRecDepth 100000
namespace Go.Proofs.YtchildicegbmcaaGreatDoor.ReplicaPatienceB1
open Go.Abs Go.RowKit
def byteSyms : List Nat := [0, 1, 2, 3, 4]
def val (ticks id_ : Int) : Nat → Int
  | 0 => ticks
  | 1 => id_
  | 2 => (id_ % 3)
  | 3 => (((id_ % 3) + 1) % 256)
  | 4 => (ticks % 12)
  | 5 => (ticks % 12)
  | _ => 0
def sg (ticks id_ : Int) : Val := ⟨val ticks id_, fun _ _ => none⟩
theorem bytes_ok (ticks id_ : Int) (hticks : 0 ≤ ticks ∧ ticks < 256) (hid_ : 0 ≤ id_ ∧ id_ < 256) : ∀ s ∈ byteSyms, 0 ≤ (sg ticks id_).num s ∧ (sg ticks id_).num s < 256 :=
  all_cons (by simp only [sg, val]; omega) (all_cons (by simp only [sg, val]; omega) (all_cons (by simp only [sg, val]; omega) (all_cons (by simp only [sg, val]; omega) (all_cons (by simp only [sg, val]; omega) (all_nil)))))
def F0 : Fact := ⟨.rem, .sym .u8 1, .int .u8 3, .sym .u8 2⟩
def F1 : Fact := ⟨.rem, .sym .u8 0, .int .u8 12, .sym .u8 4⟩
def F2 : Fact := ⟨.leq, .int .i64 12, .sym .i64 5, .bool false⟩
def F3 : Fact := ⟨.leq, .int .i64 11, .sym .i64 5, .bool true⟩
def F4 : Fact := ⟨.leq, .int .i64 10, .sym .i64 5, .bool true⟩
def F5 : Fact := ⟨.leq, .int .i64 9, .sym .i64 5, .bool true⟩
def F6 : Fact := ⟨.leq, .int .i64 8, .sym .i64 5, .bool true⟩
def F7 : Fact := ⟨.leq, .int .i64 7, .sym .i64 5, .bool true⟩
def F8 : Fact := ⟨.leq, .int .i64 6, .sym .i64 5, .bool true⟩
def F9 : Fact := ⟨.leq, .int .i64 5, .sym .i64 5, .bool true⟩
def F10 : Fact := ⟨.leq, .int .i64 4, .sym .i64 5, .bool true⟩
def F11 : Fact := ⟨.leq, .int .i64 3, .sym .i64 5, .bool true⟩
def F12 : Fact := ⟨.leq, .int .i64 2, .sym .i64 5, .bool true⟩
def F13 : Fact := ⟨.leq, .int .i64 1, .sym .i64 5, .bool true⟩
def F14 : Fact := ⟨.add, .sym .u8 2, .int .u8 1, .int .u8 1⟩
def F15 : FConv := ⟨.i64, .sym .u8 4, .sym .i64 5⟩
def F16 : Fact := ⟨.leq, .int .i64 11, .sym .i64 5, .bool false⟩
def F17 : Fact := ⟨.leq, .int .i64 10, .sym .i64 5, .bool false⟩
def F18 : Fact := ⟨.leq, .int .i64 9, .sym .i64 5, .bool false⟩
def F19 : Fact := ⟨.leq, .int .i64 8, .sym .i64 5, .bool false⟩
def F20 : Fact := ⟨.leq, .int .i64 7, .sym .i64 5, .bool false⟩
def F21 : Fact := ⟨.leq, .int .i64 6, .sym .i64 5, .bool false⟩
def F22 : Fact := ⟨.leq, .int .i64 5, .sym .i64 5, .bool false⟩
def F23 : Fact := ⟨.leq, .int .i64 4, .sym .i64 5, .bool false⟩
def F24 : Fact := ⟨.leq, .int .i64 3, .sym .i64 5, .bool false⟩
def F25 : Fact := ⟨.leq, .int .i64 2, .sym .i64 5, .bool false⟩
def F26 : Fact := ⟨.leq, .int .i64 1, .sym .i64 5, .bool false⟩
def F27 : Fact := ⟨.add, .sym .u8 2, .int .u8 1, .int .u8 2⟩
def F28 : Fact := ⟨.add, .sym .u8 2, .int .u8 1, .int .u8 3⟩
noncomputable def q0 : Kn := ⟨[F2, F3, F4, F5, F6, F7, F8, F9, F10, F11, F12, F13, F1, F14, F0], [F15], tabB byteSyms⟩
noncomputable def q1 : Kn := ⟨[F16, F4, F5, F6, F7, F8, F9, F10, F11, F12, F13, F1, F14, F0], [F15], tabB byteSyms⟩
noncomputable def q2 : Kn := ⟨[F17, F5, F6, F7, F8, F9, F10, F11, F12, F13, F1, F14, F0], [F15], tabB byteSyms⟩
noncomputable def q3 : Kn := ⟨[F18, F6, F7, F8, F9, F10, F11, F12, F13, F1, F14, F0], [F15], tabB byteSyms⟩
noncomputable def q4 : Kn := ⟨[F19, F7, F8, F9, F10, F11, F12, F13, F1, F14, F0], [F15], tabB byteSyms⟩
noncomputable def q5 : Kn := ⟨[F20, F8, F9, F10, F11, F12, F13, F1, F14, F0], [F15], tabB byteSyms⟩
noncomputable def q6 : Kn := ⟨[F21, F9, F10, F11, F12, F13, F1, F14, F0], [F15], tabB byteSyms⟩
noncomputable def q7 : Kn := ⟨[F22, F10, F11, F12, F13, F1, F14, F0], [F15], tabB byteSyms⟩
noncomputable def q8 : Kn := ⟨[F23, F11, F12, F13, F1, F14, F0], [F15], tabB byteSyms⟩
noncomputable def q9 : Kn := ⟨[F24, F12, F13, F1, F14, F0], [F15], tabB byteSyms⟩
noncomputable def q10 : Kn := ⟨[F25, F13, F1, F14, F0], [F15], tabB byteSyms⟩
noncomputable def q11 : Kn := ⟨[F26, F1, F14, F0], [F15], tabB byteSyms⟩
noncomputable def q12 : Kn := ⟨[F2, F3, F4, F5, F6, F7, F8, F9, F10, F11, F12, F13, F1, F27, F0], [F15], tabB byteSyms⟩
noncomputable def q13 : Kn := ⟨[F16, F4, F5, F6, F7, F8, F9, F10, F11, F12, F13, F1, F27, F0], [F15], tabB byteSyms⟩
noncomputable def q14 : Kn := ⟨[F17, F5, F6, F7, F8, F9, F10, F11, F12, F13, F1, F27, F0], [F15], tabB byteSyms⟩
noncomputable def q15 : Kn := ⟨[F18, F6, F7, F8, F9, F10, F11, F12, F13, F1, F27, F0], [F15], tabB byteSyms⟩
noncomputable def q16 : Kn := ⟨[F19, F7, F8, F9, F10, F11, F12, F13, F1, F27, F0], [F15], tabB byteSyms⟩
noncomputable def q17 : Kn := ⟨[F20, F8, F9, F10, F11, F12, F13, F1, F27, F0], [F15], tabB byteSyms⟩
noncomputable def q18 : Kn := ⟨[F21, F9, F10, F11, F12, F13, F1, F27, F0], [F15], tabB byteSyms⟩
noncomputable def q19 : Kn := ⟨[F22, F10, F11, F12, F13, F1, F27, F0], [F15], tabB byteSyms⟩
noncomputable def q20 : Kn := ⟨[F23, F11, F12, F13, F1, F27, F0], [F15], tabB byteSyms⟩
noncomputable def q21 : Kn := ⟨[F24, F12, F13, F1, F27, F0], [F15], tabB byteSyms⟩
noncomputable def q22 : Kn := ⟨[F25, F13, F1, F27, F0], [F15], tabB byteSyms⟩
noncomputable def q23 : Kn := ⟨[F26, F1, F27, F0], [F15], tabB byteSyms⟩
noncomputable def q24 : Kn := ⟨[F2, F3, F4, F5, F6, F7, F8, F9, F10, F11, F12, F13, F1, F28, F0], [F15], tabB byteSyms⟩
noncomputable def q25 : Kn := ⟨[F16, F4, F5, F6, F7, F8, F9, F10, F11, F12, F13, F1, F28, F0], [F15], tabB byteSyms⟩
noncomputable def q26 : Kn := ⟨[F17, F5, F6, F7, F8, F9, F10, F11, F12, F13, F1, F28, F0], [F15], tabB byteSyms⟩
noncomputable def q27 : Kn := ⟨[F18, F6, F7, F8, F9, F10, F11, F12, F13, F1, F28, F0], [F15], tabB byteSyms⟩
noncomputable def q28 : Kn := ⟨[F19, F7, F8, F9, F10, F11, F12, F13, F1, F28, F0], [F15], tabB byteSyms⟩
noncomputable def q29 : Kn := ⟨[F20, F8, F9, F10, F11, F12, F13, F1, F28, F0], [F15], tabB byteSyms⟩
noncomputable def q30 : Kn := ⟨[F21, F9, F10, F11, F12, F13, F1, F28, F0], [F15], tabB byteSyms⟩
noncomputable def q31 : Kn := ⟨[F22, F10, F11, F12, F13, F1, F28, F0], [F15], tabB byteSyms⟩
noncomputable def q32 : Kn := ⟨[F23, F11, F12, F13, F1, F28, F0], [F15], tabB byteSyms⟩
noncomputable def q33 : Kn := ⟨[F24, F12, F13, F1, F28, F0], [F15], tabB byteSyms⟩
noncomputable def q34 : Kn := ⟨[F25, F13, F1, F28, F0], [F15], tabB byteSyms⟩
noncomputable def q35 : Kn := ⟨[F26, F1, F28, F0], [F15], tabB byteSyms⟩
noncomputable def lot0 : List (Kn × List AV) := [(q0, [.sym .u8 0, .bool true, .sym .u8 1]), (q1, [.sym .u8 0, .bool true, .sym .u8 1]), (q2, [.sym .u8 0, .bool true, .sym .u8 1])]
theorem ran0 : runAll cx 60 7 lot0 = true := by kernel_rfl
noncomputable def lot1 : List (Kn × List AV) := [(q3, [.sym .u8 0, .bool true, .sym .u8 1]), (q4, [.sym .u8 0, .bool true, .sym .u8 1]), (q5, [.sym .u8 0, .bool true, .sym .u8 1]), (q6, [.sym .u8 0, .bool true, .sym .u8 1])]
theorem ran1 : runAll cx 60 7 lot1 = true := by kernel_rfl
noncomputable def lot2 : List (Kn × List AV) := [(q7, [.sym .u8 0, .bool true, .sym .u8 1]), (q8, [.sym .u8 0, .bool true, .sym .u8 1]), (q9, [.sym .u8 0, .bool true, .sym .u8 1]), (q10, [.sym .u8 0, .bool true, .sym .u8 1]), (q11, [.sym .u8 0, .bool true, .sym .u8 1]), (q12, [.sym .u8 0, .bool true, .sym .u8 1])]
theorem ran2 : runAll cx 60 7 lot2 = true := by kernel_rfl
noncomputable def lot3 : List (Kn × List AV) := [(q13, [.sym .u8 0, .bool true, .sym .u8 1]), (q14, [.sym .u8 0, .bool true, .sym .u8 1]), (q15, [.sym .u8 0, .bool true, .sym .u8 1])]
theorem ran3 : runAll cx 60 7 lot3 = true := by kernel_rfl
noncomputable def lot4 : List (Kn × List AV) := [(q16, [.sym .u8 0, .bool true, .sym .u8 1]), (q17, [.sym .u8 0, .bool true, .sym .u8 1]), (q18, [.sym .u8 0, .bool true, .sym .u8 1]), (q19, [.sym .u8 0, .bool true, .sym .u8 1]), (q20, [.sym .u8 0, .bool true, .sym .u8 1])]
theorem ran4 : runAll cx 60 7 lot4 = true := by kernel_rfl
noncomputable def lot5 : List (Kn × List AV) := [(q21, [.sym .u8 0, .bool true, .sym .u8 1]), (q22, [.sym .u8 0, .bool true, .sym .u8 1]), (q23, [.sym .u8 0, .bool true, .sym .u8 1]), (q24, [.sym .u8 0, .bool true, .sym .u8 1]), (q25, [.sym .u8 0, .bool true, .sym .u8 1])]
theorem ran5 : runAll cx 60 7 lot5 = true := by kernel_rfl
noncomputable def lot6 : List (Kn × List AV) := [(q26, [.sym .u8 0, .bool true, .sym .u8 1]), (q27, [.sym .u8 0, .bool true, .sym .u8 1]), (q28, [.sym .u8 0, .bool true, .sym .u8 1])]
theorem ran6 : runAll cx 60 7 lot6 = true := by kernel_rfl
noncomputable def lot7 : List (Kn × List AV) := [(q29, [.sym .u8 0, .bool true, .sym .u8 1]), (q30, [.sym .u8 0, .bool true, .sym .u8 1]), (q31, [.sym .u8 0, .bool true, .sym .u8 1]), (q32, [.sym .u8 0, .bool true, .sym .u8 1]), (q33, [.sym .u8 0, .bool true, .sym .u8 1]), (q34, [.sym .u8 0, .bool true, .sym .u8 1])]
theorem ran7 : runAll cx 60 7 lot7 = true := by kernel_rfl
noncomputable def lot8 : List (Kn × List AV) := [(q35, [.sym .u8 0, .bool true, .sym .u8 1])]
theorem ran8 : runAll cx 60 7 lot8 = true := by kernel_rfl
theorem leaf (ticks id_ : Int) (hticks : 0 ≤ ticks ∧ ticks < 256) (hid_ : 0 ≤ id_ ∧ id_ < 256) (w : World) {l : List (Kn × List AV)} (hl : runAll cx 60 7 l = true) (i : Nat) {q : Kn} {args : List AV} {A : List Value} (hp : l[i]? = some (q, args)) (hA : concs (noEnv (sg ticks id_)) args = some A) (hb : q.bytes = tabB byteSyms) (hf : ∀ f ∈ q.facts, FactOK Tryz.prog (sg ticks id_) f) (hc : ∀ f ∈ q.convs, FConvOK (sg ticks id_) f) : Calls Tryz.prog 7 ⟨A⟩ w fun e w' => e = .returned (.bool true) ∧ Below w.heap.size w w' :=
  law_of_run (progOK_W asked hf hc (by rw [hb]; exact tabB_ok (bytes_ok ticks id_ hticks hid_)) globs_nil sums_ok) hA (runAll_get hl i hp) w (fun _ _ _ h => by cases h)
set_option maxHeartbeats 100000000 in
theorem walk (ticks id_ : Int) (hticks : 0 ≤ ticks ∧ ticks < 256) (hid_ : 0 ≤ id_ ∧ id_ < 256) (w : World) : Calls Tryz.prog 7 ⟨[.int .u8 ticks, .bool true, .int .u8 id_]⟩ w fun e w' => e = .returned (.bool true) ∧ Below w.heap.size w w' := by
  have L := @leaf ticks id_ hticks hid_ w
  have d0 : FactOK Tryz.prog (sg ticks id_) F0 := fact_num rfl rfl rfl (binI_rem (by simp only [sg, val]; omega) (by decide)) rfl
  have d1 : FactOK Tryz.prog (sg ticks id_) F1 := fact_num rfl rfl rfl (binI_rem (by simp only [sg, val]; omega) (by decide)) rfl
  rcases (show (((id_ % 3) + 1) % 256) = 1 ∨ (((id_ % 3) + 1) % 256) = 2 ∨ (((id_ % 3) + 1) % 256) = 3 by omega) with c0 | c0 | c0
  · rcases (show (1 ≤ (ticks % 12)) ∨ (¬ 1 ≤ (ticks % 12)) by omega) with c1 | c1
    · rcases (show (2 ≤ (ticks % 12)) ∨ (¬ 2 ≤ (ticks % 12)) by omega) with c2 | c2
      · rcases (show (3 ≤ (ticks % 12)) ∨ (¬ 3 ≤ (ticks % 12)) by omega) with c3 | c3
        · rcases (show (4 ≤ (ticks % 12)) ∨ (¬ 4 ≤ (ticks % 12)) by omega) with c4 | c4
          · rcases (show (5 ≤ (ticks % 12)) ∨ (¬ 5 ≤ (ticks % 12)) by omega) with c5 | c5
            · rcases (show (6 ≤ (ticks % 12)) ∨ (¬ 6 ≤ (ticks % 12)) by omega) with c6 | c6
              · rcases (show (7 ≤ (ticks % 12)) ∨ (¬ 7 ≤ (ticks % 12)) by omega) with c7 | c7
                · rcases (show (8 ≤ (ticks % 12)) ∨ (¬ 8 ≤ (ticks % 12)) by omega) with c8 | c8
                  · rcases (show (9 ≤ (ticks % 12)) ∨ (¬ 9 ≤ (ticks % 12)) by omega) with c9 | c9
                    · rcases (show (10 ≤ (ticks % 12)) ∨ (¬ 10 ≤ (ticks % 12)) by omega) with c10 | c10
                      · rcases (show (11 ≤ (ticks % 12)) ∨ (¬ 11 ≤ (ticks % 12)) by omega) with c11 | c11
                        · have c12 : ¬ 12 ≤ (ticks % 12) := by omega
                          exact L ran0 0 (q := q0) rfl rfl rfl (all_cons (fact_leq_f rfl rfl c12) (all_cons (fact_leq_t rfl rfl c11) (all_cons (fact_leq_t rfl rfl c10) (all_cons (fact_leq_t rfl rfl c9) (all_cons (fact_leq_t rfl rfl c8) (all_cons (fact_leq_t rfl rfl c7) (all_cons (fact_leq_t rfl rfl c6) (all_cons (fact_leq_t rfl rfl c5) (all_cons (fact_leq_t rfl rfl c4) (all_cons (fact_leq_t rfl rfl c3) (all_cons (fact_leq_t rfl rfl c2) (all_cons (fact_leq_t rfl rfl c1) (all_cons (d1) (all_cons (fact_num rfl rfl rfl rfl (by simp only [sg, val, wrap_u8, wrap_u16, wrap_u32, wrap_u64]; omega)) (all_cons (d0) (all_nil)))))))))))))))) (all_cons (conv_num rfl rfl (wrap_i64 (by simp only [sg, val]; omega) (by simp only [sg, val]; omega)).symm) (all_nil))
                        · exact L ran0 1 (q := q1) rfl rfl rfl (all_cons (fact_leq_f rfl rfl c11) (all_cons (fact_leq_t rfl rfl c10) (all_cons (fact_leq_t rfl rfl c9) (all_cons (fact_leq_t rfl rfl c8) (all_cons (fact_leq_t rfl rfl c7) (all_cons (fact_leq_t rfl rfl c6) (all_cons (fact_leq_t rfl rfl c5) (all_cons (fact_leq_t rfl rfl c4) (all_cons (fact_leq_t rfl rfl c3) (all_cons (fact_leq_t rfl rfl c2) (all_cons (fact_leq_t rfl rfl c1) (all_cons (d1) (all_cons (fact_num rfl rfl rfl rfl (by simp only [sg, val, wrap_u8, wrap_u16, wrap_u32, wrap_u64]; omega)) (all_cons (d0) (all_nil))))))))))))))) (all_cons (conv_num rfl rfl (wrap_i64 (by simp only [sg, val]; omega) (by simp only [sg, val]; omega)).symm) (all_nil))
                      · exact L ran0 2 (q := q2) rfl rfl rfl (all_cons (fact_leq_f rfl rfl c10) (all_cons (fact_leq_t rfl rfl c9) (all_cons (fact_leq_t rfl rfl c8) (all_cons (fact_leq_t rfl rfl c7) (all_cons (fact_leq_t rfl rfl c6) (all_cons (fact_leq_t rfl rfl c5) (all_cons (fact_leq_t rfl rfl c4) (all_cons (fact_leq_t rfl rfl c3) (all_cons (fact_leq_t rfl rfl c2) (all_cons (fact_leq_t rfl rfl c1) (all_cons (d1) (all_cons (fact_num rfl rfl rfl rfl (by simp only [sg, val, wrap_u8, wrap_u16, wrap_u32, wrap_u64]; omega)) (all_cons (d0) (all_nil)))))))))))))) (all_cons (conv_num rfl rfl (wrap_i64 (by simp only [sg, val]; omega) (by simp only [sg, val]; omega)).symm) (all_nil))
                    · exact L ran1 0 (q := q3) rfl rfl rfl (all_cons (fact_leq_f rfl rfl c9) (all_cons (fact_leq_t rfl rfl c8) (all_cons (fact_leq_t rfl rfl c7) (all_cons (fact_leq_t rfl rfl c6) (all_cons (fact_leq_t rfl rfl c5) (all_cons (fact_leq_t rfl rfl c4) (all_cons (fact_leq_t rfl rfl c3) (all_cons (fact_leq_t rfl rfl c2) (all_cons (fact_leq_t rfl rfl c1) (all_cons (d1) (all_cons (fact_num rfl rfl rfl rfl (by simp only [sg, val, wrap_u8, wrap_u16, wrap_u32, wrap_u64]; omega)) (all_cons (d0) (all_nil))))))))))))) (all_cons (conv_num rfl rfl (wrap_i64 (by simp only [sg, val]; omega) (by simp only [sg, val]; omega)).symm) (all_nil))
                  · exact L ran1 1 (q := q4) rfl rfl rfl (all_cons (fact_leq_f rfl rfl c8) (all_cons (fact_leq_t rfl rfl c7) (all_cons (fact_leq_t rfl rfl c6) (all_cons (fact_leq_t rfl rfl c5) (all_cons (fact_leq_t rfl rfl c4) (all_cons (fact_leq_t rfl rfl c3) (all_cons (fact_leq_t rfl rfl c2) (all_cons (fact_leq_t rfl rfl c1) (all_cons (d1) (all_cons (fact_num rfl rfl rfl rfl (by simp only [sg, val, wrap_u8, wrap_u16, wrap_u32, wrap_u64]; omega)) (all_cons (d0) (all_nil)))))))))))) (all_cons (conv_num rfl rfl (wrap_i64 (by simp only [sg, val]; omega) (by simp only [sg, val]; omega)).symm) (all_nil))
                · exact L ran1 2 (q := q5) rfl rfl rfl (all_cons (fact_leq_f rfl rfl c7) (all_cons (fact_leq_t rfl rfl c6) (all_cons (fact_leq_t rfl rfl c5) (all_cons (fact_leq_t rfl rfl c4) (all_cons (fact_leq_t rfl rfl c3) (all_cons (fact_leq_t rfl rfl c2) (all_cons (fact_leq_t rfl rfl c1) (all_cons (d1) (all_cons (fact_num rfl rfl rfl rfl (by simp only [sg, val, wrap_u8, wrap_u16, wrap_u32, wrap_u64]; omega)) (all_cons (d0) (all_nil))))))))))) (all_cons (conv_num rfl rfl (wrap_i64 (by simp only [sg, val]; omega) (by simp only [sg, val]; omega)).symm) (all_nil))
              · exact L ran1 3 (q := q6) rfl rfl rfl (all_cons (fact_leq_f rfl rfl c6) (all_cons (fact_leq_t rfl rfl c5) (all_cons (fact_leq_t rfl rfl c4) (all_cons (fact_leq_t rfl rfl c3) (all_cons (fact_leq_t rfl rfl c2) (all_cons (fact_leq_t rfl rfl c1) (all_cons (d1) (all_cons (fact_num rfl rfl rfl rfl (by simp only [sg, val, wrap_u8, wrap_u16, wrap_u32, wrap_u64]; omega)) (all_cons (d0) (all_nil)))))))))) (all_cons (conv_num rfl rfl (wrap_i64 (by simp only [sg, val]; omega) (by simp only [sg, val]; omega)).symm) (all_nil))
            · exact L ran2 0 (q := q7) rfl rfl rfl (all_cons (fact_leq_f rfl rfl c5) (all_cons (fact_leq_t rfl rfl c4) (all_cons (fact_leq_t rfl rfl c3) (all_cons (fact_leq_t rfl rfl c2) (all_cons (fact_leq_t rfl rfl c1) (all_cons (d1) (all_cons (fact_num rfl rfl rfl rfl (by simp only [sg, val, wrap_u8, wrap_u16, wrap_u32, wrap_u64]; omega)) (all_cons (d0) (all_nil))))))))) (all_cons (conv_num rfl rfl (wrap_i64 (by simp only [sg, val]; omega) (by simp only [sg, val]; omega)).symm) (all_nil))
          · exact L ran2 1 (q := q8) rfl rfl rfl (all_cons (fact_leq_f rfl rfl c4) (all_cons (fact_leq_t rfl rfl c3) (all_cons (fact_leq_t rfl rfl c2) (all_cons (fact_leq_t rfl rfl c1) (all_cons (d1) (all_cons (fact_num rfl rfl rfl rfl (by simp only [sg, val, wrap_u8, wrap_u16, wrap_u32, wrap_u64]; omega)) (all_cons (d0) (all_nil)))))))) (all_cons (conv_num rfl rfl (wrap_i64 (by simp only [sg, val]; omega) (by simp only [sg, val]; omega)).symm) (all_nil))
        · exact L ran2 2 (q := q9) rfl rfl rfl (all_cons (fact_leq_f rfl rfl c3) (all_cons (fact_leq_t rfl rfl c2) (all_cons (fact_leq_t rfl rfl c1) (all_cons (d1) (all_cons (fact_num rfl rfl rfl rfl (by simp only [sg, val, wrap_u8, wrap_u16, wrap_u32, wrap_u64]; omega)) (all_cons (d0) (all_nil))))))) (all_cons (conv_num rfl rfl (wrap_i64 (by simp only [sg, val]; omega) (by simp only [sg, val]; omega)).symm) (all_nil))
      · exact L ran2 3 (q := q10) rfl rfl rfl (all_cons (fact_leq_f rfl rfl c2) (all_cons (fact_leq_t rfl rfl c1) (all_cons (d1) (all_cons (fact_num rfl rfl rfl rfl (by simp only [sg, val, wrap_u8, wrap_u16, wrap_u32, wrap_u64]; omega)) (all_cons (d0) (all_nil)))))) (all_cons (conv_num rfl rfl (wrap_i64 (by simp only [sg, val]; omega) (by simp only [sg, val]; omega)).symm) (all_nil))
    · exact L ran2 4 (q := q11) rfl rfl rfl (all_cons (fact_leq_f rfl rfl c1) (all_cons (d1) (all_cons (fact_num rfl rfl rfl rfl (by simp only [sg, val, wrap_u8, wrap_u16, wrap_u32, wrap_u64]; omega)) (all_cons (d0) (all_nil))))) (all_cons (conv_num rfl rfl (wrap_i64 (by simp only [sg, val]; omega) (by simp only [sg, val]; omega)).symm) (all_nil))
  · rcases (show (1 ≤ (ticks % 12)) ∨ (¬ 1 ≤ (ticks % 12)) by omega) with c1 | c1
    · rcases (show (2 ≤ (ticks % 12)) ∨ (¬ 2 ≤ (ticks % 12)) by omega) with c2 | c2
      · rcases (show (3 ≤ (ticks % 12)) ∨ (¬ 3 ≤ (ticks % 12)) by omega) with c3 | c3
        · rcases (show (4 ≤ (ticks % 12)) ∨ (¬ 4 ≤ (ticks % 12)) by omega) with c4 | c4
          · rcases (show (5 ≤ (ticks % 12)) ∨ (¬ 5 ≤ (ticks % 12)) by omega) with c5 | c5
            · rcases (show (6 ≤ (ticks % 12)) ∨ (¬ 6 ≤ (ticks % 12)) by omega) with c6 | c6
              · rcases (show (7 ≤ (ticks % 12)) ∨ (¬ 7 ≤ (ticks % 12)) by omega) with c7 | c7
                · rcases (show (8 ≤ (ticks % 12)) ∨ (¬ 8 ≤ (ticks % 12)) by omega) with c8 | c8
                  · rcases (show (9 ≤ (ticks % 12)) ∨ (¬ 9 ≤ (ticks % 12)) by omega) with c9 | c9
                    · rcases (show (10 ≤ (ticks % 12)) ∨ (¬ 10 ≤ (ticks % 12)) by omega) with c10 | c10
                      · rcases (show (11 ≤ (ticks % 12)) ∨ (¬ 11 ≤ (ticks % 12)) by omega) with c11 | c11
                        · have c12 : ¬ 12 ≤ (ticks % 12) := by omega
                          exact L ran2 5 (q := q12) rfl rfl rfl (all_cons (fact_leq_f rfl rfl c12) (all_cons (fact_leq_t rfl rfl c11) (all_cons (fact_leq_t rfl rfl c10) (all_cons (fact_leq_t rfl rfl c9) (all_cons (fact_leq_t rfl rfl c8) (all_cons (fact_leq_t rfl rfl c7) (all_cons (fact_leq_t rfl rfl c6) (all_cons (fact_leq_t rfl rfl c5) (all_cons (fact_leq_t rfl rfl c4) (all_cons (fact_leq_t rfl rfl c3) (all_cons (fact_leq_t rfl rfl c2) (all_cons (fact_leq_t rfl rfl c1) (all_cons (d1) (all_cons (fact_num rfl rfl rfl rfl (by simp only [sg, val, wrap_u8, wrap_u16, wrap_u32, wrap_u64]; omega)) (all_cons (d0) (all_nil)))))))))))))))) (all_cons (conv_num rfl rfl (wrap_i64 (by simp only [sg, val]; omega) (by simp only [sg, val]; omega)).symm) (all_nil))
                        · exact L ran3 0 (q := q13) rfl rfl rfl (all_cons (fact_leq_f rfl rfl c11) (all_cons (fact_leq_t rfl rfl c10) (all_cons (fact_leq_t rfl rfl c9) (all_cons (fact_leq_t rfl rfl c8) (all_cons (fact_leq_t rfl rfl c7) (all_cons (fact_leq_t rfl rfl c6) (all_cons (fact_leq_t rfl rfl c5) (all_cons (fact_leq_t rfl rfl c4) (all_cons (fact_leq_t rfl rfl c3) (all_cons (fact_leq_t rfl rfl c2) (all_cons (fact_leq_t rfl rfl c1) (all_cons (d1) (all_cons (fact_num rfl rfl rfl rfl (by simp only [sg, val, wrap_u8, wrap_u16, wrap_u32, wrap_u64]; omega)) (all_cons (d0) (all_nil))))))))))))))) (all_cons (conv_num rfl rfl (wrap_i64 (by simp only [sg, val]; omega) (by simp only [sg, val]; omega)).symm) (all_nil))
                      · exact L ran3 1 (q := q14) rfl rfl rfl (all_cons (fact_leq_f rfl rfl c10) (all_cons (fact_leq_t rfl rfl c9) (all_cons (fact_leq_t rfl rfl c8) (all_cons (fact_leq_t rfl rfl c7) (all_cons (fact_leq_t rfl rfl c6) (all_cons (fact_leq_t rfl rfl c5) (all_cons (fact_leq_t rfl rfl c4) (all_cons (fact_leq_t rfl rfl c3) (all_cons (fact_leq_t rfl rfl c2) (all_cons (fact_leq_t rfl rfl c1) (all_cons (d1) (all_cons (fact_num rfl rfl rfl rfl (by simp only [sg, val, wrap_u8, wrap_u16, wrap_u32, wrap_u64]; omega)) (all_cons (d0) (all_nil)))))))))))))) (all_cons (conv_num rfl rfl (wrap_i64 (by simp only [sg, val]; omega) (by simp only [sg, val]; omega)).symm) (all_nil))
                    · exact L ran3 2 (q := q15) rfl rfl rfl (all_cons (fact_leq_f rfl rfl c9) (all_cons (fact_leq_t rfl rfl c8) (all_cons (fact_leq_t rfl rfl c7) (all_cons (fact_leq_t rfl rfl c6) (all_cons (fact_leq_t rfl rfl c5) (all_cons (fact_leq_t rfl rfl c4) (all_cons (fact_leq_t rfl rfl c3) (all_cons (fact_leq_t rfl rfl c2) (all_cons (fact_leq_t rfl rfl c1) (all_cons (d1) (all_cons (fact_num rfl rfl rfl rfl (by simp only [sg, val, wrap_u8, wrap_u16, wrap_u32, wrap_u64]; omega)) (all_cons (d0) (all_nil))))))))))))) (all_cons (conv_num rfl rfl (wrap_i64 (by simp only [sg, val]; omega) (by simp only [sg, val]; omega)).symm) (all_nil))
                  · exact L ran4 0 (q := q16) rfl rfl rfl (all_cons (fact_leq_f rfl rfl c8) (all_cons (fact_leq_t rfl rfl c7) (all_cons (fact_leq_t rfl rfl c6) (all_cons (fact_leq_t rfl rfl c5) (all_cons (fact_leq_t rfl rfl c4) (all_cons (fact_leq_t rfl rfl c3) (all_cons (fact_leq_t rfl rfl c2) (all_cons (fact_leq_t rfl rfl c1) (all_cons (d1) (all_cons (fact_num rfl rfl rfl rfl (by simp only [sg, val, wrap_u8, wrap_u16, wrap_u32, wrap_u64]; omega)) (all_cons (d0) (all_nil)))))))))))) (all_cons (conv_num rfl rfl (wrap_i64 (by simp only [sg, val]; omega) (by simp only [sg, val]; omega)).symm) (all_nil))
                · exact L ran4 1 (q := q17) rfl rfl rfl (all_cons (fact_leq_f rfl rfl c7) (all_cons (fact_leq_t rfl rfl c6) (all_cons (fact_leq_t rfl rfl c5) (all_cons (fact_leq_t rfl rfl c4) (all_cons (fact_leq_t rfl rfl c3) (all_cons (fact_leq_t rfl rfl c2) (all_cons (fact_leq_t rfl rfl c1) (all_cons (d1) (all_cons (fact_num rfl rfl rfl rfl (by simp only [sg, val, wrap_u8, wrap_u16, wrap_u32, wrap_u64]; omega)) (all_cons (d0) (all_nil))))))))))) (all_cons (conv_num rfl rfl (wrap_i64 (by simp only [sg, val]; omega) (by simp only [sg, val]; omega)).symm) (all_nil))
              · exact L ran4 2 (q := q18) rfl rfl rfl (all_cons (fact_leq_f rfl rfl c6) (all_cons (fact_leq_t rfl rfl c5) (all_cons (fact_leq_t rfl rfl c4) (all_cons (fact_leq_t rfl rfl c3) (all_cons (fact_leq_t rfl rfl c2) (all_cons (fact_leq_t rfl rfl c1) (all_cons (d1) (all_cons (fact_num rfl rfl rfl rfl (by simp only [sg, val, wrap_u8, wrap_u16, wrap_u32, wrap_u64]; omega)) (all_cons (d0) (all_nil)))))))))) (all_cons (conv_num rfl rfl (wrap_i64 (by simp only [sg, val]; omega) (by simp only [sg, val]; omega)).symm) (all_nil))
            · exact L ran4 3 (q := q19) rfl rfl rfl (all_cons (fact_leq_f rfl rfl c5) (all_cons (fact_leq_t rfl rfl c4) (all_cons (fact_leq_t rfl rfl c3) (all_cons (fact_leq_t rfl rfl c2) (all_cons (fact_leq_t rfl rfl c1) (all_cons (d1) (all_cons (fact_num rfl rfl rfl rfl (by simp only [sg, val, wrap_u8, wrap_u16, wrap_u32, wrap_u64]; omega)) (all_cons (d0) (all_nil))))))))) (all_cons (conv_num rfl rfl (wrap_i64 (by simp only [sg, val]; omega) (by simp only [sg, val]; omega)).symm) (all_nil))
          · exact L ran4 4 (q := q20) rfl rfl rfl (all_cons (fact_leq_f rfl rfl c4) (all_cons (fact_leq_t rfl rfl c3) (all_cons (fact_leq_t rfl rfl c2) (all_cons (fact_leq_t rfl rfl c1) (all_cons (d1) (all_cons (fact_num rfl rfl rfl rfl (by simp only [sg, val, wrap_u8, wrap_u16, wrap_u32, wrap_u64]; omega)) (all_cons (d0) (all_nil)))))))) (all_cons (conv_num rfl rfl (wrap_i64 (by simp only [sg, val]; omega) (by simp only [sg, val]; omega)).symm) (all_nil))
        · exact L ran5 0 (q := q21) rfl rfl rfl (all_cons (fact_leq_f rfl rfl c3) (all_cons (fact_leq_t rfl rfl c2) (all_cons (fact_leq_t rfl rfl c1) (all_cons (d1) (all_cons (fact_num rfl rfl rfl rfl (by simp only [sg, val, wrap_u8, wrap_u16, wrap_u32, wrap_u64]; omega)) (all_cons (d0) (all_nil))))))) (all_cons (conv_num rfl rfl (wrap_i64 (by simp only [sg, val]; omega) (by simp only [sg, val]; omega)).symm) (all_nil))
      · exact L ran5 1 (q := q22) rfl rfl rfl (all_cons (fact_leq_f rfl rfl c2) (all_cons (fact_leq_t rfl rfl c1) (all_cons (d1) (all_cons (fact_num rfl rfl rfl rfl (by simp only [sg, val, wrap_u8, wrap_u16, wrap_u32, wrap_u64]; omega)) (all_cons (d0) (all_nil)))))) (all_cons (conv_num rfl rfl (wrap_i64 (by simp only [sg, val]; omega) (by simp only [sg, val]; omega)).symm) (all_nil))
    · exact L ran5 2 (q := q23) rfl rfl rfl (all_cons (fact_leq_f rfl rfl c1) (all_cons (d1) (all_cons (fact_num rfl rfl rfl rfl (by simp only [sg, val, wrap_u8, wrap_u16, wrap_u32, wrap_u64]; omega)) (all_cons (d0) (all_nil))))) (all_cons (conv_num rfl rfl (wrap_i64 (by simp only [sg, val]; omega) (by simp only [sg, val]; omega)).symm) (all_nil))
  · rcases (show (1 ≤ (ticks % 12)) ∨ (¬ 1 ≤ (ticks % 12)) by omega) with c1 | c1
    · rcases (show (2 ≤ (ticks % 12)) ∨ (¬ 2 ≤ (ticks % 12)) by omega) with c2 | c2
      · rcases (show (3 ≤ (ticks % 12)) ∨ (¬ 3 ≤ (ticks % 12)) by omega) with c3 | c3
        · rcases (show (4 ≤ (ticks % 12)) ∨ (¬ 4 ≤ (ticks % 12)) by omega) with c4 | c4
          · rcases (show (5 ≤ (ticks % 12)) ∨ (¬ 5 ≤ (ticks % 12)) by omega) with c5 | c5
            · rcases (show (6 ≤ (ticks % 12)) ∨ (¬ 6 ≤ (ticks % 12)) by omega) with c6 | c6
              · rcases (show (7 ≤ (ticks % 12)) ∨ (¬ 7 ≤ (ticks % 12)) by omega) with c7 | c7
                · rcases (show (8 ≤ (ticks % 12)) ∨ (¬ 8 ≤ (ticks % 12)) by omega) with c8 | c8
                  · rcases (show (9 ≤ (ticks % 12)) ∨ (¬ 9 ≤ (ticks % 12)) by omega) with c9 | c9
                    · rcases (show (10 ≤ (ticks % 12)) ∨ (¬ 10 ≤ (ticks % 12)) by omega) with c10 | c10
                      · rcases (show (11 ≤ (ticks % 12)) ∨ (¬ 11 ≤ (ticks % 12)) by omega) with c11 | c11
                        · have c12 : ¬ 12 ≤ (ticks % 12) := by omega
                          exact L ran5 3 (q := q24) rfl rfl rfl (all_cons (fact_leq_f rfl rfl c12) (all_cons (fact_leq_t rfl rfl c11) (all_cons (fact_leq_t rfl rfl c10) (all_cons (fact_leq_t rfl rfl c9) (all_cons (fact_leq_t rfl rfl c8) (all_cons (fact_leq_t rfl rfl c7) (all_cons (fact_leq_t rfl rfl c6) (all_cons (fact_leq_t rfl rfl c5) (all_cons (fact_leq_t rfl rfl c4) (all_cons (fact_leq_t rfl rfl c3) (all_cons (fact_leq_t rfl rfl c2) (all_cons (fact_leq_t rfl rfl c1) (all_cons (d1) (all_cons (fact_num rfl rfl rfl rfl (by simp only [sg, val, wrap_u8, wrap_u16, wrap_u32, wrap_u64]; omega)) (all_cons (d0) (all_nil)))))))))))))))) (all_cons (conv_num rfl rfl (wrap_i64 (by simp only [sg, val]; omega) (by simp only [sg, val]; omega)).symm) (all_nil))
                        · exact L ran5 4 (q := q25) rfl rfl rfl (all_cons (fact_leq_f rfl rfl c11) (all_cons (fact_leq_t rfl rfl c10) (all_cons (fact_leq_t rfl rfl c9) (all_cons (fact_leq_t rfl rfl c8) (all_cons (fact_leq_t rfl rfl c7) (all_cons (fact_leq_t rfl rfl c6) (all_cons (fact_leq_t rfl rfl c5) (all_cons (fact_leq_t rfl rfl c4) (all_cons (fact_leq_t rfl rfl c3) (all_cons (fact_leq_t rfl rfl c2) (all_cons (fact_leq_t rfl rfl c1) (all_cons (d1) (all_cons (fact_num rfl rfl rfl rfl (by simp only [sg, val, wrap_u8, wrap_u16, wrap_u32, wrap_u64]; omega)) (all_cons (d0) (all_nil))))))))))))))) (all_cons (conv_num rfl rfl (wrap_i64 (by simp only [sg, val]; omega) (by simp only [sg, val]; omega)).symm) (all_nil))
                      · exact L ran6 0 (q := q26) rfl rfl rfl (all_cons (fact_leq_f rfl rfl c10) (all_cons (fact_leq_t rfl rfl c9) (all_cons (fact_leq_t rfl rfl c8) (all_cons (fact_leq_t rfl rfl c7) (all_cons (fact_leq_t rfl rfl c6) (all_cons (fact_leq_t rfl rfl c5) (all_cons (fact_leq_t rfl rfl c4) (all_cons (fact_leq_t rfl rfl c3) (all_cons (fact_leq_t rfl rfl c2) (all_cons (fact_leq_t rfl rfl c1) (all_cons (d1) (all_cons (fact_num rfl rfl rfl rfl (by simp only [sg, val, wrap_u8, wrap_u16, wrap_u32, wrap_u64]; omega)) (all_cons (d0) (all_nil)))))))))))))) (all_cons (conv_num rfl rfl (wrap_i64 (by simp only [sg, val]; omega) (by simp only [sg, val]; omega)).symm) (all_nil))
                    · exact L ran6 1 (q := q27) rfl rfl rfl (all_cons (fact_leq_f rfl rfl c9) (all_cons (fact_leq_t rfl rfl c8) (all_cons (fact_leq_t rfl rfl c7) (all_cons (fact_leq_t rfl rfl c6) (all_cons (fact_leq_t rfl rfl c5) (all_cons (fact_leq_t rfl rfl c4) (all_cons (fact_leq_t rfl rfl c3) (all_cons (fact_leq_t rfl rfl c2) (all_cons (fact_leq_t rfl rfl c1) (all_cons (d1) (all_cons (fact_num rfl rfl rfl rfl (by simp only [sg, val, wrap_u8, wrap_u16, wrap_u32, wrap_u64]; omega)) (all_cons (d0) (all_nil))))))))))))) (all_cons (conv_num rfl rfl (wrap_i64 (by simp only [sg, val]; omega) (by simp only [sg, val]; omega)).symm) (all_nil))
                  · exact L ran6 2 (q := q28) rfl rfl rfl (all_cons (fact_leq_f rfl rfl c8) (all_cons (fact_leq_t rfl rfl c7) (all_cons (fact_leq_t rfl rfl c6) (all_cons (fact_leq_t rfl rfl c5) (all_cons (fact_leq_t rfl rfl c4) (all_cons (fact_leq_t rfl rfl c3) (all_cons (fact_leq_t rfl rfl c2) (all_cons (fact_leq_t rfl rfl c1) (all_cons (d1) (all_cons (fact_num rfl rfl rfl rfl (by simp only [sg, val, wrap_u8, wrap_u16, wrap_u32, wrap_u64]; omega)) (all_cons (d0) (all_nil)))))))))))) (all_cons (conv_num rfl rfl (wrap_i64 (by simp only [sg, val]; omega) (by simp only [sg, val]; omega)).symm) (all_nil))
                · exact L ran7 0 (q := q29) rfl rfl rfl (all_cons (fact_leq_f rfl rfl c7) (all_cons (fact_leq_t rfl rfl c6) (all_cons (fact_leq_t rfl rfl c5) (all_cons (fact_leq_t rfl rfl c4) (all_cons (fact_leq_t rfl rfl c3) (all_cons (fact_leq_t rfl rfl c2) (all_cons (fact_leq_t rfl rfl c1) (all_cons (d1) (all_cons (fact_num rfl rfl rfl rfl (by simp only [sg, val, wrap_u8, wrap_u16, wrap_u32, wrap_u64]; omega)) (all_cons (d0) (all_nil))))))))))) (all_cons (conv_num rfl rfl (wrap_i64 (by simp only [sg, val]; omega) (by simp only [sg, val]; omega)).symm) (all_nil))
              · exact L ran7 1 (q := q30) rfl rfl rfl (all_cons (fact_leq_f rfl rfl c6) (all_cons (fact_leq_t rfl rfl c5) (all_cons (fact_leq_t rfl rfl c4) (all_cons (fact_leq_t rfl rfl c3) (all_cons (fact_leq_t rfl rfl c2) (all_cons (fact_leq_t rfl rfl c1) (all_cons (d1) (all_cons (fact_num rfl rfl rfl rfl (by simp only [sg, val, wrap_u8, wrap_u16, wrap_u32, wrap_u64]; omega)) (all_cons (d0) (all_nil)))))))))) (all_cons (conv_num rfl rfl (wrap_i64 (by simp only [sg, val]; omega) (by simp only [sg, val]; omega)).symm) (all_nil))
            · exact L ran7 2 (q := q31) rfl rfl rfl (all_cons (fact_leq_f rfl rfl c5) (all_cons (fact_leq_t rfl rfl c4) (all_cons (fact_leq_t rfl rfl c3) (all_cons (fact_leq_t rfl rfl c2) (all_cons (fact_leq_t rfl rfl c1) (all_cons (d1) (all_cons (fact_num rfl rfl rfl rfl (by simp only [sg, val, wrap_u8, wrap_u16, wrap_u32, wrap_u64]; omega)) (all_cons (d0) (all_nil))))))))) (all_cons (conv_num rfl rfl (wrap_i64 (by simp only [sg, val]; omega) (by simp only [sg, val]; omega)).symm) (all_nil))
          · exact L ran7 3 (q := q32) rfl rfl rfl (all_cons (fact_leq_f rfl rfl c4) (all_cons (fact_leq_t rfl rfl c3) (all_cons (fact_leq_t rfl rfl c2) (all_cons (fact_leq_t rfl rfl c1) (all_cons (d1) (all_cons (fact_num rfl rfl rfl rfl (by simp only [sg, val, wrap_u8, wrap_u16, wrap_u32, wrap_u64]; omega)) (all_cons (d0) (all_nil)))))))) (all_cons (conv_num rfl rfl (wrap_i64 (by simp only [sg, val]; omega) (by simp only [sg, val]; omega)).symm) (all_nil))
        · exact L ran7 4 (q := q33) rfl rfl rfl (all_cons (fact_leq_f rfl rfl c3) (all_cons (fact_leq_t rfl rfl c2) (all_cons (fact_leq_t rfl rfl c1) (all_cons (d1) (all_cons (fact_num rfl rfl rfl rfl (by simp only [sg, val, wrap_u8, wrap_u16, wrap_u32, wrap_u64]; omega)) (all_cons (d0) (all_nil))))))) (all_cons (conv_num rfl rfl (wrap_i64 (by simp only [sg, val]; omega) (by simp only [sg, val]; omega)).symm) (all_nil))
      · exact L ran7 5 (q := q34) rfl rfl rfl (all_cons (fact_leq_f rfl rfl c2) (all_cons (fact_leq_t rfl rfl c1) (all_cons (d1) (all_cons (fact_num rfl rfl rfl rfl (by simp only [sg, val, wrap_u8, wrap_u16, wrap_u32, wrap_u64]; omega)) (all_cons (d0) (all_nil)))))) (all_cons (conv_num rfl rfl (wrap_i64 (by simp only [sg, val]; omega) (by simp only [sg, val]; omega)).symm) (all_nil))
    · exact L ran8 0 (q := q35) rfl rfl rfl (all_cons (fact_leq_f rfl rfl c1) (all_cons (d1) (all_cons (fact_num rfl rfl rfl rfl (by simp only [sg, val, wrap_u8, wrap_u16, wrap_u32, wrap_u64]; omega)) (all_cons (d0) (all_nil))))) (all_cons (conv_num rfl rfl (wrap_i64 (by simp only [sg, val]; omega) (by simp only [sg, val]; omega)).symm) (all_nil))
end Go.Proofs.YtchildicegbmcaaGreatDoor.ReplicaPatienceB1
