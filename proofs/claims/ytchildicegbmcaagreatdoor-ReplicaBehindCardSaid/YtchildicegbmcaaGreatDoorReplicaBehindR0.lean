/- Written by a program of this claim's (a symbolic run): the cases of the law's arguments, and the run of each. No condition but the arguments' kinds. -/
import Derived.Test.YtchildicegbmcaaGreatDoorCom
set_option linter.unusedVariables false
set_option linter.unusedSimpArgs false
set_option maxRecDepth 100000
namespace Go.Proofs.YtchildicegbmcaaGreatDoor.ReplicaBehindB0
open Go.Abs Go.RowKit
def byteSyms : List Nat := [0, 1]
def val (seq : Int) : Nat → Int
  | 0 => seq
  | 1 => (seq % 6)
  | 2 => (seq % 6)
  | 3 => (((seq % 6) * 4) % 4294967296)
  | 4 => ((((seq % 6) * 4) % 4294967296) % 4)
  | _ => 0
def sg (seq : Int) : Val := ⟨val seq, fun _ _ => none⟩
theorem bytes_ok (seq : Int) (hseq : 0 ≤ seq ∧ seq < 256) : ∀ s ∈ byteSyms, 0 ≤ (sg seq).num s ∧ (sg seq).num s < 256 :=
  all_cons (by simp only [sg, val]; omega) (all_cons (by simp only [sg, val]; omega) (all_nil))
def F0 : Fact := ⟨.rem, .sym .u8 0, .int .u8 6, .sym .u8 1⟩
def F1 : FConv := ⟨.u32, .sym .u8 1, .sym .u32 2⟩
def F2 : Fact := ⟨.mul, .sym .u32 2, .int .u32 4, .sym .u32 3⟩
def F3 : Fact := ⟨.rem, .sym .u32 3, .int .u32 4, .sym .u32 4⟩
def F4 : Fact := ⟨.lss, .sym .u32 3, .int .u32 8, .bool true⟩
def F5 : Fact := ⟨.lss, .sym .u32 3, .int .u32 1, .bool true⟩
def F6 : Fact := ⟨.gtr, .sym .u32 3, .int .u32 1073741824, .bool false⟩
def F7 : Fact := ⟨.neq, .sym .u32 4, .int .u32 0, .bool false⟩
def F8 : Fact := ⟨.eql, .sym .u32 3, .sym .u32 3, .bool true⟩
def F9 : Fact := ⟨.leq, .sym .u32 3, .int .u32 1073741824, .bool true⟩
def F10 : Fact := ⟨.lss, .sym .u32 3, .int .u32 1, .bool false⟩
def F11 : Fact := ⟨.gtr, .sym .u32 3, .int .u32 0, .bool true⟩
def F12 : Fact := ⟨.lss, .sym .u32 3, .int .u32 8, .bool false⟩
noncomputable def q0 : Kn := ⟨[F4, F5, F6, F7, F3, F8, F9, F2, F0], [F1], tabB byteSyms⟩
noncomputable def q1 : Kn := ⟨[F4, F10, F6, F7, F3, F8, F9, F2, F0], [F1], tabB byteSyms⟩
noncomputable def q2 : Kn := ⟨[F11, F12, F10, F6, F7, F3, F8, F9, F2, F0], [F1], tabB byteSyms⟩
noncomputable def lot0 : List (Kn × List AV) := [(q0, [.sym .u8 0, .bool false]), (q1, [.sym .u8 0, .bool false]), (q2, [.sym .u8 0, .bool false])]
theorem ran0 : runAll cx 60 6 lot0 = true := by kernel_rfl
theorem leaf (seq : Int) (hseq : 0 ≤ seq ∧ seq < 256) (w : World) {l : List (Kn × List AV)} (hl : runAll cx 60 6 l = true) (i : Nat) {q : Kn} {args : List AV} {A : List Value} (hp : l[i]? = some (q, args)) (hA : concs (noEnv (sg seq)) args = some A) (hb : q.bytes = tabB byteSyms) (hf : ∀ f ∈ q.facts, FactOK Tryz.prog (sg seq) f) (hc : ∀ f ∈ q.convs, FConvOK (sg seq) f) : Calls Tryz.prog 6 ⟨A⟩ w fun e w' => e = .returned (.bool true) ∧ Below w.heap.size w w' :=
  law_of_run (progOK_W asked hf hc (by rw [hb]; exact tabB_ok (bytes_ok seq hseq)) globs_nil sums_ok) hA (runAll_get hl i hp) w (fun _ _ _ h => by cases h)
set_option maxHeartbeats 100000000 in
theorem walk (seq : Int) (hseq : 0 ≤ seq ∧ seq < 256) (w : World) : Calls Tryz.prog 6 ⟨[.int .u8 seq, .bool false]⟩ w fun e w' => e = .returned (.bool true) ∧ Below w.heap.size w w' := by
  have L := @leaf seq hseq w
  have d0 : FactOK Tryz.prog (sg seq) F0 := fact_num rfl rfl rfl (binI_rem (by simp only [sg, val]; omega) (by decide)) rfl
  have d1 : FConvOK (sg seq) F1 := conv_num rfl rfl (by simp only [sg, val, wrap_u8, wrap_u16, wrap_u32, wrap_u64]; omega)
  have d2 : FactOK Tryz.prog (sg seq) F2 := fact_num rfl rfl rfl rfl rfl
  have d3 : FactOK Tryz.prog (sg seq) F3 := fact_num rfl rfl rfl (binI_rem (by simp only [sg, val]; omega) (by decide)) rfl
  have c0 : (((seq % 6) * 4) % 4294967296) ≤ 1073741824 := by omega
  have c1 : ((((seq % 6) * 4) % 4294967296) % 4) = 0 := by omega
  have c2 : ¬ (((seq % 6) * 4) % 4294967296) > 1073741824 := by omega
  rcases (show ((((seq % 6) * 4) % 4294967296) < 1) ∨ (¬ (((seq % 6) * 4) % 4294967296) < 1) by omega) with c3 | c3
  · have c4 : (((seq % 6) * 4) % 4294967296) < 8 := by omega
    exact L ran0 0 (q := q0) rfl rfl rfl (all_cons (fact_lss_t rfl rfl c4) (all_cons (fact_lss_t rfl rfl c3) (all_cons (fact_gtr_f rfl rfl c2) (all_cons (fact_neq_f rfl rfl c1) (all_cons (d3) (all_cons (fact_eq rfl rfl rfl) (all_cons (fact_leq_t rfl rfl c0) (all_cons (d2) (all_cons (d0) (all_nil)))))))))) (all_cons (d1) (all_nil))
  · rcases (show ((((seq % 6) * 4) % 4294967296) < 8) ∨ (¬ (((seq % 6) * 4) % 4294967296) < 8) by omega) with c4 | c4
    · exact L ran0 1 (q := q1) rfl rfl rfl (all_cons (fact_lss_t rfl rfl c4) (all_cons (fact_lss_f rfl rfl c3) (all_cons (fact_gtr_f rfl rfl c2) (all_cons (fact_neq_f rfl rfl c1) (all_cons (d3) (all_cons (fact_eq rfl rfl rfl) (all_cons (fact_leq_t rfl rfl c0) (all_cons (d2) (all_cons (d0) (all_nil)))))))))) (all_cons (d1) (all_nil))
    · have c5 : (((seq % 6) * 4) % 4294967296) > 0 := by omega
      exact L ran0 2 (q := q2) rfl rfl rfl (all_cons (fact_gtr_t rfl rfl c5) (all_cons (fact_lss_f rfl rfl c4) (all_cons (fact_lss_f rfl rfl c3) (all_cons (fact_gtr_f rfl rfl c2) (all_cons (fact_neq_f rfl rfl c1) (all_cons (d3) (all_cons (fact_eq rfl rfl rfl) (all_cons (fact_leq_t rfl rfl c0) (all_cons (d2) (all_cons (d0) (all_nil))))))))))) (all_cons (d1) (all_nil))
end Go.Proofs.YtchildicegbmcaaGreatDoor.ReplicaBehindB0
