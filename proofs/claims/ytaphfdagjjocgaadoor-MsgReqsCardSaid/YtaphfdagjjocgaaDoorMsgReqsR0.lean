/- Written by a program of this claim's (a symbolic run): the cases of the law's arguments, and the run of each. No condition but the arguments' kinds. -/
import Derived.Test.YtaphfdagjjocgaaDoorCom
set_option linter.unusedVariables false
set_option linter.unusedSimpArgs false
set_option maxRecDepth 100000
namespace Go.Proofs.YtaphfdagjjocgaaDoor.MsgReqsB0
open Go.Abs Go.RowKit
def byteSyms : List Nat := [0, 2, 3]
def val (client ts kind key vl : Int) : Nat → Int
  | 0 => client
  | 1 => ts
  | 2 => kind
  | 3 => key
  | 4 => vl
  | _ => 0
def sg (client ts kind key vl : Int) : Val := ⟨val client ts kind key vl, fun _ _ => none⟩
theorem bytes_ok (client ts kind key vl : Int) (hclient : 0 ≤ client ∧ client < 256) (hts : 0 ≤ ts ∧ ts < 4294967296) (hkind : 0 ≤ kind ∧ kind < 256) (hkey : 0 ≤ key ∧ key < 256) (hvl : 0 ≤ vl ∧ vl < 65536) : ∀ s ∈ byteSyms, 0 ≤ (sg client ts kind key vl).num s ∧ (sg client ts kind key vl).num s < 256 :=
  all_cons (by simp only [sg, val]; omega) (all_cons (by simp only [sg, val]; omega) (all_cons (by simp only [sg, val]; omega) (all_nil)))
def F0 : Fact := ⟨.neq, .sym .u32 1, .int .u32 0, .bool true⟩
def F1 : Fact := ⟨.eql, .sym .u8 0, .int .u8 0, .bool false⟩
def F2 : Fact := ⟨.neq, .sym .u8 2, .int .u8 2, .bool true⟩
def F3 : Fact := ⟨.lss, .sym .u8 3, .int .u8 64, .bool true⟩
def F4 : Fact := ⟨.leq, .sym .u8 2, .int .u8 3, .bool true⟩
def F5 : Fact := ⟨.geq, .sym .u8 2, .int .u8 1, .bool true⟩
def F6 : Fact := ⟨.gtr, .sym .u32 1, .int .u32 0, .bool true⟩
def F7 : Fact := ⟨.leq, .sym .u8 0, .int .u8 4, .bool true⟩
def F8 : Fact := ⟨.geq, .sym .u8 0, .int .u8 1, .bool true⟩
def F9 : Fact := ⟨.eql, .sym .u16 4, .int .u16 0, .bool true⟩
def F10 : Fact := ⟨.neq, .sym .u8 2, .int .u8 2, .bool false⟩
def F11 : Fact := ⟨.eql, .sym .u16 4, .int .u16 0, .bool false⟩
def F12 : Fact := ⟨.lss, .sym .u8 3, .int .u8 64, .bool false⟩
def F13 : Fact := ⟨.leq, .sym .u8 2, .int .u8 3, .bool false⟩
def F14 : Fact := ⟨.geq, .sym .u8 2, .int .u8 1, .bool false⟩
def F15 : Fact := ⟨.neq, .sym .u32 1, .int .u32 0, .bool false⟩
def F16 : Fact := ⟨.gtr, .sym .u32 1, .int .u32 0, .bool false⟩
def F17 : Fact := ⟨.leq, .sym .u8 0, .int .u8 4, .bool false⟩
def F18 : Fact := ⟨.eql, .sym .u8 3, .int .u8 0, .bool true⟩
def F19 : Fact := ⟨.eql, .sym .u8 2, .int .u8 0, .bool true⟩
def F20 : Fact := ⟨.eql, .sym .u32 1, .int .u32 0, .bool true⟩
def F21 : Fact := ⟨.eql, .sym .u8 0, .int .u8 0, .bool true⟩
def F22 : Fact := ⟨.geq, .sym .u8 0, .int .u8 1, .bool false⟩
def F23 : Fact := ⟨.eql, .sym .u8 3, .int .u8 0, .bool false⟩
def F24 : Fact := ⟨.eql, .sym .u8 2, .int .u8 0, .bool false⟩
def F25 : Fact := ⟨.eql, .sym .u32 1, .int .u32 0, .bool false⟩
noncomputable def q0 : Kn := ⟨[F0, F1, F2, F3, F4, F5, F6, F7, F8], [], tabB byteSyms⟩
noncomputable def q1 : Kn := ⟨[F0, F1, F9, F10, F3, F4, F5, F6, F7, F8], [], tabB byteSyms⟩
noncomputable def q2 : Kn := ⟨[F0, F1, F11, F10, F3, F4, F5, F6, F7, F8], [], tabB byteSyms⟩
noncomputable def q3 : Kn := ⟨[F0, F1, F12, F4, F5, F6, F7, F8], [], tabB byteSyms⟩
noncomputable def q4 : Kn := ⟨[F0, F1, F13, F5, F6, F7, F8], [], tabB byteSyms⟩
noncomputable def q5 : Kn := ⟨[F0, F1, F14, F6, F7, F8], [], tabB byteSyms⟩
noncomputable def q6 : Kn := ⟨[F15, F1, F16, F7, F8], [], tabB byteSyms⟩
noncomputable def q7 : Kn := ⟨[F1, F17, F8], [], tabB byteSyms⟩
noncomputable def q8 : Kn := ⟨[F9, F18, F19, F20, F21, F22], [], tabB byteSyms⟩
noncomputable def q9 : Kn := ⟨[F11, F18, F19, F20, F21, F22], [], tabB byteSyms⟩
noncomputable def q10 : Kn := ⟨[F23, F19, F20, F21, F22], [], tabB byteSyms⟩
noncomputable def q11 : Kn := ⟨[F24, F20, F21, F22], [], tabB byteSyms⟩
noncomputable def q12 : Kn := ⟨[F25, F21, F22], [], tabB byteSyms⟩
noncomputable def lot0 : List (Kn × List AV) := [(q0, [.agg [.sym .u8 0, .sym .u32 1, .sym .u8 2, .sym .u8 3, .sym .u16 4]]), (q1, [.agg [.sym .u8 0, .sym .u32 1, .sym .u8 2, .sym .u8 3, .sym .u16 4]]), (q2, [.agg [.sym .u8 0, .sym .u32 1, .sym .u8 2, .sym .u8 3, .sym .u16 4]]), (q3, [.agg [.sym .u8 0, .sym .u32 1, .sym .u8 2, .sym .u8 3, .sym .u16 4]]), (q4, [.agg [.sym .u8 0, .sym .u32 1, .sym .u8 2, .sym .u8 3, .sym .u16 4]]), (q5, [.agg [.sym .u8 0, .sym .u32 1, .sym .u8 2, .sym .u8 3, .sym .u16 4]]), (q6, [.agg [.sym .u8 0, .sym .u32 1, .sym .u8 2, .sym .u8 3, .sym .u16 4]]), (q7, [.agg [.sym .u8 0, .sym .u32 1, .sym .u8 2, .sym .u8 3, .sym .u16 4]]), (q8, [.agg [.sym .u8 0, .sym .u32 1, .sym .u8 2, .sym .u8 3, .sym .u16 4]]), (q9, [.agg [.sym .u8 0, .sym .u32 1, .sym .u8 2, .sym .u8 3, .sym .u16 4]]), (q10, [.agg [.sym .u8 0, .sym .u32 1, .sym .u8 2, .sym .u8 3, .sym .u16 4]]), (q11, [.agg [.sym .u8 0, .sym .u32 1, .sym .u8 2, .sym .u8 3, .sym .u16 4]]), (q12, [.agg [.sym .u8 0, .sym .u32 1, .sym .u8 2, .sym .u8 3, .sym .u16 4]])]
theorem ran0 : runAll cx 60 6 lot0 = true := by kernel_rfl
theorem leaf (client ts kind key vl : Int) (hclient : 0 ≤ client ∧ client < 256) (hts : 0 ≤ ts ∧ ts < 4294967296) (hkind : 0 ≤ kind ∧ kind < 256) (hkey : 0 ≤ key ∧ key < 256) (hvl : 0 ≤ vl ∧ vl < 65536) (w : World) {l : List (Kn × List AV)} (hl : runAll cx 60 6 l = true) (i : Nat) {q : Kn} {args : List AV} {A : List Value} (hp : l[i]? = some (q, args)) (hA : concs (noEnv (sg client ts kind key vl)) args = some A) (hb : q.bytes = tabB byteSyms) (hf : ∀ f ∈ q.facts, FactOK Tryd.prog (sg client ts kind key vl) f) (hc : ∀ f ∈ q.convs, FConvOK (sg client ts kind key vl) f) : Calls Tryd.prog 6 ⟨A⟩ w fun e w' => e = .returned (.bool true) ∧ Below w.heap.size w w' :=
  law_of_run (progOK_W asked hf hc (by rw [hb]; exact tabB_ok (bytes_ok client ts kind key vl hclient hts hkind hkey hvl)) globs_nil sums_ok) hA (runAll_get hl i hp) w (fun _ _ _ h => by cases h)
set_option maxHeartbeats 100000000 in
theorem walk (client ts kind key vl : Int) (hclient : 0 ≤ client ∧ client < 256) (hts : 0 ≤ ts ∧ ts < 4294967296) (hkind : 0 ≤ kind ∧ kind < 256) (hkey : 0 ≤ key ∧ key < 256) (hvl : 0 ≤ vl ∧ vl < 65536) (w : World) : Calls Tryd.prog 6 ⟨[.agg #[.int .u8 client, .int .u32 ts, .int .u8 kind, .int .u8 key, .int .u16 vl]]⟩ w fun e w' => e = .returned (.bool true) ∧ Below w.heap.size w w' := by
  have L := @leaf client ts kind key vl hclient hts hkind hkey hvl w
  rcases (show (client ≥ 1) ∨ (¬ client ≥ 1) by omega) with c0 | c0
  · rcases (show (client ≤ 4) ∨ (¬ client ≤ 4) by omega) with c1 | c1
    · rcases (show (ts > 0) ∨ (¬ ts > 0) by omega) with c2 | c2
      · rcases (show (kind ≥ 1) ∨ (¬ kind ≥ 1) by omega) with c3 | c3
        · rcases (show (kind ≤ 3) ∨ (¬ kind ≤ 3) by omega) with c4 | c4
          · rcases (show (key < 64) ∨ (¬ key < 64) by omega) with c5 | c5
            · rcases (show (¬ kind = 2) ∨ (kind = 2) by omega) with c6 | c6
              · have c7 : ¬ client = 0 := by omega
                have c8 : ¬ ts = 0 := by omega
                exact L ran0 0 (q := q0) rfl rfl rfl (all_cons (fact_neq_t rfl rfl c8) (all_cons (fact_ne rfl rfl c7) (all_cons (fact_neq_t rfl rfl c6) (all_cons (fact_lss_t rfl rfl c5) (all_cons (fact_leq_t rfl rfl c4) (all_cons (fact_geq_t rfl rfl c3) (all_cons (fact_gtr_t rfl rfl c2) (all_cons (fact_leq_t rfl rfl c1) (all_cons (fact_geq_t rfl rfl c0) (all_nil)))))))))) (all_nil)
              · rcases (show (vl = 0) ∨ (¬ vl = 0) by omega) with c7 | c7
                · have c8 : ¬ client = 0 := by omega
                  have c9 : ¬ ts = 0 := by omega
                  exact L ran0 1 (q := q1) rfl rfl rfl (all_cons (fact_neq_t rfl rfl c9) (all_cons (fact_ne rfl rfl c8) (all_cons (fact_eq rfl rfl c7) (all_cons (fact_neq_f rfl rfl c6) (all_cons (fact_lss_t rfl rfl c5) (all_cons (fact_leq_t rfl rfl c4) (all_cons (fact_geq_t rfl rfl c3) (all_cons (fact_gtr_t rfl rfl c2) (all_cons (fact_leq_t rfl rfl c1) (all_cons (fact_geq_t rfl rfl c0) (all_nil))))))))))) (all_nil)
                · have c8 : ¬ client = 0 := by omega
                  have c9 : ¬ ts = 0 := by omega
                  exact L ran0 2 (q := q2) rfl rfl rfl (all_cons (fact_neq_t rfl rfl c9) (all_cons (fact_ne rfl rfl c8) (all_cons (fact_ne rfl rfl c7) (all_cons (fact_neq_f rfl rfl c6) (all_cons (fact_lss_t rfl rfl c5) (all_cons (fact_leq_t rfl rfl c4) (all_cons (fact_geq_t rfl rfl c3) (all_cons (fact_gtr_t rfl rfl c2) (all_cons (fact_leq_t rfl rfl c1) (all_cons (fact_geq_t rfl rfl c0) (all_nil))))))))))) (all_nil)
            · have c6 : ¬ client = 0 := by omega
              have c7 : ¬ ts = 0 := by omega
              exact L ran0 3 (q := q3) rfl rfl rfl (all_cons (fact_neq_t rfl rfl c7) (all_cons (fact_ne rfl rfl c6) (all_cons (fact_lss_f rfl rfl c5) (all_cons (fact_leq_t rfl rfl c4) (all_cons (fact_geq_t rfl rfl c3) (all_cons (fact_gtr_t rfl rfl c2) (all_cons (fact_leq_t rfl rfl c1) (all_cons (fact_geq_t rfl rfl c0) (all_nil))))))))) (all_nil)
          · have c5 : ¬ client = 0 := by omega
            have c6 : ¬ ts = 0 := by omega
            exact L ran0 4 (q := q4) rfl rfl rfl (all_cons (fact_neq_t rfl rfl c6) (all_cons (fact_ne rfl rfl c5) (all_cons (fact_leq_f rfl rfl c4) (all_cons (fact_geq_t rfl rfl c3) (all_cons (fact_gtr_t rfl rfl c2) (all_cons (fact_leq_t rfl rfl c1) (all_cons (fact_geq_t rfl rfl c0) (all_nil)))))))) (all_nil)
        · have c4 : ¬ client = 0 := by omega
          have c5 : ¬ ts = 0 := by omega
          exact L ran0 5 (q := q5) rfl rfl rfl (all_cons (fact_neq_t rfl rfl c5) (all_cons (fact_ne rfl rfl c4) (all_cons (fact_geq_f rfl rfl c3) (all_cons (fact_gtr_t rfl rfl c2) (all_cons (fact_leq_t rfl rfl c1) (all_cons (fact_geq_t rfl rfl c0) (all_nil))))))) (all_nil)
      · have c3 : ¬ client = 0 := by omega
        have c4 : ts = 0 := by omega
        exact L ran0 6 (q := q6) rfl rfl rfl (all_cons (fact_neq_f rfl rfl c4) (all_cons (fact_ne rfl rfl c3) (all_cons (fact_gtr_f rfl rfl c2) (all_cons (fact_leq_t rfl rfl c1) (all_cons (fact_geq_t rfl rfl c0) (all_nil)))))) (all_nil)
    · have c2 : ¬ client = 0 := by omega
      exact L ran0 7 (q := q7) rfl rfl rfl (all_cons (fact_ne rfl rfl c2) (all_cons (fact_leq_f rfl rfl c1) (all_cons (fact_geq_t rfl rfl c0) (all_nil)))) (all_nil)
  · have c1 : client = 0 := by omega
    rcases (show (ts = 0) ∨ (¬ ts = 0) by omega) with c2 | c2
    · rcases (show (kind = 0) ∨ (¬ kind = 0) by omega) with c3 | c3
      · rcases (show (key = 0) ∨ (¬ key = 0) by omega) with c4 | c4
        · rcases (show (vl = 0) ∨ (¬ vl = 0) by omega) with c5 | c5
          · exact L ran0 8 (q := q8) rfl rfl rfl (all_cons (fact_eq rfl rfl c5) (all_cons (fact_eq rfl rfl c4) (all_cons (fact_eq rfl rfl c3) (all_cons (fact_eq rfl rfl c2) (all_cons (fact_eq rfl rfl c1) (all_cons (fact_geq_f rfl rfl c0) (all_nil))))))) (all_nil)
          · exact L ran0 9 (q := q9) rfl rfl rfl (all_cons (fact_ne rfl rfl c5) (all_cons (fact_eq rfl rfl c4) (all_cons (fact_eq rfl rfl c3) (all_cons (fact_eq rfl rfl c2) (all_cons (fact_eq rfl rfl c1) (all_cons (fact_geq_f rfl rfl c0) (all_nil))))))) (all_nil)
        · exact L ran0 10 (q := q10) rfl rfl rfl (all_cons (fact_ne rfl rfl c4) (all_cons (fact_eq rfl rfl c3) (all_cons (fact_eq rfl rfl c2) (all_cons (fact_eq rfl rfl c1) (all_cons (fact_geq_f rfl rfl c0) (all_nil)))))) (all_nil)
      · exact L ran0 11 (q := q11) rfl rfl rfl (all_cons (fact_ne rfl rfl c3) (all_cons (fact_eq rfl rfl c2) (all_cons (fact_eq rfl rfl c1) (all_cons (fact_geq_f rfl rfl c0) (all_nil))))) (all_nil)
    · exact L ran0 12 (q := q12) rfl rfl rfl (all_cons (fact_ne rfl rfl c2) (all_cons (fact_eq rfl rfl c1) (all_cons (fact_geq_f rfl rfl c0) (all_nil)))) (all_nil)
end Go.Proofs.YtaphfdagjjocgaaDoor.MsgReqsB0
