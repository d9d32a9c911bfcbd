/- Written by a program of this claim's (a symbolic run): the cases of the law's arguments, and the run of each. No condition but the arguments' kinds. -/
import Derived.Test.YtchildicegbmcaaGreatDoorCom
set_option linter.unusedVariables false
set_option linter.unusedSimpArgs false
set_option maxRecDepth 100000
namespace Go.Proofs.YtchildicegbmcaaGreatDoor.ReplicaNudgesB0
open Go.Abs Go.RowKit
def byteSyms : List Nat := [0, 1, 2, 3]
def val (nn id_ : Int) : Nat → Int
  | 0 => nn
  | 1 => id_
  | 2 => (id_ % 4)
  | 3 => (nn % 20)
  | 4 => (nn % 20)
  | _ => 0
def sg (nn id_ : Int) : Val := ⟨val nn id_, fun _ _ => none⟩
theorem bytes_ok (nn id_ : Int) (hnn : 0 ≤ nn ∧ nn < 256) (hid_ : 0 ≤ id_ ∧ id_ < 256) : ∀ s ∈ byteSyms, 0 ≤ (sg nn id_).num s ∧ (sg nn id_).num s < 256 :=
  all_cons (by simp only [sg, val]; omega) (all_cons (by simp only [sg, val]; omega) (all_cons (by simp only [sg, val]; omega) (all_cons (by simp only [sg, val]; omega) (all_nil))))
def F0 : Fact := ⟨.rem, .sym .u8 1, .int .u8 4, .sym .u8 2⟩
def F1 : Fact := ⟨.rem, .sym .u8 0, .int .u8 20, .sym .u8 3⟩
def F2 : Fact := ⟨.lss, .int .i64 19, .sym .i64 4, .bool false⟩
def F3 : Fact := ⟨.lss, .int .i64 18, .sym .i64 4, .bool true⟩
def F4 : Fact := ⟨.lss, .int .i64 17, .sym .i64 4, .bool true⟩
def F5 : Fact := ⟨.lss, .int .i64 16, .sym .i64 4, .bool true⟩
def F6 : Fact := ⟨.lss, .int .i64 15, .sym .i64 4, .bool true⟩
def F7 : Fact := ⟨.lss, .int .i64 14, .sym .i64 4, .bool true⟩
def F8 : Fact := ⟨.lss, .int .i64 13, .sym .i64 4, .bool true⟩
def F9 : Fact := ⟨.lss, .int .i64 12, .sym .i64 4, .bool true⟩
def F10 : Fact := ⟨.lss, .int .i64 11, .sym .i64 4, .bool true⟩
def F11 : Fact := ⟨.lss, .int .i64 10, .sym .i64 4, .bool true⟩
def F12 : Fact := ⟨.lss, .int .i64 9, .sym .i64 4, .bool true⟩
def F13 : Fact := ⟨.lss, .int .i64 8, .sym .i64 4, .bool true⟩
def F14 : Fact := ⟨.lss, .int .i64 7, .sym .i64 4, .bool true⟩
def F15 : Fact := ⟨.lss, .int .i64 6, .sym .i64 4, .bool true⟩
def F16 : Fact := ⟨.lss, .int .i64 5, .sym .i64 4, .bool true⟩
def F17 : Fact := ⟨.lss, .int .i64 4, .sym .i64 4, .bool true⟩
def F18 : Fact := ⟨.lss, .int .i64 3, .sym .i64 4, .bool true⟩
def F19 : Fact := ⟨.lss, .int .i64 2, .sym .i64 4, .bool true⟩
def F20 : Fact := ⟨.lss, .int .i64 1, .sym .i64 4, .bool true⟩
def F21 : Fact := ⟨.neq, .sym .u8 2, .int .u8 0, .bool false⟩
def F22 : Fact := ⟨.neq, .int .u8 3, .sym .u8 2, .bool true⟩
def F23 : Fact := ⟨.neq, .int .u8 2, .sym .u8 2, .bool true⟩
def F24 : Fact := ⟨.neq, .int .u8 1, .sym .u8 2, .bool true⟩
def F25 : Fact := ⟨.neq, .int .u8 0, .sym .u8 2, .bool false⟩
def F26 : Fact := ⟨.eql, .int .u8 0, .sym .u8 2, .bool true⟩
def F27 : Fact := ⟨.lss, .int .i64 0, .sym .i64 4, .bool true⟩
def F28 : FConv := ⟨.i64, .sym .u8 3, .sym .i64 4⟩
def F29 : Fact := ⟨.lss, .int .i64 18, .sym .i64 4, .bool false⟩
def F30 : Fact := ⟨.lss, .int .i64 17, .sym .i64 4, .bool false⟩
def F31 : Fact := ⟨.lss, .int .i64 16, .sym .i64 4, .bool false⟩
def F32 : Fact := ⟨.lss, .int .i64 15, .sym .i64 4, .bool false⟩
def F33 : Fact := ⟨.lss, .int .i64 14, .sym .i64 4, .bool false⟩
def F34 : Fact := ⟨.lss, .int .i64 13, .sym .i64 4, .bool false⟩
def F35 : Fact := ⟨.lss, .int .i64 12, .sym .i64 4, .bool false⟩
def F36 : Fact := ⟨.lss, .int .i64 11, .sym .i64 4, .bool false⟩
def F37 : Fact := ⟨.lss, .int .i64 10, .sym .i64 4, .bool false⟩
def F38 : Fact := ⟨.lss, .int .i64 9, .sym .i64 4, .bool false⟩
def F39 : Fact := ⟨.lss, .int .i64 8, .sym .i64 4, .bool false⟩
def F40 : Fact := ⟨.lss, .int .i64 7, .sym .i64 4, .bool false⟩
def F41 : Fact := ⟨.lss, .int .i64 6, .sym .i64 4, .bool false⟩
def F42 : Fact := ⟨.lss, .int .i64 5, .sym .i64 4, .bool false⟩
def F43 : Fact := ⟨.lss, .int .i64 4, .sym .i64 4, .bool false⟩
def F44 : Fact := ⟨.lss, .int .i64 3, .sym .i64 4, .bool false⟩
def F45 : Fact := ⟨.lss, .int .i64 2, .sym .i64 4, .bool false⟩
def F46 : Fact := ⟨.lss, .int .i64 1, .sym .i64 4, .bool false⟩
def F47 : Fact := ⟨.neq, .sym .u8 2, .int .u8 0, .bool true⟩
def F48 : Fact := ⟨.eql, .int .u8 0, .sym .u8 2, .bool false⟩
def F49 : Fact := ⟨.lss, .int .i64 0, .sym .i64 4, .bool false⟩
noncomputable def q0 : Kn := ⟨[F2, F3, F4, F5, F6, F7, F8, F9, F10, F11, F12, F13, F14, F15, F16, F17, F18, F19, F20, F21, F22, F23, F24, F25, F26, F27, F1, F0], [F28], tabB byteSyms⟩
noncomputable def q1 : Kn := ⟨[F29, F4, F5, F6, F7, F8, F9, F10, F11, F12, F13, F14, F15, F16, F17, F18, F19, F20, F21, F22, F23, F24, F25, F26, F27, F1, F0], [F28], tabB byteSyms⟩
noncomputable def q2 : Kn := ⟨[F30, F5, F6, F7, F8, F9, F10, F11, F12, F13, F14, F15, F16, F17, F18, F19, F20, F21, F22, F23, F24, F25, F26, F27, F1, F0], [F28], tabB byteSyms⟩
noncomputable def q3 : Kn := ⟨[F31, F6, F7, F8, F9, F10, F11, F12, F13, F14, F15, F16, F17, F18, F19, F20, F21, F22, F23, F24, F25, F26, F27, F1, F0], [F28], tabB byteSyms⟩
noncomputable def q4 : Kn := ⟨[F32, F7, F8, F9, F10, F11, F12, F13, F14, F15, F16, F17, F18, F19, F20, F21, F22, F23, F24, F25, F26, F27, F1, F0], [F28], tabB byteSyms⟩
noncomputable def q5 : Kn := ⟨[F33, F8, F9, F10, F11, F12, F13, F14, F15, F16, F17, F18, F19, F20, F21, F22, F23, F24, F25, F26, F27, F1, F0], [F28], tabB byteSyms⟩
noncomputable def q6 : Kn := ⟨[F34, F9, F10, F11, F12, F13, F14, F15, F16, F17, F18, F19, F20, F21, F22, F23, F24, F25, F26, F27, F1, F0], [F28], tabB byteSyms⟩
noncomputable def q7 : Kn := ⟨[F35, F10, F11, F12, F13, F14, F15, F16, F17, F18, F19, F20, F21, F22, F23, F24, F25, F26, F27, F1, F0], [F28], tabB byteSyms⟩
noncomputable def q8 : Kn := ⟨[F36, F11, F12, F13, F14, F15, F16, F17, F18, F19, F20, F21, F22, F23, F24, F25, F26, F27, F1, F0], [F28], tabB byteSyms⟩
noncomputable def q9 : Kn := ⟨[F37, F12, F13, F14, F15, F16, F17, F18, F19, F20, F21, F22, F23, F24, F25, F26, F27, F1, F0], [F28], tabB byteSyms⟩
noncomputable def q10 : Kn := ⟨[F38, F13, F14, F15, F16, F17, F18, F19, F20, F21, F22, F23, F24, F25, F26, F27, F1, F0], [F28], tabB byteSyms⟩
noncomputable def q11 : Kn := ⟨[F39, F14, F15, F16, F17, F18, F19, F20, F21, F22, F23, F24, F25, F26, F27, F1, F0], [F28], tabB byteSyms⟩
noncomputable def q12 : Kn := ⟨[F40, F15, F16, F17, F18, F19, F20, F21, F22, F23, F24, F25, F26, F27, F1, F0], [F28], tabB byteSyms⟩
noncomputable def q13 : Kn := ⟨[F41, F16, F17, F18, F19, F20, F21, F22, F23, F24, F25, F26, F27, F1, F0], [F28], tabB byteSyms⟩
noncomputable def q14 : Kn := ⟨[F42, F17, F18, F19, F20, F21, F22, F23, F24, F25, F26, F27, F1, F0], [F28], tabB byteSyms⟩
noncomputable def q15 : Kn := ⟨[F43, F18, F19, F20, F21, F22, F23, F24, F25, F26, F27, F1, F0], [F28], tabB byteSyms⟩
noncomputable def q16 : Kn := ⟨[F44, F19, F20, F21, F22, F23, F24, F25, F26, F27, F1, F0], [F28], tabB byteSyms⟩
noncomputable def q17 : Kn := ⟨[F45, F20, F21, F22, F23, F24, F25, F26, F27, F1, F0], [F28], tabB byteSyms⟩
noncomputable def q18 : Kn := ⟨[F46, F21, F22, F23, F24, F25, F26, F27, F1, F0], [F28], tabB byteSyms⟩
noncomputable def q19 : Kn := ⟨[F2, F3, F4, F5, F6, F7, F8, F9, F10, F11, F12, F13, F14, F15, F16, F17, F18, F19, F20, F47, F48, F27, F1, F0], [F28], tabB byteSyms⟩
noncomputable def q20 : Kn := ⟨[F29, F4, F5, F6, F7, F8, F9, F10, F11, F12, F13, F14, F15, F16, F17, F18, F19, F20, F47, F48, F27, F1, F0], [F28], tabB byteSyms⟩
noncomputable def q21 : Kn := ⟨[F30, F5, F6, F7, F8, F9, F10, F11, F12, F13, F14, F15, F16, F17, F18, F19, F20, F47, F48, F27, F1, F0], [F28], tabB byteSyms⟩
noncomputable def q22 : Kn := ⟨[F31, F6, F7, F8, F9, F10, F11, F12, F13, F14, F15, F16, F17, F18, F19, F20, F47, F48, F27, F1, F0], [F28], tabB byteSyms⟩
noncomputable def q23 : Kn := ⟨[F32, F7, F8, F9, F10, F11, F12, F13, F14, F15, F16, F17, F18, F19, F20, F47, F48, F27, F1, F0], [F28], tabB byteSyms⟩
noncomputable def q24 : Kn := ⟨[F33, F8, F9, F10, F11, F12, F13, F14, F15, F16, F17, F18, F19, F20, F47, F48, F27, F1, F0], [F28], tabB byteSyms⟩
noncomputable def q25 : Kn := ⟨[F34, F9, F10, F11, F12, F13, F14, F15, F16, F17, F18, F19, F20, F47, F48, F27, F1, F0], [F28], tabB byteSyms⟩
noncomputable def q26 : Kn := ⟨[F35, F10, F11, F12, F13, F14, F15, F16, F17, F18, F19, F20, F47, F48, F27, F1, F0], [F28], tabB byteSyms⟩
noncomputable def q27 : Kn := ⟨[F36, F11, F12, F13, F14, F15, F16, F17, F18, F19, F20, F47, F48, F27, F1, F0], [F28], tabB byteSyms⟩
noncomputable def q28 : Kn := ⟨[F37, F12, F13, F14, F15, F16, F17, F18, F19, F20, F47, F48, F27, F1, F0], [F28], tabB byteSyms⟩
noncomputable def q29 : Kn := ⟨[F38, F13, F14, F15, F16, F17, F18, F19, F20, F47, F48, F27, F1, F0], [F28], tabB byteSyms⟩
noncomputable def q30 : Kn := ⟨[F39, F14, F15, F16, F17, F18, F19, F20, F47, F48, F27, F1, F0], [F28], tabB byteSyms⟩
noncomputable def q31 : Kn := ⟨[F40, F15, F16, F17, F18, F19, F20, F47, F48, F27, F1, F0], [F28], tabB byteSyms⟩
noncomputable def q32 : Kn := ⟨[F41, F16, F17, F18, F19, F20, F47, F48, F27, F1, F0], [F28], tabB byteSyms⟩
noncomputable def q33 : Kn := ⟨[F42, F17, F18, F19, F20, F47, F48, F27, F1, F0], [F28], tabB byteSyms⟩
noncomputable def q34 : Kn := ⟨[F43, F18, F19, F20, F47, F48, F27, F1, F0], [F28], tabB byteSyms⟩
noncomputable def q35 : Kn := ⟨[F44, F19, F20, F47, F48, F27, F1, F0], [F28], tabB byteSyms⟩
noncomputable def q36 : Kn := ⟨[F45, F20, F47, F48, F27, F1, F0], [F28], tabB byteSyms⟩
noncomputable def q37 : Kn := ⟨[F46, F47, F48, F27, F1, F0], [F28], tabB byteSyms⟩
noncomputable def q38 : Kn := ⟨[F49, F1, F0], [F28], tabB byteSyms⟩
noncomputable def lot0 : List (Kn × List AV) := [(q0, [.sym .u8 0, .sym .u8 1]), (q1, [.sym .u8 0, .sym .u8 1])]
noncomputable def lot1 : List (Kn × List AV) := [(q2, [.sym .u8 0, .sym .u8 1]), (q3, [.sym .u8 0, .sym .u8 1])]
noncomputable def lot2 : List (Kn × List AV) := [(q4, [.sym .u8 0, .sym .u8 1]), (q5, [.sym .u8 0, .sym .u8 1])]
noncomputable def lot3 : List (Kn × List AV) := [(q6, [.sym .u8 0, .sym .u8 1]), (q7, [.sym .u8 0, .sym .u8 1])]
noncomputable def lot4 : List (Kn × List AV) := [(q8, [.sym .u8 0, .sym .u8 1]), (q9, [.sym .u8 0, .sym .u8 1])]
noncomputable def lot5 : List (Kn × List AV) := [(q10, [.sym .u8 0, .sym .u8 1]), (q11, [.sym .u8 0, .sym .u8 1]), (q12, [.sym .u8 0, .sym .u8 1])]
noncomputable def lot6 : List (Kn × List AV) := [(q13, [.sym .u8 0, .sym .u8 1]), (q14, [.sym .u8 0, .sym .u8 1]), (q15, [.sym .u8 0, .sym .u8 1]), (q16, [.sym .u8 0, .sym .u8 1])]
noncomputable def lot7 : List (Kn × List AV) := [(q17, [.sym .u8 0, .sym .u8 1]), (q18, [.sym .u8 0, .sym .u8 1]), (q19, [.sym .u8 0, .sym .u8 1]), (q20, [.sym .u8 0, .sym .u8 1]), (q21, [.sym .u8 0, .sym .u8 1]), (q22, [.sym .u8 0, .sym .u8 1]), (q23, [.sym .u8 0, .sym .u8 1])]
noncomputable def lot8 : List (Kn × List AV) := [(q24, [.sym .u8 0, .sym .u8 1]), (q25, [.sym .u8 0, .sym .u8 1]), (q26, [.sym .u8 0, .sym .u8 1]), (q27, [.sym .u8 0, .sym .u8 1]), (q28, [.sym .u8 0, .sym .u8 1]), (q29, [.sym .u8 0, .sym .u8 1]), (q30, [.sym .u8 0, .sym .u8 1]), (q31, [.sym .u8 0, .sym .u8 1])]
noncomputable def lot9 : List (Kn × List AV) := [(q32, [.sym .u8 0, .sym .u8 1]), (q33, [.sym .u8 0, .sym .u8 1]), (q34, [.sym .u8 0, .sym .u8 1]), (q35, [.sym .u8 0, .sym .u8 1]), (q36, [.sym .u8 0, .sym .u8 1]), (q37, [.sym .u8 0, .sym .u8 1]), (q38, [.sym .u8 0, .sym .u8 1])]
end Go.Proofs.YtchildicegbmcaaGreatDoor.ReplicaNudgesB0
