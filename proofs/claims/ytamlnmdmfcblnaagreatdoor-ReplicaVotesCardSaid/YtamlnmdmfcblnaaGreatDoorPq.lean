/- pq.compare at this dump: by places, then by texts; pq.Sets.Q: what was seen, in order, whatever order the map is gone through (twelve entries or fewer); Q as a summary. Its condition: the table of powers of ten stands as the program lays it. -/
import Derived.Test.YtamlnmdmfcblnaaGreatDoorText
import Derived.Test.YtamlnmdmfcblnaaGreatDoorPq0
import Derived.WalkKit
namespace Go.Proofs
open Go.Shelf
def Tryz.sortEnt_ren : Go.Shelf.Ren := ⟨fun | 6 => 130 | 15 => 206 | 14 => 205 | 28 => 271 | 29 => 272 | 20 => 263 | 21 => 264 | 22 => 265 | 23 => 266 | 24 => 267 | 25 => 268 | 26 => 269 | 27 => 270 | 46 => 303 | 47 => 304 | 48 => 305 | 49 => 306 | 50 => 307 | 57 => 319 | n => n, fun | 22 => 38 | 24 => 72 | 25 => 186 | 3 => 3 | 39 => 259 | 0 => 0 | 53 => 25 | 55 => 36 | 4 => 4 | 46 => 303 | 45 => 302 | 50 => 307 | 5 => 5 | 9 => 9 | 66 => 339 | 70 => 343 | 76 => 359 | 77 => 360 | n => n, fun | n => n⟩
theorem Tryz.sortEnt : Go.Proofs.SlLaysF0.n6 Tryz.prog Tryz.sortEnt_ren := {
  mixed := by kernel_rfl
  f6 := ⟨Tryz.f130.name, by decide, Tryz.func130.trans (congrArg some (by kernel_rfl))⟩
  f14 := ⟨Tryz.f205.name, by decide, Tryz.func205.trans (congrArg some (by kernel_rfl))⟩
  f15 := Tryz.func206.trans (congrArg some (by kernel_rfl))
  f20 := ⟨Tryz.f263.name, by decide, Tryz.func263.trans (congrArg some (by kernel_rfl))⟩
  f21 := ⟨Tryz.f264.name, by decide, Tryz.func264.trans (congrArg some (by kernel_rfl))⟩
  f22 := ⟨Tryz.f265.name, by decide, Tryz.func265.trans (congrArg some (by kernel_rfl))⟩
  f23 := ⟨Tryz.f266.name, by decide, Tryz.func266.trans (congrArg some (by kernel_rfl))⟩
  f24 := ⟨Tryz.f267.name, by decide, Tryz.func267.trans (congrArg some (by kernel_rfl))⟩
  f25 := ⟨Tryz.f268.name, by decide, Tryz.func268.trans (congrArg some (by kernel_rfl))⟩
  f26 := ⟨Tryz.f269.name, by decide, Tryz.func269.trans (congrArg some (by kernel_rfl))⟩
  f27 := ⟨Tryz.f270.name, by decide, Tryz.func270.trans (congrArg some (by kernel_rfl))⟩
  f28 := Tryz.func271.trans (congrArg some (by kernel_rfl))
  f29 := Tryz.func272.trans (congrArg some (by kernel_rfl))
  f46 := ⟨Tryz.f303.name, by decide, Tryz.func303.trans (congrArg some (by kernel_rfl))⟩
  f47 := Tryz.func304.trans (congrArg some (by kernel_rfl))
  f48 := Tryz.func305.trans (congrArg some (by kernel_rfl))
  f49 := ⟨Tryz.f306.name, by decide, Tryz.func306.trans (congrArg some (by kernel_rfl))⟩
  f50 := ⟨Tryz.f307.name, by decide, Tryz.func307.trans (congrArg some (by kernel_rfl))⟩
  f57 := ⟨Tryz.f319.name, by decide, Tryz.func319.trans (congrArg some (by kernel_rfl))⟩
  t0 := Tryz.underlying0
  a0 := Tryz.isAgg0
  z0 := Tryz.sizeOf0
  v0 := Tryz.zeroValue0
  t3 := Tryz.underlying3
  a3 := Tryz.isAgg3
  z3 := Tryz.sizeOf3
  v3 := Tryz.zeroValue3
  t4 := Tryz.underlying4
  a4 := Tryz.isAgg4
  z4 := Tryz.sizeOf4
  v4 := Tryz.zeroValue4
  t5 := Tryz.underlying5
  a5 := Tryz.isAgg5
  z5 := Tryz.sizeOf5
  v5 := Tryz.zeroValue5
  t9 := Tryz.underlying9
  a9 := Tryz.isAgg9
  z9 := Tryz.sizeOf9
  v9 := Tryz.zeroValue9
  t22 := Tryz.underlying38
  a22 := Tryz.isAgg38
  z22 := Tryz.sizeOf38
  v22 := Tryz.zeroValue38
  t25 := Tryz.underlying186
  a25 := Tryz.isAgg186
  z25 := Tryz.sizeOf186
  v25 := Tryz.zeroValue186
  t39 := Tryz.underlying259
  a39 := Tryz.isAgg259
  z39 := Tryz.sizeOf259
  v39 := Tryz.zeroValue259
  t45 := Tryz.underlying302
  a45 := Tryz.isAgg302
  z45 := Tryz.sizeOf302
  v45 := Tryz.zeroValue302
  t46 := Tryz.underlying303
  a46 := Tryz.isAgg303
  z46 := Tryz.sizeOf303
  v46 := Tryz.zeroValue303
  t50 := Tryz.underlying307
  a50 := Tryz.isAgg307
  z50 := Tryz.sizeOf307
  v50 := Tryz.zeroValue307
  t53 := Tryz.underlying25
  a53 := Tryz.isAgg25
  z53 := Tryz.sizeOf25
  v53 := Tryz.zeroValue25
  t55 := Tryz.underlying36
  a55 := Tryz.isAgg36
  z55 := Tryz.sizeOf36
  v55 := Tryz.zeroValue36
  t66 := Tryz.underlying339
  a66 := Tryz.isAgg339
  z66 := Tryz.sizeOf339
  v66 := Tryz.zeroValue339
  t70 := Tryz.underlying343
  a70 := Tryz.isAgg343
  z70 := Tryz.sizeOf343
  v70 := Tryz.zeroValue343
  t76 := Tryz.underlying359
  a76 := Tryz.isAgg359
  z76 := Tryz.sizeOf359
  v76 := Tryz.zeroValue359
  t77 := Tryz.underlying360
  a77 := Tryz.isAgg360
  z77 := Tryz.sizeOf360
  v77 := Tryz.zeroValue360 }
def Tryz.lays125_ren : Go.Shelf.Ren := ⟨fun | 125 => 206 | 128 => 271 | 129 => 272 | n => n, fun | 46 => 259 | 3 => 3 | 51 => 25 | 53 => 36 | 4 => 4 | 5 => 5 | 9 => 9 | n => n, fun | n => n⟩
theorem Tryz.lays125 : Go.Proofs.Lays.n125 Tryz.prog Tryz.lays125_ren := {
  mixed := by kernel_rfl
  f125 := Tryz.func206.trans (congrArg some (by kernel_rfl))
  f128 := Tryz.func271.trans (congrArg some (by kernel_rfl))
  f129 := Tryz.func272.trans (congrArg some (by kernel_rfl))
  t3 := Tryz.underlying3
  a3 := Tryz.isAgg3
  z3 := Tryz.sizeOf3
  v3 := Tryz.zeroValue3
  t4 := Tryz.underlying4
  a4 := Tryz.isAgg4
  z4 := Tryz.sizeOf4
  v4 := Tryz.zeroValue4
  t5 := Tryz.underlying5
  a5 := Tryz.isAgg5
  z5 := Tryz.sizeOf5
  v5 := Tryz.zeroValue5
  t9 := Tryz.underlying9
  a9 := Tryz.isAgg9
  z9 := Tryz.sizeOf9
  v9 := Tryz.zeroValue9
  t46 := Tryz.underlying259
  a46 := Tryz.isAgg259
  z46 := Tryz.sizeOf259
  v46 := Tryz.zeroValue259
  t51 := Tryz.underlying25
  a51 := Tryz.isAgg25
  z51 := Tryz.sizeOf25
  v51 := Tryz.zeroValue25
  t53 := Tryz.underlying36
  a53 := Tryz.isAgg36
  z53 := Tryz.sizeOf36
  v53 := Tryz.zeroValue36 }
theorem Tryz.bits_Len (x : Int) (w : World) (h0 : 0 ≤ x) (h1 : x ≤ 18446744073709551615) :
    Calls Tryz.prog 206 #[.int .u64 x] w fun e w' => e = .returned (.int .i64 (Lib.bitLen x.toNat)) ∧ w' = w := Any.bits_Len Tryz.lays125 x w h0 h1
end Go.Proofs
namespace Go.Proofs.YtamlnmdmfcblnaaGreatDoor
open Go.Abs Go.RowKit Go.Shelf Go.Lib Go.Sort
namespace PqS
def opqF (v : Nat → Int) (j : Nat) : Value :=
  if j < 20 then .string ⟨(Lib.decDigits (u64N (v j))).toArray⟩
  else if j = 20 then .string ⟨(textB [u64N (v 2), u64N (v 3), u64N (v 4), u64N (v 5), u64N (v 6)]).toArray⟩ else .string ⟨(textB [u64N (v 9), u64N (v 10), u64N (v 11), u64N (v 12), u64N (v 13)]).toArray⟩
def numF (v : Nat → Int) (i : Nat) : Int := if i < 30 then v i else IntKind.u64.wrap (v (i - 30))
def sg (v : Nat → Int) : Val := ⟨numF v, powF 0, opqF v⟩
def tabJ : List (List Nat × Nat) := [([2, 3, 4, 5, 6], 20), ([9, 10, 11, 12, 13], 21)]
def args2 : List AV := [.agg [.sym .u32 0, .sym .u32 1, .sym .u8 2, .sym .u32 3, .sym .u8 4, .sym .u8 5, .sym .u16 6], .agg [.sym .u32 7, .sym .u32 8, .sym .u8 9, .sym .u32 10, .sym .u8 11, .sym .u8 12, .sym .u16 13]]
def calls : List FCall := [⟨274, [.sym .u64 32, .int .i64 10], .opq 2⟩, ⟨274, [.sym .u64 33, .int .i64 10], .opq 3⟩, ⟨274, [.sym .u64 34, .int .i64 10], .opq 4⟩, ⟨274, [.sym .u64 35, .int .i64 10], .opq 5⟩, ⟨274, [.sym .u64 36, .int .i64 10], .opq 6⟩, ⟨274, [.sym .u64 39, .int .i64 10], .opq 9⟩, ⟨274, [.sym .u64 40, .int .i64 10], .opq 10⟩, ⟨274, [.sym .u64 41, .int .i64 10], .opq 11⟩, ⟨274, [.sym .u64 42, .int .i64 10], .opq 12⟩, ⟨274, [.sym .u64 43, .int .i64 10], .opq 13⟩]
def convs : List FConv := [⟨.u64, .sym .u8 2, .sym .u64 32⟩, ⟨.u64, .sym .u32 3, .sym .u64 33⟩, ⟨.u64, .sym .u8 4, .sym .u64 34⟩, ⟨.u64, .sym .u8 5, .sym .u64 35⟩, ⟨.u64, .sym .u16 6, .sym .u64 36⟩, ⟨.u64, .sym .u8 9, .sym .u64 39⟩, ⟨.u64, .sym .u32 10, .sym .u64 40⟩, ⟨.u64, .sym .u8 11, .sym .u64 41⟩, ⟨.u64, .sym .u8 12, .sym .u64 42⟩, ⟨.u64, .sym .u16 13, .sym .u64 43⟩]
def qk (l : List Fact) : Kn := ⟨l, convs, .nil, [], [], calls⟩
noncomputable def sumsX : Tr Sum := sums.set 275 (joinSumT tabJ)
noncomputable def cxX : Cx := cxW Tryz.prog plan .nil sumsX
theorem join_ok (v : Nat → Int) : JoinOK (sg v) tabJ := by
  have hl : ∀ a b c d e : Nat, (Lib.join [Lib.decDigits (u64N (v a)), Lib.decDigits (u64N (v b)), Lib.decDigits (u64N (v c)), Lib.decDigits (u64N (v d)), Lib.decDigits (u64N (v e))] [58]).length ≤ 140737488355328 := fun a b c d e => by
    have := textB_len (l := [u64N (v a), u64N (v b), u64N (v c), u64N (v d), u64N (v e)]) (fun u hu => by
      simp only [List.mem_cons, List.not_mem_nil, or_false] at hu
      rcases hu with rfl | rfl | rfl | rfl | rfl <;> exact u64N_lt _)
    simp only [List.length_cons, List.length_nil] at this
    exact Nat.le_trans this (by decide)
  intro l j hm
  simp only [tabJ, List.mem_cons, Prod.mk.injEq, List.not_mem_nil, or_false] at hm
  rcases hm with ⟨rfl, rfl⟩ | ⟨rfl, rfl⟩
  · exact ⟨[Lib.decDigits (u64N (v 2)), Lib.decDigits (u64N (v 3)), Lib.decDigits (u64N (v 4)), Lib.decDigits (u64N (v 5)), Lib.decDigits (u64N (v 6))], rfl, rfl, by simp, hl 2 3 4 5 6⟩
  · exact ⟨[Lib.decDigits (u64N (v 9)), Lib.decDigits (u64N (v 10)), Lib.decDigits (u64N (v 11)), Lib.decDigits (u64N (v 12)), Lib.decDigits (u64N (v 13))], rfl, rfl, by simp, hl 9 10 11 12 13⟩
theorem sums_okX (v : Nat → Int) : ∀ g s, sumsX.get g = some s → SumOK Tryz.prog (sg v) g s :=
  setSum_ok sums_ok (joinT_sumOK (join_ok v) (fn := (Tryz.prog.funcs[275]?).getD default) (c := ((Tryz.prog.funcs[275]?).getD default).body.getD .skip) (by kernel_rfl) (by kernel_rfl) (by kernel_rfl) (fun bk o c xs sep w h1 h2 h3 h4 h5 => Tryz.strings_Join bk o c xs sep w h1 h2 h3 h4 h5))
theorem calls_ok (v : Nat → Int) : ∀ f ∈ calls, FCallOK Tryz.prog (sg v) f := by
  have h1 : ∀ i, i < 14 → FCallOK Tryz.prog (sg v) ⟨274, [.sym .u64 (30 + i), .int .i64 10], .opq i⟩ := fun i hi =>
    fu_callOK (g := 274) (gT := 0) (fn := (Tryz.prog.funcs[274]?).getD default) (c := ((Tryz.prog.funcs[274]?).getD default).body.getD .skip) (by kernel_rfl) (by kernel_rfl) (by kernel_rfl) (fun u w hu hT => fu u w hu hT) (powF_at 0) (u := u64N (v i)) (by
      show numF v (30 + i) = _
      unfold numF u64N
      rw [if_neg (by omega), Nat.add_sub_cancel_left, wrap_u64]
      have := Int.emod_nonneg (v i) (show (18446744073709551616 : Int) ≠ 0 by decide)
      omega) (u64N_lt _) (if_pos (by omega))
  unfold calls
  exact all_cons (h1 2 (by omega)) (all_cons (h1 3 (by omega)) (all_cons (h1 4 (by omega)) (all_cons (h1 5 (by omega)) (all_cons (h1 6 (by omega)) (all_cons (h1 9 (by omega)) (all_cons (h1 10 (by omega)) (all_cons (h1 11 (by omega)) (all_cons (h1 12 (by omega)) (all_cons (h1 13 (by omega)) (all_nil))))))))))
theorem convs_ok (v : Nat → Int) : ∀ f ∈ convs, FConvOK (sg v) f := by
  unfold convs
  exact all_cons (conv_num (σ := sg v) rfl rfl rfl) (all_cons (conv_num (σ := sg v) rfl rfl rfl) (all_cons (conv_num (σ := sg v) rfl rfl rfl) (all_cons (conv_num (σ := sg v) rfl rfl rfl) (all_cons (conv_num (σ := sg v) rfl rfl rfl) (all_cons (conv_num (σ := sg v) rfl rfl rfl) (all_cons (conv_num (σ := sg v) rfl rfl rfl) (all_cons (conv_num (σ := sg v) rfl rfl rfl) (all_cons (conv_num (σ := sg v) rfl rfl rfl) (all_cons (conv_num (σ := sg v) rfl rfl rfl) (all_nil))))))))))
def f00 : List Fact := [⟨.neq, .sym .u32 0, .sym .u32 0, .bool false⟩, ⟨.neq, .sym .u32 7, .sym .u32 7, .bool false⟩, ⟨.lss, .sym .u32 0, .sym .u32 7, .bool true⟩, ⟨.gtr, .sym .u32 0, .sym .u32 7, .bool false⟩, ⟨.neq, .opq 20, .opq 20, .bool false⟩, ⟨.neq, .opq 21, .opq 21, .bool false⟩, ⟨.lss, .opq 20, .opq 21, .bool true⟩, ⟨.gtr, .opq 20, .opq 21, .bool false⟩]
theorem run00 : isVR (goT cxX (qk f00) 60 131 args2 ⟨.nil, 0⟩) (.int .i64 (-1)) = true := by kernel_rfl
def f01 : List Fact := [⟨.neq, .sym .u32 0, .sym .u32 0, .bool false⟩, ⟨.neq, .sym .u32 7, .sym .u32 7, .bool false⟩, ⟨.lss, .sym .u32 0, .sym .u32 7, .bool true⟩, ⟨.gtr, .sym .u32 0, .sym .u32 7, .bool false⟩, ⟨.neq, .opq 20, .opq 20, .bool false⟩, ⟨.neq, .opq 21, .opq 21, .bool false⟩, ⟨.lss, .opq 20, .opq 21, .bool false⟩, ⟨.gtr, .opq 20, .opq 21, .bool false⟩]
theorem run01 : isVR (goT cxX (qk f01) 60 131 args2 ⟨.nil, 0⟩) (.int .i64 (-1)) = true := by kernel_rfl
def f02 : List Fact := [⟨.neq, .sym .u32 0, .sym .u32 0, .bool false⟩, ⟨.neq, .sym .u32 7, .sym .u32 7, .bool false⟩, ⟨.lss, .sym .u32 0, .sym .u32 7, .bool true⟩, ⟨.gtr, .sym .u32 0, .sym .u32 7, .bool false⟩, ⟨.neq, .opq 20, .opq 20, .bool false⟩, ⟨.neq, .opq 21, .opq 21, .bool false⟩, ⟨.lss, .opq 20, .opq 21, .bool false⟩, ⟨.gtr, .opq 20, .opq 21, .bool true⟩]
theorem run02 : isVR (goT cxX (qk f02) 60 131 args2 ⟨.nil, 0⟩) (.int .i64 (-1)) = true := by kernel_rfl
def f10 : List Fact := [⟨.neq, .sym .u32 0, .sym .u32 0, .bool false⟩, ⟨.neq, .sym .u32 7, .sym .u32 7, .bool false⟩, ⟨.lss, .sym .u32 0, .sym .u32 7, .bool false⟩, ⟨.gtr, .sym .u32 0, .sym .u32 7, .bool false⟩, ⟨.neq, .opq 20, .opq 20, .bool false⟩, ⟨.neq, .opq 21, .opq 21, .bool false⟩, ⟨.lss, .opq 20, .opq 21, .bool true⟩, ⟨.gtr, .opq 20, .opq 21, .bool false⟩]
theorem run10 : isVR (goT cxX (qk f10) 60 131 args2 ⟨.nil, 0⟩) (.int .i64 (-1)) = true := by kernel_rfl
def f11 : List Fact := [⟨.neq, .sym .u32 0, .sym .u32 0, .bool false⟩, ⟨.neq, .sym .u32 7, .sym .u32 7, .bool false⟩, ⟨.lss, .sym .u32 0, .sym .u32 7, .bool false⟩, ⟨.gtr, .sym .u32 0, .sym .u32 7, .bool false⟩, ⟨.neq, .opq 20, .opq 20, .bool false⟩, ⟨.neq, .opq 21, .opq 21, .bool false⟩, ⟨.lss, .opq 20, .opq 21, .bool false⟩, ⟨.gtr, .opq 20, .opq 21, .bool false⟩]
theorem run11 : isVR (goT cxX (qk f11) 60 131 args2 ⟨.nil, 0⟩) (.int .i64 (0)) = true := by kernel_rfl
def f12 : List Fact := [⟨.neq, .sym .u32 0, .sym .u32 0, .bool false⟩, ⟨.neq, .sym .u32 7, .sym .u32 7, .bool false⟩, ⟨.lss, .sym .u32 0, .sym .u32 7, .bool false⟩, ⟨.gtr, .sym .u32 0, .sym .u32 7, .bool false⟩, ⟨.neq, .opq 20, .opq 20, .bool false⟩, ⟨.neq, .opq 21, .opq 21, .bool false⟩, ⟨.lss, .opq 20, .opq 21, .bool false⟩, ⟨.gtr, .opq 20, .opq 21, .bool true⟩]
theorem run12 : isVR (goT cxX (qk f12) 60 131 args2 ⟨.nil, 0⟩) (.int .i64 (1)) = true := by kernel_rfl
def f20 : List Fact := [⟨.neq, .sym .u32 0, .sym .u32 0, .bool false⟩, ⟨.neq, .sym .u32 7, .sym .u32 7, .bool false⟩, ⟨.lss, .sym .u32 0, .sym .u32 7, .bool false⟩, ⟨.gtr, .sym .u32 0, .sym .u32 7, .bool true⟩, ⟨.neq, .opq 20, .opq 20, .bool false⟩, ⟨.neq, .opq 21, .opq 21, .bool false⟩, ⟨.lss, .opq 20, .opq 21, .bool true⟩, ⟨.gtr, .opq 20, .opq 21, .bool false⟩]
theorem run20 : isVR (goT cxX (qk f20) 60 131 args2 ⟨.nil, 0⟩) (.int .i64 (1)) = true := by kernel_rfl
def f21 : List Fact := [⟨.neq, .sym .u32 0, .sym .u32 0, .bool false⟩, ⟨.neq, .sym .u32 7, .sym .u32 7, .bool false⟩, ⟨.lss, .sym .u32 0, .sym .u32 7, .bool false⟩, ⟨.gtr, .sym .u32 0, .sym .u32 7, .bool true⟩, ⟨.neq, .opq 20, .opq 20, .bool false⟩, ⟨.neq, .opq 21, .opq 21, .bool false⟩, ⟨.lss, .opq 20, .opq 21, .bool false⟩, ⟨.gtr, .opq 20, .opq 21, .bool false⟩]
theorem run21 : isVR (goT cxX (qk f21) 60 131 args2 ⟨.nil, 0⟩) (.int .i64 (1)) = true := by kernel_rfl
def f22 : List Fact := [⟨.neq, .sym .u32 0, .sym .u32 0, .bool false⟩, ⟨.neq, .sym .u32 7, .sym .u32 7, .bool false⟩, ⟨.lss, .sym .u32 0, .sym .u32 7, .bool false⟩, ⟨.gtr, .sym .u32 0, .sym .u32 7, .bool true⟩, ⟨.neq, .opq 20, .opq 20, .bool false⟩, ⟨.neq, .opq 21, .opq 21, .bool false⟩, ⟨.lss, .opq 20, .opq 21, .bool false⟩, ⟨.gtr, .opq 20, .opq 21, .bool true⟩]
theorem run22 : isVR (goT cxX (qk f22) 60 131 args2 ⟨.nil, 0⟩) (.int .i64 (1)) = true := by kernel_rfl
theorem cmp_v (v : Nat → Int) {l : List Fact} (hl : ∀ f ∈ l, FactOK Tryz.prog (sg v) f) {r : Int} (hr : isVR (goT cxX (qk l) 60 131 args2 ⟨.nil, 0⟩) (.int .i64 r) = true) {A : List Value} (hA : concs (noEnv (sg v)) args2 = some A) (w : World) (hg : TabOK 0 w) :
    Calls Tryz.prog 131 ⟨A⟩ w fun e w' => e = .returned (.int .i64 r) ∧ RowKit.Below w.heap.size w w' := by
  obtain ⟨h', hr⟩ := isV_inv hr
  obtain ⟨_, h2⟩ := goT_sound (progOK_W asked hl (convs_ok v) bytes_nil all_nil all_nil (calls_ok v) globs_nil (sums_okX v)) hr
  refine Calls.mono (h2 (noEnv (sg v)) w.heap.size w w A rfl hA (rel_none (σ := sg v) hg 0) (fun _ _ _ => rfl)).2 fun e w' hh => ?_
  obtain ⟨V, rfl, E', hV, hpost⟩ := hh
  simp only [conc, Option.some.injEq] at hV
  subst hV
  exact ⟨rfl, hpost.rel.below⟩
theorem facts_v (v : Nat → Int) (b1 b2 b3 b4 : Bool) (h1 : decide (v 0 < v 7) = b1) (h2 : decide (v 0 > v 7) = b2) (h3 : strLess (textB [u64N (v 2), u64N (v 3), u64N (v 4), u64N (v 5), u64N (v 6)]) (textB [u64N (v 9), u64N (v 10), u64N (v 11), u64N (v 12), u64N (v 13)]) = b3) (h4 : (!(strLess (textB [u64N (v 2), u64N (v 3), u64N (v 4), u64N (v 5), u64N (v 6)]) (textB [u64N (v 9), u64N (v 10), u64N (v 11), u64N (v 12), u64N (v 13)]) || strEq (textB [u64N (v 2), u64N (v 3), u64N (v 4), u64N (v 5), u64N (v 6)]) (textB [u64N (v 9), u64N (v 10), u64N (v 11), u64N (v 12), u64N (v 13)]))) = b4) :
    ∀ f ∈ ([⟨.neq, .sym .u32 0, .sym .u32 0, .bool false⟩, ⟨.neq, .sym .u32 7, .sym .u32 7, .bool false⟩, ⟨.lss, .sym .u32 0, .sym .u32 7, .bool b1⟩, ⟨.gtr, .sym .u32 0, .sym .u32 7, .bool b2⟩, ⟨.neq, .opq 20, .opq 20, .bool false⟩, ⟨.neq, .opq 21, .opq 21, .bool false⟩, ⟨.lss, .opq 20, .opq 21, .bool b3⟩, ⟨.gtr, .opq 20, .opq 21, .bool b4⟩] : List Fact), FactOK Tryz.prog (sg v) f :=
  all_cons (fact_neq_f (σ := sg v) rfl rfl rfl) (all_cons (fact_neq_f (σ := sg v) rfl rfl rfl)
    (all_cons (fact_cmp (σ := sg v) (a := v 0) (b := v 7) rfl rfl (by simp only [cmpI, intLt_eq]; exact h1) rfl) (all_cons (fact_cmp (σ := sg v) (a := v 0) (b := v 7) rfl rfl (by simp only [cmpI, intLt_eq]; exact h2) rfl)
    (all_cons (fact_str (σ := sg v) (a := textB [u64N (v 2), u64N (v 3), u64N (v 4), u64N (v 5), u64N (v 6)]) (b := textB [u64N (v 2), u64N (v 3), u64N (v 4), u64N (v 5), u64N (v 6)]) rfl rfl (by simp [binStr, strEq_eq])) (all_cons (fact_str (σ := sg v) (a := textB [u64N (v 9), u64N (v 10), u64N (v 11), u64N (v 12), u64N (v 13)]) (b := textB [u64N (v 9), u64N (v 10), u64N (v 11), u64N (v 12), u64N (v 13)]) rfl rfl (by simp [binStr, strEq_eq]))
    (all_cons (fact_str (σ := sg v) (a := textB [u64N (v 2), u64N (v 3), u64N (v 4), u64N (v 5), u64N (v 6)]) (b := textB [u64N (v 9), u64N (v 10), u64N (v 11), u64N (v 12), u64N (v 13)]) rfl rfl (by simp only [binStr, h3])) (all_cons (fact_str (σ := sg v) (a := textB [u64N (v 2), u64N (v 3), u64N (v 4), u64N (v 5), u64N (v 6)]) (b := textB [u64N (v 9), u64N (v 10), u64N (v 11), u64N (v 12), u64N (v 13)]) rfl rfl (by simp only [binStr, h4])) all_nil)))))))
def vE (x y : Ent) (i : Nat) : Int := [x.seq, x.view, x.cl, x.ts, x.kd, x.ky, x.vl, y.seq, y.view, y.cl, y.ts, y.kd, y.ky, y.vl].getD i 0
/-- pq.compare: by places, then by texts. -/
theorem cmp_calls (x y : Ent) (w : World) (hg : TabOK 0 w) :
    Calls Tryz.prog 131 #[.agg x.row.toArray, .agg y.row.toArray] w fun e w' => e = .returned (.int .i64 (cfE x y)) ∧ RowKit.Below w.heap.size w w' := by
  have hA : concs (noEnv (sg (vE x y))) args2 = some [.agg x.row.toArray, .agg y.row.toArray] := rfl
  have key : ∀ b1 b2 b3 b4 : Bool, decide (x.seq < y.seq) = b1 → decide (x.seq > y.seq) = b2 → strLess (txE x) (txE y) = b3 → (!(strLess (txE x) (txE y) || strEq (txE x) (txE y))) = b4 → Calls Tryz.prog 131 #[.agg x.row.toArray, .agg y.row.toArray] w fun e w' => e = .returned (.int .i64 (if b1 then -1 else if b2 then 1 else if b3 then -1 else if b4 then 1 else 0)) ∧ RowKit.Below w.heap.size w w' := by
    intro b1 b2 b3 b4 h1 h2 h3 h4
    have F := facts_v (vE x y) b1 b2 b3 b4 h1 h2 h3 h4
    have n1 : ¬ (b1 = true ∧ b2 = true) := by
      rintro ⟨rfl, rfl⟩
      have := of_decide_eq_true h1; have := of_decide_eq_true h2; omega
    have n2 : ¬ (b3 = true ∧ b4 = true) := by
      rintro ⟨rfl, rfl⟩
      rw [h3] at h4; simp at h4
    cases b1 <;> cases b2 <;> cases b3 <;> cases b4 <;> first | exact absurd ⟨rfl, rfl⟩ n1 | exact absurd ⟨rfl, rfl⟩ n2 | skip
    · exact cmp_v _ F run11 hA w hg
    · exact cmp_v _ F run12 hA w hg
    · exact cmp_v _ F run10 hA w hg
    · exact cmp_v _ F run21 hA w hg
    · exact cmp_v _ F run22 hA w hg
    · exact cmp_v _ F run20 hA w hg
    · exact cmp_v _ F run01 hA w hg
    · exact cmp_v _ F run02 hA w hg
    · exact cmp_v _ F run00 hA w hg
  refine (key _ _ _ _ rfl rfl rfl rfl).mono fun e w' ⟨he, hw⟩ => ⟨by
    rw [he]; congr 2
    unfold cfE
    by_cases e1 : x.seq < y.seq
    · simp [e1]
    · by_cases e2 : x.seq > y.seq
      · simp [e1, e2]
      · simp only [e1, e2, decide_false, if_false, Bool.false_eq_true]
        cases strLess (txE x) (txE y) <;> cases strEq (txE x) (txE y) <;> rfl, hw⟩
theorem egC : ∀ args w, (callFunc 131 args).run Tryz.prog w = .ok (.enter 131 args) w := enters_of Tryz.func131 (by kernel_rfl) rfl
theorem hlen (n : Nat) (W : World) (h : n ≤ 12) : Calls Tryz.prog 206 #[.int .u64 n] W fun e w' => (∃ l : Int, e = .returned (.int .i64 l)) ∧ w' = W := (Tryz.bits_Len n W (by omega) (by omega)).mono fun _ _ ⟨he, hw⟩ => ⟨⟨_, he⟩, hw⟩
theorem infoE : (Tryz.prog.info? 72).map (fun i => (i.zero, i.size, i.bytes)) = some (some (.agg #[.int .u32 0, .int .u32 0, .int .u8 0, .int .u32 0, .int .u8 0, .int .u8 0, .int .u16 0]), 7, 20) := by kernel_rfl
set_option maxHeartbeats 1000000 in
/-- Q: what was seen, in order. -/
theorem Q_calls : QCon Tryz.prog 0 60 1 72 := by
  intro w bs os bm clock es en L hS hm hold hnd hsz hk hT h0s hL hLs
  have hrg := run_range_map (P := Tryz.prog) w 180 184 25 bm es clock (by kernel_rfl) hm
  have hbl : bm < w.heap.size := (Array.getElem?_eq_some_iff.1 hm).1
  have HK := Lib.hid hk
  have HO := Lib.hid hold
  have HN := Lib.hid hnd
  have HM := Lib.hid hm
  have HZ := Lib.hid hsz
  have HT := Lib.hid hT
  have HL := Lib.hid hL
  have HLS := Lib.hid hLs
  have HP := Lib.hid h0s
  clear hk hold hnd hm hsz hT hL hLs h0s
  go_enter Tryz.func60, Tryz.ntmps60
  go_wp2
  go_loopw [3] (fun v wr => ∃ (X : List Nat) (c0 : Nat), QHead 72 w bm clock es en X c0 v wr) (fun _ wr => mleft es w.heap.size wr)
  case atStart =>
    exact ⟨[], clock, ⟨Go.heap_alloc_new _ _, Nat.le_refl _, (RowKit.Below.heap_alloc _ _ _ hbl).trans HM.out, by simp, by simp, World.ownsRow_nil _ _ _ _, (RowKit.Below.refl _ _).alloc (Nat.le_refl _) _⟩⟩
  case round =>
    obtain ⟨X, c0, H⟩ := hrel
    have hXl : X.length ≤ 12 := Nat.le_trans (by simpa using len_le_of_sub H.nd H.sub) HZ.out
    have hRl : w.heap.size < wr.heap.size := (Array.getElem?_eq_some_iff.1 H.it).1
    go_wp2_with (first
      | (at_next; refine wpList_next_at _ rfl _ rfl w.heap.size bm clock c0 _ es clock rfl H.it H.mp HO.out H.le HN.out (by omega) ?_ ?_)
      | go_in)
    · intro h0
      have H0 := Lib.hid h0
      clear h0
      have hperm : X.Perm (es.toList.map (·.born)) := perm_of_all H.nd HN.out H.sub fun b hb => by
        obtain ⟨x, hx, rfl⟩ := List.mem_map.1 hb
        have := all_seen es X.toArray (by rw [H0.out]; rfl) x hx
        simpa using this
      have hlenX : X.length = es.size := by have := hperm.length_eq; simpa using this
      have hXp : 0 < X.length := by rw [hlenX]; exact HP.out
      have hX12 : X.length ≤ 12 := by rw [hlenX]; exact HZ.out
      have HPM := Lib.hid hperm
      have HLN := Lib.hid hlenX
      clear hperm hlenX
      obtain ⟨g, cap, rfl, hbg, hgl⟩ := own_form H.own hXp
      have hown : wr.ownsRow (w.heap.size + 1) 72 7 (.slice (some ⟨g, 0, none⟩) (X.map en).length cap) (X.map en).length (rowsOf (X.map en)) := by
        rw [List.length_map]; exact H.own
      have hsz1 : (X.map en).toArray.size = X.length := by simp
      have hTr : TabOK 0 wr := fun g j v h => ⟨Nat.lt_of_lt_of_le (HT.out g j v h).1 H.bel.size, by rw [H.bel.cell (p := ⟨g, j, none⟩) (HT.out g j v h).1]; exact (HT.out g j v h).2⟩
      have hg0 : g ≠ 0 := fun e => by have := (HT.out 0 0 _ (powF_at 0 0 (by decide))).1; omega
      have hsort := sortB_sorted (P := Tryz.prog) Tryz.sortEnt 7 (fun _ => by kernel_rfl) (fun _ => by kernel_rfl) Ent.row (fun _ => rfl) entE_one cfE 131 #[] swoE g 0 cap (X.map en).toArray wr egC (cmpB cmp_calls wr hTr g 0 _ hg0) (holds_own hown) hgl (by rw [hsz1]; exact hX12) hlen
      rw [hsz1] at hsort
      have HSO := Lib.hid hsort
      have HTR := Lib.hid hTr
      have HG0 := Lib.hid hg0
      have HS1 := Lib.hid hsz1
      clear hsort hTr hg0 hsz1
      go_wp2_with (go_at_call 130; refine (HSO.out).mono ?_; rintro e w' ⟨rfl, d', n', os', hp, hs, rfl⟩)
      have hd' : d'.size = X.length := by rw [hp.1]; exact HS1.out
      have hd2 : d'.toList = L := by
        have p1 : d'.toList.Perm (X.map en) := by
          have := hp.2.2
          have e1 : (X.map en).toArray.extract 0 X.length = (X.map en).toArray := by rw [← HS1.out]; exact Array.extract_size
          have e2 : d'.extract 0 X.length = d' := by rw [← hd']; exact Array.extract_size
          rw [e1, e2] at this
          exact this
        have p2 : (X.map en).Perm L := (by have := HPM.out.map en; rw [List.map_map] at this; exact this : (X.map en).Perm (es.toList.map fun e => en e.born)).trans HL.out
        refine sorted_one (lt := fun x y => ltOf cfE x y = true) (fun a => by rw [swoE.irrefl]; simp) (fun a b c => swoE.trans a b c) (p1.trans p2) ?_ HLS.out
        rw [List.pairwise_iff_getElem]
        intro i j hi hj hij
        have hj' : j < d'.size := by simpa using hj
        have := hs i j (Nat.zero_le _) hij (by rw [← hd']; exact hj')
        rw [getElem!_pos d' i (by omega), getElem!_pos d' j hj'] at this
        show ¬ ltOf cfE d'[j] d'[i] = true
        rw [this]; exact Bool.false_ne_true
      go_ret
      have hn : X.length = L.length := by rw [← hd2, Array.length_toList]; exact hd'.symm
      refine ⟨g, cap, by rw [← hn]; rfl, ?_, H.bel.trans (below_sorted (te := 72) (by omega) H.bel.size)⟩
      have := own_sorted (m := n') (d := d') (os := os') hown (by rw [hd']; simp) (by simp; omega)
      rw [hd2, List.length_map, hn] at this
      exact own_mono this (by omega)
    · intro e he w2 hi2 hg2 hs2 hen
      have HS2 := Lib.hid hs2
      have HI2 := Lib.hid hi2
      clear hs2 hi2
      obtain ⟨hes, hns⟩ := mem_left (Array.mem_toList_iff.2 he)
      obtain ⟨hkey, hev⟩ := HK.out e hes
      rw [hkey, hev] at hen ⊢
      have HNS := Lib.hid hns
      have HEV := Lib.hid hev
      have HKY := Lib.hid hkey
      clear hns hev hkey
      obtain ⟨i0, hi, hz0, hz1, hz2⟩ := info_parts infoE
      have hown2 : w2.ownsRow (w.heap.size + 1) 72 7 u3 X.length (rowsOf (X.map en)) := H.own.kept hg2 (by
        cases hb : u3.ownBlock with
        | none => exact .inl rfl
        | some g => right; intro e2; have := (H.own.lt g hb).1; cases e2; omega)
      go_wp2_with (first
        | (at_builtin; refine wpList_append_own_at _ rfl _ _ 38 rfl (w.heap.size + 1) 72 i0 _ 7 20 (by kernel_rfl) hi hz0 hz1 hz2 rfl (by decide) _ _ _ rfl ((hown2.alloc _).alloc _) ⟨w2.heap.size + 1, 0, none⟩ 1 1 (en e.born).row rfl rfl ?c1 ?c2 ?c3 ?c4 ?c5 ?_)
        | go_in)
      case c1 =>
        intro j u hj
        have e0 : (⟨w2.heap.size + 1, 0, none⟩ : Addr).add j = ⟨w2.heap.size + 1, j, none⟩ := by unfold Addr.add; split <;> simp_all
        rw [e0, World.cell?_alloc2_new]
        simpa [Ent.row] using hj
      case c2 => intro u hu; simp [Ent.row] at hu; rcases hu with rfl | rfl | rfl | rfl | rfl | rfl | rfl <;> rfl
      case c3 => unfold maxLen; omega
      case c4 => omega
      case c5 => have := HS2.out; simp; omega
      intro v' w3 hown3 hg3 hnil3 hat3
      go_wp2
      have hold3 : ∀ k, k < w2.heap.size → u3.ownBlock ≠ some k → w3.heap[k]? = w2.heap[k]? := fun k hk1 hk2 => by
        rw [hg3.block k (by simp; omega) (Ne.symm hk2), RowKit.Below.heap_alloc _ _ _ (by simp; omega), RowKit.Below.heap_alloc _ _ _ hk1]
      have hnR : u3.ownBlock ≠ some w.heap.size := fun e2 => by have := (H.own.lt _ e2).1; omega
      have hnM : u3.ownBlock ≠ some bm := fun e2 => by have := (H.own.lt _ e2).1; omega
      have hs2 := HS2.out
      have hpush : X.toArray.push e.born = (X ++ [e.born]).toArray := by simp
      have hit3 : w3.heap[w.heap.size]? = some (.mapIter (some bm) clock (X ++ [e.born]).toArray clock) := by
        rw [hold3 _ (by omega) hnR, HI2.out]
      go_roundw
      case rel =>
        refine ⟨X ++ [e.born], clock, hit3, Nat.le_refl _, ?_, ?_, ?_, ?_, ?_⟩
        · rw [hold3 _ (by omega) hnM, hg2.block bm (by omega) (fun e2 => by cases e2; omega)]; exact H.mp
        · intro b hb
          rcases List.mem_append.1 hb with h | h
          · exact H.sub b h
          · rw [List.mem_singleton.1 h]; exact List.mem_map_of_mem hes
        · rw [List.nodup_append]
          refine ⟨H.nd, by simp, fun a ha b hb => ?_⟩
          rw [List.mem_singleton.1 hb]
          intro e2; subst e2
          have := HNS.out
          simp at this
          exact this ha
        · simpa [rowsOf] using hown3
        · refine RowKit.Below.grown ((RowKit.Below.alloc (RowKit.Below.alloc (H.bel.grown hg2 H.bel.size (fun k hk => by cases hk; exact Nat.le_refl _)) (by omega) _) (by simp; omega) _)) hg3 (by simp; omega) fun k hk => ?_
          have := (H.own.lt k hk).1
          omega
      case measure =>
        rw [mleft_eq hit3, mleft_eq H.it, ← hpush]
        exact left_shrinks es _ e (Array.mem_toList_iff.2 he)
#print axioms Q_calls
set_option maxRecDepth 100000 in
set_option maxHeartbeats 1000000 in
/-- maps.Values' walk: whatever the loop keeps, the entries come, each once, in some order. -/
theorem values1_in (F : Fence) (n : Nat) (hf : F.fn 211) (hro : F.round = none) (hn : 1 ≤ n) (l Bm bm clock : Nat) (es : Array MapEntry) (en : Nat → Ent) (J : List Ent → World → Prop)
    (hold : ∀ x ∈ es.toList, x.born < clock) (hnd : (es.toList.map (·.born)).Nodup) (hk : ∀ e ∈ es.toList, e.val = .agg (en e.born).row.toArray)
    (hY : ∀ pre x W, J pre W → pre.length < es.size → YieldAt F (n - 1) Tryz.prog l #[.agg (Ent.row x).toArray] W fun e W' => e = .returned (.bool true) ∧ J (pre ++ [x]) W' ∧ KeepsWalks W W')
    (W : World) (hJ : AbidesFrom W.heap.size J) (hB : W.cell? ⟨Bm, 0, none⟩ = some (.map (some bm))) (hm : W.heap[bm]? = some (.map es clock)) (h0 : J [] W) :
    CallsIn F n Tryz.prog 211 #[.func (.yield l) #[] #[], .pointer (some ⟨Bm, 0, none⟩)] W fun e W' => (∃ v, e = .returned v) ∧ ∃ X : List Ent, X.Perm (es.toList.map fun e => en e.born) ∧ J X W' := by
  have hrg := run_range_map (P := Tryz.prog) W 179 25 72 bm es clock (by kernel_rfl) hm
  have hbl : bm < W.heap.size := (Array.getElem?_eq_some_iff.1 hm).1
  have HO := Lib.hid hold
  have HN := Lib.hid hnd
  have HK := Lib.hid hk
  have HM := Lib.hid hm
  have HY := Lib.hid hY
  have HJ := Lib.hid hJ
  have HJ0 := Lib.hid h0
  clear hk hold hnd hm hY hJ h0
  refine callsIn_of_wp Tryz.func211 rfl hf ?_ hro
  simp only [Tryz.ntmps211, List.size_toArray, List.length_cons, List.length_nil, Nat.reduceAdd, Nat.reduceSub, Array.replicate_succ, Array.replicate_zero, List.push_toArray, List.append_toArray, List.nil_append, List.cons_append]
  gi_wp2
  gi_loopw [4] (fun _ wr => ∃ (X : List Nat) (c0 : Nat), VHead W.heap.size bm clock es en J X c0 wr) (fun _ wr => mleft es W.heap.size wr)
  case atStart =>
    refine ⟨[], clock, ⟨Go.heap_alloc_new _ _, Nat.le_refl _, (RowKit.Below.heap_alloc _ _ _ hbl).trans HM.out, by simp, by simp, ?_⟩⟩
    exact HJ.out [] W _ none HJ0.out (World.grownBy_alloc W _ none) (fun r e => by cases e)
  case round =>
    obtain ⟨X, c0, H⟩ := hrel
    have hRl : W.heap.size < wr.heap.size := (Array.getElem?_eq_some_iff.1 H.it).1
    gi_wp2_with (first
      | (gi_at_next; refine wpListIn_next_at _ rfl _ rfl W.heap.size bm clock c0 _ es clock rfl H.it H.mp HO.out H.le HN.out (by omega) ?_ ?_)
      | gi_in)
    · intro h0
      have hperm : (X.map en).Perm (es.toList.map fun e => en e.born) := by
        have h1 : X.Perm (es.toList.map (·.born)) := perm_of_all H.nd HN.out H.sub fun b hb => by
          obtain ⟨x, hx, rfl⟩ := List.mem_map.1 hb
          have := all_seen es X.toArray (by rw [h0]; rfl) x hx
          simpa using this
        have := h1.map en
        rw [List.map_map] at this; exact this
      have HP := Lib.hid hperm
      clear hperm h0
      gi_wp2
      go_end0
      exact ⟨⟨_, rfl⟩, X.map en, HP.out, H.kept⟩
    · intro e he w2 hi2 hg2 hs2 hen
      have HI2 := Lib.hid hi2
      have HS2 := Lib.hid hs2
      obtain ⟨hes, hns⟩ := mem_left (Array.mem_toList_iff.2 he)
      have hev : e.val = .agg #[.int .u32 (en e.born).seq, .int .u32 (en e.born).view, .int .u8 (en e.born).cl, .int .u32 (en e.born).ts, .int .u8 (en e.born).kd, .int .u8 (en e.born).ky, .int .u16 (en e.born).vl] := HK.out e hes
      rw [hev] at hen ⊢
      have hJ2 : J (X.map en) w2 := HJ.out _ wr w2 (some W.heap.size) H.kept hg2 (fun r e => by cases e; exact ⟨Nat.le_refl _, _, H.it, rfl⟩)
      have hJ3 : J (X.map en) (w2.alloc (.cells #[.int .u32 (en e.born).seq, .int .u32 (en e.born).view, .int .u8 (en e.born).cl, .int .u32 (en e.born).ts, .int .u8 (en e.born).kd, .int .u8 (en e.born).ky, .int .u16 (en e.born).vl] 72)) := HJ.out _ w2 _ none hJ2 (World.grownBy_alloc _ _ none) (fun r e => by cases e)
      have hnd2 : (X ++ [e.born]).Nodup := by
        rw [List.nodup_append]
        refine ⟨H.nd, by simp, fun a ha b hb => ?_⟩
        rw [List.mem_singleton.1 hb]
        intro e2; subst e2
        simp at hns
        exact hns ha
      have hsub2 : ∀ b ∈ X ++ [e.born], b ∈ es.toList.map (·.born) := fun b hb => by
        rcases List.mem_append.1 hb with h | h
        · exact H.sub b h
        · rw [List.mem_singleton.1 h]; exact List.mem_map_of_mem hes
      have hlen : X.length < es.size := by
        have := len_le_of_sub hnd2 hsub2
        simpa [Nat.lt_iff_add_one_le] using this
      obtain ⟨fn, tmps, assign, body, hy, hR⟩ := HY.out (X.map en) (en e.born) _ hJ3 (by rw [List.length_map]; exact hlen)
      dsimp only [Ent.row] at hy
      have hbm2 : w2.heap[bm]? = some (.map es clock) := (hg2.block bm (by have := (Array.getElem?_eq_some_iff.1 H.mp).1; exact this) (fun e2 => by cases e2; omega)).trans H.mp
      have HNS := Lib.hid hns
      have HEV := Lib.hid hev
      have HJ3 := Lib.hid hJ3
      have HND := Lib.hid hnd2
      have HSU := Lib.hid hsub2
      have HBM := Lib.hid hbm2
      clear hns hev hi2 hs2 hJ2 hJ3 hnd2 hsub2 hlen hbm2
      gi_wp2
      refine hR.mono ?_
      rintro E W3 ⟨rfl, hJ3, hk3⟩
      gi_wp2
      have hit3 : W3.heap[W.heap.size]? = some (.mapIter (some bm) clock (X ++ [e.born]).toArray clock) := hk3.same _ _ ((RowKit.Below.heap_alloc _ _ _ (by rw [HS2.out]; exact hRl)).trans HI2.out) rfl
      have hmp3 : W3.heap[bm]? = some (.map es clock) := hk3.same _ _ ((RowKit.Below.heap_alloc _ _ _ (Array.getElem?_eq_some_iff.1 HBM.out).1).trans HBM.out) rfl
      go_roundw
      case rel =>
        refine ⟨X ++ [e.born], clock, ⟨hit3, Nat.le_refl _, hmp3, HSU.out, HND.out, ?_⟩⟩
        simpa using hJ3
      case measure =>
        rw [mleft_eq hit3, mleft_eq H.it, ← List.push_toArray]
        exact left_shrinks es _ e (Array.mem_toList_iff.2 he)
#print axioms values1_in
def apAssign : Code := Code.region 2
        #[{ dst := some 5, op := Op.alloc 72, type := 0, pos := "iter.go:51", after := #[], guard := none },
          { dst := none, op := Op.store 72 (Operand.tmp 5) (Operand.tmp 7), type := 0, pos := "iter.go:51",
            after := #[{ on := 0, ground := Ground.data }, { on := 0, ground := Ground.phase }], guard := none }]
        false
def apBody : Code := Code.block 1
        (Code.region 3
          #[{ dst := some 8, op := Op.load 38 (Operand.tmp 2), type := 38, pos := "iter.go:52", after := #[],
              guard := none },
            { dst := some 9, op := Op.load 72 (Operand.tmp 5), type := 72, pos := "iter.go:52", after := #[],
              guard := none },
            { dst := some 10, op := Op.buildSlice 38 1 #[(0, Operand.tmp 9)], type := 38, pos := "iter.go:52",
              after := #[{ on := 1, ground := Ground.data }], guard := none },
            { dst := some 11,
              op :=
                Op.call
                  { callee := Callee.builtin Builtin.append, args := #[Operand.tmp 8, Operand.tmp 10],
                    argTypes := #[38, 38] },
              type := 38, pos := "iter.go:52",
              after := #[{ on := 0, ground := Ground.data }, { on := 2, ground := Ground.data }], guard := none },
            { dst := none, op := Op.store 38 (Operand.tmp 2) (Operand.tmp 11), type := 0, pos := "iter.go:52",
              after :=
                #[{ on := 3, ground := Ground.data }, { on := 3, ground := Ground.chain },
                  { on := 0, ground := Ground.phase }, { on := 1, ground := Ground.phase },
                  { on := 2, ground := Ground.phase }, { on := 3, ground := Ground.phase }],
              guard := none }]
          false)
/-- the loop's record: the slice boxed in block Bs; sv: the iterator's value -/
def apRec (fn : FuncId) (sv : Value) (Bs D : Nat) (st : LoopState) (pend : Option Code) : Loop :=
  { state := st, pending := pend, fn, tmps := #[.slice none 0 0, sv, .pointer (some ⟨Bs, 0, none⟩), undef, .slice none 0 0, undef, sv, undef, undef, undef, undef, undef, undef], params := #[7], assign := apAssign, body := apBody, defers := D }
/-- between two rounds -/
structure ApAt (w0 : World) (fn : FuncId) (sv : Value) (Bs l D : Nat) (ss : List Ent) (W : World) : Prop where
  box : ∃ v, W.heap[Bs]? = some (.cells #[v] 38 (0, 0)) ∧ W.ownsRow w0.heap.size 72 7 v ss.length (rowsOf ss)
  L : W.heap[l]? = some (.loop (apRec fn sv Bs D .ready none))
  K : W.heap[D]? = some (.deferred (some []))
  below : RowKit.Below w0.heap.size w0 W
theorem ap_abides (w0 : World) (fn : FuncId) (sv : Value) (Bs l D B : Nat) (hB : w0.heap.size ≤ B) : AbidesFrom B (ApAt w0 fn sv Bs l D) := fun s W W' row h hg hrow => by
  have hrow' : ∀ r, row = some r → ∃ o : Obj, W.heap[r]? = some o ∧ o.isWalk = true := fun r e => (hrow r e).2
  obtain ⟨v, hv, hr⟩ := h.box
  exact ⟨⟨v, (grownBy_keeps hg hrow' hv rfl).trans hv, own_abides hr hg hrow'⟩, (grownBy_keeps hg hrow' h.L rfl).trans h.L, (grownBy_keeps hg hrow' h.K rfl).trans h.K,
    h.below.grown hg h.below.size (fun k e => Nat.le_trans hB (hrow k e).1)⟩
set_option maxRecDepth 100000 in
set_option maxHeartbeats 2000000 in
theorem apYield (F : Fence) (m : Nat) (w0 : World) (fn : FuncId) (hfn : F.fn fn) (sv : Value) (Bs l D : Nat) (hBl : Bs ≠ l) (hDl : D ≠ l) (hDB : D ≠ Bs) (h0B : w0.heap.size ≤ Bs) (h0l : w0.heap.size ≤ l)
    (ss : List Ent) (x : Ent) (W : World) (h : ApAt w0 fn sv Bs l D ss W) (hlen : ss.length < 12) :
    YieldAt F m Tryz.prog l #[.agg (Ent.row x).toArray] W fun e W' => e = .returned (.bool true) ∧ ApAt w0 fn sv Bs l D (ss ++ [x]) W' ∧ KeepsWalks W W' := by
  obtain ⟨i0, hi, hz0, hz1, hz2⟩ := info_parts infoE
  refine ⟨fn, #[.slice none 0 0, sv, .pointer (some ⟨Bs, 0, none⟩), undef, .slice none 0 0, undef, sv, .agg #[.int .u32 x.seq, .int .u32 x.view, .int .u8 x.cl, .int .u32 x.ts, .int .u8 x.kd, .int .u8 x.ky, .int .u16 x.vl], undef, undef, undef, undef, undef], apAssign, apBody, by simpa [apRec, Ent.row] using run_yield (P := Tryz.prog) (args := #[.agg (Ent.row x).toArray]) h.L rfl, roundIn_of_wpIn hfn ?_⟩
  have HL := Lib.hid hlen
  have H0 := Lib.hid h
  clear hlen h
  unfold apAssign
  gi_wp2_with gi_round_op_e
  obtain ⟨W1, hW1⟩ : ∃ W1, W.alloc (.cells #[.int .u32 x.seq, .int .u32 x.view, .int .u8 x.cl, .int .u32 x.ts, .int .u8 x.kd, .int .u8 x.ky, .int .u16 x.vl] 72) = W1 := ⟨_, rfl⟩
  rw [hW1]
  have hk1 : KeepsWalks W W1 := by rw [← hW1]; exact KeepsWalks.alloc _ _
  have hg1 : W.grownBy W1 none := by rw [← hW1]; exact World.grownBy_alloc _ _ none
  have h : ApAt w0 fn sv Bs l D ss W1 := ap_abides w0 fn sv Bs l D w0.heap.size (Nat.le_refl _) ss W W1 none H0.out hg1 (fun r e => by cases e)
  have hA1 : W1.heap[W.heap.size]? = some (.cells #[.int .u32 x.seq, .int .u32 x.view, .int .u8 x.cl, .int .u32 x.ts, .int .u8 x.kd, .int .u8 x.ky, .int .u16 x.vl] 72 (0, 0)) := by rw [← hW1]; exact Go.heap_alloc_new _ _
  have hlW : l < W.heap.size := (Array.getElem?_eq_some_iff.1 H0.out.L).1
  have hs1 : W1.heap.size = W.heap.size + 1 := by rw [← hW1]; simp
  clear hW1
  obtain ⟨v, hv, hrow⟩ := h.box
  have hl : l < W1.heap.size := by omega
  have hbr := run_beginRound (P := Tryz.prog) h.L rfl
  obtain ⟨W2, hW2⟩ : ∃ W2, W1.putObj l (.loop { apRec fn sv Bs D .ready none with state := .busy }) = W2 := ⟨_, rfl⟩
  rw [hW2] at hbr
  have hg2 : W1.grownBy W2 (some l) := by rw [← hW2]; exact grown_putObj _ _ _
  have hk2 : KeepsWalks W W2 := hk1.trans (by rw [← hW2]; exact KeepsWalks.putObj _ h.L rfl)
  have hv2 : W2.heap[Bs]? = some (.cells #[v] 38 (0, 0)) := by rw [← hW2]; exact (World.putObj_heap_other hBl).trans hv
  have hA2 : W2.heap[W.heap.size]? = some (.cells #[.int .u32 x.seq, .int .u32 x.view, .int .u8 x.cl, .int .u32 x.ts, .int .u8 x.kd, .int .u8 x.ky, .int .u16 x.vl] 72 (0, 0)) := by rw [← hW2]; exact (World.putObj_heap_other (by omega)).trans hA1
  have hK2 : W2.heap[D]? = some (.deferred (some [])) := by rw [← hW2]; exact (World.putObj_heap_other hDl).trans h.K
  have hL2 : W2.heap[l]? = some (.loop { apRec fn sv Bs D .ready none with state := .busy }) := by rw [← hW2]; exact World.putObj_heap_same hl
  have hrow2 : W2.ownsRow w0.heap.size 72 7 v ss.length (rowsOf ss) := hrow.kept hg2 (own_ne hrow h.L (fun cur e => by cases e))
  have hb2 : RowKit.Below w0.heap.size w0 W2 := h.below.grown hg2 h.below.size (fun k e => by cases e; exact h0l)
  obtain ⟨hc2, hf2⟩ := cell_of_box' hv2
  have hBlt : Bs < W2.heap.size := (Array.getElem?_eq_some_iff.1 hv2).1
  have hl2 : l < W2.heap.size := (Array.getElem?_eq_some_iff.1 hL2).1
  have hDlt : D < W2.heap.size := (Array.getElem?_eq_some_iff.1 hK2).1
  have ne_of : ∀ {j : Nat} {o : Obj}, W2.heap[j]? = some o → (∀ cur, o ≠ .cells cur 72 (0, 0)) → some j ≠ v.ownBlock := fun hj hno => by
    rcases own_ne hrow2 hj hno with e | e
    · rw [e]; simp
    · exact fun e' => e e'.symm
  have c0 : W2.cell? ⟨W.heap.size, 0, none⟩ = some (.int .u32 x.seq) := by simp [World.cell?, hA2]
  have c1 : W2.cell? ⟨W.heap.size, 1, none⟩ = some (.int .u32 x.view) := by simp [World.cell?, hA2]
  have c2 : W2.cell? ⟨W.heap.size, 2, none⟩ = some (.int .u8 x.cl) := by simp [World.cell?, hA2]
  have c3 : W2.cell? ⟨W.heap.size, 3, none⟩ = some (.int .u32 x.ts) := by simp [World.cell?, hA2]
  have c4 : W2.cell? ⟨W.heap.size, 4, none⟩ = some (.int .u8 x.kd) := by simp [World.cell?, hA2]
  have c5 : W2.cell? ⟨W.heap.size, 5, none⟩ = some (.int .u8 x.ky) := by simp [World.cell?, hA2]
  have c6 : W2.cell? ⟨W.heap.size, 6, none⟩ = some (.int .u16 x.vl) := by simp [World.cell?, hA2]
  have HH := Lib.hid h
  clear hW2 h hv hrow
  refine ⟨W2, hbr, ?_⟩
  unfold apBody
  gi_wp2_with (first
    | (gi_at_builtin; refine wpListIn_append_own_at _ rfl _ _ 38 rfl w0.heap.size 72 i0 _ 7 20 (by kernel_rfl) hi hz0 hz1 hz2 rfl (by decide) _ _ _ rfl (hrow2.alloc _) ⟨W2.heap.size, 0, none⟩ 1 1 (Ent.row x) rfl rfl ?c1 ?c2 ?c3 ?c4 ?c5 ?_)
    | gi_round_op_e)
  case c1 =>
    intro j u hj
    exact hj
  case c2 => exact entE_one x
  case c3 => have := HL.out; unfold maxLen; omega
  case c4 => have := HL.out; omega
  case c5 => have := hb2.size; simp; omega
  intro v' w3 hown' hg3 hnil3 hat3
  have hv3 : w3.heap[Bs]? = some (.cells #[v] 38 (0, 0)) := (hg3.block Bs (by simp; omega) (ne_of hv2 (fun cur e => by cases e))).trans ((RowKit.Below.heap_alloc _ _ Bs hBlt).trans hv2)
  obtain ⟨hc3, hf3⟩ := cell_of_box' hv3
  obtain ⟨g', cap', rfl, hbg', hgl'⟩ := own_form hown' (Nat.succ_pos _)
  gi_wp2_with gi_round_op_e
  have hg3' : (W2.alloc (.cells (Ent.row x).toArray 72)).grownBy w3 v.ownBlock := hg3
  have hL3 : w3.heap[l]? = some (.loop { apRec fn sv Bs D .ready none with state := .busy }) := (hg3'.block l (by simp; omega) (ne_of hL2 (fun cur e => by cases e))).trans ((RowKit.Below.heap_alloc _ _ l hl2).trans hL2)
  have hK3 : w3.heap[D]? = some (.deferred (some [])) := (hg3'.block D (by simp; omega) (ne_of hK2 (fun cur e => by cases e))).trans ((RowKit.Below.heap_alloc _ _ D hDlt).trans hK2)
  obtain ⟨w4, hw4⟩ : ∃ w4, w3.setCell ⟨Bs, 0, none⟩ (.slice (some ⟨g', 0, none⟩) (ss.length + 1) cap') = w4 := ⟨_, rfl⟩
  rw [hw4]
  have hg4 : w3.grownBy w4 (some Bs) := by rw [← hw4]; exact grown_setCell0 _ _ _
  have hv4 : w4.heap[Bs]? = some (.cells #[.slice (some ⟨g', 0, none⟩) (ss.length + 1) cap'] 38 (0, 0)) := by rw [← hw4]; exact heap_setCell_box' _ hv3
  have hL4 : w4.heap[l]? = some (.loop { apRec fn sv Bs D .ready none with state := .busy }) := (hg4.block l (Array.getElem?_eq_some_iff.1 hL3).1 (fun e => hBl (by cases e; rfl))).trans hL3
  have hK4 : w4.heap[D]? = some (.deferred (some [])) := (hg4.block D (Array.getElem?_eq_some_iff.1 hK3).1 (fun e => hDB (by cases e; rfl))).trans hK3
  have hrow4 := hown'.kept hg4 (own_ne hown' hv3 (fun cur e => by cases e))
  have hl4 : l < w4.heap.size := (Array.getElem?_eq_some_iff.1 hL4).1
  have hb3 : RowKit.Below w0.heap.size w0 w3 := (hb2.alloc hb2.size _).grown hg3' (by have := hb2.size; simp; omega) (fun k e => (hrow2.lt k e).1)
  have hb4 : RowKit.Below w0.heap.size w0 w4 := hb3.grown hg4 hb3.size (fun k e => by cases e; exact h0B)
  have hk4 : KeepsWalks W w4 := ((hk2.trans (KeepsWalks.alloc _ _)).trans (KeepsWalks.of_grownBy hg3' (own_not_walk (hrow2.alloc _)))).trans (by rw [← hw4]; exact KeepsWalks.setCell _ _ _)
  clear hw4
  refine ⟨_, _, run_endRound none hL4, rfl, ⟨⟨_, (World.putObj_heap_other hBl).trans hv4, ?_⟩, World.putObj_heap_same hl4, (World.putObj_heap_other hDl).trans hK4, hb4.grown (grown_putObj _ _ _) hb4.size (fun k e => by cases e; exact h0l)⟩, hk4.trans (KeepsWalks.putObj _ hL4 rfl)⟩
  have := hrow4.kept (grown_putObj w4 l (.loop { { apRec fn sv Bs D .ready none with state := .busy } with state := if (none : Option Code).isNone then .ready else .done, pending := none })) (own_ne hrow4 hL4 (fun cur e => by cases e))
  simpa [rowsOf] using this
#print axioms apYield

set_option maxRecDepth 100000 in
set_option maxHeartbeats 2000000 in
/-- slices.AppendSeq(nil, maps.Values' walk): the entries, each once, in some order. -/
theorem appendSeq_in (F : Fence) (n : Nat) (h11 : F.fn 276) (hro : F.round = none) (hn : 2 ≤ n) (h39 : F.fn 211) (Bm bm clock : Nat) (es : Array MapEntry) (en : Nat → Ent)
    (hold : ∀ x ∈ es.toList, x.born < clock) (hnd : (es.toList.map (·.born)).Nodup) (hk : ∀ e ∈ es.toList, e.val = .agg (en e.born).row.toArray) (h12 : es.size ≤ 12)
    (w : World) (hB : w.cell? ⟨Bm, 0, none⟩ = some (.map (some bm))) (hBl0 : Bm < w.heap.size) (hm : w.heap[bm]? = some (.map es clock)) :
    CallsIn F n Tryz.prog 276 #[.slice none 0 0, .func (.func 211) #[] #[.pointer (some ⟨Bm, 0, none⟩)]] w fun e w' => ∃ (v : Value) (ss : List Ent), e = .returned v ∧ ss.Perm (es.toList.map fun e => en e.born) ∧ w'.ownsRow w.heap.size 72 7 v ss.length (rowsOf ss) ∧ RowKit.Below w.heap.size w w' := by
  have h1 : 1 ≤ n := by omega
  have HO := Lib.hid hold
  have HN := Lib.hid hnd
  have HK := Lib.hid hk
  have HZ := Lib.hid h12
  have HM := Lib.hid hm
  have HB := Lib.hid hB
  have hbl : bm < w.heap.size := (Array.getElem?_eq_some_iff.1 hm).1
  clear hold hnd hk h12 hm hB
  refine callsIn_of_wp_marks Tryz.func276 rfl h11 ?_ hro
  simp only [Tryz.ntmps276, List.size_toArray, List.length_cons, List.length_nil, Nat.reduceAdd, Nat.reduceSub, Array.replicate_succ, Array.replicate_zero, List.push_toArray, List.append_toArray, List.nil_append, List.cons_append]
  gi_wp2
  refine wpIn_rangeFunc ?_
  intro fn hfn
  rw [hro]
  obtain ⟨W0, hW0⟩ : ∃ W0, w.alloc (.cells #[.slice none 0 0] 38) = W0 := ⟨_, rfl⟩
  have hs0 : W0.heap.size = w.heap.size + 1 := by rw [← hW0]; simp
  have hv0 : W0.heap[w.heap.size]? = some (.cells #[.slice none 0 0] 38 (0, 0)) := by rw [← hW0]; exact World.alloc_heap_new w _
  have hb0 : RowKit.Below w.heap.size w W0 := by rw [← hW0]; exact (RowKit.Below.refl _ w).alloc (Nat.le_refl _) _
  rw [hW0]
  obtain ⟨W1, hW1⟩ : ∃ W1, (W0.alloc (.deferred (some []))).alloc (.loop (apRec fn (.func (.func 211) #[] #[.pointer (some ⟨Bm, 0, none⟩)]) w.heap.size W0.heap.size .ready none)) = W1 := ⟨_, rfl⟩
  have hold : ∀ k, k < W0.heap.size → W1.heap[k]? = W0.heap[k]? := fun k hk => by
    rw [← hW1]; exact (RowKit.Below.heap_alloc _ _ k (by simp; omega)).trans (RowKit.Below.heap_alloc _ _ k hk)
  have hb1 : RowKit.Below w.heap.size w W1 := by rw [← hW1]; exact (hb0.alloc hb0.size _).alloc (by have := hb0.size; simp; omega) _
  have hs1 : W1.heap.size = W0.heap.size + 2 := by rw [← hW1]; simp
  have hM : ApAt w fn (.func (.func 211) #[] #[.pointer (some ⟨Bm, 0, none⟩)]) w.heap.size (W0.heap.size + 1) W0.heap.size [] W1 :=
    ⟨⟨_, (hold w.heap.size (by omega)).trans hv0, ⟨rfl, .inl ⟨rfl, rfl⟩⟩⟩,
     by rw [← hW1]; have := World.alloc_heap_new (W0.alloc (.deferred (some []))) (.loop (apRec fn (.func (.func 211) #[] #[.pointer (some ⟨Bm, 0, none⟩)]) w.heap.size W0.heap.size .ready none)); rwa [World.size_alloc] at this,
     by rw [← hW1]; exact (RowKit.Below.heap_alloc _ _ _ (by simp)).trans (World.alloc_heap_new W0 _), hb1⟩
  have hB1 : W1.cell? ⟨Bm, 0, none⟩ = some (.map (some bm)) := (hb1.cell (p := ⟨Bm, 0, none⟩) hBl0).trans HB.out
  have hm1 : W1.heap[bm]? = some (.map es clock) := (hb1.block bm hbl).trans HM.out
  refine ⟨W0.heap.size + 1, [{ target := .collected W0.heap.size, args := #[] }], W1, { target := .fn (.func 211) #[.pointer (some ⟨Bm, 0, none⟩)], args := #[.func (.yield (W0.heap.size + 1)) #[] #[]] }, W1, 211,
    #[.func (.yield (W0.heap.size + 1)) #[] #[]] ++ #[.pointer (some ⟨Bm, 0, none⟩)], W1, ?_, ?_, ?_, ?_, fun _ => h1, ?_⟩
  · rw [← hW1]; exact run_enterLoop_outer _ _ _ _ _
  · simp [resolve, go_sem]
  · intro f' hf'; simp [Target.leads] at hf'; subst hf'; exact h39
  · simp [invoke, go_sem]
  · refine (values1_in F (n - 1) h39 hro (by omega) (W0.heap.size + 1) Bm bm clock es en (ApAt w fn (.func (.func 211) #[] #[.pointer (some ⟨Bm, 0, none⟩)]) w.heap.size (W0.heap.size + 1) W0.heap.size) HO.out HN.out HK.out
      (fun pre x W hJ hl => apYield F (n - 1 - 1) w fn hfn _ w.heap.size (W0.heap.size + 1) W0.heap.size (by omega) (by omega) (by omega) (Nat.le_refl _) (by omega) pre x W hJ (Nat.lt_of_lt_of_le hl HZ.out)) W1 (ap_abides _ _ _ _ _ _ _ hb1.size) hB1 hm1 hM).mono ?_
    rintro e W2 ⟨⟨v0, rfl⟩, ss, hS, h2⟩
    obtain ⟨v, hv, hrow⟩ := h2.box
    have hend := run_endLoop (P := Tryz.prog) h2.L (by simp [apRec])
    obtain ⟨W3, hW3⟩ : ∃ W3, W2.putObj (W0.heap.size + 1) (.loop { apRec fn (.func (.func 211) #[] #[.pointer (some ⟨Bm, 0, none⟩)]) w.heap.size W0.heap.size .ready none with state := .exhausted }) = W3 := ⟨_, rfl⟩
    rw [hW3] at hend
    have hg3 : W2.grownBy W3 (some (W0.heap.size + 1)) := by rw [← hW3]; exact grown_putObj _ _ _
    have hv3 : W3.heap[w.heap.size]? = some (.cells #[v] 38 (0, 0)) := by rw [← hW3]; exact (World.putObj_heap_other (by omega)).trans hv
    have hK3 : W3.heap[W0.heap.size]? = some (.deferred (some [])) := by rw [← hW3]; exact (World.putObj_heap_other (by omega)).trans h2.K
    have hrow3 := hrow.kept hg3 (own_ne hrow h2.L (fun cur e => by cases e))
    have hb3 : RowKit.Below w.heap.size w W3 := h2.below.grown hg3 h2.below.size (fun k e => by cases e; omega)
    obtain ⟨hc3, hf3⟩ := cell_of_box' hv3
    have HS := Lib.hid hS
    clear hW3 hS
    refine ⟨none, W3, hend, ?_⟩
    gi_wp2
    rw [← hs0]
    refine ⟨by simp, .inl ⟨_, _, rfl, run_takeDeferred hK3, ?_⟩⟩
    exact ⟨_, results_tmp rfl _ _ _, v, ss, rfl, HS.out, hrow3.kept (grown_putObj _ _ _) (own_ne hrow3 hK3 (fun cur e => by cases e)), hb3.grown (grown_putObj _ _ _) hb3.size (fun k e => by cases e; omega)⟩
#print axioms appendSeq_in

set_option maxHeartbeats 1000000 in
/-- slices.Collect -/
theorem collect_in (F : Fence) (n : Nat) (h8 : F.fn 210) (h11 : F.fn 276) (hro : F.round = none) (hn : 3 ≤ n) (h39 : F.fn 211) (Bm bm clock : Nat) (es : Array MapEntry) (en : Nat → Ent)
    (hold : ∀ x ∈ es.toList, x.born < clock) (hnd : (es.toList.map (·.born)).Nodup) (hk : ∀ e ∈ es.toList, e.val = .agg (en e.born).row.toArray) (h12 : es.size ≤ 12)
    (w : World) (hB : w.cell? ⟨Bm, 0, none⟩ = some (.map (some bm))) (hBl0 : Bm < w.heap.size) (hm : w.heap[bm]? = some (.map es clock)) :
    CallsIn F n Tryz.prog 210 #[.func (.func 211) #[] #[.pointer (some ⟨Bm, 0, none⟩)]] w fun e w' => ∃ (v : Value) (ss : List Ent), e = .returned v ∧ ss.Perm (es.toList.map fun e => en e.born) ∧ w'.ownsRow w.heap.size 72 7 v ss.length (rowsOf ss) ∧ RowKit.Below w.heap.size w w' := by
  have h1 : 1 ≤ n := by omega
  have HA := Lib.hid (appendSeq_in F (n - 1) h11 hro (by omega) h39 Bm bm clock es en hold hnd hk h12 w hB hBl0 hm)
  clear hold hnd hk h12 hm hB
  refine callsIn_of_wp Tryz.func210 rfl h8 ?_ hro
  simp only [Tryz.ntmps210, List.size_toArray, List.length_cons, List.length_nil, Nat.reduceAdd, Nat.reduceSub, Array.replicate_succ, Array.replicate_zero, List.push_toArray, List.append_toArray, List.nil_append, List.cons_append]
  gi_wp2_with (gi_at_call 276; refine HA.out.mono ?_; rintro e w' ⟨v, ss, rfl, hS, hrow, hb⟩)
  go_ret
  exact ⟨v, ss, rfl, hS, hrow, hb⟩
#print axioms collect_in
set_option maxHeartbeats 1000000 in
theorem values_calls (mb : Option Nat) (w : World) : Calls Tryz.prog 133 #[.map mb] w fun e w' => e = .returned (.func (.func 211) #[] #[.pointer (some ⟨w.heap.size, 0, none⟩)]) ∧ w' = w.alloc (.cells #[.map mb] 179) := by
  go_enter Tryz.func133, Tryz.ntmps133
  go_wp2
  go_ret
  exact ⟨rfl, rfl⟩
set_option maxHeartbeats 1000000 in
/-- slices.SortedFunc over maps.Values. -/
theorem sorted_calls (w : World) (Bm bm clock : Nat) (es : Array MapEntry) (en : Nat → Ent) (L : List Ent) (hB : w.cell? ⟨Bm, 0, none⟩ = some (.map (some bm))) (hBl0 : Bm < w.heap.size) (hm : w.heap[bm]? = some (.map es clock)) (hold : ∀ x ∈ es.toList, x.born < clock) (hnd : (es.toList.map (·.born)).Nodup)
    (h12 : es.size ≤ 12) (hk : ∀ e ∈ es.toList, e.val = .agg (en e.born).row.toArray) (hT : TabOK 0 w) (h0 : 0 < es.size) (hL : (es.toList.map fun e => en e.born).Perm L) (hLs : L.Pairwise fun x y => ltOf cfE x y = true) :
    Calls Tryz.prog 132 #[.func (.func 211) #[] #[.pointer (some ⟨Bm, 0, none⟩)], .func (.func 131) #[] #[]] w (QPost 72 w L) := by
  have HC := Lib.hid (callsIn_wide.1 (collect_in Fence.wide 3 trivial trivial rfl (Nat.le_refl _) trivial Bm bm clock es en hold hnd hk h12 w hB hBl0 hm))
  have HL := Lib.hid hL
  have HLS := Lib.hid hLs
  have HP := Lib.hid h0
  have HZ := Lib.hid h12
  have HT := Lib.hid hT
  clear hold hnd hk h12 hm hB hL hLs h0 hT
  go_enter Tryz.func132, Tryz.ntmps132
  go_wp2_with (go_at_call 210; refine (HC.out).mono ?_; rintro e wr ⟨v, ss, rfl, hS, hrow, hb⟩)
  have hln : ss.length = es.size := by have := hS.length_eq; simpa using this
  have hp0 : 0 < ss.length := by rw [hln]; exact HP.out
  have hss12 : ss.length ≤ 12 := by rw [hln]; exact HZ.out
  obtain ⟨g, cap, rfl, hbg, hgl⟩ := own_form hrow hp0
  have hsz1 : ss.toArray.size = ss.length := by simp
  have hTr : TabOK 0 wr := fun g j v h => ⟨Nat.lt_of_lt_of_le (HT.out g j v h).1 hb.size, by rw [hb.cell (p := ⟨g, j, none⟩) (HT.out g j v h).1]; exact (HT.out g j v h).2⟩
  have hg0 : g ≠ 0 := fun e => by have := (HT.out 0 0 _ (powF_at 0 0 (by decide))).1; omega
  have hsort := sortB_sorted (P := Tryz.prog) Tryz.sortEnt 7 (fun _ => by kernel_rfl) (fun _ => by kernel_rfl) Ent.row (fun _ => rfl) entE_one cfE 131 #[] swoE g 0 cap ss.toArray wr egC (cmpB cmp_calls wr hTr g 0 _ hg0) (holds_own hrow) hgl (by rw [hsz1]; exact hss12) hlen
  rw [hsz1] at hsort
  have HSO := Lib.hid hsort
  have HS1 := Lib.hid hsz1
  have HSS := Lib.hid hS
  have HLE := Lib.hid hln
  clear hsort hTr hg0 hsz1 hS hln
  go_wp2_with (go_at_call 130; refine (HSO.out).mono ?_; rintro e w' ⟨rfl, d', n', os', hp, hs, rfl⟩)
  have hd' : d'.size = ss.length := by rw [hp.1]; exact HS1.out
  have hd2 : d'.toList = L := by
    have p1 : d'.toList.Perm ss := by
      have := hp.2.2
      have e1 : ss.toArray.extract 0 ss.length = ss.toArray := by rw [← HS1.out]; exact Array.extract_size
      have e2 : d'.extract 0 ss.length = d' := by rw [← hd']; exact Array.extract_size
      rw [e1, e2] at this
      exact this
    refine sorted_one (lt := fun x y => ltOf cfE x y = true) (fun a => by rw [swoE.irrefl]; simp) (fun a b c => swoE.trans a b c) (p1.trans (HSS.out.trans HL.out)) ?_ HLS.out
    rw [List.pairwise_iff_getElem]
    intro i j hi hj hij
    have hj' : j < d'.size := by simpa using hj
    have := hs i j (Nat.zero_le _) hij (by rw [← hd']; exact hj')
    rw [getElem!_pos d' i (by omega), getElem!_pos d' j hj'] at this
    show ¬ ltOf cfE d'[j] d'[i] = true
    rw [this]; exact Bool.false_ne_true
  go_ret
  have hn : ss.length = L.length := by rw [← hd2, Array.length_toList]; exact hd'.symm
  refine ⟨g, cap, by rw [← hn]; rfl, ?_, hb.trans (below_sorted (te := 72) (by omega) hb.size)⟩
  have := own_sorted (m := n') (d := d') (os := os') hrow (by rw [hd']) (by omega)
  rw [hd2, hn] at this
  exact this
#print axioms sorted_calls
set_option maxHeartbeats 1000000 in
/-- P: what was prepared, in order. -/
theorem P_calls : PCon Tryz.prog 0 62 0 72 := by
  intro w bs os bm clock es en L hS hm hold hnd hsz hk hT h0s hL hLs
  rw [Nat.add_zero] at hS
  have hbl : bm < w.heap.size := (Array.getElem?_eq_some_iff.1 hm).1
  have hBm : (w.alloc (.cells #[.map (some bm)] 179)).cell? ⟨w.heap.size, 0, none⟩ = some (.map (some bm)) := by
    have e1 : (w.alloc (.cells #[.map (some bm)] 179)).heap[w.heap.size]? = some (.cells #[.map (some bm)] 179 (0, 0)) := Go.heap_alloc_new _ _
    exact (cell_of_box' e1).1
  have hmA : (w.alloc (.cells #[.map (some bm)] 179)).heap[bm]? = some (.map es clock) := (RowKit.Below.heap_alloc _ _ _ hbl).trans hm
  have hTA : TabOK 0 (w.alloc (.cells #[.map (some bm)] 179)) := fun g j v h => by
    obtain ⟨h1, h2⟩ := hT g j v h
    exact ⟨by simp; omega, by rw [World.cell?_of_block (RowKit.Below.heap_alloc _ _ _ h1)]; exact h2⟩
  have HV := Lib.hid (sorted_calls _ w.heap.size bm clock es en L hBm (by simp) hmA hold hnd hsz hk hTA h0s hL hLs)
  have HB0 := Lib.hid (show RowKit.Below w.heap.size w (w.alloc (.cells #[.map (some bm)] 179)) from (RowKit.Below.refl _ w).alloc (Nat.le_refl _) _)
  clear hk hold hnd hm hsz hT hL hLs h0s hBm hmA hTA
  go_enter Tryz.func62, Tryz.ntmps62
  go_wp2_with (first
    | (go_at_call 133; refine (values_calls _ _).mono ?_; rintro e w' ⟨rfl, rfl⟩)
    | (go_at_call 132; refine (HV.out).mono ?_; rintro e w' ⟨g, cap, rfl, hrow, hb⟩))
  go_ret
  exact ⟨g, cap, rfl, own_mono hrow (by simp), HB0.out.trans (hb.mono (by simp))⟩
#print axioms P_calls
end PqS
noncomputable def sumsQ : Tr Sum := sums.set 60 (qSum 1 (runSum Tryz.prog plan sums 60))
theorem sumsQ_ok {w : World} (hT : ∀ q, q < 20 → w.cell? ⟨0, q, none⟩ = some (.int .u64 ((10 ^ q : Nat) : Int))) {σ : Val} (hσ : σ.glob = glOf w) : ∀ g s, sumsQ.get g = some s → SumOK Tryz.prog σ g s :=
  setSum_ok sums_ok (q_sumOK (fn := (Tryz.prog.funcs[60]?).getD default) (c := ((Tryz.prog.funcs[60]?).getD default).body.getD .skip) (by kernel_rfl) (by kernel_rfl) (by kernel_rfl) PqS.Q_calls (glOf_pow hT hσ) (runSum_ok asked sums_ok 60))
noncomputable def cxQ : Cx := cxW Tryz.prog plan .nil sumsQ
#print axioms sumsQ_ok
noncomputable def sumsP : Tr Sum := sumsQ.set 62 (pSum 0 (runSum Tryz.prog plan sums 62))
theorem sumsP_ok {w : World} (hT : ∀ q, q < 20 → w.cell? ⟨0, q, none⟩ = some (.int .u64 ((10 ^ q : Nat) : Int))) {σ : Val} (hσ : σ.glob = glOf w) : ∀ g s, sumsP.get g = some s → SumOK Tryz.prog σ g s :=
  setSum_ok (sumsQ_ok hT hσ) (p_sumOK (fn := (Tryz.prog.funcs[62]?).getD default) (c := ((Tryz.prog.funcs[62]?).getD default).body.getD .skip) (by kernel_rfl) (by kernel_rfl) (by kernel_rfl) PqS.P_calls (glOf_pow hT hσ) (runSum_ok asked sums_ok 62))
noncomputable def cxP : Cx := cxW Tryz.prog plan .nil sumsP
#print axioms sumsP_ok
end Go.Proofs.YtamlnmdmfcblnaaGreatDoor
