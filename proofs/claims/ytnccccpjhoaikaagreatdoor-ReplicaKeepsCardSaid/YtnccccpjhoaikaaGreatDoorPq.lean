/- pq.compare at this dump: by places, then by texts; pq.Sets.Q: what was seen, in order, whatever order the map is gone through (twelve entries or fewer); Q as a summary. Its condition: the table of powers of ten stands as the program lays it. -/
import Derived.Test.YtnccccpjhoaikaaGreatDoorText
import Derived.Test.YtnccccpjhoaikaaGreatDoorPq0
import Derived.WalkKit
namespace Go.Proofs
open Go.Shelf
def Tryz.sortEnt_ren : Go.Shelf.Ren := ⟨fun | 6 => 166 | 15 => 264 | 14 => 263 | 28 => 338 | 29 => 339 | 20 => 330 | 21 => 331 | 22 => 332 | 23 => 333 | 24 => 334 | 25 => 335 | 26 => 336 | 27 => 337 | 46 => 372 | 47 => 373 | 48 => 374 | 49 => 375 | 50 => 376 | 57 => 400 | n => n, fun | 22 => 32 | 24 => 42 | 25 => 207 | 3 => 3 | 39 => 308 | 0 => 0 | 53 => 24 | 55 => 30 | 4 => 4 | 46 => 364 | 45 => 363 | 50 => 368 | 5 => 5 | 9 => 9 | 66 => 397 | 70 => 400 | 76 => 422 | 77 => 423 | n => n, fun | n => n⟩
theorem Tryz.sortEnt : Go.Proofs.SlLaysF0.n6 Tryz.prog Tryz.sortEnt_ren := {
  mixed := by kernel_rfl
  f6 := ⟨Tryz.f166.name, by decide, Tryz.func166.trans (congrArg some (by kernel_rfl))⟩
  f14 := ⟨Tryz.f263.name, by decide, Tryz.func263.trans (congrArg some (by kernel_rfl))⟩
  f15 := Tryz.func264.trans (congrArg some (by kernel_rfl))
  f20 := ⟨Tryz.f330.name, by decide, Tryz.func330.trans (congrArg some (by kernel_rfl))⟩
  f21 := ⟨Tryz.f331.name, by decide, Tryz.func331.trans (congrArg some (by kernel_rfl))⟩
  f22 := ⟨Tryz.f332.name, by decide, Tryz.func332.trans (congrArg some (by kernel_rfl))⟩
  f23 := ⟨Tryz.f333.name, by decide, Tryz.func333.trans (congrArg some (by kernel_rfl))⟩
  f24 := ⟨Tryz.f334.name, by decide, Tryz.func334.trans (congrArg some (by kernel_rfl))⟩
  f25 := ⟨Tryz.f335.name, by decide, Tryz.func335.trans (congrArg some (by kernel_rfl))⟩
  f26 := ⟨Tryz.f336.name, by decide, Tryz.func336.trans (congrArg some (by kernel_rfl))⟩
  f27 := ⟨Tryz.f337.name, by decide, Tryz.func337.trans (congrArg some (by kernel_rfl))⟩
  f28 := Tryz.func338.trans (congrArg some (by kernel_rfl))
  f29 := Tryz.func339.trans (congrArg some (by kernel_rfl))
  f46 := ⟨Tryz.f372.name, by decide, Tryz.func372.trans (congrArg some (by kernel_rfl))⟩
  f47 := Tryz.func373.trans (congrArg some (by kernel_rfl))
  f48 := Tryz.func374.trans (congrArg some (by kernel_rfl))
  f49 := ⟨Tryz.f375.name, by decide, Tryz.func375.trans (congrArg some (by kernel_rfl))⟩
  f50 := ⟨Tryz.f376.name, by decide, Tryz.func376.trans (congrArg some (by kernel_rfl))⟩
  f57 := ⟨Tryz.f400.name, by decide, Tryz.func400.trans (congrArg some (by kernel_rfl))⟩
  t0 := Tryz.underlying0
  a0 := Tryz.isAgg0
  z0 := Tryz.sizeOf0
  v0 := Tryz.zeroValue0
  t3 := Tryz.underlying3
  a3 := Tryz.isAgg3
  z3 := Tryz.sizeOf3
  v3 := Tryz.zeroValue3
  t4 := Tryz.underlying4
  a4 := Tryz.isAgg4
  z4 := Tryz.sizeOf4
  v4 := Tryz.zeroValue4
  t5 := Tryz.underlying5
  a5 := Tryz.isAgg5
  z5 := Tryz.sizeOf5
  v5 := Tryz.zeroValue5
  t9 := Tryz.underlying9
  a9 := Tryz.isAgg9
  z9 := Tryz.sizeOf9
  v9 := Tryz.zeroValue9
  t22 := Tryz.underlying32
  a22 := Tryz.isAgg32
  z22 := Tryz.sizeOf32
  v22 := Tryz.zeroValue32
  t25 := Tryz.underlying207
  a25 := Tryz.isAgg207
  z25 := Tryz.sizeOf207
  v25 := Tryz.zeroValue207
  t39 := Tryz.underlying308
  a39 := Tryz.isAgg308
  z39 := Tryz.sizeOf308
  v39 := Tryz.zeroValue308
  t45 := Tryz.underlying363
  a45 := Tryz.isAgg363
  z45 := Tryz.sizeOf363
  v45 := Tryz.zeroValue363
  t46 := Tryz.underlying364
  a46 := Tryz.isAgg364
  z46 := Tryz.sizeOf364
  v46 := Tryz.zeroValue364
  t50 := Tryz.underlying368
  a50 := Tryz.isAgg368
  z50 := Tryz.sizeOf368
  v50 := Tryz.zeroValue368
  t53 := Tryz.underlying24
  a53 := Tryz.isAgg24
  z53 := Tryz.sizeOf24
  v53 := Tryz.zeroValue24
  t55 := Tryz.underlying30
  a55 := Tryz.isAgg30
  z55 := Tryz.sizeOf30
  v55 := Tryz.zeroValue30
  t66 := Tryz.underlying397
  a66 := Tryz.isAgg397
  z66 := Tryz.sizeOf397
  v66 := Tryz.zeroValue397
  t70 := Tryz.underlying400
  a70 := Tryz.isAgg400
  z70 := Tryz.sizeOf400
  v70 := Tryz.zeroValue400
  t76 := Tryz.underlying422
  a76 := Tryz.isAgg422
  z76 := Tryz.sizeOf422
  v76 := Tryz.zeroValue422
  t77 := Tryz.underlying423
  a77 := Tryz.isAgg423
  z77 := Tryz.sizeOf423
  v77 := Tryz.zeroValue423 }
def Tryz.lays125_ren : Go.Shelf.Ren := ⟨fun | 125 => 264 | 128 => 338 | 129 => 339 | n => n, fun | 46 => 308 | 3 => 3 | 51 => 24 | 53 => 30 | 4 => 4 | 5 => 5 | 9 => 9 | n => n, fun | n => n⟩
theorem Tryz.lays125 : Go.Proofs.Lays.n125 Tryz.prog Tryz.lays125_ren := {
  mixed := by kernel_rfl
  f125 := Tryz.func264.trans (congrArg some (by kernel_rfl))
  f128 := Tryz.func338.trans (congrArg some (by kernel_rfl))
  f129 := Tryz.func339.trans (congrArg some (by kernel_rfl))
  t3 := Tryz.underlying3
  a3 := Tryz.isAgg3
  z3 := Tryz.sizeOf3
  v3 := Tryz.zeroValue3
  t4 := Tryz.underlying4
  a4 := Tryz.isAgg4
  z4 := Tryz.sizeOf4
  v4 := Tryz.zeroValue4
  t5 := Tryz.underlying5
  a5 := Tryz.isAgg5
  z5 := Tryz.sizeOf5
  v5 := Tryz.zeroValue5
  t9 := Tryz.underlying9
  a9 := Tryz.isAgg9
  z9 := Tryz.sizeOf9
  v9 := Tryz.zeroValue9
  t46 := Tryz.underlying308
  a46 := Tryz.isAgg308
  z46 := Tryz.sizeOf308
  v46 := Tryz.zeroValue308
  t51 := Tryz.underlying24
  a51 := Tryz.isAgg24
  z51 := Tryz.sizeOf24
  v51 := Tryz.zeroValue24
  t53 := Tryz.underlying30
  a53 := Tryz.isAgg30
  z53 := Tryz.sizeOf30
  v53 := Tryz.zeroValue30 }
theorem Tryz.bits_Len (x : Int) (w : World) (h0 : 0 ≤ x) (h1 : x ≤ 18446744073709551615) :
    Calls Tryz.prog 264 #[.int .u64 x] w fun e w' => e = .returned (.int .i64 (Lib.bitLen x.toNat)) ∧ w' = w := Any.bits_Len Tryz.lays125 x w h0 h1
end Go.Proofs
namespace Go.Proofs.YtnccccpjhoaikaaGreatDoor
open Go.Abs Go.RowKit Go.Shelf Go.Lib Go.Sort
namespace PqS
def opqF (v : Nat → Int) (j : Nat) : Value :=
  if j < 20 then .string ⟨(Lib.decDigits (u64N (v j))).toArray⟩
  else if j = 20 then .string ⟨(textB [u64N (v 2), u64N (v 3), u64N (v 4), u64N (v 5), u64N (v 6)]).toArray⟩ else .string ⟨(textB [u64N (v 9), u64N (v 10), u64N (v 11), u64N (v 12), u64N (v 13)]).toArray⟩
def numF (v : Nat → Int) (i : Nat) : Int := if i < 30 then v i else IntKind.u64.wrap (v (i - 30))
def sg (v : Nat → Int) : Val := ⟨numF v, powF 0, opqF v⟩
def tabJ : List (List Nat × Nat) := [([2, 3, 4, 5, 6], 20), ([9, 10, 11, 12, 13], 21)]
def args2 : List AV := [.agg [.sym .u32 0, .sym .u32 1, .sym .u8 2, .sym .u32 3, .sym .u8 4, .sym .u8 5, .sym .u16 6], .agg [.sym .u32 7, .sym .u32 8, .sym .u8 9, .sym .u32 10, .sym .u8 11, .sym .u8 12, .sym .u16 13]]
def calls : List FCall := [⟨341, [.sym .u64 32, .int .i64 10], .opq 2⟩, ⟨341, [.sym .u64 33, .int .i64 10], .opq 3⟩, ⟨341, [.sym .u64 34, .int .i64 10], .opq 4⟩, ⟨341, [.sym .u64 35, .int .i64 10], .opq 5⟩, ⟨341, [.sym .u64 36, .int .i64 10], .opq 6⟩, ⟨341, [.sym .u64 39, .int .i64 10], .opq 9⟩, ⟨341, [.sym .u64 40, .int .i64 10], .opq 10⟩, ⟨341, [.sym .u64 41, .int .i64 10], .opq 11⟩, ⟨341, [.sym .u64 42, .int .i64 10], .opq 12⟩, ⟨341, [.sym .u64 43, .int .i64 10], .opq 13⟩]
def convs : List FConv := [⟨.u64, .sym .u8 2, .sym .u64 32⟩, ⟨.u64, .sym .u32 3, .sym .u64 33⟩, ⟨.u64, .sym .u8 4, .sym .u64 34⟩, ⟨.u64, .sym .u8 5, .sym .u64 35⟩, ⟨.u64, .sym .u16 6, .sym .u64 36⟩, ⟨.u64, .sym .u8 9, .sym .u64 39⟩, ⟨.u64, .sym .u32 10, .sym .u64 40⟩, ⟨.u64, .sym .u8 11, .sym .u64 41⟩, ⟨.u64, .sym .u8 12, .sym .u64 42⟩, ⟨.u64, .sym .u16 13, .sym .u64 43⟩]
def qk (l : List Fact) : Kn := ⟨l, convs, .nil, [], [], calls⟩
noncomputable def sumsX : Tr Sum := sums.set 342 (joinSumT tabJ)
noncomputable def cxX : Cx := cxW Tryz.prog plan .nil sumsX
theorem join_ok (v : Nat → Int) : JoinOK (sg v) tabJ := by
  have hl : ∀ a b c d e : Nat, (Lib.join [Lib.decDigits (u64N (v a)), Lib.decDigits (u64N (v b)), Lib.decDigits (u64N (v c)), Lib.decDigits (u64N (v d)), Lib.decDigits (u64N (v e))] [58]).length ≤ 140737488355328 := fun a b c d e => by
    have := textB_len (l := [u64N (v a), u64N (v b), u64N (v c), u64N (v d), u64N (v e)]) (fun u hu => by
      simp only [List.mem_cons, List.not_mem_nil, or_false] at hu
      rcases hu with rfl | rfl | rfl | rfl | rfl <;> exact u64N_lt _)
    simp only [List.length_cons, List.length_nil] at this
    exact Nat.le_trans this (by decide)
  intro l j hm
  simp only [tabJ, List.mem_cons, Prod.mk.injEq, List.not_mem_nil, or_false] at hm
  rcases hm with ⟨rfl, rfl⟩ | ⟨rfl, rfl⟩
  · exact ⟨[Lib.decDigits (u64N (v 2)), Lib.decDigits (u64N (v 3)), Lib.decDigits (u64N (v 4)), Lib.decDigits (u64N (v 5)), Lib.decDigits (u64N (v 6))], rfl, rfl, by simp, hl 2 3 4 5 6⟩
  · exact ⟨[Lib.decDigits (u64N (v 9)), Lib.decDigits (u64N (v 10)), Lib.decDigits (u64N (v 11)), Lib.decDigits (u64N (v 12)), Lib.decDigits (u64N (v 13))], rfl, rfl, by simp, hl 9 10 11 12 13⟩
theorem sums_okX (v : Nat → Int) : ∀ g s, sumsX.get g = some s → SumOK Tryz.prog (sg v) g s :=
  setSum_ok sums_ok (joinT_sumOK (join_ok v) (fn := (Tryz.prog.funcs[342]?).getD default) (c := ((Tryz.prog.funcs[342]?).getD default).body.getD .skip) (by kernel_rfl) (by kernel_rfl) (by kernel_rfl) (fun bk o c xs sep w h1 h2 h3 h4 h5 => Tryz.strings_Join bk o c xs sep w h1 h2 h3 h4 h5))
theorem calls_ok (v : Nat → Int) : ∀ f ∈ calls, FCallOK Tryz.prog (sg v) f := by
  have h1 : ∀ i, i < 14 → FCallOK Tryz.prog (sg v) ⟨341, [.sym .u64 (30 + i), .int .i64 10], .opq i⟩ := fun i hi =>
    fu_callOK (g := 341) (gT := 0) (fn := (Tryz.prog.funcs[341]?).getD default) (c := ((Tryz.prog.funcs[341]?).getD default).body.getD .skip) (by kernel_rfl) (by kernel_rfl) (by kernel_rfl) (fun u w hu hT => fu u w hu hT) (powF_at 0) (u := u64N (v i)) (by
      show numF v (30 + i) = _
      unfold numF u64N
      rw [if_neg (by omega), Nat.add_sub_cancel_left, wrap_u64]
      have := Int.emod_nonneg (v i) (show (18446744073709551616 : Int) ≠ 0 by decide)
      omega) (u64N_lt _) (if_pos (by omega))
  unfold calls
  exact all_cons (h1 2 (by omega)) (all_cons (h1 3 (by omega)) (all_cons (h1 4 (by omega)) (all_cons (h1 5 (by omega)) (all_cons (h1 6 (by omega)) (all_cons (h1 9 (by omega)) (all_cons (h1 10 (by omega)) (all_cons (h1 11 (by omega)) (all_cons (h1 12 (by omega)) (all_cons (h1 13 (by omega)) (all_nil))))))))))
theorem convs_ok (v : Nat → Int) : ∀ f ∈ convs, FConvOK (sg v) f := by
  unfold convs
  exact all_cons (conv_num (σ := sg v) rfl rfl rfl) (all_cons (conv_num (σ := sg v) rfl rfl rfl) (all_cons (conv_num (σ := sg v) rfl rfl rfl) (all_cons (conv_num (σ := sg v) rfl rfl rfl) (all_cons (conv_num (σ := sg v) rfl rfl rfl) (all_cons (conv_num (σ := sg v) rfl rfl rfl) (all_cons (conv_num (σ := sg v) rfl rfl rfl) (all_cons (conv_num (σ := sg v) rfl rfl rfl) (all_cons (conv_num (σ := sg v) rfl rfl rfl) (all_cons (conv_num (σ := sg v) rfl rfl rfl) (all_nil))))))))))
def f00 : List Fact := [⟨.neq, .sym .u32 0, .sym .u32 0, .bool false⟩, ⟨.neq, .sym .u32 7, .sym .u32 7, .bool false⟩, ⟨.lss, .sym .u32 0, .sym .u32 7, .bool true⟩, ⟨.gtr, .sym .u32 0, .sym .u32 7, .bool false⟩, ⟨.neq, .opq 20, .opq 20, .bool false⟩, ⟨.neq, .opq 21, .opq 21, .bool false⟩, ⟨.lss, .opq 20, .opq 21, .bool true⟩, ⟨.gtr, .opq 20, .opq 21, .bool false⟩]
theorem run00 : isVR (goT cxX (qk f00) 60 167 args2 ⟨.nil, 0⟩) (.int .i64 (-1)) = true := by kernel_rfl
def f01 : List Fact := [⟨.neq, .sym .u32 0, .sym .u32 0, .bool false⟩, ⟨.neq, .sym .u32 7, .sym .u32 7, .bool false⟩, ⟨.lss, .sym .u32 0, .sym .u32 7, .bool true⟩, ⟨.gtr, .sym .u32 0, .sym .u32 7, .bool false⟩, ⟨.neq, .opq 20, .opq 20, .bool false⟩, ⟨.neq, .opq 21, .opq 21, .bool false⟩, ⟨.lss, .opq 20, .opq 21, .bool false⟩, ⟨.gtr, .opq 20, .opq 21, .bool false⟩]
theorem run01 : isVR (goT cxX (qk f01) 60 167 args2 ⟨.nil, 0⟩) (.int .i64 (-1)) = true := by kernel_rfl
def f02 : List Fact := [⟨.neq, .sym .u32 0, .sym .u32 0, .bool false⟩, ⟨.neq, .sym .u32 7, .sym .u32 7, .bool false⟩, ⟨.lss, .sym .u32 0, .sym .u32 7, .bool true⟩, ⟨.gtr, .sym .u32 0, .sym .u32 7, .bool false⟩, ⟨.neq, .opq 20, .opq 20, .bool false⟩, ⟨.neq, .opq 21, .opq 21, .bool false⟩, ⟨.lss, .opq 20, .opq 21, .bool false⟩, ⟨.gtr, .opq 20, .opq 21, .bool true⟩]
theorem run02 : isVR (goT cxX (qk f02) 60 167 args2 ⟨.nil, 0⟩) (.int .i64 (-1)) = true := by kernel_rfl
def f10 : List Fact := [⟨.neq, .sym .u32 0, .sym .u32 0, .bool false⟩, ⟨.neq, .sym .u32 7, .sym .u32 7, .bool false⟩, ⟨.lss, .sym .u32 0, .sym .u32 7, .bool false⟩, ⟨.gtr, .sym .u32 0, .sym .u32 7, .bool false⟩, ⟨.neq, .opq 20, .opq 20, .bool false⟩, ⟨.neq, .opq 21, .opq 21, .bool false⟩, ⟨.lss, .opq 20, .opq 21, .bool true⟩, ⟨.gtr, .opq 20, .opq 21, .bool false⟩]
theorem run10 : isVR (goT cxX (qk f10) 60 167 args2 ⟨.nil, 0⟩) (.int .i64 (-1)) = true := by kernel_rfl
def f11 : List Fact := [⟨.neq, .sym .u32 0, .sym .u32 0, .bool false⟩, ⟨.neq, .sym .u32 7, .sym .u32 7, .bool false⟩, ⟨.lss, .sym .u32 0, .sym .u32 7, .bool false⟩, ⟨.gtr, .sym .u32 0, .sym .u32 7, .bool false⟩, ⟨.neq, .opq 20, .opq 20, .bool false⟩, ⟨.neq, .opq 21, .opq 21, .bool false⟩, ⟨.lss, .opq 20, .opq 21, .bool false⟩, ⟨.gtr, .opq 20, .opq 21, .bool false⟩]
theorem run11 : isVR (goT cxX (qk f11) 60 167 args2 ⟨.nil, 0⟩) (.int .i64 (0)) = true := by kernel_rfl
def f12 : List Fact := [⟨.neq, .sym .u32 0, .sym .u32 0, .bool false⟩, ⟨.neq, .sym .u32 7, .sym .u32 7, .bool false⟩, ⟨.lss, .sym .u32 0, .sym .u32 7, .bool false⟩, ⟨.gtr, .sym .u32 0, .sym .u32 7, .bool false⟩, ⟨.neq, .opq 20, .opq 20, .bool false⟩, ⟨.neq, .opq 21, .opq 21, .bool false⟩, ⟨.lss, .opq 20, .opq 21, .bool false⟩, ⟨.gtr, .opq 20, .opq 21, .bool true⟩]
theorem run12 : isVR (goT cxX (qk f12) 60 167 args2 ⟨.nil, 0⟩) (.int .i64 (1)) = true := by kernel_rfl
def f20 : List Fact := [⟨.neq, .sym .u32 0, .sym .u32 0, .bool false⟩, ⟨.neq, .sym .u32 7, .sym .u32 7, .bool false⟩, ⟨.lss, .sym .u32 0, .sym .u32 7, .bool false⟩, ⟨.gtr, .sym .u32 0, .sym .u32 7, .bool true⟩, ⟨.neq, .opq 20, .opq 20, .bool false⟩, ⟨.neq, .opq 21, .opq 21, .bool false⟩, ⟨.lss, .opq 20, .opq 21, .bool true⟩, ⟨.gtr, .opq 20, .opq 21, .bool false⟩]
theorem run20 : isVR (goT cxX (qk f20) 60 167 args2 ⟨.nil, 0⟩) (.int .i64 (1)) = true := by kernel_rfl
def f21 : List Fact := [⟨.neq, .sym .u32 0, .sym .u32 0, .bool false⟩, ⟨.neq, .sym .u32 7, .sym .u32 7, .bool false⟩, ⟨.lss, .sym .u32 0, .sym .u32 7, .bool false⟩, ⟨.gtr, .sym .u32 0, .sym .u32 7, .bool true⟩, ⟨.neq, .opq 20, .opq 20, .bool false⟩, ⟨.neq, .opq 21, .opq 21, .bool false⟩, ⟨.lss, .opq 20, .opq 21, .bool false⟩, ⟨.gtr, .opq 20, .opq 21, .bool false⟩]
theorem run21 : isVR (goT cxX (qk f21) 60 167 args2 ⟨.nil, 0⟩) (.int .i64 (1)) = true := by kernel_rfl
def f22 : List Fact := [⟨.neq, .sym .u32 0, .sym .u32 0, .bool false⟩, ⟨.neq, .sym .u32 7, .sym .u32 7, .bool false⟩, ⟨.lss, .sym .u32 0, .sym .u32 7, .bool false⟩, ⟨.gtr, .sym .u32 0, .sym .u32 7, .bool true⟩, ⟨.neq, .opq 20, .opq 20, .bool false⟩, ⟨.neq, .opq 21, .opq 21, .bool false⟩, ⟨.lss, .opq 20, .opq 21, .bool false⟩, ⟨.gtr, .opq 20, .opq 21, .bool true⟩]
theorem run22 : isVR (goT cxX (qk f22) 60 167 args2 ⟨.nil, 0⟩) (.int .i64 (1)) = true := by kernel_rfl
theorem cmp_v (v : Nat → Int) {l : List Fact} (hl : ∀ f ∈ l, FactOK Tryz.prog (sg v) f) {r : Int} (hr : isVR (goT cxX (qk l) 60 167 args2 ⟨.nil, 0⟩) (.int .i64 r) = true) {A : List Value} (hA : concs (noEnv (sg v)) args2 = some A) (w : World) (hg : TabOK 0 w) :
    Calls Tryz.prog 167 ⟨A⟩ w fun e w' => e = .returned (.int .i64 r) ∧ RowKit.Below w.heap.size w w' := by
  obtain ⟨h', hr⟩ := isV_inv hr
  obtain ⟨_, h2⟩ := goT_sound (progOK_W asked hl (convs_ok v) bytes_nil all_nil all_nil (calls_ok v) globs_nil (sums_okX v)) hr
  refine Calls.mono (h2 (noEnv (sg v)) w.heap.size w w A rfl hA (rel_none (σ := sg v) hg 0) (fun _ _ _ => rfl)).2 fun e w' hh => ?_
  obtain ⟨V, rfl, E', hV, hpost⟩ := hh
  simp only [conc, Option.some.injEq] at hV
  subst hV
  exact ⟨rfl, hpost.rel.below⟩
theorem facts_v (v : Nat → Int) (b1 b2 b3 b4 : Bool) (h1 : decide (v 0 < v 7) = b1) (h2 : decide (v 0 > v 7) = b2) (h3 : strLess (textB [u64N (v 2), u64N (v 3), u64N (v 4), u64N (v 5), u64N (v 6)]) (textB [u64N (v 9), u64N (v 10), u64N (v 11), u64N (v 12), u64N (v 13)]) = b3) (h4 : (!(strLess (textB [u64N (v 2), u64N (v 3), u64N (v 4), u64N (v 5), u64N (v 6)]) (textB [u64N (v 9), u64N (v 10), u64N (v 11), u64N (v 12), u64N (v 13)]) || strEq (textB [u64N (v 2), u64N (v 3), u64N (v 4), u64N (v 5), u64N (v 6)]) (textB [u64N (v 9), u64N (v 10), u64N (v 11), u64N (v 12), u64N (v 13)]))) = b4) :
    ∀ f ∈ ([⟨.neq, .sym .u32 0, .sym .u32 0, .bool false⟩, ⟨.neq, .sym .u32 7, .sym .u32 7, .bool false⟩, ⟨.lss, .sym .u32 0, .sym .u32 7, .bool b1⟩, ⟨.gtr, .sym .u32 0, .sym .u32 7, .bool b2⟩, ⟨.neq, .opq 20, .opq 20, .bool false⟩, ⟨.neq, .opq 21, .opq 21, .bool false⟩, ⟨.lss, .opq 20, .opq 21, .bool b3⟩, ⟨.gtr, .opq 20, .opq 21, .bool b4⟩] : List Fact), FactOK Tryz.prog (sg v) f :=
  all_cons (fact_neq_f (σ := sg v) rfl rfl rfl) (all_cons (fact_neq_f (σ := sg v) rfl rfl rfl)
    (all_cons (fact_cmp (σ := sg v) (a := v 0) (b := v 7) rfl rfl (by simp only [cmpI, intLt_eq]; exact h1) rfl) (all_cons (fact_cmp (σ := sg v) (a := v 0) (b := v 7) rfl rfl (by simp only [cmpI, intLt_eq]; exact h2) rfl)
    (all_cons (fact_str (σ := sg v) (a := textB [u64N (v 2), u64N (v 3), u64N (v 4), u64N (v 5), u64N (v 6)]) (b := textB [u64N (v 2), u64N (v 3), u64N (v 4), u64N (v 5), u64N (v 6)]) rfl rfl (by simp [binStr, strEq_eq])) (all_cons (fact_str (σ := sg v) (a := textB [u64N (v 9), u64N (v 10), u64N (v 11), u64N (v 12), u64N (v 13)]) (b := textB [u64N (v 9), u64N (v 10), u64N (v 11), u64N (v 12), u64N (v 13)]) rfl rfl (by simp [binStr, strEq_eq]))
    (all_cons (fact_str (σ := sg v) (a := textB [u64N (v 2), u64N (v 3), u64N (v 4), u64N (v 5), u64N (v 6)]) (b := textB [u64N (v 9), u64N (v 10), u64N (v 11), u64N (v 12), u64N (v 13)]) rfl rfl (by simp only [binStr, h3])) (all_cons (fact_str (σ := sg v) (a := textB [u64N (v 2), u64N (v 3), u64N (v 4), u64N (v 5), u64N (v 6)]) (b := textB [u64N (v 9), u64N (v 10), u64N (v 11), u64N (v 12), u64N (v 13)]) rfl rfl (by simp only [binStr, h4])) all_nil)))))))
def vE (x y : Ent) (i : Nat) : Int := [x.seq, x.view, x.cl, x.ts, x.kd, x.ky, x.vl, y.seq, y.view, y.cl, y.ts, y.kd, y.ky, y.vl].getD i 0
/-- pq.compare: by places, then by texts. -/
theorem cmp_calls (x y : Ent) (w : World) (hg : TabOK 0 w) :
    Calls Tryz.prog 167 #[.agg x.row.toArray, .agg y.row.toArray] w fun e w' => e = .returned (.int .i64 (cfE x y)) ∧ RowKit.Below w.heap.size w w' := by
  have hA : concs (noEnv (sg (vE x y))) args2 = some [.agg x.row.toArray, .agg y.row.toArray] := rfl
  have key : ∀ b1 b2 b3 b4 : Bool, decide (x.seq < y.seq) = b1 → decide (x.seq > y.seq) = b2 → strLess (txE x) (txE y) = b3 → (!(strLess (txE x) (txE y) || strEq (txE x) (txE y))) = b4 → Calls Tryz.prog 167 #[.agg x.row.toArray, .agg y.row.toArray] w fun e w' => e = .returned (.int .i64 (if b1 then -1 else if b2 then 1 else if b3 then -1 else if b4 then 1 else 0)) ∧ RowKit.Below w.heap.size w w' := by
    intro b1 b2 b3 b4 h1 h2 h3 h4
    have F := facts_v (vE x y) b1 b2 b3 b4 h1 h2 h3 h4
    have n1 : ¬ (b1 = true ∧ b2 = true) := by
      rintro ⟨rfl, rfl⟩
      have := of_decide_eq_true h1; have := of_decide_eq_true h2; omega
    have n2 : ¬ (b3 = true ∧ b4 = true) := by
      rintro ⟨rfl, rfl⟩
      rw [h3] at h4; simp at h4
    cases b1 <;> cases b2 <;> cases b3 <;> cases b4 <;> first | exact absurd ⟨rfl, rfl⟩ n1 | exact absurd ⟨rfl, rfl⟩ n2 | skip
    · exact cmp_v _ F run11 hA w hg
    · exact cmp_v _ F run12 hA w hg
    · exact cmp_v _ F run10 hA w hg
    · exact cmp_v _ F run21 hA w hg
    · exact cmp_v _ F run22 hA w hg
    · exact cmp_v _ F run20 hA w hg
    · exact cmp_v _ F run01 hA w hg
    · exact cmp_v _ F run02 hA w hg
    · exact cmp_v _ F run00 hA w hg
  refine (key _ _ _ _ rfl rfl rfl rfl).mono fun e w' ⟨he, hw⟩ => ⟨by
    rw [he]; congr 2
    unfold cfE
    by_cases e1 : x.seq < y.seq
    · simp [e1]
    · by_cases e2 : x.seq > y.seq
      · simp [e1, e2]
      · simp only [e1, e2, decide_false, if_false, Bool.false_eq_true]
        cases strLess (txE x) (txE y) <;> cases strEq (txE x) (txE y) <;> rfl, hw⟩
theorem egC : ∀ args w, (callFunc 167 args).run Tryz.prog w = .ok (.enter 167 args) w := enters_of Tryz.func167 (by kernel_rfl) rfl
theorem hlen (n : Nat) (W : World) (h : n ≤ 12) : Calls Tryz.prog 264 #[.int .u64 n] W fun e w' => (∃ l : Int, e = .returned (.int .i64 l)) ∧ w' = W := (Tryz.bits_Len n W (by omega) (by omega)).mono fun _ _ ⟨he, hw⟩ => ⟨⟨_, he⟩, hw⟩
theorem infoE : (Tryz.prog.info? 42).map (fun i => (i.zero, i.size, i.bytes)) = some (some (.agg #[.int .u32 0, .int .u32 0, .int .u8 0, .int .u32 0, .int .u8 0, .int .u8 0, .int .u16 0]), 7, 20) := by kernel_rfl
set_option maxHeartbeats 1000000 in
/-- Q: what was seen, in order. -/
theorem Q_calls : QCon Tryz.prog 0 64 1 42 := by
  intro w bs os bm clock es en L hS hm hold hnd hsz hk hT h0s hL hLs
  have hrg := run_range_map (P := Tryz.prog) w 201 205 24 bm es clock (by kernel_rfl) hm
  have hbl : bm < w.heap.size := (Array.getElem?_eq_some_iff.1 hm).1
  have HK := Lib.hid hk
  have HO := Lib.hid hold
  have HN := Lib.hid hnd
  have HM := Lib.hid hm
  have HZ := Lib.hid hsz
  have HT := Lib.hid hT
  have HL := Lib.hid hL
  have HLS := Lib.hid hLs
  have HP := Lib.hid h0s
  clear hk hold hnd hm hsz hT hL hLs h0s
  go_enter Tryz.func64, Tryz.ntmps64
  go_wp2
  go_loopw [3] (fun v wr => ∃ (X : List Nat) (c0 : Nat), QHead 42 w bm clock es en X c0 v wr) (fun _ wr => mleft es w.heap.size wr)
  case atStart =>
    exact ⟨[], clock, ⟨Go.heap_alloc_new _ _, Nat.le_refl _, (RowKit.Below.heap_alloc _ _ _ hbl).trans HM.out, by simp, by simp, World.ownsRow_nil _ _ _ _, (RowKit.Below.refl _ _).alloc (Nat.le_refl _) _⟩⟩
  case round =>
    obtain ⟨X, c0, H⟩ := hrel
    have hXl : X.length ≤ 12 := Nat.le_trans (by simpa using len_le_of_sub H.nd H.sub) HZ.out
    have hRl : w.heap.size < wr.heap.size := (Array.getElem?_eq_some_iff.1 H.it).1
    go_wp2_with (first
      | (at_next; refine wpList_next_at _ rfl _ rfl w.heap.size bm clock c0 _ es clock rfl H.it H.mp HO.out H.le HN.out (by omega) ?_ ?_)
      | go_in)
    · intro h0
      have H0 := Lib.hid h0
      clear h0
      have hperm : X.Perm (es.toList.map (·.born)) := perm_of_all H.nd HN.out H.sub fun b hb => by
        obtain ⟨x, hx, rfl⟩ := List.mem_map.1 hb
        have := all_seen es X.toArray (by rw [H0.out]; rfl) x hx
        simpa using this
      have hlenX : X.length = es.size := by have := hperm.length_eq; simpa using this
      have hXp : 0 < X.length := by rw [hlenX]; exact HP.out
      have hX12 : X.length ≤ 12 := by rw [hlenX]; exact HZ.out
      have HPM := Lib.hid hperm
      have HLN := Lib.hid hlenX
      clear hperm hlenX
      obtain ⟨g, cap, rfl, hbg, hgl⟩ := own_form H.own hXp
      have hown : wr.ownsRow (w.heap.size + 1) 42 7 (.slice (some ⟨g, 0, none⟩) (X.map en).length cap) (X.map en).length (rowsOf (X.map en)) := by
        rw [List.length_map]; exact H.own
      have hsz1 : (X.map en).toArray.size = X.length := by simp
      have hTr : TabOK 0 wr := fun g j v h => ⟨Nat.lt_of_lt_of_le (HT.out g j v h).1 H.bel.size, by rw [H.bel.cell (p := ⟨g, j, none⟩) (HT.out g j v h).1]; exact (HT.out g j v h).2⟩
      have hg0 : g ≠ 0 := fun e => by have := (HT.out 0 0 _ (powF_at 0 0 (by decide))).1; omega
      have hsort := sortB_sorted (P := Tryz.prog) Tryz.sortEnt 7 (fun _ => by kernel_rfl) (fun _ => by kernel_rfl) Ent.row (fun _ => rfl) entE_one cfE 167 #[] swoE g 0 cap (X.map en).toArray wr egC (cmpB cmp_calls wr hTr g 0 _ hg0) (holds_own hown) hgl (by rw [hsz1]; exact hX12) hlen
      rw [hsz1] at hsort
      have HSO := Lib.hid hsort
      have HTR := Lib.hid hTr
      have HG0 := Lib.hid hg0
      have HS1 := Lib.hid hsz1
      clear hsort hTr hg0 hsz1
      go_wp2_with (go_at_call 166; refine (HSO.out).mono ?_; rintro e w' ⟨rfl, d', n', os', hp, hs, rfl⟩)
      have hd' : d'.size = X.length := by rw [hp.1]; exact HS1.out
      have hd2 : d'.toList = L := by
        have p1 : d'.toList.Perm (X.map en) := by
          have := hp.2.2
          have e1 : (X.map en).toArray.extract 0 X.length = (X.map en).toArray := by rw [← HS1.out]; exact Array.extract_size
          have e2 : d'.extract 0 X.length = d' := by rw [← hd']; exact Array.extract_size
          rw [e1, e2] at this
          exact this
        have p2 : (X.map en).Perm L := (by have := HPM.out.map en; rw [List.map_map] at this; exact this : (X.map en).Perm (es.toList.map fun e => en e.born)).trans HL.out
        refine sorted_one (lt := fun x y => ltOf cfE x y = true) (fun a => by rw [swoE.irrefl]; simp) (fun a b c => swoE.trans a b c) (p1.trans p2) ?_ HLS.out
        rw [List.pairwise_iff_getElem]
        intro i j hi hj hij
        have hj' : j < d'.size := by simpa using hj
        have := hs i j (Nat.zero_le _) hij (by rw [← hd']; exact hj')
        rw [getElem!_pos d' i (by omega), getElem!_pos d' j hj'] at this
        show ¬ ltOf cfE d'[j] d'[i] = true
        rw [this]; exact Bool.false_ne_true
      go_ret
      have hn : X.length = L.length := by rw [← hd2, Array.length_toList]; exact hd'.symm
      refine ⟨g, cap, by rw [← hn]; rfl, ?_, H.bel.trans (below_sorted (te := 42) (by omega) H.bel.size)⟩
      have := own_sorted (m := n') (d := d') (os := os') hown (by rw [hd']; simp) (by simp; omega)
      rw [hd2, List.length_map, hn] at this
      exact own_mono this (by omega)
    · intro e he w2 hi2 hg2 hs2 hen
      have HS2 := Lib.hid hs2
      have HI2 := Lib.hid hi2
      clear hs2 hi2
      obtain ⟨hes, hns⟩ := mem_left (Array.mem_toList_iff.2 he)
      obtain ⟨hkey, hev⟩ := HK.out e hes
      rw [hkey, hev] at hen ⊢
      have HNS := Lib.hid hns
      have HEV := Lib.hid hev
      have HKY := Lib.hid hkey
      clear hns hev hkey
      obtain ⟨i0, hi, hz0, hz1, hz2⟩ := info_parts infoE
      have hown2 : w2.ownsRow (w.heap.size + 1) 42 7 u3 X.length (rowsOf (X.map en)) := H.own.kept hg2 (by
        cases hb : u3.ownBlock with
        | none => exact .inl rfl
        | some g => right; intro e2; have := (H.own.lt g hb).1; cases e2; omega)
      go_wp2_with (first
        | (at_builtin; refine wpList_append_own_at _ rfl _ _ 32 rfl (w.heap.size + 1) 42 i0 _ 7 20 (by kernel_rfl) hi hz0 hz1 hz2 rfl (by decide) _ _ _ rfl ((hown2.alloc _).alloc _) ⟨w2.heap.size + 1, 0, none⟩ 1 1 (en e.born).row rfl rfl ?c1 ?c2 ?c3 ?c4 ?c5 ?_)
        | go_in)
      case c1 =>
        intro j u hj
        have e0 : (⟨w2.heap.size + 1, 0, none⟩ : Addr).add j = ⟨w2.heap.size + 1, j, none⟩ := by unfold Addr.add; split <;> simp_all
        rw [e0, World.cell?_alloc2_new]
        simpa [Ent.row] using hj
      case c2 => intro u hu; simp [Ent.row] at hu; rcases hu with rfl | rfl | rfl | rfl | rfl | rfl | rfl <;> rfl
      case c3 => unfold maxLen; omega
      case c4 => omega
      case c5 => have := HS2.out; simp; omega
      intro v' w3 hown3 hg3 hnil3 hat3
      go_wp2
      have hold3 : ∀ k, k < w2.heap.size → u3.ownBlock ≠ some k → w3.heap[k]? = w2.heap[k]? := fun k hk1 hk2 => by
        rw [hg3.block k (by simp; omega) (Ne.symm hk2), RowKit.Below.heap_alloc _ _ _ (by simp; omega), RowKit.Below.heap_alloc _ _ _ hk1]
      have hnR : u3.ownBlock ≠ some w.heap.size := fun e2 => by have := (H.own.lt _ e2).1; omega
      have hnM : u3.ownBlock ≠ some bm := fun e2 => by have := (H.own.lt _ e2).1; omega
      have hs2 := HS2.out
      have hpush : X.toArray.push e.born = (X ++ [e.born]).toArray := by simp
      have hit3 : w3.heap[w.heap.size]? = some (.mapIter (some bm) clock (X ++ [e.born]).toArray clock) := by
        rw [hold3 _ (by omega) hnR, HI2.out]
      go_roundw
      case rel =>
        refine ⟨X ++ [e.born], clock, hit3, Nat.le_refl _, ?_, ?_, ?_, ?_, ?_⟩
        · rw [hold3 _ (by omega) hnM, hg2.block bm (by omega) (fun e2 => by cases e2; omega)]; exact H.mp
        · intro b hb
          rcases List.mem_append.1 hb with h | h
          · exact H.sub b h
          · rw [List.mem_singleton.1 h]; exact List.mem_map_of_mem hes
        · rw [List.nodup_append]
          refine ⟨H.nd, by simp, fun a ha b hb => ?_⟩
          rw [List.mem_singleton.1 hb]
          intro e2; subst e2
          have := HNS.out
          simp at this
          exact this ha
        · simpa [rowsOf] using hown3
        · refine RowKit.Below.grown ((RowKit.Below.alloc (RowKit.Below.alloc (H.bel.grown hg2 H.bel.size (fun k hk => by cases hk; exact Nat.le_refl _)) (by omega) _) (by simp; omega) _)) hg3 (by simp; omega) fun k hk => ?_
          have := (H.own.lt k hk).1
          omega
      case measure =>
        rw [mleft_eq hit3, mleft_eq H.it, ← hpush]
        exact left_shrinks es _ e (Array.mem_toList_iff.2 he)
#print axioms Q_calls
end PqS
noncomputable def sumsQ : Tr Sum := sums.set 64 (qSum 1 (runSum Tryz.prog plan sums 64))
theorem sumsQ_ok {w : World} (hT : ∀ q, q < 20 → w.cell? ⟨0, q, none⟩ = some (.int .u64 ((10 ^ q : Nat) : Int))) {σ : Val} (hσ : σ.glob = glOf w) : ∀ g s, sumsQ.get g = some s → SumOK Tryz.prog σ g s :=
  setSum_ok sums_ok (q_sumOK (fn := (Tryz.prog.funcs[64]?).getD default) (c := ((Tryz.prog.funcs[64]?).getD default).body.getD .skip) (by kernel_rfl) (by kernel_rfl) (by kernel_rfl) PqS.Q_calls (glOf_pow hT hσ) (runSum_ok asked sums_ok 64))
noncomputable def cxQ : Cx := cxW Tryz.prog plan .nil sumsQ
#print axioms sumsQ_ok
end Go.Proofs.YtnccccpjhoaikaaGreatDoor
