/- strings.Join at this dump, by the shelf's contract (laid by the shelf's own plain mode). No premise of its own. -/
import Derived.Shelf.Strings.OnBuilder
import Derived.Test.YtnccccpjhoaikaaGreatDoorProg
namespace Go.Proofs
open Go.Shelf
def Tryz.lays156_ren : Go.Shelf.Ren := ⟨fun | 156 => 342 | 165 => 378 | 166 => 379 | 169 => 380 | 240 => 405 | 241 => 406 | 276 => 416 | 277 => 417 | n => n, fun | 31 => 372 | 9 => 9 | 3 => 3 | 4 => 4 | 0 => 0 | 20 => 20 | 72 => 404 | 76 => 407 | 70 => 402 | 37 => 37 | 75 => 406 | 127 => 430 | 164 => 440 | 5 => 5 | 80 => 409 | n => n, fun | n => n⟩
theorem Tryz.lays156 : Go.Proofs.Lays.n156 Tryz.prog Tryz.lays156_ren := {
  mixed := by kernel_rfl
  f156 := Tryz.func342.trans (congrArg some (by kernel_rfl))
  f165 := Tryz.func378.trans (congrArg some (by kernel_rfl))
  f166 := Tryz.func379.trans (congrArg some (by kernel_rfl))
  f169 := Tryz.func380.trans (congrArg some (by kernel_rfl))
  f240 := Tryz.func405.trans (congrArg some (by kernel_rfl))
  f241 := Tryz.func406.trans (congrArg some (by kernel_rfl))
  f276 := Tryz.func416.trans (congrArg some (by kernel_rfl))
  f277 := Tryz.func417.trans (congrArg some (by kernel_rfl))
  t0 := Tryz.underlying0
  a0 := Tryz.isAgg0
  z0 := Tryz.sizeOf0
  v0 := Tryz.zeroValue0
  t3 := Tryz.underlying3
  a3 := Tryz.isAgg3
  z3 := Tryz.sizeOf3
  v3 := Tryz.zeroValue3
  t4 := Tryz.underlying4
  a4 := Tryz.isAgg4
  z4 := Tryz.sizeOf4
  v4 := Tryz.zeroValue4
  t9 := Tryz.underlying9
  a9 := Tryz.isAgg9
  z9 := Tryz.sizeOf9
  v9 := Tryz.zeroValue9
  t20 := Tryz.underlying20
  a20 := Tryz.isAgg20
  z20 := Tryz.sizeOf20
  v20 := Tryz.zeroValue20
  t31 := Tryz.underlying372
  a31 := Tryz.isAgg372
  z31 := Tryz.sizeOf372
  v31 := Tryz.zeroValue372
  t37 := Tryz.underlying37
  a37 := Tryz.isAgg37
  z37 := Tryz.sizeOf37
  v37 := Tryz.zeroValue37
  t70 := Tryz.underlying402
  a70 := Tryz.isAgg402
  z70 := Tryz.sizeOf402
  v70 := Tryz.zeroValue402
  t72 := Tryz.underlying404
  a72 := Tryz.isAgg404
  z72 := Tryz.sizeOf404
  v72 := Tryz.zeroValue404
  t75 := Tryz.underlying406
  a75 := Tryz.isAgg406
  z75 := Tryz.sizeOf406
  v75 := Tryz.zeroValue406
  t76 := Tryz.underlying407
  a76 := Tryz.isAgg407
  z76 := Tryz.sizeOf407
  v76 := Tryz.zeroValue407
  t127 := Tryz.underlying430
  a127 := Tryz.isAgg430
  z127 := Tryz.sizeOf430
  v127 := Tryz.zeroValue430
  t164 := Tryz.underlying440
  a164 := Tryz.isAgg440
  z164 := Tryz.sizeOf440
  v164 := Tryz.zeroValue440 }
theorem Tryz.Builder_Extra_156 : Builder.Extra Tryz.prog Tryz.lays156_ren := {
  sizeBuilder := by kernel_rfl
  liesBuilder := by kernel_rfl
  t5 := Tryz.underlying5
  a5 := Tryz.isAgg5
  z5 := Tryz.sizeOf5
  v5 := Tryz.zeroValue5
  infoByte := by kernel_rfl
  cellsByte := by kernel_rfl
  sizeByte := by kernel_rfl
  neB5 := by decide }
open Go.RowKit in
/-- No element: the empty string; the world is as it was. (Whatever the slice's address and capacity: a nil slice too.) (LAID: no walk: one application.) -/
theorem Tryz.strings_Join_none (a : Option Addr) (c : Nat) (sep : ByteArray) (w : World) :
    Calls Tryz.prog 342 #[.slice a 0 c, .string sep] w fun e w' => e = .returned (.string ⟨#[]⟩) ∧ w' = w := Any.strings_Join_none Tryz.lays156 Tryz.Builder_Extra_156 a c sep w
open Go.RowKit in
/-- strings.Join: "Join concatenates the elements of its first argument to create a single string. The separator string sep is placed between elements in the resulting string.": HOWEVER MANY ELEMENTS. Below the heap's end the world is as it was. (LAID: no walk: one application.) -/
theorem Tryz.strings_Join (bk o c : Nat) (xs : List ByteArray) (sep : ByteArray) (w : World) (hcells : ∀ (j : Nat) x, xs[j]? = some x → w.cell? ⟨bk, o + j, none⟩ = some (.string x)) (hbk : bk < w.heap.size) (hN : xs.length ≤ 140737488355328) (hcap : xs.length ≤ c) (hlen : (Lib.join (xs.map (·.data.toList)) sep.data.toList).length ≤ 140737488355328) :
    Calls Tryz.prog 342 #[.slice (some ⟨bk, o, none⟩) xs.length c, .string sep] w fun e w' => e = .returned (.string ⟨(Lib.join (xs.map (·.data.toList)) sep.data.toList).toArray⟩) ∧ Below w.heap.size w w' := Any.strings_Join Tryz.lays156 Tryz.Builder_Extra_156 bk o c xs sep w hcells hbk hN hcap hlen
end Go.Proofs
