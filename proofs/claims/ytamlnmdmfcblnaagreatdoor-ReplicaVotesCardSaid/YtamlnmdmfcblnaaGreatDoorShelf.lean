/- strings.Join at this dump, by the shelf's contract (laid by the shelf's own plain mode). No premise of its own. -/
import Derived.Shelf.Strings.OnBuilder
import Derived.Test.YtamlnmdmfcblnaaGreatDoorProg
namespace Go.Proofs
open Go.Shelf
def Tryz.lays156_ren : Go.Shelf.Ren := ⟨fun | 156 => 275 | 165 => 309 | 166 => 310 | 169 => 311 | 240 => 324 | 241 => 325 | 276 => 332 | 277 => 333 | n => n, fun | 31 => 311 | 9 => 9 | 3 => 3 | 4 => 4 | 0 => 0 | 20 => 20 | 72 => 347 | 76 => 350 | 70 => 345 | 37 => 43 | 75 => 349 | 127 => 367 | 164 => 375 | 5 => 5 | 80 => 352 | n => n, fun | n => n⟩
theorem Tryz.lays156 : Go.Proofs.Lays.n156 Tryz.prog Tryz.lays156_ren := {
  mixed := by kernel_rfl
  f156 := Tryz.func275.trans (congrArg some (by kernel_rfl))
  f165 := Tryz.func309.trans (congrArg some (by kernel_rfl))
  f166 := Tryz.func310.trans (congrArg some (by kernel_rfl))
  f169 := Tryz.func311.trans (congrArg some (by kernel_rfl))
  f240 := Tryz.func324.trans (congrArg some (by kernel_rfl))
  f241 := Tryz.func325.trans (congrArg some (by kernel_rfl))
  f276 := Tryz.func332.trans (congrArg some (by kernel_rfl))
  f277 := Tryz.func333.trans (congrArg some (by kernel_rfl))
  t0 := Tryz.underlying0
  a0 := Tryz.isAgg0
  z0 := Tryz.sizeOf0
  v0 := Tryz.zeroValue0
  t3 := Tryz.underlying3
  a3 := Tryz.isAgg3
  z3 := Tryz.sizeOf3
  v3 := Tryz.zeroValue3
  t4 := Tryz.underlying4
  a4 := Tryz.isAgg4
  z4 := Tryz.sizeOf4
  v4 := Tryz.zeroValue4
  t9 := Tryz.underlying9
  a9 := Tryz.isAgg9
  z9 := Tryz.sizeOf9
  v9 := Tryz.zeroValue9
  t20 := Tryz.underlying20
  a20 := Tryz.isAgg20
  z20 := Tryz.sizeOf20
  v20 := Tryz.zeroValue20
  t31 := Tryz.underlying311
  a31 := Tryz.isAgg311
  z31 := Tryz.sizeOf311
  v31 := Tryz.zeroValue311
  t37 := Tryz.underlying43
  a37 := Tryz.isAgg43
  z37 := Tryz.sizeOf43
  v37 := Tryz.zeroValue43
  t70 := Tryz.underlying345
  a70 := Tryz.isAgg345
  z70 := Tryz.sizeOf345
  v70 := Tryz.zeroValue345
  t72 := Tryz.underlying347
  a72 := Tryz.isAgg347
  z72 := Tryz.sizeOf347
  v72 := Tryz.zeroValue347
  t75 := Tryz.underlying349
  a75 := Tryz.isAgg349
  z75 := Tryz.sizeOf349
  v75 := Tryz.zeroValue349
  t76 := Tryz.underlying350
  a76 := Tryz.isAgg350
  z76 := Tryz.sizeOf350
  v76 := Tryz.zeroValue350
  t127 := Tryz.underlying367
  a127 := Tryz.isAgg367
  z127 := Tryz.sizeOf367
  v127 := Tryz.zeroValue367
  t164 := Tryz.underlying375
  a164 := Tryz.isAgg375
  z164 := Tryz.sizeOf375
  v164 := Tryz.zeroValue375 }
theorem Tryz.Builder_Extra_156 : Builder.Extra Tryz.prog Tryz.lays156_ren := {
  sizeBuilder := by kernel_rfl
  liesBuilder := by kernel_rfl
  t5 := Tryz.underlying5
  a5 := Tryz.isAgg5
  z5 := Tryz.sizeOf5
  v5 := Tryz.zeroValue5
  infoByte := by kernel_rfl
  cellsByte := by kernel_rfl
  sizeByte := by kernel_rfl
  neB5 := by decide }
open Go.RowKit in
/-- No element: the empty string; the world is as it was. (Whatever the slice's address and capacity: a nil slice too.) (LAID: no walk: one application.) -/
theorem Tryz.strings_Join_none (a : Option Addr) (c : Nat) (sep : ByteArray) (w : World) :
    Calls Tryz.prog 275 #[.slice a 0 c, .string sep] w fun e w' => e = .returned (.string ⟨#[]⟩) ∧ w' = w := Any.strings_Join_none Tryz.lays156 Tryz.Builder_Extra_156 a c sep w
open Go.RowKit in
/-- strings.Join: "Join concatenates the elements of its first argument to create a single string. The separator string sep is placed between elements in the resulting string.": HOWEVER MANY ELEMENTS. Below the heap's end the world is as it was. (LAID: no walk: one application.) -/
theorem Tryz.strings_Join (bk o c : Nat) (xs : List ByteArray) (sep : ByteArray) (w : World) (hcells : ∀ (j : Nat) x, xs[j]? = some x → w.cell? ⟨bk, o + j, none⟩ = some (.string x)) (hbk : bk < w.heap.size) (hN : xs.length ≤ 140737488355328) (hcap : xs.length ≤ c) (hlen : (Lib.join (xs.map (·.data.toList)) sep.data.toList).length ≤ 140737488355328) :
    Calls Tryz.prog 275 #[.slice (some ⟨bk, o, none⟩) xs.length c, .string sep] w fun e w' => e = .returned (.string ⟨(Lib.join (xs.map (·.data.toList)) sep.data.toList).toArray⟩) ∧ Below w.heap.size w w' := Any.strings_Join Tryz.lays156 Tryz.Builder_Extra_156 bk o c xs sep w hcells hbk hN hcap hlen
end Go.Proofs
