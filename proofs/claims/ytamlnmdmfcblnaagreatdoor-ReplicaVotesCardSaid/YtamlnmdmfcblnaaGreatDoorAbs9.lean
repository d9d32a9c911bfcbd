/- Texts of numbers: which numbers they are can be told from them; strings.Join over strings of which no byte is known; strconv.FormatUint as a known call. No premise of its own. -/
import Derived.Test.YtamlnmdmfcblnaaGreatDoorAbs8
import Derived.Lib.ItoaMem
import Derived.Lib.Join
import Derived.Shelf.Strconv.Itoa3
import Derived.Shelf.SlSorted.Search
set_option linter.unusedVariables false
set_option linter.unusedSimpArgs false
namespace Go.Abs
open Go.Lib

/-! ## a text of numbers: which numbers they are can be told from it -/
def digVal (l : List UInt8) : Nat := l.foldl (fun a c => 10 * a + (c.toNat - 48)) 0
theorem digVal_dec (u : Nat) : digVal (decDigits u) = u := by
  induction u using Nat.strongRecOn with
  | _ u ih =>
    by_cases h : u < 10
    · rw [decDigits, dif_pos h]
      simp [digVal, UInt8.toNat_ofNat']
      omega
    · rw [decDigits, dif_neg h]
      have := ih (u / 10) (by omega)
      unfold digVal at this ⊢
      rw [List.foldl_append, this]
      simp [UInt8.toNat_ofNat']
      omega
theorem dec_inj {u v : Nat} (h : decDigits u = decDigits v) : u = v := by rw [← digVal_dec u, h, digVal_dec]
theorem dec_no (u : Nat) : ∀ c ∈ decDigits u, c ≠ 58 := by
  induction u using Nat.strongRecOn with
  | _ u ih =>
    intro c hc
    by_cases h : u < 10
    · rw [decDigits, dif_pos h] at hc
      simp at hc; subst hc
      intro e
      have := congrArg UInt8.toNat e
      simp [UInt8.toNat_ofNat'] at this
      omega
    · rw [decDigits, dif_neg h] at hc
      rcases List.mem_append.1 hc with hc | hc
      · exact ih _ (by omega) c hc
      · simp at hc; subst hc
        intro e
        have := congrArg UInt8.toNat e
        simp [UInt8.toNat_ofNat'] at this
        omega
theorem split_at {s t : List UInt8} (hs : ∀ c, s.head? = some c → c = 58) (ht : ∀ c, t.head? = some c → c = 58) : ∀ {x y : List UInt8}, (∀ c ∈ x, c ≠ 58) → (∀ c ∈ y, c ≠ 58) → x ++ s = y ++ t → x = y ∧ s = t
  | [], [], _, _, h => ⟨rfl, h⟩
  | a :: x, [], hx, _, h => by
    simp at h
    exact absurd (ht a (by rw [← h]; rfl)) (hx a (by simp))
  | [], b :: y, _, hy, h => by
    simp at h
    exact absurd (hs b (by rw [h]; rfl)) (hy b (by simp))
  | a :: x, b :: y, hx, hy, h => by
    simp at h
    obtain ⟨h1, h2⟩ := split_at hs ht (fun c hc => hx c (by simp [hc])) (fun c hc => hy c (by simp [hc])) h.2
    exact ⟨by rw [h.1, h1], h2⟩
theorem tail_inj : ∀ {l m : List Nat}, joinTail [58] (l.map decDigits) = joinTail [58] (m.map decDigits) → l = m
  | [], [], _ => rfl
  | [], b :: m, h => by simp [joinTail] at h
  | a :: l, [], h => by simp [joinTail] at h
  | a :: l, b :: m, h => by
    simp only [joinTail, List.map_cons, List.flatten_cons, List.cons_append, List.nil_append] at h
    have h := (List.cons.inj h).2
    have hd : ∀ (n : List Nat) (c : UInt8), ((n.map decDigits).map ([58] ++ ·)).flatten.head? = some c → c = 58 := by
      intro n c hc
      cases n with
      | nil => simp at hc
      | cons x n => simp at hc; exact hc.symm
    obtain ⟨h1, h2⟩ := split_at (hd l) (hd m) (dec_no a) (dec_no b) h
    rw [dec_inj h1, tail_inj (l := l) (m := m) h2]
def textB (l : List Nat) : List UInt8 := join (l.map decDigits) [58]
theorem textB_inj {a b : Nat} {l m : List Nat} (h : textB (a :: l) = textB (b :: m)) : a :: l = b :: m := by
  unfold textB at h
  rw [List.map_cons, List.map_cons, join_cons, join_cons] at h
  have hd : ∀ (n : List Nat) (c : UInt8), (joinTail [58] (n.map decDigits)).head? = some c → c = 58 := by
    intro n c hc
    cases n with
    | nil => simp [joinTail] at hc
    | cons x n => simp [joinTail] at hc; exact hc.symm
  obtain ⟨h1, h2⟩ := split_at (hd l) (hd m) (dec_no a) (dec_no b) h
  rw [dec_inj h1, tail_inj h2]
theorem nDigits_le {u : Nat} (h : u < 18446744073709551616) : nDigits u ≤ 20 := by
  by_cases h0 : u < 10
  · rw [nDigits_small h0]; omega
  · have := numDigits_eq u (by omega) h; split at this <;> omega
theorem lens_le : ∀ {l : List Nat}, (∀ u ∈ l, u < 18446744073709551616) → lens (l.map decDigits) ≤ 20 * l.length
  | [], _ => by simp [lens]
  | a :: l, h => by
    have h1 := lens_le (l := l) fun u hu => h u (by simp [hu])
    have h2 := nDigits_le (h a (by simp))
    simp only [lens, List.map_cons, List.sum_cons, List.length_cons] at h1 ⊢
    rw [decDigits_length]
    omega
theorem textB_len {l : List Nat} (h : ∀ u ∈ l, u < 18446744073709551616) : (textB l).length ≤ 21 * l.length := by
  cases l with
  | nil => simp [textB, join_nil]
  | cons a l =>
    have h1 := lens_le h
    simp only [lens, List.map_cons, List.sum_cons, List.length_cons] at h1
    unfold textB
    rw [List.map_cons, join_cons, List.length_append, joinTail_length]
    simp only [lens, List.length_cons, List.length_map] at h1 ⊢
    simp only [List.length_nil, Nat.zero_add]
    omega
end Go.Abs

namespace Go.Abs
open Go.Shelf Go.Lib Go.Sort Go.Proofs

set_option maxHeartbeats 2000000 in
set_option maxRecDepth 100000 in
/-- internal/strconv.numDigits, by the table's cells -/
theorem numDigits_cells {P : Program} {ρ : Ren} (L : LaysM.n284 P ρ) (u : Nat) (h1 : 1 ≤ u) (h2 : u < 18446744073709551616) (w : World)
    (hT : ∀ q, q < 20 → w.cell? ⟨ρ.g 17, q, none⟩ = some (.int .u64 ((10 ^ q : Nat) : Int))) :
    Calls P (ρ.f 284) #[.int .u64 u] w fun e w' => e = .returned (.int .i64 (Lib.nDigits u)) ∧ w' = w := by
  have mixed := L.mixed
  have t53 := L.t53; have a53 := L.a53; have z53 := L.z53; have v53 := L.v53
  have t3 := L.t3; have a3 := L.a3; have z3 := L.z3; have v3 := L.v3
  have t212 := L.t212; have a212 := L.a212; have z212 := L.z212; have v212 := L.v212
  have t0 := L.t0; have a0 := L.a0; have z0 := L.z0; have v0 := L.v0
  have t4 := L.t4; have a4 := L.a4; have z4 := L.z4; have v4 := L.v4
  have e129 : ∀ args w, (callFunc (ρ.f 129) args).run P w = .ok (.enter (ρ.f 129) args) w := enters_of L.f129 (by kernel_rfl) rfl
  have e317 : ∀ args w, (callFunc (ρ.f 317) args).run P w = .ok (.enter (ρ.f 317) args) w := enters_of L.f317 (by kernel_rfl) rfl
  have e318 : ∀ args w, (callFunc (ρ.f 318) args).run P w = .ok (.enter (ρ.f 318) args) w := enters_of L.f318 (by kernel_rfl) rfl
  obtain ⟨hnd, h19⟩ := Lib.numDigits_eq u h1 h2
  have hL : Lib.bitLen u ≤ 64 := Lib.bitLen_le u 64 (Nat.le_refl _) h2
  have hcell := hT (Lib.l10 (Lib.bitLen u)) (by omega)
  have hto : ((u : Int)).toNat = u := by omega
  generalize hq : Lib.l10 (Lib.bitLen u) = q at hnd h19 hcell
  generalize hT2 : 10 ^ q = T at hnd hcell
  have h20 : q < 20 := by omega
  have Hnd := Lib.hid hnd
  clear hnd hT
  go_enter L.f284, Body.n284_ntmps ρ
  go_wp2_with (first
    | (go_at_fn (ρ.f 129); refine (Any.bits_Len64 { L with } _ _ (by omega) (by omega)).mono ?_; rintro e w' ⟨rfl, rfl⟩)
    | (go_at_fn (ρ.f 317); refine (Any.internal_strconv_log10Pow2 { L with } _ (by first | exact hL | (rw [hto]; exact hL)) _).mono ?_; rintro e w' ⟨rfl, rfl⟩)
    | (go_at_fn (ρ.f 318); refine (Any.internal_strconv_bool2_int { L with } _ _).mono ?_; rintro e w' ⟨rfl, rfl⟩))
  all_goals go_ret
  all_goals (
    refine ⟨?_, rfl⟩
    have hnd := Hnd.out
    congr 2
    split at hnd <;> simp_all <;> omega)

theorem holds_zero0 (w : World) (T : TypeId) (nd : Nat) (hs : nd ≤ 24) : Holds (fun (b : UInt8) => Value.int .u8 (b.toNat : Int)) (w.alloc (.cells zeros24 T)) w.heap.size 0 (Array.replicate nd (0 : UInt8)) := fun j hj => by
  have hj' : j < nd := by simpa using hj
  refine ⟨?_, World.frozen?_alloc_new _ _ _ _⟩
  rw [World.cell?_alloc_new, zeros24_at _ (by omega), getElem!_pos _ j hj]
  simp
theorem fin_zero (w : World) (o : Obj) (dk : Array UInt8) (k : Nat) : ∃ os, (putRow (fun (b : UInt8) => Value.int .u8 (b.toNat : Int)) (w.alloc o) w.heap.size 0 dk).drewN k = grow (w.drewN k) os := by
  rw [alloc_eq_grow]
  obtain ⟨os', _, e⟩ := putRow_grow_new (fun (b : UInt8) => Value.int .u8 (b.toNat : Int)) w #[o] w.heap.size 0 dk (Nat.le_refl _)
  exact ⟨os', by rw [e]; rfl⟩
end Go.Abs

namespace Go.Abs
open Go.RowKit

/-! ## strings.Join over strings of which no byte is known -/
def opqsJ : List AV → Option (List Nat)
  | [] => some []
  | .opq j :: r => match opqsJ r with
    | some l => some (j :: l)
    | none => none
  | _ => none
def findJ (l : List Nat) : List (List Nat × Nat) → Option Nat
  | [] => none
  | (m, j) :: t => match decide (m = l) with
    | true => some j
    | false => findJ l t
noncomputable def joinT (tab : List (List Nat × Nat)) (h : AH) (l : Option (List AV)) : Option (AV × AH) := match l with
  | some l => match opqsJ l with
    | some js => match findJ js tab with
      | some j => some (.opq j, h)
      | none => none
    | none => none
  | none => none
noncomputable def joinSumT (tab : List (List Nat × Nat)) : Sum := fun xa h => match xa with
  | [.slice i off _ len _, .str sep] => match strEq sep [58], h.objs.get i with
    | true, some (.cells cs _ _) => joinT tab h (slice1 cs off len)
    | _, _ => none
  | _ => none
/-- what the strings are -/
def JoinOK (σ : Val) (tab : List (List Nat × Nat)) : Prop := ∀ l j, (l, j) ∈ tab → ∃ ss : List (List UInt8), l.map σ.opq = ss.map (fun s => Value.string ⟨s.toArray⟩) ∧ σ.opq j = .string ⟨(Lib.join ss [58]).toArray⟩ ∧ ss.length ≤ 140737488355328 ∧ (Lib.join ss [58]).length ≤ 140737488355328
variable {P : Program} {σ : Val}

theorem opqsJ_conc {E : Env} (hE : E.σ = σ) : ∀ {l : List AV} {js : List Nat} {vs : List Value}, opqsJ l = some js → concs E l = some vs → vs = js.map σ.opq
  | [], js, vs, h, hv => by
    simp only [opqsJ, Option.some.injEq] at h; subst h
    simp only [concs, Option.some.injEq] at hv; subst hv; rfl
  | x :: r, js, vs, h, hv => by
    obtain ⟨v, vs', h1, h2, rfl⟩ := concs_cons hv
    cases x <;> simp only [opqsJ] at h <;> try (cases h; done)
    split at h
    · rename_i l hl
      cases h
      simp only [conc] at h1
      split at h1
      · cases h1
        rw [opqsJ_conc hE hl h2, ← hE]; rfl
      · cases h1
    · cases h
theorem findJ_mem {l : List Nat} {j : Nat} : ∀ {t : List (List Nat × Nat)}, findJ l t = some j → (l, j) ∈ t
  | (m, k) :: t, h => by
    simp only [findJ] at h
    split at h
    · rename_i e; cases h; rw [of_decide_eq_true e]; exact List.mem_cons_self
    · exact List.mem_cons_of_mem _ (findJ_mem h)
theorem strEq_one {s : List UInt8} (h : strEq s [58] = true) : s = [58] := by
  cases s with
  | nil => simp [strEq] at h
  | cons a r =>
    simp only [strEq] at h
    split at h
    · rename_i e
      cases r with
      | nil =>
        have : a.toNat = 58 := by simpa using e
        have : a = 58 := UInt8.toNat_inj.1 (by simpa using this)
        rw [this]
      | cons b r => simp [strEq] at h
    · cases h

theorem joinT_sumOK {tab : List (List Nat × Nat)} (hσT : JoinOK σ tab) {g : Nat} {fn : Func} {c : Code} (hP : P.funcs[g]? = some fn) (hname : (fn.name == "runtime.NumGoroutine") = false) (hb : fn.body = some c)
    (C : ∀ (bk o c : Nat) (xs : List ByteArray) (sep : ByteArray) (w : World), (∀ (j : Nat) x, xs[j]? = some x → w.cell? ⟨bk, o + j, none⟩ = some (.string x)) → bk < w.heap.size → xs.length ≤ 140737488355328 → xs.length ≤ c →
      (Lib.join (xs.map (·.data.toList)) sep.data.toList).length ≤ 140737488355328 →
      Calls P g #[.slice (some ⟨bk, o, none⟩) xs.length c, .string sep] w fun e w' => e = .returned (.string ⟨(Lib.join (xs.map (·.data.toList)) sep.data.toList).toArray⟩) ∧ Below w.heap.size w w') : SumOK P σ g (joinSumT tab) := by
  refine ⟨fun xa h v h' hs => ?_, fun xa h v h' hs => ?_⟩
  rotate_left
  · unfold joinSumT joinT at hs
    (repeat' (first | (cases hs; done) | (split at hs)))
    all_goals (cases hs; exact HExt.refl _)
  unfold joinSumT at hs
  split at hs
  case h_2 => cases hs
  rename_i i off eo len cap sep
  split at hs
  case h_2 => cases hs
  rename_i cs ro es hsep hi
  unfold joinT at hs
  split at hs
  case h_2 => cases hs
  rename_i l hl
  split at hs
  case h_2 => cases hs
  rename_i js hjs
  split at hs
  case h_2 => cases hs
  rename_i j hj
  cases hs
  obtain ⟨ss, hss, hres, b1, b2⟩ := hσT _ _ (findJ_mem hj)
  have hsep := strEq_one hsep
  subst hsep
  refine ⟨Nat.le_refl _, fun E B w0 w A hσ hA hrel _ => .inl ⟨enter_ok hP hname hb _ _, ?_⟩⟩
  obtain ⟨X, A1, hX, hA1, rfl⟩ := concs_cons hA
  obtain ⟨Y, Z, hY, hZ, rfl⟩ := concs_cons hA1
  have hZ' : Z = [] := (Option.some.inj hZ).symm
  subst hZ'
  obtain ⟨p, hp, rfl, hle⟩ := conc_slice hX
  have hY' : Y = .string ⟨[58].toArray⟩ := (Option.some.inj hY).symm
  subst hY'
  obtain ⟨hat, vs, hvs, hc⟩ := cells_at hrel hi hp
  obtain ⟨hle1, rfl⟩ := slice1_eq hl
  have hlen := concs_length hvs
  have hc2 := concs_take (concs_drop hvs off) len
  have hVS := (opqsJ_conc hσ hjs hc2).trans hss
  have hsl : ss.length = len := by
    have := congrArg List.length hVS
    simp at this; omega
  have hbk : p.block < w.heap.size := by
    have ho := hrel.objs i _ p hi hp
    cases ro with
    | false => exact objRel_lt ho rfl
    | true =>
      obtain ⟨_, _, _, h3, _⟩ := ho
      exact Nat.lt_of_lt_of_le (h3 rfl).1 (Nat.le_trans hrel.base hrel.below.size)
  have key := C p.block (p.off + off) (capOf p eo cap) (ss.map fun s => ⟨s.toArray⟩) ⟨[58].toArray⟩ w (fun j x hx => ?_) hbk (by simpa using b1) (by simpa [hsl] using hle) (by simpa [Function.comp_def] using b2)
  · have e : ((ss.map fun s => (⟨s.toArray⟩ : ByteArray)).map (·.data.toList)) = ss := by simp [Function.comp_def]
    rw [e] at key
    simp only [List.length_map, hsl] at key
    refine key.mono fun e w' ⟨he, hb⟩ => ?_
    refine ⟨_, he, E, ?_, Post.kept hrel hb⟩
    simp only [conc, hσ, hres, opqV, if_true]
  · have hj : j < len := by
      rcases Nat.lt_or_ge j len with h' | h'
      · exact h'
      · rw [List.getElem?_eq_none (by simp; omega)] at hx; cases hx
    have h1 : ((vs.drop off).take len)[j]? = some (.string x) := by
      rw [hVS]
      rw [List.getElem?_map] at hx ⊢
      cases hs : ss[j]? with
      | none => rw [hs] at hx; cases hx
      | some s => rw [hs] at hx; cases hx; rfl
    rw [List.getElem?_take_of_lt hj, List.getElem?_drop] at h1
    rw [Nat.add_assoc]
    exact hc _ _ h1

/-! ## strconv.FormatUint at base 10 -/
open Go.Sort in
theorem fu_callOK {g gT : Nat} {fn : Func} {c : Code} (hP : P.funcs[g]? = some fn) (hname : (fn.name == "runtime.NumGoroutine") = false) (hb : fn.body = some c)
    (C : ∀ (u : Nat) (w : World), u < 18446744073709551616 → (∀ q, q < 20 → w.cell? ⟨gT, q, none⟩ = some (.int .u64 ((10 ^ q : Nat) : Int))) →
      Calls P g #[.int .u64 u, .int .i64 10] w fun e w' => e = .returned (.string ⟨(Lib.decDigits u).toArray⟩) ∧ ∃ k os, w' = grow (w.drewN k) os)
    (hT : ∀ q, q < 20 → σ.glob gT q = some (.int .u64 ((10 ^ q : Nat) : Int))) {s j : Nat} {u : Nat} (hs : σ.num s = u) (hu : u < 18446744073709551616) (hj : σ.opq j = .string ⟨(Lib.decDigits u).toArray⟩) :
    FCallOK P σ ⟨g, [.sym .u64 s, .int .i64 10], .opq j⟩ := by
  intro h E B w0 w A hσ hA hrel
  obtain ⟨X, A1, hX, hA1, rfl⟩ := concs_cons hA
  obtain ⟨Y, Z, hY, hZ, rfl⟩ := concs_cons hA1
  have hZ' : Z = [] := (Option.some.inj hZ).symm
  subst hZ'
  have hX' : X = .int .u64 u := by
    simp only [conc, hσ, hs, Option.some.injEq] at hX; exact hX.symm
  have hY' : Y = .int .i64 10 := (Option.some.inj hY).symm
  subst hX' hY'
  refine .inl ⟨enter_ok hP hname hb _ _, ?_⟩
  refine (C u w hu fun q hq => (globHere hσ hrel _ _ _ (hT q hq)).2).mono fun e w' ⟨he, k, os, hw⟩ => ⟨_, he, ?_, ?_⟩
  · simp only [conc, hσ, hj, opqV, if_true]
  · subst hw
    exact Post.kept hrel (Go.Proofs.below_grown_sl _ _ _ _ (Nat.le_refl _))
/-- strings of which no byte is known, held against one another -/
theorem fact_str {op : BinOp} {i j : Nat} {a b : List UInt8} (hi : σ.opq i = .string ⟨a.toArray⟩) (hj : σ.opq j = .string ⟨b.toArray⟩) {r : AV} (h : binStr op a b = some r) : FactOK P σ ⟨op, .opq i, .opq j, r⟩ := by
  intro E hE X Y hX hY
  have hX' : X = .string ⟨a.toArray⟩ := by simp only [conc, hE, hi, opqV, if_true, Option.some.injEq] at hX; exact hX.symm
  have hY' : Y = .string ⟨b.toArray⟩ := by simp only [conc, hE, hj, opqV, if_true, Option.some.injEq] at hY; exact hY.symm
  subst hX' hY'
  exact binStr_sound h E
/-- the table of powers of ten -/
def powF (gl : Nat) : Nat → Nat → Option Value := fun g j => if g = gl ∧ j < 20 then some (.int .u64 ((10 ^ j : Nat) : Int)) else none
theorem powF_at (gl : Nat) : ∀ q, q < 20 → powF gl gl q = some (.int .u64 ((10 ^ q : Nat) : Int)) := fun q hq => if_pos ⟨rfl, hq⟩
theorem powF_in {gl : Nat} {W : World} (h : ∀ q, q < 20 → W.cell? ⟨gl, q, none⟩ = some (.int .u64 ((10 ^ q : Nat) : Int))) : ∀ g j v, powF gl g j = some v → g < W.heap.size ∧ W.cell? ⟨g, j, none⟩ = some v := by
  intro g j v hv
  unfold powF at hv
  split at hv
  · rename_i hh
    obtain ⟨rfl, hj⟩ := hh
    cases hv
    exact ⟨World.block_lt_of_cell? _ _ (h j hj), h j hj⟩
  · cases hv
theorem pow_cells {P : Program} {W : World} {gl : Nat} (hg : P.globalNamed "internal/strconv.uint64pow10" = some gl) (h : Lib.TabIs P W "internal/strconv.uint64pow10" .u64 Lib.pow10Tab) : ∀ q, q < 20 → W.cell? ⟨gl, q, none⟩ = some (.int .u64 ((10 ^ q : Nat) : Int)) := fun q hq => by
  rw [h.cell hg q (by rw [Lib.pow10Tab_length]; exact hq), Lib.pow10Tab_at q hq]
end Go.Abs

namespace Go.Abs

/-! ## the order of texts -/
theorem strLess_cons {a b : UInt8} {x y : List UInt8} : strLess (a :: x) (b :: y) = if a.toNat = b.toNat then strLess x y else decide (a.toNat < b.toNat) := by
  simp only [strLess]
  by_cases h : a.toNat = b.toNat
  · rw [if_pos h]
    have : Nat.beq a.toNat b.toNat = true := by rw [Nat.beq_eq]; exact h
    rw [this]
  · rw [if_neg h]
    have : Nat.beq a.toNat b.toNat = false := by
      cases e : Nat.beq a.toNat b.toNat with
      | false => rfl
      | true => rw [Nat.beq_eq] at e; exact absurd e h
    rw [this, natBlt_eq]
theorem strLess_irr : ∀ x : List UInt8, strLess x x = false
  | [] => rfl
  | a :: x => by rw [strLess_cons, if_pos rfl]; exact strLess_irr x
theorem strLess_asym : ∀ {x y : List UInt8}, strLess x y = true → strLess y x = false
  | x, [], h => by cases x <;> simp [strLess] at h
  | [], b :: y, _ => by simp [strLess]
  | a :: x, b :: y, h => by
    rw [strLess_cons] at h ⊢
    by_cases e : a.toNat = b.toNat
    · rw [if_pos e] at h; rw [if_pos e.symm]; exact strLess_asym h
    · rw [if_neg e] at h; rw [if_neg fun h => e h.symm]
      have := of_decide_eq_true h
      exact decide_eq_false (by omega)
theorem strLess_conn : ∀ {x y : List UInt8}, strLess x y = false → strLess y x = false → x = y
  | [], [], _, _ => rfl
  | [], b :: y, h, _ => by simp [strLess] at h
  | a :: x, [], _, h => by simp [strLess] at h
  | a :: x, b :: y, h, k => by
    rw [strLess_cons] at h k
    by_cases e : a.toNat = b.toNat
    · rw [if_pos e] at h; rw [if_pos e.symm] at k
      rw [strLess_conn h k, UInt8.toNat_inj.1 e]
    · rw [if_neg e] at h; rw [if_neg fun h => e h.symm] at k
      have h := of_decide_eq_false h
      have k := of_decide_eq_false k
      omega
theorem strLess_trans : ∀ {x y z : List UInt8}, strLess x y = true → strLess y z = true → strLess x z = true
  | x, [], z, h, _ => by cases x <;> simp [strLess] at h
  | x, b :: y, [], _, h => by simp [strLess] at h
  | [], b :: y, c :: z, _, _ => by simp [strLess]
  | a :: x, b :: y, c :: z, h, k => by
    rw [strLess_cons] at h k ⊢
    by_cases e : a.toNat = b.toNat
    · rw [if_pos e] at h
      by_cases f : b.toNat = c.toNat
      · rw [if_pos f] at k; rw [if_pos (by omega)]; exact strLess_trans h k
      · rw [if_neg f] at k; rw [if_neg (by omega)]
        have := of_decide_eq_true k
        exact decide_eq_true (by omega)
    · rw [if_neg e] at h
      have h := of_decide_eq_true h
      by_cases f : b.toNat = c.toNat
      · rw [if_neg (by omega)]; exact decide_eq_true (by omega)
      · rw [if_neg f] at k
        have k := of_decide_eq_true k
        rw [if_neg (by omega)]; exact decide_eq_true (by omega)

/-- a number ahead, then a text -/
def lessB (s : Int) (x : List UInt8) (t : Int) (y : List UInt8) : Bool := decide (s < t) || (decide (s = t) && strLess x y)
theorem lessB_irr (s : Int) (x : List UInt8) : lessB s x s x = false := by simp [lessB, strLess_irr]
theorem lessB_asym {s t : Int} {x y : List UInt8} (h : lessB s x t y = true) : lessB t y s x = false := by
  simp only [lessB, Bool.or_eq_true, decide_eq_true_eq, Bool.and_eq_true] at h
  simp only [lessB, Bool.or_eq_false_iff, decide_eq_false_iff_not, Bool.and_eq_false_iff]
  rcases h with h | ⟨h, k⟩
  · exact ⟨by omega, .inl (by omega)⟩
  · exact ⟨by omega, .inr (strLess_asym k)⟩
theorem lessB_conn {s t : Int} {x y : List UInt8} (h : lessB s x t y = false) (k : lessB t y s x = false) : s = t ∧ x = y := by
  simp only [lessB, Bool.or_eq_false_iff, decide_eq_false_iff_not, Bool.and_eq_false_iff] at h k
  have e : s = t := by omega
  refine ⟨e, strLess_conn ?_ ?_⟩
  · rcases h.2 with h | h
    · exact absurd e h
    · exact h
  · rcases k.2 with h | h
    · exact absurd e.symm h
    · exact h
theorem lessB_trans {s t u : Int} {x y z : List UInt8} (h : lessB s x t y = true) (k : lessB t y u z = true) : lessB s x u z = true := by
  simp only [lessB, Bool.or_eq_true, decide_eq_true_eq, Bool.and_eq_true] at h k ⊢
  rcases h with h | ⟨h, h2⟩
  · rcases k with k | ⟨k, k2⟩ <;> exact .inl (by omega)
  · rcases k with k | ⟨k, k2⟩
    · exact .inl (by omega)
    · exact .inr ⟨by omega, strLess_trans h2 k2⟩
theorem lessB_ge {s t : Int} {x y : List UInt8} (h : lessB s x t y = false) : s ≥ t := by
  simp only [lessB, Bool.or_eq_false_iff, decide_eq_false_iff_not] at h
  omega
theorem lessB_lt {s t : Int} {x y : List UInt8} (h : lessB s x t y = true) (hn : ¬ s = t) : s < t := by
  simp only [lessB, Bool.or_eq_true, decide_eq_true_eq, Bool.and_eq_true] at h
  rcases h with h | ⟨h, _⟩
  · exact h
  · exact absurd h hn

/-- a call that gives what it gives, the same in every memory in which the table stands -/
theorem callOK_of {P : Program} {σ : Val} {g : Nat} {args : List AV} {v : AV} {fn : Func} {c : Code} (hP : P.funcs[g]? = some fn) (hname : (fn.name == "runtime.NumGoroutine") = false) (hb : fn.body = some c) (hp : plains args = true) {A : List Value} (hA : concs (noEnv σ) args = some A)
    {V : Value} (hv : ∀ E : Env, E.σ = σ → conc E v = some V)
    (C : ∀ w : World, (∀ g j v, σ.glob g j = some v → g < w.heap.size ∧ w.cell? ⟨g, j, none⟩ = some v) → Calls P g ⟨A⟩ w fun e w' => e = .returned V ∧ RowKit.Below w.heap.size w w') : FCallOK P σ ⟨g, args, v⟩ := by
  intro h E B w0 w A' hσ hA' hrel
  have e : A' = A := by
    have h1 : concs (noEnv σ) args = some A' := by rw [← hA']; exact concs_plain hσ.symm args hp
    rw [hA] at h1; exact (Option.some.inj h1).symm
  subst e
  refine .inl ⟨enter_ok hP hname hb _ _, ?_⟩
  refine (C w (globHere hσ hrel)).mono fun e w' ⟨he, hw⟩ => ⟨_, he, hv E hσ, Post.kept hrel hw⟩
/-- a run that ends in a bool -/
theorem bool_of_run {P : Program} {σ : Val} {cx : Cx} {ms : Tr (Tr (List Nat))} {q : Kn} (hp : ProgOK P σ (cx.put q) ms) {fuel g : Nat} {args : List AV} {A : List Value} (hA : concs (noEnv σ) args = some A) {b : Bool}
    (hr : isVR (goT cx q fuel g args ⟨.nil, 0⟩) (.bool b) = true) (w : World) (hg : ∀ g j v, σ.glob g j = some v → g < w.heap.size ∧ w.cell? ⟨g, j, none⟩ = some v) : Calls P g ⟨A⟩ w fun e w' => e = .returned (.bool b) ∧ RowKit.Below w.heap.size w w' := by
  obtain ⟨h', hr⟩ := isV_inv hr
  obtain ⟨_, h2⟩ := goT_sound hp hr
  refine Calls.mono (h2 (noEnv σ) w.heap.size w w A rfl hA (rel_none hg 0) (fun _ _ _ => rfl)).2 fun e w' hh => ?_
  obtain ⟨V, rfl, E', hV, hpost⟩ := hh
  simp only [conc, Option.some.injEq] at hV
  subst hV
  exact ⟨rfl, hpost.rel.below⟩
end Go.Abs
