/- The interpreter's operations, part two: each does what the model does. No premise of its own. -/
import Derived.Test.YtamlnmdmfcblnaaGreatDoorAbs2
import Derived.IntWalk
set_option linter.unusedVariables false
set_option linter.unusedSimpArgs false
namespace Go.Abs
open Go.RowKit

variable {P : Program} {σ : Val} {cx : Cx}

/-! ## loads -/
theorem heap_cell {w : World} {b : Nat} {c : Array Value} {e : TypeId} {fr : Nat × Nat} (h : w.heap[b]? = some (.cells c e fr)) (o : Nat) : w.cell? ⟨b, o, none⟩ = c[o]? := by
  simp [World.cell?, h]

/-- an object's cells as the world has them -/
theorem cells_at {E : Env} {B : Nat} {w0 : World} {h : AH} {w : World} (hr : Rel E B w0 h w) {i : Nat} {cs : List AV} {ro : Bool} {es : Nat} {p : Pl} (hi : h.objs.get i = some (.cells cs ro es)) (hp : E.φ i = some p) :
    cs.all AV.atom = true ∧ ∃ vs, concs E cs = some vs ∧ ∀ (j : Nat) (v : Value), vs[j]? = some v → w.cell? ⟨p.block, p.off + j, none⟩ = some v := by
  obtain ⟨h1, vs, h2, h3, h4⟩ := hr.objs i _ p hi hp
  refine ⟨h1, vs, h2, fun j v hv => ?_⟩
  cases ro with
  | true => exact (h3 rfl).2 j v hv
  | false =>
    obtain ⟨_, c, e, fr, hc, _, hg, _⟩ := h4 rfl
    rw [heap_cell hc]; exact hg j v hv

theorem run_loadCells_at {w : World} {p : Pl} {vs : List Value} (hc : ∀ (j : Nat) (v : Value), vs[j]? = some v → w.cell? ⟨p.block, p.off + j, none⟩ = some v) (off n : Nat) (hl : off + n ≤ vs.length) :
    (loadCells ⟨p.block, p.off + off, none⟩ n).run P w = .ok ((vs.drop off).take n).toArray w := by
  have hlen : ((vs.drop off).take n).length = n := by simp; omega
  have := run_loadCells_list (P := P) w ⟨p.block, p.off + off, none⟩ ((vs.drop off).take n) (fun j v hv => by
    rw [add_addr, Nat.add_assoc]
    refine hc _ _ ?_
    rw [List.getElem?_take] at hv
    split at hv
    · rwa [List.getElem?_drop] at hv
    · cases hv)
  rw [hlen] at this
  exact this

theorem run_isAgg {t : Nat} {d : TypeDesc} (hd : P.underlying t = some d) (w : World) : (isAgg t).run P w = .ok (isAggD d) w := by
  cases d <;> simp [isAgg, run_underlying hd, isAggD]

theorem loadA_sound (ok : CxOK P σ cx) {h : AH} {t : Nat} {x v : AV} (hl : loadA cx h t x = some v) {E : Env} (hσ : E.σ = σ) {B : Nat} {w0 w : World} (hr : Rel E B w0 h w) {X : Value} (hx : conc E x = some X) :
    ∃ V a, X = .pointer (some a) ∧ conc E v = some V ∧ (loadVar t a).run P w = .ok V w := by
  -- a load out of cells that are known
  have body : ∀ (cs : List AV) (vs : List Value) (p : Pl) (off : Nat), cs.all AV.atom = true → concs E cs = some vs → (∀ (j : Nat) (v : Value), vs[j]? = some v → w.cell? ⟨p.block, p.off + j, none⟩ = some v) → loadG cx t cs off = some v →
      ∃ V, conc E v = some V ∧ (loadVar t ⟨p.block, p.off + off, none⟩).run P w = .ok V w := by
    intro cs vs p off hat hvs hc hl
    unfold loadG at hl
    split at hl
    · rename_i ty hty
      obtain ⟨d, hd, hk, hag⟩ := und_of ok hty
      obtain ⟨ti, hti, hsz, _, _⟩ := size_of ok hty
      split at hl
      · rename_i hagg
        split at hl
        · rename_i l hs
          cases hl
          obtain ⟨hle, rfl⟩ := slice1_eq hs
          have hlen := concs_length hvs
          refine ⟨.agg ⟨(vs.drop off).take ty.size⟩, conc_agg (by rw [List.all_eq_true] at hat ⊢; exact fun x hx => hat x (List.mem_of_mem_drop (List.mem_of_mem_take hx))) (concs_take (concs_drop hvs off) _), ?_⟩
          have h1 : isAggD d = true := by rw [← hag]; exact hagg
          simp only [loadVar, Sem.run_bind, run_isAgg hd, Result.andThen_ok, h1, if_true, run_sizeOf w hti, hsz, run_loadCells_at hc off ty.size (by omega), Sem.run_pure]
        · cases hl
      · rename_i hagg
        rw [nth_eq] at hl
        obtain ⟨V, hV, hcV⟩ := concs_get hvs off v hl
        refine ⟨V, hcV, ?_⟩
        have h1 : isAggD d = false := by rw [← hag]; exact hagg
        simp only [loadVar, Sem.run_bind, run_isAgg hd, Result.andThen_ok, h1, Bool.false_eq_true, if_false, run_load, hc off V hV]
    · cases hl
  unfold loadA at hl
  split at hl
  · rename_i j es c n off
    split at hl
    case h_2 => cases hl
    rename_i cs hcs
    obtain ⟨f, hf, rfl, rfl, rfl, rfl, rfl⟩ := findRead_mem hcs
    simp only [conc, lptrC, hσ] at hx
    split at hx
    case h_2 => cases hx
    rename_i a len cap hop
    split at hx
    case isFalse => cases hx
    rename_i hc
    cases hx
    obtain ⟨h0, h1, hsp⟩ := hc
    obtain ⟨hat, vs, hvs, hg⟩ := ok.reads f hf a len cap hop hsp h0 h1
    obtain ⟨V, hV, hrun⟩ := body f.cells vs ⟨a.block, a.off + (ixV σ f.c f.n).toNat * f.es, 0, undef⟩ off hat (hvs E hσ) (fun j u hu => by
      have := hr.glob a.block _ u (by rw [hσ]; exact hg j u hu)
      rw [hr.below.cell (p := ⟨a.block, a.off + (ixV σ f.c f.n).toNat * f.es + j, none⟩) this.1]
      exact this.2) hl
    exact ⟨V, _, rfl, hV, hrun⟩
  · rename_i g off
    simp only [conc, Option.some.injEq] at hx
    subst hx
    split at hl
    · rename_i cs hcs
      obtain ⟨hat, vs, hvs, hg⟩ := ok.globs g cs hcs
      obtain ⟨V, hV, hrun⟩ := body cs vs ⟨g, 0, 0, undef⟩ off hat (hvs E hσ) (fun j u hu => by
        have := hr.glob g j u (by rw [hσ]; exact hg j u hu)
        rw [hr.below.cell (p := ⟨g, 0 + j, none⟩) this.1]
        simpa using this.2) hl
      exact ⟨V, _, rfl, hV, by simpa using hrun⟩
    · cases hl
  · rename_i i off
    obtain ⟨p, hp, rfl⟩ := conc_ptr hx
    split at hl
    · rename_i cs ro es hi
      obtain ⟨hat, vs, hvs, hc⟩ := cells_at hr hi hp
      split at hl
      · rename_i ty hty
        obtain ⟨d, hd, hk, hag⟩ := und_of ok hty
        obtain ⟨ti, hti, hsz, _, _⟩ := size_of ok hty
        split at hl
        · rename_i hagg
          split at hl
          · rename_i l hs
            cases hl
            obtain ⟨hle, rfl⟩ := slice1_eq hs
            have hlen := concs_length hvs
            refine ⟨.agg ⟨(vs.drop off).take ty.size⟩, _, rfl, conc_agg (by rw [List.all_eq_true] at hat ⊢; exact fun x hx => hat x (List.mem_of_mem_drop (List.mem_of_mem_take hx))) (concs_take (concs_drop hvs off) _), ?_⟩
            have h1 : isAggD d = true := by rw [← hag]; exact hagg
            simp only [loadVar, Sem.run_bind, run_isAgg hd, Result.andThen_ok, h1, if_true, run_sizeOf w hti, hsz, run_loadCells_at hc off ty.size (by omega), Sem.run_pure]
          · cases hl
        · rename_i hagg
          rw [nth_eq] at hl
          obtain ⟨V, hV, hcV⟩ := concs_get hvs off v hl
          refine ⟨V, _, rfl, hcV, ?_⟩
          have h1 : isAggD d = false := by rw [← hag]; exact hagg
          simp only [loadVar, Sem.run_bind, run_isAgg hd, Result.andThen_ok, h1, Bool.false_eq_true, if_false, run_load, hc off V hV]
      · cases hl
    · cases hl
  · cases hl

/-! ## stores -/
def ow (c : Array Value) (o : Nat) : List Value → Array Value
  | [] => c
  | v :: vs => ow (c.setIfInBounds o v) (o + 1) vs
theorem ow_size : ∀ (vs : List Value) (c : Array Value) (o : Nat), (ow c o vs).size = c.size
  | [], _, _ => rfl
  | v :: vs, c, o => by simp [ow, ow_size vs]
theorem ow_get : ∀ (vs : List Value) (c : Array Value) (o j : Nat), o + vs.length ≤ c.size → (ow c o vs)[j]? = if o ≤ j ∧ j < o + vs.length then vs[j - o]? else c[j]?
  | [], c, o, j, _ => by rw [if_neg (by simp)]; rfl
  | v :: vs, c, o, j, h => by
    simp only [List.length_cons] at h
    simp only [ow, List.length_cons]
    rw [ow_get vs _ _ _ (by simp; omega)]
    by_cases hj : j = o
    · subst hj
      rw [if_neg (by omega), if_pos (by omega)]
      have : j < c.size := by omega
      simp [this]
    · by_cases hc : o + 1 ≤ j ∧ j < o + 1 + vs.length
      · rw [if_pos hc, if_pos (by omega)]
        have e : j - o = (j - (o + 1)) + 1 := by omega
        rw [e]; simp
      · rw [if_neg hc, if_neg (by omega), Array.getElem?_setIfInBounds_ne (Ne.symm hj)]

theorem run_storeCells_ow (b o : Nat) (e : TypeId) (fr : Nat × Nat) : ∀ (vs : List Value) (i : Nat) (c : Array Value) (w : World), w.heap[b]? = some (.cells c e fr) → (∀ k, k < c.size → ¬ (fr.1 ≤ k ∧ k < fr.2)) →
    o + i + vs.length ≤ c.size → (∀ v ∈ vs, v.oneCell' = true) →
    (storeCells ⟨b, o, none⟩ vs i).run P w = .ok () { w with heap := w.heap.setIfInBounds b (.cells (ow c (o + i) vs) e fr) }
  | [], i, c, w, hb, _, _, _ => by
    have : w.heap.setIfInBounds b (.cells (ow c (o + i) []) e fr) = w.heap := by
      apply Array.ext'
      rw [Array.toList_setIfInBounds]
      have hb' : w.heap.toList[b]? = some (.cells c e fr) := by simpa using hb
      apply List.ext_getElem?
      intro k
      rw [List.getElem?_set]
      split
      · rename_i hk; subst hk
        split
        · exact hb'.symm
        · rename_i hlt; rw [List.getElem?_eq_none (by omega)]
      · rfl
    simp only [storeCells, Sem.run_pure]
    rw [this]
  | v :: vs, i, c, w, hb, hf, hl, h1 => by
    simp only [List.length_cons] at hl
    have hlt : o + i < c.size := by omega
    have hcell : w.cell? ⟨b, o + i, none⟩ = some c[o + i] := by rw [heap_cell hb]; simp [hlt]
    have hfr : w.frozen? ⟨b, o + i, none⟩ = false := by
      have := hf (o + i) hlt
      simp only [World.frozen?, hb]
      simp only [Bool.and_eq_false_iff, decide_eq_false_iff_not]
      by_cases hx : fr.1 ≤ o + i
      · exact .inr (fun hy => this ⟨hx, hy⟩)
      · exact .inl hx
    have hset : w.setCell ⟨b, o + i, none⟩ v = { w with heap := w.heap.setIfInBounds b (.cells (c.setIfInBounds (o + i) v) e fr) } := by
      unfold World.setCell
      congr 1
      apply Array.ext_getElem?
      intro k
      rw [Array.getElem?_modify, Array.getElem?_setIfInBounds]
      split
      · rename_i hk; subst hk
        have hb2 : b < w.heap.size := by
          rcases Nat.lt_or_ge b w.heap.size with h' | h'
          · exact h'
          · rw [Array.getElem?_eq_none h'] at hb; cases hb
        rw [if_pos hb2, hb]
        simp
      · rfl
    have hb2 : b < w.heap.size := by
      rcases Nat.lt_or_ge b w.heap.size with h' | h'
      · exact h'
      · rw [Array.getElem?_eq_none h'] at hb; cases hb
    simp only [storeCells, Sem.run_bind, add_addr]
    rw [run_store P w _ v .plain (h1 v (by simp)), hcell]
    simp only [hfr, Bool.false_eq_true, if_false, Result.andThen_ok, hset]
    rw [run_storeCells_ow b o e fr vs (i + 1) (c.setIfInBounds (o + i) v) _ (by simp [hb2]) (fun k hk => hf k (by simpa using hk)) (by simp; omega) (fun u hu => h1 u (by simp [hu]))]
    simp only [ow]
    congr 2
    apply Array.ext_getElem?
    intro k
    simp only [Array.getElem?_setIfInBounds]
    split <;> simp_all [Nat.add_assoc]

/-- an object's cells are written over from off on -/
theorem write_sound {E : Env} {B : Nat} {w0 : World} {h : AH} {w : World} (hr : Rel E B w0 h w) {i : Nat} {cs : List AV} {es : Nat} {p : Pl} (hi : h.objs.get i = some (.cells cs false es)) (hp : E.φ i = some p)
    {off : Nat} {xs cs' : List AV} (hov : overAt off cs xs = some cs') {XS : List Value} (hxs : concs E xs = some XS) (hat : xs.all AV.atom = true) :
    ∃ w', (storeCells ⟨p.block, p.off + off, none⟩ XS).run P w = .ok () w' ∧ Post E B w0 h w E ⟨h.objs.set i (.cells cs' false es), h.next⟩ w' := by
  obtain ⟨h1, vs, h2, h3, h4⟩ := hr.objs i _ p hi hp
  obtain ⟨hB, c, e, fr, hc, hf, hg, hroom, hcap⟩ := h4 rfl
  obtain ⟨R, hR, hRl, hRb, hRg⟩ := overAt_conc hov h2 hxs
  have hvl := concs_length h2
  have hXl := concs_length hxs
  have hone : ∀ v ∈ XS, v.oneCell' = true := by
    intro v hv
    obtain ⟨j, hj⟩ := List.mem_iff_getElem?.1 hv
    obtain ⟨x, hx, hcx⟩ := concs_get' hxs j v hj
    exact atom_one (List.all_eq_true.1 hat x (List.mem_of_getElem? hx)) hcx
  refine ⟨_, run_storeCells_ow p.block (p.off + off) e fr XS 0 c w hc hf (by omega) hone, ?_⟩
  refine Post.write hr hi hp rfl _ fun w' hw' => ?_
  refine ⟨over_atoms hov h1 hat, R, hR, fun hro => (by cases hro), fun _ => ⟨hB, _, e, fr, hw', ?_, ?_, ?_, ?_⟩⟩
  · intro k hk; exact hf k (by simpa [ow_size] using hk)
  · intro j v hv
    rw [ow_get XS c _ _ (by omega)]
    rw [hRg] at hv
    by_cases hj : off ≤ j ∧ j < off + XS.length
    · rw [if_pos hj] at hv
      rw [if_pos (by omega)]
      have e1 : p.off + j - (p.off + off + 0) = j - off := by omega
      rw [e1]; exact hv
    · rw [if_neg hj] at hv
      rw [if_neg (by omega)]
      exact hg j v hv
  · rw [ow_size]; omega
  · rw [ow_size]; intro h; exact ⟨by rw [hRl]; exact (hcap h).1, (hcap h).2⟩

theorem storeA_sound (ok : CxOK P σ cx) {h h' : AH} {t : Nat} {x v : AV} (hs : storeA cx h t x v = some h') {E : Env} {B : Nat} {w0 w : World} (hr : Rel E B w0 h w) {X V : Value} (hx : conc E x = some X) (hv : conc E v = some V) : ∃ a w', X = .pointer (some a) ∧ (storeVar t a V).run P w = .ok () w' ∧ Post E B w0 h w E h' w' := by
  unfold storeA at hs
  split at hs
  · rename_i i off
    obtain ⟨p, hp, rfl⟩ := conc_ptr hx
    split at hs
    · rename_i cs es hi
      split at hs
      · rename_i ty hty
        obtain ⟨ti, hti, hsz, _, _⟩ := size_of ok hty
        split at hs
        · rename_i hlen htup
          have hlen := Nat.eq_of_beq_eq_true hlen
          split at hs
          · rename_i cs' hov
            cases hs
            obtain ⟨hat, hcv⟩ := cellsOf_conc hv htup
            obtain ⟨w', hrun, hpost⟩ := write_sound (P := P) hr hi hp hov hcv hat
            refine ⟨_, w', rfl, ?_, hpost⟩
            have hl := concs_length hcv
            have : V.cells.size = P.cellsOf t := by rw [hsz]; simpa [hlen] using hl
            simp only [storeVar, Sem.run_bind, run_sizeOf w hti, Result.andThen_ok, this, ne_eq, not_true_eq_false, if_false, Sem.run_pure, hrun]
          · cases hs
        · cases hs
      · cases hs
    · cases hs
  · cases hs

/-! ## new objects -/
theorem new_sound {E : Env} {B : Nat} {w0 : World} {h : AH} {w : World} (hr : Rel E B w0 h w) (hf : E.φ h.next = none) {cs : List AV} {vs : List Value} (ha : cs.all AV.atom = true) (hc : concs E cs = some vs)
    (spare : List Value) (elem : TypeId) (es cap : Nat) (hcap : es ≠ 0 → vs.length ≤ cap * es ∧ cap * es ≤ vs.length + spare.length) :
    Post E B w0 h w (E.put h.next ⟨w.heap.size, 0, cap, undef⟩) (newA h cs es) (w.alloc (.cells (vs ++ spare).toArray elem)) := by
  refine Post.alloc hr hf (.cells cs false es) _ cap ?_
  have hB : B ≤ w.heap.size := Nat.le_trans hr.base hr.below.size
  refine ⟨ha, vs, concs_mono (Env.le_put _ hf) _ _ hc, fun h => (by cases h), fun _ => ⟨hB, _, elem, (0, 0), heap_alloc_new _ _, ?_, ?_, ?_, ?_⟩⟩
  · intro o _ h; omega
  · intro j v hv
    have hj : j < vs.length := by
      rcases Nat.lt_or_ge j vs.length with h' | h'
      · exact h'
      · rw [List.getElem?_eq_none h'] at hv; cases hv
    simp [List.getElem?_append_left hj, hv]
  · simp
  · intro h; exact ⟨(hcap h).1, by simpa using (hcap h).2⟩

theorem new_ptr {E : Env} {h : AH} {w : World} (cap : Nat) : conc (E.put h.next ⟨w.heap.size, 0, cap, undef⟩) (.ptr h.next 0) = some (.pointer (some ⟨w.heap.size, 0, none⟩)) := by
  rw [conc_ptr_mk (Env.put_same _ _ _)]
end Go.Abs

namespace Go.Abs
open Go.RowKit

variable {P : Program} {σ : Val} {cx : Cx}

/-! ## keys -/
theorem check_leaf {t n : Nat} {em : Bool} {d : TypeDesc} (hd : P.underlying t = some d) (hl : d = .bool ∨ d = .string ∨ ∃ k, d = .int k) (v : Value) (w : World) : (Instr.checkKey em (n + 1) t v).run P w = .ok () w := by
  rcases hl with rfl | rfl | ⟨k, rfl⟩ <;> simp [Instr.checkKey, run_underlying hd]

theorem leavesT_pos {d t : Nat} {ls : List Leaf} (h : leavesT P d t = some ls) : ∃ d', d = d' + 1 := by
  cases d with
  | zero => simp [leavesT] at h
  | succ d => exact ⟨d, rfl⟩

theorem run_part_leaf2 {d t : Nat} {ls : List Leaf} (w : World) (h : leavesT P d t = some ls) (hc : ls.length = P.cellsOf t) (X : List Value) (off : Nat) (hx : off + ls.length ≤ X.length) :
    (part t ⟨X⟩ off).run P w = .ok (valOf P t ls.length (X.drop off)) w := by
  have := run_part_leaf w h ⟨X⟩ off (by cases ls with | nil => exact .inr rfl | cons a l => left; simp at hx ⊢; omega)
  rw [this, hc]

mutual
theorem checkT {em : Bool} : ∀ (d t : Nat) (ls : List Leaf), leavesT P d t = some ls → ∀ (n : Nat), d ≤ n → ∀ (X : List Value) (w : World), ls.length ≤ X.length →
    (Instr.checkKey em n t (valOf P t ls.length X)).run P w = .ok () w
  | 0, t, ls, h, _, _, _, _, _ => by simp [leavesT] at h
  | d + 1, t, ls, h, 0, hn, _, _, _ => by omega
  | d + 1, t, ls, h, n + 1, hn, X, w, hX => by
    cases hu : P.underlying t with
    | none => simp [leavesT, hu] at h
    | some td =>
      simp only [leavesT, hu] at h
      cases td with
      | int k => exact check_leaf hu (.inr (.inr ⟨k, rfl⟩)) _ w
      | bool => exact check_leaf hu (.inl rfl) _ w
      | string => exact check_leaf hu (.inr (.inl rfl)) _ w
      | struct fs =>
        simp only at h
        split at h
        · cases h
        · simp only [valOf, hu, Instr.checkKey, Sem.run_bind, run_underlying hu, Result.andThen_ok]
          rw [← Array.forIn_toList]
          have := checkF (em := em) d 0 fs.toList ls h n (by omega) (X.take ls.length) w (by simp; omega)
          rw [this]; rfl
      | array m e =>
        simp only at h
        split at h
        · rename_i l hl
          split at h
          · rename_i hc
            have hc := Nat.eq_of_beq_eq_true hc
            cases h
            have hue : ∃ i, P.info? e = some i := by
              cases hi : P.info? e with
              | some i => exact ⟨i, rfl⟩
              | none => cases d <;> simp [leavesT, Program.underlying, hi] at hl
            obtain ⟨i, hi⟩ := hue
            simp only [valOf, hu, Instr.checkKey, Sem.run_bind, run_underlying hu, Result.andThen_ok]
            simp only [Std.Legacy.Range.forIn_eq_forIn_range', Std.Legacy.Range.size, Nat.sub_zero, Nat.add_one_sub_one, Nat.div_one]
            rw [repl_length] at hX ⊢
            have gen : ∀ (k j : Nat) (w : World), (j + k) * l.length ≤ (X.take (m * l.length)).length →
                (forIn (List.range' j k) PUnit.unit fun i _ => (do Instr.checkKey em n e (← part e ⟨X.take (m * l.length)⟩ (i * (← sizeOf e))); Pure.pure PUnit.unit; Pure.pure (ForInStep.yield PUnit.unit) : Sem (ForInStep PUnit))).run P w = .ok PUnit.unit w := by
              intro k
              induction k with
              | zero => intro j w _; simp
              | succ k ih =>
                intro j w hL
                have hL' : j * l.length + l.length ≤ (X.take (m * l.length)).length := by
                  have : (j + (k + 1)) * l.length = j * l.length + l.length + k * l.length := by
                    rw [Nat.add_mul, Nat.succ_mul]; omega
                  omega
                simp only [List.range'_succ, List.forIn_cons, Sem.run_bind, run_sizeOf w hi, Result.andThen_ok, ← hc]
                rw [run_part_leaf2 w hl hc _ _ hL']
                simp only [Result.andThen_ok]
                rw [checkT d e l hl n (by omega) _ w (by rw [List.length_drop]; omega)]
                simp only [Result.andThen_ok, Sem.run_pure]
                have := ih (j + 1) w (by rw [show j + 1 + k = j + (k + 1) from by omega]; exact hL)
                simpa only [← hc] using this
            have := gen m 0 w (by simp; omega)
            simp at this ⊢
            rw [this]; rfl
          · cases h
        · cases h
      | _ => simp at h
theorem checkF {em : Bool} : ∀ (d off : Nat) (fs : List Field) (ls : List Leaf), leavesF P d off fs = some ls → ∀ (n : Nat), d ≤ n → ∀ (X : List Value) (w : World), off + ls.length ≤ X.length →
    (forIn fs PUnit.unit fun f _ => (do if f.name ≠ "_" then Instr.checkKey em n f.type (← part f.type ⟨X⟩ f.offset); Pure.pure PUnit.unit; Pure.pure (ForInStep.yield PUnit.unit) else Pure.pure (ForInStep.yield PUnit.unit) : Sem (ForInStep PUnit))).run P w = .ok PUnit.unit w
  | _, _, [], _, _, _, _, _, w, _ => by simp
  | 0, off, f :: fs, ls, h, _, _, _, _, _ => by simp [leavesF] at h
  | d + 1, off, f :: fs, ls, h, n, hn, X, w, hX => by
    simp only [leavesF] at h
    split at h
    · cases h
    · rename_i l hl
      split at h
      · cases h
      · rename_i r hr
        split at h
        · rename_i q1 q2 q3
          cases h
          have q2 := Nat.eq_of_beq_eq_true q2
          have hc := Nat.eq_of_beq_eq_true q3
          have hname : f.name ≠ "_" := by simpa using q1
          simp only [List.length_append] at hX
          simp only [List.forIn_cons, if_pos hname, Sem.run_bind, q2]
          rw [run_part_leaf2 w hl hc _ _ (by omega)]
          simp only [Result.andThen_ok]
          rw [checkT d f.type l hl n (by omega) _ w (by rw [List.length_drop]; omega)]
          simp only [Result.andThen_ok, Sem.run_pure]
          exact checkF d (off + l.length) fs r hr n (by omega) X w (by omega)
        · cases h
end

/-- an abstract key and its value: what the key type asks -/
theorem keyOk_check {em : Bool} {t : Nat} {d : TypeDesc} {ls : List Leaf} {k : AV} (hd : P.underlying t = some d) (hl : leavesT P 40 t = some ls) (hk : keyOk (isAggD d) ls k = true) {E : Env} {K : Value} (hc : conc E k = some K) (w : World) :
    (Instr.checkKey em 10000 t K).run P w = .ok () w := by
  unfold keyOk at hk
  split at hk
  · rename_i cs
    split at hk
    · rename_i hagg
      have hlen := Nat.eq_of_beq_eq_true hk
      obtain ⟨_, vs, hvs, rfl⟩ := conc_agg_inv hc
      have h1 := concs_length hvs
      have := checkT (em := em) 40 t ls hl 10000 (by omega) vs w (by omega)
      have e : valOf P t ls.length vs = .agg ⟨vs⟩ := by
        unfold valOf
        rw [hd]
        cases d <;> simp [isAggD] at hagg <;> simp only <;> rw [List.take_of_length_le (by omega)]
      rw [e] at this; exact this
    · cases hk
  · cases hk
  · split at hk
    · rename_i l hagg
      have : d = .bool ∨ d = .string ∨ ∃ k, d = .int k := by
        simp only [leavesT, hd] at hl
        cases d <;> simp [isAggD] at hagg hl
        · exact .inl rfl
        · exact .inr (.inr ⟨_, rfl⟩)
        · exact .inr (.inl rfl)
      exact check_leaf hd this _ w
    · cases hk

theorem eqLeaves_same (ok : CxOK P σ cx) {E : Env} (hσ : E.σ = σ) : ∀ {ls : List Leaf} {xs ys : List AV} {X Y : List Value}, eqLeaves cx.facts ls xs ys = some true → concs E xs = some X → concs E ys = some Y → X = Y
  | [], xs, ys, X, Y, h, hx, hy => by
    cases xs <;> cases ys <;> simp [eqLeaves] at h
    rw [hx] at hy; cases hy; rfl
  | l :: ls, [], ys, X, Y, h, _, _ => by simp [eqLeaves] at h
  | l :: ls, a :: x, [], X, Y, h, _, _ => by simp [eqLeaves] at h
  | l :: ls, a :: x, b :: y, X, Y, h, hx, hy => by
    obtain ⟨A, X', hA, hX', rfl⟩ := concs_cons hx
    obtain ⟨B, Y', hB, hY', rfl⟩ := concs_cons hy
    simp only [eqLeaves] at h
    split at h
    · rename_i h1
      rw [eqLeaves_same ok hσ h hX' hY']
      have := eqLeaf_sound ok h1 hσ hA hB
      cases l with
      | int => obtain ⟨k, n, m, rfl, rfl, hh⟩ := this; have : n = m := by simpa using hh.symm
               rw [this]
      | bool => obtain ⟨n, m, rfl, rfl, hh⟩ := this; have : n = m := by simpa using hh.symm
                rw [this]
      | str =>
        obtain ⟨n, m, rfl, rfl, hh⟩ := this
        have : n.toList = m.toList := by simpa using hh.symm
        have : n = m := by
          apply ByteArray.ext
          rw [ByteArray.toList_eq, ByteArray.toList_eq] at this
          exact Array.toList_inj.1 this
        rw [this]
    · cases h
    · cases h

/-- values that the keys here are made of -/
def Flat : Value → Bool
  | .bool _ | .int _ _ | .string _ => true
  | _ => false
theorem sameBits_flat (n : Nat) {v : Value} (h : Flat v = true) : Instr.sameBits n v v = true := by
  have hb : ∀ s : ByteArray, (s == s) = true := fun s => by rw [beq_toListBytes]; simp
  cases v <;> simp [Flat] at h <;> cases n <;> simp [Instr.sameBits, hb]
theorem sameBits_agg (n : Nat) {vs : List Value} (h : ∀ v ∈ vs, Flat v = true) : Instr.sameBits (n + 1) (.agg ⟨vs⟩) (.agg ⟨vs⟩) = true := by
  simp only [Instr.sameBits, beq_self_eq_true, Bool.true_and, List.all_eq_true]
  intro p hp
  have hz : ∀ (l : List Value) (q : Value × Value), q ∈ l.zip l → q.1 = q.2 ∧ q.1 ∈ l := by
    intro l
    induction l with
    | nil => intro q hq; simp at hq
    | cons a l ih =>
      intro q hq
      simp only [List.zip_cons_cons, List.mem_cons] at hq
      rcases hq with rfl | hq
      · simp
      · have := ih q hq; exact ⟨this.1, by simp [this.2]⟩
  obtain ⟨h1, h2⟩ := hz vs p hp
  obtain ⟨a, b⟩ := p
  simp only at h1 h2
  subst h1
  exact sameBits_flat n (h a h2)
theorem eqLeaves_flat (ok : CxOK P σ cx) {E : Env} (hσ : E.σ = σ) : ∀ {ls : List Leaf} {xs ys : List AV} {X : List Value}, eqLeaves cx.facts ls xs ys = some true → concs E xs = some X → (∃ Y, concs E ys = some Y) → ∀ v ∈ X, Flat v = true
  | [], xs, ys, X, h, hx, _ => by
    cases xs <;> cases ys <;> simp [eqLeaves] at h
    simp [concs] at hx; subst hx; simp
  | l :: ls, [], ys, X, h, _, _ => by simp [eqLeaves] at h
  | l :: ls, a :: x, [], X, h, _, _ => by simp [eqLeaves] at h
  | l :: ls, a :: x, b :: y, X, h, hx, ⟨Y, hy⟩ => by
    obtain ⟨A, X', hA, hX', rfl⟩ := concs_cons hx
    obtain ⟨B, Y', hB, hY', rfl⟩ := concs_cons hy
    simp only [eqLeaves] at h
    split at h
    · rename_i h1
      have ih := eqLeaves_flat ok hσ h hX' ⟨Y', hY'⟩
      have := eqLeaf_sound ok h1 hσ hA hB
      intro v hv
      rcases List.mem_cons.1 hv with rfl | hv
      · cases l with
        | int => obtain ⟨k, n, m, rfl, rfl, hh⟩ := this; rfl
        | bool => obtain ⟨n, m, rfl, rfl, hh⟩ := this; rfl
        | str => obtain ⟨n, m, rfl, rfl, hh⟩ := this; rfl
      · exact ih v hv
    · cases h
    · cases h

/-! ## where a key stands -/
theorem keyEq_agg (ok : CxOK P σ cx) {E : Env} (hσ : E.σ = σ) {t : Nat} {d : TypeDesc} {ls : List Leaf} (hd : P.underlying t = some d) (hl : leavesT P 40 t = some ls) (hagg : isAggD d = true) {xs : List AV} (hlen : xs.length = ls.length)
    {k' : AV} {b : Bool} (h : keyEq cx.facts ls (.agg xs) k' = some b) {K K' : Value} (hk : conc E (.agg xs) = some K) (hk' : conc E k' = some K') : (∀ w, (Op.equal t K K').run P w = .ok b w) ∧ (b = true → K = K' ∧ ∀ n, Instr.sameBits (n + 1) K K = true) := by
  unfold keyEq at h
  cases k' <;> simp only [reduceCtorEq] at h
  rename_i ys
  split at h
  · rename_i hy
    have hy := Nat.eq_of_beq_eq_true hy
    obtain ⟨_, vs, hvs, rfl⟩ := conc_agg_inv hk
    obtain ⟨_, us, hus, rfl⟩ := conc_agg_inv hk'
    have h1 := concs_length hvs
    have h2 := concs_length hus
    have hv : ∀ (Z : List Value), Z.length = ls.length → valOf P t ls.length Z = .agg ⟨Z⟩ := by
      intro Z hz
      unfold valOf
      rw [hd]
      cases d <;> simp [isAggD] at hagg <;> simp only <;> rw [List.take_of_length_le (by omega)]
    refine ⟨fun w => ?_, fun hb => ?_⟩
    · have := equalT ok hσ 40 t ls hl 10000 (by omega) xs ys vs us b w hvs hus (eqPre_of h)
      rw [hv vs (by omega), hv us (by omega)] at this
      exact this
    · subst hb
      have := eqLeaves_same ok hσ h hvs hus
      subst this
      exact ⟨rfl, fun n => sameBits_agg n (eqLeaves_flat ok hσ h hvs ⟨_, hus⟩)⟩
  · cases h

theorem keyEq_one (ok : CxOK P σ cx) {E : Env} (hσ : E.σ = σ) {t : Nat} {d : TypeDesc} {l : Leaf} (hd : P.underlying t = some d) (hl : leavesT P 40 t = some [l]) (hagg : isAggD d = false) {k k' : AV} (hna : ∀ c, k ≠ .agg c)
    {b : Bool} (h : keyEq cx.facts [l] k k' = some b) {K K' : Value} (hk : conc E k = some K) (hk' : conc E k' = some K') : Instr.sameNow d K K' = some b ∧ (b = true → K = K' ∧ ∀ n, Instr.sameBits (n + 1) K K = true) := by
  have hh : eqLeaves cx.facts [l] [k] [k'] = some b := by
    unfold keyEq at h
    split at h
    · exact absurd rfl (hna _)
    · split at h
      · cases h
      · exact h
  have hx : concs E [k] = some [K] := concs_mk hk rfl
  have hy : concs E [k'] = some [K'] := concs_mk hk' rfl
  have hleaf : LeafEq l K K' b := by
    simp only [eqLeaves] at hh
    split at hh
    · rename_i h1; cases hh; exact eqLeaf_sound ok h1 hσ hk hk'
    · rename_i h1; cases hh; exact eqLeaf_sound ok h1 hσ hk hk'
    · cases hh
  refine ⟨?_, fun hb => ?_⟩
  · simp only [leavesT, hd] at hl
    cases d <;> simp [isAggD] at hagg hl
    · subst hl; obtain ⟨x, y, rfl, rfl, rfl⟩ := hleaf; rfl
    · subst hl; obtain ⟨q, x, y, rfl, rfl, rfl⟩ := hleaf; simp [Instr.sameNow]
    · subst hl; obtain ⟨x, y, rfl, rfl, rfl⟩ := hleaf; simp [Instr.sameNow, beq_toListBytes]
  · subst hb
    have e := eqLeaves_same ok hσ hh hx hy
    have f := eqLeaves_flat ok hσ hh hx ⟨_, hy⟩ K (by simp)
    simp only [List.cons.injEq, and_true] at e
    exact ⟨e, fun n => sameBits_flat _ f⟩

/-- what findKey answers -/
def FindRes (E : Env) (es : List (AV × AV × Nat)) (EL : List MapEntry) (K : Value) (base : Nat) : Option Nat → Option (Nat × Value) → Prop
  | none, r => r = none
  | some n, r => ∃ k v b k' v', es[n]? = some (k, v, b) ∧ EL[n]? = some ⟨k', v', b⟩ ∧ conc E k = some k' ∧ conc E v = some v' ∧ r = some (base + n, v') ∧ k' = K ∧ ∀ m, Instr.sameBits (m + 1) K K = true

theorem findAsk_sound (ok : CxOK P σ cx) {E : Env} (hσ : E.σ = σ) {t : Nat} {d : TypeDesc} {ls : List Leaf} (hd : P.underlying t = some d) (hl : leavesT P 40 t = some ls) (hagg : isAggD d = true) {xs : List AV} (hlen : xs.length = ls.length)
    {K : Value} (hk : conc E (.agg xs) = some K) (w : World) : ∀ {es : List (AV × AV × Nat)} {EL : List MapEntry} {r : Option Nat}, findI cx.facts ls (.agg xs) es = some r → concE E es = some EL → ∀ i,
    ∃ R, (Instr.findAsking t K EL i).run P w = .ok R w ∧ FindRes E es EL K i r R
  | [], EL, r, h, he, i => by
    simp [concE] at he; subst he
    simp only [findI, Option.some.injEq] at h; subst h
    exact ⟨none, by simp [Instr.findAsking], rfl⟩
  | (k, v, b) :: es, EL, r, h, he, i => by
    obtain ⟨k', v', EL', h1, h2, h3, rfl⟩ := concE_cons he
    simp only [findI] at h
    split at h
    · rename_i hq
      cases h
      obtain ⟨e1, e2⟩ := keyEq_agg ok hσ hd hl hagg hlen hq hk h1
      obtain ⟨e3, e4⟩ := e2 rfl
      refine ⟨some (i, v'), by simp [Instr.findAsking, e1], k, v, b, k', v', rfl, rfl, h1, h2, rfl, e3.symm, e4⟩
    · rename_i hq
      obtain ⟨e1, _⟩ := keyEq_agg ok hσ hd hl hagg hlen hq hk h1
      split at h
      · rename_i n hn
        cases h
        obtain ⟨R, hR, hres⟩ := findAsk_sound ok hσ hd hl hagg hlen hk w hn h3 (i + 1)
        refine ⟨R, by simp [Instr.findAsking, e1, hR], ?_⟩
        obtain ⟨k2, v2, b2, k3, v3, q1, q2, q3, q4, q5, q6, q7⟩ := hres
        exact ⟨k2, v2, b2, k3, v3, by simpa using q1, by simpa using q2, q3, q4, by rw [q5]; congr 2; omega, q6, q7⟩
      · rename_i hn
        cases h
        obtain ⟨R, hR, hres⟩ := findAsk_sound ok hσ hd hl hagg hlen hk w hn h3 (i + 1)
        exact ⟨R, by simp [Instr.findAsking, e1, hR], hres⟩
      · cases h
    · cases h

theorem findNow_sound (ok : CxOK P σ cx) {E : Env} (hσ : E.σ = σ) {t : Nat} {d : TypeDesc} {l : Leaf} (hd : P.underlying t = some d) (hl : leavesT P 40 t = some [l]) (hagg : isAggD d = false) {k : AV} (hna : ∀ c, k ≠ .agg c)
    {K : Value} (hk : conc E k = some K) : ∀ {es : List (AV × AV × Nat)} {EL : List MapEntry} {r : Option Nat}, findI cx.facts [l] k es = some r → concE E es = some EL → ∀ i,
    ∃ R, Instr.findNow d K EL i = some R ∧ FindRes E es EL K i r R
  | [], EL, r, h, he, i => by
    simp [concE] at he; subst he
    simp only [findI, Option.some.injEq] at h; subst h
    exact ⟨none, by simp [Instr.findNow], rfl⟩
  | (k1, v, b) :: es, EL, r, h, he, i => by
    obtain ⟨k', v', EL', h1, h2, h3, rfl⟩ := concE_cons he
    simp only [findI] at h
    split at h
    · rename_i hq
      cases h
      obtain ⟨e1, e2⟩ := keyEq_one ok hσ hd hl hagg hna hq hk h1
      obtain ⟨e3, e4⟩ := e2 rfl
      refine ⟨some (i, v'), by simp [Instr.findNow, e1], k1, v, b, k', v', rfl, rfl, h1, h2, rfl, e3.symm, e4⟩
    · rename_i hq
      obtain ⟨e1, _⟩ := keyEq_one ok hσ hd hl hagg hna hq hk h1
      split at h
      · rename_i n hn
        cases h
        obtain ⟨R, hR, hres⟩ := findNow_sound ok hσ hd hl hagg hna hk hn h3 (i + 1)
        refine ⟨R, by simp [Instr.findNow, e1, hR], ?_⟩
        obtain ⟨k2, v2, b2, k3, v3, q1, q2, q3, q4, q5, q6, q7⟩ := hres
        exact ⟨k2, v2, b2, k3, v3, by simpa using q1, by simpa using q2, q3, q4, by rw [q5]; congr 2; omega, q6, q7⟩
      · rename_i hn
        cases h
        obtain ⟨R, hR, hres⟩ := findNow_sound ok hσ hd hl hagg hna hk hn h3 (i + 1)
        exact ⟨R, by simp [Instr.findNow, e1, hR], hres⟩
      · cases h
    · cases h

theorem findKey_sound (ok : CxOK P σ cx) {E : Env} (hσ : E.σ = σ) {t : Nat} {d : TypeDesc} {ls : List Leaf} (hd : P.underlying t = some d) (hl : leavesT P 40 t = some ls) {k : AV} (hko : keyOk (isAggD d) ls k = true)
    {K : Value} (hk : conc E k = some K) {es : List (AV × AV × Nat)} {EL : List MapEntry} {r : Option Nat} (h : findI cx.facts ls k es = some r) (he : concE E es = some EL) (w : World) :
    ∃ R, (Instr.findKey t K EL).run P w = .ok R w ∧ FindRes E es EL K 0 r R := by
  unfold keyOk at hko
  split at hko
  · rename_i cs
    split at hko
    · rename_i hagg
      have hlen := Nat.eq_of_beq_eq_true hko
      obtain ⟨R, hR, hres⟩ := findAsk_sound ok hσ hd hl hagg hlen hk w h he 0
      refine ⟨R, ?_, hres⟩
      have hnow : Instr.findNow d K EL 0 = none ∨ EL = [] := by
        cases EL with
        | nil => exact .inr rfl
        | cons e EL =>
          left
          have : Instr.sameNow d K e.key = none := by
            obtain ⟨_, vs, _, rfl⟩ := conc_agg_inv hk
            cases d <;> simp [isAggD] at hagg <;> rfl
          simp [Instr.findNow, this]
      rcases hnow with hnow | rfl
      · simp only [Instr.findKey, Sem.run_bind, run_underlying hd, Result.andThen_ok, hnow]
        exact hR
      · simp only [Instr.findAsking, Sem.run_pure] at hR
        simp only [Instr.findKey, Sem.run_bind, run_underlying hd, Result.andThen_ok, Instr.findNow, Sem.run_pure]
        exact hR
    · cases hko
  · cases hko
  · rename_i hna _
    split at hko
    · rename_i l hagg
      obtain ⟨R, hR, hres⟩ := findNow_sound ok hσ hd hl hagg hna hk h he 0
      exact ⟨R, by simp only [Instr.findKey, Sem.run_bind, run_underlying hd, Result.andThen_ok, hR, Sem.run_pure], hres⟩
    · cases hko
end Go.Abs

namespace Go.Abs
open Go.RowKit

variable {P : Program} {σ : Val} {cx : Cx}

theorem mapTy_sound (ok : CxOK P σ cx) {t : Nat} {ag : Bool} {ls : List Leaf} {ei : TyI} (h : mapTy cx t = some (ag, ls, ei)) :
    ∃ k e d, P.underlying t = some (.map k e) ∧ P.underlying k = some d ∧ ag = isAggD d ∧ leavesT P 40 k = some ls ∧ cx.tt.get e = some ei := by
  unfold mapTy at h
  split at h
  · rename_i ti hti
    obtain ⟨d, hd, hk, hag⟩ := und_of ok hti
    split at h
    · rename_i k e he
      rw [he] at hk
      have := und_map hk.symm; subst this
      split at h
      · rename_i ki ei' hki hei
        split at h
        · rename_i ls' hls
          cases h
          obtain ⟨dk, hdk, _, hagk⟩ := und_of ok hki
          exact ⟨k, e, dk, hd, hdk, hagk, ((TI.of ok hki).leaves _ hls).2.1, hei⟩
        · cases h
      · cases h
    · cases h
  · cases h

theorem map_at {E : Env} {B : Nat} {w0 : World} {h : AH} {w : World} (hr : Rel E B w0 h w) {i : Nat} {es : List (AV × AV × Nat)} {c : Nat} {p : Pl} (hi : h.objs.get i = some (.map es c)) (hp : E.φ i = some p) :
    ∃ l, concE E es = some l ∧ w.heap[p.block]? = some (.map l.toArray c) := (hr.objs i _ p hi hp).2

theorem run_getObj_map {w : World} {r : Nat} {es : Array MapEntry} {c : Nat} (h : w.heap[r]? = some (.map es c)) : (getObj r).run P w = .ok (.map es c) w := by
  simp [getObj, Sem.run, h]
theorem run_setObj_map {w : World} {r : Nat} {es : Array MapEntry} {c : Nat} (h : w.heap[r]? = some (.map es c)) (o : Obj) : (setObj r o).run P w = .ok () { w with heap := w.heap.setIfInBounds r o } := by
  simp [setObj, Sem.run, h]

theorem concE_get {E : Env} : ∀ {es : List (AV × AV × Nat)} {l : List MapEntry}, concE E es = some l → ∀ (n : Nat) (k v : AV) (b : Nat), es[n]? = some (k, v, b) → ∃ k' v', l[n]? = some ⟨k', v', b⟩ ∧ conc E k = some k' ∧ conc E v = some v'
  | [], _, _, n, k, v, b, h => by simp at h
  | (k, v, b) :: es, l, h, n, k1, v1, b1, hn => by
    obtain ⟨k', v', l', h1, h2, h3, rfl⟩ := concE_cons h
    cases n with
    | zero => simp at hn; obtain ⟨rfl, rfl, rfl⟩ := hn; exact ⟨k', v', rfl, h1, h2⟩
    | succ n => simp at hn; simpa using concE_get h3 n k1 v1 b1 hn

theorem okTup_conc {E : Env} {ok b : Bool} {v : AV} {V : Value} (h : conc E v = some V) : conc E (okTup ok v b) = some (if ok then .tuple #[V, .bool b] else V) := by
  cases ok
  · exact h
  · simp [okTup, conc, concs, h]

theorem lookA_sound (ok : CxOK P σ cx) {h : AH} {t : Nat} {c : Bool} {m k v : AV} (hl : lookA cx h t c m k = some v) {E : Env} (hσ : E.σ = σ) {B : Nat} {w0 w : World} (hr : Rel E B w0 h w) {M K : Value} (hm : conc E m = some M) (hk : conc E k = some K) :
    ∃ V, conc E v = some V ∧ (Instr.lookup t M K c).run P w = .ok V w := by
  unfold lookA at hl
  split at hl
  · rename_i ag ls ei hty
    obtain ⟨kt, et, d, hd, hdk, rfl, hlv, hei⟩ := mapTy_sound ok hty
    have zero : ∀ x, ofCells ei.agg ei.zero = some x → ∃ z, conc E x = some z ∧ ∀ w, (zeroValue et).run P w = .ok z w := fun x hx => (TI.of ok hei).zof x hx E
    have main : ∀ (EL : List MapEntry) (es : List (AV × AV × Nat)) (r : Option Nat), concE E es = some EL → findI cx.facts ls k es = some r → keyOk (isAggD d) ls k = true →
        (∀ n, r = some n → ∃ kk vv b, es[n]? = some (kk, vv, b) ∧ v = okTup c vv true) → (r = none → ∃ z, ofCells ei.agg ei.zero = some z ∧ v = okTup c z false) →
        ∃ V, conc E v = some V ∧ (do
          Instr.checkKey EL.toArray.isEmpty 10000 kt K
          let (v, okb) ← match ← Instr.findKey kt K EL.toArray.toList with
            | some (_, v) => Pure.pure (v, true)
            | none => Pure.pure (← zeroValue et, false)
          Pure.pure (if c then .tuple #[v, .bool okb] else v) : Sem Value).run P w = .ok V w := by
      intro EL es r he hf hko h1 h2
      obtain ⟨R, hR, hres⟩ := findKey_sound ok hσ hdk hlv hko hk hf he w
      have hck := keyOk_check (em := EL.toArray.isEmpty) hdk hlv hko hk w
      cases r with
      | none =>
        obtain ⟨z, hz, rfl⟩ := h2 rfl
        obtain ⟨Z, hZ, hzr⟩ := zero z hz
        have : R = none := hres
        subst this
        refine ⟨_, okTup_conc hZ, ?_⟩
        simp only [Sem.run_bind, hck, Result.andThen_ok, hR, hzr, Sem.run_pure]
      | some n =>
        obtain ⟨kk, vv, b, hn, rfl⟩ := h1 n rfl
        obtain ⟨k2, v2, b2, k3, v3, q1, q2, q3, q4, rfl, _⟩ := hres
        rw [hn] at q1; cases q1
        refine ⟨_, okTup_conc q4, ?_⟩
        simp only [Sem.run_bind, hck, Result.andThen_ok, hR, Sem.run_pure]
    split at hl
    · rename_i vv hko hlk
      cases hl
      unfold lookM at hlk
      split at hlk
      · cases hlk
      · rename_i i
        split at hlk
        · rename_i es cl hi
          split at hlk
          · rename_i n hf
            split at hlk
            · rename_i kk v' b hn
              cases hlk
              rw [nth_eq] at hn
              obtain ⟨p, hp, rfl⟩ := conc_map hm
              obtain ⟨EL, hEL, hw⟩ := map_at hr hi hp
              obtain ⟨V, hV, hrun⟩ := main EL es _ hEL hf hko (fun n' h' => by cases h'; exact ⟨_, _, _, hn, rfl⟩) (fun h' => by cases h')
              refine ⟨V, hV, ?_⟩
              simp only [Instr.lookup, Sem.run_bind, run_underlying hd, Result.andThen_ok, run_getObj_map hw, Sem.run_pure] at hrun ⊢
              exact hrun
            · cases hlk
          · cases hlk
          · cases hlk
        · cases hlk
      · cases hlk
    · rename_i hko hlk
      split at hl
      · rename_i z hz
        cases hl
        unfold lookM at hlk
        split at hlk
        · cases (Option.some.inj hm : Value.map none = M)
          obtain ⟨V, hV, hrun⟩ := main [] [] none rfl rfl hko (fun n' h' => by cases h') (fun _ => ⟨z, hz, rfl⟩)
          refine ⟨V, hV, ?_⟩
          simp only [Instr.lookup, Sem.run_bind, run_underlying hd, Result.andThen_ok, Sem.run_pure] at hrun ⊢
          exact hrun
        · rename_i i
          split at hlk
          · rename_i es cl hi
            split at hlk
            · split at hlk <;> cases hlk
            · rename_i hf
              obtain ⟨p, hp, rfl⟩ := conc_map hm
              obtain ⟨EL, hEL, hw⟩ := map_at hr hi hp
              obtain ⟨V, hV, hrun⟩ := main EL es none hEL hf hko (fun n' h' => by cases h') (fun _ => ⟨z, hz, rfl⟩)
              refine ⟨V, hV, ?_⟩
              simp only [Instr.lookup, Sem.run_bind, run_underlying hd, Result.andThen_ok, run_getObj_map hw, Sem.run_pure] at hrun ⊢
              exact hrun
            · cases hlk
          · cases hlk
        · cases hlk
      · cases hl
    · cases hl
  · cases hl

/-! ## map writes -/
theorem setI_conc {E : Env} {k v : AV} {K V : Value} (hk : conc E k = some K) (hv : conc E v = some V) : ∀ (n : Nat) {es : List (AV × AV × Nat)} {l : List MapEntry}, concE E es = some l →
    concE E (setI k v n es) = some (l.modify n fun e => { e with key := K, val := V })
  | n, [], l, h => by simp [concE] at h; subst h; simp [setI, concE]
  | 0, (k1, v1, b) :: es, l, h => by
    obtain ⟨k', v', l', h1, h2, h3, rfl⟩ := concE_cons h
    simpa [setI] using concE_mk hk hv h3
  | n + 1, (k1, v1, b) :: es, l, h => by
    obtain ⟨k', v', l', h1, h2, h3, rfl⟩ := concE_cons h
    simpa [setI] using concE_mk h1 h2 (setI_conc hk hv n h3)
theorem delI_conc {E : Env} : ∀ (n : Nat) {es : List (AV × AV × Nat)} {l : List MapEntry}, concE E es = some l → concE E (delI n es) = some (l.eraseIdx n)
  | n, [], l, h => by simp [concE] at h; subst h; simp [delI, concE]
  | 0, (k1, v1, b) :: es, l, h => by
    obtain ⟨k', v', l', h1, h2, h3, rfl⟩ := concE_cons h
    simpa [delI] using h3
  | n + 1, (k1, v1, b) :: es, l, h => by
    obtain ⟨k', v', l', h1, h2, h3, rfl⟩ := concE_cons h
    simpa [delI] using concE_mk h1 h2 (delI_conc n h3)
theorem pushE_conc {E : Env} {k v : AV} {b : Nat} {K V : Value} (hk : conc E k = some K) (hv : conc E v = some V) : ∀ {es : List (AV × AV × Nat)} {l : List MapEntry}, concE E es = some l →
    concE E (es ++ [(k, v, b)]) = some (l ++ [⟨K, V, b⟩])
  | [], l, h => by simp [concE] at h; subst h; simpa using concE_mk hk hv rfl
  | (k1, v1, b1) :: es, l, h => by
    obtain ⟨k', v', l', h1, h2, h3, rfl⟩ := concE_cons h
    simpa using concE_mk h1 h2 (pushE_conc hk hv h3)

theorem mapWrite {E : Env} {B : Nat} {w0 : World} {h : AH} {w : World} (hr : Rel E B w0 h w) {i : Nat} {es es' : List (AV × AV × Nat)} {c c' : Nat} {p : Pl} (hi : h.objs.get i = some (.map es c)) (hp : E.φ i = some p)
    {l : List MapEntry} (hl : concE E es' = some l) : Post E B w0 h w E ⟨h.objs.set i (.map es' c'), h.next⟩ { w with heap := w.heap.setIfInBounds p.block (.map l.toArray c') } :=
  Post.write hr hi hp rfl _ fun _ hw' => ⟨(hr.objs i _ p hi hp).1, l, hl, hw'⟩

theorem mapUpdA_sound (ok : CxOK P σ cx) {h h' : AH} {t : Nat} {m k v : AV} (hu : mapUpdA cx h t m k v = some h') {E : Env} (hσ : E.σ = σ) {B : Nat} {w0 w : World} (hr : Rel E B w0 h w) {M K V : Value} (hm : conc E m = some M) (hk : conc E k = some K)
    (hv : conc E v = some V) : ∃ w', (Instr.mapUpdate t M K V).run P w = .ok () w' ∧ Post E B w0 h w E h' w' := by
  unfold mapUpdA at hu
  split at hu
  · rename_i i ag ls ei hty
    obtain ⟨kt, et, d, hd, hdk, rfl, hlv, hei⟩ := mapTy_sound ok hty
    obtain ⟨p, hp, rfl⟩ := conc_map hm
    split at hu
    · rename_i es c hi
      obtain ⟨EL, hEL, hw⟩ := map_at hr hi hp
      split at hu
      · rename_i hko hf
        cases hu
        obtain ⟨R, hR, hres⟩ := findKey_sound ok hσ hdk hlv hko hk hf hEL w
        have : R = none := hres
        subst this
        refine ⟨_, ?_, mapWrite hr hi hp (pushE_conc hk hv hEL)⟩
        simp only [Instr.mapUpdate, Sem.run_bind, run_underlying hd, Result.andThen_ok, run_getObj_map hw, keyOk_check hdk hlv hko hk w, hR, run_setObj_map hw]
        simp
      · rename_i n hko hf
        cases hu
        obtain ⟨R, hR, k2, v2, b2, k3, v3, q1, q2, q3, q4, rfl, rfl, q7⟩ := findKey_sound ok hσ hdk hlv hko hk hf hEL w
        refine ⟨_, ?_, mapWrite hr hi hp (setI_conc hk hv n hEL)⟩
        have hget : EL.toArray[0 + n]? = some ⟨k3, v3, b2⟩ := by simpa using q2
        simp only [Instr.mapUpdate, Sem.run_bind, run_underlying hd, Result.andThen_ok, run_getObj_map hw, keyOk_check hdk hlv hko hk w, hR, hget, Option.map_some, Option.getD_some, Instr.keyThatStays, q7 9999, if_true, Sem.run_pure, run_setObj_map hw]
        congr 3
        simp
      · cases hu
    · cases hu
  · cases hu

theorem delM_sound (ok : CxOK P σ cx) {h h' : AH} {t : Nat} {m k v : AV} (hu : delM cx h t m k = .val v h') {E : Env} (hσ : E.σ = σ) {B : Nat} {w0 w : World} (hr : Rel E B w0 h w) {M K : Value} (hm : conc E m = some M) (hk : conc E k = some K)
    (ts : Array TypeId) (hts : ts[0]? = some t) (ty : TypeId) : v = .undef ∧ ∃ w', (Builtin.delete_ ts ty #[M, K]).run P w = .ok undef w' ∧ Post E B w0 h w E h' w' := by
  unfold delM at hu
  split at hu
  · rename_i i ag ls ei hty
    obtain ⟨kt, et, d, hd, hdk, rfl, hlv, hei⟩ := mapTy_sound ok hty
    obtain ⟨p, hp, rfl⟩ := conc_map hm
    split at hu
    · rename_i es c hi
      obtain ⟨EL, hEL, hw⟩ := map_at hr hi hp
      split at hu
      · rename_i hko hf
        cases hu
        obtain ⟨R, hR, hres⟩ := findKey_sound ok hσ hdk hlv hko hk hf hEL w
        have : R = none := hres
        subst this
        refine ⟨rfl, _, ?_, mapWrite hr hi hp hEL⟩
        simp only [Builtin.delete_, hts]
        simp [Sem.run_bind, run_underlying hd, run_getObj_map hw, keyOk_check hdk hlv hko hk w, hR, run_setObj_map hw, undef]
      · rename_i n hko hf
        cases hu
        obtain ⟨R, hR, k2, v2, b2, k3, v3, q1, q2, q3, q4, rfl, rfl, q7⟩ := findKey_sound ok hσ hdk hlv hko hk hf hEL w
        refine ⟨rfl, _, ?_, mapWrite hr hi hp (delI_conc n hEL)⟩
        simp only [Builtin.delete_, hts]
        have hlt : n < EL.length := by
          rcases Nat.lt_or_ge n EL.length with h' | h'
          · exact h'
          · rw [List.getElem?_eq_none h'] at q2; cases q2
        have her : EL.toArray.eraseIdxIfInBounds (0 + n) = (EL.eraseIdx n).toArray := by
          apply Array.ext'
          simp [Array.toList_eraseIdxIfInBounds]
        simp [Sem.run_bind, run_underlying hd, run_getObj_map hw, keyOk_check hdk hlv hko hk w, hR, run_setObj_map hw, undef, her]
      · cases hu
    · cases hu
  · cases hu
end Go.Abs

namespace Go.Abs
open Go.RowKit

variable {P : Program} {σ : Val} {cx : Cx}

theorem capA_sound (ok : CxOK P σ cx) {t : Nat} {x v : AV} (hl : capA cx t x = some v) {E : Env} {X : Value} (hx : conc E x = some X) (ts : Array TypeId) (hts : ts[0]? = some t) (ty : TypeId) (w : World) :
    ∃ V, conc E v = some V ∧ (Builtin.cap_ ts ty #[X]).run P w = .ok V w := by
  unfold capA at hl
  split at hl
  · rename_i ti hti
    obtain ⟨d, hd, hk, hag⟩ := und_of ok hti
    split at hl
    · rename_i e he
      rw [he] at hk; have := und_slice hk.symm; subst this
      cases hl
      cases (Option.some.inj hx : Value.slice none 0 0 = X)
      exact ⟨_, rfl, by simp [Builtin.cap_, hts, run_underlying hd, goInt]⟩
    · rename_i e c he
      rw [he] at hk; have := und_slice hk.symm; subst this
      cases hl
      obtain ⟨p, hp, rfl, _⟩ := conc_slice hx
      exact ⟨_, rfl, by simp [Builtin.cap_, hts, run_underlying hd, goInt, capOf]⟩
    · cases hl
  · cases hl

theorem lenA_sound (ok : CxOK P σ cx) {h : AH} {t : Nat} {x v : AV} (hl : lenA cx h t x = some v) {E : Env} (hσ : E.σ = σ) {B : Nat} {w0 w : World} (hr : Rel E B w0 h w) {X : Value} (hx : conc E x = some X) (ts : Array TypeId) (hts : ts[0]? = some t) (ty : TypeId) :
    ∃ V, conc E v = some V ∧ (Builtin.len_ ts ty #[X]).run P w = .ok V w := by
  unfold lenA at hl
  split at hl
  · rename_i ti hti
    obtain ⟨d, hd, hk, hag⟩ := und_of ok hti
    split at hl
    · rename_i e he
      rw [he] at hk; have := und_slice hk.symm; subst this
      cases hl
      cases (Option.some.inj hx : Value.slice none 0 0 = X)
      exact ⟨_, rfl, by simp [Builtin.len_, hts, run_underlying hd, goInt]⟩
    · rename_i e he
      rw [he] at hk; have := und_slice hk.symm; subst this
      cases hl
      simp only [conc, Option.map_eq_some_iff] at hx
      obtain ⟨p, hp, rfl⟩ := hx
      refine ⟨_, rfl, ?_⟩
      split <;> simp [Builtin.len_, hts, run_underlying hd, goInt]
    · rename_i e n he
      rw [he] at hk; have := und_slice hk.symm; subst this
      cases hl
      obtain ⟨p, hp, rfl, _⟩ := conc_slice hx
      exact ⟨_, rfl, by simp [Builtin.len_, hts, run_underlying hd, goInt]⟩
    · rename_i e j he
      rw [he] at hk; have := und_slice hk.symm; subst this
      obtain ⟨f, hf, rfl, rfl⟩ := findLen_mem hl
      obtain ⟨a, m, c, hop, _, _, hm⟩ := ok.lens f hf
      have hX := (conc_opq hx).2
      rw [hσ, hop] at hX
      subst hX
      exact ⟨_, hm E hσ, by simp [Builtin.len_, hts, run_underlying hd, goInt]⟩
    · rename_i s he
      rw [he] at hk; have := und_str hk.symm; subst this
      cases hl
      have := conc_str hx; subst this
      refine ⟨_, rfl, ?_⟩
      have hs : (⟨s.toArray⟩ : ByteArray).size = s.length := rfl
      simp [Builtin.len_, hts, run_underlying hd, hs, goInt]
    · rename_i s he
      rw [he] at hk; have := und_str hk.symm; subst this
      cases hl
      obtain ⟨bs, hbs, rfl⟩ := conc_sstr hx
      refine ⟨_, rfl, ?_⟩
      have hs : (⟨bs.toArray⟩ : ByteArray).size = s.length := by rw [← bytesC_length hbs]; rfl
      simp [Builtin.len_, hts, run_underlying hd, hs, goInt]
    · rename_i k e he
      rw [he] at hk; have := und_map hk.symm; subst this
      cases hl
      cases (Option.some.inj hx : Value.map none = X)
      exact ⟨_, rfl, by simp [Builtin.len_, hts, run_underlying hd, goInt]⟩
    · rename_i k e i he
      rw [he] at hk; have := und_map hk.symm; subst this
      split at hl
      · rename_i es c hi
        cases hl
        obtain ⟨p, hp, rfl⟩ := conc_map hx
        obtain ⟨EL, hEL, hw⟩ := map_at hr hi hp
        refine ⟨_, rfl, ?_⟩
        have := concE_length hEL
        simp [Builtin.len_, hts, run_underlying hd, run_getObj_map hw, this, goInt]
      · cases hl
    · cases hl
  · cases hl

/-! ## new values -/
theorem allocA_sound (ok : CxOK P σ cx) {h h' : AH} {t : Nat} {v : AV} (hl : allocA cx h t = .val v h') {E : Env} {B : Nat} {w0 w : World} (hr : Rel E B w0 h w) (hf : E.φ h.next = none) :
    ∃ E' V w', conc E' v = some V ∧ (Instr.alloc t true (.tuple #[])).run P w = .ok V w' ∧ Post E B w0 h w E' h' w' := by
  unfold allocA at hl
  split at hl
  · rename_i ty hty
    cases hl
    have T := TI.of ok hty
    obtain ⟨z, hz, hzc⟩ := T.zval
    have hp := new_sound hr hf T.atoms (hzc E) [] t 0 0 (by simp)
    refine ⟨_, _, _, new_ptr 0, ?_, hp⟩
    simp only [Instr.alloc, Sem.run_bind, hz, Result.andThen_ok, newVar, newRow, run_newObj, Sem.run_pure]
    simp
  · cases hl

theorem boxA_sound {h h' : AH} {x v : AV} (hl : boxA h x = .val v h') {E : Env} {B : Nat} {w0 w : World} (hr : Rel E B w0 h w) (hf : E.φ h.next = none) {X : Value} (hx : conc E x = some X) (t : Nat) :
    ∃ E' V w', conc E' v = some V ∧ (Instr.box t X).run P w = .ok V w' ∧ Post E B w0 h w E' h' w' := by
  unfold boxA at hl
  split at hl
  · rename_i htup
    cases hl
    obtain ⟨hat, hcx⟩ := cellsOf_conc hx htup
    have hp := new_sound hr hf hat hcx [] t 0 0 (by simp)
    refine ⟨_, _, _, new_ptr 0, ?_, hp⟩
    simp only [Instr.box, Sem.run_bind, Result.andThen_ok, newVar, newRow, run_newObj, Sem.run_pure]
    simp
  · cases hl

theorem repl_conc {E : Env} {l : List AV} {L : List Value} (h : concs E l = some L) : ∀ n, concs E (repl n l) = some (repl n L)
  | 0 => rfl
  | n + 1 => concs_append h (repl_conc h n)
theorem repl_atoms {l : List AV} (h : l.all AV.atom = true) : ∀ n, (repl n l).all AV.atom = true
  | 0 => rfl
  | n + 1 => by simp only [repl, List.all_append, h, repl_atoms h n, Bool.and_self]
theorem repl_get {α : Type} (l : List α) : ∀ (n i : Nat), i < n * l.length → (repl n l)[i]? = l[i % l.length]?
  | 0, i, h => by simp at h
  | n + 1, i, h => by
    simp only [repl]
    rcases Nat.lt_or_ge i l.length with hl | hl
    · rw [List.getElem?_append_left hl, Nat.mod_eq_of_lt hl]
    · rw [List.getElem?_append_right hl, repl_get l n (i - l.length) (by rw [Nat.succ_mul] at h; omega), Nat.mod_eq_sub_mod hl]
theorem zeroCells_repl (z : Value) (L : List Value) (hz : z.cells.toList = L) (n : Nat) : ((Array.range (n * L.length)).map (z.cells[· % z.cells.size]!)) = (repl n L).toArray := by
  apply Array.ext_getElem?
  intro i
  have hsz : z.cells.size = L.length := by rw [← hz]; simp
  by_cases hi : i < n * L.length
  · rw [Array.getElem?_map, Array.getElem?_range, if_pos hi]
    simp only [Option.map_some, List.getElem?_toArray]
    rw [repl_get L n i hi, hsz]
    have hpos : 0 < L.length := by
      rcases Nat.eq_zero_or_pos L.length with h0 | h0
      · rw [h0] at hi; simp at hi
      · exact h0
    have hlt := Nat.mod_lt i hpos
    have h2 : i % L.length < z.cells.size := by omega
    rw [getElem!_pos z.cells (i % L.length) h2, List.getElem?_eq_getElem hlt]
    congr 1
    simp only [← hz, Array.getElem_toList]
  · have h1 : ¬ i < (repl n L).length := by rw [repl_length]; exact hi
    simp [hi, h1]

theorem range_map0 {n : Nat} (f : Nat → Value) (h : n = 0) : (Array.range n).map f = #[] := by
  subst h
  apply Array.ext'
  simp

theorem buildSl_sound (ok : CxOK P σ cx) {h h' : AH} {t n : Nat} {qs : Option (List (Nat × AV))} {v : AV} (hl : buildSl cx h t n qs = .val v h') {E : Env} {B : Nat} {w0 w : World} (hr : Rel E B w0 h w) (hf : E.φ h.next = none)
    {ps : List (Nat × Value)} (hq : ∀ q, qs = some q → PartsRel E q ps) : ∃ E' V w', conc E' v = some V ∧ (Instr.buildSlice t n ps.toArray).run P w = .ok V w' ∧ Post E B w0 h w E' h' w' := by
  unfold buildSl at hl
  split at hl
  · rename_i ti q hti
    have hp := hq q rfl
    obtain ⟨d, hd, hk, hag⟩ := und_of ok hti
    split at hl
    · rename_i e he
      rw [he] at hk; have := und_slice hk.symm; subst this
      split at hl
      · rename_i ty hty
        have T := TI.of ok hty
        obtain ⟨ei, hei, hsz, _, _⟩ := size_of ok hty
        obtain ⟨z, hz, hzc⟩ := T.zval
        split at hl
        · rename_i cs hb hcs
          cases hl
          have hb : n * ty.size ≤ 16777216 := by simpa using hb
          have hzl : z.cells.toList.length = ty.size := by rw [concs_length (hzc E)]; exact T.len
          obtain ⟨R, hR, hcR, haR⟩ := fill_sound (place := fun i => some (i * ty.size, ty.size)) (C := (repl n z.cells.toList).toArray) (fun i x hx => hx) hp (by simpa using repl_conc (hzc E) n) (repl_atoms T.atoms n) hcs
          have hRs : R.toList.length = n * ty.size := by
            have e1 := concs_length hcR
            have e2 : ∀ {pl : Nat → Option (Nat × Nat)} {qs : List (Nat × AV)} {cells r : List AV}, fillG pl cells qs = some r → r.length = cells.length := by
              intro pl qs
              induction qs with
              | nil => intro cells r h; simp [fillG] at h; rw [h]
              | cons q qs ih =>
                intro cells r h
                obtain ⟨i, x⟩ := q
                simp only [fillG] at h
                split at h
                · split at h
                  · rename_i hov; rw [ih h, (overAt_eq _ _ _ _ hov).2.1]
                  · cases h
                · cases h
            rw [e1, e2 hcs, repl_length, T.len]
          have hpost := new_sound hr hf haR hcR [] e ty.size n (fun _ => ⟨by omega, by rw [List.length_nil]; omega⟩)
          refine ⟨_, _, _, conc_slice_mk (Env.put_same _ _ _) (by simp [capOf]), ?_, hpost⟩
          have hnb : ¬ (n * ty.size > 2 ^ 24) := by omega
          have hzc' : (Array.range (n * ty.size)).map (z.cells[· % z.cells.size]!) = (repl n z.cells.toList).toArray := by
            rw [← hzl]; exact zeroCells_repl z _ rfl n
          simp only [Instr.buildSlice, Sem.run_bind, run_underlying hd, Result.andThen_ok, run_sizeOf w hei, hsz, if_neg hnb, Sem.run_pure]
          by_cases h0 : n * ty.size = 0
          · rw [if_pos h0]
            have e0 : (repl n z.cells.toList) = [] := by
              apply List.eq_nil_of_length_eq_zero
              rw [repl_length, hzl]; exact h0
            rw [e0] at hR
            simp only [range_map0 _ h0, Result.andThen_ok, Sem.run_pure]
            rw [hR]
            simp [newRow, capOf]
          · rw [if_neg h0]
            simp only [Sem.run_bind, hz, Result.andThen_ok, Sem.run_pure, hzc', hR]
            simp [newRow, capOf]
        · cases hl
      · cases hl
    · cases hl
  · cases hl
end Go.Abs

namespace Go.Abs
open Go.RowKit

variable {P : Program} {σ : Val} {cx : Cx}

theorem lenOfA_sound {x : AV} {n : Nat} (h : lenOfA x = some n) {E : Env} {X : Value} (hx : conc E x = some X) (w : World) : (Builtin.lenOf X).run P w = .ok n w := by
  unfold lenOfA at h
  split at h
  · cases h; cases (Option.some.inj hx : Value.slice none 0 0 = X); rfl
  · cases h
    simp only [conc, Option.map_eq_some_iff] at hx
    obtain ⟨p, hp, rfl⟩ := hx
    split <;> rfl
  · cases h; obtain ⟨p, hp, rfl, _⟩ := conc_slice hx; rfl
  · cases h; have := conc_str hx; subst this; rfl
  · cases h

theorem str_cells (s : List UInt8) (n : Nat) (E : Env) : concs E ((s.take n).map fun b => AV.int .u8 (Int.ofNat b.toNat)) = some (((⟨s.toArray⟩ : ByteArray).extract 0 n).data.map fun b => Value.int .u8 b.toNat).toList := by
  rw [extract_str]
  simp only [List.drop_zero, Nat.sub_zero, List.map_toArray]
  generalize s.take n = l
  induction l with
  | nil => rfl
  | cons a l ih => exact concs_mk rfl ih

theorem firstA_sound {h : AH} {size n : Nat} {x : AV} {new : List AV} (hf : firstA h size x n = some new) {E : Env} {B : Nat} {w0 w : World} (hr : Rel E B w0 h w) {X : Value} (hx : conc E x = some X) :
    ∃ NEW, concs E new = some NEW ∧ new.all AV.atom = true ∧ NEW.length = n * size ∧ ∀ w', w'.heap = w.heap → (Builtin.firstCells size n X).run P w' = .ok NEW.toArray w' := by
  unfold firstA at hf
  split at hf
  · cases hf
    cases (Option.some.inj hx : Value.slice none 0 0 = X)
    exact ⟨[], rfl, rfl, by simp, fun w' _ => rfl⟩
  · cases hf
    simp only [conc, Option.map_eq_some_iff] at hx
    obtain ⟨p, hp, rfl⟩ := hx
    refine ⟨[], rfl, rfl, by simp, fun w' _ => ?_⟩
    split <;> simp [Builtin.firstCells, loadCells, loadCellsFrom]
  · rename_i n' i off eo len cap
    obtain ⟨p, hp, rfl, _⟩ := conc_slice hx
    split at hf
    · rename_i cs ro es hi
      obtain ⟨hat, vs, hvs, hc⟩ := cells_at hr hi hp
      obtain ⟨hle, rfl⟩ := slice1_eq hf
      have hl := concs_length hvs
      refine ⟨(vs.drop off).take (n * size), concs_take (concs_drop hvs off) _, by rw [List.all_eq_true] at hat ⊢; exact fun x hx => hat x (List.mem_of_mem_drop (List.mem_of_mem_take hx)), by simp; omega, fun w' hw' => ?_⟩
      exact run_loadCells_at (fun j v hv => by rw [← hc j v hv]; exact World.cell?_of_block (by rw [hw'])) off _ (by omega)
    · cases hf
  · rename_i n' s
    have := conc_str hx; subst this
    split at hf
    · rename_i hsz
      have := Nat.eq_of_beq_eq_true hsz; subst this
      obtain ⟨h1, rfl⟩ := takeN_eq _ _ _ hf
      simp only [List.length_map] at h1
      refine ⟨_, by rw [← List.map_take]; exact str_cells s n E, ?_, ?_, fun w' _ => ?_⟩
      · rw [List.all_eq_true]
        intro x hx
        obtain ⟨b, _, rfl⟩ := List.mem_map.1 (List.mem_of_mem_take hx)
        rfl
      · rw [extract_str]; simp; omega
      · simp [Builtin.firstCells]
    · cases hf
  · cases hf

structure AppCtx (P : Program) (t u e : Nat) (ts : Array TypeId) (ty : TyI) : Prop where
  h0 : ts[0]? = some t
  h1 : ts[1]? = some u
  ht : P.underlying t = some (.slice e)
  hu : ∃ d, P.underlying u = some d ∧ (match d with | .int _ => false | _ => true) = true
  he : TI P e ty

theorem run_append_in {t u e : Nat} {ts : Array TypeId} {ty : TyI} (c : AppCtx P t u e ts ty) {w w' : World} {base : Option Addr} {sLen sCap n : Nat} {X : Value} {NEW : List Value} (hn : (Builtin.lenOf X).run P w = .ok n w)
    (hf : (Builtin.firstCells ty.size n X).run P w = .ok NEW.toArray w) (hroom : sLen + n ≤ sCap) (hst : ∀ a, base = some a → (storeCells (a.add (sLen * ty.size)) NEW).run P w = .ok () w') (hnone : base = none → w' = w) (rt : TypeId) :
    (Builtin.append_ ts rt #[.slice base sLen sCap, X]).run P w = .ok (.slice base (sLen + n) sCap) w' := by
  obtain ⟨h0, h1, ht, ⟨d, hd, hdi⟩, he⟩ := c
  obtain ⟨ti, z, hi, hz, hs, hb, _⟩ := he.info
  have hsz : P.cellsOf e = ty.size := by simp [Program.cellsOf, hi, hs]
  have hz' : (match d with | .int _ => true | _ => false) = false := by cases d <;> simp at hdi ⊢
  have a0 : (#[Value.slice base sLen sCap, X] : Array Value)[0]? = some (.slice base sLen sCap) := rfl
  have a1 : (#[Value.slice base sLen sCap, X] : Array Value)[1]? = some X := rfl
  simp only [Builtin.append_, h0, h1]
  cases d <;> simp at hdi <;> (
    simp only [a0, a1, Sem.run_bind, run_underlying ht, run_underlying hd, Result.andThen_ok, run_sizeOf w hi, hsz, Sem.run_pure, Bool.false_eq_true, if_false, hn, if_pos hroom, Bool.not_false, if_true, hf]
    cases base with
    | none => have := hnone rfl; subst this; rfl
    | some a => simp only [Sem.run_bind, hst a rfl, Result.andThen_ok, Sem.run_pure])

theorem run_append_out {t u e : Nat} {ts : Array TypeId} {ty : TyI} (c : AppCtx P t u e ts ty) {w : World} {base : Option Addr} {sLen sCap n : Nat} {X : Value} {OLD NEW : List Value} (hn : (Builtin.lenOf X).run P w = .ok n w)
    (hf : (Builtin.firstCells ty.size n X).run P w.drew = .ok NEW.toArray w.drew) (ho : (Builtin.firstCells ty.size sLen (.slice base sLen sCap)).run P w.drew = .ok OLD.toArray w.drew)
    (hroom : sCap < sLen + n) (hfit : (sLen + n) * ty.bytes ≤ 140737488355328) (hb0 : ty.bytes ≠ 0) (rt : TypeId) :
    ∃ cap spare, sLen + n ≤ cap ∧ spare.length = (cap - (sLen + n)) * ty.size ∧
    (Builtin.append_ ts rt #[.slice base sLen sCap, X]).run P w = .ok (.slice (some ⟨w.heap.size, 0, none⟩) (sLen + n) cap) (w.drew.alloc (.cells (OLD ++ NEW ++ spare).toArray e)) := by
  obtain ⟨h0, h1, ht, ⟨d, hd, hdi⟩, he⟩ := c
  obtain ⟨ti, z, hi, hz, hs, hb, _⟩ := he.info
  have hsz : P.cellsOf e = ty.size := by simp [Program.cellsOf, hi, hs]
  obtain ⟨z', hz', hzc⟩ := he.zval
  have hzz : z' = z := by
    have h1 := hz' w
    simp only [zeroValue, Sem.run_bind, run_typeInfo w hi, Result.andThen_ok, hz, Sem.run_pure, Result.ok.injEq] at h1
    exact h1.1.symm
  subst hzz
  have hzl : z'.cells.size = ty.size := by
    have := concs_length (hzc ⟨fun _ => none, ⟨fun _ => 0, fun _ _ => none, fun _ => undef⟩⟩)
    rw [he.len] at this
    simpa using this
  have hn1 : ¬ (sLen + n ≤ sCap) := by omega
  have h48 : ¬ (Builtin.nextslicecap (sLen + n) sCap * ti.bytes > 2 ^ 48) := by
    have := growslice_fits (need := sLen + n) (old := sCap) (bytes := ti.bytes) hroom (by rw [← hb]; exact hfit)
    omega
  have hbb : ¬ (ti.bytes = 0) := by rw [← hb]; exact hb0
  refine ⟨grownCap w (sLen + n) sCap e, (Builtin.zeroCells z'.cells (grownCap w (sLen + n) sCap e - (sLen + n))).toList, grownCap_ge _ _ _ _, ?_, ?_⟩
  · simp [Builtin.zeroCells, hzl]
  · have a0 : (#[Value.slice base sLen sCap, X] : Array Value)[0]? = some (.slice base sLen sCap) := rfl
    have a1 : (#[Value.slice base sLen sCap, X] : Array Value)[1]? = some X := rfl
    simp only [Builtin.append_, h0, h1]
    have hA : ∀ Z : Array Value, OLD.toArray ++ NEW.toArray ++ Z = (OLD ++ NEW ++ Z.toList).toArray := fun Z => by
      apply Array.ext'; simp
    cases d <;> simp at hdi <;> (
      simp only [a0, a1, Sem.run_bind, run_underlying ht, run_underlying hd, Result.andThen_ok, run_sizeOf w hi, hsz, Sem.run_pure, Bool.false_eq_true, if_false, hn, if_neg hn1, run_typeInfo w hi, hbb, or_self, and_false, if_neg h48]
      rw [run_choose]
      have hfo : (Question.appendCap (sLen + n) sCap e).forced = false := rfl
      simp only [hfo, Bool.false_eq_true, if_false, Result.andThen_ok, World.drew_eq]
      simp only [run_typeInfo w.drew hi, Result.andThen_ok, run_askRoom, ho, Bool.not_false, if_true, hf, hz', newRow, run_newObj, Sem.run_bind, Sem.run_pure]
      rw [hA]; rfl)
end Go.Abs

namespace Go.Abs
open Go.RowKit

variable {P : Program} {σ : Val} {cx : Cx}

theorem isSeq_sound (ok : CxOK P σ cx) {u : Nat} (h : isSeq cx u = true) : ∃ d, P.underlying u = some d ∧ (match d with | .int _ => false | _ => true) = true := by
  unfold isSeq at h
  split at h
  · rename_i i hi
    obtain ⟨d, hd, hk, _⟩ := und_of ok hi
    refine ⟨d, hd, ?_⟩
    split at h
    · rename_i e he; rw [he] at hk; have := und_slice hk.symm; subst this; rfl
    · rename_i he; rw [he] at hk; have := und_str hk.symm; subst this; rfl
    · cases h
  · cases h

/-- a new object out of a draw -/
theorem new_drew {E : Env} {B : Nat} {w0 : World} {h : AH} {w : World} (hr : Rel E B w0 h w) (hf : E.φ h.next = none) {cs : List AV} {vs : List Value} (ha : cs.all AV.atom = true) (hc : concs E cs = some vs)
    (spare : List Value) (elem : TypeId) (es cap : Nat) (hcap : es ≠ 0 → vs.length ≤ cap * es ∧ cap * es ≤ vs.length + spare.length) :
    Post E B w0 h w (E.put h.next ⟨w.heap.size, 0, cap, undef⟩) (newA h cs es) (w.drew.alloc (.cells (vs ++ spare).toArray elem)) := by
  have h1 := Post.drew0 hr
  have h2 := new_sound (w := w.drew) h1.rel hf ha hc spare elem es cap hcap
  exact h1.trans h2

theorem drop_obj {E : Env} {B : Nat} {w0 : World} {h : AH} {w : World} (hr : Rel E B w0 h w) (i : Nat) (hin : E.φ i ≠ none) : Post E B w0 h w E ⟨h.objs.del i, h.next⟩ w where
  ext := Env.le_refl E
  only := fun _ _ => rfl
  rel := {
    objs := fun j o p hj hp => by
      simp only [Hp.get_del] at hj
      split at hj
      · cases hj
      · exact hr.objs j o p hj hp
    inj := fun j k o1 o2 p q hj hk hp hq h1 h2 hne => by
      simp only [Hp.get_del] at hj hk
      split at hj
      · cases hj
      · split at hk
        · cases hk
        · exact hr.inj j k o1 o2 p q hj hk hp hq h1 h2 hne
    below := hr.below
    base := hr.base
    glob := hr.glob
    ok := fun j hj => by
      simp only [Hp.get_del]
      split
      · rfl
      · exact hr.ok j hj }
  hid := fun j _ hn => by
    simp only [Hp.get_del]
    split
    · rename_i e; subst e; exact absurd hn hin
    · rfl
  dom := fun j o' _ ho => by
    simp only [Hp.get_del] at ho
    split at ho
    · cases ho
    · exact ⟨o', ho, id⟩
  frame := fun _ _ _ => rfl
  newb := fun _ _ h1 h2 => absurd h2 (Nat.not_lt.2 h1)
  grow := Nat.le_refl _
  next := Nat.le_refl _

theorem run_first_slice {E : Env} {B : Nat} {w0 : World} {h : AH} {w : World} (hr : Rel E B w0 h w) {i : Nat} {cs : List AV} {ro : Bool} {es : Nat} {p : Pl} (hi : h.objs.get i = some (.cells cs ro es)) (hp : E.φ i = some p)
    {off n size len cap : Nat} {old : List AV} (ho : slice1 cs off (n * size) = some old) : ∃ OLD, concs E old = some OLD ∧ old.all AV.atom = true ∧ OLD.length = n * size ∧
      ∀ w', w'.heap = w.heap → (Builtin.firstCells size n (.slice (some ⟨p.block, p.off + off, none⟩) len cap)).run P w' = .ok OLD.toArray w' := by
  obtain ⟨hat, vs, hvs, hc⟩ := cells_at hr hi hp
  obtain ⟨hle, rfl⟩ := slice1_eq ho
  have hl := concs_length hvs
  refine ⟨(vs.drop off).take (n * size), concs_take (concs_drop hvs off) _, by rw [List.all_eq_true] at hat ⊢; exact fun x hx => hat x (List.mem_of_mem_drop (List.mem_of_mem_take hx)), by simp; omega, fun w' hw' => ?_⟩
  exact run_loadCells_at (fun j v hv => by rw [← hc j v hv]; exact World.cell?_of_block (by rw [hw'])) off _ (by omega)

theorem roomy_le {n b : Nat} (h : roomy n b = true) : n * b ≤ 140737488355328 := by simpa [roomy] using h

def AppRes (P : Program) (ts : Array TypeId) (rt : TypeId) (S X : Value) (E : Env) (B : Nat) (w0 : World) (h : AH) (w : World) (v : AV) (h' : AH) : Prop :=
  ∃ E' V w', conc E' v = some V ∧ (Builtin.append_ ts rt #[S, X]).run P w = .ok V w' ∧ Post E B w0 h w E' h' w'

theorem inPlace_sound {t u e : Nat} {ts : Array TypeId} {ty : TyI} (c : AppCtx P t u e ts ty) {h h' : AH} {i off eo len n : Nat} {cap : Option Nat} {new cs : List AV} {es : Nat} {v : AV}
    (ha : inPlaceA h i off eo len n ty.size cap new cs es = some (v, h')) {E : Env} {B : Nat} {w0 w : World} (hr : Rel E B w0 h w) {p : Pl} (hi : h.objs.get i = some (.cells cs false es)) (hp : E.φ i = some p)
    {X : Value} {NEW : List Value} (hn : (Builtin.lenOf X).run P w = .ok n w) (hf : (Builtin.firstCells ty.size n X).run P w = .ok NEW.toArray w) (hcn : concs E new = some NEW) (hat : new.all AV.atom = true)
    (hroom : len + n ≤ capOf p eo cap) (rt : TypeId) : AppRes P ts rt (.slice (some ⟨p.block, p.off + off, none⟩) len (capOf p eo cap)) X E B w0 h w v h' := by
  unfold inPlaceA at ha
  split at ha
  · rename_i cs' hov
    cases ha
    obtain ⟨w', hrun, hpost⟩ := write_sound (P := P) hr hi hp hov hcn hat
    refine ⟨E, _, w', conc_slice_mk hp hroom, ?_, hpost⟩
    refine run_append_in c hn hf hroom (fun a ha => ?_) (fun h => by cases h) rt
    cases ha
    rw [add_addr, mul_add_off]; exact hrun
  · cases ha

theorem appendSl_sound {t u e : Nat} {ts : Array TypeId} {ty : TyI} (c : AppCtx P t u e ts ty) (hb0 : ty.bytes ≠ 0) {h h' : AH} {i off eo len n : Nat} {cap : Option Nat} {new : List AV} {v : AV}
    (ha : appendSl h ty i off eo len cap n new = some (v, h')) {E : Env} {B : Nat} {w0 w : World} (hr : Rel E B w0 h w) (hff : Fresh E h h') {p : Pl} (hp : E.φ i = some p)
    {X : Value} {NEW : List Value} (hn : (Builtin.lenOf X).run P w = .ok n w) (hfc : ∀ w', w'.heap = w.heap → (Builtin.firstCells ty.size n X).run P w' = .ok NEW.toArray w') (hcn : concs E new = some NEW) (hat : new.all AV.atom = true)
    (hnl : NEW.length = n * ty.size) (hle : len ≤ capOf p eo cap) (rt : TypeId) : AppRes P ts rt (.slice (some ⟨p.block, p.off + off, none⟩) len (capOf p eo cap)) X E B w0 h w v h' := by
  unfold appendSl at ha
  split at ha
  · rename_i cs ro es hi
    split at ha
    · rename_i cc
      split at ha
      · rename_i hroom
        split at ha
        · cases ha
        · exact inPlace_sound c ha hr hi hp hn (hfc w rfl) hcn hat (by simpa [capOf] using hroom) rt
      · rename_i hroom
        have hroom : cc < len + n := by
          rcases Nat.lt_or_ge cc (len + n) with h1 | h1
          · exact h1
          · rw [show Nat.ble (len + n) cc = true from by simpa using h1] at hroom; cases hroom
        unfold growA at ha
        split at ha
        · rename_i old hroomy hold
          cases ha
          have hf := hff h.next (Nat.le_refl _) (Nat.lt_succ_self _)
          obtain ⟨OLD, hO, hOa, hOl, hOf⟩ := run_first_slice (P := P) hr hi hp (len := len) (cap := cc) hold
          obtain ⟨kap, spare, hk1, hk2, hrun⟩ := run_append_out c hn (hfc w.drew rfl) (hOf w.drew rfl) hroom (roomy_le hroomy) hb0 rt
          have hpost := new_drew hr hf (cs := old ++ new) (by rw [List.all_append, hOa, hat]; rfl) (concs_append hO hcn) spare e ty.size kap (fun _ => by
            rw [List.length_append, hOl, hnl, hk2, ← Nat.add_mul]
            refine ⟨Nat.mul_le_mul_right _ hk1, ?_⟩
            rw [← Nat.add_mul]
            exact Nat.mul_le_mul_right _ (by omega))
          refine ⟨_, _, _, conc_slice_mk (Env.put_same _ _ _) (by simp only [capOf]; omega), ?_, hpost⟩
          simpa [capOf] using hrun
        · cases ha
    · split at ha
      · rename_i hes hoff hes0
        have hes := Nat.eq_of_beq_eq_true hes
        subst hes
        have hoff := Nat.eq_of_beq_eq_true hoff
        have hpos : 0 < ty.size := by
          rcases Nat.eq_zero_or_pos ty.size with h0 | h0
          · rw [h0] at hes0; cases hes0
          · exact h0
        obtain ⟨hat0, vs, hvs, _, hrw⟩ := hr.objs i _ p hi hp
        obtain ⟨hB, cc, el, fr, hcell, hfr, hget, hin, hcapr⟩ := hrw rfl
        obtain ⟨hc1, hc2⟩ := hcapr (by omega)
        have hvl := concs_length hvs
        have capb : ∀ k, eo * ty.size + k * ty.size ≤ p.cap * ty.size → eo + k ≤ p.cap := fun k hk => by
          rw [← Nat.add_mul] at hk
          exact Nat.le_of_mul_le_mul_right hk hpos
        split at ha
        · rename_i hfit
          have hfit : off + (len + n) * ty.size ≤ cs.length := by simpa using hfit
          refine inPlace_sound c ha hr hi hp hn (hfc w rfl) hcn hat ?_ rt
          simp only [capOf]
          have := capb (len + n) (by rw [← hoff]; omega)
          omega
        · split at ha
          · rename_i old hend hroomy hold
            cases ha
            have hf := hff h.next (Nat.le_refl _) (Nat.lt_succ_self _)
            have hend := Nat.eq_of_beq_eq_true hend
            obtain ⟨hle0, rfl⟩ := dropN_eq _ _ _ hold
            have hlenle := capb len (by rw [← hoff, hend]; omega)
            have hO := concs_drop hvs off
            have hOl : (vs.drop off).length = len * ty.size := by rw [List.length_drop, hvl]; omega
            have hOa : (cs.drop off).all AV.atom = true := by rw [List.all_eq_true] at hat0 ⊢; exact fun x hx => hat0 x (List.mem_of_mem_drop hx)
            by_cases hroom : len + n ≤ p.cap - eo
            · -- in place
              have hcap3 : eo * ty.size + (len + n) * ty.size ≤ p.cap * ty.size := by
                rw [← Nat.add_mul]; exact Nat.mul_le_mul_right _ (by omega)
              have hone : ∀ v ∈ NEW, v.oneCell' = true := by
                intro v hv
                obtain ⟨j, hj⟩ := List.mem_iff_getElem?.1 hv
                obtain ⟨x, hx, hcx⟩ := concs_get' hcn j v hj
                exact atom_one (List.all_eq_true.1 hat x (List.mem_of_getElem? hx)) hcx
              have hsp : p.off + (off + len * ty.size) + NEW.length ≤ cc.size := by
                rw [hnl, hoff]
                have e1 : (len + n) * ty.size = len * ty.size + n * ty.size := Nat.add_mul _ _ _
                omega
              have hst := run_storeCells_ow (P := P) p.block (p.off + (off + len * ty.size)) el fr NEW 0 cc w hcell hfr (by omega) hone
              refine ⟨E.put h.next ⟨p.block, p.off + off, p.cap - eo, undef⟩, _, { w with heap := w.heap.setIfInBounds p.block (.cells (ow cc (p.off + (off + len * ty.size) + 0) NEW) el fr) }, conc_slice_mk (Env.put_same _ _ _) (by simp only [capOf]; omega), ?_, Post.regrow (p' := ⟨p.block, p.off + off, p.cap - eo, undef⟩) (o' := .cells (cs.drop off ++ new) false ty.size) hr hf hi hp rfl rfl _ ?_⟩
              · rw [run_append_in c hn (hfc w rfl) (by simpa [capOf] using hroom) (fun a ha => by cases ha; rw [add_addr, mul_add_off]; exact hst) (fun h => by cases h) rt]
                simp [capOf]
              · intro w' hw'
                refine ⟨by rw [List.all_append, hOa, hat]; rfl, vs.drop off ++ NEW, concs_mono (Env.le_put _ hf) _ _ (concs_append hO hcn), fun h => (by cases h), fun _ => ⟨hB, _, el, fr, hw', ?_, ?_, ?_, ?_⟩⟩
                · intro k hk; exact hfr k (by simpa [ow_size] using hk)
                · intro j v hv
                  show (ow cc (p.off + (off + len * ty.size) + 0) NEW)[p.off + off + j]? = some v
                  rw [ow_get NEW cc _ _ (by omega)]
                  by_cases hj : j < (vs.drop off).length
                  · rw [List.getElem?_append_left hj, List.getElem?_drop] at hv
                    rw [if_neg (by omega)]
                    have := hget _ _ hv
                    rw [← this]; congr 1; omega
                  · rw [List.getElem?_append_right (by omega)] at hv
                    have hj2 : j - (vs.drop off).length < NEW.length := by
                      rcases Nat.lt_or_ge (j - (vs.drop off).length) NEW.length with h' | h'
                      · exact h'
                      · rw [List.getElem?_eq_none h'] at hv; cases hv
                    rw [if_pos (by omega)]
                    have e1 : p.off + off + j - (p.off + (off + len * ty.size) + 0) = j - (vs.drop off).length := by omega
                    rw [e1]; exact hv
                · rw [ow_size, List.length_append, hOl]; simp only; omega
                · intro _
                  rw [ow_size, List.length_append, hOl, hnl, ← Nat.add_mul]
                  refine ⟨Nat.mul_le_mul_right _ hroom, ?_⟩
                  simp only
                  have e2 : (p.cap - eo) * ty.size = p.cap * ty.size - eo * ty.size := Nat.sub_mul _ _ _
                  omega
            · -- a new row
              have hfirst : ∀ w', w'.heap = w.heap → (Builtin.firstCells ty.size len (.slice (some ⟨p.block, p.off + off, none⟩) len (p.cap - eo))).run P w' = .ok (vs.drop off).toArray w' := by
                intro w' hw'
                obtain ⟨_, vs', hvs', hc⟩ := cells_at hr hi hp
                rw [hvs] at hvs'; cases hvs'
                have := run_loadCells_at (P := P) (w := w') (p := p) (vs := vs) (fun j v hv => by rw [← hc j v hv]; exact World.cell?_of_block (by rw [hw'])) off (len * ty.size) (by omega)
                rw [List.take_of_length_le (by omega)] at this
                exact this
              obtain ⟨kap, spare, hk1, hk2, hrun⟩ := run_append_out c hn (hfc w.drew rfl) (hfirst w.drew rfl) (by omega) (roomy_le hroomy) hb0 rt
              have hd := drop_obj hr i (by rw [hp]; simp)
              have hpost := new_drew (h := ⟨h.objs.del i, h.next⟩) hd.rel hf (cs := cs.drop off ++ new) (by rw [List.all_append, hOa, hat]; rfl) (concs_append hO hcn) spare e ty.size kap (fun _ => by
                rw [List.length_append, hOl, hnl, hk2, ← Nat.add_mul]
                refine ⟨Nat.mul_le_mul_right _ hk1, ?_⟩
                rw [← Nat.add_mul]
                exact Nat.mul_le_mul_right _ (by omega))
              refine ⟨_, _, _, conc_slice_mk (Env.put_same _ _ _) (by simp only [capOf]; omega), ?_, hd.trans hpost⟩
              simpa [capOf] using hrun
          · cases ha
      · cases ha
  · cases ha
end Go.Abs

namespace Go.Abs
open Go.RowKit

variable {P : Program} {σ : Val} {cx : Cx}

theorem appendA_sound (ok : CxOK P σ cx) {h h' : AH} {t u : Nat} {s x v : AV} (ha : appendA cx h t u s x = some (v, h')) {E : Env} {B : Nat} {w0 w : World} (hr : Rel E B w0 h w) (hf : Fresh E h h')
    {S X : Value} (hs : conc E s = some S) (hx : conc E x = some X) {ts : Array TypeId} (h0 : ts[0]? = some t) (h1 : ts[1]? = some u) (rt : TypeId) : AppRes P ts rt S X E B w0 h w v h' := by
  unfold appendA at ha
  split at ha
  · rename_i ti hti
    obtain ⟨d, hd, hk, _⟩ := und_of ok hti
    split at ha
    · rename_i e he
      rw [he] at hk; have := und_slice hk.symm; subst this
      split at ha
      · rename_i ty hty hseq
        have c : AppCtx P t u e ts ty := ⟨h0, h1, hd, isSeq_sound ok hseq, TI.of ok hty⟩
        unfold appendE at ha
        split at ha
        · rename_i n hn
          have hlen := lenOfA_sound (P := P) hn hx w
          split at ha
          · rename_i new hfirst
            obtain ⟨NEW, hcn, hat, hnl, hfc⟩ := firstA_sound (P := P) hfirst hr hx
            split at ha
            · cases (Option.some.inj hs : Value.slice none 0 0 = S)
              split at ha
              · cases ha
                exact ⟨E, _, w, rfl, run_append_in c hlen (hfc w rfl) (by omega) (fun a h => by cases h) (fun _ => rfl) rt, Post.refl hr⟩
              · rename_i hne
                split at ha
                · rename_i hroomy hb0
                  cases ha
                  have hb0 : ty.bytes ≠ 0 := fun h => by rw [h] at hb0; cases hb0
                  have hpos : 0 < n := Nat.pos_of_ne_zero (fun h => hne h)
                  obtain ⟨kap, spare, hk1, hk2, hrun⟩ := run_append_out (OLD := []) (base := none) (sLen := 0) (sCap := 0) c hlen (hfc w.drew rfl) rfl (by omega) (by simpa using roomy_le hroomy) hb0 rt
                  have hpost := new_drew hr (hf h.next (Nat.le_refl _) (Nat.lt_succ_self _)) hat hcn spare e ty.size kap (fun _ => by
                    rw [hnl, hk2, ← Nat.add_mul]
                    exact ⟨Nat.mul_le_mul_right _ (by omega), Nat.mul_le_mul_right _ (by omega)⟩)
                  refine ⟨_, _, _, conc_slice_mk (Env.put_same _ _ _) (by simp only [capOf]; omega), ?_, hpost⟩
                  simpa [capOf] using hrun
                · cases ha
            · split at ha
              · rename_i hb0
                have hb0 : ty.bytes ≠ 0 := fun h => by rw [h] at hb0; cases hb0
                obtain ⟨p, hp, rfl, hle⟩ := conc_slice hs
                split at ha
                · cases ha
                  have hNEW : NEW = [] := List.eq_nil_of_length_eq_zero (by rw [hnl]; simp)
                  subst hNEW
                  refine ⟨E, _, w, hs, run_append_in c hlen (hfc w rfl) (by omega) (fun a h => ?_) (fun h => by cases h) rt, Post.refl hr⟩
                  cases h; rfl
                · exact appendSl_sound c hb0 ha hr hf hp hlen hfc hcn hat hnl hle rt
              · cases ha
            · cases ha
          · cases ha
        · cases ha
      · cases ha
    · cases ha
  · cases ha

theorem copyTo_sound {h h' : AH} {d v : AV} {n size : Nat} {new : List AV} (hc : copyTo h d n new = some (v, h')) {E : Env} {B : Nat} {w0 w : World} (hr : Rel E B w0 h w) {D : Value} (hd : conc E d = some D)
    {NEW : List Value} (hcn : concs E new = some NEW) (hat : new.all AV.atom = true) {s : Value} {ts : Array TypeId} {t e : Nat} (h0 : ts[0]? = some t) (ht : P.underlying t = some (.slice e)) {ei : TypeInfo} (hei : P.info? e = some ei) (hsz : P.cellsOf e = size)
    {a b : Nat} (hs : (Builtin.lenOf s).run P w = .ok a w) (hdl : lenOfA d = some b) (hn : n = Nat.min a b) (hf : (Builtin.firstCells size n s).run P w = .ok NEW.toArray w) (rt : TypeId) :
    ∃ V w', conc E v = some V ∧ (Builtin.copy_ ts rt #[D, s]).run P w = .ok V w' ∧ Post E B w0 h w E h' w' := by
  have a0 : (#[D, s] : Array Value)[0]? = some D := rfl
  have a1 : (#[D, s] : Array Value)[1]? = some s := rfl
  subst hn
  unfold copyTo at hc
  split at hc
  · cases hc
    cases (Option.some.inj hd : Value.slice none 0 0 = D)
    simp only [lenOfA, Option.some.injEq] at hdl
    subst hdl
    refine ⟨_, w, rfl, ?_, Post.refl hr⟩
    simp only [Builtin.copy_, h0, a0, a1, Sem.run_bind, run_underlying ht, Result.andThen_ok, Sem.run_pure, hs, run_sizeOf w hei, hsz, hf]
    rfl
  · rename_i i off eo len cap
    obtain ⟨p, hp, rfl, _⟩ := conc_slice hd
    simp only [lenOfA, Option.some.injEq] at hdl
    subst hdl
    split at hc
    · rename_i cs es hi
      split at hc
      · rename_i cs' hov
        cases hc
        obtain ⟨w', hrun, hpost⟩ := write_sound (P := P) hr hi hp hov hcn hat
        refine ⟨_, w', rfl, ?_, hpost⟩
        simp only [Builtin.copy_, h0, a0, a1, Sem.run_bind, run_underlying ht, Result.andThen_ok, Sem.run_pure, hs, run_sizeOf w hei, hsz, hf, hrun]
        rfl
      · cases hc
    · cases hc
  · cases hc

theorem copyA_sound (ok : CxOK P σ cx) {h h' : AH} {t : Nat} {d s v : AV} (hc : copyA cx h t d s = some (v, h')) {E : Env} {B : Nat} {w0 w : World} (hr : Rel E B w0 h w) {D S : Value} (hd : conc E d = some D) (hs : conc E s = some S)
    {ts : Array TypeId} (h0 : ts[0]? = some t) (rt : TypeId) : ∃ V w', conc E v = some V ∧ (Builtin.copy_ ts rt #[D, S]).run P w = .ok V w' ∧ Post E B w0 h w E h' w' := by
  unfold copyA at hc
  split at hc
  · rename_i ti hti
    obtain ⟨dd, hdd, hk, _⟩ := und_of ok hti
    split at hc
    · rename_i e he
      rw [he] at hk; have := und_slice hk.symm; subst this
      split at hc
      · rename_i ty a b hty ha hb
        obtain ⟨ei, hei, hsz, _, _⟩ := size_of ok hty
        split at hc
        · rename_i new hfirst
          obtain ⟨NEW, hcn, hat, hnl, hfc⟩ := firstA_sound (P := P) hfirst hr hs
          exact copyTo_sound hc hr hd hcn hat h0 hdd hei hsz (lenOfA_sound ha hs w) hb rfl (hfc w rfl) rt
        · cases hc
      · cases hc
    · cases hc
  · cases hc

theorem clearA_sound (ok : CxOK P σ cx) {h h' : AH} {t : Nat} {d v : AV} (hc : clearA cx h t d = some (v, h')) {E : Env} {B : Nat} {w0 w : World} (hr : Rel E B w0 h w) {D : Value} (hd : conc E d = some D)
    {ts : Array TypeId} (h0 : ts[0]? = some t) (rt : TypeId) : ∃ V w', conc E v = some V ∧ (Builtin.clear_ ts rt #[D]).run P w = .ok V w' ∧ Post E B w0 h w E h' w' := by
  unfold clearA at hc
  have a0 : (#[D] : Array Value)[0]? = some D := rfl
  split at hc
  · rename_i ti hti
    obtain ⟨dd, hdd, hk, _⟩ := und_of ok hti
    split at hc
    · rename_i e he
      rw [he] at hk; have := und_slice hk.symm; subst this
      cases hc
      cases (Option.some.inj hd : Value.slice none 0 0 = D)
      refine ⟨_, w, rfl, ?_, Post.refl hr⟩
      simp [Builtin.clear_, h0, run_underlying hdd]
    · rename_i e i off eo n cap he
      rw [he] at hk; have := und_slice hk.symm; subst this
      obtain ⟨p, hp, rfl, _⟩ := conc_slice hd
      split at hc
      · rename_i hn
        have hn := Nat.eq_of_beq_eq_true hn
        subst hn
        cases hc
        refine ⟨_, w, rfl, ?_, Post.refl hr⟩
        simp [Builtin.clear_, h0, run_underlying hdd]
      · rename_i hn
        have hn : n ≠ 0 := fun h => by subst h; simp at hn
        split at hc
        rotate_left
        · cases hc
        rename_i ty hty
        have T := TI.of ok hty
        obtain ⟨z, hz, hzc⟩ := T.zval
        split at hc
        · rename_i cs es hi
          split at hc
          · rename_i cs' hov
            cases hc
            obtain ⟨w', hrun, hpost⟩ := write_sound (P := P) hr hi hp hov (repl_conc (hzc E) n) (repl_atoms T.atoms n)
            refine ⟨_, w', rfl, ?_, hpost⟩
            have hzl : (Builtin.zeroCells z.cells n).toList = repl n z.cells.toList := by
              have := zeroCells_repl z z.cells.toList rfl n
              simp only [Array.length_toList] at this
              rw [Builtin.zeroCells, this]
            obtain ⟨m, rfl⟩ : ∃ m, n = m + 1 := ⟨n - 1, by omega⟩
            simp only [Builtin.clear_, h0, a0, Sem.run_bind, run_underlying hdd, Result.andThen_ok, hz, hzl, hrun, Sem.run_pure]
          · cases hc
        · cases hc
    · cases hc
  · cases hc

theorem mkSlA_sound (ok : CxOK P σ cx) {h h' : AH} {t : Nat} {n c v : AV} (hl : mkSlA cx h t n c = .val v h') {E : Env} {B : Nat} {w0 w : World} (hr : Rel E B w0 h w) (hf : E.φ h.next = none) {N C : Value} (hn : conc E n = some N) (hc : conc E c = some C) :
    ∃ E' V w', conc E' v = some V ∧ (Instr.makeSlice t N C).run P w = .ok V w' ∧ Post E B w0 h w E' h' w' := by
  unfold mkSlA at hl
  split at hl
  · rename_i ti n' c' hti hn' hc'
    obtain ⟨kn, rfl⟩ := nat?_sound hn' hn
    obtain ⟨kc, rfl⟩ := nat?_sound hc' hc
    obtain ⟨d, hd, hk, _⟩ := und_of ok hti
    split at hl
    · rename_i e he
      rw [he] at hk; have := und_slice hk.symm; subst this
      split at hl
      · rename_i ty hty
        have T := TI.of ok hty
        obtain ⟨ei, hei, hsz, hby, _⟩ := size_of ok hty
        obtain ⟨z, hz, hzc⟩ := T.zval
        split at hl
        · rename_i b1 b2 b3
          cases hl
          have b1 : n' ≤ c' := by simpa using b1
          have b2 : ty.bytes * c' ≤ 281474976710656 := by simpa using b2
          have b3 : c' ≤ 9223372036854775807 := by simpa using b3
          have hpost := new_sound hr hf (repl_atoms T.atoms c') (repl_conc (hzc E) c') [] e ty.size c' (fun _ => by
            have := concs_length (hzc E)
            rw [T.len] at this
            rw [repl_length, this]
            exact ⟨Nat.le_refl _, by simp⟩)
          refine ⟨_, _, _, conc_slice_mk (Env.put_same _ _ _) (by simpa [capOf] using b1), ?_, hpost⟩
          have wr : ∀ m : Nat, m ≤ 9223372036854775807 → IntKind.i64.wrap (m : Int) = m := fun m hm => IntWalk.i64_in _ (by omega)
          have zl : z.cells.toList.length = ty.size := by have := concs_length (hzc E); rw [T.len] at this; exact this
          have hzz : (Array.range (c' * ty.size)).map (z.cells[· % z.cells.size]!) = (repl c' z.cells.toList).toArray := by
            rw [← zl]; exact zeroCells_repl z _ rfl c'
          have t1 : ¬ ((ty.bytes : Int) * (c' : Int) > 2 ^ 48) := by
            have := Int.ofNat_le.2 b2
            rw [Int.natCast_mul] at this; omega
          have t2 : ¬ ((c' : Int) < 0) := by omega
          have t3 : ¬ ((n' : Int) < 0) := by omega
          have t4 : ¬ ((n' : Int) > (c' : Int)) := by omega
          have tl : (decide ((c' : Int) < 0) || decide ((ei.bytes : Int) * (c' : Int) > 2 ^ 48) || decide ((n' : Int) < 0) || decide ((n' : Int) > (c' : Int))) = false := by
            rw [← hby, decide_eq_false t2, decide_eq_false t1, decide_eq_false t3, decide_eq_false t4]; rfl
          simp only [Instr.makeSlice, Sem.run_bind, run_underlying hd, Result.andThen_ok, asInt, run_asIntOf, Sem.run_pure, run_typeInfo w hei, wr n' (by omega), wr c' b3]
          have tl' : ¬ ((decide ((c' : Int) < 0) || decide ((ei.bytes : Int) * (c' : Int) > 2 ^ 48) || decide ((n' : Int) < 0) || decide ((n' : Int) > (c' : Int))) = true) := by rw [tl]; exact Bool.false_ne_true
          rw [if_neg tl']
          simp only [Sem.run_bind, run_askRoom, Result.andThen_ok, run_sizeOf w hei, hsz, Int.toNat_natCast]
          by_cases h00 : c' * ty.size = 0
          · rw [if_pos h00]
            simp only [range_map0 _ h00, Result.andThen_ok, Sem.run_pure]
            have e0 : repl c' z.cells.toList = [] := by
              apply List.eq_nil_of_length_eq_zero
              rw [repl_length, zl]; exact h00
            simp [newRow, capOf, e0]
          · rw [if_neg h00]
            simp only [Sem.run_bind, hz, Result.andThen_ok, Sem.run_pure, hzz]
            simp [newRow, capOf]
        · cases hl
      · cases hl
    · cases hl
  · cases hl
end Go.Abs

namespace Go.Abs
open Go.RowKit

variable {P : Program} {σ : Val} {cx : Cx}

theorem findC_sound (ok : CxOK P σ cx) {k : IntKind} {x r : AV} (h : findC k x cx.convs = some r) {E : Env} (hσ : E.σ = σ) {X : Value} (hx : conc E x = some X) : ∃ j n, X = .int j n ∧ conc E r = some (.int k (k.wrap n)) := by
  have key : ∀ {fx : List FConv}, findC k x fx = some r → ∃ f ∈ fx, f.k = k ∧ f.x = x ∧ f.r = r := by
    intro fx
    induction fx with
    | nil => intro h; simp [findC] at h
    | cons f fx ih =>
      intro h
      simp only [findC] at h
      split at h
      · rename_i h1 h2
        cases h
        exact ⟨f, by simp, (kEq_iff.1 h1).symm, (sameSym_eq h2).1.symm, rfl⟩
      · obtain ⟨g, hg, r⟩ := ih h; exact ⟨g, by simp [hg], r⟩
  obtain ⟨f, hf, rfl, rfl, rfl⟩ := key h
  exact ok.convs f hf E hσ X hx

theorem run_convert_int {s d : Nat} {sd : TypeDesc} {k j : IntKind} {n : Int} (hs : P.underlying s = some sd) (hd : P.underlying d = some (.int k)) (w : World) : (convert s d (.int j n)).run P w = .ok (.int k (k.wrap n)) w := by
  simp only [convert, Sem.run_bind, run_underlying hs, run_underlying hd, Result.andThen_ok]
  cases sd <;> rfl
theorem run_convert_str {s d : Nat} {sd : TypeDesc} {b : ByteArray} (hs : P.underlying s = some sd) (hd : P.underlying d = some .string) (w : World) : (convert s d (.string b)).run P w = .ok (.string b) w := by
  simp only [convert, Sem.run_bind, run_underlying hs, run_underlying hd, Result.andThen_ok]
  cases sd <;> rfl

theorem bytes_loop {w : World} : ∀ (vs : List AV) (bs : List UInt8) (E : Env) (VS : List Value) (s : ByteArray), bytesStr vs = some bs → concs E vs = some VS →
    (forIn VS s fun c s => (match c with
      | .int .u8 n => Pure.pure (ForInStep.yield (s.push (UInt8.ofNat n.toNat)))
      | _ => do
        stuck "bytesToString: byte expected"
        Pure.pure (ForInStep.yield s) : Sem (ForInStep ByteArray))).run P w = .ok ⟨s.data ++ bs.toArray⟩ w
  | [], bs, E, VS, s, h, hc => by
    simp only [bytesStr, Option.some.injEq] at h; subst h
    simp [concs] at hc; subst hc
    simp
  | v :: vs, bs, E, VS, s, h, hc => by
    obtain ⟨V, VS', hV, hVS, rfl⟩ := concs_cons hc
    unfold bytesStr at h
    split at h
    · cases ‹v :: vs = []›
    · rename_i n r heq
      cases heq
      split at h
      · rename_i l hl
        cases h
        have := conc_int hV; subst this
        have ih := bytes_loop (w := w) vs l E VS' (s.push (UInt8.ofNat n)) hl hVS
        simp only [List.forIn_cons, Sem.run_bind, Sem.run_pure, Result.andThen_ok, Int.ofNat_eq_natCast, Int.toNat_natCast]
        rw [ih]
        congr 1
        apply ByteArray.ext
        simp [ByteArray.push]
      · cases h
    · cases h

theorem isByte_sound (ok : CxOK P σ cx) {c : AV} (h : isByte cx.bytes c = true) {E : Env} (hσ : E.σ = σ) {V : Value} (hc : conc E c = some V) : ∃ n, V = .int .u8 n ∧ byteC E.σ c = some (UInt8.ofNat n.toNat) := by
  unfold isByte at h
  split at h
  · rename_i n
    rw [natBlt_eq] at h
    have h : n < 256 := by simpa using h
    refine ⟨_, conc_int hc, ?_⟩
    simp only [byteC, Int.ofNat_eq_natCast]
    rw [if_pos (by omega)]
  · rename_i s
    split at h
    · rename_i hb
      have := ok.bytes s hb
      refine ⟨_, conc_sym hc, ?_⟩
      simp only [byteC]
      rw [if_pos (by rw [hσ]; exact this)]
    · cases h
  · cases h

theorem bytes_loopS (ok : CxOK P σ cx) {w : World} {E : Env} (hσ : E.σ = σ) : ∀ (vs : List AV) (VS : List Value) (s : ByteArray), allBytes cx.bytes vs = true → concs E vs = some VS →
    ∃ bs, bytesC E.σ vs = some bs ∧ (forIn VS s fun c s => (match c with
      | .int .u8 n => Pure.pure (ForInStep.yield (s.push (UInt8.ofNat n.toNat)))
      | _ => do
        stuck "bytesToString: byte expected"
        Pure.pure (ForInStep.yield s) : Sem (ForInStep ByteArray))).run P w = .ok ⟨s.data ++ bs.toArray⟩ w
  | [], VS, s, h, hc => by
    simp [concs] at hc; subst hc
    exact ⟨[], rfl, by simp⟩
  | v :: vs, VS, s, h, hc => by
    obtain ⟨V, VS', hV, hVS, rfl⟩ := concs_cons hc
    simp only [allBytes] at h
    split at h
    · rename_i hb
      obtain ⟨n, rfl, hbyte⟩ := isByte_sound ok hb hσ hV
      obtain ⟨bs, hbs, ih⟩ := bytes_loopS ok (w := w) hσ vs VS' (s.push (UInt8.ofNat n.toNat)) h hVS
      refine ⟨UInt8.ofNat n.toNat :: bs, by simp only [bytesC, hbyte, hbs], ?_⟩
      simp only [List.forIn_cons, Sem.run_bind, Sem.run_pure, Result.andThen_ok]
      rw [ih]
      congr 1
      apply ByteArray.ext
      simp [ByteArray.push]
    · cases h

theorem convA_sound (ok : CxOK P σ cx) {h : AH} {s d : Nat} {x v : AV} (hc : convA cx h s d x = some v) {E : Env} (hσ : E.σ = σ) {B : Nat} {w0 w : World} (hr : Rel E B w0 h w) {X : Value} (hx : conc E x = some X) :
    ∃ V, conc E v = some V ∧ (convert s d X).run P w = .ok V w := by
  unfold convA at hc
  split at hc
  · rename_i si ti hsi hti
    obtain ⟨sd, hsd, hks, _⟩ := und_of ok hsi
    obtain ⟨dd, hdd, hkd, _⟩ := und_of ok hti
    split at hc
    · rename_i k he
      rw [he] at hkd; have := und_int hkd.symm; subst this
      unfold convI at hc
      split at hc
      · cases hc
        have := conc_int hx; subst this
        exact ⟨_, rfl, run_convert_int hsd hdd w⟩
      · obtain ⟨j, n, rfl, hcr⟩ := findC_sound ok hc hσ hx
        exact ⟨_, hcr, run_convert_int hsd hdd w⟩
      · cases hc
    · rename_i he
      rw [he] at hkd; have := und_str hkd.symm; subst this
      unfold convS at hc
      split at hc
      · cases hc
        have := conc_str hx; subst this
        exact ⟨_, rfl, run_convert_str hsd hdd w⟩
      · cases hc
        obtain ⟨bs, hbs, rfl⟩ := conc_sstr hx
        exact ⟨_, hx, run_convert_str hsd hdd w⟩
      · split at hc
        · rename_i hb
          unfold isBytes at hb
          split at hb
          · rename_i e hse
            rw [hse] at hks; have := und_slice hks.symm; subst this
            split at hb
            · rename_i ei hei
              obtain ⟨ed, hed, hke, _⟩ := und_of ok hei
              split at hb
              · rename_i hu8
                rw [hu8] at hke; have := und_int hke.symm; subst this
                split at hc
                · rename_i bs hbs
                  cases hc
                  unfold bytesOf at hbs
                  split at hbs
                  · cases hbs
                    cases (Option.some.inj hx : Value.slice none 0 0 = X)
                    refine ⟨_, rfl, ?_⟩
                    simp only [convert, Sem.run_bind, run_underlying hsd, run_underlying hdd, Result.andThen_ok, run_underlying hed, Conv.bytesToString, Sem.run_pure]
                    rfl
                  · rename_i i off eo len cap _ _
                    obtain ⟨p, hp, rfl, _⟩ := conc_slice hx
                    split at hbs
                    · rename_i cs ro es hi
                      split at hbs
                      · rename_i l hl
                        obtain ⟨hat, vs, hvs, hcell⟩ := cells_at hr hi hp
                        obtain ⟨hle, rfl⟩ := slice1_eq hl
                        have hvl := concs_length hvs
                        refine ⟨_, rfl, ?_⟩
                        have hld := run_loadCells_at (P := P) hcell off len (by omega)
                        have hloop := bytes_loop (P := P) (w := w) _ bs E _ ByteArray.empty hbs (concs_take (concs_drop hvs off) len)
                        simp only [convert, Sem.run_bind, run_underlying hsd, run_underlying hdd, Result.andThen_ok, run_underlying hed, Conv.bytesToString, hld]
                        rw [← Array.forIn_toList]
                        refine Eq.trans (congrArg (fun r => Result.andThen r _) hloop) ?_
                        simp
                      · cases hbs
                    · cases hbs
                  · cases hbs
                · unfold symBytes at hc
                  split at hc
                  · rename_i i off eo len cap _ _ _
                    obtain ⟨p, hp, rfl, _⟩ := conc_slice hx
                    split at hc
                    · rename_i cs ro es hi
                      split at hc
                      · rename_i l hl
                        split at hc
                        · rename_i hall
                          cases hc
                          obtain ⟨hat, vs, hvs, hcell⟩ := cells_at hr hi hp
                          obtain ⟨hle, rfl⟩ := slice1_eq hl
                          have hvl := concs_length hvs
                          have hld := run_loadCells_at (P := P) hcell off len (by omega)
                          obtain ⟨bs, hbs, hloop⟩ := bytes_loopS ok (w := w) hσ _ _ ByteArray.empty hall (concs_take (concs_drop hvs off) len)
                          refine ⟨.string ⟨bs.toArray⟩, by simp only [conc, hbs, Option.map_some], ?_⟩
                          simp only [convert, Sem.run_bind, run_underlying hsd, run_underlying hdd, Result.andThen_ok, run_underlying hed, Conv.bytesToString, hld]
                          rw [← Array.forIn_toList]
                          refine Eq.trans (congrArg (fun r => Result.andThen r _) hloop) ?_
                          simp
                        · cases hc
                      · cases hc
                    · cases hc
                  · cases hc
              · cases hb
            · cases hb
          · cases hb
        · cases hc
    · cases hc
  · cases hc

theorem mkMapA_sound {h h' : AH} {r : Option Operand} {v : AV} (hl : mkMapA h r = .val v h') {E : Env} {B : Nat} {w0 w : World} (hr : Rel E B w0 h w) (hf : E.φ h.next = none) (t : Nat) :
    r = none ∧ ∃ E' V w', conc E' v = some V ∧ (Instr.makeMap t none).run P w = .ok V w' ∧ Post E B w0 h w E' h' w' := by
  unfold mkMapA at hl
  split at hl
  · cases hl
    have hB : B ≤ w.heap.size := Nat.le_trans hr.base hr.below.size
    refine ⟨rfl, E.put h.next ⟨w.heap.size, 0, 0, undef⟩, _, _, conc_map_mk (Env.put_same _ _ _), ?_, Post.alloc hr hf (.map [] 0) (.map #[] 0) 0 ⟨hB, [], rfl, heap_alloc_new _ _⟩⟩
    simp [Instr.makeMap]
  · cases hl
end Go.Abs

namespace Go.Abs
open Go.RowKit

variable {P : Program} {σ : Val} {cx : Cx}

/-- `range` over a map -/
theorem rangeA_sound (ok : CxOK P σ cx) {h h' : AH} {t : Nat} {m v : AV} (hl : rangeA cx h t m = .val v h') {E : Env} {B : Nat} {w0 w : World} (hr : Rel E B w0 h w) (hf : E.φ h.next = none) {M : Value} (hm : conc E m = some M) :
    ∃ E' V w', conc E' v = some V ∧ (Instr.range t M).run P w = .ok V w' ∧ Post E B w0 h w E' h' w' := by
  unfold rangeA at hl
  split at hl
  case h_2 => cases hl
  rename_i ty hty
  obtain ⟨d, hd, hk, _⟩ := und_of ok hty
  have hB : B ≤ w.heap.size := Nat.le_trans hr.base hr.below.size
  split at hl
  case h_2 => cases hl
  rename_i k e hkk
  rw [hkk] at hk
  have := und_map hk.symm; subst this
  split at hl
  · cases hl
    have : M = .map none := by simpa [conc] using hm.symm
    subst this
    refine ⟨E.put h.next ⟨w.heap.size, 0, 0, undef⟩, .pointer (some ⟨w.heap.size, 0, none⟩), _, ?_, ?_, Post.alloc hr hf (.iter none 0 0 [] none) (.mapIter none 0 #[] 0) 0 ⟨hB, rfl, none, [], rfl, rfl, heap_alloc_new _ _⟩⟩
    · simp [conc, Env.put_same]
    · simp [Instr.range, run_underlying hd]
  · rename_i i
    split at hl
    · rename_i es c hi
      cases hl
      obtain ⟨p, hp, rfl⟩ := conc_map hm
      obtain ⟨l, hl, hw⟩ := map_at hr hi hp
      have hne : i ≠ h.next := fun e => by subst e; rw [hf] at hp; cases hp
      refine ⟨E.put h.next ⟨w.heap.size, 0, 0, undef⟩, .pointer (some ⟨w.heap.size, 0, none⟩), _, ?_, ?_, Post.alloc hr hf (.iter (some i) c c [] none) (.mapIter (some p.block) c #[] c) 0 ⟨hB, rfl, some p.block, [], ⟨p, ?_, rfl⟩, rfl, heap_alloc_new _ _⟩⟩
      · simp [conc, Env.put_same]
      · simp only [Instr.range, Sem.run_bind, run_underlying hd, Result.andThen_ok, run_getObj_map hw]
        simp
      · rw [Env.put_other _ _ hne]; exact hp
    · cases hl
  · cases hl

theorem beq_nb (a b : Nat) : (a == b) = Nat.beq a b := by
  rw [Bool.eq_iff_iff]; simp

theorem memNat_eq (n : Nat) : ∀ l : List Nat, memNat n l = l.contains n
  | [] => rfl
  | m :: l => by
    simp only [memNat, List.contains_cons]
    rw [beq_nb]
    cases Nat.beq n m with
    | true => rfl
    | false => simpa using memNat_eq n l

theorem leftE_conc {E : Env} (seen : List Nat) : ∀ {es : List (AV × AV × Nat)} {l : List MapEntry}, concE E es = some l → concE E (leftE seen es) = some (l.filter fun e => !seen.contains e.born)
  | [], l, h => by simp [concE] at h; subst h; rfl
  | (k, v, b) :: es, l, h => by
    obtain ⟨k', v', l', h1, h2, h3, rfl⟩ := concE_cons h
    simp only [leftE, List.filter_cons]
    rw [memNat_eq]
    cases seen.contains b with
    | true => simpa using leftE_conc seen h3
    | false => simpa using concE_mk h1 h2 (leftE_conc seen h3)

theorem anyOld_conc {E : Env} (last : Nat) : ∀ {es : List (AV × AV × Nat)} {l : List MapEntry}, concE E es = some l → anyOld last es = true → l.all (fun e => decide (e.born ≥ last)) = false
  | [], l, h, ha => by cases ha
  | (k, v, b) :: es, l, h, ha => by
    obtain ⟨k', v', l', h1, h2, h3, rfl⟩ := concE_cons h
    simp only [anyOld] at ha
    simp only [List.all_cons]
    split at ha
    · rename_i hb
      have : b < last := by simpa [Nat.blt_eq] using hb
      simp [show ¬ last ≤ b by omega]
    · rw [anyOld_conc last h3 ha]; simp

theorem stepOK_conc {E : Env} {seen : List Nat} {last : Nat} {es : List (AV × AV × Nat)} {l : List MapEntry} (he : concE E es = some l) (h : stepOK seen last es = true) :
    (!seen.toArray.isEmpty && !l.toArray.isEmpty && l.toArray.all (fun e => decide (e.born ≥ last))) = false := by
  unfold stepOK at h
  split at h
  · simp
  · split at h
    · simp [concE] at he; subst he; simp
    · have := anyOld_conc last he h
      simp only [List.all_toArray, this, Bool.and_false]

theorem run_getObj_iter {w : World} {r : Nat} {m : Option Nat} {s : Nat} {S : Array Nat} {c : Nat} (h : w.heap[r]? = some (.mapIter m s S c)) : (getObj r).run P w = .ok (.mapIter m s S c) w := by
  simp [getObj, Sem.run, h]
theorem run_setObj_iter {w : World} {r : Nat} {m : Option Nat} {s : Nat} {S : Array Nat} {c : Nat} (h : w.heap[r]? = some (.mapIter m s S c)) (o : Obj) : (setObj r o).run P w = .ok () { w with heap := w.heap.setIfInBounds r o } := by
  simp [setObj, Sem.run, h]

theorem conc_next {E : Env} {k v : AV} {K V : Value} (hk : conc E k = some K) (hv : conc E v = some V) : conc E (.tup [.bool true, k, v]) = some (.tuple #[.bool true, K, V]) := by
  simp [conc, concs, hk, hv]

theorem nextA_sound {h h' : AH} {s : Bool} {it v : AV} (hl : nextA h s it = .val v h') {E : Env} {B : Nat} {w0 w : World} (hr : Rel E B w0 h w) {I : Value} (hi : conc E it = some I) (ty : TypeId) :
    ∃ V w', conc E v = some V ∧ (Instr.next I s ty).run P w = .ok V w' ∧ Post E B w0 h w E h' w' := by
  unfold nextA at hl
  split at hl
  · cases hl
  split at hl
  case h_2 => cases hl
  rename_i i
  obtain ⟨p, hp, rfl⟩ := conc_ptr hi
  split at hl
  · rename_i since last seen pre ho
    cases hl
    obtain ⟨_, h0, mb, S, h2, h3, h4⟩ := hr.objs i _ p ho hp
    cases h2
    refine ⟨.tuple #[.bool false], w, rfl, ?_, Post.refl hr⟩
    simp only [Instr.next, h0, Nat.add_zero, Sem.run_bind, run_getObj_iter h4, Result.andThen_ok]
    rfl
  · rename_i m since last seen ho
    obtain ⟨hB, h0, mb, S, h2, h3, h4⟩ := hr.objs i _ p ho hp
    obtain ⟨q, hq, rfl⟩ := h2
    cases h3
    simp only [List.nil_append] at h4
    split at hl
    case h_2 => cases hl
    rename_i es clock hm
    obtain ⟨l, hcl, hw⟩ := map_at hr hm hq
    split at hl
    case h_2 => cases hl
    rename_i hst
    have hst := stepOK_conc hcl hst
    have hlf := leftE_conc seen hcl
    have hfil : Array.filter (fun e => !Array.contains seen.toArray e.born) l.toArray = (l.filter fun e => !seen.contains e.born).toArray := by
      simp
    split at hl
    · rename_i hle
      cases hl
      rw [hle] at hlf
      have hnil : (l.filter fun e => !seen.contains e.born) = [] := by simpa [concE] using hlf.symm
      refine ⟨.tuple #[.bool false], w, rfl, ?_, Post.refl hr⟩
      simp only [Instr.next, h0, Nat.add_zero, Sem.run_bind, run_getObj_iter h4, run_getObj_map hw, Result.andThen_ok, hst, hfil, hnil]
      simp [choose, Sem.run, Question.forced]
    · rename_i k v b hle
      split at hl
      case h_2 => cases hl
      rename_i hb
      cases hl
      have hb : b < since := by simpa [Nat.blt_eq] using hb
      rw [hle] at hlf
      obtain ⟨K, V, r', hK, hV, hr', hl2⟩ := concE_cons hlf
      have : r' = [] := by simpa [concE] using hr'.symm
      subst this
      refine ⟨.tuple #[.bool true, K, V], _, conc_next hK hV, ?_, Post.write hr ho hp rfl (.mapIter (some q.block) since (seen ++ [b]).toArray clock) fun w' hw' => ⟨hB, h0, some q.block, [], ⟨q, hq, rfl⟩, rfl, by simpa using hw'⟩⟩
      simp only [Instr.next, h0, Nat.add_zero, Sem.run_bind, run_getObj_iter h4, run_getObj_map hw, Result.andThen_ok, hst, hfil, hl2]
      simp [choose, Sem.run, Question.forced, hb, run_setObj_iter h4, Nat.not_le.2 hb]
    · cases hl
  · cases hl

theorem lastN_eq : ∀ (l : List Nat) (b : Nat), lastN l = some b → ∀ S : List Nat, (S ++ l).toArray.back? = some b
  | [], _, h, _ => by cases h
  | [c], b, h, S => by simp [lastN] at h; subst h; simp
  | c :: d :: l, b, h, S => by
    have := lastN_eq (d :: l) b (by simpa [lastN] using h) (S ++ [c])
    simpa using this

theorem findB_conc {E : Env} {n : Nat} : ∀ {es : List (AV × AV × Nat)} {l : List MapEntry} {v : AV}, concE E es = some l → findB n es = some v → ∃ e, l.find? (fun e => e.born == n) = some e ∧ conc E v = some (.tuple #[e.key, e.val])
  | [], _, _, _, h => by cases h
  | (k, v, b) :: es, l, x, h, hf => by
    obtain ⟨k', v', l', h1, h2, h3, rfl⟩ := concE_cons h
    simp only [findB] at hf
    simp only [List.find?_cons]
    rw [beq_nb]
    split at hf
    · rename_i hb
      cases hf
      rw [hb]
      exact ⟨_, rfl, by simp [conc, concs, h1, h2]⟩
    · rename_i hb
      rw [hb]
      exact findB_conc h3 hf

theorem entryA_sound {h : AH} {it v : AV} (hl : entryA h it = some v) {E : Env} {B : Nat} {w0 w : World} (hr : Rel E B w0 h w) {I : Value} (hi : conc E it = some I) :
    ∃ V, conc E v = some V ∧ (Instr.entry I).run P w = .ok V w := by
  unfold entryA at hl
  split at hl
  case h_2 => cases hl
  rename_i i
  obtain ⟨p, hp, rfl⟩ := conc_ptr hi
  split at hl
  case h_2 => cases hl
  rename_i m since last seen pre ho
  obtain ⟨hB, h0, mb, S, h2, h3, h4⟩ := hr.objs i _ p ho hp
  obtain ⟨q, hq, rfl⟩ := h2
  split at hl
  case h_2 => cases hl
  rename_i b hb
  split at hl
  case h_2 => cases hl
  rename_i es clock hm
  obtain ⟨l, hcl, hw⟩ := map_at hr hm hq
  split at hl
  case h_2 => cases hl
  rename_i hc
  have hc : clock = last := Nat.eq_of_beq_eq_true hc
  subst hc
  obtain ⟨e, he, hv⟩ := findB_conc hcl hl
  refine ⟨_, hv, ?_⟩
  have hfind : l.toArray.find? (fun x => x.born == b) = some e := by simpa using he
  simp only [Instr.entry, h0, Nat.add_zero, Sem.run_bind, run_getObj_iter h4, run_getObj_map hw, Result.andThen_ok, lastN_eq seen b hb S, bne_self_eq_false, Bool.false_eq_true, if_false, hfind]
  rfl
end Go.Abs

namespace Go.Abs
open Go.RowKit

variable {P : Program} {σ : Val} {cx : Cx}

theorem newA_next (h : AH) (cs : List AV) (es : Nat) : (newA h cs es).next = h.next + 1 := rfl

theorem next_append {h h' : AH} {t u : Nat} {s x v : AV} (ha : appendA cx h t u s x = some (v, h')) : h.next ≤ h'.next := by
  unfold appendA appendE appendSl growA inPlaceA at ha
  repeat' (first | (cases ha; done) | (split at ha))
  all_goals first
    | (cases ha; done)
    | (cases ha; simp [newA]; done)
    | (cases ha; exact Nat.le_refl _)
theorem next_copy {h h' : AH} {t : Nat} {d s v : AV} (ha : copyA cx h t d s = some (v, h')) : h.next ≤ h'.next := by
  unfold copyA copyTo at ha
  repeat' (first | (cases ha; done) | (split at ha))
  all_goals first
    | (cases ha; done)
    | (cases ha; exact Nat.le_refl _)
theorem next_clear {h h' : AH} {t : Nat} {d v : AV} (ha : clearA cx h t d = some (v, h')) : h.next ≤ h'.next := by
  unfold clearA at ha
  repeat' (first | (cases ha; done) | (split at ha))
  all_goals first
    | (cases ha; done)
    | (cases ha; exact Nat.le_refl _)
theorem next_del {h h' : AH} {t : Nat} {m k v : AV} (ha : delM cx h t m k = .val v h') : h.next ≤ h'.next := by
  unfold delM at ha
  repeat' (first | (cases ha; done) | (split at ha))
  all_goals first
    | (cases ha; done)
    | (cases ha; exact Nat.le_refl _)
theorem next_upd {h h' : AH} {t : Nat} {m k v : AV} (ha : mapUpdA cx h t m k v = some h') : h.next ≤ h'.next := by
  unfold mapUpdA at ha
  repeat' (first | (cases ha; done) | (split at ha))
  all_goals first
    | (cases ha; done)
    | (cases ha; exact Nat.le_refl _)
theorem next_store {h h' : AH} {t : Nat} {p v : AV} (ha : storeA cx h t p v = some h') : h.next ≤ h'.next := by
  unfold storeA at ha
  repeat' (first | (cases ha; done) | (split at ha))
  all_goals first
    | (cases ha; done)
    | (cases ha; exact Nat.le_refl _)

theorem rv_inv {h h' : AH} {x : Option AV} {v : AV} (hh : rv h x = .val v h') : x = some v ∧ h' = h := by
  unfold rv at hh; split at hh <;> cases hh; exact ⟨rfl, rfl⟩
theorem rop_inv {h' : AH} {x : Option (AV × AH)} {v : AV} (hh : rop x = .val v h') : x = some (v, h') := by
  unfold rop at hh; split at hh <;> cases hh; rfl
theorem rh_inv {h' : AH} {x : Option AH} {v : AV} (hh : rh x = .val v h') : x = some h' ∧ v = .undef := by
  unfold rh at hh; split at hh <;> cases hh; exact ⟨rfl, rfl⟩
theorem bind1_inv {x : Option AV} {k : AV → AR} {r : AR} (hr : r ≠ .no) (hh : bind1 x .no k = r) : ∃ u, x = some u ∧ k u = r := by
  unfold bind1 at hh
  split at hh
  · rename_i u; exact ⟨u, rfl, hh⟩
  · exact absurd hh.symm hr

theorem map_arr {α β : Type} (x : Array α) {f : α → β} : x.map f = (x.toList.map f).toArray := by
  apply Array.ext'; simp
theorem arr_zero {α : Type} {x : Array α} {a : α} {l : List α} (h : x.toList = a :: l) : x[0]? = some a := by
  rw [← Array.getElem?_toList, h]; rfl
theorem arr_one {α : Type} {x : Array α} {a b : α} {l : List α} (h : x.toList = a :: b :: l) : x[1]? = some b := by
  rw [← Array.getElem?_toList, h]; rfl

/-- an operation that gives a value -/
theorem aop_val (ok : CxOK P σ cx) {tm : Tm} {h h' : AH} {v : AV} (o : Oper) (ha : aop cx tm h o.op = .val v h') :
    h.next ≤ h'.next ∧ ∀ (E : Env) (B : Nat) (w0 w : World) (a : Act), E.σ = σ → TmRel E tm a → Rel E B w0 h w → Fresh E h h' → OpRes P (execOp a.eval o) E B w0 h w v h' := by
  have nv : AR.val v h' ≠ .no := by simp
  obtain ⟨dst, op, type, pos, after, guard⟩ := o
  simp only at ha
  cases op <;> simp only [aop, aop2] at ha
  case move x =>
    obtain ⟨hx, rfl⟩ := rv_inv ha
    exact ⟨Nat.le_refl _, fun E B w0 w a hσ ht hr hf => OpRes.pure hr (opnd_sound ht hx) (by simp [execOp])⟩
  case assign x =>
    obtain ⟨hx, rfl⟩ := rv_inv ha
    exact ⟨Nat.le_refl _, fun E B w0 w a hσ ht hr hf => OpRes.pure hr (opnd_sound ht hx) (by simp [execOp])⟩
  case pick c x y =>
    obtain ⟨hx, rfl⟩ := rv_inv ha
    refine ⟨Nat.le_refl _, fun E B w0 w a hσ ht hr hf => ?_⟩
    obtain ⟨V, hV, hrun⟩ := pickA_sound (P := P) hx ht
    exact OpRes.pure hr hV (hrun w)
  case alloc t =>
    have hn : h.next ≤ h'.next ∧ h.next < h'.next := by
      unfold allocA at ha; split at ha <;> cases ha; simp [newA]
    refine ⟨hn.1, fun E B w0 w a hσ ht hr hf => ?_⟩
    obtain ⟨E', V, w', h1, h2, h3⟩ := allocA_sound ok ha hr (hf h.next (Nat.le_refl _) hn.2)
    exact ⟨E', V, w', .inl (run_v h2), h1, h3⟩
  case box t x =>
    obtain ⟨u, hu, ha⟩ := bind1_inv nv ha
    have hn : h.next ≤ h'.next ∧ h.next < h'.next := by
      unfold boxA at ha; split at ha <;> cases ha; simp [newA]
    refine ⟨hn.1, fun E B w0 w a hσ ht hr hf => ?_⟩
    obtain ⟨E', V, w', h1, h2, h3⟩ := boxA_sound (P := P) ha hr (hf h.next (Nat.le_refl _) hn.2) (opnd_sound ht hu) t
    exact ⟨E', V, w', .inl (run_v h2), h1, h3⟩
  case build t ps =>
    obtain ⟨hx, rfl⟩ := rv_inv ha
    refine ⟨Nat.le_refl _, fun E B w0 w a hσ ht hr hf => ?_⟩
    obtain ⟨V, hV, hg⟩ := buildA_sound ok hx (fun q hq => partsA_sound ht hq)
    refine OpRes.pure hr hV (run_v ?_)
    rw [map_arr]; exact hg w
  case buildSlice t n ps =>
    have hn : h.next ≤ h'.next ∧ h.next < h'.next := by
      unfold buildSl at ha
      repeat' (first | (cases ha; done) | (split at ha))
      all_goals (cases ha; simp [newA])
    refine ⟨hn.1, fun E B w0 w a hσ ht hr hf => ?_⟩
    obtain ⟨E', V, w', h1, h2, h3⟩ := buildSl_sound ok ha hr (hf h.next (Nat.le_refl _) hn.2) (fun q hq => partsA_sound ht hq)
    refine ⟨E', V, w', .inl (run_v ?_), h1, h3⟩
    rw [map_arr]; exact h2
  case insert => cases ha
  case load t p =>
    obtain ⟨u, hu, ha⟩ := bind1_inv nv ha
    obtain ⟨hx, rfl⟩ := rv_inv ha
    refine ⟨Nat.le_refl _, fun E B w0 w a hσ ht hr hf => ?_⟩
    obtain ⟨V, ad, hX, hV, hrun⟩ := loadA_sound ok hx hσ hr (opnd_sound ht hu)
    refine OpRes.pure hr hV (run_v ?_)
    rw [hX]; simpa [Instr.loadAt, Instr.sureAddr] using hrun
  case store t p x =>
    obtain ⟨u, hu, ha⟩ := bind1_inv nv ha
    obtain ⟨y, hy, ha⟩ := bind1_inv nv ha
    obtain ⟨hx, rfl⟩ := rh_inv ha
    refine ⟨next_store hx, fun E B w0 w a hσ ht hr hf => ?_⟩
    obtain ⟨ad, w', hX, hrun, hpost⟩ := storeA_sound ok hx hr (opnd_sound ht hu) (opnd_sound ht hy)
    refine ⟨E, undef, w', .inr ⟨rfl, run_u ?_⟩, conc_undef E, hpost⟩
    rw [hX]; simpa [Instr.storeAt, Instr.sureAddr] using hrun
  case ready => cases ha
  case waits => cases ha
  case nilCheck x =>
    obtain ⟨u, hu, ha⟩ := bind1_inv nv ha
    obtain ⟨hx, rfl⟩ := rv_inv ha
    refine ⟨Nat.le_refl _, fun E B w0 w a hσ ht hr hf => ?_⟩
    have hc := opnd_sound ht hu
    obtain ⟨rfl, hX⟩ := nilChk_sound hx hc
    refine OpRes.pure hr hc ?_
    rcases hX with ⟨ad, hX⟩ | ⟨f, b, c, hX⟩ <;> simp [execOp, hX]
  case binOp op t x y yt =>
    obtain ⟨u, hu, ha⟩ := bind1_inv nv ha
    obtain ⟨y', hy, ha⟩ := bind1_inv nv ha
    obtain ⟨hx, rfl⟩ := rv_inv ha
    refine ⟨Nat.le_refl _, fun E B w0 w a hσ ht hr hf => ?_⟩
    obtain ⟨V, hV, hg⟩ := bin_sound ok hx hσ (opnd_sound ht hu) (opnd_sound ht hy)
    exact OpRes.pure hr hV (run_v (hg x y w))
  case unOp op t x =>
    obtain ⟨u, hu, ha⟩ := bind1_inv nv ha
    obtain ⟨hx, rfl⟩ := rv_inv ha
    refine ⟨Nat.le_refl _, fun E B w0 w a hσ ht hr hf => ?_⟩
    obtain ⟨V, hV, hg⟩ := unO_sound (P := P) hx (opnd_sound ht hu)
    exact OpRes.pure hr hV (run_v (hg w))
  case convert s d x =>
    obtain ⟨u, hu, ha⟩ := bind1_inv nv ha
    obtain ⟨hx, rfl⟩ := rv_inv ha
    refine ⟨Nat.le_refl _, fun E B w0 w a hσ ht hr hf => ?_⟩
    obtain ⟨V, hV, hrun⟩ := convA_sound ok hx hσ hr (opnd_sound ht hu)
    exact OpRes.pure hr hV (run_v hrun)
  case sliceToArrayPointer => cases ha
  case makeInterface => cases ha
  case makeFunc f x y =>
    obtain ⟨hx, rfl⟩ := rv_inv ha
    refine ⟨Nat.le_refl _, fun E B w0 w a hσ ht hr hf => ?_⟩
    obtain ⟨V, hV, hg⟩ := mkFunA_sound (P := P) hx (fun l hl => opnds_sound ht hl) (fun l hl => opnds_sound ht hl)
    refine OpRes.pure hr hV (run_v ?_)
    have := hg w
    rw [map_arr x, map_arr y]; exact this
  case makeMap t r =>
    have hn : h.next ≤ h'.next ∧ h.next < h'.next := by
      unfold mkMapA at ha; split at ha <;> cases ha; simp
    refine ⟨hn.1, fun E B w0 w a hσ ht hr hf => ?_⟩
    obtain ⟨rfl, E', V, w', h1, h2, h3⟩ := mkMapA_sound (P := P) ha hr (hf h.next (Nat.le_refl _) hn.2) t
    exact ⟨E', V, w', .inl (run_v h2), h1, h3⟩
  case makeChan => cases ha
  case makeSlice t n c =>
    obtain ⟨n', hn', ha⟩ := bind1_inv nv ha
    obtain ⟨c', hc', ha⟩ := bind1_inv nv ha
    have hn : h.next ≤ h'.next ∧ h.next < h'.next := by
      unfold mkSlA at ha
      repeat' (first | (cases ha; done) | (split at ha))
      all_goals (cases ha; simp [newA])
    refine ⟨hn.1, fun E B w0 w a hσ ht hr hf => ?_⟩
    obtain ⟨E', V, w', h1, h2, h3⟩ := mkSlA_sound ok ha hr (hf h.next (Nat.le_refl _) hn.2) (opnd_sound ht hn') (opnd_sound ht hc')
    exact ⟨E', V, w', .inl (run_v h2), h1, h3⟩
  case slice t x lo hi mx =>
    obtain ⟨u, hu, ha⟩ := bind1_inv nv ha
    obtain ⟨hx, rfl⟩ := rv_inv ha
    refine ⟨Nat.le_refl _, fun E B w0 w a hσ ht hr hf => ?_⟩
    unfold slA at hx
    split at hx
    · rename_i l2 h2 m2 e1 e2 e3
      obtain ⟨V, hV, hg⟩ := sliceA_sound ok hx (opnd_sound ht hu) (optO_sound ht e1) (optO_sound ht e2) (optO_sound ht e3)
      exact OpRes.pure hr hV (run_v (hg w))
    · cases hx
  case fieldAddr t x f =>
    obtain ⟨u, hu, ha⟩ := bind1_inv nv ha
    obtain ⟨hx, rfl⟩ := rv_inv ha
    refine ⟨Nat.le_refl _, fun E B w0 w a hσ ht hr hf => ?_⟩
    obtain ⟨V, hV, hg⟩ := fldAddr_sound ok hx (opnd_sound ht hu)
    exact OpRes.pure hr hV (run_v (hg w))
  case field t x f =>
    obtain ⟨u, hu, ha⟩ := bind1_inv nv ha
    obtain ⟨hx, rfl⟩ := rv_inv ha
    refine ⟨Nat.le_refl _, fun E B w0 w a hσ ht hr hf => ?_⟩
    obtain ⟨V, hV, hg⟩ := fldA_sound ok hx (opnd_sound ht hu)
    exact OpRes.pure hr hV (run_v (hg w))
  case indexAddr t x ix =>
    obtain ⟨u, hu, ha⟩ := bind1_inv nv ha
    obtain ⟨y, hy, ha⟩ := bind1_inv nv ha
    obtain ⟨hx, rfl⟩ := rv_inv ha
    refine ⟨Nat.le_refl _, fun E B w0 w a hσ ht hr hf => ?_⟩
    obtain ⟨V, hV, hg⟩ := ixAddr_sound ok hx hσ (opnd_sound ht hu) (opnd_sound ht hy)
    exact OpRes.pure hr hV (run_v (hg w))
  case index t x ix =>
    obtain ⟨u, hu, ha⟩ := bind1_inv nv ha
    obtain ⟨y, hy, ha⟩ := bind1_inv nv ha
    obtain ⟨hx, rfl⟩ := rv_inv ha
    refine ⟨Nat.le_refl _, fun E B w0 w a hσ ht hr hf => ?_⟩
    obtain ⟨V, hV, hg⟩ := ixA_sound ok hx (opnd_sound ht hu) (opnd_sound ht hy)
    exact OpRes.pure hr hV (run_v (hg w))
  case lookup t m k c =>
    obtain ⟨u, hu, ha⟩ := bind1_inv nv ha
    obtain ⟨y, hy, ha⟩ := bind1_inv nv ha
    obtain ⟨hx, rfl⟩ := rv_inv ha
    refine ⟨Nat.le_refl _, fun E B w0 w a hσ ht hr hf => ?_⟩
    obtain ⟨V, hV, hrun⟩ := lookA_sound ok hx hσ hr (opnd_sound ht hu) (opnd_sound ht hy)
    exact OpRes.pure hr hV (run_v hrun)
  case mapUpdate t m k x =>
    obtain ⟨u, hu, ha⟩ := bind1_inv nv ha
    obtain ⟨y, hy, ha⟩ := bind1_inv nv ha
    obtain ⟨z, hz, ha⟩ := bind1_inv nv ha
    obtain ⟨hx, rfl⟩ := rh_inv ha
    refine ⟨next_upd hx, fun E B w0 w a hσ ht hr hf => ?_⟩
    obtain ⟨w', hrun, hpost⟩ := mapUpdA_sound ok hx hσ hr (opnd_sound ht hu) (opnd_sound ht hy) (opnd_sound ht hz)
    exact ⟨E, undef, w', .inr ⟨rfl, run_u hrun⟩, conc_undef E, hpost⟩
  case mapEntry => cases ha
  case entryStore => cases ha
  case range t x =>
    obtain ⟨u, hu, ha⟩ := bind1_inv nv ha
    have hn : h.next ≤ h'.next ∧ h.next < h'.next := by
      unfold rangeA at ha
      repeat' (first | (cases ha; done) | (split at ha))
      all_goals (cases ha; simp)
    refine ⟨hn.1, fun E B w0 w a hσ ht hr hf => ?_⟩
    obtain ⟨E', V, w', h1, h2, h3⟩ := rangeA_sound ok ha hr (hf h.next (Nat.le_refl _) hn.2) (opnd_sound ht hu)
    exact ⟨E', V, w', .inl (run_v h2), h1, h3⟩
  case next x s =>
    obtain ⟨u, hu, ha⟩ := bind1_inv nv ha
    have hn : h.next ≤ h'.next := by
      unfold nextA at ha
      repeat' (first | (cases ha; done) | (split at ha))
      all_goals (cases ha; simp)
    refine ⟨hn, fun E B w0 w a hσ ht hr hf => ?_⟩
    obtain ⟨V, w', h1, h2, h3⟩ := nextA_sound (P := P) ha hr (opnd_sound ht hu) type
    exact ⟨E, V, w', .inl (run_v h2), h1, h3⟩
  case entry x =>
    obtain ⟨u, hu, ha⟩ := bind1_inv nv ha
    obtain ⟨hx, rfl⟩ := rv_inv ha
    refine ⟨Nat.le_refl _, fun E B w0 w a hσ ht hr hf => ?_⟩
    obtain ⟨V, hV, hrun⟩ := entryA_sound (P := P) hx hr (opnd_sound ht hu)
    exact OpRes.pure hr hV (run_v hrun)
  case typeAssert => cases ha
  case extract x i =>
    obtain ⟨u, hu, ha⟩ := bind1_inv nv ha
    obtain ⟨hx, rfl⟩ := rv_inv ha
    refine ⟨Nat.le_refl _, fun E B w0 w a hσ ht hr hf => ?_⟩
    obtain ⟨V, hV, hg⟩ := extrA_sound (P := P) hx (opnd_sound ht hu)
    exact OpRes.pure hr hV (run_v (hg w))
  case call c =>
    obtain ⟨callee, args, argTypes⟩ := c
    unfold callO at ha
    cases callee with
    | value f =>
      simp only at ha
      obtain ⟨u, hu, ha⟩ := bind1_inv nv ha
      unfold callA at ha
      split at ha <;> cases ha
    | invoke r m => cases ha
    | builtin b =>
      simp only at ha
      have runb : ∀ (a : Act) (w w' : World) (V : Value) (s : Sem Value), (builtin b argTypes type (args.map fun | .const _ => true | _ => false) (args.map a.eval)) = (do Pure.pure (Next.value (← s))) → s.run P w = .ok V w' →
          (execOp a.eval { dst, op := .call { callee := .builtin b, args, argTypes }, type, pos, after, guard }).run P w = .ok (.value V) w' := by
        intro a w w' V s hb hs
        simp only [execOp, resolve, Sem.run_bind, Sem.run_pure, Result.andThen_ok, invoke]
        exact (congrArg (fun q => Sem.run P q w) hb).trans (run_v hs)
      unfold biA at ha
      split at ha
      · rename_i x hxs
        have one : ∀ (E : Env) (a : Act), TmRel E tm a → ∃ X, conc E x = some X ∧ args.map a.eval = #[X] := by
          intro E a ht
          have := opnds_sound ht hxs
          obtain ⟨X, l, hX, hl, he⟩ := concs_cons this
          simp only [concs, Option.some.injEq] at hl; subst hl
          exact ⟨X, hX, by rw [map_arr, he]⟩
        split at ha
        · rename_i t ts hts
          obtain ⟨hx, rfl⟩ := rv_inv ha
          refine ⟨Nat.le_refl _, fun E B w0 w a hσ ht hr hf => ?_⟩
          obtain ⟨X, hX, hm⟩ := one E a ht
          obtain ⟨V, hV, hrun⟩ := lenA_sound ok hx hσ hr hX argTypes (arr_zero hts) type
          exact ⟨E, V, w, .inl (runb a w w V _ (by rw [hm]; rfl) hrun), hV, Post.refl hr⟩
        · rename_i t ts hts
          have hx := rop_inv ha
          refine ⟨next_clear hx, fun E B w0 w a hσ ht hr hf => ?_⟩
          obtain ⟨X, hX, hm⟩ := one E a ht
          obtain ⟨V, w', hV, hrun, hpost⟩ := clearA_sound ok hx hr hX (arr_zero hts) type
          exact ⟨E, V, w', .inl (runb a w w' V _ (by rw [hm]; rfl) hrun), hV, hpost⟩
        · rename_i t ts hts
          obtain ⟨hx, rfl⟩ := rv_inv ha
          refine ⟨Nat.le_refl _, fun E B w0 w a hσ ht hr hf => ?_⟩
          obtain ⟨X, hX, hm⟩ := one E a ht
          obtain ⟨V, hV, hrun⟩ := capA_sound ok hx hX argTypes (arr_zero hts) type w
          exact ⟨E, V, w, .inl (runb a w w V _ (by rw [hm]; rfl) hrun), hV, Post.refl hr⟩
        · cases ha
      · rename_i x y hxs
        have two : ∀ (E : Env) (a : Act), TmRel E tm a → ∃ X Y, conc E x = some X ∧ conc E y = some Y ∧ args.map a.eval = #[X, Y] := by
          intro E a ht
          have := opnds_sound ht hxs
          obtain ⟨X, l, hX, hl, he⟩ := concs_cons this
          obtain ⟨Y, l2, hY, hl2, he2⟩ := concs_cons hl
          simp only [concs, Option.some.injEq] at hl2; subst hl2
          exact ⟨X, Y, hX, hY, by rw [map_arr, he, he2]⟩
        split at ha
        · rename_i t u ts hts
          have hx := rop_inv ha
          refine ⟨next_append hx, fun E B w0 w a hσ ht hr hf => ?_⟩
          obtain ⟨X, Y, hX, hY, hm⟩ := two E a ht
          obtain ⟨E', V, w', hV, hrun, hpost⟩ := appendA_sound ok hx hr hf hX hY (arr_zero hts) (arr_one hts) type
          exact ⟨E', V, w', .inl (runb a w w' V _ (by rw [hm]; rfl) hrun), hV, hpost⟩
        · rename_i t ts hts
          have hx := rop_inv ha
          refine ⟨next_copy hx, fun E B w0 w a hσ ht hr hf => ?_⟩
          obtain ⟨X, Y, hX, hY, hm⟩ := two E a ht
          obtain ⟨V, w', hV, hrun, hpost⟩ := copyA_sound ok hx hr hX hY (arr_zero hts) type
          exact ⟨E, V, w', .inl (runb a w w' V _ (by rw [hm]; rfl) hrun), hV, hpost⟩
        · rename_i t ts hts
          refine ⟨next_del ha, fun E B w0 w a hσ ht hr hf => ?_⟩
          obtain ⟨X, Y, hX, hY, hm⟩ := two E a ht
          obtain ⟨rfl, w', hrun, hpost⟩ := delM_sound ok ha hσ hr hX hY argTypes (arr_zero hts) type
          exact ⟨E, undef, w', .inl (runb a w w' _ _ (by rw [hm]; rfl) hrun), conc_undef E, hpost⟩
        · obtain ⟨hx, rfl⟩ := rv_inv ha
          refine ⟨Nat.le_refl _, fun E B w0 w a hσ ht hr hf => ?_⟩
          obtain ⟨X, Y, hX, hY, hm⟩ := two E a ht
          obtain ⟨V, hV, hg⟩ := minA_sound (P := P) ok hx hσ hX hY argTypes type
          exact ⟨E, V, w, .inl (runb a w w V _ (by rw [hm]; rfl) (hg w)), hV, Post.refl hr⟩
        · obtain ⟨hx, rfl⟩ := rv_inv ha
          refine ⟨Nat.le_refl _, fun E B w0 w a hσ ht hr hf => ?_⟩
          obtain ⟨X, Y, hX, hY, hm⟩ := two E a ht
          obtain ⟨V, hV, hg⟩ := maxA_sound (P := P) ok hx hσ hX hY argTypes type
          exact ⟨E, V, w, .inl (runb a w w V _ (by rw [hm]; rfl) (hg w)), hV, Post.refl hr⟩
        · cases ha
      · cases ha
  case go => cases ha
  case defer => cases ha
  case panic => cases ha
  case send => cases ha
  case recv => cases ha
  case select => cases ha

/-- a call of a function -/
theorem aop_call {tm : Tm} {h : AH} {f : Nat} {args : List AV} (o : Oper) (ha : aop cx tm h o.op = .call f args) :
    ∀ (E : Env) (a : Act), TmRel E tm a → ∃ A, concs E args = some A ∧ ∀ w, (execOp a.eval o).run P w = (callFunc f ⟨A⟩).run P w := by
  have nc : AR.call f args ≠ .no := by simp
  have rvn : ∀ {x : Option AV}, rv h x ≠ .call f args := by intro x; unfold rv; split <;> simp
  have ropn : ∀ {x : Option (AV × AH)}, rop x ≠ .call f args := by intro x; unfold rop; split <;> simp
  have rhn : ∀ {x : Option AH}, rh x ≠ .call f args := by intro x; unfold rh; split <;> simp
  obtain ⟨dst, op, type, pos, after, guard⟩ := o
  simp only at ha
  cases op <;> simp only [aop, aop2] at ha
  case call c =>
    obtain ⟨callee, cargs, argTypes⟩ := c
    unfold callO at ha
    cases callee with
    | value x =>
      simp only at ha
      obtain ⟨u, hu, ha⟩ := bind1_inv nc ha
      unfold callA at ha
      split at ha
      · rename_i g first captured as has
        cases ha
        intro E a ht
        obtain ⟨F, C, hF, hC, hX⟩ := conc_fn (opnd_sound ht hu)
        have hA := opnds_sound ht has
        refine ⟨_, concs_append (concs_append hF hA) hC, fun w => ?_⟩
        simp only [execOp, resolve, hX, Deferred.ofValue, Sem.run_bind, Sem.run_pure, Result.andThen_ok, invoke]
        congr 2
        apply Array.ext'
        simp
      · cases ha
    | invoke r m => cases ha
    | builtin b =>
      simp only at ha
      unfold biA at ha
      split at ha
      · split at ha
        · exact absurd ha rvn
        · exact absurd ha ropn
        · exact absurd ha rvn
        · cases ha
      · split at ha
        · exact absurd ha ropn
        · exact absurd ha ropn
        · unfold delM at ha
          repeat' (first | (cases ha; done) | (split at ha))
        · exact absurd ha rvn
        · exact absurd ha rvn
        · cases ha
      · cases ha
  all_goals
    first
      | (cases ha; done)
      | exact absurd ha rvn
      | exact absurd ha rhn
      | (obtain ⟨u, hu, ha⟩ := bind1_inv nc ha
         first
           | exact absurd ha rvn
           | exact absurd ha rhn
           | (obtain ⟨u2, hu2, ha⟩ := bind1_inv nc ha
              first
                | exact absurd ha rvn
                | exact absurd ha rhn
                | (obtain ⟨u3, hu3, ha⟩ := bind1_inv nc ha
                   first
                     | exact absurd ha rhn
                     | exact absurd ha rvn)
                | (unfold mkSlA at ha; repeat' (first | (cases ha; done) | (split at ha))))
           | (unfold boxA at ha; split at ha <;> cases ha)
           | (unfold rangeA at ha; repeat' (first | (cases ha; done) | (split at ha)))
           | (unfold nextA at ha; repeat' (first | (cases ha; done) | (split at ha))))
      | (unfold allocA at ha; split at ha <;> cases ha)
      | (unfold buildSl at ha; repeat' (first | (cases ha; done) | (split at ha)))
      | (unfold mkMapA at ha; split at ha <;> cases ha)
end Go.Abs

namespace Go.Abs
variable {cx : Cx}

/-- what was not put stands -/
def HExt (h h' : AH) : Prop := ∃ l, h'.objs.log = l ++ h.objs.log ∧ ∀ i, i ∉ l → h'.objs.get i = h.objs.get i
theorem HExt.refl (h : AH) : HExt h h := ⟨[], rfl, fun _ _ => rfl⟩
theorem HExt.trans {a b c : AH} (x : HExt a b) (y : HExt b c) : HExt a c := by
  obtain ⟨l, h1, h2⟩ := x
  obtain ⟨k, h3, h4⟩ := y
  exact ⟨k ++ l, by rw [h3, h1, List.append_assoc], fun i hi => by
    rw [h4 i (fun h => hi (List.mem_append_left _ h)), h2 i (fun h => hi (List.mem_append_right _ h))]⟩
theorem HExt.put (h : AH) (n m : Nat) (v : Option AO) : HExt h ⟨Hp.put v h.objs n, m⟩ :=
  ⟨[n], Hp.log_put _ _ _, fun i hi => by
    show (Hp.put v h.objs n).get i = _
    rw [Hp.get_put, if_neg (by simpa using hi)]⟩
theorem HExt.set (h : AH) (n m : Nat) (v : AO) : HExt h ⟨h.objs.set n v, m⟩ := HExt.put h n m _
theorem HExt.del (h : AH) (n m : Nat) : HExt h ⟨h.objs.del n, m⟩ := HExt.put h n m _
theorem HExt.newA (h : AH) (cs : List AV) (es : Nat) : HExt h (newA h cs es) := HExt.set h _ _ _

theorem rv_ext {h h' : AH} {x : Option AV} {v : AV} (e : rv h x = .val v h') : HExt h h' := by
  obtain ⟨_, rfl⟩ := rv_inv e; exact HExt.refl _

theorem HExt.move (h : AH) (i n m : Nat) (v : AO) : HExt h ⟨(h.objs.del i).set n v, m⟩ := (HExt.del h i m).trans (HExt.set _ n m v)
theorem allocA_ext {h h' : AH} {t : Nat} {v : AV} (ha : allocA cx h t = .val v h') : HExt h h' := by
  unfold allocA at ha
  (repeat' (first | (cases ha; done) | (split at ha)))
  all_goals first
    | (cases ha; first | exact HExt.refl _ | exact HExt.newA _ _ _ | exact HExt.set _ _ _ _ | exact HExt.move _ _ _ _ _)
    | skip
theorem boxA_ext {h h' : AH} {x v : AV} (ha : boxA h x = .val v h') : HExt h h' := by
  unfold boxA at ha
  (repeat' (first | (cases ha; done) | (split at ha)))
  all_goals first
    | (cases ha; first | exact HExt.refl _ | exact HExt.newA _ _ _ | exact HExt.set _ _ _ _ | exact HExt.move _ _ _ _ _)
    | skip
theorem buildSl_ext {h h' : AH} {t n : Nat} {x : Option (List (Nat × AV))} {v : AV} (ha : buildSl cx h t n x = .val v h') : HExt h h' := by
  unfold buildSl at ha
  (repeat' (first | (cases ha; done) | (split at ha)))
  all_goals first
    | (cases ha; first | exact HExt.refl _ | exact HExt.newA _ _ _ | exact HExt.set _ _ _ _ | exact HExt.move _ _ _ _ _)
    | skip
theorem mkMapA_ext {h h' : AH} {r : Option Operand} {v : AV} (ha : mkMapA h r = .val v h') : HExt h h' := by
  unfold mkMapA at ha
  (repeat' (first | (cases ha; done) | (split at ha)))
  all_goals first
    | (cases ha; first | exact HExt.refl _ | exact HExt.newA _ _ _ | exact HExt.set _ _ _ _ | exact HExt.move _ _ _ _ _)
    | skip
theorem mkSlA_ext {h h' : AH} {t : Nat} {n c v : AV} (ha : mkSlA cx h t n c = .val v h') : HExt h h' := by
  unfold mkSlA at ha
  (repeat' (first | (cases ha; done) | (split at ha)))
  all_goals first
    | (cases ha; first | exact HExt.refl _ | exact HExt.newA _ _ _ | exact HExt.set _ _ _ _ | exact HExt.move _ _ _ _ _)
    | skip
theorem rangeA_ext {h h' : AH} {t : Nat} {x v : AV} (ha : rangeA cx h t x = .val v h') : HExt h h' := by
  unfold rangeA at ha
  (repeat' (first | (cases ha; done) | (split at ha)))
  all_goals first
    | (cases ha; first | exact HExt.refl _ | exact HExt.newA _ _ _ | exact HExt.set _ _ _ _ | exact HExt.move _ _ _ _ _)
    | skip
theorem nextA_ext {h h' : AH} {s : Bool} {x v : AV} (ha : nextA h s x = .val v h') : HExt h h' := by
  unfold nextA at ha
  (repeat' (first | (cases ha; done) | (split at ha)))
  all_goals first
    | (cases ha; first | exact HExt.refl _ | exact HExt.newA _ _ _ | exact HExt.set _ _ _ _ | exact HExt.move _ _ _ _ _)
    | skip
theorem storeA_ext {h h' : AH} {t : Nat} {p v : AV} (ha : storeA cx h t p v = some h') : HExt h h' := by
  unfold storeA at ha
  (repeat' (first | (cases ha; done) | (split at ha)))
  all_goals first
    | (cases ha; first | exact HExt.refl _ | exact HExt.newA _ _ _ | exact HExt.set _ _ _ _ | exact HExt.move _ _ _ _ _)
    | skip
theorem mapUpdA_ext {h h' : AH} {t : Nat} {m k v : AV} (ha : mapUpdA cx h t m k v = some h') : HExt h h' := by
  unfold mapUpdA at ha
  (repeat' (first | (cases ha; done) | (split at ha)))
  all_goals first
    | (cases ha; first | exact HExt.refl _ | exact HExt.newA _ _ _ | exact HExt.set _ _ _ _ | exact HExt.move _ _ _ _ _)
    | skip
theorem delM_ext {h h' : AH} {t : Nat} {m k v : AV} (ha : delM cx h t m k = .val v h') : HExt h h' := by
  unfold delM at ha
  (repeat' (first | (cases ha; done) | (split at ha)))
  all_goals first
    | (cases ha; first | exact HExt.refl _ | exact HExt.newA _ _ _ | exact HExt.set _ _ _ _ | exact HExt.move _ _ _ _ _)
    | skip
theorem copyTo_ext {h h' : AH} {d v : AV} {n : Nat} {l : List AV} (ha : copyTo h d n l = some (v, h')) : HExt h h' := by
  unfold copyTo at ha
  (repeat' (first | (cases ha; done) | (split at ha)))
  all_goals first
    | (cases ha; first | exact HExt.refl _ | exact HExt.newA _ _ _ | exact HExt.set _ _ _ _ | exact HExt.move _ _ _ _ _)
    | skip
theorem copyA_ext {h h' : AH} {t : Nat} {d s v : AV} (ha : copyA cx h t d s = some (v, h')) : HExt h h' := by
  unfold copyA at ha
  (repeat' (first | (cases ha; done) | (split at ha)))
  all_goals first
    | (cases ha; first | exact HExt.refl _ | exact HExt.newA _ _ _ | exact HExt.set _ _ _ _ | exact HExt.move _ _ _ _ _)
    | skip
  all_goals exact copyTo_ext ha
theorem clearA_ext {h h' : AH} {t : Nat} {d v : AV} (ha : clearA cx h t d = some (v, h')) : HExt h h' := by
  unfold clearA at ha
  (repeat' (first | (cases ha; done) | (split at ha)))
  all_goals first
    | (cases ha; first | exact HExt.refl _ | exact HExt.newA _ _ _ | exact HExt.set _ _ _ _ | exact HExt.move _ _ _ _ _)
    | skip
theorem growA_ext {h h' : AH} {ty : TyI} {off len n : Nat} {new cs : List AV} {v : AV} (ha : growA h ty off len n new cs = some (v, h')) : HExt h h' := by
  unfold growA at ha
  (repeat' (first | (cases ha; done) | (split at ha)))
  all_goals first
    | (cases ha; first | exact HExt.refl _ | exact HExt.newA _ _ _ | exact HExt.set _ _ _ _ | exact HExt.move _ _ _ _ _)
    | skip
theorem inPlaceA_ext {h h' : AH} {i off eo len n size : Nat} {cap : Option Nat} {new cs : List AV} {es : Nat} {v : AV} (ha : inPlaceA h i off eo len n size cap new cs es = some (v, h')) : HExt h h' := by
  unfold inPlaceA at ha
  (repeat' (first | (cases ha; done) | (split at ha)))
  all_goals first
    | (cases ha; first | exact HExt.refl _ | exact HExt.newA _ _ _ | exact HExt.set _ _ _ _ | exact HExt.move _ _ _ _ _)
    | skip
theorem appendSl_ext {h h' : AH} {ty : TyI} {i off eo len : Nat} {cap : Option Nat} {n : Nat} {new : List AV} {v : AV} (ha : appendSl h ty i off eo len cap n new = some (v, h')) : HExt h h' := by
  unfold appendSl at ha
  repeat' (first | (cases ha; done) | exact growA_ext ha | exact inPlaceA_ext ha | (split at ha))
  all_goals (cases ha; exact (HExt.del h i h.next).trans (HExt.newA _ _ _))
theorem appendE_ext {h h' : AH} {ty : TyI} {s x v : AV} (ha : appendE h ty s x = some (v, h')) : HExt h h' := by
  unfold appendE at ha
  repeat' (first | (cases ha; done) | exact appendSl_ext ha | (split at ha))
  all_goals (cases ha; first | exact HExt.refl _ | exact HExt.newA _ _ _)
theorem appendA_ext {h h' : AH} {t u : Nat} {s x v : AV} (ha : appendA cx h t u s x = some (v, h')) : HExt h h' := by
  unfold appendA at ha
  (repeat' (first | (cases ha; done) | (split at ha)))
  all_goals first
    | (cases ha; first | exact HExt.refl _ | exact HExt.newA _ _ _ | exact HExt.set _ _ _ _ | exact HExt.move _ _ _ _ _)
    | skip
  all_goals exact appendE_ext ha
theorem biA_ext {h h' : AH} {b : Builtin} {as : Option (List AV)} {ts : List Nat} {v : AV} (ha : biA cx h b as ts = .val v h') : HExt h h' := by
  unfold biA at ha
  repeat' (first | (cases ha; done) | exact rv_ext ha | exact clearA_ext (rop_inv ha) | exact appendA_ext (rop_inv ha) | exact copyA_ext (rop_inv ha) | exact delM_ext ha | (split at ha))
theorem callO_ext {tm : Tm} {h h' : AH} {c : Call} {v : AV} (ha : callO cx tm h c = .val v h') : HExt h h' := by
  have nv : AR.val v h' ≠ .no := by simp
  unfold callO at ha
  split at ha
  · obtain ⟨u, _, ha⟩ := bind1_inv nv ha
    unfold callA at ha
    repeat' (first | (cases ha; done) | (split at ha))
  · exact biA_ext ha
  · cases ha

/-- every operation -/
theorem aop_ext {tm : Tm} {h h' : AH} {v : AV} {o : Op} (ha : aop cx tm h o = .val v h') : HExt h h' := by
  have nv : AR.val v h' ≠ .no := by simp
  cases o <;> simp only [aop, aop2] at ha
  all_goals first
    | (cases ha; done)
    | exact rv_ext ha
    | exact allocA_ext ha
    | exact buildSl_ext ha
    | exact mkMapA_ext ha
    | exact callO_ext ha
    | (obtain ⟨u, hu, ha⟩ := bind1_inv nv ha
       first
         | exact rv_ext ha
         | exact boxA_ext ha
         | exact rangeA_ext ha
         | exact nextA_ext ha
         | (obtain ⟨u2, hu2, ha⟩ := bind1_inv nv ha
            first
              | exact rv_ext ha
              | exact mkSlA_ext ha
              | exact storeA_ext (rh_inv ha).1
              | (obtain ⟨u3, hu3, ha⟩ := bind1_inv nv ha
                 first
                   | exact rv_ext ha
                   | exact mapUpdA_ext (rh_inv ha).1)))
end Go.Abs
