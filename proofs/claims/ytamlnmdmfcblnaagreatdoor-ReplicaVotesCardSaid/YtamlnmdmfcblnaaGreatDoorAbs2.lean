/- What the interpreter's values and memory mean in the model; its operations, part one. No premise of its own. -/
import Derived.Test.YtamlnmdmfcblnaaGreatDoorAbs1
import Derived.Below
import Derived.Orders
import Derived.Laws.StructEq
import Derived.Laws.AppendOwn
import Derived.ChangeKeysEq
set_option linter.unusedVariables false
set_option linter.unusedSimpArgs false
namespace Go.Abs

section trie
variable {α : Type}
@[simp] theorem Tr.get_nil (n : Nat) : (Tr.nil : Tr α).get n = none := rfl
@[simp] theorem Tr.get_zero (l r : Tr α) (v : Option α) : (Tr.node l v r).get 0 = v := rfl
theorem Tr.get_succ (l r : Tr α) (v : Option α) (k : Nat) : (Tr.node l v r).get (k + 1) = bif Nat.beq (k % 2) 0 then l.get (k / 2) else r.get (k / 2) := by
  show @Bool.rec (fun _ => Option α) (r.get (k / 2)) (l.get (k / 2)) (Nat.beq (k % 2) 0) = _
  cases Nat.beq (k % 2) 0 <;> rfl

theorem Tr.setN_zero (v : Option α) (f : Nat) : Tr.setN v (f + 1) 0 = .node .nil v .nil := rfl
theorem Tr.setN_succ (v : Option α) (f k : Nat) : Tr.setN v (f + 1) (k + 1) =
    bif Nat.beq (k % 2) 0 then .node (Tr.setN v f (k / 2)) none .nil else .node .nil none (Tr.setN v f (k / 2)) := by
  show @Bool.rec (fun _ => Tr α) (Tr.node .nil none (Tr.setN v f (k / 2))) (.node (Tr.setN v f (k / 2)) none .nil) (Nat.beq (k % 2) 0) = _
  cases Nat.beq (k % 2) 0 <;> rfl

theorem Tr.setG_nil (v : Option α) (n : Nat) : Tr.setG v .nil n = Tr.setN v (n + 1) n := rfl
theorem Tr.setG_zero (v w : Option α) (l r : Tr α) : Tr.setG v (.node l w r) 0 = .node l v r := rfl
theorem Tr.setG_succ (v w : Option α) (l r : Tr α) (k : Nat) : Tr.setG v (.node l w r) (k + 1) =
    bif Nat.beq (k % 2) 0 then .node (Tr.setG v l (k / 2)) w r else .node l w (Tr.setG v r (k / 2)) := by
  show @Bool.rec (fun _ => Tr α) (Tr.node l w (Tr.setG v r (k / 2))) (.node (Tr.setG v l (k / 2)) w r) (Nat.beq (k % 2) 0) = _
  cases Nat.beq (k % 2) 0 <;> rfl

theorem half_inj {a b : Nat} (h : a / 2 = b / 2) (h2 : Nat.beq (a % 2) 0 = Nat.beq (b % 2) 0) : a = b := by
  have ha := Nat.mod_two_eq_zero_or_one a
  have hb := Nat.mod_two_eq_zero_or_one b
  rcases ha with ha | ha <;> rcases hb with hb | hb <;> simp [ha, hb] at h2 <;> omega

theorem Tr.get_setN (v : Option α) : ∀ (f n m : Nat), n < f → (Tr.setN v f n).get m = if m = n then v else none
  | 0, _, _, h => absurd h (Nat.not_lt_zero _)
  | f + 1, 0, m, _ => by
    rw [Tr.setN_zero]
    cases m with
    | zero => simp
    | succ m => rw [Tr.get_succ]; cases Nat.beq (m % 2) 0 <;> simp
  | f + 1, n + 1, m, h => by
    rw [Tr.setN_succ]
    have ih := Tr.get_setN v f (n / 2)
    cases m with
    | zero => cases Nat.beq (n % 2) 0 <;> simp
    | succ m =>
      cases hn : Nat.beq (n % 2) 0 <;> simp only [cond_true, cond_false, Tr.get_succ] <;> cases hm : Nat.beq (m % 2) 0 <;> simp only [cond_true, cond_false, Tr.get_nil]
      · rw [ih _ (by omega)]
        by_cases e : m / 2 = n / 2
        · have := half_inj e (by rw [hm, hn]); subst this; simp
        · rw [if_neg e, if_neg (by omega)]
      · rw [if_neg]; intro e; have : m = n := by omega
        subst this; rw [hn] at hm; cases hm
      · rw [if_neg]; intro e; have : m = n := by omega
        subst this; rw [hn] at hm; cases hm
      · rw [ih _ (by omega)]
        by_cases e : m / 2 = n / 2
        · have := half_inj e (by rw [hm, hn]); subst this; simp
        · rw [if_neg e, if_neg (by omega)]

theorem Tr.get_setG (v : Option α) : ∀ (t : Tr α) (n m : Nat), (Tr.setG v t n).get m = if m = n then v else t.get m
  | .nil, n, m => by rw [Tr.setG_nil, Tr.get_setN v _ _ _ (Nat.lt_succ_self n)]; simp
  | .node l w r, 0, m => by
    rw [Tr.setG_zero]
    cases m with
    | zero => simp
    | succ m => simp [Tr.get_succ]
  | .node l w r, n + 1, m => by
    rw [Tr.setG_succ]
    have ihl := Tr.get_setG v l (n / 2)
    have ihr := Tr.get_setG v r (n / 2)
    cases m with
    | zero => cases Nat.beq (n % 2) 0 <;> simp
    | succ m =>
      cases hn : Nat.beq (n % 2) 0 <;> simp only [cond_true, cond_false, Tr.get_succ] <;> cases hm : Nat.beq (m % 2) 0 <;> simp only [cond_true, cond_false]
      · rw [ihr]
        by_cases e : m / 2 = n / 2
        · have := half_inj e (by rw [hm, hn]); subst this; simp
        · rw [if_neg e, if_neg (by omega)]
      · rw [if_neg]; intro e; have : m = n := by omega
        subst this; rw [hn] at hm; cases hm
      · rw [if_neg]; intro e; have : m = n := by omega
        subst this; rw [hn] at hm; cases hm
      · rw [ihl]
        by_cases e : m / 2 = n / 2
        · have := half_inj e (by rw [hm, hn]); subst this; simp
        · rw [if_neg e, if_neg (by omega)]

theorem Tr.get_set (t : Tr α) (n m : Nat) (v : α) : (t.set n v).get m = if m = n then some v else t.get m := Tr.get_setG _ _ _ _
theorem Tr.get_del (t : Tr α) (n m : Nat) : (t.del n).get m = if m = n then none else t.get m := Tr.get_setG _ _ _ _
end trie

section stores
variable {α : Type}
theorem sel8_upd8 (f : α → α) (t : O8 α) : ∀ (d e : Nat), d < 8 → e < 8 → sel8 e (upd8 d f t) = if e = d then f (sel8 d t) else sel8 e t
  | 0, 0, _, _ | 0, 1, _, _ | 0, 2, _, _ | 0, 3, _, _ | 0, 4, _, _ | 0, 5, _, _ | 0, 6, _, _ | 0, 7, _, _ => rfl
  | 1, 0, _, _ | 1, 1, _, _ | 1, 2, _, _ | 1, 3, _, _ | 1, 4, _, _ | 1, 5, _, _ | 1, 6, _, _ | 1, 7, _, _ => rfl
  | 2, 0, _, _ | 2, 1, _, _ | 2, 2, _, _ | 2, 3, _, _ | 2, 4, _, _ | 2, 5, _, _ | 2, 6, _, _ | 2, 7, _, _ => rfl
  | 3, 0, _, _ | 3, 1, _, _ | 3, 2, _, _ | 3, 3, _, _ | 3, 4, _, _ | 3, 5, _, _ | 3, 6, _, _ | 3, 7, _, _ => rfl
  | 4, 0, _, _ | 4, 1, _, _ | 4, 2, _, _ | 4, 3, _, _ | 4, 4, _, _ | 4, 5, _, _ | 4, 6, _, _ | 4, 7, _, _ => rfl
  | 5, 0, _, _ | 5, 1, _, _ | 5, 2, _, _ | 5, 3, _, _ | 5, 4, _, _ | 5, 5, _, _ | 5, 6, _, _ | 5, 7, _, _ => rfl
  | 6, 0, _, _ | 6, 1, _, _ | 6, 2, _, _ | 6, 3, _, _ | 6, 4, _, _ | 6, 5, _, _ | 6, 6, _, _ | 6, 7, _, _ => rfl
  | 7, 0, _, _ | 7, 1, _, _ | 7, 2, _, _ | 7, 3, _, _ | 7, 4, _, _ | 7, 5, _, _ | 7, 6, _, _ | 7, 7, _, _ => rfl
  | d + 8, _, h, _ => absurd h (by omega)
  | _, e + 8, _, h => absurd h (by omega)
theorem sel8_rep8 (a : α) : ∀ d, d < 8 → sel8 d (rep8 a) = a
  | 0, _ | 1, _ | 2, _ | 3, _ | 4, _ | 5, _ | 6, _ | 7, _ => rfl
  | d + 8, h => absurd h (by omega)
theorem ble_of {a b : Nat} (h : a ≤ b) : Nat.ble a b = true := Nat.ble_eq ▸ h
theorem ble_of_not {a b : Nat} (h : ¬ a ≤ b) : Nat.ble a b = false := by
  cases hb : Nat.ble a b with
  | true => exact absurd (Nat.ble_eq ▸ hb) h
  | false => rfl

theorem Hp.get_lo (h : Hp α) {n : Nat} (hn : n ≤ 4095) : h.get n = sel8 (n % 8) (sel8 (n / 8 % 8) (sel8 (n / 64 % 8) (sel8 (n / 512) h.lo))) := by
  unfold Hp.get; rw [ble_of hn]; rfl
theorem Hp.get_hi (h : Hp α) {n : Nat} (hn : ¬ n ≤ 4095) : h.get n = h.hi.get n := by
  unfold Hp.get; rw [ble_of_not hn]
theorem Hp.put_lo (v : Option α) (h : Hp α) {n : Nat} (hn : n ≤ 4095) : Hp.put v h n = ⟨upd8 (n / 512) (upd8 (n / 64 % 8) (upd8 (n / 8 % 8) (upd8 (n % 8) (fun _ => v)))) h.lo, h.hi, n :: h.log⟩ := by
  unfold Hp.put; rw [ble_of hn]; rfl
theorem Hp.put_hi (v : Option α) (h : Hp α) {n : Nat} (hn : ¬ n ≤ 4095) : Hp.put v h n = ⟨h.lo, Tr.setG v h.hi n, n :: h.log⟩ := by
  unfold Hp.put; rw [ble_of_not hn]
theorem Hp.get_put (v : Option α) (h : Hp α) (n m : Nat) : (Hp.put v h n).get m = if m = n then v else h.get m := by
  by_cases hn : n ≤ 4095
  · rw [Hp.put_lo v h hn]
    by_cases hm : m ≤ 4095
    · rw [Hp.get_lo _ hm, Hp.get_lo _ hm]
      simp only
      have l1 : n / 512 < 8 := by omega
      have l2 : m / 512 < 8 := by omega
      rw [sel8_upd8 _ _ _ _ l1 l2]
      by_cases e1 : m / 512 = n / 512
      · rw [if_pos e1, e1, sel8_upd8 _ _ _ _ (by omega) (by omega)]
        by_cases e2 : m / 64 % 8 = n / 64 % 8
        · rw [if_pos e2, e2, sel8_upd8 _ _ _ _ (by omega) (by omega)]
          by_cases e3 : m / 8 % 8 = n / 8 % 8
          · rw [if_pos e3, e3, sel8_upd8 _ _ _ _ (by omega) (by omega)]
            by_cases e4 : m % 8 = n % 8
            · rw [if_pos e4, if_pos (by omega)]
            · rw [if_neg e4, if_neg (by omega)]
          · rw [if_neg e3, if_neg (by omega)]
        · rw [if_neg e2, if_neg (by omega)]
      · rw [if_neg e1, if_neg (by omega)]
    · rw [Hp.get_hi _ hm, Hp.get_hi _ hm, if_neg (by omega)]
  · rw [Hp.put_hi v h hn]
    by_cases hm : m ≤ 4095
    · rw [Hp.get_lo _ hm, Hp.get_lo _ hm, if_neg (by omega)]
    · rw [Hp.get_hi _ hm, Hp.get_hi _ hm]
      exact Tr.get_setG _ _ _ _
@[simp] theorem Hp.get_nil (n : Nat) : (Hp.nil : Hp α).get n = none := by
  by_cases hn : n ≤ 4095
  · rw [Hp.get_lo _ hn]
    unfold Hp.nil
    rw [sel8_rep8 _ _ (by omega), sel8_rep8 _ _ (by omega), sel8_rep8 _ _ (by omega), sel8_rep8 _ _ (by omega)]
  · rw [Hp.get_hi _ hn]; rfl
theorem Hp.log_put (v : Option α) (h : Hp α) (n : Nat) : (Hp.put v h n).log = n :: h.log := by
  by_cases hn : n ≤ 4095
  · rw [Hp.put_lo v h hn]
  · rw [Hp.put_hi v h hn]
theorem Hp.get_set (t : Hp α) (n m : Nat) (v : α) : (t.set n v).get m = if m = n then some v else t.get m := Hp.get_put _ _ _ _
theorem Hp.get_del (t : Hp α) (n m : Nat) : (t.del n).get m = if m = n then none else t.get m := Hp.get_put _ _ _ _

theorem Tm.at_lo (t : Tm) {n : Nat} (hn : n ≤ 511) : t.at n = sel8 (n % 8) (sel8 (n / 8 % 8) (sel8 (n / 64) t.lo)) := by
  unfold Tm.at; rw [ble_of hn]; rfl
theorem Tm.at_hi (t : Tm) {n : Nat} (hn : ¬ n ≤ 511) : t.at n = orU (t.hi.get n) := by
  unfold Tm.at; rw [ble_of_not hn]
theorem Tm.set_lo (t : Tm) (v : AV) {n : Nat} (hn : n ≤ 511) : t.set n v = ⟨upd8 (n / 64) (upd8 (n / 8 % 8) (upd8 (n % 8) (fun _ => v))) t.lo, t.hi⟩ := by
  unfold Tm.set; rw [ble_of hn]; rfl
theorem Tm.set_hi (t : Tm) (v : AV) {n : Nat} (hn : ¬ n ≤ 511) : t.set n v = ⟨t.lo, Tr.setG (some v) t.hi n⟩ := by
  unfold Tm.set; rw [ble_of_not hn]
theorem Tm.at_set (t : Tm) (n m : Nat) (v : AV) : (t.set n v).at m = if m = n then v else t.at m := by
  by_cases hn : n ≤ 511
  · rw [Tm.set_lo t v hn]
    by_cases hm : m ≤ 511
    · rw [Tm.at_lo _ hm, Tm.at_lo _ hm]
      simp only
      rw [sel8_upd8 _ _ _ _ (by omega) (by omega)]
      by_cases e1 : m / 64 = n / 64
      · rw [if_pos e1, e1, sel8_upd8 _ _ _ _ (by omega) (by omega)]
        by_cases e3 : m / 8 % 8 = n / 8 % 8
        · rw [if_pos e3, e3, sel8_upd8 _ _ _ _ (by omega) (by omega)]
          by_cases e4 : m % 8 = n % 8
          · rw [if_pos e4, if_pos (by omega)]
          · rw [if_neg e4, if_neg (by omega)]
        · rw [if_neg e3, if_neg (by omega)]
      · rw [if_neg e1, if_neg (by omega)]
    · rw [Tm.at_hi _ hm, Tm.at_hi _ hm, if_neg (by omega)]
  · rw [Tm.set_hi t v hn]
    by_cases hm : m ≤ 511
    · rw [Tm.at_lo _ hm, Tm.at_lo _ hm, if_neg (by omega)]
    · rw [Tm.at_hi _ hm, Tm.at_hi _ hm, Tr.get_setG]
      by_cases e : m = n
      · rw [if_pos e, if_pos e]; rfl
      · rw [if_neg e, if_neg e]
theorem Tm.at_nil (n : Nat) : Tm.nil.at n = .undef := by
  by_cases hn : n ≤ 511
  · rw [Tm.at_lo _ hn]
    unfold Tm.nil
    rw [sel8_rep8 _ _ (by omega), sel8_rep8 _ _ (by omega), sel8_rep8 _ _ (by omega)]
  · rw [Tm.at_hi _ hn]; rfl
end stores

section lists
variable {α : Type}
theorem nth_nil (n : Nat) : nth ([] : List α) n = none := rfl
theorem nth_zero (a : α) (l : List α) : nth (a :: l) 0 = some a := rfl
theorem nth_succ (a : α) (l : List α) (n : Nat) : nth (a :: l) (n + 1) = nth l n := rfl
theorem dropN_zero (l : List α) : dropN 0 l = some l := rfl
theorem dropN_nil (n : Nat) : dropN (n + 1) ([] : List α) = none := rfl
theorem dropN_cons (n : Nat) (a : α) (l : List α) : dropN (n + 1) (a :: l) = dropN n l := rfl
theorem takeN_zero (l : List α) : takeN 0 l = some [] := rfl
theorem takeN_nil (n : Nat) : takeN (n + 1) ([] : List α) = none := rfl
theorem takeN_cons (n : Nat) (a : α) (l : List α) : takeN (n + 1) (a :: l) = match takeN n l with
    | some r => some (a :: r)
    | none => none := by
  show @Option.rec _ _ _ _ (takeN n l) = _
  cases takeN n l <;> rfl
theorem over_nil (l : List α) : over l [] = some l := rfl
theorem over_none (v : α) (vs : List α) : over [] (v :: vs) = none := rfl
theorem over_cons (a : α) (l : List α) (v : α) (vs : List α) : over (a :: l) (v :: vs) = match over l vs with
    | some r => some (v :: r)
    | none => none := by
  show @Option.rec _ _ _ _ (over l vs) = _
  cases over l vs <;> rfl
theorem overAt_zero (l vs : List α) : overAt 0 l vs = over l vs := rfl
theorem overAt_nil (n : Nat) (vs : List α) : overAt (n + 1) [] vs = none := rfl
theorem overAt_cons (n : Nat) (a : α) (l vs : List α) : overAt (n + 1) (a :: l) vs = match overAt n l vs with
    | some r => some (a :: r)
    | none => none := by
  show @Option.rec _ _ _ _ (overAt n l vs) = _
  cases overAt n l vs <;> rfl
theorem nth_eq (l : List α) : ∀ n, nth l n = l[n]? := by
  induction l with
  | nil => intro n; simp [nth_nil]
  | cons a l ih => intro n; cases n <;> simp [nth_zero, nth_succ, ih]
theorem dropN_eq : ∀ (n : Nat) (l r : List α), dropN n l = some r → n ≤ l.length ∧ r = l.drop n
  | 0, l, r, h => by simp [dropN_zero] at h; exact ⟨Nat.zero_le _, by simp [h]⟩
  | n + 1, [], r, h => by simp [dropN_nil] at h
  | n + 1, a :: l, r, h => by
    simp only [dropN_cons] at h
    obtain ⟨h1, h2⟩ := dropN_eq n l r h
    exact ⟨by simp; omega, by simp [h2]⟩
theorem takeN_eq : ∀ (n : Nat) (l r : List α), takeN n l = some r → n ≤ l.length ∧ r = l.take n
  | 0, l, r, h => by simp [takeN_zero] at h; exact ⟨Nat.zero_le _, by simp [h]⟩
  | n + 1, [], r, h => by simp [takeN_nil] at h
  | n + 1, a :: l, r, h => by
    simp only [takeN_cons] at h
    split at h
    · rename_i r' hr
      obtain ⟨h1, h2⟩ := takeN_eq n l r' hr
      cases h
      exact ⟨by simp; omega, by simp [h2]⟩
    · cases h
theorem slice1_eq {cs r : List α} {off n : Nat} (h : slice1 cs off n = some r) : off + n ≤ cs.length ∧ r = (cs.drop off).take n := by
  unfold slice1 at h
  cases hl : dropN off cs with
  | none => rw [hl] at h; cases h
  | some l =>
    rw [hl] at h
    obtain ⟨h1, rfl⟩ := dropN_eq _ _ _ hl
    obtain ⟨h2, rfl⟩ := takeN_eq _ _ _ h
    simp at h2
    exact ⟨by omega, rfl⟩
theorem slice1_length {cs r : List α} {off n : Nat} (h : slice1 cs off n = some r) : r.length = n := by
  obtain ⟨h1, rfl⟩ := slice1_eq h
  simp; omega
theorem slice1_get {cs r : List α} {off n : Nat} (h : slice1 cs off n = some r) (j : Nat) (hj : j < n) : r[j]? = cs[off + j]? := by
  obtain ⟨h1, rfl⟩ := slice1_eq h
  rw [List.getElem?_take_of_lt hj, List.getElem?_drop]
theorem over_eq : ∀ (l vs r : List α), over l vs = some r → vs.length ≤ l.length ∧ r.length = l.length ∧ ∀ j, r[j]? = if j < vs.length then vs[j]? else l[j]?
  | l, [], r, h => by
    have : r = l := by rw [over_nil] at h; exact (Option.some.inj h).symm
    subst this
    exact ⟨by simp, rfl, by simp⟩
  | [], v :: vs, r, h => by simp [over_none] at h
  | a :: l, v :: vs, r, h => by
    simp only [over_cons] at h
    split at h
    · rename_i r' hr
      obtain ⟨h1, h2, h3⟩ := over_eq l vs r' hr
      cases h
      refine ⟨by simp; omega, by simp [h2], fun j => ?_⟩
      cases j with
      | zero => simp
      | succ j => simp [h3]
    · cases h
theorem overAt_eq : ∀ (n : Nat) (l vs r : List α), overAt n l vs = some r → n + vs.length ≤ l.length ∧ r.length = l.length ∧ ∀ j, r[j]? = if n ≤ j ∧ j < n + vs.length then vs[j - n]? else l[j]?
  | 0, l, vs, r, h => by
    obtain ⟨h1, h2, h3⟩ := over_eq l vs r (by cases l <;> exact h)
    exact ⟨by omega, h2, fun j => by simp [h3]⟩
  | n + 1, [], vs, r, h => by simp [overAt_nil] at h
  | n + 1, a :: l, vs, r, h => by
    simp only [overAt_cons] at h
    split at h
    · rename_i r' hr
      obtain ⟨h1, h2, h3⟩ := overAt_eq n l vs r' hr
      cases h
      refine ⟨by simp; omega, by simp [h2], fun j => ?_⟩
      cases j with
      | zero => simp
      | succ j =>
        simp only [List.getElem?_cons_succ, h3, Nat.add_sub_add_right]
        by_cases hc : n ≤ j ∧ j < n + vs.length
        · rw [if_pos hc, if_pos (by omega)]
        · rw [if_neg hc, if_neg (by omega)]
    · cases h
theorem overAt_some : ∀ (n : Nat) (l vs : List α), n + vs.length ≤ l.length → ∃ r, overAt n l vs = some r
  | 0, l, [], _ => ⟨l, by cases l <;> rfl⟩
  | 0, [], v :: vs, h => by simp at h
  | 0, a :: l, v :: vs, h => by
    obtain ⟨r, hr⟩ := overAt_some 0 l vs (by simp at h; omega)
    have hr' : over l vs = some r := by cases l <;> exact hr
    exact ⟨v :: r, by simp [overAt_zero, over_cons, hr']⟩
  | n + 1, [], vs, h => by simp at h
  | n + 1, a :: l, vs, h => by
    obtain ⟨r, hr⟩ := overAt_some n l vs (by simp at h; omega)
    exact ⟨a :: r, by simp [overAt_cons, hr]⟩
theorem repl_length (l : List α) : ∀ n, (repl n l).length = n * l.length
  | 0 => by simp [repl]
  | n + 1 => by simp [repl, repl_length l n, Nat.succ_mul]; omega
end lists

theorem kEq_iff {a b : IntKind} : kEq a b = true ↔ a = b := by cases a <;> cases b <;> simp [kEq]
theorem natBeq_eq (a b : Nat) : Nat.beq a b = decide (a = b) := by
  by_cases h : a = b
  · subst h; simp
  · rw [decide_eq_false h]
    cases hb : Nat.beq a b with
    | true => exact absurd (Nat.eq_of_beq_eq_true hb) h
    | false => rfl
theorem natBlt_eq (a b : Nat) : Nat.blt a b = decide (a < b) := by
  unfold Nat.blt
  by_cases h : a < b
  · rw [decide_eq_true h]; exact Nat.ble_eq ▸ h
  · rw [decide_eq_false h]
    cases hb : Nat.ble a.succ b with
    | true => exact absurd (Nat.ble_eq ▸ hb : a.succ ≤ b) h
    | false => rfl
theorem intEq_eq (a b : Int) : intEq a b = (a == b) := by
  have e : (a == b) = decide (a = b) := by by_cases h : a = b <;> simp [h]
  rw [e]
  cases a <;> cases b <;> simp [intEq, natBeq_eq]
  omega
theorem intLt_eq (a b : Int) : intLt a b = decide (a < b) := by
  cases a <;> cases b <;> simp only [intLt, natBlt_eq, decide_eq_decide]
  · simp
  · symm; rw [decide_eq_false]; simp [Int.negSucc_eq]; omega
  · symm; rw [decide_eq_true]; simp [Int.negSucc_eq]; omega
  · simp only [Int.negSucc_eq]; omega
theorem boolEq_eq (a b : Bool) : boolEq a b = (a == b) := by cases a <;> cases b <;> rfl
theorem strEq_eq : ∀ a b : List UInt8, strEq a b = (a == b)
  | [], [] => rfl
  | [], _ :: _ => rfl
  | _ :: _, [] => rfl
  | a :: x, b :: y => by
    simp only [strEq]
    cases h : Nat.beq a.toNat b.toNat with
    | true =>
      have : a = b := UInt8.toNat_inj.1 (Nat.eq_of_beq_eq_true h)
      subst this; simp [strEq_eq x y]
    | false =>
      have : a ≠ b := fun e => by subst e; simp at h
      simp [this]
end Go.Abs

namespace Go.Abs
open Go.RowKit

structure Pl where
  block : Nat
  off : Nat
  cap : Nat
  val : Value

/-- what the symbols stand for, and what the listed variables hold -/
structure Val where
  num : Nat → Int
  glob : Nat → Nat → Option Value
  opq : Nat → Value := fun _ => undef

/-- what an opaque value may be -/
def opqV : Value → Bool
  | .string _ | .slice _ _ _ | .bool _ | .int _ _ => true
  | _ => false
/-- a place's number in a list -/
def ixV (σ : Val) (c : Bool) (n : Nat) : Int := if c then Int.ofNat n else σ.num n
def lptrC (σ : Val) (j es : Nat) (c : Bool) (n off : Nat) : Option Value := match σ.opq j with
  | .slice (some a) len _ => if 0 ≤ ixV σ c n ∧ ixV σ c n < (len : Int) ∧ a.spot = none then some (.pointer (some ⟨a.block, a.off + (ixV σ c n).toNat * es + off, none⟩)) else none
  | _ => none
theorem lptrC_one {σ : Val} {j es : Nat} {c : Bool} {n off : Nat} {v : Value} (h : lptrC σ j es c n off = some v) : ∃ a : Addr, v = .pointer (some a) := by
  unfold lptrC at h
  split at h
  · split at h
    · cases h; exact ⟨_, rfl⟩
    · cases h
  · cases h

def byteC (σ : Val) : AV → Option UInt8
  | .int .u8 n => if 0 ≤ n ∧ n < 256 then some (UInt8.ofNat n.toNat) else none
  | .sym .u8 s => if 0 ≤ σ.num s ∧ σ.num s < 256 then some (UInt8.ofNat (σ.num s).toNat) else none
  | _ => none
def bytesC (σ : Val) : List AV → Option (List UInt8)
  | [] => some []
  | c :: cs => match byteC σ c, bytesC σ cs with
    | some b, some bs => some (b :: bs)
    | _, _ => none

structure Env where
  φ : Nat → Option Pl
  σ : Val

def capOf (p : Pl) (eo : Nat) : Option Nat → Nat
  | some c => c
  | none => p.cap - eo

mutual
def conc (E : Env) : AV → Option Value
  | .bool b => some (.bool b)
  | .int k n => some (.int k n)
  | .sym k s => some (.int k (E.σ.num s))
  | .str s => some (.string ⟨s.toArray⟩)
  | .sstr cs => (bytesC E.σ cs).map fun bs => .string ⟨bs.toArray⟩
  | .gptr g off => some (.pointer (some ⟨g, off, none⟩))
  | .ptr i off => (E.φ i).map fun p => .pointer (some ⟨p.block, p.off + off, none⟩)
  | .nilp => some (.pointer none)
  | .slice i off eo len cap => (E.φ i).bind fun p => if len ≤ capOf p eo cap then some (.slice (some ⟨p.block, p.off + off, none⟩) len (capOf p eo cap)) else none
  | .tail i off eo len size => (E.φ i).map fun p => if p.cap - eo = len then .slice (some ⟨p.block, p.off + off, none⟩) 0 0 else .slice (some ⟨p.block, p.off + (off + len * size), none⟩) 0 (p.cap - eo - len)
  | .nils => some (.slice none 0 0)
  | .map i => (E.φ i).map fun p => .map (some p.block)
  | .nilm => some (.map none)
  | .fn f a b => match concs E a, concs E b with
    | some a, some b => some (.func (.func f) ⟨a⟩ ⟨b⟩)
    | _, _ => none
  | .nilf => some .nilFunc
  | .iface t v => (conc E v).map fun v => .iface t v
  | .nili => some .nilIface
  | .agg cs => if cs.all AV.atom then (concs E cs).map fun vs => .agg ⟨vs⟩ else none
  | .tup vs => (concs E vs).map fun vs => .tuple ⟨vs⟩
  | .hole i => (E.φ i).map fun p => p.val
  | .opq j => if opqV (E.σ.opq j) = true then some (E.σ.opq j) else none
  | .lptr j es c n off => lptrC E.σ j es c n off
def concs (E : Env) : List AV → Option (List Value)
  | [] => some []
  | v :: vs => match conc E v, concs E vs with
    | some v, some vs => some (v :: vs)
    | _, _ => none
end

def Env.le (E E' : Env) : Prop := (∀ i p, E.φ i = some p → E'.φ i = some p) ∧ E'.σ = E.σ
theorem Env.le_refl (E : Env) : E.le E := ⟨fun _ _ h => h, rfl⟩
theorem Env.le_trans {A B C : Env} (h : A.le B) (k : B.le C) : A.le C := ⟨fun i p hp => k.1 i p (h.1 i p hp), k.2.trans h.2⟩

theorem concs_cons {E : Env} {x : AV} {xs : List AV} {l : List Value} (h : concs E (x :: xs) = some l) :
    ∃ v vs, conc E x = some v ∧ concs E xs = some vs ∧ l = v :: vs := by
  simp only [concs] at h
  split at h
  · rename_i v vs h1 h2; exact ⟨v, vs, h1, h2, (Option.some.inj h).symm⟩
  · cases h
theorem concs_mk {E : Env} {x : AV} {xs : List AV} {v : Value} {vs : List Value} (h : conc E x = some v) (h2 : concs E xs = some vs) : concs E (x :: xs) = some (v :: vs) := by
  simp [concs, h, h2]

mutual
theorem conc_mono {E E' : Env} (hE : E.le E') : ∀ (x : AV) (v : Value), conc E x = some v → conc E' x = some v
  | .bool _, _, h | .int _ _, _, h | .str _, _, h | .gptr _ _, _, h | .nilp, _, h | .nils, _, h | .nilm, _, h | .nilf, _, h | .nili, _, h => h
  | .sym k s, v, h => by simp only [conc] at h ⊢; rw [hE.2]; exact h
  | .opq j, v, h => by simp only [conc] at h ⊢; rw [hE.2]; exact h
  | .lptr j es c n off, v, h => by simp only [conc] at h ⊢; rw [hE.2]; exact h
  | .sstr cs, v, h => by simp only [conc] at h ⊢; rw [hE.2]; exact h
  | .ptr i off, v, h => by
    simp only [conc, Option.map_eq_some_iff] at h ⊢
    obtain ⟨p, hp, rfl⟩ := h; exact ⟨p, hE.1 _ _ hp, rfl⟩
  | .slice i off eo len cap, v, h => by
    simp only [conc, Option.bind_eq_some_iff] at h ⊢
    obtain ⟨p, hp, h⟩ := h; exact ⟨p, hE.1 _ _ hp, h⟩
  | .tail i off eo len size, v, h => by
    simp only [conc, Option.map_eq_some_iff] at h ⊢
    obtain ⟨p, hp, rfl⟩ := h; exact ⟨p, hE.1 _ _ hp, rfl⟩
  | .map i, v, h => by
    simp only [conc, Option.map_eq_some_iff] at h ⊢
    obtain ⟨p, hp, rfl⟩ := h; exact ⟨p, hE.1 _ _ hp, rfl⟩
  | .fn f a b, v, h => by
    simp only [conc] at h ⊢
    split at h
    · rename_i a' b' ha hb
      rw [concs_mono hE _ _ ha, concs_mono hE _ _ hb]; exact h
    · cases h
  | .iface t x, v, h => by
    simp only [conc, Option.map_eq_some_iff] at h ⊢
    obtain ⟨u, hu, rfl⟩ := h; exact ⟨u, conc_mono hE _ _ hu, rfl⟩
  | .agg cs, v, h => by
    simp only [conc] at h ⊢
    split at h
    · rename_i hc
      rw [if_pos hc]
      simp only [Option.map_eq_some_iff] at h ⊢
      obtain ⟨u, hu, rfl⟩ := h; exact ⟨u, concs_mono hE _ _ hu, rfl⟩
    · cases h
  | .tup cs, v, h => by
    simp only [conc, Option.map_eq_some_iff] at h ⊢
    obtain ⟨u, hu, rfl⟩ := h; exact ⟨u, concs_mono hE _ _ hu, rfl⟩
  | .hole i, v, h => by
    simp only [conc, Option.map_eq_some_iff] at h ⊢
    obtain ⟨p, hp, rfl⟩ := h; exact ⟨p, hE.1 _ _ hp, rfl⟩
theorem concs_mono {E E' : Env} (hE : E.le E') : ∀ (xs : List AV) (vs : List Value), concs E xs = some vs → concs E' xs = some vs
  | [], _, h => h
  | x :: xs, l, h => by
    obtain ⟨v, vs, h1, h2, rfl⟩ := concs_cons h
    exact concs_mk (conc_mono hE _ _ h1) (concs_mono hE _ _ h2)
end

theorem concs_length {E : Env} : ∀ {xs : List AV} {vs : List Value}, concs E xs = some vs → vs.length = xs.length
  | [], _, h => by simp [concs] at h; subst h; rfl
  | x :: xs, l, h => by
    obtain ⟨v, vs, h1, h2, rfl⟩ := concs_cons h
    simp [concs_length h2]
theorem concs_get {E : Env} : ∀ {xs : List AV} {vs : List Value}, concs E xs = some vs → ∀ (j : Nat) (x : AV), xs[j]? = some x → ∃ v, vs[j]? = some v ∧ conc E x = some v
  | [], _, _, j, x, hx => by simp at hx
  | y :: xs, l, h, j, x, hx => by
    obtain ⟨v, vs, h1, h2, rfl⟩ := concs_cons h
    cases j with
    | zero => simp at hx; subst hx; exact ⟨v, by simp, h1⟩
    | succ j => simp at hx; simpa using concs_get h2 j x hx
theorem concs_get' {E : Env} : ∀ {xs : List AV} {vs : List Value}, concs E xs = some vs → ∀ (j : Nat) (v : Value), vs[j]? = some v → ∃ x, xs[j]? = some x ∧ conc E x = some v := by
  intro xs vs h j v hv
  have hl := concs_length h
  have hj : j < vs.length := by
    rcases Nat.lt_or_ge j vs.length with h' | h'
    · exact h'
    · rw [List.getElem?_eq_none h'] at hv; cases hv
  have hx : xs[j]? = some (xs[j]'(by omega)) := List.getElem?_eq_getElem (by omega)
  obtain ⟨u, hu, hc⟩ := concs_get h j _ hx
  rw [hv] at hu; cases hu
  exact ⟨_, hx, hc⟩
/-- a list of values out of its elements -/
theorem concs_of {E : Env} : ∀ (xs : List AV), (∀ x ∈ xs, ∃ v, conc E x = some v) → ∃ vs, concs E xs = some vs
  | [], _ => ⟨[], rfl⟩
  | x :: xs, h => by
    obtain ⟨v, hv⟩ := h x (by simp)
    obtain ⟨vs, hvs⟩ := concs_of xs (fun y hy => h y (by simp [hy]))
    exact ⟨v :: vs, concs_mk hv hvs⟩
theorem concs_append {E : Env} : ∀ {xs ys : List AV} {a b : List Value}, concs E xs = some a → concs E ys = some b → concs E (xs ++ ys) = some (a ++ b)
  | [], ys, a, b, h, h2 => by simp [concs] at h; subst h; simpa using h2
  | x :: xs, ys, l, b, h, h2 => by
    obtain ⟨v, vs, h1, h3, rfl⟩ := concs_cons h
    simpa using concs_mk h1 (concs_append h3 h2)
theorem concs_mem {E : Env} {xs : List AV} {vs : List Value} (h : concs E xs = some vs) (x : AV) (hx : x ∈ xs) : ∃ v, conc E x = some v := by
  obtain ⟨j, hj⟩ := List.mem_iff_getElem?.1 hx
  obtain ⟨v, _, hc⟩ := concs_get h j x hj
  exact ⟨v, hc⟩
theorem concs_ext {E : Env} {xs : List AV} {vs : List Value} (hl : vs.length = xs.length) (h : ∀ (j : Nat) (x : AV), xs[j]? = some x → ∃ v, vs[j]? = some v ∧ conc E x = some v) : concs E xs = some vs := by
  induction xs generalizing vs with
  | nil => simp at hl; subst hl; rfl
  | cons x xs ih =>
    cases vs with
    | nil => simp at hl
    | cons v vs =>
      obtain ⟨u, hu, hc⟩ := h 0 x (by simp)
      simp at hu; subst hu
      exact concs_mk hc (ih (by simpa using hl) (fun j y hy => by have := h (j + 1) y (by simpa using hy); simpa using this))
theorem concs_take {E : Env} {xs : List AV} {vs : List Value} (h : concs E xs = some vs) (n : Nat) : concs E (xs.take n) = some (vs.take n) := by
  have hl := concs_length h
  refine concs_ext (by simp; omega) fun j x hx => ?_
  rw [List.getElem?_take] at hx ⊢
  split at hx
  · rename_i hj; rw [if_pos hj]; exact concs_get h j x hx
  · cases hx
theorem concs_drop {E : Env} {xs : List AV} {vs : List Value} (h : concs E xs = some vs) (n : Nat) : concs E (xs.drop n) = some (vs.drop n) := by
  have hl := concs_length h
  refine concs_ext (by simp; omega) fun j x hx => ?_
  rw [List.getElem?_drop] at hx ⊢
  exact concs_get h _ x hx

theorem atom_one {E : Env} {x : AV} {v : Value} (ha : x.atom = true) (h : conc E x = some v) : v.oneCell' = true := by
  cases x <;> simp [AV.atom] at ha <;> simp only [conc] at h
  case fn f a b => split at h <;> simp at h; subst h; rfl
  case slice i off eo len cap =>
    simp only [Option.bind_eq_some_iff] at h
    obtain ⟨p, _, h⟩ := h
    split at h
    · cases h; rfl
    · cases h
  case tail i off eo len size => simp at h; obtain ⟨u, _, rfl⟩ := h; split <;> rfl
  case iface t x => simp at h; obtain ⟨u, _, rfl⟩ := h; rfl
  case opq j =>
    split at h
    · rename_i ho; cases h; revert ho; cases E.σ.opq j <;> simp [opqV, Value.oneCell']
    · cases h
  case lptr j es c n off => obtain ⟨a, rfl⟩ := lptrC_one h; rfl
  all_goals first
    | (simp at h; subst h; rfl)
    | (simp at h; obtain ⟨u, _, rfl⟩ := h; rfl)

/-- a value's cells -/
theorem cellsOf_conc {E : Env} {x : AV} {v : Value} (h : conc E x = some v) (ht : isTup x = false) : (cellsOf x).all AV.atom = true ∧ concs E (cellsOf x) = some v.cells.toList := by
  cases x
  case agg cs =>
    simp only [conc] at h
    split at h
    · rename_i hc
      simp only [Option.map_eq_some_iff] at h
      obtain ⟨u, hu, rfl⟩ := h
      exact ⟨by simpa [cellsOf] using hc, by simpa [cellsOf, Value.cells] using hu⟩
    · cases h
  case tup l => cases ht
  case hole i => cases ht
  all_goals
    refine ⟨by simp [cellsOf, AV.atom], ?_⟩
    have h1 := atom_one (x := _) rfl h
    have hv : v.cells.toList = [v] := by cases v <;> simp [Value.oneCell'] at h1 <;> rfl
    rw [hv]
    exact concs_mk h rfl

theorem conc_agg {E : Env} {cs : List AV} {vs : List Value} (ha : cs.all AV.atom = true) (h : concs E cs = some vs) : conc E (.agg cs) = some (.agg ⟨vs⟩) := by
  simp only [conc, if_pos ha, h, Option.map_some]
theorem conc_agg_inv {E : Env} {cs : List AV} {v : Value} (h : conc E (.agg cs) = some v) : cs.all AV.atom = true ∧ ∃ vs, concs E cs = some vs ∧ v = .agg ⟨vs⟩ := by
  simp only [conc] at h
  split at h
  · rename_i hc
    simp only [Option.map_eq_some_iff] at h
    obtain ⟨u, hu, rfl⟩ := h
    exact ⟨hc, u, hu, rfl⟩
  · cases h
theorem conc_undef (E : Env) : conc E .undef = some undef := rfl

mutual
theorem conc_absV (E : Env) : ∀ (v : Value) (x : AV), absV v = some x → conc E x = some v
  | .bool _, x, h | .int _ _, x, h | .pointer none, x, h | .map none, x, h | .nilFunc, x, h | .nilIface, x, h => by
    simp only [absV, Option.some.injEq] at h; subst h; rfl
  | .string s, x, h => by
    simp only [absV, Option.some.injEq] at h; subst h; rfl
  | .slice none 0 0, x, h => by simp only [absV, Option.some.injEq] at h; subst h; rfl
  | .func (.func f) ⟨a⟩ ⟨b⟩, x, h => by
    simp only [absV] at h
    split at h
    · rename_i a' b' ha hb
      cases h
      simp only [conc, concs_absVs E _ _ ha, concs_absVs E _ _ hb]
    · cases h
  | .agg ⟨cs⟩, x, h => by
    simp only [absV] at h
    split at h
    · rename_i cs' hc
      split at h
      · rename_i ha
        cases h
        exact conc_agg ha (concs_absVs E _ _ hc)
      · cases h
    · cases h
  | .tuple ⟨cs⟩, x, h => by
    simp only [absV] at h
    split at h
    · rename_i cs' hc
      cases h
      simp only [conc, concs_absVs E _ _ hc, Option.map_some]
    · cases h
  | .float _ _, _, h | .complex _ _ _, _, h | .chan _, _, h | .iface _ _, _, h | .pointer (some _), _, h | .map (some _), _, h => by simp [absV] at h
  | .slice (some _) _ _, _, h => by simp [absV] at h
  | .slice none (_ + 1) _, _, h => by simp [absV] at h
  | .slice none 0 (_ + 1), _, h => by simp [absV] at h
  | .func (.method _) _ _, _, h | .func (.methodOf _ _) _ _, _, h | .func (.via _ _ _ _) _ _, _, h | .func (.yield _) _ _, _, h => by simp [absV] at h
theorem concs_absVs (E : Env) : ∀ (vs : List Value) (xs : List AV), absVs vs = some xs → concs E xs = some vs
  | [], xs, h => by simp [absVs] at h; subst h; rfl
  | v :: vs, xs, h => by
    simp only [absVs] at h
    split at h
    · rename_i x xs' hx hxs
      cases h
      exact concs_mk (conc_absV E _ _ hx) (concs_absVs E _ _ hxs)
    · cases h
end
end Go.Abs

namespace Go.Abs
open Go.RowKit

def AO.rw : AO → Bool
  | .cells _ ro _ => !ro
  | .map _ _ => true
  | .iter .. => true

def concE (E : Env) : List (AV × AV × Nat) → Option (List MapEntry)
  | [] => some []
  | (k, v, b) :: r => match conc E k, conc E v, concE E r with
    | some k, some v, some r => some (⟨k, v, b⟩ :: r)
    | _, _, _ => none

theorem concE_cons {E : Env} {k v : AV} {b : Nat} {r : List (AV × AV × Nat)} {l : List MapEntry} (h : concE E ((k, v, b) :: r) = some l) :
    ∃ k' v' r', conc E k = some k' ∧ conc E v = some v' ∧ concE E r = some r' ∧ l = ⟨k', v', b⟩ :: r' := by
  simp only [concE] at h
  split at h
  · rename_i k' v' r' h1 h2 h3; exact ⟨k', v', r', h1, h2, h3, (Option.some.inj h).symm⟩
  · cases h
theorem concE_mk {E : Env} {k v : AV} {b : Nat} {r : List (AV × AV × Nat)} {k' v' : Value} {r' : List MapEntry} (h1 : conc E k = some k') (h2 : conc E v = some v') (h3 : concE E r = some r') :
    concE E ((k, v, b) :: r) = some (⟨k', v', b⟩ :: r') := by simp [concE, h1, h2, h3]
theorem concE_mono {E E' : Env} (hE : E.le E') : ∀ (es : List (AV × AV × Nat)) (l : List MapEntry), concE E es = some l → concE E' es = some l
  | [], _, h => h
  | (k, v, b) :: r, l, h => by
    obtain ⟨k', v', r', h1, h2, h3, rfl⟩ := concE_cons h
    exact concE_mk (conc_mono hE _ _ h1) (conc_mono hE _ _ h2) (concE_mono hE _ _ h3)
theorem concE_length {E : Env} : ∀ {es : List (AV × AV × Nat)} {l : List MapEntry}, concE E es = some l → l.length = es.length
  | [], _, h => by simp [concE] at h; subst h; rfl
  | (k, v, b) :: r, l, h => by
    obtain ⟨k', v', r', h1, h2, h3, rfl⟩ := concE_cons h
    simp [concE_length h3]

/-- numbers put away in a value -/
def encI (S : List Nat) : Value := .tuple (S.map fun n => Value.int .i64 (Int.ofNat n)).toArray
def mapOf (E : Env) : Option Nat → Option Nat → Prop
  | none, mb => mb = none
  | some i, mb => ∃ q, E.φ i = some q ∧ mb = some q.block
def preOf (E : Env) : Option Nat → List Nat → Prop
  | none, S => S = []
  | some j, S => ∃ q, E.φ j = some q ∧ q.val = encI S
theorem mapOf_mono {E E' : Env} (hE : E.le E') : ∀ {m mb : Option Nat}, mapOf E m mb → mapOf E' m mb
  | none, _, h => h
  | some _, _, ⟨q, hq, h⟩ => ⟨q, hE.1 _ _ hq, h⟩
theorem preOf_mono {E E' : Env} (hE : E.le E') : ∀ {m : Option Nat} {S : List Nat}, preOf E m S → preOf E' m S
  | none, _, h => h
  | some _, _, ⟨q, hq, h⟩ => ⟨q, hE.1 _ _ hq, h⟩

def objRel (E : Env) (B : Nat) (w : World) (p : Pl) : AO → Prop
  | .cells cs ro es => cs.all AV.atom = true ∧ ∃ vs, concs E cs = some vs ∧
      (ro = true → p.block < B ∧ ∀ (j : Nat) (v : Value), vs[j]? = some v → w.cell? ⟨p.block, p.off + j, none⟩ = some v) ∧
      (ro = false → B ≤ p.block ∧ ∃ c e fr, w.heap[p.block]? = some (.cells c e fr) ∧ (∀ o, o < c.size → ¬ (fr.1 ≤ o ∧ o < fr.2)) ∧
        (∀ (j : Nat) (v : Value), vs[j]? = some v → c[p.off + j]? = some v) ∧ p.off + vs.length ≤ c.size ∧ (es ≠ 0 → vs.length ≤ p.cap * es ∧ p.off + p.cap * es ≤ c.size))
  | .map es clock => B ≤ p.block ∧ ∃ l, concE E es = some l ∧ w.heap[p.block]? = some (.map l.toArray clock)
  | .iter m since last seen pre => B ≤ p.block ∧ p.off = 0 ∧ ∃ mb S, mapOf E m mb ∧ preOf E pre S ∧ w.heap[p.block]? = some (.mapIter mb since (S ++ seen).toArray last)

theorem objRel_mono {E E' : Env} (hE : E.le E') {B : Nat} {w : World} {p : Pl} {o : AO} (h : objRel E B w p o) : objRel E' B w p o := by
  cases o with
  | cells cs ro es => obtain ⟨h1, vs, h2, h3⟩ := h; exact ⟨h1, vs, concs_mono hE _ _ h2, h3⟩
  | map es clock => obtain ⟨h1, l, h2, h3⟩ := h; exact ⟨h1, l, concE_mono hE _ _ h2, h3⟩
  | iter m since last seen pre => obtain ⟨h1, h0, mb, S, h2, h3, h4⟩ := h; exact ⟨h1, h0, mb, S, mapOf_mono hE h2, preOf_mono hE h3, h4⟩

theorem objRel_block {E : Env} {B : Nat} {w w' : World} {p : Pl} {o : AO} (h : objRel E B w p o) (hb : w'.heap[p.block]? = w.heap[p.block]?) : objRel E B w' p o := by
  cases o with
  | cells cs ro es =>
    obtain ⟨h1, vs, h2, h3, h4⟩ := h
    refine ⟨h1, vs, h2, fun hr => ⟨(h3 hr).1, fun j v hv => ?_⟩, fun hr => ?_⟩
    · rw [← (h3 hr).2 j v hv]; exact World.cell?_of_block hb
    · obtain ⟨hB, c, e, fr, hc, r⟩ := h4 hr; exact ⟨hB, c, e, fr, by rw [hb]; exact hc, r⟩
  | map es clock => obtain ⟨h1, l, h2, h3⟩ := h; exact ⟨h1, l, h2, by rw [hb]; exact h3⟩
  | iter m since last seen pre => obtain ⟨h1, h0, mb, S, h2, h3, h4⟩ := h; exact ⟨h1, h0, mb, S, h2, h3, by rw [hb]; exact h4⟩

theorem objRel_lt {E : Env} {B : Nat} {w : World} {p : Pl} {o : AO} (h : objRel E B w p o) (hr : o.rw = true) : p.block < w.heap.size := by
  have key : ∀ x, w.heap[p.block]? = some x → p.block < w.heap.size := fun x hx => by
    rcases Nat.lt_or_ge p.block w.heap.size with h' | h'
    · exact h'
    · rw [Array.getElem?_eq_none h'] at hx; cases hx
  cases o with
  | cells cs ro es =>
    obtain ⟨h1, vs, h2, h3, h4⟩ := h
    obtain ⟨hB, c, e, fr, hc, r⟩ := h4 (by simpa [AO.rw] using hr)
    exact key _ hc
  | map es clock => obtain ⟨h1, l, h2, h3⟩ := h; exact key _ h3
  | iter m since last seen pre => obtain ⟨h1, h0, mb, S, h2, h3, h4⟩ := h; exact key _ h4
theorem objRel_base {E : Env} {B : Nat} {w : World} {p : Pl} {o : AO} (h : objRel E B w p o) (hr : o.rw = true) : B ≤ p.block := by
  cases o with
  | cells cs ro es =>
    obtain ⟨h1, vs, h2, h3, h4⟩ := h
    exact (h4 (by simpa [AO.rw] using hr)).1
  | map es clock => exact h.1
  | iter m since last seen pre => exact h.1

structure Rel (E : Env) (B : Nat) (w0 : World) (h : AH) (w : World) : Prop where
  objs : ∀ i o p, h.objs.get i = some o → E.φ i = some p → objRel E B w p o
  inj : ∀ i j o o' p q, h.objs.get i = some o → h.objs.get j = some o' → E.φ i = some p → E.φ j = some q → o.rw = true → o'.rw = true → i ≠ j → p.block ≠ q.block
  below : Below B w0 w
  base : B ≤ w0.heap.size
  ok : ∀ i, h.next ≤ i → h.objs.get i = none
  glob : ∀ g j v, E.σ.glob g j = some v → g < B ∧ w0.cell? ⟨g, j, none⟩ = some v

/-- the block is one of those that the objects at hand own -/
def Owned (E : Env) (h : AH) (b : Nat) : Prop := ∃ i o p, h.objs.get i = some o ∧ E.φ i = some p ∧ o.rw = true ∧ p.block = b

structure Post (E : Env) (B : Nat) (w0 : World) (h : AH) (w : World) (E' : Env) (h' : AH) (w' : World) : Prop where
  ext : E.le E'
  only : ∀ i, (i < h.next ∨ h'.next ≤ i) → E'.φ i = E.φ i
  rel : Rel E' B w0 h' w'
  hid : ∀ i, i < h.next → E.φ i = none → h'.objs.get i = h.objs.get i
  dom : ∀ i o', i < h.next → h'.objs.get i = some o' → ∃ o, h.objs.get i = some o ∧ (o'.rw = true → o.rw = true)
  frame : ∀ b, b < w.heap.size → ¬ Owned E h b → w'.heap[b]? = w.heap[b]?
  newb : ∀ i p, h.next ≤ i → i < h'.next → E'.φ i = some p → w.heap.size ≤ p.block ∨ Owned E h p.block
  grow : w.heap.size ≤ w'.heap.size
  next : h.next ≤ h'.next

def Fresh (E : Env) (h h' : AH) : Prop := ∀ i, h.next ≤ i → i < h'.next → E.φ i = none

theorem Post.refl {E : Env} {B : Nat} {w0 : World} {h : AH} {w : World} (hr : Rel E B w0 h w) : Post E B w0 h w E h w :=
  ⟨Env.le_refl E, fun _ _ => rfl, hr, fun _ _ _ => rfl, fun _ o' _ ho => ⟨o', ho, id⟩, fun _ _ _ => rfl, fun _ _ h1 h2 => absurd h2 (Nat.not_lt.2 h1), Nat.le_refl _, Nat.le_refl _⟩

theorem Owned.back {E : Env} {B : Nat} {w0 : World} {h : AH} {w : World} {E1 : Env} {h1 : AH} {w1 : World} (p1 : Post E B w0 h w E1 h1 w1) {b : Nat} (ho : Owned E1 h1 b) :
    w.heap.size ≤ b ∨ Owned E h b := by
  obtain ⟨i, o, p, hi, hp, hrw, rfl⟩ := ho
  rcases Nat.lt_or_ge i h.next with hlt | hge
  · obtain ⟨o', ho', himp⟩ := p1.dom i o hlt hi
    rw [p1.only i (.inl hlt)] at hp
    exact .inr ⟨i, o', p, ho', hp, himp hrw, rfl⟩
  · rcases Nat.lt_or_ge i h1.next with hlt1 | hge1
    · exact p1.newb i p hge hlt1 hp
    · rw [p1.rel.ok i hge1] at hi; cases hi

theorem Post.trans {E : Env} {B : Nat} {w0 : World} {h : AH} {w : World} {E1 : Env} {h1 : AH} {w1 : World} {E2 : Env} {h2 : AH} {w2 : World}
    (p1 : Post E B w0 h w E1 h1 w1) (p2 : Post E1 B w0 h1 w1 E2 h2 w2) : Post E B w0 h w E2 h2 w2 where
  ext := Env.le_trans p1.ext p2.ext
  only := fun i hi => by
    rcases hi with hi | hi
    · rw [p2.only i (.inl (Nat.lt_of_lt_of_le hi p1.next)), p1.only i (.inl hi)]
    · rw [p2.only i (.inr hi), p1.only i (.inr (Nat.le_trans p2.next hi))]
  rel := p2.rel
  hid := fun i hi hn => by
    rw [p2.hid i (Nat.lt_of_lt_of_le hi p1.next) (by rw [p1.only i (.inl hi)]; exact hn), p1.hid i hi hn]
  dom := fun i o' hi ho => by
    obtain ⟨o1, ho1, h1'⟩ := p2.dom i o' (Nat.lt_of_lt_of_le hi p1.next) ho
    obtain ⟨o, ho0, h0⟩ := p1.dom i o1 hi ho1
    exact ⟨o, ho0, fun x => h0 (h1' x)⟩
  frame := fun b hb hn => by
    rw [p2.frame b (Nat.lt_of_lt_of_le hb p1.grow) (fun ho => (Owned.back p1 ho).elim (fun x => by omega) hn), p1.frame b hb hn]
  newb := fun i p hi hi2 hp => by
    rcases Nat.lt_or_ge i h1.next with hlt | hge
    · rw [p2.only i (.inl hlt)] at hp
      exact p1.newb i p hi hlt hp
    · rcases p2.newb i p hge hi2 hp with h' | h'
      · exact .inl (Nat.le_trans p1.grow h')
      · exact Owned.back p1 h'
  grow := Nat.le_trans p1.grow p2.grow
  next := Nat.le_trans p1.next p2.next

/-- only the heap, the tape and the streams count -/
theorem Rel.heap {E : Env} {B : Nat} {w0 : World} {h : AH} {w w' : World} (hr : Rel E B w0 h w) (h1 : w'.heap = w.heap) (h2 : w'.tape = w.tape) (h3 : w'.os = w.os) (h4 : w'.output = w.output) : Rel E B w0 h w' where
  objs := fun i o p hi hp => objRel_block (hr.objs i o p hi hp) (by rw [h1])
  inj := hr.inj
  below := hr.below.trans ⟨h3, h2, h4, by rw [h1]; exact Nat.le_refl _, fun k _ => by rw [h1]⟩
  base := hr.base
  ok := hr.ok
  glob := hr.glob
theorem Rel.drew {E : Env} {B : Nat} {w0 : World} {h : AH} {w : World} (hr : Rel E B w0 h w) : Rel E B w0 h w.drew := hr.heap rfl rfl rfl rfl
theorem Post.drew0 {E : Env} {B : Nat} {w0 : World} {h : AH} {w : World} (hr : Rel E B w0 h w) : Post E B w0 h w E h w.drew :=
  { Post.refl hr with rel := hr.drew, frame := fun _ _ _ => rfl, grow := Nat.le_refl _ }

def Env.put (E : Env) (i : Nat) (p : Pl) : Env := { E with φ := fun j => if j = i then some p else E.φ j }
theorem Env.le_put {E : Env} {i : Nat} (p : Pl) (h : E.φ i = none) : E.le (E.put i p) :=
  ⟨fun j q hj => by
    by_cases e : j = i
    · subst e; rw [h] at hj; cases hj
    · simp [Env.put, e, hj], rfl⟩
theorem Env.put_same (E : Env) (i : Nat) (p : Pl) : (E.put i p).φ i = some p := by simp [Env.put]
theorem Env.put_other (E : Env) {i j : Nat} (p : Pl) (h : j ≠ i) : (E.put i p).φ j = E.φ j := by simp [Env.put, h]

theorem heap_alloc_lt (w : World) (o : Obj) (k : Nat) (h : k < w.heap.size) : (w.alloc o).heap[k]? = w.heap[k]? := Below.heap_alloc w o k h
theorem heap_alloc_new (w : World) (o : Obj) : (w.alloc o).heap[w.heap.size]? = some o := by
  show (w.heap.push o)[w.heap.size]? = some o
  simp

/-- a new block for a new object -/
theorem Post.alloc {E : Env} {B : Nat} {w0 : World} {h : AH} {w : World} (hr : Rel E B w0 h w) (hf : E.φ h.next = none) (o : AO) (b : Obj) (cap : Nat)
    (ho : objRel (E.put h.next ⟨w.heap.size, 0, cap, undef⟩) B (w.alloc b) ⟨w.heap.size, 0, cap, undef⟩ o) :
    Post E B w0 h w (E.put h.next ⟨w.heap.size, 0, cap, undef⟩) ⟨h.objs.set h.next o, h.next + 1⟩ (w.alloc b) := by
  have hle := Env.le_put (E := E) ⟨w.heap.size, 0, cap, undef⟩ hf
  have hB : B ≤ w.heap.size := Nat.le_trans hr.base hr.below.size
  have old : ∀ i o' p, i ≠ h.next → h.objs.get i = some o' → E.φ i = some p → objRel (E.put h.next ⟨w.heap.size, 0, cap, undef⟩) B (w.alloc b) p o' ∧ (o'.rw = true → p.block < w.heap.size) := by
    intro i o' p hne hi hp
    have h1 := hr.objs i o' p hi hp
    refine ⟨?_, fun hrw' => objRel_lt h1 hrw'⟩
    by_cases hrw' : o'.rw = true
    · exact objRel_mono hle (objRel_block h1 (heap_alloc_lt _ _ _ (objRel_lt h1 hrw')))
    · refine objRel_mono hle (objRel_block h1 (heap_alloc_lt _ _ _ ?_))
      cases o' with
      | cells cs ro es =>
        have : ro = true := by simpa [AO.rw] using hrw'
        obtain ⟨_, vs, _, h3, _⟩ := h1
        exact Nat.lt_of_lt_of_le (h3 this).1 hB
      | map es c => simp [AO.rw] at hrw'
      | iter m since last seen pre => simp [AO.rw] at hrw'
  refine { ext := hle, only := ?_, rel := ?_, hid := ?_, dom := ?_, frame := ?_, newb := ?_, grow := by simp, next := Nat.le_succ _ }
  · rintro i (hi | hi)
    · exact Env.put_other _ _ (by omega)
    · exact Env.put_other _ _ (by simp at hi; omega)
  · refine { objs := ?_, inj := ?_, below := hr.below.alloc hB b, base := hr.base, ok := ?_, glob := hr.glob }
    · intro i o' p hi hp
      rw [Hp.get_set] at hi
      split at hi
      · rename_i e; subst e
        cases hi
        rw [Env.put_same] at hp; cases hp
        exact ho
      · rename_i e
        rw [Env.put_other _ _ e] at hp
        exact (old i o' p e hi hp).1
    · intro i j o1 o2 p q hi hj hp hq hr1 hr2 hne
      rw [Hp.get_set] at hi hj
      split at hi <;> split at hj
      · omega
      · rename_i e e'; subst e
        rw [Env.put_same] at hp; cases hp
        rw [Env.put_other _ _ e'] at hq
        have := (old j o2 q e' hj hq).2 hr2
        simp; omega
      · rename_i e e'; subst e'
        rw [Env.put_same] at hq; cases hq
        rw [Env.put_other _ _ e] at hp
        have := (old i o1 p e hi hp).2 hr1
        simp; omega
      · rename_i e e'
        rw [Env.put_other _ _ e] at hp
        rw [Env.put_other _ _ e'] at hq
        exact hr.inj i j o1 o2 p q hi hj hp hq hr1 hr2 hne
    · intro i hi
      simp at hi
      rw [Hp.get_set, if_neg (by omega)]
      exact hr.ok i (by omega)
  · intro i hi _
    simp only [Hp.get_set]; rw [if_neg (by omega)]
  · intro i o' hi ho'
    simp only [Hp.get_set] at ho'; rw [if_neg (by omega)] at ho'
    exact ⟨o', ho', id⟩
  · intro b' hb' _
    exact heap_alloc_lt _ _ _ hb'
  · intro i p hi hi2 hp
    simp at hi2
    have : i = h.next := by omega
    subst this
    rw [Env.put_same] at hp; cases hp
    exact .inl (Nat.le_refl _)

/-- one object's block is written -/
theorem Post.write {E : Env} {B : Nat} {w0 : World} {h : AH} {w : World} (hr : Rel E B w0 h w) {i : Nat} {o o' : AO} {p : Pl} (hi : h.objs.get i = some o) (hp : E.φ i = some p)
    (hrw : o.rw = true) (b : Obj) (ho : ∀ w', w'.heap[p.block]? = some b → objRel E B w' p o') :
    Post E B w0 h w E ⟨h.objs.set i o', h.next⟩ { w with heap := w.heap.setIfInBounds p.block b } := by
  have hlt := objRel_lt (hr.objs i o p hi hp) hrw
  have hB := objRel_base (hr.objs i o p hi hp) hrw
  have hin : i < h.next := by
    rcases Nat.lt_or_ge i h.next with h' | h'
    · exact h'
    · rw [hr.ok i h'] at hi; cases hi
  have hnew : (w.heap.setIfInBounds p.block b)[p.block]? = some b := by simp [hlt]
  have hold : ∀ k, k ≠ p.block → (w.heap.setIfInBounds p.block b)[k]? = w.heap[k]? := fun k hk => by simp [Ne.symm hk]
  refine { ext := Env.le_refl E, only := fun _ _ => rfl, rel := ?_, hid := ?_, dom := ?_, frame := ?_, newb := fun _ _ h1 h2 => absurd h2 (Nat.not_lt.2 h1), grow := by simp, next := Nat.le_refl _ }
  · refine { objs := ?_, inj := ?_, below := ?_, base := hr.base, ok := ?_, glob := hr.glob }
    · intro j o1 q hj hq
      simp only [Hp.get_set] at hj
      split at hj
      · rename_i e; subst e
        cases hj
        rw [hp] at hq; cases hq
        exact ho _ hnew
      · rename_i e
        have h1 := hr.objs j o1 q hj hq
        refine objRel_block h1 (hold _ ?_)
        by_cases hrw1 : o1.rw = true
        · exact hr.inj j i o1 o q p hj hi hq hp hrw1 hrw e
        · cases o1 with
          | cells cs ro es =>
            have : ro = true := by simpa [AO.rw] using hrw1
            obtain ⟨_, vs, _, h3, _⟩ := h1
            have := (h3 this).1
            omega
          | map es c => simp [AO.rw] at hrw1
          | iter m since last seen pre => simp [AO.rw] at hrw1
    · intro j k o1 o2 q r hj hk hq hrr h1 h2 hne
      simp only [Hp.get_set] at hj hk
      have f : ∀ (j : Nat) (o1 : AO), (if j = i then some o' else h.objs.get j) = some o1 → o1.rw = true → ∃ o2, h.objs.get j = some o2 ∧ o2.rw = true := by
        intro j o1 hj h1
        split at hj
        · rename_i e; subst e; exact ⟨o, hi, hrw⟩
        · exact ⟨o1, hj, h1⟩
      obtain ⟨o1', hj', h1'⟩ := f j o1 hj h1
      obtain ⟨o2', hk', h2'⟩ := f k o2 hk h2
      exact hr.inj j k o1' o2' q r hj' hk' hq hrr h1' h2' hne
    · exact hr.below.trans ⟨rfl, rfl, rfl, by simp, fun k hk => hold k (by omega)⟩
    · intro j hj
      simp only [Hp.get_set]
      rw [if_neg (by have := Nat.lt_of_lt_of_le hin hj; omega)]
      exact hr.ok j hj
  · intro j hj hn
    simp only [Hp.get_set]
    rw [if_neg (fun e => by subst e; rw [hp] at hn; cases hn)]
  · intro j o1 hj ho1
    simp only [Hp.get_set] at ho1
    split at ho1
    · rename_i e; subst e; exact ⟨o, hi, fun _ => hrw⟩
    · exact ⟨o1, ho1, id⟩
  · intro k hk hn
    exact hold k (fun e => hn ⟨i, o, p, hi, hp, hrw, e.symm⟩)

/-- an object's block goes over to a new object -/
theorem Post.regrow {E : Env} {B : Nat} {w0 : World} {h : AH} {w : World} (hr : Rel E B w0 h w) (hf : E.φ h.next = none) {i : Nat} {o o' : AO} {p p' : Pl} (hi : h.objs.get i = some o) (hp : E.φ i = some p)
    (hrw : o.rw = true) (hpb : p'.block = p.block) (b : Obj) (ho : ∀ w', w'.heap[p.block]? = some b → objRel (E.put h.next p') B w' p' o') :
    Post E B w0 h w (E.put h.next p') ⟨(h.objs.del i).set h.next o', h.next + 1⟩ { w with heap := w.heap.setIfInBounds p.block b } := by
  have hlt := objRel_lt (hr.objs i o p hi hp) hrw
  have hB := objRel_base (hr.objs i o p hi hp) hrw
  have hle := Env.le_put (E := E) p' hf
  have hin : i < h.next := by
    rcases Nat.lt_or_ge i h.next with h' | h'
    · exact h'
    · rw [hr.ok i h'] at hi; cases hi
  have hnew : (w.heap.setIfInBounds p.block b)[p.block]? = some b := by simp [hlt]
  have hold : ∀ k, k ≠ p.block → (w.heap.setIfInBounds p.block b)[k]? = w.heap[k]? := fun k hk => by simp [Ne.symm hk]
  have hget : ∀ j, ((h.objs.del i).set h.next o').get j = if j = h.next then some o' else if j = i then none else h.objs.get j := fun j => by
    rw [Hp.get_set, Hp.get_del]
  have sep : ∀ j o1 q, j ≠ i → h.objs.get j = some o1 → E.φ j = some q → q.block ≠ p.block := by
    intro j o1 q hne hj hq
    by_cases hrw1 : o1.rw = true
    · exact hr.inj j i o1 o q p hj hi hq hp hrw1 hrw hne
    · cases o1 with
      | cells cs ro es =>
        have : ro = true := by simpa [AO.rw] using hrw1
        obtain ⟨_, vs, _, h3, _⟩ := hr.objs j _ q hj hq
        have := (h3 this).1
        omega
      | map es c => simp [AO.rw] at hrw1
      | iter m since last seen pre => simp [AO.rw] at hrw1
  refine { ext := hle, only := ?_, rel := ?_, hid := ?_, dom := ?_, frame := ?_, newb := ?_, grow := by simp, next := Nat.le_succ _ }
  · rintro j (hj | hj)
    · exact Env.put_other _ _ (by omega)
    · exact Env.put_other _ _ (by simp at hj; omega)
  · refine { objs := ?_, inj := ?_, below := hr.below.trans ⟨rfl, rfl, rfl, by simp, fun k hk => hold k (by omega)⟩, base := hr.base, ok := ?_, glob := hr.glob }
    · intro j o1 q hj hq
      rw [hget] at hj
      split at hj
      · rename_i e; subst e
        cases hj
        rw [Env.put_same] at hq; cases hq
        exact ho _ hnew
      · rename_i e
        rw [Env.put_other _ _ e] at hq
        split at hj
        · cases hj
        · rename_i e2
          exact objRel_mono hle (objRel_block (hr.objs j o1 q hj hq) (hold _ (sep j o1 q e2 hj hq)))
    · intro j k o1 o2 q r hj hk hq hrr h1 h2 hne
      rw [hget] at hj hk
      split at hj <;> split at hk
      · omega
      · rename_i e e'; subst e
        rw [Env.put_same] at hq; cases hq
        rw [Env.put_other _ _ e'] at hrr
        split at hk
        · cases hk
        · rename_i e2; rw [hpb]; exact Ne.symm (sep k o2 r e2 hk hrr)
      · rename_i e e'; subst e'
        rw [Env.put_same] at hrr; cases hrr
        rw [Env.put_other _ _ e] at hq
        split at hj
        · cases hj
        · rename_i e2; rw [hpb]; exact sep j o1 q e2 hj hq
      · rename_i e e'
        rw [Env.put_other _ _ e] at hq
        rw [Env.put_other _ _ e'] at hrr
        split at hj
        · cases hj
        · split at hk
          · cases hk
          · exact hr.inj j k o1 o2 q r hj hk hq hrr h1 h2 hne
    · intro j hj
      simp at hj
      simp only [hget]
      rw [if_neg (by omega), if_neg (by omega)]
      exact hr.ok j (by omega)
  · intro j hj hn
    simp only [hget]
    rw [if_neg (by omega)]
    split
    · rename_i e; subst e; rw [hp] at hn; cases hn
    · rfl
  · intro j o1 hj ho1
    simp only [hget] at ho1
    rw [if_neg (by omega)] at ho1
    split at ho1
    · cases ho1
    · exact ⟨o1, ho1, id⟩
  · intro k hk hn
    exact hold k (fun e => hn ⟨i, o, p, hi, hp, hrw, e.symm⟩)
  · intro j q hj hj2 hq
    simp at hj2
    have : j = h.next := by omega
    subst this
    rw [Env.put_same] at hq; cases hq
    exact .inr ⟨i, o, p, hi, hp, hrw, hpb.symm⟩
end Go.Abs

namespace Go.Abs

def FactOK (P : Program) (σ : Val) (f : Fact) : Prop :=
  ∀ E : Env, E.σ = σ → ∀ X Y, conc E f.x = some X → conc E f.y = some Y → ∃ R, conc E f.r = some R ∧ ∀ w t, (binOp f.op t X Y).run P w = .ok R w
def FConvOK (σ : Val) (f : FConv) : Prop :=
  ∀ E : Env, E.σ = σ → ∀ X, conc E f.x = some X → ∃ j n, X = .int j n ∧ conc E f.r = some (.int f.k (f.k.wrap n))

def FLenOK (σ : Val) (f : FLen) : Prop := ∃ (a : Option Addr) (n c : Nat), σ.opq f.j = .slice a n c ∧ (a = none → n = 0) ∧ (0 < n → ∀ b, a = some b → b.spot = none) ∧ ∀ E : Env, E.σ = σ → conc E f.r = some (.int .i64 (Int.ofNat n))
def FReadOK (σ : Val) (f : FRead) : Prop := ∀ (a : Addr) (len cap : Nat), σ.opq f.j = .slice (some a) len cap → a.spot = none → 0 ≤ ixV σ f.c f.n → ixV σ f.c f.n < (len : Int) →
  f.cells.all AV.atom = true ∧ ∃ vs, (∀ E : Env, E.σ = σ → concs E f.cells = some vs) ∧ ∀ (k : Nat) (v : Value), vs[k]? = some v → σ.glob a.block (a.off + (ixV σ f.c f.n).toNat * f.es + k) = some v

structure CxOK (P : Program) (σ : Val) (cx : Cx) : Prop where
  tt : ∀ t i, cx.tt.get t = some i → tyI P t = some i
  facts : ∀ f ∈ cx.facts, FactOK P σ f
  convs : ∀ f ∈ cx.convs, FConvOK σ f
  bytes : ∀ s, cx.bytes.get s = some true → 0 ≤ σ.num s ∧ σ.num s < 256
  lens : ∀ f ∈ cx.lens, FLenOK σ f
  reads : ∀ f ∈ cx.reads, FReadOK σ f
  globs : ∀ g cs, cx.globs.get g = some cs → cs.all AV.atom = true ∧ ∃ vs, (∀ E : Env, E.σ = σ → concs E cs = some vs) ∧ ∀ (j : Nat) (v : Value), vs[j]? = some v → σ.glob g j = some v

theorem sameSym_eq {x y : AV} (h : sameSym x y = true) : x = y ∧ ((∃ k n, x = .int k n) ∨ (∃ k n, x = .sym k n) ∨ (∃ j, x = .opq j)) := by
  cases x <;> cases y <;> simp only [sameSym, Bool.false_eq_true] at h
  · rename_i k a j b
    split at h
    · rename_i hk
      rw [intEq_eq] at h
      have := kEq_iff.1 hk; subst this
      have : a = b := by simpa using h
      subst this
      exact ⟨rfl, .inl ⟨_, _, rfl⟩⟩
    · cases h
  · rename_i k a j b
    split at h
    · rename_i hk
      have := kEq_iff.1 hk; subst this
      have := Nat.eq_of_beq_eq_true h; subst this
      exact ⟨rfl, .inr (.inl ⟨_, _, rfl⟩)⟩
    · cases h
  · have := Nat.eq_of_beq_eq_true h; subst this
    exact ⟨rfl, .inr (.inr ⟨_, rfl⟩)⟩
theorem opTag_inj {a b : BinOp} (h : opTag a = opTag b) : a = b := by cases a <;> cases b <;> first | rfl | (simp [opTag] at h)

theorem findF_eq {op : BinOp} {x y r : AV} : ∀ {fx : List Fact}, findF op x y fx = some r → ∃ f ∈ fx, f.op = op ∧ f.x = x ∧ f.y = y ∧ f.r = r
  | [], h => by simp [findF] at h
  | f :: fx, h => by
    simp only [findF] at h
    split at h
    · rename_i h1 h2 h3
      cases h
      exact ⟨f, by simp, (opTag_inj (Nat.eq_of_beq_eq_true h1)).symm, (sameSym_eq h2).1.symm, (sameSym_eq h3).1.symm, rfl⟩
    · obtain ⟨g, hg, r⟩ := findF_eq h; exact ⟨g, by simp [hg], r⟩
theorem findF_sound {P : Program} {σ : Val} {cx : Cx} (ok : CxOK P σ cx) {op : BinOp} {x y r : AV} (h : findF op x y cx.facts = some r) {E : Env} (hσ : E.σ = σ) {X Y : Value}
    (hx : conc E x = some X) (hy : conc E y = some Y) : ∃ R, conc E r = some R ∧ ∀ w t, (binOp op t X Y).run P w = .ok R w := by
  obtain ⟨f, hf, rfl, rfl, rfl, rfl⟩ := findF_eq h
  exact ok.facts f hf E hσ X Y hx hy

def LeafEq : Leaf → Value → Value → Bool → Prop
  | .int, A, B, r => ∃ k n m, A = .int k n ∧ B = .int k m ∧ r = (n == m)
  | .bool, A, B, r => ∃ x y, A = .bool x ∧ B = .bool y ∧ r = (x == y)
  | .str, A, B, r => ∃ x y, A = .string x ∧ B = .string y ∧ r = (x.toList == y.toList)

theorem conc_bool {E : Env} {b : Bool} {v : Value} (h : conc E (.bool b) = some v) : v = .bool b := by simp only [conc, Option.some.injEq] at h; exact h.symm
theorem conc_int {E : Env} {k : IntKind} {n : Int} {v : Value} (h : conc E (.int k n) = some v) : v = .int k n := by simp only [conc, Option.some.injEq] at h; exact h.symm
theorem conc_str {E : Env} {s : List UInt8} {v : Value} (h : conc E (.str s) = some v) : v = .string ⟨s.toArray⟩ := by simp only [conc, Option.some.injEq] at h; exact h.symm
theorem conc_sym {E : Env} {k : IntKind} {s : Nat} {v : Value} (h : conc E (.sym k s) = some v) : v = .int k (E.σ.num s) := by simp only [conc, Option.some.injEq] at h; exact h.symm
theorem conc_opq {E : Env} {j : Nat} {v : Value} (h : conc E (.opq j) = some v) : opqV v = true ∧ v = E.σ.opq j := by
  simp only [conc] at h
  split at h
  · rename_i ho; cases h; exact ⟨ho, rfl⟩
  · cases h
theorem conc_opq_inv {E : Env} {j : Nat} {v : Value} (h : conc E (.opq j) = some v) : v ≠ .nilIface ∧ ∀ c, v ≠ .agg c := by
  have := (conc_opq h).1
  exact ⟨fun e => (by subst e; cases this), fun c e => (by subst e; cases this)⟩
theorem toList_mk (s : List UInt8) : (⟨s.toArray⟩ : ByteArray).toList = s := by rw [ByteArray.toList_eq]

theorem eqIntL_sound {P : Program} {σ : Val} {cx : Cx} (ok : CxOK P σ cx) {a b : AV} {r : Bool} (h : eqIntL cx.facts a b = some r) {E : Env} (hσ : E.σ = σ) {A B : Value}
    (ha : conc E a = some A) (hb : conc E b = some B) : LeafEq .int A B r := by
  have viaFact : (match findNm .eql a b cx.facts with
      | some (.bool b) => some b
      | _ => none) = some r → LeafEq .int A B r := by
    intro h
    split at h
    · rename_i b' hf
      cases h
      unfold findNm at hf
      split at hf
      case h_2 => cases hf
      rename_i na nb
      obtain ⟨R, hR, hrun⟩ := findF_sound ok hf hσ ha hb
      have hR' := conc_bool hR
      subst hR'
      have num : ∀ {x : AV} {X : Value}, numAV x = true → conc E x = some X → ∃ k n, X = .int k n := fun {x X} hn hx => by
        cases x <;> simp only [numAV, Bool.false_eq_true] at hn
        · exact ⟨_, _, conc_int hx⟩
        · exact ⟨_, _, conc_sym hx⟩
      obtain ⟨k, n, rfl⟩ := num na ha
      obtain ⟨k', m, rfl⟩ := num nb hb
      have hr := hrun default 0
      by_cases hkk : k = k'
      · subst hkk
        simp [binOp, Op.intCmp] at hr
        exact ⟨_, _, _, rfl, rfl, hr.symm⟩
      · simp [binOp, hkk] at hr
    · cases h
  unfold eqIntL at h
  split at h
  · rename_i k x j y
    split at h
    · rename_i hk
      have := kEq_iff.1 hk; subst this
      cases h
      exact ⟨_, _, _, conc_int ha, conc_int hb, intEq_eq _ _⟩
    · cases h
  · exact viaFact h

theorem byteC_conc {E : Env} {a : AV} {b : UInt8} (h : byteC E.σ a = some b) : ∃ n, conc E a = some (.int .u8 n) ∧ 0 ≤ n ∧ n < 256 ∧ b = UInt8.ofNat n.toNat := by
  unfold byteC at h
  split at h
  · split at h
    · rename_i n hn; cases h; exact ⟨_, rfl, hn.1, hn.2, rfl⟩
    · cases h
  · split at h
    · rename_i s hn; cases h; exact ⟨_, rfl, hn.1, hn.2, rfl⟩
    · cases h
  · cases h
theorem byte_inj {n m : Int} (h1 : 0 ≤ n) (h2 : n < 256) (h3 : 0 ≤ m) (h4 : m < 256) : (UInt8.ofNat n.toNat = UInt8.ofNat m.toNat) ↔ n = m := by
  constructor
  · intro h
    have := congrArg UInt8.toNat h
    simp only [UInt8.toNat_ofNat'] at this
    omega
  · rintro rfl; rfl
theorem bytesC_cons {σ : Val} {c : AV} {cs : List AV} {l : List UInt8} (h : bytesC σ (c :: cs) = some l) : ∃ b bs, byteC σ c = some b ∧ bytesC σ cs = some bs ∧ l = b :: bs := by
  simp only [bytesC] at h
  split at h
  · rename_i b bs h1 h2; exact ⟨b, bs, h1, h2, (Option.some.inj h).symm⟩
  · cases h
theorem bytesC_length {σ : Val} : ∀ {cs : List AV} {l : List UInt8}, bytesC σ cs = some l → l.length = cs.length
  | [], l, h => by simp [bytesC] at h; subst h; rfl
  | c :: cs, l, h => by
    obtain ⟨b, bs, _, h2, rfl⟩ := bytesC_cons h
    simp [bytesC_length h2]
theorem bytesC_byteAs (σ : Val) : ∀ (s : List UInt8), bytesC σ (byteAs s) = some s
  | [] => rfl
  | b :: s => by
    have h1 : byteC σ (.int .u8 (Int.ofNat b.toNat)) = some b := by
      have := b.toNat_lt
      simp only [byteC, Int.ofNat_eq_natCast]
      rw [if_pos (by omega)]
      simp
    have h2 := bytesC_byteAs σ s
    simp only [byteAs] at h2
    simp only [byteAs, List.map_cons, bytesC, h1, h2]
theorem eqBytes_sound {P : Program} {σ : Val} {cx : Cx} (ok : CxOK P σ cx) {E : Env} (hσ : E.σ = σ) : ∀ {a b : List AV} {x y : List UInt8} {r : Bool}, eqBytes cx.facts a b = some r → bytesC σ a = some x → bytesC σ b = some y → r = (x == y)
  | [], [], x, y, r, h, hx, hy => by
    simp [bytesC] at hx hy; subst hx hy
    simp [eqBytes] at h; subst h; rfl
  | [], _ :: _, _, _, _, h, _, _ => by simp [eqBytes] at h
  | _ :: _, [], _, _, _, h, _, _ => by simp [eqBytes] at h
  | a :: as, b :: bs, x, y, r, h, hx, hy => by
    obtain ⟨u, us, hu, hus, rfl⟩ := bytesC_cons hx
    obtain ⟨v, vs, hv, hvs, rfl⟩ := bytesC_cons hy
    rw [← hσ] at hu hv
    obtain ⟨n, hn, n0, n1, rfl⟩ := byteC_conc hu
    obtain ⟨m, hm, m0, m1, rfl⟩ := byteC_conc hv
    have hb := byte_inj n0 n1 m0 m1
    simp only [eqBytes] at h
    split at h
    · rename_i he
      obtain ⟨k, p, q, e1, e2, e3⟩ := eqIntL_sound ok he hσ hn hm
      cases e1; cases e2
      have : n = m := by simpa using e3.symm
      rw [eqBytes_sound ok hσ h hus hvs]
      simp [hb.2 this]
    · rename_i he
      cases h
      obtain ⟨k, p, q, e1, e2, e3⟩ := eqIntL_sound ok he hσ hn hm
      cases e1; cases e2
      have : ¬ n = m := by simpa using e3.symm
      have : ¬ (UInt8.ofNat n.toNat = UInt8.ofNat m.toNat) := fun x => this (hb.1 x)
      simp [this]
    · cases h
theorem eqStrL_sound {P : Program} {σ : Val} {cx : Cx} (ok : CxOK P σ cx) {E : Env} (hσ : E.σ = σ) {a b : List AV} {x y : List UInt8} {r : Bool} (h : eqStrL cx.facts a b = some r) (hx : bytesC σ a = some x) (hy : bytesC σ b = some y) : r = (x == y) := by
  unfold eqStrL at h
  split at h
  · exact eqBytes_sound ok hσ h hx hy
  · rename_i hl
    cases h
    rw [natBeq_eq] at hl
    have hl : a.length ≠ b.length := by simpa using hl
    have h1 := bytesC_length hx
    have h2 := bytesC_length hy
    have : x ≠ y := fun e => hl (by rw [← h1, ← h2, e])
    simp [this]
theorem conc_sstr {E : Env} {cs : List AV} {v : Value} (h : conc E (.sstr cs) = some v) : ∃ bs, bytesC E.σ cs = some bs ∧ v = .string ⟨bs.toArray⟩ := by
  simp only [conc, Option.map_eq_some_iff] at h
  obtain ⟨bs, hb, rfl⟩ := h; exact ⟨bs, hb, rfl⟩

theorem eqLeaf_sound {P : Program} {σ : Val} {cx : Cx} (ok : CxOK P σ cx) {l : Leaf} {a b : AV} {r : Bool} (h : eqLeaf cx.facts l a b = some r) {E : Env} (hσ : E.σ = σ) {A B : Value}
    (ha : conc E a = some A) (hb : conc E b = some B) : LeafEq l A B r := by
  unfold eqLeaf at h
  split at h
  · rename_i k x j y
    refine eqIntL_sound ok (a := .int k x) (b := .int j y) ?_ hσ ha hb
    simpa [eqIntL] using h
  · cases h; exact ⟨_, _, conc_bool ha, conc_bool hb, boolEq_eq _ _⟩
  · cases h; exact ⟨_, _, conc_str ha, conc_str hb, by rw [toList_mk, toList_mk]; exact strEq_eq _ _⟩
  · obtain ⟨x, hx, rfl⟩ := conc_sstr ha
    obtain ⟨y, hy, rfl⟩ := conc_sstr hb
    rw [hσ] at hx hy
    exact ⟨_, _, rfl, rfl, by rw [toList_mk, toList_mk]; exact eqStrL_sound ok hσ h hx hy⟩
  · obtain ⟨x, hx, rfl⟩ := conc_sstr ha
    rw [hσ] at hx
    exact ⟨_, _, rfl, conc_str hb, by rw [toList_mk, toList_mk]; exact eqStrL_sound ok hσ h hx (bytesC_byteAs _ _)⟩
  · obtain ⟨y, hy, rfl⟩ := conc_sstr hb
    rw [hσ] at hy
    exact ⟨_, _, conc_str ha, rfl, by rw [toList_mk, toList_mk]; exact eqStrL_sound ok hσ h (bytesC_byteAs _ _) hy⟩
  · rename_i hne
    refine eqIntL_sound ok ?_ hσ ha hb
    unfold eqIntL
    split
    · exact absurd rfl (hne _ _ _ _ rfl)
    · exact h
  · cases h

def eqPre (fx : List Fact) : List Leaf → List AV → List AV → Option Bool
  | [], _, _ => some true
  | l :: ls, a :: x, b :: y => match eqLeaf fx l a b with
    | some true => eqPre fx ls x y
    | some false => some false
    | none => none
  | _ :: _, _, _ => none

theorem eqPre_of {fx : List Fact} : ∀ {ls : List Leaf} {x y : List AV} {b : Bool}, eqLeaves fx ls x y = some b → eqPre fx ls x y = some b
  | [], x, y, b, h => by
    cases x <;> cases y <;> simp [eqLeaves] at h
    subst h; rfl
  | l :: ls, [], y, b, h => by simp [eqLeaves] at h
  | l :: ls, a :: x, [], b, h => by simp [eqLeaves] at h
  | l :: ls, a :: x, b' :: y, b, h => by
    simp only [eqLeaves, eqPre] at h ⊢
    split at h
    · rename_i h1; rw [h1]; exact eqPre_of h
    · rename_i h1; rw [h1]; exact h
    · cases h
theorem eqPre_append {fx : List Fact} : ∀ {l r : List Leaf} {x y : List AV} {b : Bool}, eqPre fx (l ++ r) x y = some b →
    (eqPre fx l x y = some false ∧ b = false) ∨ (eqPre fx l x y = some true ∧ eqPre fx r (x.drop l.length) (y.drop l.length) = some b)
  | [], r, x, y, b, h => .inr ⟨rfl, by simpa using h⟩
  | l :: ls, r, [], y, b, h => by simp [eqPre] at h
  | l :: ls, r, a :: x, [], b, h => by simp [eqPre] at h
  | l :: ls, r, a :: x, b' :: y, b, h => by
    simp only [List.cons_append, eqPre] at h ⊢
    cases h1 : eqLeaf fx l a b' with
    | none => rw [h1] at h; cases h
    | some c =>
      rw [h1] at h
      cases c with
      | true => simpa using eqPre_append h
      | false => cases h; exact .inl ⟨rfl, rfl⟩

/-- what stands for a type's value in a row of cells -/
def valOf (P : Program) (t n : Nat) (X : List Value) : Value :=
  match P.underlying t with
  | some (.struct _) | some (.array _ _) => .agg ⟨X.take n⟩
  | _ => X.headD undef

theorem info_cells {P : Program} {t : Nat} {d : TypeDesc} (h : P.underlying t = some d) : ∃ i, P.info? t = some i ∧ P.cellsOf t = i.size := by
  unfold Program.underlying at h
  cases hi : P.info? t with
  | none => rw [hi] at h; cases h
  | some i => exact ⟨i, rfl, by simp [Program.cellsOf, hi]⟩

def isAggD : TypeDesc → Bool
  | .struct _ | .array _ _ => true
  | _ => false
theorem run_part {P : Program} {t : Nat} {d : TypeDesc} (w : World) (hu : P.underlying t = some d) (X : Array Value) (off : Nat) (hx : isAggD d = false → off < X.size) :
    (part t X off).run P w = .ok (valOf P t (P.cellsOf t) (X.toList.drop off)) w := by
  obtain ⟨i, hi, hc⟩ := info_cells hu
  have hs := run_sizeOf (P := P) w hi
  have hext : X.extract off (off + i.size) = (⟨(X.toList.drop off).take i.size⟩ : Array Value) := by
    apply Array.ext'
    simp [List.take_drop]
  unfold part valOf
  rw [hu]
  cases d
  case struct fs => simp only [Sem.run_bind, isAgg, run_underlying hu, Result.andThen_ok, Sem.run_pure, if_true, hs, hc, hext]
  case array n e => simp only [Sem.run_bind, isAgg, run_underlying hu, Result.andThen_ok, Sem.run_pure, if_true, hs, hc, hext]
  all_goals
    have hlt := hx rfl
    simp only [Sem.run_bind, isAgg, run_underlying hu, Result.andThen_ok, Sem.run_pure, Bool.false_eq_true, if_false, Array.getElem?_eq_getElem hlt]
    congr 1
    rw [List.headD_eq_head?_getD, List.head?_drop]
    simp [hlt]

theorem eqPre_true_len {fx : List Fact} : ∀ {ls : List Leaf} {x y : List AV}, eqPre fx ls x y = some true → ls.length ≤ x.length ∧ ls.length ≤ y.length
  | [], _, _, _ => ⟨Nat.zero_le _, Nat.zero_le _⟩
  | l :: ls, [], y, h => by simp [eqPre] at h
  | l :: ls, a :: x, [], h => by simp [eqPre] at h
  | l :: ls, a :: x, b :: y, h => by
    simp only [eqPre] at h
    split at h
    · have := eqPre_true_len h; simp; omega
    · cases h
    · cases h

theorem valOf_take (P : Program) (t n m : Nat) (X : List Value) (h : n ≤ m) (h0 : 0 < m) : valOf P t n (X.take m) = valOf P t n X := by
  unfold valOf
  split <;> first
    | (congr 2; rw [List.take_take, Nat.min_eq_left h])
    | (cases X <;> simp [List.headD]; cases m <;> simp at h0 ⊢)

theorem leavesT_agg0 {P : Program} {d t : Nat} {ls : List Leaf} {td : TypeDesc} (h : leavesT P d t = some ls) (hu : P.underlying t = some td) (ha : isAggD td = false) : ls.length = 1 := by
  cases d with
  | zero => simp [leavesT] at h
  | succ d =>
    simp only [leavesT, hu] at h
    cases td <;> simp [isAggD] at ha h <;> subst h <;> rfl

/-- an operand of a part: what must be there -/
theorem run_part_leaf {P : Program} {d t : Nat} {ls : List Leaf} (w : World) (h : leavesT P d t = some ls) (X : Array Value) (off : Nat) (hx : off < X.size ∨ ls = []) :
    (part t X off).run P w = .ok (valOf P t (P.cellsOf t) (X.toList.drop off)) w := by
  cases hu : P.underlying t with
  | none => cases d <;> simp [leavesT, hu] at h
  | some td =>
    refine run_part w hu X off fun ha => ?_
    rcases hx with hx | hx
    · exact hx
    · have := leavesT_agg0 h hu ha
      rw [hx] at this; simp at this

mutual
theorem equalT {P : Program} {σ : Val} {cx : Cx} (ok : CxOK P σ cx) {E : Env} (hσ : E.σ = σ) : ∀ (d t : Nat) (ls : List Leaf), leavesT P d t = some ls → ∀ (n : Nat), d ≤ n → ∀ (xs ys : List AV) (X Y : List Value) (b : Bool) (w : World),
    concs E xs = some X → concs E ys = some Y → eqPre cx.facts ls xs ys = some b → (Op.equalIn n t (valOf P t ls.length X) (valOf P t ls.length Y)).run P w = .ok b w
  | 0, t, ls, h, _, _, _, _, _, _, _, _, _, _, _ => by simp [leavesT] at h
  | d + 1, t, ls, h, 0, hn, _, _, _, _, _, _, _, _, _ => by omega
  | d + 1, t, ls, h, n + 1, hn, xs, ys, X, Y, b, w, hX, hY, he => by
    cases hu : P.underlying t with
    | none => simp [leavesT, hu] at h
    | some td =>
      simp only [leavesT, hu] at h
      have leaf : ∀ l, [l] = ls → ∃ A B, X.headD undef = A ∧ Y.headD undef = B ∧ LeafEq l A B b := by
        rintro l rfl
        cases xs with
        | nil => simp [eqPre] at he
        | cons x xs =>
          cases ys with
          | nil => simp [eqPre] at he
          | cons y ys =>
            obtain ⟨A, X', hA, _, rfl⟩ := concs_cons hX
            obtain ⟨B, Y', hB, _, rfl⟩ := concs_cons hY
            refine ⟨A, B, rfl, rfl, ?_⟩
            simp only [eqPre] at he
            split at he
            · rename_i h1; cases he; exact eqLeaf_sound ok h1 hσ hA hB
            · rename_i h1; cases he; exact eqLeaf_sound ok h1 hσ hA hB
            · cases he
      cases td with
      | int k =>
        obtain ⟨A, B, e1, e2, k', p, q, rfl, rfl, rfl⟩ := leaf .int (by simpa using h)
        simp only [valOf, hu, e1, e2]
        simp [Op.equalIn, run_underlying hu]
      | bool =>
        obtain ⟨A, B, e1, e2, p, q, rfl, rfl, rfl⟩ := leaf .bool (by simpa using h)
        simp only [valOf, hu, e1, e2]
        simp [Op.equalIn, run_underlying hu]
      | string =>
        obtain ⟨A, B, e1, e2, p, q, rfl, rfl, rfl⟩ := leaf .str (by simpa using h)
        simp only [valOf, hu, e1, e2]
        exact run_equalIn_string w n t p q hu
      | struct fs =>
        simp only at h
        split at h
        · cases h
        · rename_i hst
          have hf : P.fieldsOf t = fs := by simp [Program.fieldsOf, hu]
          simp only [valOf, hu]
          rw [run_equalIn_struct w n t _ _ (by rw [hf]; exact hu) hst, hf]
          have := equalF ok hσ d 0 fs.toList ls h n (by omega) xs ys X Y ls.length b w hX hY (by omega) (by simpa using he)
          simpa using this
      | array m e =>
        simp only at h
        split at h
        · rename_i l hl
          split at h
          · rename_i hc
            have hc := Nat.eq_of_beq_eq_true hc
            cases h
            have hue : ∃ i, P.info? e = some i := by
              cases hi : P.info? e with
              | some i => exact ⟨i, rfl⟩
              | none => cases d <;> simp [leavesT, Program.underlying, hi] at hl
            obtain ⟨i, hi⟩ := hue
            simp only [valOf, hu]
            rw [run_equalIn_array w n _ _ hu hi]
            have gen : ∀ (k j : Nat) (L : Nat) (w : World), (j + k) * l.length ≤ L → eqPre cx.facts (repl k l) (xs.drop (j * l.length)) (ys.drop (j * l.length)) = some b →
                (Op.eqItems n e (P.cellsOf e) ⟨X.take L⟩ ⟨Y.take L⟩ (List.range' j k)).run P w = .ok b w := by
              intro k
              induction k with
              | zero =>
                intro j L w _ hp
                simp only [repl, eqPre, Option.some.injEq] at hp
                subst hp
                simp [Op.eqItems]
              | succ k ih =>
                intro j L w hL hp
                have hL' : j * l.length + l.length ≤ L := by
                  have : (j + (k + 1)) * l.length = j * l.length + l.length + k * l.length := by
                    rw [Nat.add_mul, Nat.succ_mul]; omega
                  omega
                simp only [repl] at hp
                have hne : l ≠ [] ∨ l = [] := by cases l <;> simp
                have hnonempty : l ≠ [] → j * l.length < (X.take L).length ∧ j * l.length < (Y.take L).length := by
                  intro hl0
                  have hx : ¬ xs.length ≤ j * l.length := fun hle => by
                    rw [List.drop_eq_nil_of_le hle] at hp
                    cases l with
                    | nil => exact hl0 rfl
                    | cons a l => simp [eqPre] at hp
                  have hy : ¬ ys.length ≤ j * l.length := fun hle => by
                    rw [List.drop_eq_nil_of_le hle] at hp
                    cases l with
                    | nil => exact hl0 rfl
                    | cons a l =>
                      cases hxx : List.drop (j * (a :: l).length) xs <;> rw [hxx] at hp <;> simp [eqPre] at hp
                  have h1 := concs_length hX
                  have h2 := concs_length hY
                  have : 0 < l.length := by cases l <;> simp at hl0 ⊢
                  simp only [List.length_take]
                  omega
                simp only [List.range'_succ, Op.eqItems, Sem.run_bind]
                rw [run_part_leaf w hl _ _ (hne.elim (fun h0 => .inl (by simpa [hc] using (hnonempty h0).1)) .inr)]
                simp only [Result.andThen_ok]
                rw [run_part_leaf w hl _ _ (hne.elim (fun h0 => .inl (by simpa [hc] using (hnonempty h0).2)) .inr)]
                simp only [Result.andThen_ok, ← hc]
                have tk : ∀ (Z : List Value), valOf P e l.length (List.drop (j * l.length) (List.take L Z)) = valOf P e l.length (List.drop (j * l.length) Z) := by
                  intro Z
                  by_cases hl0 : l = []
                  · subst hl0; unfold valOf; split <;> simp
                    rename_i h1 h2
                    exfalso
                    cases hue2 : P.underlying e with
                    | none => cases d <;> simp [leavesT, hue2] at hl
                    | some te =>
                      have := leavesT_agg0 hl hue2 (by cases te <;> first | rfl | exact (h1 _ hue2).elim | exact (h2 _ _ hue2).elim)
                      simp at this
                  · rw [List.drop_take]
                    refine valOf_take P e _ _ _ (by omega) ?_
                    have : 0 < l.length := by cases l <;> simp at hl0 ⊢
                    omega
                rw [tk X, tk Y]
                rcases eqPre_append hp with ⟨h1, rfl⟩ | ⟨h1, h2⟩
                · rw [equalT ok hσ d e l hl n (by omega) _ _ _ _ _ w (concs_drop hX _) (concs_drop hY _) h1]
                  simp
                · rw [equalT ok hσ d e l hl n (by omega) _ _ _ _ _ w (concs_drop hX _) (concs_drop hY _) h1]
                  simp only [Result.andThen_ok, Bool.not_true, Bool.false_eq_true, if_false]
                  have e1 : j * l.length + l.length = (j + 1) * l.length := by rw [Nat.succ_mul]
                  have goal := ih (j + 1) L w (by rw [show j + 1 + k = j + (k + 1) from by omega]; exact hL) (by rw [← e1, ← List.drop_drop, ← List.drop_drop]; exact h2)
                  rw [← hc] at goal
                  exact goal
            have := gen m 0 (repl m l).length w (by rw [repl_length]; simp) (by simpa using he)
            rw [List.range_eq_range']
            exact this
          · cases h
        · cases h
      | _ => simp at h
theorem equalF {P : Program} {σ : Val} {cx : Cx} (ok : CxOK P σ cx) {E : Env} (hσ : E.σ = σ) : ∀ (d off : Nat) (fs : List Field) (ls : List Leaf), leavesF P d off fs = some ls → ∀ (n : Nat), d ≤ n → ∀ (xs ys : List AV) (X Y : List Value) (L : Nat) (b : Bool) (w : World),
    concs E xs = some X → concs E ys = some Y → off + ls.length ≤ L → eqPre cx.facts ls (xs.drop off) (ys.drop off) = some b → (Op.eqFields n ⟨X.take L⟩ ⟨Y.take L⟩ fs).run P w = .ok b w
  | d, off, [], ls, h, n, _, xs, ys, X, Y, L, b, w, _, _, _, he => by
    have : ls = [] := by cases d <;> simpa [leavesF] using h.symm
    subst this
    simp only [eqPre, Option.some.injEq] at he; subst he
    simp [Op.eqFields]
  | 0, off, f :: fs, ls, h, _, _, _, _, _, _, _, _, _, _, _, _, _ => by simp [leavesF] at h
  | d + 1, off, f :: fs, ls, h, n, hn, xs, ys, X, Y, L, b, w, hX, hY, hL, he => by
    simp only [leavesF] at h
    split at h
    · cases h
    · rename_i l hl
      split at h
      · cases h
      · rename_i r hr
        split at h
        · rename_i q1 q2 q3
          cases h
          have q2 := Nat.eq_of_beq_eq_true q2
          have hc := Nat.eq_of_beq_eq_true q3
          have hname : f.name ≠ "_" := by simpa using q1
          simp only [List.length_append] at hL
          simp only [Op.eqFields, if_pos hname, Sem.run_bind, q2]
          have hne : l ≠ [] ∨ l = [] := by cases l <;> simp
          have hnonempty : l ≠ [] → off < (X.take L).length ∧ off < (Y.take L).length := by
            intro hl0
            have hx : ¬ xs.length ≤ off := fun hle => by
              rw [List.drop_eq_nil_of_le hle] at he
              cases l with
              | nil => exact hl0 rfl
              | cons a l => simp [eqPre] at he
            have hy : ¬ ys.length ≤ off := fun hle => by
              rw [List.drop_eq_nil_of_le hle] at he
              cases l with
              | nil => exact hl0 rfl
              | cons a l =>
                cases hxx : List.drop off xs <;> rw [hxx] at he <;> simp [eqPre] at he
            have h1 := concs_length hX
            have h2 := concs_length hY
            have : 0 < l.length := by cases l <;> simp at hl0 ⊢
            simp only [List.length_take]
            omega
          rw [run_part_leaf w hl _ _ (hne.elim (fun h0 => .inl (by simpa using (hnonempty h0).1)) .inr)]
          simp only [Result.andThen_ok]
          rw [run_part_leaf w hl _ _ (hne.elim (fun h0 => .inl (by simpa using (hnonempty h0).2)) .inr)]
          simp only [Result.andThen_ok, ← hc]
          have tk : ∀ (Z : List Value), valOf P f.type l.length (List.drop off (List.take L Z)) = valOf P f.type l.length (List.drop off Z) := by
            intro Z
            by_cases hl0 : l = []
            · subst hl0; unfold valOf; split <;> simp
              rename_i h1 h2
              exfalso
              cases hue2 : P.underlying f.type with
              | none => cases d <;> simp [leavesT, hue2] at hl
              | some te =>
                have := leavesT_agg0 hl hue2 (by cases te <;> first | rfl | exact (h1 _ hue2).elim | exact (h2 _ _ hue2).elim)
                simp at this
            · rw [List.drop_take]
              refine valOf_take P _ _ _ _ (by omega) ?_
              have : 0 < l.length := by cases l <;> simp at hl0 ⊢
              omega
          rw [tk X, tk Y]
          rcases eqPre_append he with ⟨h1, rfl⟩ | ⟨h1, h2⟩
          · rw [equalT ok hσ d f.type l hl n (by omega) _ _ _ _ _ w (concs_drop hX _) (concs_drop hY _) h1]
            simp
          · rw [equalT ok hσ d f.type l hl n (by omega) _ _ _ _ _ w (concs_drop hX _) (concs_drop hY _) h1]
            simp only [Result.andThen_ok, Bool.not_true, Bool.false_eq_true, if_false]
            refine equalF ok hσ d (off + l.length) fs r hr n (by omega) xs ys X Y L b w hX hY (by omega) ?_
            rw [← List.drop_drop, ← List.drop_drop]
            exact h2
        · cases h
end
end Go.Abs

namespace Go.Abs
open Go.RowKit

/-- what the table says of a type -/
structure TI (P : Program) (t : Nat) (i : TyI) : Prop where
  info : ∃ ti z, P.info? t = some ti ∧ ti.zero = some z ∧ i.size = ti.size ∧ i.bytes = ti.bytes ∧ ∀ E, concs E i.zero = some z.cells.toList
  und : ∃ d, P.underlying t = some d ∧ i.kind = tyK P (some d) ∧ i.agg = isAggD d
  atoms : i.zero.all AV.atom = true
  len : i.zero.length = i.size
  flds : ∀ a, P.underlying t = some (.struct a) → ∀ f ∈ a.toList, ∃ fi, P.info? f.type = some fi
  leaves : ∀ ls, i.leaves = some ls → P.eqGuardType P.depth t = false ∧ leavesT P 40 t = some ls ∧ ls.length = i.size
  zval : ∃ z, (∀ w, (zeroValue t).run P w = .ok z w) ∧ ∀ E, concs E i.zero = some z.cells.toList
  zof : ∀ x, ofCells i.agg i.zero = some x → ∀ E, ∃ z, conc E x = some z ∧ ∀ w, (zeroValue t).run P w = .ok z w

theorem aggK_eq (P : Program) (d : TypeDesc) : aggK (tyK P (some d)) = isAggD d := by cases d <;> rfl

theorem fits_not_tup {b : Bool} {v : AV} (h : fitsAgg b v = true) : isTup v = false := by
  cases v <;> first | rfl | (cases b <;> simp [fitsAgg, AV.atom] at h)

theorem tyI_sound {P : Program} {t : Nat} {i : TyI} (h : tyI P t = some i) : TI P t i := by
  unfold tyI at h
  split at h
  · rename_i ti d hi hd
    split at h
    · cases h
    · rename_i z hz
      split at h
      · cases h
      · rename_i v hv
        split at h
        · cases h
        · cases h
        · cases h
        · rename_i hlen hfit hfin
          cases h
          have hlen := Nat.eq_of_beq_eq_true hlen
          have hcz : ∀ E, (cellsOf v).all AV.atom = true ∧ concs E (cellsOf v) = some z.cells.toList := fun E =>
            cellsOf_conc (conc_absV E z v hv) (fits_not_tup hfit)
          refine ⟨⟨ti, z, hi, hz, rfl, rfl, fun E => (hcz E).2⟩, ⟨d, hd, rfl, aggK_eq P d⟩, (hcz ⟨fun _ => none, ⟨fun _ => 0, fun _ _ => none, fun _ => undef⟩⟩).1, hlen, ?_, ?_, ?_, ?_⟩
          · intro a ha f hf
            rw [hd] at ha; cases ha
            simp only [fieldsIn, List.all_eq_true] at hfin
            exact Option.isSome_iff_exists.1 (hfin f hf)
          · intro ls hls
            simp only [leavesOf] at hls
            split at hls
            · cases hls
            · rename_i hg
              split at hls
              · rename_i l hl
                split at hls
                · rename_i hb
                  cases hls
                  exact ⟨hg, hl, Nat.eq_of_beq_eq_true hb⟩
                · cases hls
              · cases hls
          · have hrun : ∀ w, (zeroValue t).run P w = .ok z w := fun w => by
              simp [zeroValue, run_typeInfo w hi, hz]
            exact ⟨z, hrun, fun E => (hcz E).2⟩
          · intro x hx E
            have hrun : ∀ w, (zeroValue t).run P w = .ok z w := fun w => by
              simp [zeroValue, run_typeInfo w hi, hz]
            refine ⟨z, ?_, hrun⟩
            have hcv := conc_absV E z v hv
            simp only at hx
            cases hb : aggK (tyK P (some d)) with
            | true =>
              rw [hb] at hx hfit
              cases v <;> simp [fitsAgg] at hfit
              simp only [ofCells, cellsOf, Option.some.injEq] at hx
              subst hx; exact hcv
            | false =>
              rw [hb] at hx hfit
              have : cellsOf v = [v] := by cases v <;> simp [fitsAgg, AV.atom] at hfit <;> rfl
              rw [this] at hx
              simp only [ofCells, Option.some.injEq] at hx
              subst hx; exact hcv
  · cases h
end Go.Abs

namespace Go.Abs
open Go.RowKit

def TmRel (E : Env) (tm : Tm) (a : Act) : Prop := ∀ t, conc E (tm.at t) = some (a.tmps.getD t undef)

/-- an operation that gives v and leaves the memory h' does so in the model -/
def OpRes (P : Program) (s : Sem Next) (E : Env) (B : Nat) (w0 : World) (h : AH) (w : World) (v : AV) (h' : AH) : Prop :=
  ∃ E' V w', (s.run P w = .ok (.value V) w' ∨ (V = undef ∧ s.run P w = .ok .skip w')) ∧ conc E' v = some V ∧ Post E B w0 h w E' h' w'

theorem OpRes.pure {P : Program} {s : Sem Next} {E : Env} {B : Nat} {w0 : World} {h : AH} {w : World} {v : AV} {V : Value} (hr : Rel E B w0 h w) (hc : conc E v = some V)
    (hs : s.run P w = .ok (.value V) w) : OpRes P s E B w0 h w v h := ⟨E, V, w, .inl hs, hc, Post.refl hr⟩

theorem run_v {P : Program} {w w' : World} {s : Sem Value} {v : Value} (h : s.run P w = .ok v w') : (do Pure.pure (Next.value (← s)) : Sem Next).run P w = .ok (.value v) w' := by
  simp [h]
theorem run_u {P : Program} {w w' : World} {s : Sem Unit} (h : s.run P w = .ok () w') : (do s; Pure.pure Next.skip : Sem Next).run P w = .ok .skip w' := by
  simp [h]

theorem opnd_sound {E : Env} {tm : Tm} {a : Act} (ht : TmRel E tm a) {x : Operand} {v : AV} (h : opnd tm x = some v) : conc E v = some (a.eval x) := by
  cases x with
  | tmp t =>
    have := ht t
    simp only [opnd, Option.some.injEq] at h
    subst h; exact this
  | const c => exact conc_absV E c v h
  | func f => simp only [opnd, Option.some.injEq] at h; subst h; rfl
  | global g => simp only [opnd, Option.some.injEq] at h; subst h; rfl

theorem opnds_sound {E : Env} {tm : Tm} {a : Act} (ht : TmRel E tm a) : ∀ {xs : List Operand} {vs : List AV}, opnds tm xs = some vs → concs E vs = some (xs.map a.eval)
  | [], vs, h => by simp [opnds] at h; subst h; rfl
  | x :: xs, vs, h => by
    simp only [opnds] at h
    split at h
    · rename_i v vs' h1 h2; cases h; exact concs_mk (opnd_sound ht h1) (opnds_sound ht h2)
    · cases h

/-! ## numbers -/
theorem run_eqGuard_plain {P : Program} (op : BinOp) (t : TypeId) (x y : Operand) (a b : Value) (h1 : a ≠ .nilIface) (h2 : ∀ c, a ≠ .agg c) (w : World) : (eqGuard op t x y a b).run P w = .ok () w := by
  have key : (if (!(op matches .eql | .neq)) = true then (Pure.pure () : Sem Unit) else Pure.pure ()).run P w = .ok () w := by split <;> rfl
  cases a <;> first
    | exact absurd rfl h1
    | exact absurd rfl (h2 _)
    | (unfold eqGuard; cases op <;> simp)

theorem binI_sound {P : Program} {op : BinOp} {k : IntKind} {a b : Int} {v : AV} (h : binI op k a b = some v) (E : Env) : ∃ V, conc E v = some V ∧ ∀ w t, (binOp op t (.int k a) (.int k b)).run P w = .ok V w := by
  cases op <;> simp only [binI] at h
  case quo =>
    split at h
    · cases h
    · rename_i hb; cases h
      rw [intEq_eq] at hb
      have hb : ¬ b = 0 := by simpa using hb
      exact ⟨_, rfl, fun w t => by simp [binOp, Op.intDiv, hb]⟩
  case rem =>
    split at h
    · cases h
    · rename_i hb; cases h
      rw [intEq_eq] at hb
      have hb : ¬ b = 0 := by simpa using hb
      exact ⟨_, rfl, fun w t => by simp [binOp, Op.intDiv, hb]⟩
  all_goals first
    | (cases h; done)
    | (cases h; refine ⟨_, rfl, fun w t => ?_⟩; simp [binOp, Op.intArith]; done)
    | (cases h; refine ⟨_, rfl, fun w t => ?_⟩; simp [binOp, Op.intCmp, intEq_eq, bne]; done)
    | (cases h; refine ⟨_, rfl, fun w t => ?_⟩; simp [binOp, Op.intCmp, intLt_eq, ← Int.not_lt]; done)
    | (cases h; refine ⟨_, rfl, fun w t => ?_⟩; simp [binOp, Op.intBits]; done)

theorem binInt_sound {P : Program} {op : BinOp} {k j : IntKind} {a b : Int} {v : AV} (h : binInt op k a j b = some v) (E : Env) : ∃ V, conc E v = some V ∧ ∀ w t, (binOp op t (.int k a) (.int j b)).run P w = .ok V w := by
  unfold binInt at h
  split at h
  · simp only [shlI] at h
    split at h
    · cases h
    · rename_i hb; cases h
      rw [intLt_eq] at hb
      have hb : ¬ b < 0 := by simpa using hb
      exact ⟨_, rfl, fun w t => by simp [binOp, Op.shift, hb]⟩
  · simp only [shrI] at h
    split at h
    · cases h
    · rename_i hb; cases h
      rw [intLt_eq] at hb
      have hb : ¬ b < 0 := by simpa using hb
      exact ⟨_, rfl, fun w t => by simp [binOp, Op.shift, hb]⟩
  · split at h
    · rename_i hk
      have := kEq_iff.1 hk; subst this
      exact binI_sound h E
    · cases h

theorem strLess_eq : ∀ a b : List UInt8, strLess a b = Op.bytesLess a b
  | [], [] => rfl
  | _ :: _, [] => rfl
  | [], _ :: _ => rfl
  | a :: x, b :: y => by
    simp only [strLess, Op.bytesLess]
    rw [natBeq_eq, natBlt_eq]
    by_cases h : a.toNat = b.toNat
    · have : a = b := UInt8.toNat_inj.1 h
      subst this
      simp [strLess_eq x y]
    · have hne : a ≠ b := fun e => h (by rw [e])
      simp [h, hne, UInt8.lt_iff_toNat_lt]

theorem binStr_sound {P : Program} {op : BinOp} {a b : List UInt8} {v : AV} (h : binStr op a b = some v) (E : Env) : ∃ V, conc E v = some V ∧ ∀ w t, (binOp op t (.string ⟨a.toArray⟩) (.string ⟨b.toArray⟩)).run P w = .ok V w := by
  cases op <;> simp only [binStr] at h
  case add =>
    split at h
    · rename_i hl; cases h
      refine ⟨_, rfl, fun w t => ?_⟩
      have hl : a.length + b.length ≤ 9223372036854775807 := by simpa using hl
      have e : (⟨a.toArray⟩ : ByteArray) ++ ⟨b.toArray⟩ = ⟨(a ++ b).toArray⟩ := by
        apply ByteArray.ext
        simp
      have hs : ¬ ((((⟨a.toArray⟩ : ByteArray).size + (⟨b.toArray⟩ : ByteArray).size : Nat) : Int) > IntKind.i64.max) := by
        have e1 : IntKind.i64.max = 9223372036854775807 := by decide
        rw [e1]
        have e2 : (⟨a.toArray⟩ : ByteArray).size = a.length := rfl
        have e3 : (⟨b.toArray⟩ : ByteArray).size = b.length := rfl
        rw [e2, e3]; omega
      simp only [binOp, Op.stringOp, if_neg hs, Sem.run_pure, e]
    · cases h
  all_goals first
    | (cases h; done)
    | (cases h; refine ⟨_, rfl, fun w t => ?_⟩; simp [binOp, Op.stringOp, toList_mk, strEq_eq, bne]; done)
    | (cases h; refine ⟨_, rfl, fun w t => ?_⟩; simp [binOp, Op.stringOp, toList_mk, strLess_eq]; done)
    | (cases h; refine ⟨_, rfl, fun w t => ?_⟩; simp [binOp, Op.stringOp, toList_mk, strLess_eq, strEq_eq]; done)

theorem conc_ptr {E : Env} {i off : Nat} {V : Value} (h : conc E (.ptr i off) = some V) : ∃ p, E.φ i = some p ∧ V = .pointer (some ⟨p.block, p.off + off, none⟩) := by
  simp only [conc, Option.map_eq_some_iff] at h
  obtain ⟨p, hp, rfl⟩ := h; exact ⟨p, hp, rfl⟩
theorem conc_slice {E : Env} {i off eo len : Nat} {cap : Option Nat} {V : Value} (h : conc E (.slice i off eo len cap) = some V) :
    ∃ p, E.φ i = some p ∧ V = .slice (some ⟨p.block, p.off + off, none⟩) len (capOf p eo cap) ∧ len ≤ capOf p eo cap := by
  simp only [conc, Option.bind_eq_some_iff] at h
  obtain ⟨p, hp, h⟩ := h
  split at h
  · rename_i hl; cases h; exact ⟨p, hp, rfl, hl⟩
  · cases h
theorem conc_tail {E : Env} {i off eo len size : Nat} {V : Value} (h : conc E (.tail i off eo len size) = some V) : ∃ a l c, V = .slice (some a) l c := by
  simp only [conc, Option.map_eq_some_iff] at h
  obtain ⟨p, hp, rfl⟩ := h
  split <;> exact ⟨_, _, _, rfl⟩
theorem conc_map {E : Env} {i : Nat} {V : Value} (h : conc E (.map i) = some V) : ∃ p, E.φ i = some p ∧ V = .map (some p.block) := by
  simp only [conc, Option.map_eq_some_iff] at h
  obtain ⟨p, hp, rfl⟩ := h; exact ⟨p, hp, rfl⟩
theorem conc_fn {E : Env} {f : Nat} {a b : List AV} {V : Value} (h : conc E (.fn f a b) = some V) : ∃ a' b', concs E a = some a' ∧ concs E b = some b' ∧ V = .func (.func f) ⟨a'⟩ ⟨b'⟩ := by
  simp only [conc] at h
  split at h
  · rename_i a' b' h1 h2; cases h; exact ⟨a', b', h1, h2, rfl⟩
  · cases h
theorem conc_tup {E : Env} {l : List AV} {V : Value} (h : conc E (.tup l) = some V) : ∃ vs, concs E l = some vs ∧ V = .tuple ⟨vs⟩ := by
  simp only [conc, Option.map_eq_some_iff] at h
  obtain ⟨p, hp, rfl⟩ := h; exact ⟨p, hp, rfl⟩

theorem und_slice {P : Program} {d : TypeDesc} {e : Nat} (h : tyK P (some d) = .slice e) : d = .slice e := by cases d <;> simp [tyK] at h; rw [h]
theorem und_int {P : Program} {d : TypeDesc} {k : IntKind} (h : tyK P (some d) = .int k) : d = .int k := by cases d <;> simp [tyK] at h; rw [h]
theorem und_str {P : Program} {d : TypeDesc} (h : tyK P (some d) = .str) : d = .string := by cases d <;> simp [tyK] at h; rfl
theorem und_bool {P : Program} {d : TypeDesc} (h : tyK P (some d) = .bool) : d = .bool := by cases d <;> simp [tyK] at h; rfl
theorem und_arr {P : Program} {d : TypeDesc} {n e : Nat} (h : tyK P (some d) = .arr n e) : d = .array n e := by cases d <;> simp [tyK] at h; rw [h.1, h.2]
theorem und_map {P : Program} {d : TypeDesc} {k e : Nat} (h : tyK P (some d) = .map k e) : d = .map k e := by cases d <;> simp [tyK] at h; rw [h.1, h.2]
theorem und_strct {P : Program} {d : TypeDesc} {fs : List (Nat × Nat × Nat)} (h : tyK P (some d) = .strct fs) : ∃ a, d = .struct a ∧ fs = a.toList.map fun f => (f.offset, f.type, P.cellsOf f.type) := by
  cases d <;> simp [tyK] at h
  exact ⟨_, rfl, h.symm⟩

theorem TI.of {P : Program} {σ : Val} {cx : Cx} (ok : CxOK P σ cx) {t : Nat} {i : TyI} (h : cx.tt.get t = some i) : TI P t i := tyI_sound (ok.tt t i h)

theorem und_ptr {P : Program} {d : TypeDesc} {e : Nat} (h : tyK P (some d) = .ptr e) : d = .pointer e := by cases d <;> simp [tyK] at h; rw [h]
theorem und_func {P : Program} {d : TypeDesc} (h : tyK P (some d) = .func) : ∃ a b c, d = .func a b c := by cases d <;> simp [tyK] at h; exact ⟨_, _, _, rfl⟩

def EqRes (P : Program) (t : Nat) (X Y : Value) (b : Bool) : Prop :=
  (∀ (op : BinOp) (xo yo : Operand) (w : World), (eqGuard op t xo yo X Y).run P w = .ok () w) ∧ (∀ w, (binOp .eql t X Y).run P w = .ok (.bool b) w) ∧ ∀ w, (binOp .neq t X Y).run P w = .ok (.bool (!b)) w

theorem eqIn_bool {P : Program} (n t : Nat) (a b : Bool) (hd : P.underlying t = some .bool) (w : World) : (Op.equalIn (n + 1) t (.bool a) (.bool b)).run P w = .ok (a == b) w := by
  simp [Op.equalIn, run_underlying hd]
theorem eqIn_ptr0 {P : Program} (n t e : Nat) (b : Option Addr) (hd : P.underlying t = some (.pointer e)) (w : World) : (Op.equalIn (n + 1) t (.pointer none) (.pointer b)).run P w = .ok b.isNone w := by
  simp [Op.equalIn, run_underlying hd]
theorem eqIn_ptr1 {P : Program} (n t e : Nat) (b : Addr) (hd : P.underlying t = some (.pointer e)) (w : World) : (Op.equalIn (n + 1) t (.pointer (some b)) (.pointer none)).run P w = .ok false w := by
  simp [Op.equalIn, run_underlying hd]
theorem eqIn_sl0 {P : Program} (n t e i j k l : Nat) (b : Option Addr) (hd : P.underlying t = some (.slice e)) (w : World) : (Op.equalIn (n + 1) t (.slice none i j) (.slice b k l)).run P w = .ok b.isNone w := by
  simp [Op.equalIn, run_underlying hd]
theorem eqIn_sl1 {P : Program} (n t e i j k l : Nat) (b : Addr) (hd : P.underlying t = some (.slice e)) (w : World) : (Op.equalIn (n + 1) t (.slice (some b) i j) (.slice none k l)).run P w = .ok false w := by
  simp [Op.equalIn, run_underlying hd]
theorem eqIn_map0 {P : Program} (n t k e : Nat) (b : Option Nat) (hd : P.underlying t = some (.map k e)) (w : World) : (Op.equalIn (n + 1) t (.map none) (.map b)).run P w = .ok b.isNone w := by
  simp [Op.equalIn, run_underlying hd]
theorem eqIn_map1 {P : Program} (n t k e : Nat) (b : Nat) (hd : P.underlying t = some (.map k e)) (w : World) : (Op.equalIn (n + 1) t (.map (some b)) (.map none)).run P w = .ok false w := by
  simp [Op.equalIn, run_underlying hd]
theorem eqIn_fn0 {P : Program} (n t : Nat) {a b : Array TypeId} {c : Bool} (hd : P.underlying t = some (.func a b c)) (w : World) : (Op.equalIn (n + 1) t .nilFunc .nilFunc).run P w = .ok true w := by
  simp [Op.equalIn, run_underlying hd]
theorem eqIn_fn1 {P : Program} (n t : Nat) {a b : Array TypeId} {c : Bool} (f : Fn) (x y : Array Value) (hd : P.underlying t = some (.func a b c)) (w : World) : (Op.equalIn (n + 1) t .nilFunc (.func f x y)).run P w = .ok false w := by
  simp [Op.equalIn, run_underlying hd]
theorem eqIn_fn2 {P : Program} (n t : Nat) {a b : Array TypeId} {c : Bool} (f : Fn) (x y : Array Value) (hd : P.underlying t = some (.func a b c)) (w : World) : (Op.equalIn (n + 1) t (.func f x y) .nilFunc).run P w = .ok false w := by
  simp [Op.equalIn, run_underlying hd]
theorem eqlRun {P : Program} {t : Nat} {X Y : Value} {b : Bool} (h1 : ∀ w, (binOp .eql t X Y).run P w = ((Op.equal t X Y).run P w).andThen fun r w' => .ok (.bool r) w')
    (h2 : ∀ w, (binOp .neq t X Y).run P w = ((Op.equal t X Y).run P w).andThen fun r w' => .ok (.bool (!r)) w') (h3 : X ≠ .nilIface) (h4 : ∀ c, X ≠ .agg c)
    (h5 : ∀ n w, (Op.equalIn (n + 1) t X Y).run P w = .ok b w) : EqRes P t X Y b := by
  have h6 : ∀ w, (Op.equal t X Y).run P w = .ok b w := fun w => h5 9999 w
  exact ⟨fun op xo yo w => run_eqGuard_plain op t xo yo X Y h3 h4 w, fun w => by rw [h1, h6]; rfl, fun w => by rw [h2, h6]; rfl⟩

theorem eqT_sound {P : Program} {σ : Val} {cx : Cx} (ok : CxOK P σ cx) {t : Nat} {x y : AV} {b : Bool} (h : eqT cx t x y = some b) {E : Env} (hσ : E.σ = σ) {X Y : Value}
    (hx : conc E x = some X) (hy : conc E y = some Y) : EqRes P t X Y b := by
  unfold eqT at h
  split at h
  · rename_i i hi
    have ti := TI.of ok hi
    obtain ⟨d, hd, hk, hag⟩ := ti.und
    have agg : (∃ a, d = .struct a) ∨ (∃ n e, d = .array n e) → eqG cx.facts i.leaves x y = some b → EqRes P t X Y b := by
      intro hda hg
      unfold eqG at hg
      split at hg
      · rename_i xs ys
        split at hg
        · rename_i ls hls
          split at hg
          · rename_i l1 l2
            have l1 := Nat.eq_of_beq_eq_true l1
            have l2 := Nat.eq_of_beq_eq_true l2
            obtain ⟨_, vs, hvs, rfl⟩ := conc_agg_inv hx
            obtain ⟨_, us, hus, rfl⟩ := conc_agg_inv hy
            obtain ⟨hgt, hlt, hlen⟩ := ti.leaves ls hls
            have hpre := eqPre_of hg
            have hv : ∀ (Z : List Value), Z.length = ls.length → valOf P t ls.length Z = .agg ⟨Z⟩ := by
              intro Z hz
              unfold valOf
              rw [hd]
              rcases hda with ⟨a, rfl⟩ | ⟨n, e, rfl⟩ <;> simp only <;> rw [List.take_of_length_le (by omega)]
            have hall : ∀ (w : World), (Op.equalIn 10000 t (.agg ⟨vs⟩) (.agg ⟨us⟩)).run P w = .ok b w := fun w => by
              have := equalT ok hσ 40 t ls hlt 10000 (by omega) xs ys vs us b w hvs hus hpre
              rw [hv vs (by rw [concs_length hvs, l1]), hv us (by rw [concs_length hus, l2])] at this
              exact this
            exact ⟨fun op xo yo w => run_eqGuard_agg w op t xo yo _ _ hgt, fun w => by rw [run_eql_struct, hall]; rfl, fun w => by rw [run_neq_struct, hall]; rfl⟩
          · cases hg
        · cases hg
      · cases hg
    split at h
    all_goals try (rename_i hkind; rw [hkind] at hk)
    · have := und_bool hk.symm; subst this
      unfold eqB at h
      split at h
      · cases h
        have := conc_bool hx; subst this
        have := conc_bool hy; subst this
        exact eqlRun (fun w => by simp [binOp]) (fun w => by simp [binOp]) (by simp) (by simp) (fun n w => by rw [boolEq_eq]; exact eqIn_bool n t _ _ hd w)
      · cases h
    · have := und_ptr hk.symm; subst this
      unfold eqP at h
      split at h
      · cases h
        cases (Option.some.inj hx : Value.pointer none = X); cases (Option.some.inj hy : Value.pointer none = Y)
        exact eqlRun (fun w => by simp [binOp]) (fun w => by simp [binOp]) (by simp) (by simp) (fun n w => eqIn_ptr0 n t _ _ hd w)
      · cases h
        obtain ⟨p, _, rfl⟩ := conc_ptr hx
        cases (Option.some.inj hy : Value.pointer none = Y)
        exact eqlRun (fun w => by simp [binOp]) (fun w => by simp [binOp]) (by simp) (by simp) (fun n w => eqIn_ptr1 n t _ _ hd w)
      · cases h
        obtain ⟨p, _, rfl⟩ := conc_ptr hy
        cases (Option.some.inj hx : Value.pointer none = X)
        exact eqlRun (fun w => by simp [binOp]) (fun w => by simp [binOp]) (by simp) (by simp) (fun n w => eqIn_ptr0 n t _ _ hd w)
      · cases h
    · have := und_slice hk.symm; subst this
      unfold eqS at h
      split at h
      · cases h
        cases (Option.some.inj hx : Value.slice none 0 0 = X); cases (Option.some.inj hy : Value.slice none 0 0 = Y)
        exact eqlRun (fun w => by simp [binOp]) (fun w => by simp [binOp]) (by simp) (by simp) (fun n w => eqIn_sl0 n t _ _ _ _ _ _ hd w)
      · cases h
        obtain ⟨p, _, rfl, _⟩ := conc_slice hx
        cases (Option.some.inj hy : Value.slice none 0 0 = Y)
        exact eqlRun (fun w => by simp [binOp]) (fun w => by simp [binOp]) (by simp) (by simp) (fun n w => eqIn_sl1 n t _ _ _ _ _ _ hd w)
      · cases h
        obtain ⟨p, _, rfl, _⟩ := conc_slice hy
        cases (Option.some.inj hx : Value.slice none 0 0 = X)
        exact eqlRun (fun w => by simp [binOp]) (fun w => by simp [binOp]) (by simp) (by simp) (fun n w => eqIn_sl0 n t _ _ _ _ _ _ hd w)
      · cases h
        obtain ⟨a, l, c, rfl⟩ := conc_tail hx
        cases (Option.some.inj hy : Value.slice none 0 0 = Y)
        exact eqlRun (fun w => by simp [binOp]) (fun w => by simp [binOp]) (by simp) (by simp) (fun n w => eqIn_sl1 n t _ _ _ _ _ _ hd w)
      · cases h
        obtain ⟨a, l, c, rfl⟩ := conc_tail hy
        cases (Option.some.inj hx : Value.slice none 0 0 = X)
        exact eqlRun (fun w => by simp [binOp]) (fun w => by simp [binOp]) (by simp) (by simp) (fun n w => eqIn_sl0 n t _ _ _ _ _ _ hd w)
      · cases h
    · have := und_map hk.symm; subst this
      unfold eqM at h
      split at h
      · cases h
        cases (Option.some.inj hx : Value.map none = X); cases (Option.some.inj hy : Value.map none = Y)
        exact eqlRun (fun w => by simp [binOp]) (fun w => by simp [binOp]) (by simp) (by simp) (fun n w => eqIn_map0 n t _ _ _ hd w)
      · cases h
        obtain ⟨p, _, rfl⟩ := conc_map hx
        cases (Option.some.inj hy : Value.map none = Y)
        exact eqlRun (fun w => by simp [binOp]) (fun w => by simp [binOp]) (by simp) (by simp) (fun n w => eqIn_map1 n t _ _ _ hd w)
      · cases h
        obtain ⟨p, _, rfl⟩ := conc_map hy
        cases (Option.some.inj hx : Value.map none = X)
        exact eqlRun (fun w => by simp [binOp]) (fun w => by simp [binOp]) (by simp) (by simp) (fun n w => eqIn_map0 n t _ _ _ hd w)
      · cases h
    · obtain ⟨q1, q2, q3, rfl⟩ := und_func hk.symm
      unfold eqF at h
      split at h
      · cases h
        cases (Option.some.inj hx : Value.nilFunc = X); cases (Option.some.inj hy : Value.nilFunc = Y)
        exact eqlRun (fun w => by simp [binOp]) (fun w => by simp [binOp]) (by simp) (by simp) (fun n w => eqIn_fn0 n t hd w)
      · cases h
        obtain ⟨a', b', _, _, rfl⟩ := conc_fn hx
        cases (Option.some.inj hy : Value.nilFunc = Y)
        exact eqlRun (fun w => by simp [binOp]) (fun w => by simp [binOp]) (by simp) (by simp) (fun n w => eqIn_fn2 n t _ _ _ hd w)
      · cases h
        obtain ⟨a', b', _, _, rfl⟩ := conc_fn hy
        cases (Option.some.inj hx : Value.nilFunc = X)
        exact eqlRun (fun w => by simp [binOp]) (fun w => by simp [binOp]) (by simp) (by simp) (fun n w => eqIn_fn1 n t _ _ _ hd w)
      · cases h
    · obtain ⟨a, rfl, _⟩ := und_strct hk.symm
      exact agg (.inl ⟨a, rfl⟩) h
    · have := und_arr hk.symm; subst this
      exact agg (.inr ⟨_, _, rfl⟩) h
    · cases h
  · cases h
end Go.Abs

namespace Go.Abs
open Go.RowKit

theorem conc_ptr_mk {E : Env} {i : Nat} {p : Pl} (hp : E.φ i = some p) {off : Nat} : conc E (.ptr i off) = some (.pointer (some ⟨p.block, p.off + off, none⟩)) := by simp [conc, hp]
theorem conc_slice_mk {E : Env} {i : Nat} {p : Pl} (hp : E.φ i = some p) {off eo len : Nat} {cap : Option Nat} (hl : len ≤ capOf p eo cap) : conc E (.slice i off eo len cap) = some (.slice (some ⟨p.block, p.off + off, none⟩) len (capOf p eo cap)) := by simp [conc, hp, hl]
theorem conc_map_mk {E : Env} {i : Nat} {p : Pl} (hp : E.φ i = some p) : conc E (.map i) = some (.map (some p.block)) := by simp [conc, hp]

/-- a value is given, whatever the world, which stays -/
def Gives (P : Program) (s : Sem Value) (V : Value) : Prop := ∀ w, s.run P w = .ok V w

theorem bin_run {P : Program} {op : BinOp} {t : Nat} {X Y V : Value} (h1 : X ≠ .nilIface) (h2 : ∀ c, X ≠ .agg c) (hr : ∀ w, (binOp op t X Y).run P w = .ok V w) : ∀ xo yo, Gives P (do eqGuard op t xo yo X Y; binOp op t X Y) V := fun xo yo w => by
  rw [Sem.run_bind, run_eqGuard_plain op t xo yo X Y h1 h2 w, Result.andThen_ok, hr]

theorem binSS_sound {P : Program} {σ : Val} {cx : Cx} (ok : CxOK P σ cx) {E : Env} (hσ : E.σ = σ) {op : BinOp} {a b : List AV} {x y : List UInt8} {v : AV} (h : binSS cx.facts op a b = some v) (hx : bytesC σ a = some x) (hy : bytesC σ b = some y) :
    ∃ V, conc E v = some V ∧ ∀ w t, (binOp op t (.string ⟨x.toArray⟩) (.string ⟨y.toArray⟩)).run P w = .ok V w := by
  have base : ∀ r, r = (x == y) → (strEq x y) = r := fun r hr => by rw [strEq_eq, hr]
  unfold binSS at h
  split at h
  · split at h
    · rename_i r hr
      cases h
      have := base _ (eqStrL_sound ok hσ hr hx hy)
      obtain ⟨V, hV, hrun⟩ := binStr_sound (P := P) (op := .eql) (a := x) (b := y) (v := .bool r) (by simp [binStr, this]) E
      exact ⟨V, hV, hrun⟩
    · cases h
  · split at h
    · rename_i r hr
      cases h
      have := base _ (eqStrL_sound ok hσ hr hx hy)
      obtain ⟨V, hV, hrun⟩ := binStr_sound (P := P) (op := .neq) (a := x) (b := y) (v := .bool !r) (by simp [binStr, this]) E
      exact ⟨V, hV, hrun⟩
    · cases h
  · cases h

theorem bin_sound {P : Program} {σ : Val} {cx : Cx} (ok : CxOK P σ cx) {op : BinOp} {t : Nat} {x y v : AV} (h : bin cx op t x y = some v) {E : Env} (hσ : E.σ = σ) {X Y : Value}
    (hx : conc E x = some X) (hy : conc E y = some Y) : ∃ V, conc E v = some V ∧ ∀ xo yo, Gives P (do eqGuard op t xo yo X Y; binOp op t X Y) V := by
  unfold bin at h
  split at h
  · have := conc_int hx; subst this
    have := conc_int hy; subst this
    obtain ⟨V, hV, hr⟩ := binInt_sound (P := P) h E
    exact ⟨V, hV, bin_run (by simp) (by simp) (fun w => hr w t)⟩
  · have := conc_str hx; subst this
    have := conc_str hy; subst this
    obtain ⟨V, hV, hr⟩ := binStr_sound (P := P) h E
    exact ⟨V, hV, bin_run (by simp) (by simp) (fun w => hr w t)⟩
  · obtain ⟨a, ha, rfl⟩ := conc_sstr hx
    obtain ⟨b, hb, rfl⟩ := conc_sstr hy
    rw [hσ] at ha hb
    obtain ⟨V, hV, hr⟩ := binSS_sound (P := P) ok hσ h ha hb
    exact ⟨V, hV, bin_run (by simp) (by simp) (fun w => hr w t)⟩
  · obtain ⟨a, ha, rfl⟩ := conc_sstr hx
    have := conc_str hy; subst this
    rw [hσ] at ha
    obtain ⟨V, hV, hr⟩ := binSS_sound (P := P) ok hσ h ha (bytesC_byteAs _ _)
    exact ⟨V, hV, bin_run (by simp) (by simp) (fun w => hr w t)⟩
  · obtain ⟨b, hb, rfl⟩ := conc_sstr hy
    have := conc_str hx; subst this
    rw [hσ] at hb
    obtain ⟨V, hV, hr⟩ := binSS_sound (P := P) ok hσ h (bytesC_byteAs _ _) hb
    exact ⟨V, hV, bin_run (by simp) (by simp) (fun w => hr w t)⟩
  · obtain ⟨V, hV, hr⟩ := findF_sound ok h hσ hx hy
    have := conc_sym hx; subst this
    exact ⟨V, hV, bin_run (by simp) (by simp) (fun w => hr w t)⟩
  · obtain ⟨V, hV, hr⟩ := findF_sound ok h hσ hx hy
    refine ⟨V, hV, ?_⟩
    have hX : X ≠ .nilIface ∧ ∀ c, X ≠ .agg c := by
      obtain ⟨f, hf, h1, h2, h3, h4⟩ := findF_eq h
      have key : ∀ {fx : List Fact} {a b r : AV}, findF op a b fx = some r → ((∃ k n, a = .int k n) ∨ (∃ k n, a = .sym k n) ∨ ∃ j, a = .opq j) := by
        intro fx
        induction fx with
        | nil => intro a b r hh; simp [findF] at hh
        | cons g fx ih =>
          intro a b r hh
          simp only [findF] at hh
          split at hh
          · rename_i q1 q2 q3; exact (sameSym_eq q2).2
          · exact ih hh
      rcases key h with ⟨k, n, rfl⟩ | ⟨k, n, rfl⟩ | ⟨j, rfl⟩
      · rw [conc_int hx]; exact ⟨by simp, by simp⟩
      · rw [conc_sym hx]; exact ⟨by simp, by simp⟩
      · exact conc_opq_inv hx
    exact bin_run hX.1 hX.2 (fun w => hr w t)
  · obtain ⟨V, hV, hr⟩ := findF_sound ok h hσ hx hy
    have hX := conc_opq_inv hx
    exact ⟨V, hV, bin_run hX.1 hX.2 (fun w => hr w t)⟩
  · obtain ⟨V, hV, hr⟩ := findF_sound ok h hσ hx hy
    refine ⟨V, hV, ?_⟩
    have hX : X ≠ .nilIface ∧ ∀ c, X ≠ .agg c := by
      have key : ∀ {fx : List Fact} {a b r : AV}, findF op a b fx = some r → ((∃ k n, a = .int k n) ∨ (∃ k n, a = .sym k n) ∨ ∃ j, a = .opq j) := by
        intro fx
        induction fx with
        | nil => intro a b r hh; simp [findF] at hh
        | cons g fx ih =>
          intro a b r hh
          simp only [findF] at hh
          split at hh
          · rename_i q1 q2 q3; exact (sameSym_eq q2).2
          · exact ih hh
      rcases key h with ⟨k, n, rfl⟩ | ⟨k, n, rfl⟩ | ⟨j, rfl⟩
      · rw [conc_int hx]; exact ⟨by simp, by simp⟩
      · rw [conc_sym hx]; exact ⟨by simp, by simp⟩
      · exact conc_opq_inv hx
    exact bin_run hX.1 hX.2 (fun w => hr w t)
  · split at h
    · unfold mkO at h
      split at h
      · rename_i b hb
        cases h
        obtain ⟨h1, h2, h3⟩ := eqT_sound ok hb hσ hx hy
        exact ⟨.bool b, rfl, fun xo yo w => by rw [Sem.run_bind, h1 _ xo yo w, Result.andThen_ok, h2]⟩
      · cases h
    · unfold notO at h
      split at h
      · rename_i b hb
        cases h
        obtain ⟨h1, h2, h3⟩ := eqT_sound ok hb hσ hx hy
        exact ⟨.bool (!b), rfl, fun xo yo w => by rw [Sem.run_bind, h1 _ xo yo w, Result.andThen_ok, h3]⟩
      · cases h
    · cases h

theorem unO_sound {P : Program} {op : UnOp} {x v : AV} (h : unO op x = some v) {E : Env} {X : Value} (hx : conc E x = some X) : ∃ V, conc E v = some V ∧ Gives P (Op.unary op X) V := by
  unfold unO at h
  split at h
  · cases h
    have := conc_bool hx; subst this
    exact ⟨_, rfl, fun w => by simp [Op.unary]⟩
  · cases h
    have := conc_int hx; subst this
    exact ⟨_, rfl, fun w => by simp [Op.unary, Op.intArith]⟩
  · cases h

theorem nat?_sound {x : AV} {n : Nat} (h : nat? x = some n) {E : Env} {X : Value} (hx : conc E x = some X) : ∃ k, X = .int k n := by
  unfold nat? at h
  split at h
  · cases h; exact ⟨_, conc_int hx⟩
  · cases h

theorem part_sound {P : Program} {σ : Val} {cx : Cx} (ok : CxOK P σ cx) {u o : Nat} {cs : List AV} {v : AV} (h : partA cx u cs o = some v) {E : Env} {vs : List Value} (ha : cs.all AV.atom = true)
    (hc : concs E cs = some vs) : ∃ V, conc E v = some V ∧ Gives P (part u ⟨vs⟩ o) V := by
  unfold partA at h
  split at h
  · rename_i ty hty
    have ti := TI.of ok hty
    obtain ⟨ti', z, hi, _, hs, _, _⟩ := ti.info
    obtain ⟨d, hd, hk, hag⟩ := ti.und
    have hsz : P.cellsOf u = ty.size := by simp [Program.cellsOf, hi, hs]
    split at h
    · rename_i hagg
      split at h
      · rename_i l hl
        cases h
        obtain ⟨hle, rfl⟩ := slice1_eq hl
        have hcl := concs_take (concs_drop hc o) ty.size
        refine ⟨_, conc_agg (by rw [List.all_eq_true] at ha ⊢; exact fun x hx => ha x (List.mem_of_mem_drop (List.mem_of_mem_take hx))) hcl, fun w => ?_⟩
        have : isAggD d = true := by rw [← hag]; exact hagg
        rw [run_part w hd _ _ (by rw [this]; simp), hsz]
        congr 1
        unfold valOf
        rw [hd]
        cases d <;> simp [isAggD] at this <;> rfl
      · cases h
    · rename_i hagg
      rw [nth_eq] at h
      obtain ⟨V, hV, hcV⟩ := concs_get hc o v h
      refine ⟨V, hcV, fun w => ?_⟩
      have hf : isAggD d = false := by rw [← hag]; exact hagg
      have hlt : o < vs.length := by
        rcases Nat.lt_or_ge o vs.length with h' | h'
        · exact h'
        · rw [List.getElem?_eq_none h'] at hV; cases hV
      rw [run_part w hd _ _ (fun _ => by simpa using hlt)]
      congr 1
      unfold valOf
      rw [hd]
      have : (List.drop o vs).headD undef = V := by
        rw [List.headD_eq_head?_getD, List.head?_drop, hV]; rfl
      cases d <;> simp [isAggD] at hf <;> exact this
  · cases h

theorem fields_at {P : Program} {a : Array Field} {f : Nat} {x : Nat × Nat × Nat} (h : nth (a.toList.map fun f => (f.offset, f.type, P.cellsOf f.type)) f = some x) :
    ∃ g, a[f]? = some g ∧ x = (g.offset, g.type, P.cellsOf g.type) := by
  rw [nth_eq, List.getElem?_map] at h
  simp only [Option.map_eq_some_iff] at h
  obtain ⟨g, hg, rfl⟩ := h
  exact ⟨g, by simpa using hg, rfl⟩

theorem fldA_sound {P : Program} {σ : Val} {cx : Cx} (ok : CxOK P σ cx) {t f : Nat} {x v : AV} (h : fldA cx t f x = some v) {E : Env} {X : Value}
    (hx : conc E x = some X) : ∃ V, conc E v = some V ∧ Gives P (Instr.field t X f) V := by
  unfold fldA at h
  split at h
  · rename_i cs i hi
    have ti := TI.of ok hi
    obtain ⟨d, hd, hk, hag⟩ := ti.und
    split at h
    · rename_i fs hfs
      rw [hfs] at hk
      obtain ⟨a, rfl, rfl⟩ := und_strct hk.symm
      split at h
      · rename_i o u n hn
        obtain ⟨g, hg, he⟩ := fields_at hn
        cases he
        obtain ⟨hat, vs, hvs, rfl⟩ := conc_agg_inv hx
        obtain ⟨V, hV, hr⟩ := part_sound ok h hat hvs
        exact ⟨V, hV, fun w => by
          have hr := hr w
          simp only [Instr.field, Sem.run_bind, run_underlying hd, Result.andThen_ok, hg, asAgg, Sem.run_pure, hr]⟩
      · cases h
    · cases h
  · cases h

theorem add_addr (b o n : Nat) : (⟨b, o, none⟩ : Addr).add n = ⟨b, o + n, none⟩ := by
  unfold Addr.add
  split
  · rename_i h; subst h; rfl
  · rfl

theorem lptr_off {E : Env} {j es : Nat} {c : Bool} {n off o : Nat} {X : Value} (h : conc E (.lptr j es c n off) = some X) : ∃ ad : Addr, lptrC E.σ j es c n (off + o) = some (.pointer (some (ad.add o))) ∧ X = .pointer (some ad) := by
  simp only [conc, lptrC] at h ⊢
  split at h
  · split at h
    · rename_i hc
      cases h
      exact ⟨_, by rw [if_pos hc, add_addr]; simp only [Nat.add_assoc], rfl⟩
    · cases h
  · cases h
theorem isT_inv {x : Option AV} (h : isT x = true) : x = some (.bool true) := by
  unfold isT at h
  split at h
  · subst h; rfl
  · cases h
theorem lss_fact {P : Program} {σ : Val} {cx : Cx} (ok : CxOK P σ cx) {x y : AV} (h : isT (findF .lss x y cx.facts) = true) {E : Env} (hσ : E.σ = σ) {k j : IntKind} {a b : Int} (hx : conc E x = some (.int k a)) (hy : conc E y = some (.int j b)) : a < b := by
  obtain ⟨R, hR, hr⟩ := findF_sound ok (isT_inv h) hσ hx hy
  have := conc_bool hR; subst this
  have hr := hr default 0
  by_cases hk : k = j
  · subst hk
    simpa [binOp, Op.intCmp] using hr
  · simp [binOp, hk] at hr
theorem geq_fact {P : Program} {σ : Val} {cx : Cx} (ok : CxOK P σ cx) {x y : AV} (h : isT (findF .geq x y cx.facts) = true) {E : Env} (hσ : E.σ = σ) {k j : IntKind} {a b : Int} (hx : conc E x = some (.int k a)) (hy : conc E y = some (.int j b)) : b ≤ a := by
  obtain ⟨R, hR, hr⟩ := findF_sound ok (isT_inv h) hσ hx hy
  have := conc_bool hR; subst this
  have hr := hr default 0
  by_cases hk : k = j
  · subst hk
    simpa [binOp, Op.intCmp] using hr
  · simp [binOp, hk] at hr
theorem findLen_mem {j : Nat} {r : AV} : ∀ {l : List FLen}, findLen j l = some r → ∃ f ∈ l, f.j = j ∧ f.r = r
  | [], h => by simp [findLen] at h
  | f :: l, h => by
    simp only [findLen] at h
    split at h
    · rename_i e; cases h; exact ⟨f, by simp, (Nat.eq_of_beq_eq_true e).symm, rfl⟩
    · obtain ⟨g, hg, r⟩ := findLen_mem h; exact ⟨g, by simp [hg], r⟩
theorem findRead_mem {j es : Nat} {c : Bool} {n : Nat} {cs : List AV} : ∀ {l : List FRead}, findRead j es c n l = some cs → ∃ f ∈ l, f.j = j ∧ f.es = es ∧ f.c = c ∧ f.n = n ∧ f.cells = cs
  | [], h => by simp [findRead] at h
  | f :: l, h => by
    simp only [findRead] at h
    split at h
    · rename_i e1 e2 e3 e4
      cases h
      rw [boolEq_eq] at e3
      exact ⟨f, by simp, (Nat.eq_of_beq_eq_true e1).symm, (Nat.eq_of_beq_eq_true e2).symm, (by simpa using Eq.symm (of_decide_eq_true (by simpa using e3) : c = f.c)), (Nat.eq_of_beq_eq_true e4).symm, rfl⟩
    · obtain ⟨g, hg, r⟩ := findRead_mem h; exact ⟨g, by simp [hg], r⟩
theorem listAddr_sound {P : Program} {σ : Val} {cx : Cx} (ok : CxOK P σ cx) {j es : Nat} {ix v : AV} (h : listAddr cx.facts cx.lens j es ix = some v) {E : Env} (hσ : E.σ = σ) {X IX : Value} (hx : conc E (.opq j) = some X) (hix : conc E ix = some IX) :
    ∃ (b o len cap : Nat) (kk : IntKind) (n : Int), X = .slice (some ⟨b, o, none⟩) len cap ∧ IX = .int kk n ∧ 0 ≤ n ∧ n < (len : Int) ∧ conc E v = some (.pointer (some ⟨b, o + n.toNat * es, none⟩)) := by
  unfold listAddr at h
  split at h
  case h_2 => cases h
  rename_i len hlen
  split at h
  case h_2 => cases h
  rename_i hin
  obtain ⟨f, hf, rfl, rfl⟩ := findLen_mem hlen
  obtain ⟨a, m, c, hop, hnil, hspot, hm⟩ := ok.lens f hf
  have hX := (conc_opq hx).2
  rw [hσ, hop] at hX
  subst hX
  have hm := hm E hσ
  have slot : ∀ (n : Int), 0 ≤ n → n < (m : Int) → ∃ b o, a = some ⟨b, o, none⟩ := fun n h0 h1 => by
    cases a with
    | none => have := hnil rfl; omega
    | some ad =>
      obtain ⟨b, o, sp⟩ := ad
      have := hspot (by omega) _ rfl
      simp only at this; subst this
      exact ⟨b, o, rfl⟩
  have hop' : ∀ b o, a = some ⟨b, o, none⟩ → E.σ.opq f.j = .slice (some ⟨b, o, none⟩) m c := fun b o e => by rw [hσ, hop, e]
  split at h
  · rename_i k n
    cases h
    have e := conc_int hix; subst e
    have hlt : (n : Int) < (m : Int) := by
      unfold inList at hin
      simp only at hin
      split at hin
      · rename_i k2 m2 heq
        rw [heq] at hm
        have := conc_int hm
        simp only [Value.int.injEq] at this
        rw [natBlt_eq] at hin
        have hin : n < m2 := by simpa using hin
        have h2 := this.2
        simp only [Int.ofNat_eq_natCast] at h2
        omega
      · exact lss_fact ok hin hσ (show conc E (.int k (Int.ofNat n)) = _ from rfl) hm
    obtain ⟨b, o, rfl⟩ := slot n (by omega) hlt
    refine ⟨b, o, m, c, k, n, rfl, rfl, by omega, hlt, ?_⟩
    simp only [conc, lptrC, hop' b o rfl, ixV]
    rw [if_pos ⟨by simp, by simpa using hlt, trivial⟩]
    simp
  · rename_i s
    cases h
    have e := conc_sym hix; subst e
    unfold inList at hin
    simp only at hin
    split at hin
    case h_2 => cases hin
    rename_i hg
    have h0 := geq_fact ok hg hσ hix (show conc E (.int .i64 0) = _ from rfl)
    have hlt := lss_fact ok hin hσ hix hm
    obtain ⟨b, o, rfl⟩ := slot _ h0 hlt
    refine ⟨b, o, m, c, .i64, E.σ.num s, rfl, rfl, h0, hlt, ?_⟩
    simp only [conc, lptrC, hop' b o rfl, ixV]
    rw [if_pos ⟨by simpa using h0, by simpa using hlt, trivial⟩]
    simp
  · cases h

theorem fldAddr_sound {P : Program} {σ : Val} {cx : Cx} (ok : CxOK P σ cx) {t f : Nat} {x v : AV} (h : fldAddr cx t f x = some v) {E : Env} {X : Value}
    (hx : conc E x = some X) : ∃ V, conc E v = some V ∧ Gives P (Instr.fieldAt t X f) V := by
  unfold fldAddr at h
  split at h
  · rename_i i off ty hi
    have ti := TI.of ok hi
    obtain ⟨d, hd, hk, hag⟩ := ti.und
    split at h
    · rename_i fs hfs
      rw [hfs] at hk
      obtain ⟨a, rfl, rfl⟩ := und_strct hk.symm
      split at h
      · rename_i o u n hn
        obtain ⟨g, hg, he⟩ := fields_at hn
        simp only [Prod.mk.injEq] at he
        obtain ⟨rfl, rfl, rfl⟩ := he
        split at h
        · cases h
        · rename_i hne
          cases h
          obtain ⟨p, hp, rfl⟩ := conc_ptr hx
          refine ⟨_, conc_ptr_mk hp, fun w => ?_⟩
          have hinf : ∃ gi, P.info? g.type = some gi := by
            cases hgi : P.info? g.type with
            | some gi => exact ⟨gi, rfl⟩
            | none => exact absurd (by simp [Program.cellsOf, hgi]) hne
          obtain ⟨gi, hgi⟩ := hinf
          have hne' : P.cellsOf g.type ≠ 0 := hne
          simp only [Instr.fieldAt, Sem.run_bind, run_underlying hd, Result.andThen_ok, hg, Instr.sureAddr, Sem.run_pure, fieldPlace, run_sizeOf w hgi, Sem.run_ite, if_neg hne', add_addr, Nat.add_assoc]
      · cases h
    · cases h
  · rename_i i off ty hi
    have ti := TI.of ok hi
    obtain ⟨d, hd, hk, hag⟩ := ti.und
    split at h
    · rename_i fs hfs
      rw [hfs] at hk
      obtain ⟨a, rfl, rfl⟩ := und_strct hk.symm
      split at h
      · rename_i o u n hn
        obtain ⟨g, hg, he⟩ := fields_at hn
        simp only [Prod.mk.injEq] at he
        obtain ⟨rfl, rfl, rfl⟩ := he
        split at h
        · cases h
        · rename_i hne
          cases h
          simp only [conc, Option.some.injEq] at hx
          subst hx
          refine ⟨_, rfl, fun w => ?_⟩
          have hinf : ∃ gi, P.info? g.type = some gi := by
            cases hgi : P.info? g.type with
            | some gi => exact ⟨gi, rfl⟩
            | none => exact absurd (by simp [Program.cellsOf, hgi]) hne
          obtain ⟨gi, hgi⟩ := hinf
          have hne' : P.cellsOf g.type ≠ 0 := hne
          simp only [Instr.fieldAt, Sem.run_bind, run_underlying hd, Result.andThen_ok, hg, Instr.sureAddr, Sem.run_pure, fieldPlace, run_sizeOf w hgi, Sem.run_ite, if_neg hne', add_addr, Nat.add_assoc]
      · cases h
    · cases h
  · rename_i j es c m off ty hi
    have ti := TI.of ok hi
    obtain ⟨d, hd, hk, hag⟩ := ti.und
    split at h
    · rename_i fs hfs
      rw [hfs] at hk
      obtain ⟨a, rfl, rfl⟩ := und_strct hk.symm
      split at h
      · rename_i o u n hn
        obtain ⟨g, hg, he⟩ := fields_at hn
        simp only [Prod.mk.injEq] at he
        obtain ⟨rfl, rfl, rfl⟩ := he
        split at h
        · cases h
        · rename_i hne
          cases h
          obtain ⟨ad, hl, rfl⟩ : ∃ ad : Addr, lptrC E.σ j es c m (off + g.offset) = some (.pointer (some (ad.add g.offset))) ∧ X = .pointer (some ad) := lptr_off hx
          refine ⟨_, hl, fun w => ?_⟩
          have hinf : ∃ gi, P.info? g.type = some gi := by
            cases hgi : P.info? g.type with
            | some gi => exact ⟨gi, rfl⟩
            | none => exact absurd (by simp [Program.cellsOf, hgi]) hne
          obtain ⟨gi, hgi⟩ := hinf
          have hne' : P.cellsOf g.type ≠ 0 := hne
          simp only [Instr.fieldAt, Sem.run_bind, run_underlying hd, Result.andThen_ok, hg, Instr.sureAddr, Sem.run_pure, fieldPlace, run_sizeOf w hgi, Sem.run_ite, if_neg hne', add_addr, Nat.add_assoc]
      · cases h
    · cases h
  · cases h

theorem run_asIntOf {P : Program} (k : IntKind) (n : Int) (w : World) : (asIntOf (.int k n)).run P w = .ok (k, n) w := rfl

theorem ixAddr0_sound {P : Program} {σ : Val} {cx : Cx} (ok : CxOK P σ cx) {t : Nat} {x ix v : AV} (h : ixAddr0 cx t x ix = some v) {E : Env} {X IX : Value}
    (hx : conc E x = some X) (hix : conc E ix = some IX) : ∃ V, conc E v = some V ∧ Gives P (Instr.indexAt t X IX) V := by
  unfold ixAddr0 at h
  split at h
  · rename_i k i hk hi
    obtain ⟨kk, rfl⟩ := nat?_sound hk hix
    have ti := TI.of ok hi
    obtain ⟨d, hd, hkd, hag⟩ := ti.und
    split at h
    · rename_i i' off eo len cap e he
      rw [he] at hkd
      have := und_slice hkd.symm; subst this
      split at h
      · rename_i ty hlt hty
        cases h
        rw [natBlt_eq] at hlt
        have hlt : k < len := by simpa using hlt
        have te := TI.of ok hty
        obtain ⟨ei, z, hei, _, hs, _, _⟩ := te.info
        obtain ⟨p, hp, rfl, _⟩ := conc_slice hx
        have hsz : P.cellsOf e = ty.size := by simp [Program.cellsOf, hei, hs]
        refine ⟨_, conc_ptr_mk hp, fun w => ?_⟩
        have c1 : (0 : Int) ≤ k ∧ (k : Int) < len := by omega
        simp only [Instr.indexAt, Sem.run_bind, run_asIntOf, Result.andThen_ok, run_underlying hd, Sem.run_pure, if_pos c1, run_sizeOf w hei, hsz, Int.toNat_natCast, add_addr, Nat.add_assoc]
      · cases h
    · rename_i i' off n e he
      rw [he] at hkd
      have := und_arr hkd.symm; subst this
      split at h
      · rename_i ty hlt hty
        cases h
        rw [natBlt_eq] at hlt
        have hlt : k < n := by simpa using hlt
        have te := TI.of ok hty
        obtain ⟨ei, z, hei, _, hs, _, _⟩ := te.info
        obtain ⟨p, hp, rfl⟩ := conc_ptr hx
        have hsz : P.cellsOf e = ty.size := by simp [Program.cellsOf, hei, hs]
        refine ⟨_, conc_ptr_mk hp, fun w => ?_⟩
        have c1 : (0 : Int) ≤ k ∧ (k : Int) < n := by omega
        simp only [Instr.indexAt, Sem.run_bind, run_asIntOf, Result.andThen_ok, run_underlying hd, Instr.sureAddr, Sem.run_pure, if_pos c1, run_sizeOf w hei, hsz, Int.toNat_natCast, add_addr, Nat.add_assoc]
      · cases h
    · rename_i i' off n e he
      rw [he] at hkd
      have := und_arr hkd.symm; subst this
      split at h
      · rename_i ty hlt hty
        cases h
        rw [natBlt_eq] at hlt
        have hlt : k < n := by simpa using hlt
        have te := TI.of ok hty
        obtain ⟨ei, z, hei, _, hs, _, _⟩ := te.info
        simp only [conc, Option.some.injEq] at hx
        subst hx
        have hsz : P.cellsOf e = ty.size := by simp [Program.cellsOf, hei, hs]
        refine ⟨_, rfl, fun w => ?_⟩
        have c1 : (0 : Int) ≤ k ∧ (k : Int) < n := by omega
        simp only [Instr.indexAt, Sem.run_bind, run_asIntOf, Result.andThen_ok, run_underlying hd, Instr.sureAddr, Sem.run_pure, if_pos c1, run_sizeOf w hei, hsz, Int.toNat_natCast, add_addr, Nat.add_assoc]
      · cases h
    · cases h
  · cases h

theorem ixAddr_sound {P : Program} {σ : Val} {cx : Cx} (ok : CxOK P σ cx) {t : Nat} {x ix v : AV} (h : ixAddr cx t x ix = some v) {E : Env} (hσ : E.σ = σ) {X IX : Value}
    (hx : conc E x = some X) (hix : conc E ix = some IX) : ∃ V, conc E v = some V ∧ Gives P (Instr.indexAt t X IX) V := by
  unfold ixAddr at h
  split at h
  · rename_i j
    split at h
    case h_2 => cases h
    rename_i i hi
    have ti := TI.of ok hi
    obtain ⟨d, hd, hkd, hag⟩ := ti.und
    split at h
    case h_2 => cases h
    rename_i e he
    rw [he] at hkd
    have := und_slice hkd.symm; subst this
    split at h
    case h_2 => cases h
    rename_i ty hty
    have te := TI.of ok hty
    obtain ⟨ei, z, hei, _, hs, _, _⟩ := te.info
    have hsz : P.cellsOf e = ty.size := by simp [Program.cellsOf, hei, hs]
    obtain ⟨b, o, len, cap, kk, n, rfl, rfl, h0, hlt, hv⟩ := listAddr_sound ok h hσ hx hix
    refine ⟨_, hv, fun w => ?_⟩
    have c1 : (0 : Int) ≤ n ∧ n < len := ⟨h0, hlt⟩
    simp only [Instr.indexAt, Sem.run_bind, run_asIntOf, Result.andThen_ok, run_underlying hd, Sem.run_pure, if_pos c1, run_sizeOf w hei, hsz, add_addr]
  · exact ixAddr0_sound ok h hx hix

theorem ixA_sound {P : Program} {σ : Val} {cx : Cx} (ok : CxOK P σ cx) {t : Nat} {x ix v : AV} (h : ixA cx t x ix = some v) {E : Env} {X IX : Value}
    (hx : conc E x = some X) (hix : conc E ix = some IX) : ∃ V, conc E v = some V ∧ Gives P (Instr.index t X IX) V := by
  unfold ixA at h
  split at h
  · rename_i k i hk hi
    obtain ⟨kk, rfl⟩ := nat?_sound hk hix
    have ti := TI.of ok hi
    obtain ⟨d, hd, hkd, hag⟩ := ti.und
    split at h
    · rename_i cs n e he
      rw [he] at hkd
      have := und_arr hkd.symm; subst this
      split at h
      · rename_i ty hlt hty
        rw [natBlt_eq] at hlt
        have hlt : k < n := by simpa using hlt
        have te := TI.of ok hty
        obtain ⟨ei, z, hei, _, hs, _, _⟩ := te.info
        have hsz : P.cellsOf e = ty.size := by simp [Program.cellsOf, hei, hs]
        obtain ⟨hat, vs, hvs, rfl⟩ := conc_agg_inv hx
        obtain ⟨V, hV, hr⟩ := part_sound ok h hat hvs
        refine ⟨V, hV, fun w => ?_⟩
        have c1 : (0 : Int) ≤ k ∧ (k : Int) < n := by omega
        have hr := hr w
        simp only [Instr.index, Sem.run_bind, run_asIntOf, Result.andThen_ok, run_underlying hd, if_pos c1, run_sizeOf w hei, hsz, Int.toNat_natCast, hr]
      · cases h
    · rename_i s he
      rw [he] at hkd
      have := und_str hkd.symm; subst this
      split at h
      · rename_i b hb
        cases h
        have := conc_str hx; subst this
        rw [nth_eq] at hb
        refine ⟨_, rfl, fun w => ?_⟩
        have c0 : (0 : Int) ≤ k := by omega
        have hk' : k < s.length := by
          rcases Nat.lt_or_ge k s.length with h' | h'
          · exact h'
          · rw [List.getElem?_eq_none h'] at hb; cases hb
        have hb' : (⟨s.toArray⟩ : ByteArray)[k]? = some b := by
          rw [List.getElem?_eq_getElem hk', Option.some.injEq] at hb
          have h1 : k < (⟨s.toArray⟩ : ByteArray).size := hk'
          rw [getElem?_pos (⟨s.toArray⟩ : ByteArray) k h1, ← hb]
          rfl
        simp only [Instr.index, Sem.run_bind, run_asIntOf, Result.andThen_ok, run_underlying hd, if_pos c0, Int.toNat_natCast, hb', Sem.run_pure]
        rfl
      · cases h
    · cases h
  · cases h

theorem extrA_sound {P : Program} {i : Nat} {x v : AV} (h : extrA i x = some v) {E : Env} {X : Value} (hx : conc E x = some X) : ∃ V, conc E v = some V ∧ Gives P (Instr.extract X i) V := by
  unfold extrA at h
  split at h
  · obtain ⟨vs, hvs, rfl⟩ := conc_tup hx
    rw [nth_eq] at h
    obtain ⟨V, hV, hc⟩ := concs_get hvs i v h
    exact ⟨V, hc, fun w => by simp [Instr.extract, hV]⟩
  · cases h

theorem selI_lt (a b x y : Int) : selI (intLt a b) x y = if a < b then x else y := by
  rw [intLt_eq]; by_cases h : a < b <;> simp [h, selI]

theorem kindE_conc {x y : AV} (h : kindE x y = true) {E : Env} {X Y : Value} (hx : conc E x = some X) (hy : conc E y = some Y) : ∃ k a b, X = .int k a ∧ Y = .int k b := by
  have num : ∀ {z : AV} {Z : Value}, conc E z = some Z → (∃ k n, z = .int k n) ∨ (∃ k n, z = .sym k n) → ∃ n, Z = .int (match z with | .int k _ => k | .sym k _ => k | _ => .i8) n := by
    rintro z Z hz (⟨k, n, rfl⟩ | ⟨k, n, rfl⟩)
    · exact ⟨n, conc_int hz⟩
    · exact ⟨_, conc_sym hz⟩
  unfold kindE at h
  split at h
  case h_5 => cases h
  all_goals
    have := kEq_iff.1 h
    subst this
    obtain ⟨a, ha⟩ := num hx (by first | exact .inl ⟨_, _, rfl⟩ | exact .inr ⟨_, _, rfl⟩)
    obtain ⟨b, hb⟩ := num hy (by first | exact .inl ⟨_, _, rfl⟩ | exact .inr ⟨_, _, rfl⟩)
    exact ⟨_, a, b, ha, hb⟩
theorem lessS_sound {P : Program} {σ : Val} {cx : Cx} (ok : CxOK P σ cx) {x y a b v : AV} (h : lessS cx.facts x y a b = some v) {E : Env} (hσ : E.σ = σ) {k : IntKind} {A B : Int} (ha : conc E a = some (.int k A)) (hb : conc E b = some (.int k B)) : v = if A < B then y else x := by
  unfold lessS at h
  split at h
  case h_2 => cases h
  have key : ∀ r, findF .lss a b cx.facts = some (.bool r) → r = decide (A < B) := by
    intro r hr
    obtain ⟨R, hR, hrun⟩ := findF_sound ok hr hσ ha hb
    have hR := conc_bool hR
    subst hR
    have e1 : binI .lss k A B = some (.bool (intLt A B)) := rfl
    obtain ⟨V, hV, hrun2⟩ := binI_sound (P := P) e1 E
    have := (hrun default 0).symm.trans (hrun2 default 0)
    have hV := conc_bool hV
    subst hV
    simp only [Result.ok.injEq, Value.bool.injEq, and_true] at this
    rw [this, intLt_eq]
  split at h
  · rename_i hr
    cases h
    have := key _ hr
    rw [if_pos (by simpa using this.symm)]
  · rename_i hr
    cases h
    have := key _ hr
    rw [if_neg (by simpa using this.symm)]
  · cases h
theorem minA_sound {P : Program} {σ : Val} {cx : Cx} (ok : CxOK P σ cx) {x y v : AV} (h : minA cx.facts x y = some v) {E : Env} (hσ : E.σ = σ) {X Y : Value} (hx : conc E x = some X) (hy : conc E y = some Y) (ts : Array TypeId) (t : TypeId) :
    ∃ V, conc E v = some V ∧ Gives P (Builtin.min_ ts t #[X, Y]) V := by
  unfold minA at h
  split at h
  · cases h
    have := conc_int hx; subst this
    have := conc_int hy; subst this
    refine ⟨_, rfl, fun w => ?_⟩
    simp only [Builtin.min_, List.foldlM, Builtin.min2, Sem.run_bind, Sem.run_pure, Result.andThen_ok, selI_lt, gt_iff_lt]
  · have hk : kindE x y = true := by
      unfold lessS at h; split at h
      · assumption
      · cases h
    obtain ⟨k, a, b, rfl, rfl⟩ := kindE_conc hk hx hy
    have hv := lessS_sound ok h hσ hy hx
    by_cases hab : b < a
    · rw [if_pos hab] at hv; subst hv
      refine ⟨_, hy, fun w => ?_⟩
      simp only [Builtin.min_, List.foldlM, Builtin.min2, Sem.run_bind, Sem.run_pure, Result.andThen_ok, gt_iff_lt, hab, if_true]
    · rw [if_neg hab] at hv; subst hv
      refine ⟨_, hx, fun w => ?_⟩
      simp only [Builtin.min_, List.foldlM, Builtin.min2, Sem.run_bind, Sem.run_pure, Result.andThen_ok, gt_iff_lt, hab, if_false]
theorem maxA_sound {P : Program} {σ : Val} {cx : Cx} (ok : CxOK P σ cx) {x y v : AV} (h : maxA cx.facts x y = some v) {E : Env} (hσ : E.σ = σ) {X Y : Value} (hx : conc E x = some X) (hy : conc E y = some Y) (ts : Array TypeId) (t : TypeId) :
    ∃ V, conc E v = some V ∧ Gives P (Builtin.max_ ts t #[X, Y]) V := by
  unfold maxA at h
  split at h
  · cases h
    have := conc_int hx; subst this
    have := conc_int hy; subst this
    refine ⟨_, rfl, fun w => ?_⟩
    simp only [Builtin.max_, List.foldlM, Builtin.max2, Sem.run_bind, Sem.run_pure, Result.andThen_ok, selI_lt, gt_iff_lt]
  · have hk : kindE x y = true := by
      unfold lessS at h; split at h
      · assumption
      · cases h
    obtain ⟨k, a, b, rfl, rfl⟩ := kindE_conc hk hx hy
    have hv := lessS_sound ok h hσ hx hy
    by_cases hab : a < b
    · rw [if_pos hab] at hv; subst hv
      refine ⟨_, hy, fun w => ?_⟩
      simp only [Builtin.max_, List.foldlM, Builtin.max2, Sem.run_bind, Sem.run_pure, Result.andThen_ok, gt_iff_lt, hab, if_true]
    · rw [if_neg hab] at hv; subst hv
      refine ⟨_, hx, fun w => ?_⟩
      simp only [Builtin.max_, List.foldlM, Builtin.max2, Sem.run_bind, Sem.run_pure, Result.andThen_ok, gt_iff_lt, hab, if_false]
end Go.Abs

namespace Go.Abs
open Go.RowKit

theorem zipIdx_fold (off : Nat) : ∀ (vs : List Value) (k : Nat) (cells : Array Value),
    ((vs.zipIdx k).foldl (fun cs (x : Value × Nat) => cs.setIfInBounds (off + x.2) x.1) cells).size = cells.size ∧
    ∀ i : Nat, ((vs.zipIdx k).foldl (fun cs (x : Value × Nat) => cs.setIfInBounds (off + x.2) x.1) cells)[i]? = if off + k ≤ i ∧ i < off + k + vs.length ∧ i < cells.size then vs[i - off - k]? else cells[i]?
  | [], k, cells => ⟨rfl, fun i => by rw [if_neg (by simp; omega)]; rfl⟩
  | v :: vs, k, cells => by
    obtain ⟨h1, h2⟩ := zipIdx_fold off vs (k + 1) (cells.setIfInBounds (off + k) v)
    simp only [List.zipIdx_cons, List.foldl_cons]
    refine ⟨by rw [h1]; simp, fun i => ?_⟩
    rw [h2]
    simp only [Array.size_setIfInBounds, List.length_cons]
    by_cases hi : i = off + k
    · subst hi
      rw [if_neg (by omega)]
      by_cases hs : off + k < cells.size
      · rw [if_pos (by omega)]
        have e : off + k - off - k = 0 := by omega
        rw [e]
        simp [hs]
      · rw [if_neg (by omega)]
        simp [hs]
    · rw [Array.getElem?_setIfInBounds_ne (Ne.symm hi)]
      by_cases hc : off + (k + 1) ≤ i ∧ i < off + (k + 1) + vs.length ∧ i < cells.size
      · rw [if_pos hc, if_pos (by omega)]
        have e : i - off - k = (i - off - (k + 1)) + 1 := by omega
        rw [e]; simp
      · rw [if_neg hc, if_neg (by omega)]

theorem overAt_conc {E : Env} {n : Nat} {l vs r : List AV} (h : overAt n l vs = some r) {L VS : List Value} (hl : concs E l = some L) (hv : concs E vs = some VS) :
    ∃ R, concs E r = some R ∧ R.length = L.length ∧ n + VS.length ≤ L.length ∧ ∀ j : Nat, R[j]? = if n ≤ j ∧ j < n + VS.length then VS[j - n]? else L[j]? := by
  obtain ⟨h1, h2, h3⟩ := overAt_eq n l vs r h
  have e1 := concs_length hl
  have e2 := concs_length hv
  have hex : ∀ x ∈ r, ∃ v, conc E x = some v := by
    intro x hx
    obtain ⟨j, hj⟩ := List.mem_iff_getElem?.1 hx
    rw [h3] at hj
    split at hj
    · obtain ⟨v, _, hc⟩ := concs_get hv _ x hj; exact ⟨v, hc⟩
    · obtain ⟨v, _, hc⟩ := concs_get hl _ x hj; exact ⟨v, hc⟩
  obtain ⟨R, hR⟩ := concs_of r hex
  have e3 := concs_length hR
  refine ⟨R, hR, by omega, by omega, fun j => ?_⟩
  by_cases hj : j < r.length
  · have hx : r[j]? = some r[j] := List.getElem?_eq_getElem hj
    obtain ⟨v, hv1, hc⟩ := concs_get hR j _ hx
    rw [hv1]
    have hx' := hx
    rw [h3] at hx'
    split at hx'
    · rename_i hc1
      rw [if_pos (by omega)]
      obtain ⟨u, hu, hcu⟩ := concs_get hv _ _ hx'
      rw [hc] at hcu; cases hcu; exact hu.symm
    · rename_i hc1
      rw [if_neg (by omega)]
      obtain ⟨u, hu, hcu⟩ := concs_get hl _ _ hx'
      rw [hc] at hcu; cases hcu; exact hu.symm
  · rw [List.getElem?_eq_none (by omega), if_neg (by omega), List.getElem?_eq_none (by omega)]

theorem over_atoms {n : Nat} {l vs r : List AV} (h : overAt n l vs = some r) (h1 : l.all AV.atom = true) (h2 : vs.all AV.atom = true) : r.all AV.atom = true := by
  obtain ⟨_, _, h3⟩ := overAt_eq n l vs r h
  rw [List.all_eq_true] at *
  intro x hx
  obtain ⟨j, hj⟩ := List.mem_iff_getElem?.1 hx
  rw [h3] at hj
  split at hj
  · exact h2 x (List.mem_of_getElem? hj)
  · exact h1 x (List.mem_of_getElem? hj)

/-- the model's way to lay a part's cells -/
theorem fold_over {E : Env} {n : Nat} {l vs r : List AV} (h : overAt n l vs = some r) {L : Array Value} {V : Value} (hl : concs E l = some L.toList) (hv : concs E vs = some V.cells.toList) :
    ∃ R : Array Value, (V.cells.zipIdx.foldl (fun cs (c, j) => cs.setIfInBounds (n + j) c) L) = R ∧ concs E r = some R.toList ∧ R.size = L.size := by
  obtain ⟨R, hR, hs, hb, hget⟩ := overAt_conc h hl hv
  refine ⟨_, rfl, ?_, ?_⟩
  · have : (V.cells.zipIdx.foldl (fun cs (c, j) => cs.setIfInBounds (n + j) c) L).toList = R := by
      obtain ⟨z1, z2⟩ := zipIdx_fold n V.cells.toList 0 L
      have e : V.cells.zipIdx.foldl (fun cs (c, j) => cs.setIfInBounds (n + j) c) L = (V.cells.toList.zipIdx 0).foldl (fun cs (x : Value × Nat) => cs.setIfInBounds (n + x.2) x.1) L := by
        rw [← Array.foldl_toList, Array.toList_zipIdx]
      rw [e]
      apply List.ext_getElem?
      intro j
      rw [Array.getElem?_toList, z2, hget]
      simp only [Nat.add_zero, Nat.sub_zero, Array.length_toList] at hs hb ⊢
      by_cases hc : n ≤ j ∧ j < n + V.cells.size
      · rw [if_pos (by omega), if_pos (by omega)]
      · rw [if_neg (by omega), if_neg (by omega), Array.getElem?_toList]
    rw [this]; exact hR
  · have e : V.cells.zipIdx.foldl (fun cs (c, j) => cs.setIfInBounds (n + j) c) L = (V.cells.toList.zipIdx 0).foldl (fun cs (x : Value × Nat) => cs.setIfInBounds (n + x.2) x.1) L := by
      rw [← Array.foldl_toList, Array.toList_zipIdx]
    rw [e]
    exact (zipIdx_fold n V.cells.toList 0 L).1

def PartsRel (E : Env) : List (Nat × AV) → List (Nat × Value) → Prop
  | [], [] => True
  | (i, x) :: r, (j, v) :: s => i = j ∧ conc E x = some v ∧ PartsRel E r s
  | _, _ => False

theorem partsA_sound {E : Env} {tm : Tm} {a : Act} (ht : TmRel E tm a) : ∀ {ps : List (Nat × Operand)} {qs : List (Nat × AV)}, partsA tm ps = some qs → PartsRel E qs (ps.map fun (i, x) => (i, a.eval x))
  | [], qs, h => by simp [partsA] at h; subst h; trivial
  | (i, x) :: r, qs, h => by
    simp only [partsA] at h
    split at h
    · rename_i v vs h1 h2; cases h; exact ⟨rfl, opnd_sound ht h1, partsA_sound ht h2⟩
    · cases h

theorem isTup_no {v : AV} (h : isTup v = false) : ∀ l, v ≠ .tup l := by rintro l rfl; simp [isTup] at h

theorem fill_sound {E : Env} {place pl : Nat → Option (Nat × Nat)} (hpl : ∀ i x, pl i = some x → place i = some x) :
    ∀ {qs : List (Nat × AV)} {ps : List (Nat × Value)} {cells r : List AV} {C : Array Value},
    PartsRel E qs ps → concs E cells = some C.toList → cells.all AV.atom = true → fillG pl cells qs = some r →
    ∃ R : Array Value, Instr.fill place C ps = some R ∧ concs E r = some R.toList ∧ r.all AV.atom = true
  | [], [], cells, r, C, _, hc, ha, h => by
    simp only [fillG, Option.some.injEq] at h; subst h
    exact ⟨C, rfl, hc, ha⟩
  | [], _ :: _, _, _, _, hp, _, _, _ => hp.elim
  | _ :: _, [], _, _, _, hp, _, _, _ => by simp [PartsRel] at hp
  | (i, x) :: qs, (j, v) :: ps, cells, r, C, hp, hc, ha, h => by
    obtain ⟨rfl, hx, hp⟩ := hp
    simp only [fillG] at h
    split at h
    · rename_i off size hpi
      split at h
      · rename_i cells' htup hlen hov
        obtain ⟨hat, hcx⟩ := cellsOf_conc hx htup
        obtain ⟨R, hR, hcR, hsz⟩ := fold_over hov hc hcx
        have hlen := Nat.eq_of_beq_eq_true hlen
        have e1 := concs_length hcx
        obtain ⟨hb, _, _⟩ := overAt_eq _ _ _ _ hov
        have e2 := concs_length hc
        obtain ⟨R', hR', hcR', haR'⟩ := fill_sound hpl hp hcR (over_atoms hov ha hat) h
        refine ⟨R', ?_, hcR', haR'⟩
        simp only [Instr.fill, hpl i _ hpi]
        have hvs : v.cells.size = size := by simpa [hlen] using e1
        have hbb : ¬ (off + v.cells.size > C.size) := by simp only [Array.length_toList] at e2; omega
        simp only [hvs] at hbb ⊢
        simp only [bne_self_eq_false, Bool.false_or, decide_eq_true_eq, ne_eq, not_true_eq_false, decide_false, hbb]
        rw [hR]
        simpa using hR'
      · cases h
    · cases h

theorem mapM_places {P : Program} {w : World} : ∀ (fs : List Field), (∀ f ∈ fs, ∃ fi, P.info? f.type = some fi) →
    (fs.mapM fun f => (do Pure.pure (f.offset, ← sizeOf f.type) : Sem (Nat × Nat))).run P w = .ok (fs.map fun f => (f.offset, P.cellsOf f.type)) w
  | [], _ => by simp
  | f :: fs, h => by
    obtain ⟨fi, hfi⟩ := h f (by simp)
    rw [List.mapM_cons]
    simp only [Sem.run_bind, run_sizeOf w hfi, Result.andThen_ok, Sem.run_pure, mapM_places fs (fun g hg => h g (by simp [hg]))]
    rfl

theorem buildA_sound {P : Program} {σ : Val} {cx : Cx} (ok : CxOK P σ cx) {t : Nat} {qs : Option (List (Nat × AV))} {v : AV} (h : buildA cx t qs = some v) {E : Env} {ps : List (Nat × Value)}
    (hq : ∀ q, qs = some q → PartsRel E q ps) : ∃ V, conc E v = some V ∧ Gives P (Instr.build t ps.toArray) V := by
  unfold buildA at h
  split at h
  · rename_i ti q hti
    have hp := hq q rfl
    have T := TI.of ok hti
    obtain ⟨d, hd, hk, hag⟩ := T.und
    obtain ⟨z, hz, hzc⟩ := T.zval
    split at h
    · rename_i fs hfs
      rw [hfs] at hk
      obtain ⟨a, rfl, rfl⟩ := und_strct hk.symm
      split at h
      · rename_i cs hcs
        cases h
        have hpl : ∀ i x, placeA (a.toList.map fun f => (f.offset, f.type, P.cellsOf f.type)) i = some x → ((a.toList.map fun f => (f.offset, P.cellsOf f.type)).toArray)[i]? = some x := by
          intro i x hx
          unfold placeA at hx
          split at hx
          · rename_i o u s hn
            obtain ⟨g, hg, he⟩ := fields_at hn
            cases he; cases hx
            simp [hg]
          · cases hx
        obtain ⟨R, hR, hcR, haR⟩ := fill_sound hpl hp (hzc E) T.atoms hcs
        refine ⟨.agg R, conc_agg haR hcR, fun w => ?_⟩
        have hm : (a.mapM fun f => (do Pure.pure (f.offset, ← sizeOf f.type) : Sem (Nat × Nat))).run P w = .ok (a.toList.map fun f => (f.offset, P.cellsOf f.type)).toArray w := by
          rw [Array.mapM_eq_mapM_toList, Sem.run_map, mapM_places a.toList (T.flds a hd)]
          rfl
        simp only [Instr.build, Sem.run_bind, hz, Result.andThen_ok, run_underlying hd, hm, hR, Sem.run_pure]
      · cases h
    · rename_i n e he
      rw [he] at hk
      have := und_arr hk.symm; subst this
      split at h
      · rename_i ty hty
        have Te := TI.of ok hty
        obtain ⟨ei, z', hei, _, hs, _, _⟩ := Te.info
        have hsz : P.cellsOf e = ty.size := by simp [Program.cellsOf, hei, hs]
        split at h
        · rename_i cs hcs
          cases h
          obtain ⟨R, hR, hcR, haR⟩ := fill_sound (place := fun i => some (i * ty.size, ty.size)) (fun i x hx => hx) hp (hzc E) T.atoms hcs
          refine ⟨.agg R, conc_agg haR hcR, fun w => ?_⟩
          simp only [Instr.build, Sem.run_bind, hz, Result.andThen_ok, run_underlying hd, run_sizeOf w hei, hsz, hR, Sem.run_pure]
        · cases h
      · cases h
    · cases h
  · cases h

theorem mkFunA_sound {P : Program} {f : Fn} {as cs : Option (List AV)} {v : AV} (h : mkFunA f as cs = some v) {E : Env} {A C : List Value} (ha : ∀ l, as = some l → concs E l = some A)
    (hc : ∀ l, cs = some l → concs E l = some C) : ∃ V, conc E v = some V ∧ Gives P (Instr.makeFunc f ⟨A⟩ ⟨C⟩) V := by
  unfold mkFunA at h
  split at h
  · split at h
    · cases h
      exact ⟨_, by simp only [conc, ha _ rfl, hc _ rfl], fun w => rfl⟩
    · cases h
  · cases h

theorem pickA_sound {P : Program} {tm : Tm} {c x y : Operand} {v : AV} (h : pickA tm c x y = some v) {E : Env} {a : Act} (ht : TmRel E tm a) :
    ∃ V, conc E v = some V ∧ ∀ w, (do Pure.pure (Next.value (if ← asBool (a.eval c) then a.eval x else a.eval y)) : Sem Next).run P w = .ok (.value V) w := by
  unfold pickA at h
  split at h
  · rename_i hc
    have hb := conc_bool (opnd_sound ht hc)
    exact ⟨_, opnd_sound ht h, fun w => by rw [hb]; simp [asBool]⟩
  · rename_i hc
    have hb := conc_bool (opnd_sound ht hc)
    exact ⟨_, opnd_sound ht h, fun w => by rw [hb]; simp [asBool]⟩
  · cases h

theorem nilChk_sound {x v : AV} (h : nilChk x = some v) {E : Env} {X : Value} (hx : conc E x = some X) :
    v = x ∧ ((∃ a, X = .pointer (some a)) ∨ ∃ f a b, X = .func (.func f) a b) := by
  unfold nilChk at h
  split at h
  · cases h; obtain ⟨p, _, rfl⟩ := conc_ptr hx; exact ⟨rfl, .inl ⟨_, rfl⟩⟩
  · cases h; simp only [conc, Option.some.injEq] at hx; exact ⟨rfl, .inl ⟨_, hx.symm⟩⟩
  · cases h; obtain ⟨a, b, _, _, rfl⟩ := conc_fn hx; exact ⟨rfl, .inr ⟨_, _, _, rfl⟩⟩
  · cases h; obtain ⟨a, rfl⟩ := lptrC_one hx; exact ⟨rfl, .inl ⟨_, rfl⟩⟩
  · cases h

/-! ## slices of slices -/
theorem orN_sound {d : Nat} {x : Option AV} {n : Nat} (h : orN d x = some n) {E : Env} {X : Option Value} (hx : ∀ v, x = some v → ∃ V, X = some V ∧ conc E v = some V) (hn : x = none → X = none) :
    (X = none ∧ n = d) ∨ ∃ k, X = some (.int k n) := by
  unfold orN at h
  split at h
  · cases h; exact .inl ⟨hn rfl, rfl⟩
  · rename_i v
    obtain ⟨V, rfl, hc⟩ := hx v rfl
    obtain ⟨k, rfl⟩ := nat?_sound h hc
    exact .inr ⟨k, rfl⟩

theorem run_sliceBound {P : Program} (k : IntKind) (n y : Nat) (h : n ≤ y) (c : BoundsCode) (w : World) : (Instr.sliceBound (.int k n) y c).run P w = .ok n w := by
  have hc : (0 : Int) ≤ n ∧ (n : Int) ≤ y := by omega
  simp only [Instr.sliceBound, Sem.run_bind, run_asIntOf, Result.andThen_ok, if_pos hc, Sem.run_pure, Int.toNat_natCast]

theorem run_sliceBounds3 {P : Program} (b : Bool) (len cap : Nat) (L H : Option Value) (l h : Nat) (hl : (L = none ∧ l = 0) ∨ ∃ k, L = some (.int k l)) (hh : (H = none ∧ h = len) ∨ ∃ k, H = some (.int k h))
    (h1 : l ≤ h) (h2 : h ≤ cap) (w : World) : (Instr.sliceBounds b len cap L H none).run P w = .ok (l, h, cap) w := by
  rcases hl with ⟨rfl, rfl⟩ | ⟨k, rfl⟩ <;> rcases hh with ⟨rfl, rfl⟩ | ⟨k', rfl⟩ <;>
    simp only [Instr.sliceBounds, Sem.run_bind, Sem.run_pure, Result.andThen_ok, run_sliceBound _ _ _ h2, run_sliceBound _ _ _ h1]
theorem run_sliceBounds4 {P : Program} (len cap : Nat) (L : Option Value) (l h m : Nat) (hl : (L = none ∧ l = 0) ∨ ∃ k, L = some (.int k l)) (kh km : IntKind)
    (h1 : l ≤ h) (h2 : h ≤ m) (h3 : m ≤ cap) (w : World) : (Instr.sliceBounds true len cap L (some (.int kh h)) (some (.int km m))).run P w = .ok (l, h, m) w := by
  rcases hl with ⟨rfl, rfl⟩ | ⟨k, rfl⟩ <;>
    simp only [Instr.sliceBounds, Sem.run_bind, Sem.run_pure, Result.andThen_ok, run_sliceBound _ _ _ h2, run_sliceBound _ _ _ h1, run_sliceBound _ _ _ h3]
end Go.Abs

namespace Go.Abs
theorem mul_add_off (p off l size : Nat) : p + off + l * size = p + (off + l * size) := by omega

theorem sliceCap_sound {ty : TyI} {i off eo l h m : Nat} {E : Env} {p : Pl} (hp : E.φ i = some p) (h1 : l ≤ h) (h2 : h ≤ m) :
    conc E (sliceCap ty i off eo l h m) = some (.slice (some (if m = l then ⟨p.block, p.off + off, none⟩ else (⟨p.block, p.off + off, none⟩ : Addr).add (l * ty.size))) (h - l) (m - l)) := by
  unfold sliceCap
  split
  · rename_i hb
    have := Nat.eq_of_beq_eq_true hb; subst this
    have e : h - m = 0 := by omega
    rw [conc_slice_mk hp (by simp [capOf, e]), if_pos rfl]
    simp [capOf]
  · rename_i hb
    have : ¬ m = l := fun e => by subst e; simp at hb
    rw [conc_slice_mk hp (by simp only [capOf]; omega), if_neg this, add_addr, mul_add_off]
    rfl

def OptRel (E : Env) (x : Option AV) (X : Option Value) : Prop := (∀ v, x = some v → ∃ V, X = some V ∧ conc E v = some V) ∧ (x = none → X = none)

theorem sliceSl_sound {P : Program} {ty : TyI} {i off eo len : Nat} {cap : Option Nat} {lo hi mx : Option AV} {v : AV} (h : sliceSl ty i off eo len cap lo hi mx = some v) {E : Env} {p : Pl} (hp : E.φ i = some p)
    {LO HI MX : Option Value} (hlo : OptRel E lo LO) (hhi : OptRel E hi HI) (hmx : OptRel E mx MX) (hcap : len ≤ capOf p eo cap) :
    ∃ l hh m, (∀ w, (Instr.sliceBounds true len (capOf p eo cap) LO HI MX).run P w = .ok (l, hh, m) w) ∧
      conc E v = some (.slice (some (if m = l then ⟨p.block, p.off + off, none⟩ else (⟨p.block, p.off + off, none⟩ : Addr).add (l * ty.size))) (hh - l) (m - l)) := by
  unfold sliceSl at h
  split at h
  · rename_i l hh hl hh'
    have L := orN_sound hl hlo.1 hlo.2
    have H := orN_sound hh' hhi.1 hhi.2
    split at h
    · rename_i mv
      obtain ⟨MV, hMV, hcM⟩ := hmx.1 mv rfl
      split at h
      · rename_i m hm
        obtain ⟨km, rfl⟩ := nat?_sound hm hcM
        split at h
        · rename_i hv b1 b2 b3
          cases h
          have b1 : l ≤ hh := by simpa using b1
          have b2 : hh ≤ m := by simpa using b2
          have b3 : m ≤ capOf p eo cap := by
            cases cap with
            | none => have : m ≤ len := by simpa [knownCap] using b3
                      omega
            | some c => simpa [knownCap, capOf] using b3
          rcases H with ⟨hn, _⟩ | ⟨kh, rfl⟩
          · obtain ⟨V, hV, _⟩ := hhi.1 _ rfl
            rw [hn] at hV; cases hV
          · exact ⟨l, hh, m, fun w => by rw [hMV]; exact run_sliceBounds4 _ _ _ _ _ _ L kh km b1 b2 b3 w, sliceCap_sound hp b1 b2⟩
        · cases h
      · cases h
    · have hMX := hmx.2 rfl
      subst hMX
      split at h
      · rename_i b1 b2
        have b1 : l ≤ hh := by simpa using b1
        have b2' : hh ≤ capOf p eo cap := by
          cases cap with
          | none => have : hh ≤ len := by simpa [knownCap] using b2
                    omega
          | some c => simpa [knownCap, capOf] using b2
        refine ⟨l, hh, capOf p eo cap, fun w => run_sliceBounds3 _ _ _ _ _ _ _ L H b1 b2' w, ?_⟩
        cases cap with
        | some c => simp only at h; cases h; exact sliceCap_sound hp b1 (by simpa [capOf] using b2')
        | none =>
          have b2 : hh ≤ len := by simpa [knownCap] using b2
          simp only [capOf] at hcap ⊢
          simp only at h
          split at h
          · rename_i hlt
            cases h
            rw [natBlt_eq] at hlt
            have hlt : l < len := by simpa using hlt
            have hne : ¬ (p.cap - eo = l) := by omega
            have e : p.cap - (eo + l) = p.cap - eo - l := by omega
            rw [conc_slice_mk hp (by simp only [capOf]; omega)]
            simp only [if_neg hne, add_addr, mul_add_off, capOf, e]
          · split at h
            · rename_i e0
              have e0 := Nat.eq_of_beq_eq_true e0
              subst e0
              cases h
              rw [conc_slice_mk hp (by simp only [capOf]; omega)]
              simp [capOf, Addr.add]
            · split at h
              · rename_i e1 e2
                have e1 := Nat.eq_of_beq_eq_true e1
                have e2 := Nat.eq_of_beq_eq_true e2
                subst e1; subst e2
                cases h
                simp only [conc, hp, Option.map_some]
                by_cases hc : p.cap - eo = hh
                · simp [hc]
                · simp [hc, add_addr, mul_add_off]
              · cases h
      · cases h
  · cases h

theorem und_of {P : Program} {σ : Val} {cx : Cx} (ok : CxOK P σ cx) {t : Nat} {i : TyI} (h : cx.tt.get t = some i) : ∃ d, P.underlying t = some d ∧ i.kind = tyK P (some d) ∧ i.agg = isAggD d := (TI.of ok h).und
theorem size_of {P : Program} {σ : Val} {cx : Cx} (ok : CxOK P σ cx) {t : Nat} {i : TyI} (h : cx.tt.get t = some i) : ∃ ti, P.info? t = some ti ∧ P.cellsOf t = i.size ∧ i.bytes = ti.bytes ∧ i.size = ti.size := by
  obtain ⟨ti, z, hi, _, hs, hb, _⟩ := (TI.of ok h).info
  exact ⟨ti, hi, by simp [Program.cellsOf, hi, hs], hb, hs⟩

theorem sliceStr_sound {P : Program} {s : List UInt8} {lo hi mx : Option AV} {v : AV} (h : sliceStr s lo hi mx = some v) {E : Env} {LO HI MX : Option Value} (hlo : OptRel E lo LO) (hhi : OptRel E hi HI) (hmx : OptRel E mx MX) :
    MX = none ∧ ∃ l hh m, (∀ w, (Instr.sliceBounds false s.length s.length LO HI none).run P w = .ok (l, hh, m) w) ∧ v = .str ((s.drop l).take (hh - l)) ∧ l ≤ hh ∧ hh ≤ s.length := by
  unfold sliceStr at h
  split at h
  · rename_i l hh hl hh'
    have L := orN_sound hl hlo.1 hlo.2
    have H := orN_sound hh' hhi.1 hhi.2
    split at h
    · rename_i r b1 b2 hr
      cases h
      have b1 : l ≤ hh := by simpa using b1
      have b2 : hh ≤ s.length := by simpa using b2
      exact ⟨hmx.2 rfl, l, hh, s.length, fun w => run_sliceBounds3 _ _ _ _ _ _ _ L H b1 b2 w, by rw [(slice1_eq hr).2], b1, b2⟩
    · cases h
  · cases h

theorem extract_str (s : List UInt8) (l h : Nat) : (⟨s.toArray⟩ : ByteArray).extract l h = ⟨((s.drop l).take (h - l)).toArray⟩ := by
  apply ByteArray.ext
  rw [ByteArray.data_extract]
  simp [List.take_drop]

theorem sliceA_sound {P : Program} {σ : Val} {cx : Cx} (ok : CxOK P σ cx) {t : Nat} {x : AV} {lo hi mx : Option AV} {v : AV} (h : sliceA cx t x lo hi mx = some v) {E : Env} {X : Value} (hx : conc E x = some X)
    {LO HI MX : Option Value} (hlo : OptRel E lo LO) (hhi : OptRel E hi HI) (hmx : OptRel E mx MX) : ∃ V, conc E v = some V ∧ Gives P (Instr.sliceAt t X LO HI MX) V := by
  unfold sliceA at h
  split at h
  · rename_i ti hti
    obtain ⟨d, hd, hk, hag⟩ := und_of ok hti
    split at h
    · rename_i he
      rw [he] at hk
      have := und_str hk.symm; subst this
      unfold sliceT at h
      split at h
      · rename_i s
        have := conc_str hx; subst this
        obtain ⟨rfl, l, hh, m, hb, rfl, h1, h2⟩ := sliceStr_sound (P := P) h hlo hhi hmx
        refine ⟨_, rfl, fun w => ?_⟩
        have hs : (⟨s.toArray⟩ : ByteArray).size = s.length := rfl
        simp only [Instr.sliceAt, Instr.slice, Sem.run_bind, run_underlying hd, Result.andThen_ok, hs, hb, Sem.run_pure, extract_str, Option.isSome_none, Bool.false_eq_true, if_false]
      · cases h
    · rename_i e he
      rw [he] at hk
      have := und_slice hk.symm; subst this
      split at h
      · rename_i ty hty
        obtain ⟨ei, hei, hsz, _, _⟩ := size_of ok hty
        unfold sliceE at h
        split at h
        · unfold sliceNil at h
          split at h
          · rename_i hl hh'
            cases h
            cases (Option.some.inj hx : Value.slice none 0 0 = X)
            have L := orN_sound hl hlo.1 hlo.2
            have H := orN_sound hh' hhi.1 hhi.2
            have M := hmx.2 rfl
            subst M
            refine ⟨_, rfl, fun w => ?_⟩
            simp only [Instr.sliceAt, Instr.slice, Sem.run_bind, run_underlying hd, Result.andThen_ok, run_sliceBounds3 true 0 0 _ _ _ _ L H (Nat.le_refl 0) (Nat.le_refl 0), run_sizeOf w hei, Sem.run_pure]
            simp
          · cases h
        · obtain ⟨p, hp, rfl, hle⟩ := conc_slice hx
          obtain ⟨l, hh, m, hb, hc⟩ := sliceSl_sound (P := P) h hp hlo hhi hmx hle
          refine ⟨_, hc, fun w => ?_⟩
          simp only [Instr.sliceAt, Instr.slice, Sem.run_bind, run_underlying hd, Result.andThen_ok, hb, run_sizeOf w hei, hsz, Sem.run_pure]
          split <;> rfl
        · cases h
      · cases h
    · rename_i n e he
      rw [he] at hk
      have := und_arr hk.symm; subst this
      split at h
      · rename_i ty hty
        obtain ⟨ei, hei, hsz, _, _⟩ := size_of ok hty
        unfold sliceP at h
        split at h
        · unfold slicePtr at h
          split at h
          · rename_i l hh hl hh'
            obtain ⟨p, hp, rfl⟩ := conc_ptr hx
            have L := orN_sound hl hlo.1 hlo.2
            have H := orN_sound hh' hhi.1 hhi.2
            have M := hmx.2 rfl
            subst M
            split at h
            · rename_i b1 b2
              cases h
              have b1 : l ≤ hh := by simpa using b1
              have b2 : hh ≤ n := by simpa using b2
              refine ⟨_, sliceCap_sound hp b1 b2, fun w => ?_⟩
              simp only [Instr.sliceAt, Sem.run_bind, run_underlying hd, Result.andThen_ok, Instr.sureAddr, run_sliceBounds3 _ _ _ _ _ _ _ L H b1 b2, run_sizeOf w hei, hsz, Sem.run_pure]
            · cases h
          · cases h
        · cases h
      · cases h
    · cases h
  · cases h

theorem optO_sound {E : Env} {tm : Tm} {a : Act} (ht : TmRel E tm a) {x : Option Operand} {v : Option AV} (h : optO tm x = some v) : OptRel E v (x.map a.eval) := by
  unfold optO at h
  split at h
  · cases h; exact ⟨fun v hv => (by cases hv), fun _ => rfl⟩
  · split at h
    · rename_i o u hu
      cases h
      exact ⟨fun v hv => (by cases hv; exact ⟨_, rfl, opnd_sound ht hu⟩), fun hn => (by cases hn)⟩
    · cases h
end Go.Abs
