/- A loop by the states of its head; laws over lists that came in. No premise of its own. -/
import Derived.Test.YtamlnmdmfcblnaaGreatDoorAbs7
import Derived.Deep.Slices
import Derived.LaidMore
import Derived.JoinedOf
set_option linter.unusedVariables false
set_option linter.unusedSimpArgs false
namespace Go.Abs
open Go.RowKit
variable {P : Program} {σ : Val} {cx : Cx} {D : Tr Def} {bs : List Nat}

/-! # loops by states of their head -/
theorem recT {α : Type} {b : Bool} {x y : α} : (@Bool.rec (fun _ => α) x y b) = if b then y else x := by cases b <;> rfl
theorem recB {b : Bool} {x : Bool} (h : @Bool.rec (fun _ => Bool) false x b = true) : b = true ∧ x = true := by
  cases b with
  | false => cases h
  | true => exact ⟨rfl, h⟩
theorem kTag_inj {i j : IntKind} (h : Nat.beq (kTag i) (kTag j) = true) : i = j := by rw [kTag_eq] at h; exact kEq_iff.1 h

/-- what the symbols stand for anew -/
structure Rv (V : Val → Prop) (D : Tr Def) (R K : List Nat) : Prop where
  to : ∀ σ, V σ → ∀ f : Nat → Int, (∀ r ∈ R, ∃ k lo hi, D.get r = some (.arg k lo hi) ∧ lo ≤ f r ∧ f r ≤ hi) →
    ∃ σ', V σ' ∧ (∀ r ∈ R, σ'.num r = f r) ∧ (∀ s, keepS D K 40 s = true → σ'.num s = σ.num s) ∧ σ'.opq = σ.opq ∧ σ'.glob = σ.glob

/-- two valuations, as a state's fit has them -/
structure Fits (D : Tr Def) (R K : List Nat) (m : Mt) (σ σ' : Val) : Prop where
  th : ∀ r ∈ R, ∀ b, m.th.get r = some b → ∃ k, sval σ b = some (k, σ'.num r)
  keep : ∀ s, keepS D K 40 s = true → σ'.num s = σ.num s
  opq : σ'.opq = σ.opq
  glob : σ'.glob = σ.glob

noncomputable def cutE (E : Env) (σ' : Val) (base nt : Nat) (m : Mt) (a : Act) : Env :=
  ⟨fun i => if i < base then (m.ren.get i).bind E.φ else if i < base + nt then some ⟨0, 0, 0, a.tmps.getD (i - base) undef⟩ else none, σ'⟩

theorem isRen_inv {base : Nat} {m : Mt} {i j : Nat} (h : isRen base m i j = true) : i < base ∧ m.ren.get i = some j := by
  have h : @Bool.rec (fun _ => Bool) false (@Option.rec Nat (fun _ => Bool) false (fun k => Nat.beq k j) (m.ren.get i)) (Nat.ble (Nat.succ i) base) = true := h
  obtain ⟨h1, h2⟩ := recB h
  refine ⟨Nat.le_of_ble_eq_true h1, ?_⟩
  cases hg : m.ren.get i with
  | none => rw [hg] at h2; cases h2
  | some k => rw [hg] at h2; rw [Nat.eq_of_beq_eq_true h2]

section
variable {R K : List Nat} {base nt : Nat} {m : Mt} {E : Env} {σ' : Val} {a : Act}
theorem cutE_ren {i j : Nat} (h : isRen base m i j = true) : (cutE E σ' base nt m a).φ i = E.φ j := by
  obtain ⟨h1, h2⟩ := isRen_inv h
  simp only [cutE, if_pos h1, h2, Option.bind_some]

mutual
theorem eqv_ok (hf : Fits D R K m E.σ σ') : ∀ (x y : AV), eqv D R K base m x y = true → (∀ V, conc E y = some V → conc (cutE E σ' base nt m a) x = some V) ∧ x.atom = y.atom
  | .bool b, y, h => by
    cases y <;> first | (cases h; done) | skip
    case bool c =>
      replace h : boolEqR b c = true := h
      rw [boolEqR_eq, boolEq_eq] at h
      have : b = c := by simpa using h
      subst this; exact ⟨fun V h => h, rfl⟩
  | .int k n, y, h => by
    cases y <;> first | (cases h; done) | skip
    case int j c =>
      obtain ⟨h1, h2⟩ := recB (show @Bool.rec (fun _ => Bool) false (eqIF n c) (Nat.beq (kTag k) (kTag j)) = true from h)
      have := kTag_inj h1; subst this
      rw [eqIF_eq, intEq_eq] at h2
      have : n = c := by simpa using h2
      subst this; exact ⟨fun V h => h, rfl⟩
  | .sym k s, y, h => by
    replace h : @Bool.rec (fun _ => Bool) (AV.rec (motive_1 := fun _ => Bool) (motive_2 := fun _ => Unit) (fun _ => false) (fun _ _ => false) (fun j b => @Bool.rec (fun _ => Bool) false (@Bool.rec (fun _ => Bool) false (keepS D K 40 s) (Nat.beq s b)) (Nat.beq (kTag k) (kTag j))) (fun _ => false) (fun _ _ => false) (fun _ _ => false) (fun _ _ => false) false (fun _ _ _ _ _ => false) (fun _ _ _ _ _ => false) false (fun _ => false) false (fun _ _ _ _ _ => false) false (fun _ _ _ => false) false (fun _ _ => false) (fun _ _ => false) (fun _ => false) (fun _ => false) (fun _ _ _ _ _ => false) () (fun _ _ _ _ => ()) y) (@Option.rec AV (fun _ => Bool) false (fun b => sameN k b y) (m.th.get s)) (memB s R) = true := h
    cases hm : memB s R with
    | false =>
      rw [hm] at h
      cases y <;> first | (cases h; done) | skip
      case sym j b =>
        obtain ⟨h1, h2⟩ := recB (show @Bool.rec (fun _ => Bool) false (@Bool.rec (fun _ => Bool) false (keepS D K 40 s) (Nat.beq s b)) (Nat.beq (kTag k) (kTag j)) = true from h)
        obtain ⟨h3, h4⟩ := recB h2
        have := kTag_inj h1; subst this
        have := Nat.eq_of_beq_eq_true h3; subst this
        refine ⟨fun V h => ?_, rfl⟩
        simp only [conc, cutE] at h ⊢
        rw [hf.keep _ h4]; exact h
    | true =>
      rw [hm] at h
      have hmem := (memB_iff _ _).1 hm
      cases hb : m.th.get s with
      | none => rw [hb] at h; cases h
      | some b =>
        rw [hb] at h
        replace h : sameN k b y = true := h
        obtain ⟨k0, hv⟩ := hf.th s hmem b hb
        cases b <;> first | (cases h; done) | skip
        case int k2 n =>
          cases y <;> first | (cases h; done) | skip
          case int j n2 =>
            obtain ⟨h1, h2⟩ := recB (show @Bool.rec (fun _ => Bool) false (eqIF n n2) (Nat.beq (kTag k) (kTag j)) = true from h)
            have := kTag_inj h1; subst this
            rw [eqIF_eq, intEq_eq] at h2
            have : n = n2 := by simpa using h2
            subst this
            simp only [sval, Option.some.injEq, Prod.mk.injEq] at hv
            refine ⟨fun V h => ?_, rfl⟩
            simp only [conc, cutE] at h ⊢
            rw [← hv.2]; exact h
        case sym k2 t =>
          cases y <;> first | (cases h; done) | skip
          case sym j t2 =>
            obtain ⟨h1, h2⟩ := recB (show @Bool.rec (fun _ => Bool) false (Nat.beq t t2) (Nat.beq (kTag k) (kTag j)) = true from h)
            have := kTag_inj h1; subst this
            have := Nat.eq_of_beq_eq_true h2; subst this
            simp only [sval, Option.some.injEq, Prod.mk.injEq] at hv
            refine ⟨fun V h => ?_, rfl⟩
            simp only [conc, cutE] at h ⊢
            rw [← hv.2]; exact h
  | .str s, y, h => by
    cases y <;> first | (cases h; done) | skip
    case str b =>
      replace h : strEq s b = true := h
      rw [strEq_eq] at h
      have : s = b := by simpa using h
      subst this; exact ⟨fun V h => h, rfl⟩
  | .sstr _, y, h => by cases h
  | .gptr g o, y, h => by
    cases y <;> first | (cases h; done) | skip
    case gptr j p =>
      obtain ⟨h1, h2⟩ := recB (show @Bool.rec (fun _ => Bool) false (Nat.beq o p) (Nat.beq g j) = true from h)
      have := Nat.eq_of_beq_eq_true h1; subst this
      have := Nat.eq_of_beq_eq_true h2; subst this
      exact ⟨fun V h => h, rfl⟩
  | .ptr i o, y, h => by
    cases y <;> first | (cases h; done) | skip
    case ptr j p =>
      obtain ⟨h1, h2⟩ := recB (show @Bool.rec (fun _ => Bool) false (Nat.beq o p) (isRen base m i j) = true from h)
      have := Nat.eq_of_beq_eq_true h2; subst this
      exact ⟨fun V h => by simp only [conc, cutE_ren h1] at h ⊢; exact h, rfl⟩
  | .nilp, y, h => by cases y <;> first | (cases h; done) | exact ⟨fun V h => h, rfl⟩
  | .nils, y, h => by cases y <;> first | (cases h; done) | exact ⟨fun V h => h, rfl⟩
  | .nilm, y, h => by cases y <;> first | (cases h; done) | exact ⟨fun V h => h, rfl⟩
  | .nilf, y, h => by cases y <;> first | (cases h; done) | exact ⟨fun V h => h, rfl⟩
  | .nili, y, h => by cases y <;> first | (cases h; done) | exact ⟨fun V h => h, rfl⟩
  | .slice i o e l c, y, h => by
    cases y <;> first | (cases h; done) | skip
    case slice j p f n d =>
      have h' : (@Bool.rec (fun _ => Bool) false (@Bool.rec (fun _ => Bool) false (@Bool.rec (fun _ => Bool) false (@Bool.rec (fun _ => Bool) false (@Option.rec Nat (fun _ => Bool) (@Option.rec Nat (fun _ => Bool) true (fun _ => false) d) (fun c2 => @Option.rec Nat (fun _ => Bool) false (fun d2 => Nat.beq c2 d2) d) c) (Nat.beq l n)) (Nat.beq e f)) (Nat.beq o p)) (isRen base m i j)) = true := h
      obtain ⟨h1, h2⟩ := recB h'
      obtain ⟨h3, h4⟩ := recB h2
      obtain ⟨h5, h6⟩ := recB h4
      obtain ⟨h7, h8⟩ := recB h6
      have := Nat.eq_of_beq_eq_true h3; subst this
      have := Nat.eq_of_beq_eq_true h5; subst this
      have := Nat.eq_of_beq_eq_true h7; subst this
      have hcd : c = d := by
        cases c <;> cases d <;> first | rfl | (cases h8; done) | skip
        rw [Nat.eq_of_beq_eq_true h8]
      subst hcd
      exact ⟨fun V h => by simp only [conc, cutE_ren h1] at h ⊢; exact h, rfl⟩
  | .tail _ _ _ _ _, y, h => by cases h
  | .map i, y, h => by
    cases y <;> first | (cases h; done) | skip
    case map j => exact ⟨fun V h0 => by simp only [conc, cutE_ren (show isRen base m i j = true from h)] at h0 ⊢; exact h0, rfl⟩
  | .fn f a1 b1, y, h => by
    cases y <;> first | (cases h; done) | skip
    case fn g c d =>
      have h' : (@Bool.rec (fun _ => Bool) false (@Bool.rec (fun _ => Bool) false (eqvL' D R K base m b1 d) (eqvL' D R K base m a1 c)) (Nat.beq f g)) = true := h
      obtain ⟨h1, h2⟩ := recB h'
      obtain ⟨h3, h4⟩ := recB h2
      have := Nat.eq_of_beq_eq_true h1; subst this
      have ia := (eqvs_ok hf a1 c h3).1
      have ib := (eqvs_ok hf b1 d h4).1
      refine ⟨fun V h => ?_, rfl⟩
      simp only [conc] at h ⊢
      split at h
      · rename_i x1 x2 e1 e2
        rw [ia _ e1, ib _ e2]; exact h
      · cases h
  | .iface _ _, y, h => by cases h
  | .agg c1, y, h => by
    cases y <;> first | (cases h; done) | skip
    case agg c2 =>
      have ih := eqvs_ok hf c1 c2 (show eqvL' D R K base m c1 c2 = true from h)
      refine ⟨fun V h => ?_, rfl⟩
      simp only [conc] at h ⊢
      rw [ih.2]
      split at h
      · rename_i hc
        rw [if_pos hc]
        simp only [Option.map_eq_some_iff] at h ⊢
        obtain ⟨u, hu, rfl⟩ := h
        exact ⟨u, ih.1 _ hu, rfl⟩
      · cases h
  | .tup c1, y, h => by
    cases y <;> first | (cases h; done) | skip
    case tup c2 =>
      have ih := eqvs_ok hf c1 c2 (show eqvL' D R K base m c1 c2 = true from h)
      refine ⟨fun V h => ?_, rfl⟩
      simp only [conc, Option.map_eq_some_iff] at h ⊢
      obtain ⟨u, hu, rfl⟩ := h
      exact ⟨u, ih.1 _ hu, rfl⟩
  | .hole _, y, h => by cases h
  | .opq i, y, h => by
    cases y <;> first | (cases h; done) | skip
    case opq j =>
      have := Nat.eq_of_beq_eq_true (show Nat.beq i j = true from h); subst this
      exact ⟨fun V h => by simp only [conc, cutE, hf.opq] at h ⊢; exact h, rfl⟩
  | .lptr _ _ _ _ _, y, h => by cases h
theorem eqvs_ok (hf : Fits D R K m E.σ σ') : ∀ (xs ys : List AV), eqvL' D R K base m xs ys = true → (∀ V, concs E ys = some V → concs (cutE E σ' base nt m a) xs = some V) ∧ xs.all AV.atom = ys.all AV.atom
  | [], y, h => by cases y <;> first | (cases h; done) | exact ⟨fun V h => h, rfl⟩
  | x :: xs, y, h => by
    cases y with
    | nil => cases h
    | cons z ys =>
      obtain ⟨h1, h2⟩ := recB (show @Bool.rec (fun _ => Bool) false (eqvL' D R K base m xs ys) (eqv D R K base m x z) = true from h)
      have i1 := eqv_ok hf x z h1
      have i2 := eqvs_ok hf xs ys h2
      refine ⟨fun V h => ?_, by simp only [List.all_cons, i1.2, i2.2]⟩
      obtain ⟨v, vs, e1, e2, rfl⟩ := concs_cons h
      exact concs_mk (i1.1 _ e1) (i2.1 _ e2)
end
end
end Go.Abs

namespace Go.Abs
open Go.RowKit
variable {P : Program} {σ : Val} {cx : Cx} {D : Tr Def} {bs : List Nat}
variable {R K : List Nat} {base nt : Nat} {m : Mt} {E : Env} {σ' : Val} {a : Act}

theorem eqvL_ok (hf : Fits D R K m E.σ σ') : ∀ (xs ys : List AV), eqvL D R K base m xs ys = true → (∀ V, concs E ys = some V → concs (cutE E σ' base nt m a) xs = some V) ∧ xs.all AV.atom = ys.all AV.atom
  | [], y, h => by cases y <;> first | (cases h; done) | exact ⟨fun V h => h, rfl⟩
  | x :: xs, y, h => by
    cases y with
    | nil => cases h
    | cons z ys =>
      obtain ⟨h1, h2⟩ := recB (show @Bool.rec (fun _ => Bool) false (eqvL D R K base m xs ys) (eqv D R K base m x z) = true from h)
      have i1 := eqv_ok (nt := nt) (a := a) hf x z h1
      have i2 := eqvL_ok hf xs ys h2
      refine ⟨fun V h => ?_, by simp only [List.all_cons, i1.2, i2.2]⟩
      obtain ⟨v, vs, e1, e2, rfl⟩ := concs_cons h
      exact concs_mk (i1.1 _ e1) (i2.1 _ e2)
theorem eqvE_ok (hf : Fits D R K m E.σ σ') : ∀ (xs ys : List (AV × AV × Nat)), eqvE D R K base m xs ys = true → ∀ V, concE E ys = some V → concE (cutE E σ' base nt m a) xs = some V
  | [], y, h => by cases y <;> first | (cases h; done) | exact fun V h => h
  | (k, v, b) :: xs, y, h => by
    cases y with
    | nil => cases h
    | cons z ys =>
      obtain ⟨k2, v2, b2⟩ := z
      obtain ⟨h1, h2⟩ := recB (show @Bool.rec (fun _ => Bool) false (@Bool.rec (fun _ => Bool) false (@Bool.rec (fun _ => Bool) false (eqvE D R K base m xs ys) (Nat.beq b b2)) (eqv D R K base m v v2)) (eqv D R K base m k k2) = true from h)
      obtain ⟨h3, h4⟩ := recB h2
      obtain ⟨h5, h6⟩ := recB h4
      have := Nat.eq_of_beq_eq_true h5; subst this
      intro V hV
      obtain ⟨k', v', r', e1, e2, e3, rfl⟩ := concE_cons hV
      exact concE_mk ((eqv_ok (nt := nt) (a := a) hf k k2 h1).1 _ e1) ((eqv_ok (nt := nt) (a := a) hf v v2 h3).1 _ e2) (eqvE_ok hf xs ys h6 _ e3)
theorem eqvO_ok (hf : Fits D R K m E.σ σ') {o o2 : AO} (h : eqvO D R K base m o o2 = true) : o.rw = o2.rw ∧ ∀ {B : Nat} {w : World} {p : Pl}, objRel E B w p o2 → objRel (cutE E σ' base nt m a) B w p o := by
  cases o with
  | iter => cases h
  | cells cs ro es =>
    cases o2 with
    | map => cases h
    | iter => cases h
    | cells cs2 ro2 es2 =>
      obtain ⟨h1, h2⟩ := recB (show @Bool.rec (fun _ => Bool) false (@Bool.rec (fun _ => Bool) false (Nat.beq es es2) (boolEqR ro ro2)) (eqvL D R K base m cs cs2) = true from h)
      obtain ⟨h3, h4⟩ := recB h2
      rw [boolEqR_eq, boolEq_eq] at h3
      have : ro = ro2 := by simpa using h3
      subst this
      have := Nat.eq_of_beq_eq_true h4; subst this
      refine ⟨rfl, fun {B w p} ho => ?_⟩
      obtain ⟨g1, vs, g2, g3⟩ := ho
      have e := eqvL_ok (nt := nt) (a := a) hf cs cs2 h1
      exact ⟨e.2.trans g1, vs, e.1 _ g2, g3⟩
  | map es c =>
    cases o2 with
    | cells => cases h
    | iter => cases h
    | map es2 c2 =>
      obtain ⟨h1, h2⟩ := recB (show @Bool.rec (fun _ => Bool) false (Nat.beq c c2) (eqvE D R K base m es es2) = true from h)
      have := Nat.eq_of_beq_eq_true h2; subst this
      refine ⟨rfl, fun {B w p} ho => ?_⟩
      obtain ⟨g1, l, g2, g3⟩ := ho
      exact ⟨g1, l, eqvE_ok hf es es2 h1 _ g2, g3⟩

theorem mkH_get : ∀ (l : List (Nat × AO)) (i : Nat), (mkH l).get i = lookO l i
  | [], i => by
    show (Hp.nil : Hp AO).get i = none
    simp
  | (j, o) :: l, i => by
    show (Hp.put (some o) (mkH l) j).get i = @Bool.rec (fun _ => Option AO) (lookO l i) (some o) (Nat.beq j i)
    rw [Hp.get_put, mkH_get l i, natBeq_eq]
    by_cases e : i = j
    · subst e; rw [if_pos rfl, decide_eq_true rfl]
    · rw [if_neg e, decide_eq_false (fun h => e h.symm)]

/-- what the check of the objects tells -/
theorem objsB_inv {hh : AH} : ∀ (l : List (Nat × AO)) (js : List Nat), objsB D R K base m hh l js = true →
    (∀ i o, lookO l i = some o → i < base ∧ ∀ j, m.ren.get i = some j → j ∉ js ∧ ∃ o2, hh.objs.get j = some o2 ∧ eqvO D R K base m o o2 = true) ∧
    (∀ i i' o o', lookO l i = some o → lookO l i' = some o' → i ≠ i' → ∀ j, m.ren.get i = some j → m.ren.get i' = some j → False)
  | [], js, _ => ⟨fun i o h => (by cases h), fun i i' o o' h => (by cases h)⟩
  | (k, x) :: l, js, h => by
    obtain ⟨h1, h2⟩ := recB (show @Bool.rec (fun _ => Bool) false (@Option.rec Nat (fun _ => Bool) (objsB D R K base m hh l js) (fun j => @Bool.rec (fun _ => Bool) (@Option.rec AO (fun _ => Bool) false (fun o2 => @Bool.rec (fun _ => Bool) false (objsB D R K base m hh l (j :: js)) (eqvO D R K base m x o2)) (hh.objs.get j)) false (memB j js)) (m.ren.get k)) (Nat.ble (Nat.succ k) base) = true from h)
    have hk : k < base := Nat.le_of_ble_eq_true h1
    have look : ∀ i o, lookO ((k, x) :: l) i = some o → (i = k ∧ o = x) ∨ (i ≠ k ∧ lookO l i = some o) := fun i o hl => by
      have hl : @Bool.rec (fun _ => Option AO) (lookO l i) (some x) (Nat.beq k i) = some o := hl
      rw [natBeq_eq] at hl
      by_cases e : k = i
      · subst e; rw [decide_eq_true rfl] at hl; cases hl; exact .inl ⟨rfl, rfl⟩
      · rw [decide_eq_false e] at hl; exact .inr ⟨fun h => e h.symm, hl⟩
    cases hr : m.ren.get k with
    | none =>
      rw [hr] at h2
      obtain ⟨i1, i2⟩ := objsB_inv l js h2
      refine ⟨fun i o hl => ?_, fun i i' o o' hl hl' hne j hj hj' => ?_⟩
      · rcases look i o hl with ⟨rfl, rfl⟩ | ⟨_, hlA⟩
        · exact ⟨hk, fun j hj => by rw [hr] at hj; cases hj⟩
        · exact i1 i o hlA
      · rcases look i o hl with ⟨rfl, rfl⟩ | ⟨_, hlA⟩
        · rw [hr] at hj; cases hj
        · rcases look i' o' hl' with ⟨rfl, rfl⟩ | ⟨_, hlB⟩
          · rw [hr] at hj'; cases hj'
          · exact i2 i i' o o' hlA hlB hne j hj hj'
    | some j0 =>
      rw [hr] at h2
      have h2 : @Bool.rec (fun _ => Bool) (@Option.rec AO (fun _ => Bool) false (fun o2 => @Bool.rec (fun _ => Bool) false (objsB D R K base m hh l (j0 :: js)) (eqvO D R K base m x o2)) (hh.objs.get j0)) false (memB j0 js) = true := h2
      cases hm : memB j0 js with
      | true => rw [hm] at h2; cases h2
      | false =>
        rw [hm] at h2
        have hn : j0 ∉ js := fun hc => by rw [(memB_iff _ _).2 hc] at hm; cases hm
        cases hg : hh.objs.get j0 with
        | none => rw [hg] at h2; cases h2
        | some o2 =>
          rw [hg] at h2
          obtain ⟨h3, h4⟩ := recB (show @Bool.rec (fun _ => Bool) false (objsB D R K base m hh l (j0 :: js)) (eqvO D R K base m x o2) = true from h2)
          obtain ⟨i1, i2⟩ := objsB_inv l (j0 :: js) h4
          refine ⟨fun i o hl => ?_, fun i i' o o' hl hl' hne j hj hj' => ?_⟩
          · rcases look i o hl with ⟨rfl, rfl⟩ | ⟨_, hlA⟩
            · exact ⟨hk, fun j hj => by rw [hr] at hj; cases hj; exact ⟨hn, o2, hg, h3⟩⟩
            · obtain ⟨a1, a2⟩ := i1 i o hlA
              exact ⟨a1, fun j hj => ⟨fun hc => (a2 j hj).1 (List.mem_cons_of_mem _ hc), (a2 j hj).2⟩⟩
          · rcases look i o hl with ⟨rfl, rfl⟩ | ⟨_, hlA⟩
            · rcases look i' o' hl' with ⟨rfl, rfl⟩ | ⟨_, hlB⟩
              · exact hne rfl
              · rw [hr] at hj; cases hj
                exact ((i1 i' o' hlB).2 j0 hj').1 List.mem_cons_self
            · rcases look i' o' hl' with ⟨rfl, rfl⟩ | ⟨_, hlB⟩
              · rw [hr] at hj'; cases hj'
                exact ((i1 i o hlA).2 j0 hj).1 List.mem_cons_self
              · exact i2 i i' o o' hlA hlB hne j hj hj'

theorem tmsB_inv {tm : Tm} : ∀ (l : List AV) (t : Nat), tmsB D R K base m tm l t = true → ∀ i x, l[i]? = some x → tmB D R K base m (t + i) x (tm.at (t + i)) = true
  | [], t, _, i, x, hx => by simp at hx
  | y :: l, t, h, i, x, hx => by
    obtain ⟨h1, h2⟩ := recB (show @Bool.rec (fun _ => Bool) false (tmsB D R K base m tm l (Nat.succ t)) (tmB D R K base m t y (tm.at t)) = true from h)
    cases i with
    | zero => simp at hx; subst hx; exact h1
    | succ i =>
      have := tmsB_inv l (Nat.succ t) h2 i x (by simpa using hx)
      rw [show t + (i + 1) = Nat.succ t + i by omega]; exact this
theorem isUn_eq {x : AV} (h : isUn x = true) : x = .undef := by
  cases x <;> first | (cases h; done) | skip
  rename_i l
  cases l with
  | nil => rfl
  | cons a r => cases h
theorem topG_inv {tm : Tm} : ∀ (n t : Nat), topG tm n t = true → ∀ i, i < n → tm.at (t + i) = .undef
  | 0, t, _, i, hi => absurd hi (Nat.not_lt_zero _)
  | n + 1, t, h, i, hi => by
    obtain ⟨h1, h2⟩ := recB (show @Bool.rec (fun _ => Bool) false (topG tm n (Nat.succ t)) (isUn (tm.at t)) = true from h)
    cases i with
    | zero => exact isUn_eq h1
    | succ i =>
      have := topG_inv n (Nat.succ t) h2 i (by omega)
      rw [show t + (i + 1) = Nat.succ t + i by omega]; exact this
theorem topU_inv {tm : Tm} {n : Nat} (h : topU tm n = true) (t : Nat) (ht : n ≤ t) : tm.at t = .undef := by
  unfold topU at h
  obtain ⟨h1, h2⟩ := both_iff.1 h
  obtain ⟨h3, h4⟩ := both_iff.1 h2
  have h1 : n ≤ 512 := Nat.le_of_ble_eq_true h1
  by_cases hlt : t < 512
  · have := topG_inv _ _ h3 (t - n) (by show t - n < 512 - n; omega)
    rw [show n + (t - n) = t by omega] at this; exact this
  · have hn : tm.hi = .nil := by
      cases hh : tm.hi with
      | nil => rfl
      | node l v r => rw [hh] at h4; cases h4
    rw [Tm.at_hi _ (by omega), hn]
    rfl
theorem lenA2_eq (l : List AV) : lenA2 l = l.length := by
  induction l with
  | nil => rfl
  | cons a l ih => show Nat.succ (lenA2 l) = _; rw [ih]; rfl

/-- a state that fits, under what the symbols stand for anew -/
theorem st_fit {B : Nat} {w0 : World} {T : Tpl} {tm : Tm} {h : AH} {w : World} (hf : Fits D R K m σ σ') (hst : St σ B w0 nt tm h a w) (hl : lenA2 T.tms = nt) (h1 : tmsB D R K T.base m tm T.tms 0 = true) (h2 : topU tm nt = true) (h3 : objsB D R K T.base m h T.objs [] = true) :
    St σ' B w0 nt (tmT T) (hT nt T) a w := by
  obtain ⟨E, rfl, ha, hrel, hfr⟩ := hst
  obtain ⟨o1, o2⟩ := objsB_inv _ _ h3
  rw [lenA2_eq] at hl
  refine ⟨cutE E σ' T.base nt m a, rfl, ⟨fun t => ?_, ha.size, ha.defers⟩, ?_, ?_⟩
  · -- temporaries
    show conc _ ((initR T.tms 0 Tm.nil).at t) = _
    rw [initR_eq, initTm_get]
    simp only [Nat.zero_le, true_and, Nat.zero_add, Nat.sub_zero]
    by_cases ht : t < T.tms.length
    · rw [if_pos ht]
      have hx : T.tms[t]? = some (T.tms[t]'ht) := List.getElem?_eq_getElem ht
      have hb := tmsB_inv _ _ h1 t _ hx
      rw [Nat.zero_add] at hb
      rw [hx, Option.getD_some]
      have htm := ha.tm t
      generalize T.tms[t] = x at hb
      have gen : eqv D R K T.base m x (tm.at t) = true → conc (cutE E σ' T.base nt m a) x = some (a.tmps.getD t undef) := fun h => (eqv_ok hf x _ h).1 _ htm
      cases x <;> first | exact gen hb | skip
      rename_i i
      have := Nat.eq_of_beq_eq_true (show Nat.beq i (Nat.add T.base t) = true from hb)
      subst this
      have e1 : ¬ (Nat.add T.base t < T.base) := by show ¬ (T.base + t < T.base); omega
      have e2 : Nat.add T.base t < T.base + nt := by show T.base + t < T.base + nt; omega
      have e3 : Nat.add T.base t - T.base = t := by show T.base + t - T.base = t; omega
      simp only [conc, cutE, if_neg e1, if_pos e2, e3, Option.map_some]
    · rw [if_neg ht, Tm.at_nil]
      have h5 := topU_inv h2 t (by omega)
      have h6 := ha.tm t
      rw [h5] at h6
      have h7 : conc E .undef = some undef := conc_undef E
      rw [h7] at h6
      rw [conc_undef]; exact h6
  · refine { objs := fun i o p hi hp => ?_, inj := fun i j o o' p q hi hj hp hq hr1 hr2 hne => ?_, below := hrel.below, base := hrel.base, ok := fun i hi => ?_, glob := fun g j v hg => ?_ }
    · have hi : (mkH T.objs).get i = some o := hi
      rw [mkH_get] at hi
      obtain ⟨hb, hj⟩ := o1 i o hi
      simp only [cutE, if_pos hb] at hp
      obtain ⟨j, hj1, hj2⟩ := Option.bind_eq_some_iff.1 hp
      obtain ⟨_, o3, g1, g2⟩ := hj j hj1
      exact (eqvO_ok hf g2).2 (hrel.objs j o3 p g1 hj2)
    · have hi : (mkH T.objs).get i = some o := hi
      have hj : (mkH T.objs).get j = some o' := hj
      rw [mkH_get] at hi hj
      obtain ⟨hb, hk⟩ := o1 i o hi
      obtain ⟨hb', hk'⟩ := o1 j o' hj
      simp only [cutE, if_pos hb] at hp
      simp only [cutE, if_pos hb'] at hq
      obtain ⟨k, k1, k2⟩ := Option.bind_eq_some_iff.1 hp
      obtain ⟨k', k1', k2'⟩ := Option.bind_eq_some_iff.1 hq
      obtain ⟨_, x, g1, g2⟩ := hk k k1
      obtain ⟨_, x', g1', g2'⟩ := hk' k' k1'
      refine hrel.inj k k' x x' p q g1 g1' k2 k2' ?_ ?_ fun e => ?_
      · rw [← (eqvO_ok (nt := nt) (a := a) hf g2).1]; exact hr1
      · rw [← (eqvO_ok (nt := nt) (a := a) hf g2').1]; exact hr2
      · subst e; exact o2 i j o o' hi hj hne k k1 k1'
    · show (mkH T.objs).get i = none
      rw [mkH_get]
      cases hl2 : lookO T.objs i with
      | none => rfl
      | some o =>
        have := (o1 i o hl2).1
        have hi : T.base + nt ≤ i := hi
        omega
    · have hg : σ'.glob g j = some v := hg
      rw [hf.glob] at hg
      exact hrel.glob g j v hg
  · intro j hj
    have hj : T.base + nt ≤ j := hj
    simp only [cutE, if_neg (show ¬ j < T.base by omega), if_neg (show ¬ j < T.base + nt by omega)]
end Go.Abs

namespace Go.Abs
open Go.RowKit
variable {P : Program} {σ : Val} {cx : Cx} {D : Tr Def} {bs : List Nat}

theorem facts_num {f : Fact} (hf : FactOK P σ f) {k j : IntKind} {a b : Int} (hx : sval σ f.x = some (k, a)) (hy : sval σ f.y = some (j, b)) {c : Bool} (hr : f.r = .bool c) :
    (f.op = .lss → c = true → a < b) ∧ (f.op = .gtr → c = false → a ≤ b) := by
  obtain ⟨Rv, hR, hrun⟩ := hf (noEnv σ) rfl _ _ (sval_conc hx _ rfl) (sval_conc hy _ rfl)
  rw [hr] at hR
  have := conc_bool hR; subst this
  have hrun := hrun default 0
  refine ⟨fun ho hc => ?_, fun ho hc => ?_⟩
  · rw [ho] at hrun
    subst hc
    by_cases hk : k = j
    · subst hk; simpa [binOp, Op.intCmp] using hrun
    · simp [binOp, hk] at hrun
  · rw [ho] at hrun
    subst hc
    by_cases hk : k = j
    · subst hk; simpa [binOp, Op.intCmp] using hrun
    · simp [binOp, hk] at hrun
theorem isIntLe_inv {c : Int} {x : AV} (h : isIntLe c x = true) : ∃ k n, x = .int k n ∧ n ≤ c := by
  cases x <;> first | (cases h; done) | skip
  rename_i k n
  exact ⟨k, n, rfl, leB_iff.1 (show leB n c = true from h)⟩
theorem isSym_inv {s : Nat} {x : AV} (h : isSym s x = true) : ∃ k, x = .sym k s := by
  cases x <;> first | (cases h; done) | skip
  rename_i k t
  have := Nat.eq_of_beq_eq_true (show Nat.beq t s = true from h); subst this
  exact ⟨k, rfl⟩
theorem numAV_sval {x : AV} (h : numAV x = true) (σ : Val) : ∃ k n, sval σ x = some (k, n) := by
  cases x <;> simp only [numAV, Bool.false_eq_true] at h <;> exact ⟨_, _, rfl⟩
theorem opTag_of {op : BinOp} {op' : BinOp} (h : Nat.beq (opTag op) (opTag op') = true) : op = op' := opTag_inj (Nat.eq_of_beq_eq_true h)

theorem capB_ok {c : Int} {y : AV} {k : IntKind} {b : Int} (hy : sval σ y = some (k, b)) : ∀ (fs : List Fact), (∀ f ∈ fs, FactOK P σ f) → capB D c y fs = true → b ≤ c := by
  intro fs
  unfold capB
  split
  · rename_i hi
    intro _ _
    obtain ⟨k2, n, rfl, hn⟩ := isIntLe_inv hi
    simp only [sval, Option.some.injEq, Prod.mk.injEq] at hy
    rw [← hy.2]; exact hn
  · induction fs with
    | nil => intro _ h; cases h
    | cons f fs ih =>
      intro hf h
      have h : (match both (both (Nat.beq (opTag f.op) 15) (sameSym f.x y)) (both (isIntLe c f.y) (match f.r with | .bool b => !b | _ => false)) with
        | true => true
        | false => List.rec (motive := fun _ => Bool) false (fun f _ ih => match both (both (Nat.beq (opTag f.op) 15) (sameSym f.x y)) (both (isIntLe c f.y) (match f.r with | .bool b => !b | _ => false)) with | true => true | false => ih) fs) = true := h
      split at h
      · rename_i hc
        obtain ⟨h1, h2⟩ := both_iff.1 hc
        obtain ⟨h3, h4⟩ := both_iff.1 h1
        obtain ⟨h5, h6⟩ := both_iff.1 h2
        have ho : f.op = .gtr := opTag_of (op' := .gtr) h3
        have hx := (sameSym_eq h4).1
        obtain ⟨k2, n, hfy, hn⟩ := isIntLe_inv h5
        split at h6
        · rename_i b2 hr
          have hb2 : b2 = false := by cases b2 <;> simp_all
          subst hb2
          have := (facts_num (hf f List.mem_cons_self) (by rw [hx]; exact hy) (by rw [hfy]; rfl) hr).2 ho rfl
          exact Int.le_trans this hn
        · cases h6
      · exact ih (fun g hg => hf g (List.mem_cons_of_mem _ hg)) h
theorem belowB_ok {c : Int} {s : Nat} {all : List Fact} (hall : ∀ f ∈ all, FactOK P σ f) : ∀ (fs : List Fact), (∀ f ∈ fs, FactOK P σ f) → belowB D c s all fs = true → σ.num s < c
  | [], _, h => by cases h
  | f :: fs, hf, h => by
    have h : (match both (both (Nat.beq (opTag f.op) 13) (isSym s f.x)) (both (both (isT (some f.r)) (numAV f.y)) (capB D c f.y all)) with
      | true => true
      | false => belowB D c s all fs) = true := h
    split at h
    · rename_i hc
      obtain ⟨h1, h2⟩ := both_iff.1 hc
      obtain ⟨h3, h4⟩ := both_iff.1 h1
      obtain ⟨h5, h6⟩ := both_iff.1 h2
      obtain ⟨h7, h8⟩ := both_iff.1 h5
      have ho : f.op = .lss := opTag_of (op' := .lss) h3
      obtain ⟨k, hx⟩ := isSym_inv h4
      have hr := Option.some.inj (isT_inv h7)
      obtain ⟨k2, b, hy⟩ := numAV_sval h8 σ
      have h9 := capB_ok hy all hall h6
      have := (facts_num (hf f List.mem_cons_self) (by rw [hx]; rfl) hy hr).1 ho rfl
      omega
    · exact belowB_ok hall fs (fun g hg => hf g (List.mem_cons_of_mem _ hg)) h

theorem succ_val (hD : DefsOK σ D) {q : Kn} (hq : ∀ f ∈ q.facts, FactOK P σ f) {r : Nat} {v : AV} (h1 : succOf D r v = true) (h2 : riseB D q r = true) :
    ∃ k lo hi kv, D.get r = some (.arg k lo hi) ∧ sval σ v = some (kv, σ.num r + 1) ∧ lo ≤ σ.num r ∧ σ.num r + 1 ≤ hi := by
  unfold riseB at h2
  split at h2
  case h_2 => cases h2
  rename_i k lo hi hr
  obtain ⟨h3, h4⟩ := both_iff.1 h2
  obtain ⟨h5, h6⟩ := both_iff.1 h3
  have h5 := leB_iff.1 h5
  have h6 := leB_iff.1 h6
  have h7 := belowB_ok hq q.facts hq h4
  have h8 : lo ≤ σ.num r ∧ σ.num r ≤ hi := hD r _ hr
  unfold succOf at h1
  split at h1
  case h_2 => cases h1
  rename_i kv s
  split at h1
  case h_2 => cases h1
  rename_i k2 x j hs
  obtain ⟨h9, h10⟩ := both_iff.1 h1
  obtain ⟨kx, rfl⟩ := isSym_inv h9
  have := kEq_iff.1 h10; subst this
  obtain ⟨a, j2, b, hx, hy, hb⟩ := hD s _ hs
  simp only [sval, Option.some.injEq, Prod.mk.injEq] at hx hy
  obtain ⟨rfl, rfl⟩ := hx
  obtain ⟨rfl, rfl⟩ := hy
  refine ⟨k, lo, hi, kv, hr, ?_, h8.1, by omega⟩
  simp only [binInt] at hb
  split at hb
  · simp only [binI, Option.some.injEq, AV.int.injEq, true_and] at hb
    rw [wrap_i64 (by omega) (by omega)] at hb
    simp only [sval]; rw [← hb]
  · cases hb
theorem bnd_ok (hD : DefsOK σ D) {q : Kn} (hq : ∀ f ∈ q.facts, FactOK P σ f) {r : Nat} {v : AV} (h : bndB D q r v = true) :
    ∃ k lo hi kv n, D.get r = some (.arg k lo hi) ∧ sval σ v = some (kv, n) ∧ lo ≤ n ∧ n ≤ hi := by
  unfold bndB at h
  split at h
  case h_2 => cases h
  rename_i k lo hi hr
  split at h
  · rename_i hi'
    unfold inIv at hi'
    split at hi'
    · rename_i iv hiv
      obtain ⟨h1, h2⟩ := both_iff.1 hi'
      have hs : ∃ kv n, sval σ v = some (kv, n) := by
        cases v <;> first | (cases hiv; done) | exact ⟨_, _, rfl⟩
      obtain ⟨kv, n, hn⟩ := hs
      have := ivA_ok hD hiv hn
      exact ⟨k, lo, hi, kv, n, hr, hn, Int.le_trans (leB_iff.1 h1) this.1, Int.le_trans this.2 (leB_iff.1 h2)⟩
    · cases hi'
  · obtain ⟨h1, h2⟩ := both_iff.1 h
    obtain ⟨k', lo', hi', kv, hr', hv, h3, h4⟩ := succ_val hD hq h1 h2
    rw [hr] at hr'; cases hr'
    exact ⟨k, lo, hi, kv, _, hr, hv, by omega, h4⟩
theorem thB_inv {q : Kn} {m : Mt} : ∀ {R : List Nat}, thB D q m R = true → ∀ r ∈ R, (m.th.get r = none ∧ isArg D r = true) ∨ ∃ v, m.th.get r = some v ∧ bndB D q r v = true
  | [], _, r, hr => by cases hr
  | s :: R, h, r, hr => by
    have h : @Option.rec AV (fun _ => Bool) (both (isArg D s) (thB D q m R)) (fun v => both (bndB D q s v) (thB D q m R)) (m.th.get s) = true := h
    cases hg : m.th.get s with
    | none =>
      rw [hg] at h
      obtain ⟨h1, h2⟩ := both_iff.1 (show both (isArg D s) (thB D q m R) = true from h)
      rcases List.mem_cons.1 hr with rfl | hr
      · exact .inl ⟨hg, h1⟩
      · exact thB_inv h2 r hr
    | some v =>
      rw [hg] at h
      obtain ⟨h1, h2⟩ := both_iff.1 (show both (bndB D q s v) (thB D q m R) = true from h)
      rcases List.mem_cons.1 hr with rfl | hr
      · exact .inr ⟨v, hg, h1⟩
      · exact thB_inv h2 r hr

/-! ## what is known stays -/
theorem keepV_conc {K : List Nat} {σ' : Val} (hk : ∀ s, keepS D K 40 s = true → σ'.num s = σ.num s) (ho : σ'.opq = σ.opq) {x : AV} (h : keepV D K x = true) (E : Env) (hE : E.σ = σ') : conc E x = conc ⟨E.φ, σ⟩ x := by
  cases x <;> simp only [keepV, Bool.false_eq_true] at h
  · rfl
  · rfl
  · simp only [conc, hE]; rw [hk _ h]
  · simp only [conc, hE, ho]
theorem memF_inv {f : Fact} : ∀ {l : List Fact}, memF f l = true → f ∈ l
  | [], h => by cases h
  | g :: l, h => by
    have h : (match both (both (Nat.beq (opTag f.op) (opTag g.op)) (avEqR f.r g.r)) (both (avEqR f.x g.x) (avEqR f.y g.y)) with
      | true => true
      | false => memF f l) = true := h
    split at h
    · rename_i hc
      obtain ⟨h1, h2⟩ := both_iff.1 hc
      obtain ⟨h3, h4⟩ := both_iff.1 h1
      obtain ⟨h5, h6⟩ := both_iff.1 h2
      have e1 := opTag_of h3
      have e2 := avEq_eq _ _ (avEqR_ok _ _ h4)
      have e3 := avEq_eq _ _ (avEqR_ok _ _ h5)
      have e4 := avEq_eq _ _ (avEqR_ok _ _ h6)
      obtain ⟨fo, fx, fy, fr⟩ := f
      obtain ⟨go, gx, gy, gr⟩ := g
      simp only at e1 e2 e3 e4
      subst e1 e2 e3 e4
      exact List.mem_cons_self
    · exact List.mem_cons_of_mem _ (memF_inv h)
theorem factsB_ok {K : List Nat} {σ' : Val} (hk : ∀ s, keepS D K 40 s = true → σ'.num s = σ.num s) (ho : σ'.opq = σ.opq) {q : Kn} (hq : ∀ f ∈ q.facts, FactOK P σ f) : ∀ {F : List Fact}, factsB D K q F = true → ∀ f ∈ F, FactOK P σ' f
  | [], _, f, hf => by cases hf
  | g :: F, h, f, hf => by
    have h : both (both (memF g q.facts) (both (keepV D K g.x) (both (keepV D K g.y) (keepV D K g.r)))) (factsB D K q F) = true := h
    obtain ⟨h1, h2⟩ := both_iff.1 h
    rcases List.mem_cons.1 hf with rfl | hf
    · obtain ⟨h3, h4⟩ := both_iff.1 h1
      obtain ⟨h5, h6⟩ := both_iff.1 h4
      obtain ⟨h7, h8⟩ := both_iff.1 h6
      intro E hE X Y hX hY
      rw [keepV_conc hk ho h5 E hE] at hX
      rw [keepV_conc hk ho h7 E hE] at hY
      rw [keepV_conc hk ho h8 E hE]
      exact hq f (memF_inv h3) ⟨E.φ, σ⟩ rfl X Y hX hY
    · exact factsB_ok hk ho hq h2 f hf

/-! ## the loop -/
variable {V : Val → Prop} {B : Nat} {w0 : World} {nt : Nat} {ms : Tr (Tr (List Nat))} {q0 : Kn}
theorem KnOK.addFs {q : Kn} (hq : KnOK P σ bs q) {F : List Fact} (hF : ∀ f ∈ F, FactOK P σ f) : KnOK P σ bs (addFs F q) := ⟨hF, hq.convs, hq.bytes, hq.lens, hq.reads, hq.calls⟩

/-- how far it is to the end, of a state of the head -/
noncomputable def muC (D : Tr Def) (C : CutS) (i : Nat) (σ : Val) : Nat := match C.mi with
  | none => C.O.length - i
  | some r => match D.get r with
    | some (.arg _ _ hi) => (hi - σ.num r).toNat
    | _ => 0

theorem at_fit (hV : ∀ σ, V σ → Fit P cx ms D bs σ) (hQ : ∀ σ, V σ → KnOK P σ bs q0) {C : CutS} (hR : Rv V D C.R C.K) {S : List Tpl} {from_ : Option Nat} {o : Orc} {q : Kn} {tm : Tm} {h : AH} (hat : atB D C nt S from_ o q tm h = true)
    {σ : Val} (hσ : V σ) (hq : KnOK P σ bs q) {a : Act} {w : World} (hst : St σ B w0 nt tm h a w) :
    ∃ (i : Nat) (T : Tpl) (oi : Orc) (σ' : Val), S[i]? = some T ∧ C.O[i]? = some oi ∧ V σ' ∧ KnOK P σ' bs (addFs (fsAt C i) q0) ∧ St σ' B w0 nt (tmT T) (hT nt T) a w ∧ ∀ j, from_ = some j → muC D C i σ' < muC D C j σ := by
  have hD := (hV σ hσ).defs
  unfold atB at hat
  split at hat
  case h_2 => cases hat
  rename_i i _
  split at hat
  case h_2 => cases hat
  rename_i T oi hT hO
  generalize hm : theM C nt T tm h = m at hat
  obtain ⟨hn, hf⟩ := both_iff.1 (show both (nearB D C q m from_ i) (fitB D C nt T (fsAt C i) q tm h m) = true from hat)
  unfold fitB at hf
  obtain ⟨f1, hf⟩ := both_iff.1 hf
  obtain ⟨f2, hf⟩ := both_iff.1 hf
  obtain ⟨f3, hf⟩ := both_iff.1 hf
  obtain ⟨f4, hf⟩ := both_iff.1 hf
  obtain ⟨f5, f6⟩ := both_iff.1 hf
  have hth := thB_inv f5
  -- the new values
  let val : Nat → Int := fun r => match m.th.get r with
    | some v => match sval σ v with
      | some (_, n) => n
      | none => 0
    | none => σ.num r
  have hval : ∀ r ∈ C.R, (∃ k lo hi, D.get r = some (.arg k lo hi) ∧ lo ≤ val r ∧ val r ≤ hi) ∧ ∀ v, m.th.get r = some v → ∃ kv, sval σ v = some (kv, val r) := fun r hr => by
    rcases hth r hr with ⟨hn, ha⟩ | ⟨v, hv, hb⟩
    · have e : val r = σ.num r := by simp only [val, hn]
      refine ⟨?_, fun v hv => by rw [hn] at hv; cases hv⟩
      unfold isArg at ha
      split at ha
      · rename_i k lo hi hd
        have : lo ≤ σ.num r ∧ σ.num r ≤ hi := hD r _ hd
        exact ⟨k, lo, hi, hd, by rw [e]; exact this.1, by rw [e]; exact this.2⟩
      · cases ha
    · obtain ⟨k, lo, hi, kv, n, h1, h2, h3, h4⟩ := bnd_ok hD hq.facts hb
      have e : val r = n := by simp only [val, hv, h2]
      exact ⟨⟨k, lo, hi, h1, by rw [e]; exact h3, by rw [e]; exact h4⟩, fun v' hv' => by rw [hv] at hv'; cases hv'; exact ⟨kv, by rw [e]; exact h2⟩⟩
  obtain ⟨σ', hσ', n1, n2, n3, n4⟩ := hR.to σ hσ val fun r hr => by
    exact (hval r hr).1
  have fits : Fits D C.R C.K m σ σ' := ⟨fun r hr b hb => by
    obtain ⟨kv, h2⟩ := (hval r hr).2 b hb
    exact ⟨kv, by rw [n1 r hr]; exact h2⟩, n2, n3, n4⟩
  refine ⟨i, T, oi, σ', by rw [← nth_eq]; exact hT, by rw [← nth_eq]; exact hO, hσ', (hQ σ' hσ').addFs (factsB_ok n2 n3 hq.facts f6), st_fit fits hst (Nat.eq_of_beq_eq_true f1) f2 f3 f4, fun j hj => ?_⟩
  subst hj
  have hlt : i < C.O.length := by
    rw [nth_eq] at hO
    exact (List.getElem?_eq_some_iff.1 hO).1
  have hn : @Option.rec Nat (fun _ => Bool) (Nat.ble (Nat.succ j) i) (fun r => @Option.rec AV (fun _ => Bool) false (fun v => both (memB r C.R) (both (succOf D r v) (riseB D q r))) (m.th.get r)) C.mi = true := hn
  unfold muC
  cases hmi : C.mi with
  | none =>
    rw [hmi] at hn
    have : j < i := Nat.le_of_ble_eq_true hn
    show C.O.length - i < C.O.length - j
    omega
  | some r =>
    rw [hmi] at hn
    have hn : @Option.rec AV (fun _ => Bool) false (fun v => both (memB r C.R) (both (succOf D r v) (riseB D q r))) (m.th.get r) = true := hn
    cases hg : m.th.get r with
    | none => rw [hg] at hn; cases hn
    | some v =>
      rw [hg] at hn
      obtain ⟨g1, g2⟩ := both_iff.1 (show both (memB r C.R) (both (succOf D r v) (riseB D q r)) = true from hn)
      obtain ⟨g3, g4⟩ := both_iff.1 g2
      have hr := (memB_iff _ _).1 g1
      obtain ⟨k, lo, hi, kv, h1, h2, h3, h4⟩ := succ_val hD hq.facts g3 g4
      have e : val r = σ.num r + 1 := by simp only [val, hg, h2]
      simp only [h1]
      rw [n1 r hr, e]
      omega

theorem allT_get {f : Nat → Orc → Bool} : ∀ {O : List Orc} {t : Nat}, allT f O t = true → ∀ i o, O[i]? = some o → f (t + i) o = true
  | [], t, _, i, o, ho => by simp at ho
  | x :: O, t, h, i, o, ho => by
    obtain ⟨h1, h2⟩ := both_iff.1 (show both (f t x) (allT f O (Nat.succ t)) = true from h)
    cases i with
    | zero => simp at ho; subst ho; exact h1
    | succ i =>
      have := allT_get h2 i o (by simpa using ho)
      rw [show t + (i + 1) = Nat.succ t + i by omega]; exact this

/-- a loop by the states of its head -/
theorem cut_ok (hV : ∀ σ, V σ → Fit P cx ms D bs σ) (hQ : ∀ σ, V σ → KnOK P σ bs q0) {C : CutS} (hR : Rv V D C.R C.K) (hsk : C.sk = []) {x : Code} {b : MX} (hx : ∀ V' : Val → Prop, (∀ σ, V' σ → V σ) → MOK P bs V' B w0 nt x b.run) {f : Kn → Tm → AH → AOut} {o : Orc} {q : Kn} {tm : Tm} {h : AH} {k : MK} {Q : Exit → Act → World → Prop}
    (hk : KOK P bs V B w0 nt k Q) (hr : cutM D q0 C nt f b o q tm h k = true) {σ : Val} (hσ : V σ) (hq : KnOK P σ bs q) {a : Act} {w : World} (hst : St σ B w0 nt tm h a w) : (Code.loop x).wp P Q a w := by
  have hr : @List.rec TplD (fun _ => Bool) false (fun t0 ts _ => cutS D q0 C nt b o q tm h k (tplsOf D (fun p => addFs (fsAt C p) q0) nt f ts [@Option.rec Tpl (fun _ => Tpl) (mkT nt tm h t0) (fun T => T) t0.lit])) C.T = true := hr
  cases hTs : C.T with
  | nil => rw [hTs] at hr; cases hr
  | cons t0 ts =>
  rw [hTs] at hr
  have hr : cutS D q0 C nt b o q tm h k (tplsOf D (fun p => addFs (fsAt C p) q0) nt f ts [@Option.rec Tpl (fun _ => Tpl) (mkT nt tm h t0) (fun T => T) t0.lit]) = true := hr
  generalize tplsOf D (fun p => addFs (fsAt C p) q0) nt f ts [@Option.rec Tpl (fun _ => Tpl) (mkT nt tm h t0) (fun T => T) t0.lit] = S at hr
  obtain ⟨h1, h2⟩ := both_iff.1 hr
  have key : ∀ (n i : Nat) (T : Tpl) (oi : Orc) (σ : Val) (a : Act) (w : World), S[i]? = some T → C.O[i]? = some oi → V σ → KnOK P σ bs (addFs (fsAt C i) q0) → St σ B w0 nt (tmT T) (hT nt T) a w → muC D C i σ < n → Code.rounds P x Q n a w := by
    intro n
    induction n with
    | zero => intro i T oi σ a w _ _ _ _ _ hm; omega
    | succ n ih =>
      intro i T oi σ a w hS hO hσ hq hst hm
      have h3 := allT_get h2 i oi hO
      simp only [Nat.zero_add] at h3
      rw [hsk, show nth S i = some T by rw [nth_eq]; exact hS] at h3
      have h3 : b.run oi (addFs (fsAt C i) q0) (tmT T) (Go.Abs.hT nt T) (cutK D C nt S (some i) k) = true := h3
      refine hx (fun s => V s ∧ muC D C i s = muC D C i σ) (fun s h => h.1) oi _ _ _ _ (Exit.then (Code.rounds P x Q n) Q) ?_ h3 σ ⟨hσ, rfl⟩ hq a w hst
      intro σ1 hσ1' r o1 q1 hk1 hq1 e a1 w1 ho
      obtain ⟨hσ1, hmu⟩ := hσ1'
      cases r with
      | no => cases hk1
      | norm tm1 h1 =>
        obtain ⟨rfl, hst1⟩ := ho
        have hk1 : atB D C nt S (some i) o1 q1 tm1 h1 = true := hk1
        obtain ⟨i', T', oi', σ', g1, g2, g3, g4, g5, g6⟩ := at_fit hV hQ hR hk1 hσ1 hq1 hst1
        refine ih i' T' oi' σ' a1 w1 g1 g2 g3 g4 g5 ?_
        have := g6 i rfl
        omega
      | exit id tm1 h1 =>
        have := hk σ1 hσ1 (.exit id tm1 h1) o1 q1 hk1 hq1 e a1 w1 ho
        obtain ⟨rfl, _⟩ := ho; exact this
      | ret tm1 h1 =>
        have := hk σ1 hσ1 (.ret tm1 h1) o1 q1 hk1 hq1 e a1 w1 ho
        obtain ⟨rfl, _⟩ := ho; exact this
  obtain ⟨i, T, oi, σ', g1, g2, g3, g4, g5, _⟩ := at_fit hV hQ hR h1 hσ hq hst
  exact wp_loop_rounds _ (key _ i T oi σ' a w g1 g2 g3 g4 g5 (Nat.lt_succ_self _))
end Go.Abs

namespace Go.Abs
open Go.RowKit
variable {P : Program} {σ : Val} {cx : Cx} {D : Tr Def} {bs : List Nat} {V : Val → Prop} {B : Nat} {w0 : World} {nt : Nat} {ms : Tr (Tr (List Nat))} {q0 : Kn}

theorem clear_ok {CT : List CutS} (h : ∀ C ∈ CT, Rv V D C.R C.K ∧ C.sk = []) : ∀ C ∈ clear CT, Rv V D C.R C.K ∧ C.sk = [] := fun C hC => by
  obtain ⟨C', h1, rfl⟩ := List.mem_map.1 hC
  exact ⟨(h C' h1).1, rfl⟩
theorem clr_ok {CT : List CutS} {b : Bool} (h : ∀ C ∈ CT, Rv V D C.R C.K ∧ C.sk = []) : ∀ C ∈ clrIf b CT, Rv V D C.R C.K ∧ C.sk = [] := by
  cases b with
  | false => exact h
  | true => exact clear_ok h

theorem mac_ok {n g : Nat} : ∀ (c : Code) (CT : List CutS) (V : Val → Prop), (∀ σ, V σ → Fit P cx ms D bs σ) → (∀ σ, V σ → KnOK P σ bs q0) → (∀ C ∈ CT, Rv V D C.R C.K ∧ C.sk = []) → codeOK nt (cx.plan.get g) (ms.get g) c = true → MOK P bs V B w0 nt c (mac cx D q0 n g nt c CT).run := by
  intro c
  induction c with
  | skip => intro CT V hV hQ hR _ o q tm h k Q hk hr σ hσ hq a w hst; exact wp_skip (hk σ hσ _ o q hr hq _ _ _ ⟨rfl, hst⟩)
  | label l => intro CT V hV hQ hR _ o q tm h k Q hk hr σ hσ hq a w hst; exact wp_label (hk σ hσ _ o q hr hq _ _ _ ⟨rfl, hst⟩)
  | exit id => intro CT V hV hQ hR _ o q tm h k Q hk hr σ hσ hq a w hst; exact wp_exit (hk σ hσ _ o q hr hq _ _ _ ⟨rfl, hst⟩)
  | ret => intro CT V hV hQ hR _ o q tm h k Q hk hr σ hσ hq a w hst; exact wp_ret (hk σ hσ _ o q hr hq _ _ _ ⟨rfl, hst⟩)
  | region id ops d => intro CT V hV hQ hR hok; exact atom_ok hV hok
  | seq x y ihx ihy =>
    intro CT V hV hQ hR hok o q tm h k Q hk hr σ hσ hq a w hst
    simp only [codeOK] at hok
    split at hok
    case h_2 => cases hok
    rename_i hx
    exact wp_seq (ihx CT V hV hQ hR hx o q tm h _ _ (KOK.seqM (ihy (clrIf (hasLoop x) CT) V hV hQ (clr_ok hR) hok) hk) hr σ hσ hq a w hst)
  | cond x y z ihy ihz =>
    intro CT V hV hQ hR hok o q tm h k Q hk hr σ hσ hq a w hst
    simp only [codeOK] at hok
    split at hok
    case h_2 => cases hok
    rename_i hy
    simp only [mac] at hr
    split at hr
    · rename_i f hf
      have hx := opF_some hf tm
      have hr : condM ((mac cx D q0 n g nt y CT).run o q tm h k) ((mac cx D q0 n g nt z CT).run o q tm h k) (f.run tm) = true := hr
      cases hv : f.run tm <;> rw [hv] at hr <;> first | (cases hr; done) | skip
      rename_i b
      rw [hv] at hx
      obtain ⟨E, rfl, hc⟩ := hst.fact hx
      simp only [conc, Option.some.injEq] at hc
      cases b with
      | true => exact wp_cond_true hc.symm (ihy CT V hV hQ hR hy o q tm h k Q hk hr E.σ hσ hq a w hst)
      | false => exact wp_cond_false hc.symm (ihz CT V hV hQ hR hok o q tm h k Q hk hr E.σ hσ hq a w hst)
    · cases hr
  | block id x ih =>
    intro CT V hV hQ hR hok o q tm h k Q hk hr σ hσ hq a w hst
    simp only [codeOK] at hok
    exact wp_block (ih CT V hV hQ hR hok o q tm h _ _ (KOK.blockM hk) hr σ hσ hq a w hst)
  | loop x ih =>
    intro CT V hV hQ hR hok
    cases hS : mapSh x with
    | some S =>
      have := atom_ok (B := B) (w0 := w0) hV (n := n) hok
      simp only [mac, hS]; exact this
    | none =>
      intro o q tm h k Q hk hr σ hσ hq a w hst
      simp only [mac, hS] at hr
      simp only [codeOK] at hok
      have hr : @Option.rec (Nat × Orc) (fun _ => Bool) (loopM (mac cx D q0 n g nt x (clear CT)) 100000 o q tm h k) (fun p => @Option.rec CutS (fun _ => Bool) false (fun C => cutM D q0 C nt (fun q tm h => (den cx g x).run q (callN cx q n) tm h) (mac cx D q0 n g nt x []) p.2 q tm h k) (nth CT p.1)) (isCut o) = true := hr
      cases hc : isCut o with
      | none =>
        rw [hc] at hr
        exact wp_loop_rounds 100000 (rounds_ok (ih (clear CT) V hV hQ (clear_ok hR) hok) 100000 o q tm h k Q hk hr σ hσ hq a w hst)
      | some p =>
        rw [hc] at hr
        have hr : @Option.rec CutS (fun _ => Bool) false (fun C => cutM D q0 C nt (fun q tm h => (den cx g x).run q (callN cx q n) tm h) (mac cx D q0 n g nt x []) p.2 q tm h k) (nth CT p.1) = true := hr
        cases hC : nth CT p.1 with
        | none => rw [hC] at hr; cases hr
        | some C =>
          rw [hC] at hr
          have hmem : C ∈ CT := by rw [nth_eq] at hC; exact List.mem_of_getElem? hC
          exact cut_ok hV hQ (hR C hmem).1 (hR C hmem).2 (fun V' hV' => ih [] V' (fun σ h => hV σ (hV' σ h)) (fun σ h => hQ σ (hV' σ h)) (fun _ h => by cases h) hok) hk hr hσ hq hst
  | scope x ih =>
    intro CT V hV hQ hR hok o q tm h k Q hk hr σ hσ hq a w hst
    simp only [codeOK] at hok
    refine wp_scope_straight (ih CT V hV hQ hR hok o q tm h k _ ?_ hr σ hσ hq a w hst)
    intro σ1 hσ1 r o1 q1 h1 hq1 e a1 w1 ho
    have hq := hk σ1 hσ1 r o1 q1 h1 hq1 e a1 w1 ho
    cases r with
    | no => exact ho.elim
    | norm tm' h' => obtain ⟨rfl, _⟩ := ho; exact hq
    | exit id tm' h' => obtain ⟨rfl, _⟩ := ho; exact hq
    | ret tm' h' => obtain ⟨rfl, _⟩ := ho; exact hq
  | goto l => intro CT V hV hQ hR _ o q tm h k Q hk hr; cases hr
  | rangeFunc f ps a b _ _ => intro CT V hV hQ hR _ o q tm h k Q hk hr; cases hr
  | refuse w => intro CT V hV hQ hR _ o q tm h k Q hk hr; cases hr

/-- a law whose arguments hold no memory -/
theorem law_of_mac (hV : ∀ σ, V σ → Fit P cx ms D bs σ) (hQ : ∀ σ, V σ → KnOK P σ bs q0) {CT : List CutS} (hR : ∀ C ∈ CT, Rv V D C.R C.K ∧ C.sk = []) {n g : Nat} {o : Orc} {q : Kn} {args : List AV} (hr : (macF cx D q0 CT n g).run o q args = true) {σ : Val} (hσ : V σ) (hq : KnOK P σ bs q) {A : List Value} (hA : concs (noEnv σ) args = some A) (w : World)
    (hg : ∀ g j v, σ.glob g j = some v → g < w.heap.size ∧ w.cell? ⟨g, j, none⟩ = some v) : Calls P g ⟨A⟩ w fun e w' => e = .returned (.bool true) ∧ Below w.heap.size w w' := by
  have hp0 := (hV σ hσ).prog q hq
  unfold macF at hr
  split at hr
  case h_2 => cases hr
  rename_i fn hgf
  split at hr
  case h_2 => cases hr
  rename_i c hb
  have hfn := hp0.fns g fn hgf
  have hP := hp0.funcs g fn hgf
  simp only [fnOK, hb] at hfn
  split at hfn
  case h_2 => cases hfn
  have hr : (mac cx D q0 n g fn.ntmps c CT).run o q (initR args 0 Tm.nil) ⟨.nil, 0⟩ (endM (resF cx fn.results.toList).run) = true := hr
  rw [initR_eq] at hr
  refine calls_of_wp hP hb (mac_ok (B := w.heap.size) (w0 := w) c CT V hV hQ hR hfn o q _ _ _ _ ?_ hr σ hσ hq _ w ⟨noEnv σ, rfl, init_act hA fn.ntmps, rel_none hg 0, fun _ _ => rfl⟩)
  intro σ1 hσ1 r o1 q1 h1 hq1 e a w1 ho
  have h1 : isTrueR (finK (resF cx fn.results.toList).run r) = true := h1
  obtain ⟨h', h2⟩ := isTrue_inv h1
  have hp1 := (hV σ1 hσ1).prog q1 hq1
  have h3 := finK_eq (cx := cx.put q1) fn h2
  have key : ∀ {tm : Tm} {h : AH}, (match resAs (cx.put q1) tm h fn.results.toList with
      | some vs => some (tup1 vs, h)
      | none => none) = some (AV.bool true, h') → St σ1 w.heap.size w fn.ntmps tm h a w1 → a.defers = [] ∧ (results fn a.tmps).run P w1 = .ok (.bool true) w1 ∧ Below w.heap.size w w1 := by
    intro tm h hk hst
    obtain ⟨E, rfl, ha, hrel, _⟩ := hst
    split at hk
    · rename_i vs hvs
      simp only [Option.some.injEq, Prod.mk.injEq] at hk
      obtain ⟨VS, hVS, hrun⟩ := resAs_sound (P := P) hp1.ok rfl ha.tm hrel hvs
      have ht := tup1_sound hVS
      rw [hk.1] at ht
      simp only [conc, Option.some.injEq] at ht
      refine ⟨ha.defers, ?_, hrel.below⟩
      unfold results
      rw [Array.mapM_eq_mapM_toList]
      simp only [bind_pure_comp, Functor.map_map, Sem.run_map]
      refine (congrArg (fun q : Result (List Value) => Result.andThen q _) hrun).trans ?_
      show Result.ok (if h : (⟨VS⟩ : Array Value).size = 1 then (⟨VS⟩ : Array Value)[0] else .tuple ⟨VS⟩) w1 = _
      rw [← ht]
    · cases hk
  cases r with
  | no => exact ho.elim
  | exit id tm h => simp [finA] at h3
  | norm tm h =>
    obtain ⟨rfl, hst⟩ := ho
    obtain ⟨h4, h5, h6⟩ := key h3 hst
    exact ⟨h4, _, h5, rfl, h6⟩
  | ret tm h =>
    obtain ⟨rfl, hst⟩ := ho
    obtain ⟨h4, h5, h6⟩ := key h3 hst
    exact ⟨h4, _, h5, rfl, h6⟩
end Go.Abs

namespace Go.Abs
open Go.RowKit
variable {P : Program} {bs : List Nat}

/-! ## valuations by definitions -/
def valF (f : Nat → Int) : Val := ⟨f, fun _ _ => none, fun _ => undef⟩
def symLt (s : Nat) : AV → Bool
  | .int _ _ => true
  | .sym _ t => Nat.blt t s
  | _ => false
def kindIs (k : IntKind) : AV → Bool
  | .int j _ => kEq k j
  | .sym j _ => kEq k j
  | _ => false
/-- an argument that is above 0 -/
def posArg (as : List Def) (t : Nat) : Bool := match as[t]? with
  | some (.arg _ lo _) => intLt 0 lo
  | _ => false
def okOp (as : List Def) (op : BinOp) (k : IntKind) (y : AV) : Bool := match op with
  | .add | .sub | .mul | .and | .or | .xor => kindIs k y
  | .rem | .quo => match y with
    | .int j c => both (kEq k j) (!intEq c 0)
    | .sym j t => both (kEq k j) (posArg as t)
    | _ => false
  | .shl | .shr => match y with
    | .int _ c => !intLt c 0
    | _ => false
  | _ => false
def wfDef (as : List Def) (s : Nat) : Def → Bool
  | .arg _ _ _ => false
  | .bin op k x y => both (both (symLt s x) (symLt s y)) (both (kindIs k x) (okOp as op k y))
  | .conv _ x => symLt s x
def wfDs (as : List Def) : Nat → List Def → Bool
  | _, [] => true
  | s, d :: l => both (wfDef as s d) (wfDs as (s + 1) l)
def opv (f : Nat → Int) (op : BinOp) (x y : AV) : Int := match sval (valF f) x, sval (valF f) y with
  | some (k, a), some (j, b) => match binInt op k a j b with
    | some (.int _ c) => c
    | _ => 0
  | _, _ => 0
def convv (f : Nat → Int) (k : IntKind) (x : AV) : Int := match sval (valF f) x with
  | some (_, a) => k.wrap a
  | none => 0
def upd (f : Nat → Int) (s : Nat) (v : Int) : Nat → Int := fun t => if t = s then v else f t
def defv (f : Nat → Int) : Def → Option Int
  | .arg _ _ _ => none
  | .bin op _ x y => some (opv f op x y)
  | .conv k x => some (convv f k x)
def updO (f : Nat → Int) (s : Nat) : Option Int → Nat → Int
  | some v => upd f s v
  | none => f
def mkNum : List Def → Nat → (Nat → Int) → Nat → Int
  | [], _, f => f
  | d :: l, s, f => mkNum l (s + 1) (updO f s (defv f d))

theorem mkNum_lt : ∀ (l : List Def) (s : Nat) (f : Nat → Int) (t : Nat), t < s → mkNum l s f t = f t
  | [], _, _, _, _ => rfl
  | d :: l, s, f, t, h => by
    simp only [mkNum]
    rw [mkNum_lt l (s + 1) _ t (by omega)]
    cases defv f d with
    | none => rfl
    | some v => simp only [updO, upd]; rw [if_neg (by omega)]
theorem sval_upto {f g : Nat → Int} {s : Nat} (h : ∀ t, t < s → f t = g t) {x : AV} (hx : symLt s x = true) : sval (valF f) x = sval (valF g) x := by
  cases x <;> simp only [symLt, Bool.false_eq_true] at hx <;> simp only [sval]
  rename_i k t
  have ht : t < s := by rw [natBlt_eq] at hx; simpa using hx
  simp only [valF]; rw [h t ht]
theorem kindIs_sval {k : IntKind} {s : Nat} {x : AV} (h : kindIs k x = true) (h2 : symLt s x = true) (f : Nat → Int) : ∃ a, sval (valF f) x = some (k, a) := by
  cases x <;> simp only [symLt, Bool.false_eq_true] at h2 <;> simp only [kindIs] at h <;> (have := kEq_iff.1 h; subst this; exact ⟨_, rfl⟩)
theorem symLt_sval {s : Nat} {x : AV} (h2 : symLt s x = true) (f : Nat → Int) : ∃ k a, sval (valF f) x = some (k, a) := by
  cases x <;> simp only [symLt, Bool.false_eq_true] at h2 <;> exact ⟨_, _, rfl⟩
theorem okOp_def {as : List Def} {op : BinOp} {k : IntKind} {y : AV} (h : okOp as op k y = true) {s : Nat} (h2 : symLt s y = true) (f : Nat → Int) (hf : ∀ t k lo hi, as[t]? = some (.arg k lo hi) → t < s ∧ lo ≤ f t) (a : Int) : ∃ j b c, sval (valF f) y = some (j, b) ∧ binInt op k a j b = some (.int k c) := by
  have same : kEq k k = true := kEq_iff.2 rfl
  have plain : kindIs k y = true → (∀ b, ∃ c, binInt op k a k b = some (.int k c)) → ∃ j b c, sval (valF f) y = some (j, b) ∧ binInt op k a j b = some (.int k c) := fun hk hb => by
    obtain ⟨b, e⟩ := kindIs_sval hk h2 f
    obtain ⟨c, hc⟩ := hb b
    exact ⟨k, b, c, e, hc⟩
  cases op <;> simp only [okOp, Bool.false_eq_true] at h
  case add => exact plain h fun b => by simp only [binInt, same, binI]; exact ⟨_, rfl⟩
  case sub => exact plain h fun b => by simp only [binInt, same, binI]; exact ⟨_, rfl⟩
  case mul => exact plain h fun b => by simp only [binInt, same, binI]; exact ⟨_, rfl⟩
  case and => exact plain h fun b => by simp only [binInt, same, binI]; exact ⟨_, rfl⟩
  case or => exact plain h fun b => by simp only [binInt, same, binI]; exact ⟨_, rfl⟩
  case xor => exact plain h fun b => by simp only [binInt, same, binI]; exact ⟨_, rfl⟩
  case quo =>
    split at h
    · rename_i j c
      obtain ⟨h3, h4⟩ := both_iff.1 h
      have := kEq_iff.1 h3; subst this
      cases e : intEq c 0 with
      | true => rw [e] at h4; cases h4
      | false => exact ⟨k, c, _, rfl, by simp only [binInt, same, binI, e]; rfl⟩
    · rename_i j t
      obtain ⟨h3, h4⟩ := both_iff.1 h
      have := kEq_iff.1 h3; subst this
      unfold posArg at h4
      split at h4
      · rename_i k2 lo hi hd
        have h5 := intLt_iff.1 h4
        have h6 := (hf t k2 lo hi hd).2
        have e : intEq (f t) 0 = false := by
          cases e : intEq (f t) 0 with
          | true => have := intEq_iff.1 e; omega
          | false => rfl
        exact ⟨k, f t, _, rfl, by simp only [binInt, same, binI, e]; rfl⟩
      · cases h4
    · cases h
  case rem =>
    split at h
    · rename_i j c
      obtain ⟨h3, h4⟩ := both_iff.1 h
      have := kEq_iff.1 h3; subst this
      cases e : intEq c 0 with
      | true => rw [e] at h4; cases h4
      | false => exact ⟨k, c, _, rfl, by simp only [binInt, same, binI, e]; rfl⟩
    · rename_i j t
      obtain ⟨h3, h4⟩ := both_iff.1 h
      have := kEq_iff.1 h3; subst this
      unfold posArg at h4
      split at h4
      · rename_i k2 lo hi hd
        have h5 := intLt_iff.1 h4
        have h6 := (hf t k2 lo hi hd).2
        have e : intEq (f t) 0 = false := by
          cases e : intEq (f t) 0 with
          | true => have := intEq_iff.1 e; omega
          | false => rfl
        exact ⟨k, f t, _, rfl, by simp only [binInt, same, binI, e]; rfl⟩
      · cases h4
    · cases h
  case shl =>
    split at h
    · rename_i j c
      cases e : intLt c 0 with
      | true => rw [e] at h; cases h
      | false => exact ⟨j, c, _, rfl, by simp only [binInt, shlI, e]; rfl⟩
    · cases h
  case shr =>
    split at h
    · rename_i j c
      cases e : intLt c 0 with
      | true => rw [e] at h; cases h
      | false => exact ⟨j, c, _, rfl, by simp only [binInt, shrI, e]; rfl⟩
    · cases h

theorem mkNum_ok {as : List Def} : ∀ (l : List Def) (s : Nat) (f : Nat → Int), (∀ t k lo hi, as[t]? = some (.arg k lo hi) → t < s ∧ lo ≤ f t) → wfDs as s l = true → ∀ j d, l[j]? = some d → DefOK (valF (mkNum l s f)) (s + j) d
  | [], _, _, _, _, j, d, h => by simp at h
  | d0 :: l, s, f, hf, hw, j, d, hd => by
    simp only [wfDs] at hw
    obtain ⟨h1, h2⟩ := both_iff.1 hw
    cases j with
    | succ j =>
      have := mkNum_ok l (s + 1) (updO f s (defv f d0)) (fun t k lo hi ht => by
        obtain ⟨h3, h4⟩ := hf t k lo hi ht
        refine ⟨by omega, ?_⟩
        cases defv f d0 with
        | none => exact h4
        | some v => simp only [updO, upd]; rw [if_neg (by omega)]; exact h4) h2 j d (by simpa using hd)
      rw [show s + (j + 1) = s + 1 + j by omega]
      exact this
    | zero =>
      simp at hd; subst hd
      have e0 : mkNum (d0 :: l) s f (s + 0) = updO f s (defv f d0) s := by
        simp only [mkNum]; exact mkNum_lt l (s + 1) _ s (by omega)
      have agree : ∀ t, t < s → mkNum (d0 :: l) s f t = f t := fun t ht => mkNum_lt _ _ _ t ht
      cases d0 with
      | arg k lo hi => simp [wfDef] at h1
      | bin op k x y =>
        simp only [wfDef] at h1
        obtain ⟨h3, h4⟩ := both_iff.1 h1
        obtain ⟨hx, hy⟩ := both_iff.1 h3
        obtain ⟨hk, ho⟩ := both_iff.1 h4
        obtain ⟨a, ha⟩ := kindIs_sval hk hx f
        obtain ⟨j, b, c, hb, hc⟩ := okOp_def ho hy f hf a
        refine ⟨a, j, b, by rw [sval_upto agree hx]; exact ha, by rw [sval_upto agree hy]; exact hb, ?_⟩
        show binInt op k a j b = some (.int k (mkNum (.bin op k x y :: l) s f (s + 0)))
        rw [e0]
        simp only [defv, updO, upd, if_true, opv, ha, hb, hc]
      | conv k x =>
        simp only [wfDef] at h1
        obtain ⟨j, a, ha⟩ := symLt_sval h1 f
        refine ⟨j, a, by rw [sval_upto agree h1]; exact ha, ?_⟩
        show mkNum (.conv k x :: l) s f (s + 0) = _
        rw [e0]
        simp only [defv, updO, upd, if_true, convv, ha]

/-! ## the arguments, and what is worked out of them -/
def argsL : List Def → List Int → Prop
  | [], [] => True
  | .arg _ lo hi :: ds, v :: vs => (lo ≤ v ∧ v ≤ hi) ∧ argsL ds vs
  | _, _ => False
noncomputable def tabD (as ds : List Def) : Tr Def := trOf as.length ds (trOf 0 as .nil)
def atL (vs : List Int) : Nat → Int := fun i => (vs[i]?).getD 0
/-- the valuation -/
def valD (as ds : List Def) (vs : List Int) : Val := valF (mkNum ds as.length (atL vs))
theorem argsL_get : ∀ {as : List Def} {vs : List Int}, argsL as vs → ∀ j d, as[j]? = some d → ∃ k lo hi, d = .arg k lo hi ∧ lo ≤ atL vs j ∧ atL vs j ≤ hi
  | [], [], _, j, d, h => by simp at h
  | .arg k lo hi :: ds, v :: vs, h, j, d, hd => by
    cases j with
    | zero => simp at hd; subst hd; exact ⟨k, lo, hi, rfl, h.1⟩
    | succ j =>
      have := argsL_get h.2 j d (by simpa using hd)
      simpa [atL] using this
  | [], _ :: _, h, _, _, _ => h.elim
  | .bin _ _ _ _ :: _, _, h, _, _, _ => (by simp [argsL] at h)
  | .conv _ _ :: _, _, h, _, _, _ => (by simp [argsL] at h)
  | .arg _ _ _ :: _, [], h, _, _, _ => h.elim
theorem tabD_get (as ds : List Def) (s : Nat) : (tabD as ds).get s = if s < as.length then as[s]? else ds[s - as.length]? := by
  unfold tabD
  rw [trOf_get, trOf_get]
  by_cases h : s < as.length
  · rw [if_neg (by omega), if_pos (by omega), if_pos h]; simp
  · rw [if_neg h]
    by_cases h2 : as.length ≤ s ∧ s < as.length + ds.length
    · rw [if_pos h2]
    · rw [if_neg h2, if_neg (by omega)]
      rw [List.getElem?_eq_none (by omega)]; simp
theorem valD_arg {as ds : List Def} {vs : List Int} {s : Nat} (h : s < as.length) : (valD as ds vs).num s = atL vs s := mkNum_lt ds as.length _ s h
theorem valD_ok {as ds : List Def} {vs : List Int} (hw : wfDs as as.length ds = true) (ha : argsL as vs) : DefsOK (valD as ds vs) (tabD as ds) := by
  intro s d hd
  rw [tabD_get] at hd
  split at hd
  · rename_i hs
    obtain ⟨k, lo, hi, rfl, h1, h2⟩ := argsL_get ha s d hd
    show lo ≤ (valD as ds vs).num s ∧ (valD as ds vs).num s ≤ hi
    rw [valD_arg hs]; exact ⟨h1, h2⟩
  · rename_i hs
    have := mkNum_ok ds as.length (atL vs) (fun t k lo hi ht => by
      obtain ⟨k', lo', hi', e, h1, _⟩ := argsL_get ha t _ ht
      cases e
      exact ⟨(List.getElem?_eq_some_iff.1 ht).1, h1⟩) hw _ d hd
    rw [show as.length + (s - as.length) = s by omega] at this
    exact this

/-! ## bytes -/
noncomputable def bytesB (D : Tr Def) : List Nat → Bool
  | [] => true
  | s :: l => both (match ivS D 40 s with
    | some v => both (leB 0 v.lo) (intLt v.hi 256)
    | none => false) (bytesB D l)
theorem bytesB_ok {σ : Val} {D : Tr Def} (hD : DefsOK σ D) : ∀ {l : List Nat}, bytesB D l = true → ∀ s ∈ l, 0 ≤ σ.num s ∧ σ.num s < 256
  | [], _, s, hs => by cases hs
  | t :: l, h, s, hs => by
    simp only [bytesB] at h
    obtain ⟨h1, h2⟩ := both_iff.1 h
    rcases List.mem_cons.1 hs with rfl | hs
    · split at h1
      · rename_i v hv
        obtain ⟨h3, h4⟩ := both_iff.1 h1
        have h3 := leB_iff.1 h3
        have h4 := intLt_iff.1 h4
        have := ivS_ok hD 40 _ _ hv
        exact ⟨Int.le_trans h3 this.1, Int.lt_of_le_of_lt this.2 h4⟩
      · cases h1
    · exact bytesB_ok hD h2 s hs

theorem fit_of {pl : Tr (Tr (List (List Nat)))} {ms : Tr (Tr (List Nat))} {sums : Tr Sum} (a : Asked P pl ms) {σ : Val} (hs : ∀ g s, sums.get g = some s → SumOK P σ g s) {D : Tr Def} (hD : DefsOK σ D) (hb : bytesB D bs = true) : Fit P (cxW P pl .nil sums) ms D bs σ :=
  ⟨fun q hq => progOK_W a hq.facts hq.convs (by rw [hq.bytes]; exact tabB_ok (bytesB_ok hD hb)) hq.lens hq.reads hq.calls globs_nil hs, hD⟩

/-! ## plain arguments -/
def avF (f : Nat → Int) : AV → Value
  | .int k n => .int k n
  | .sym k s => .int k (f s)
  | .bool b => .bool b
  | _ => undef
def avA (f : Nat → Int) : AV → Value
  | .agg cs => .agg ⟨cs.map (avF f)⟩
  | x => avF f x
def leafLt (m : Nat) : AV → Bool
  | .int _ _ => true
  | .sym _ s => Nat.blt s m
  | .bool _ => true
  | _ => false
def argLt (m : Nat) : AV → Bool
  | .agg cs => cs.all (leafLt m)
  | x => leafLt m x
theorem leaf_conc {as ds : List Def} {vs : List Int} {x : AV} (h : leafLt as.length x = true) : conc (noEnv (valD as ds vs)) x = some (avF (atL vs) x) ∧ x.atom = true := by
  cases x <;> simp only [leafLt, Bool.false_eq_true] at h
  · exact ⟨rfl, rfl⟩
  · exact ⟨rfl, rfl⟩
  · refine ⟨?_, rfl⟩
    rw [natBlt_eq] at h
    simp only [conc, noEnv, avF]; rw [valD_arg (by simpa using h)]
theorem leafs_conc {as ds : List Def} {vs : List Int} : ∀ {cs : List AV}, cs.all (leafLt as.length) = true → concs (noEnv (valD as ds vs)) cs = some (cs.map (avF (atL vs))) ∧ cs.all AV.atom = true
  | [], _ => ⟨rfl, rfl⟩
  | c :: cs, h => by
    simp only [List.all_cons, Bool.and_eq_true] at h
    obtain ⟨h1, h2⟩ := leaf_conc (ds := ds) (vs := vs) h.1
    obtain ⟨h3, h4⟩ := leafs_conc (ds := ds) (vs := vs) h.2
    exact ⟨concs_mk h1 h3, by simp [h2, h4]⟩
theorem args_conc {as ds : List Def} {vs : List Int} : ∀ {args : List AV}, args.all (argLt as.length) = true → concs (noEnv (valD as ds vs)) args = some (args.map (avA (atL vs)))
  | [], _ => rfl
  | x :: args, h => by
    simp only [List.all_cons, Bool.and_eq_true] at h
    refine concs_mk ?_ (args_conc h.2)
    have h1 := h.1
    cases x with
    | agg cs =>
      obtain ⟨h3, h4⟩ := leafs_conc (ds := ds) (vs := vs) h1
      exact conc_agg h4 h3
    | bool b => exact (leaf_conc (x := .bool b) h1).1
    | int k n => exact (leaf_conc (x := .int k n) h1).1
    | sym k s => exact (leaf_conc (x := .sym k s) h1).1
    | _ => simp [argLt, leafLt] at h1

theorem law_mac {pl : Tr (Tr (List (List Nat)))} {ms : Tr (Tr (List Nat))} {sums : Tr Sum} (a : Asked P pl ms) (hs : ∀ {σ : Val} g s, sums.get g = some s → SumOK P σ g s) {as ds : List Def} (hw : wfDs as as.length ds = true) (hb : bytesB (tabD as ds) bs = true) {args : List AV} (hargs : args.all (argLt as.length) = true)
    {vs : List Int} (ha : argsL as vs) {q : Kn} (hq : KnOK P (valD as ds vs) bs q) {n g : Nat} {o : Orc} (hr : (macF (cxW P pl .nil sums) (tabD as ds) ⟨[], [], tabB bs, [], [], []⟩ [] n g).run o q args = true) (w : World) :
    Calls P g ⟨args.map (avA (atL vs))⟩ w fun e w' => e = .returned (.bool true) ∧ Below w.heap.size w w' :=
  law_of_mac (V := fun σ => σ = valD as ds vs) (fun σ hσ => by subst hσ; exact fit_of a hs (valD_ok hw ha) hb) (fun _ _ => KnOK.nil) (fun _ h => by cases h) hr rfl hq (args_conc hargs) w (fun _ _ _ h => by cases h)

/-! ## lots: some of a symbol's values -/
noncomputable def addVals (D : Tr Def) : List (Nat × Int) → Kn → Option Kn
  | [], q => some q
  | (s, v) :: l, q => match addVal D s v q with
    | some q => addVals D l q
    | none => none
theorem addVals_ok {σ : Val} {D : Tr Def} (hD : DefsOK σ D) : ∀ {l : List (Nat × Int)} {q q' : Kn}, addVals D l q = some q' → (∀ p ∈ l, σ.num p.1 = p.2) → KnOK P σ bs q → KnOK P σ bs q'
  | [], q, q', h, _, hq => by cases h; exact hq
  | (s, v) :: l, q, q', h, hv, hq => by
    simp only [addVals] at h
    split at h
    · rename_i q1 h1
      exact addVals_ok hD h (fun p hp => hv p (List.mem_cons_of_mem _ hp)) (addVal_ok hD h1 (hv (s, v) List.mem_cons_self) hq)
    · cases h
noncomputable def lotB (cx : Cx) (D : Tr Def) (bs : List Nat) (n g : Nat) (args : List AV) (l : List (Nat × Int)) (o : Orc) : Bool := onK (addVals D l ⟨[], [], tabB bs, [], [], []⟩) fun q => (macF cx D ⟨[], [], tabB bs, [], [], []⟩ [] n g).run o q args
theorem law_lot {pl : Tr (Tr (List (List Nat)))} {ms : Tr (Tr (List Nat))} {sums : Tr Sum} (a : Asked P pl ms) (hs : ∀ {σ : Val} g s, sums.get g = some s → SumOK P σ g s) {as ds : List Def} (hw : wfDs as as.length ds = true) (hb : bytesB (tabD as ds) bs = true) {args : List AV} (hargs : args.all (argLt as.length) = true)
    {vs : List Int} (ha : argsL as vs) {n g : Nat} {o : Orc} {l : List (Nat × Int)} (hr : lotB (cxW P pl .nil sums) (tabD as ds) bs n g args l o = true) (hl : ∀ p ∈ l, (valD as ds vs).num p.1 = p.2) (w : World) :
    Calls P g ⟨args.map (avA (atL vs))⟩ w fun e w' => e = .returned (.bool true) ∧ Below w.heap.size w w' := by
  obtain ⟨q, h1, h2⟩ := onK_inv hr
  exact law_mac a hs hw hb hargs ha (addVals_ok (valD_ok hw ha) h1 hl KnOK.nil) h2 w
/-- a symbol's values -/
theorem val_among {as ds : List Def} (hw : wfDs as as.length ds = true) {vs : List Int} (ha : argsL as vs) {s : Nat} {lo hi : Int} (h : (match ivS (tabD as ds) 40 s with
    | some v => both (leB lo v.lo) (leB v.hi hi)
    | none => false) = true) : lo ≤ (valD as ds vs).num s ∧ (valD as ds vs).num s ≤ hi := by
  split at h
  · rename_i v hv
    obtain ⟨h1, h2⟩ := both_iff.1 h
    have := ivS_ok (valD_ok hw ha) 40 _ _ hv
    exact ⟨Int.le_trans (leB_iff.1 h1) this.1, Int.le_trans this.2 (leB_iff.1 h2)⟩
  · cases h
end Go.Abs

namespace Go.Abs
open Go.RowKit
variable {P : Program} {bs : List Nat} {D : Tr Def}

/-! # lists that came in -/
/-- what a list holds at a place: symbols -/
structure Win where
  j : Nat
  es : Nat
  c : Bool
  n : Nat
  cells : List (IntKind × Nat)
def Win.read (w : Win) : FRead := ⟨w.j, w.es, w.c, w.n, w.cells.map fun p => .sym p.1 p.2⟩

theorem sval_num {σ σ' : Val} (h : σ.num = σ'.num) (x : AV) : sval σ x = sval σ' x := by cases x <;> simp only [sval, h]
theorem defOK_num {σ σ' : Val} (h : σ.num = σ'.num) {s : Nat} {d : Def} (hd : DefOK σ s d) : DefOK σ' s d := by
  cases d with
  | arg k lo hi => simp only [DefOK] at hd ⊢; rw [← h]; exact hd
  | bin op k x y =>
    obtain ⟨a, j, b, h1, h2, h3⟩ := hd
    exact ⟨a, j, b, by rw [← sval_num h]; exact h1, by rw [← sval_num h]; exact h2, by rw [← h]; exact h3⟩
  | conv k x =>
    obtain ⟨j, a, h1, h2⟩ := hd
    exact ⟨j, a, by rw [← sval_num h]; exact h1, by rw [← h]; exact h2⟩
def valL (as ds : List Def) (vs : List Int) (gl : Nat → Nat → Option Value) (oq : Nat → Value) : Val := ⟨mkNum ds as.length (atL vs), gl, oq⟩
theorem valL_ok {as ds : List Def} {vs : List Int} {gl : Nat → Nat → Option Value} {oq : Nat → Value} (hw : wfDs as as.length ds = true) (ha : argsL as vs) : DefsOK (valL as ds vs gl oq) (tabD as ds) :=
  fun s d hd => defOK_num (σ := valD as ds vs) rfl (valD_ok hw ha s d hd)
theorem valL_arg {as ds : List Def} {vs : List Int} {gl : Nat → Nat → Option Value} {oq : Nat → Value} {s : Nat} (h : s < as.length) : (valL as ds vs gl oq).num s = atL vs s := mkNum_lt ds as.length _ s h

/-- what hangs on other symbols alone stays -/
theorem keep_num {σ σ' : Val} (h1 : DefsOK σ D) (h2 : DefsOK σ' D) {K : List Nat} (hk : ∀ s k lo hi, D.get s = some (.arg k lo hi) → s ∉ K → σ'.num s = σ.num s) : ∀ (f s : Nat), keepS D K f s = true → σ'.num s = σ.num s
  | 0, _, h => by cases h
  | f + 1, s, h => by
    simp only [keepS] at h
    split at h
    · cases h
    rename_i hm
    have hm : s ∉ K := fun hc => by rw [(memB_iff _ _).2 hc] at hm; cases hm
    have opd : ∀ x : AV, keepA (keepS D K f) x = true → sval σ' x = sval σ x := fun x hx => by
      cases x <;> first | rfl | skip
      rename_i k t
      simp only [sval]; rw [keep_num h1 h2 hk f t hx]
    split at h
    · rename_i k lo hi hd; exact hk s k lo hi hd hm
    · rename_i op k x y hd
      obtain ⟨ha, hb⟩ := both_iff.1 h
      obtain ⟨a, j, b, e1, e2, e3⟩ := h1 s _ hd
      obtain ⟨a', j', b', g1, g2, g3⟩ := h2 s _ hd
      rw [opd x ha, e1] at g1; cases g1
      rw [opd y hb, e2] at g2; cases g2
      rw [e3] at g3
      simp only [Option.some.injEq, AV.int.injEq, true_and] at g3
      exact g3.symm
    · rename_i k x hd
      obtain ⟨j, a, e1, e2⟩ := h1 s _ hd
      obtain ⟨j', a', g1, g2⟩ := h2 s _ hd
      rw [opd x h, e1] at g1; cases g1
      rw [g2, e2]
    · cases h

theorem argsL_mk : ∀ {as : List Def} {o : Nat} {g : Nat → Int}, (∀ j d, as[j]? = some d → ∃ k lo hi, d = .arg k lo hi ∧ lo ≤ g (o + j) ∧ g (o + j) ≤ hi) → argsL as ((List.range' o as.length).map g)
  | [], o, g, _ => trivial
  | d :: as, o, g, h => by
    obtain ⟨k, lo, hi, rfl, h1, h2⟩ := h 0 d (by simp)
    refine ⟨⟨h1, h2⟩, ?_⟩
    exact argsL_mk (o := o + 1) fun j d hd => by
      have := h (j + 1) d (by simpa using hd)
      rwa [show o + (j + 1) = o + 1 + j by omega] at this
theorem atL_mk {n : Nat} {g : Nat → Int} {i : Nat} (h : i < n) : atL ((List.range' 0 n).map g) i = g i := by
  simp [atL, h]

/-- the valuations of a law with lists -/
def VL (as ds : List Def) (rv : List Int) (gl : Nat → Nat → Option Value) (oq : Nat → Value) (W : List Win) (σ : Val) : Prop :=
  ∃ vs, argsL as vs ∧ (∀ i, i < rv.length → atL vs i = atL rv i) ∧ σ = valL as ds vs gl oq ∧ ∀ w ∈ W, FReadOK σ w.read

/-- a window whose symbols are told anew with its place -/
noncomputable def dynB (D : Tr Def) (K X : List Nat) (w : Win) : Bool := both (match w.c with
  | true => true
  | false => keepS D X 40 w.n) (w.cells.all fun p => both (memB p.2 X) (memB p.2 K))
/-- one whose symbols and place stay -/
noncomputable def staB (D : Tr Def) (K : List Nat) (w : Win) : Bool := both (match w.c with
  | true => true
  | false => keepS D K 40 w.n) (w.cells.all fun p => keepS D K 40 p.2)
/-- what a list's elements are -/
def ElemOK (D : Tr Def) (gl : Nat → Nat → Option Value) (oq : Nat → Value) (w : Win) : Prop :=
  ∀ (a : Addr) (len cap : Nat), oq w.j = .slice (some a) len cap → ∀ n : Nat, n < len → ∀ c k s, w.cells[c]? = some (k, s) →
    ∃ (v : Int) (k' : IntKind) (lo hi : Int), gl a.block (a.off + n * w.es + c) = some (.int k v) ∧ D.get s = some (.arg k' lo hi) ∧ lo ≤ v ∧ v ≤ hi
noncomputable def loopsB (as : List Def) (nr : Nat) (R K X : List Nat) : Bool := both (R.all fun r => both (both (Nat.ble nr r) (Nat.blt r as.length)) (both (memB r K) (!memB r X))) (both (X.all fun x => both (both (Nat.ble nr x) (Nat.blt x as.length)) (memB x K)) (K.all fun k => match memB k R with
  | true => true
  | false => memB k X))

theorem read_conc {σ : Val} {l : List (IntKind × Nat)} (E : Env) (hE : E.σ = σ) : concs E (l.map fun p => AV.sym p.1 p.2) = some (l.map fun p => Value.int p.1 (σ.num p.2)) := by
  induction l with
  | nil => rfl
  | cons p l ih => exact concs_mk (by simp only [conc, hE]) ih
theorem read_atom (l : List (IntKind × Nat)) : (l.map fun p => AV.sym p.1 p.2).all AV.atom = true := by
  induction l with
  | nil => rfl
  | cons p l ih => simp [AV.atom]

theorem nodup_inj {α : Type} : ∀ {l : List α}, l.Nodup → ∀ {i j : Nat} {x : α}, l[i]? = some x → l[j]? = some x → i = j
  | [], _, i, j, x, h, _ => by simp at h
  | a :: l, hn, i, j, x, h1, h2 => by
    obtain ⟨n1, n2⟩ := List.nodup_cons.1 hn
    cases i <;> cases j <;> simp at h1 h2
    · rfl
    · subst h1; exact absurd (List.mem_of_getElem? h2) n1
    · subst h2; exact absurd (List.mem_of_getElem? h1) n1
    · rw [nodup_inj n2 h1 h2]

theorem rv_of {as ds : List Def} (hw : wfDs as as.length ds = true) {rv : List Int} {gl : Nat → Nat → Option Value} {oq : Nat → Value} {W : List Win} {R K X : List Nat} (hl : loopsB as rv.length R K X = true)
    (hW : ∀ w ∈ W, staB (tabD as ds) K w = true ∨ (dynB (tabD as ds) K X w = true ∧ ElemOK (tabD as ds) gl oq w)) (hu : (W.flatMap fun w => w.cells.map (·.2)).Nodup) :
    Rv (VL as ds rv gl oq W) (tabD as ds) R K := by
  obtain ⟨hlR, hlXK⟩ := both_iff.1 hl
  obtain ⟨hlX, hlK⟩ := both_iff.1 hlXK
  have hR : ∀ r ∈ R, rv.length ≤ r ∧ r < as.length ∧ r ∈ K ∧ r ∉ X := fun r hr => by
    have := List.all_eq_true.1 hlR r hr
    obtain ⟨h1, h2⟩ := both_iff.1 this
    obtain ⟨h3, h4⟩ := both_iff.1 h1
    obtain ⟨h5, h6⟩ := both_iff.1 h2
    exact ⟨Nat.le_of_ble_eq_true h3, by rw [natBlt_eq] at h4; simpa using h4, (memB_iff _ _).1 h5, fun hc => by rw [(memB_iff _ _).2 hc] at h6; cases h6⟩
  have hX : ∀ r ∈ X, rv.length ≤ r ∧ r < as.length ∧ r ∈ K := fun r hr => by
    have := List.all_eq_true.1 hlX r hr
    obtain ⟨h1, h2⟩ := both_iff.1 this
    obtain ⟨h3, h4⟩ := both_iff.1 h1
    exact ⟨Nat.le_of_ble_eq_true h3, by rw [natBlt_eq] at h4; simpa using h4, (memB_iff _ _).1 h2⟩
  have hK : ∀ k ∈ K, k ∈ R ∨ k ∈ X := fun k hk => by
    have := List.all_eq_true.1 hlK k hk
    split at this
    · rename_i hm; exact .inl ((memB_iff _ _).1 hm)
    · exact .inr ((memB_iff _ _).1 this)
  refine ⟨fun σ hσ f hf => ?_⟩
  obtain ⟨vs, ha, hrv, rfl, hread⟩ := hσ
  have argOf : ∀ j d, as[j]? = some d → j < as.length := fun j d h => (List.getElem?_eq_some_iff.1 h).1
  have getA : ∀ j, j < as.length → (tabD as ds).get j = as[j]? := fun j hj => by rw [tabD_get, if_pos hj]
  -- the loops' symbols
  let g1 : Nat → Int := fun i => if i ∈ R then f i else atL vs i
  have hg1 : ∀ j d, as[j]? = some d → ∃ k lo hi, d = .arg k lo hi ∧ lo ≤ g1 j ∧ g1 j ≤ hi := fun j d hd => by
    obtain ⟨k, lo, hi, rfl, h1, h2⟩ := argsL_get ha j d hd
    refine ⟨k, lo, hi, rfl, ?_⟩
    by_cases hm : j ∈ R
    · obtain ⟨k', lo', hi', h3, h4, h5⟩ := hf j hm
      rw [getA j (argOf j _ hd), hd] at h3
      cases h3
      simp only [g1, if_pos hm]; exact ⟨h4, h5⟩
    · simp only [g1, if_neg hm]; exact ⟨h1, h2⟩
  let vs1 := (List.range' 0 as.length).map g1
  have ha1 : argsL as vs1 := argsL_mk (o := 0) fun j d hd => by simpa using hg1 j d hd
  let σ1 := valL as ds vs1 gl oq
  have hD := valL_ok (gl := gl) (oq := oq) hw ha
  have hD1 : DefsOK σ1 (tabD as ds) := valL_ok hw ha1
  -- the elements' symbols
  let IsEl : Nat → Int → Prop := fun s v => ∃ w ∈ W, dynB (tabD as ds) K X w = true ∧ ∃ (c : Nat) (k : IntKind) (a : Addr) (len cap : Nat), w.cells[c]? = some (k, s) ∧ oq w.j = .slice (some a) len cap ∧ 0 ≤ ixV σ1 w.c w.n ∧ ixV σ1 w.c w.n < (len : Int) ∧ gl a.block (a.off + (ixV σ1 w.c w.n).toNat * w.es + c) = some (.int k v)
  let g2 : Nat → Int := fun i => open Classical in if h : i ∈ X ∧ ∃ v, IsEl i v ∧ ∃ k lo hi, as[i]? = some (.arg k lo hi) ∧ lo ≤ v ∧ v ≤ hi then h.2.choose else g1 i
  have hg2 : ∀ j d, as[j]? = some d → ∃ k lo hi, d = .arg k lo hi ∧ lo ≤ g2 j ∧ g2 j ≤ hi := fun j d hd => by
    by_cases h : j ∈ X ∧ ∃ v, IsEl j v ∧ ∃ k lo hi, as[j]? = some (.arg k lo hi) ∧ lo ≤ v ∧ v ≤ hi
    · obtain ⟨k, lo, hi, h1, h2, h3⟩ := h.2.choose_spec.2
      rw [hd] at h1
      cases h1
      exact ⟨k, lo, hi, rfl, by simp only [g2, dif_pos h]; exact ⟨h2, h3⟩⟩
    · obtain ⟨k, lo, hi, h1, h2⟩ := hg1 j d hd
      exact ⟨k, lo, hi, h1, by simp only [g2, dif_neg h]; exact h2⟩
  let vs2 := (List.range' 0 as.length).map g2
  have ha2 : argsL as vs2 := argsL_mk (o := 0) fun j d hd => by simpa using hg2 j d hd
  have hD2 : DefsOK (valL as ds vs2 gl oq) (tabD as ds) := valL_ok hw ha2
  have num2 : ∀ s, s < as.length → (valL as ds vs2 gl oq).num s = g2 s := fun s hs => by rw [valL_arg hs]; exact atL_mk hs
  have num1 : ∀ s, s < as.length → σ1.num s = g1 s := fun s hs => by rw [show σ1 = valL as ds vs1 gl oq from rfl, valL_arg hs]; exact atL_mk hs
  have notX : ∀ s, s ∉ X → g2 s = g1 s := fun s hs => by simp only [g2]; rw [dif_neg (fun h => hs h.1)]
  have argLt : ∀ s k lo hi, (tabD as ds).get s = some (.arg k lo hi) → s < as.length := fun s k lo hi h => by
    rcases Nat.lt_or_ge s as.length with h' | h'
    · exact h'
    · rw [tabD_get, if_neg (by omega)] at h
      have hwd : ∀ (l : List Def) (o : Nat), wfDs as o l = true → ∀ (i : Nat) (k : IntKind) (lo hi : Int), l[i]? ≠ some (Def.arg k lo hi) := by
        intro l
        induction l with
        | nil => intro o _ i k lo hi hc; simp at hc
        | cons d l ih =>
          intro o ho i k lo hi hc
          simp only [wfDs] at ho
          obtain ⟨h1, h2⟩ := both_iff.1 ho
          cases i with
          | zero => simp at hc; subst hc; cases h1
          | succ i => exact ih (o + 1) h2 i k lo hi (by simpa using hc)
      exact absurd h (hwd ds _ hw _ k lo hi)
  -- σ2 against σ1: X alone differs
  have keep1 : ∀ s, keepS (tabD as ds) X 40 s = true → (valL as ds vs2 gl oq).num s = σ1.num s := fun s hs =>
    keep_num hD1 hD2 (fun t k lo hi ht hn => by rw [num2 t (argLt t k lo hi ht), num1 t (argLt t k lo hi ht)]; exact notX t hn) 40 s hs
  have keep2 : ∀ s, keepS (tabD as ds) K 40 s = true → (valL as ds vs2 gl oq).num s = (valL as ds vs gl oq).num s := fun s hs =>
    keep_num hD hD2 (fun t k lo hi ht hn => by
      have htl := argLt t k lo hi ht
      rw [num2 t htl, valL_arg htl, notX t (fun hx => hn (hX t hx).2.2)]
      simp only [g1]; rw [if_neg (fun hr => hn (hR t hr).2.2.1)]) 40 s hs
  refine ⟨valL as ds vs2 gl oq, ⟨vs2, ha2, fun i hi => ?_, rfl, fun w hwm => ?_⟩, fun r hr => ?_, keep2, rfl, rfl⟩
  · have hil : i < as.length ∨ ¬ i < as.length := Nat.lt_or_ge _ _ |>.imp id Nat.not_lt.2
    have nx : i ∉ X := fun h => by have := (hX i h).1; omega
    have nr : i ∉ R := fun h => by have := (hR i h).1; omega
    rcases hil with hil | hil
    · rw [show atL vs2 i = g2 i from atL_mk hil, notX i nx]
      simp only [g1, if_neg nr]; exact hrv i hi
    · have e1 : atL vs2 i = 0 := by simp [atL, vs2, hil]
      have e2 : atL vs i = 0 := by
        have hlen : ∀ {as : List Def} {vs : List Int}, argsL as vs → vs.length = as.length := by
          intro as
          induction as with
          | nil => intro vs h; cases vs <;> first | rfl | exact h.elim
          | cons d as ih => intro vs h; cases vs <;> cases d <;> first | exact h.elim | (simp [argsL] at h) | skip
                            simp [ih h.2]
        simp [atL, hlen ha, hil]
      rw [e1, ← hrv i hi, e2]
  · -- windows
    intro a len cap hop hsp h0 h1
    refine ⟨read_atom _, _, fun E hE => read_conc E hE, fun c v hv => ?_⟩
    simp only [Win.read] at hop h0 h1 ⊢
    rw [List.getElem?_map] at hv
    obtain ⟨⟨k, s⟩, hks, rfl⟩ := Option.map_eq_some_iff.1 hv
    have hop : oq w.j = .slice (some a) len cap := hop
    rcases hW w hwm with hs | ⟨hd, hel⟩
    · -- it stays
      obtain ⟨hs1, hs2⟩ := both_iff.1 hs
      have hix : ixV (valL as ds vs2 gl oq) w.c w.n = ixV (valL as ds vs gl oq) w.c w.n := by
        unfold ixV
        split at hs1
        · rename_i hc; rw [hc]; rfl
        · rename_i hc; rw [hc]; exact keep2 _ hs1
      have hns := keep2 s (List.all_eq_true.1 hs2 (k, s) (List.mem_of_getElem? hks))
      obtain ⟨_, us, hu1, hu2⟩ := hread w hwm a len cap hop hsp (by show 0 ≤ ixV _ w.c w.n; rw [← hix]; exact h0) (by show ixV _ w.c w.n < _; rw [← hix]; exact h1)
      have hu1 := hu1 (noEnv _) rfl
      rw [show w.read.cells = w.cells.map fun p => AV.sym p.1 p.2 from rfl, read_conc (noEnv _) rfl] at hu1
      have := hu2 c (.int k ((valL as ds vs gl oq).num s)) (by rw [← Option.some.inj hu1, List.getElem?_map, hks]; rfl)
      rw [hns, hix]; exact this
    · -- it is told anew
      obtain ⟨hd1, hd2⟩ := both_iff.1 hd
      have hix : ixV (valL as ds vs2 gl oq) w.c w.n = ixV σ1 w.c w.n := by
        unfold ixV
        split at hd1
        · rename_i hc; rw [hc]; rfl
        · rename_i hc; rw [hc]; exact keep1 _ hd1
      obtain ⟨hsX, hsK⟩ := both_iff.1 (List.all_eq_true.1 hd2 (k, s) (List.mem_of_getElem? hks))
      have hsX := (memB_iff _ _).1 hsX
      have hsl := (hX s hsX).2.1
      rw [hix] at h0 h1 ⊢
      have hn : ((ixV σ1 w.c w.n).toNat : Int) = ixV σ1 w.c w.n := Int.toNat_of_nonneg h0
      obtain ⟨v, k', lo, hi, hv1, hv2, hv3, hv4⟩ := hel a len cap hop (ixV σ1 w.c w.n).toNat (by omega) c k s hks
      have hex : s ∈ X ∧ ∃ v, IsEl s v ∧ ∃ k lo hi, as[s]? = some (.arg k lo hi) ∧ lo ≤ v ∧ v ≤ hi :=
        ⟨hsX, v, ⟨w, hwm, hd, c, k, a, len, cap, hks, hop, h0, h1, hv1⟩, k', lo, hi, by rw [← getA s hsl]; exact hv2, hv3, hv4⟩
      rw [num2 s hsl]
      simp only [g2, dif_pos hex]
      obtain ⟨w', hw', _, c', k2, a', len', cap', q1, q2, q3, q4, q5⟩ := hex.2.choose_spec.1
      -- one place alone
      have same : w' = w ∧ c' = c := by
        obtain ⟨i, hi⟩ := List.mem_iff_getElem?.1 hwm
        obtain ⟨i', hi'⟩ := List.mem_iff_getElem?.1 hw'
        have one : ∀ {W : List Win}, (W.flatMap fun w => w.cells.map (·.2)).Nodup → ∀ (i i' : Nat) (w w' : Win), W[i]? = some w → W[i']? = some w' → ∀ (c c' : Nat) (k k' : IntKind) (s : Nat), w.cells[c]? = some (k, s) → w'.cells[c']? = some (k', s) → w' = w ∧ c' = c := by
          intro W
          induction W with
          | nil => intro _ i i' w w' h; simp at h
          | cons x W ih =>
            intro hnd i i' w w' hi hi' c c' k k' s hc hc'
            rw [List.flatMap_cons, List.nodup_append] at hnd
            obtain ⟨n1, n2, n3⟩ := hnd
            have inx : ∀ {c : Nat} {k : IntKind}, x.cells[c]? = some (k, s) → s ∈ x.cells.map (·.2) := fun {c k} h => List.mem_map.2 ⟨_, List.mem_of_getElem? h, rfl⟩
            have inW : ∀ {i : Nat} {w : Win} {c : Nat} {k : IntKind}, W[i]? = some w → w.cells[c]? = some (k, s) → s ∈ W.flatMap fun w => w.cells.map (·.2) := fun {_ w' _ _} h h2 => List.mem_flatMap.2 ⟨w', List.mem_of_getElem? h, List.mem_map.2 ⟨_, List.mem_of_getElem? h2, rfl⟩⟩
            cases i with
            | zero =>
              cases i' with
              | zero =>
                simp at hi hi'; subst hi; subst hi'
                refine ⟨rfl, ?_⟩
                have e1 : (x.cells.map (·.2))[c]? = some s := by rw [List.getElem?_map, hc]; rfl
                have e2 : (x.cells.map (·.2))[c']? = some s := by rw [List.getElem?_map, hc']; rfl
                obtain ⟨l1, v1⟩ := List.getElem?_eq_some_iff.1 e1
                obtain ⟨l2, v2⟩ := List.getElem?_eq_some_iff.1 e2
                exact nodup_inj n1 e2 e1
              | succ i' => simp at hi hi'; subst hi; exact absurd rfl (n3 s (inx hc) s (inW hi' hc'))
            | succ i =>
              cases i' with
              | zero => simp at hi hi'; subst hi'; exact absurd rfl (n3 s (inx hc') s (inW hi hc))
              | succ i' => simp at hi hi'; exact ih n2 i i' w w' hi hi' c c' k k' s hc hc'
        exact one hu i i' w w' hi hi' c c' k k2 s hks q1
      obtain ⟨rfl, rfl⟩ := same
      rw [hop] at q2; cases q2
      rw [hks] at q1; cases q1
      exact q5
  · obtain ⟨_, hrl, _, hrx⟩ := hR r hr
    rw [num2 r hrl, notX r hrx]
    simp only [g1, if_pos hr]
end Go.Abs

namespace Go.Abs
open Go.RowKit
variable {P : Program} {cx : Cx} {D : Tr Def} {q0 : Kn} {n g nt : Nat}

/-! # a cut loop's bodies, in parts: each part runs some of them -/
/-- what goes on behind, in all parts, gives what goes on -/
def Imp {ι : Type} (k : ι → MK) (kk : MK) : Prop := ∀ r o q, (∀ i, k i r o q = true) → kk r o q = true
/-- each part's end gives the end -/
def Imp1 {ι : Type} (k : ι → MK) (kk : MK) : Prop := ∀ i r o q, k i r o q = true → kk r o q = true
theorem Imp1.imp {ι : Type} (i0 : ι) {k : ι → MK} {kk : MK} (h : Imp1 k kk) : Imp k kk := fun r o q hk => h i0 r o q (hk i0)

theorem both_all {ι : Type} {a b : ι → Bool} (h : ∀ i, both (a i) (b i) = true) : (∀ i, a i = true) ∧ ∀ i, b i = true := ⟨fun i => (both_iff.1 (h i)).1, fun i => (both_iff.1 (h i)).2⟩
theorem onK_all {ι : Type} (i0 : ι) {q : Option Kn} {f : ι → Kn → Bool} {ff : Kn → Bool} (h : ∀ i, onK q (f i) = true) (hf : ∀ q, (∀ i, f i q = true) → ff q = true) : onK q ff = true := by
  cases q with
  | none => exact absurd (h i0) (by intro hc; cases hc)
  | some q => exact hf q h
theorem dirs_imp {ι : Type} (i0 : ι) : ∀ (o : Orc) (c : Option (Nat × Int)) (q : Kn) (k : ι → MO) (kk : MO), (∀ o q, (∀ i, k i o q = true) → kk o q = true) → (∀ i, dirs D o c q (k i) = true) → dirs D o c q kk = true := by
  intro o
  induction o with
  | fin =>
    intro c q k kk hk h
    cases c with
    | none => exact hk _ _ h
    | some p => exact h i0
  | run m o ih =>
    intro c q k kk hk h
    cases c with
    | some p => exact absurd (h i0) (by intro hc; cases hc)
    | none =>
      cases m with
      | zero => exact ih none q k kk hk h
      | succ m => exact hk _ _ h
  | dfn s o ih =>
    intro c q k kk hk h
    cases c with
    | some p => exact absurd (h i0) (by intro hc; cases hc)
    | none => exact onK_all i0 (f := fun i q => dirs D o none q (k i)) h fun q h => ih none q k kk hk h
  | dec op x y b o ih =>
    intro c q k kk hk h
    cases c with
    | some p => exact absurd (h i0) (by intro hc; cases hc)
    | none =>
      obtain ⟨h1, h2⟩ := both_all (a := fun _ => both (cmpOk op x y) (decB D op x y b)) (b := fun i => dirs D o none (knF ⟨op, x, y, .bool b⟩ q) (k i)) h
      exact both_iff.2 ⟨h1 i0, ih none _ k kk hk h2⟩
  | dec2 op x y b o ih =>
    intro c q k kk hk h
    cases c with
    | some p => exact absurd (h i0) (by intro hc; cases hc)
    | none =>
      obtain ⟨h1, h2⟩ := both_all (a := fun _ => both (cmpOk op x y) (dec2B q.facts op x y b)) (b := fun i => dirs D o none (knF ⟨op, x, y, .bool b⟩ q) (k i)) h
      exact both_iff.2 ⟨h1 i0, ih none _ k kk hk h2⟩
  | cmp op x y o1 o2 ih1 ih2 =>
    intro c q k kk hk h
    cases c with
    | some p => exact absurd (h i0) (by intro hc; cases hc)
    | none =>
      obtain ⟨h1, h2⟩ := both_all (a := fun _ => cmpOk op x y) (b := fun i => both (dirs D o1 none (knF ⟨op, x, y, .bool true⟩ q) (k i)) (dirs D o2 none (knF ⟨op, x, y, .bool false⟩ q) (k i))) h
      obtain ⟨h3, h4⟩ := both_all h2
      exact both_iff.2 ⟨h1 i0, both_iff.2 ⟨ih1 none _ k kk hk h3, ih2 none _ k kk hk h4⟩⟩
  | rng s lo o ih =>
    intro c q k kk hk h
    cases c with
    | some p => exact absurd (h i0) (by intro hc; cases hc)
    | none =>
      obtain ⟨h1, h2⟩ := both_all (a := fun _ => lowB D s lo) (b := fun i => dirs D o (some (s, lo)) q (k i)) h
      exact both_iff.2 ⟨h1 i0, ih _ _ k kk hk h2⟩
  | alt o os ih ihs =>
    intro c q k kk hk h
    cases c with
    | none => exact absurd (h i0) (by intro hc; cases hc)
    | some p =>
      obtain ⟨h1, h2⟩ := both_all (a := fun i => onK (addVal D p.1 p.2 q) (fun q => dirs D o none q (k i))) (b := fun i => dirs D os (some (p.1, p.2 + 1)) q (k i)) h
      exact both_iff.2 ⟨onK_all i0 h1 fun q h => ih none q k kk hk h, ihs _ _ k kk hk h2⟩
  | bad2 x y =>
    intro c q k kk hk h
    cases c with
    | some p => exact absurd (h i0) (by intro hc; cases hc)
    | none => exact h i0
  | bad1 a is js =>
    intro c q k kk hk h
    cases c with
    | some p => exact absurd (h i0) (by intro hc; cases hc)
    | none => exact h i0
  | pcmp op x y b o ih => intro c q k kk hk h; exact absurd (h i0) (by intro hc; cases hc)
  | pval s v o ih => intro c q k kk hk h; exact absurd (h i0) (by intro hc; cases hc)
  | cut j o ih =>
    intro c q k kk hk h
    cases c with
    | some p => exact absurd (h i0) (by intro hc; cases hc)
    | none => exact hk _ _ h
  | at_ j =>
    intro c q k kk hk h
    cases c with
    | some p => exact absurd (h i0) (by intro hc; cases hc)
    | none => exact hk _ _ h

/-- a run gives what all its ends give -/
def AC (x : MX) : Prop := ∀ {ι : Type} (_ : ι) (k : ι → MK) (kk : MK), Imp k kk → ∀ o q tm h, (∀ i, x.run o q tm h (k i) = true) → x.run o q tm h kk = true

theorem goM_imp {ι : Type} (i0 : ι) {k : ι → MK} {kk : MK} (hk : Imp k kk) {o : Orc} {q : Kn} {r : AOut} (h : ∀ i, goM (k i) o q r = true) : goM kk o q r = true := by
  cases r with
  | no => exact absurd (h i0) (by intro hc; cases hc)
  | norm tm h' => exact hk _ _ _ h
  | exit id tm h' => exact hk _ _ _ h
  | ret tm h' => exact hk _ _ _ h
theorem atom_ac (f : Kn → Tm → AH → AOut) : AC (atomM D f) := fun i0 k kk hk o q tm h hr =>
  dirs_imp i0 o none q (fun i o q => goM (k i) o q (f q tm h)) _ (fun _ _ h => goM_imp i0 hk h) hr
theorem seqM_imp {ι : Type} (i0 : ι) {x : MX} (hx : AC x) {k : ι → MK} {kk : MK} (hk : Imp k kk) : Imp (fun i => seqM x.run (k i)) (seqM x.run kk) := fun r o q h => by
  cases r with
  | no => exact absurd (h i0) (by intro hc; cases hc)
  | norm tm h' => exact hx i0 k kk hk o q tm h' h
  | exit id tm h' => exact hk _ _ _ h
  | ret tm h' => exact hk _ _ _ h
theorem blockM_imp {ι : Type} (i0 : ι) {id : Nat} {k : ι → MK} {kk : MK} (hk : Imp k kk) : Imp (fun i => blockM id (k i)) (blockM id kk) := fun r o q h => by
  cases r with
  | no => exact absurd (h i0) (by intro hc; cases hc)
  | norm tm h' => exact hk _ _ _ h
  | exit j tm h' =>
    have h : ∀ i, (@Bool.rec (fun _ => Bool) (k i (.exit j tm h') o q) (k i (.norm tm h') o q) (Nat.beq j id)) = true := h
    show (@Bool.rec (fun _ => Bool) (kk (.exit j tm h') o q) (kk (.norm tm h') o q) (Nat.beq j id)) = true
    cases hb : Nat.beq j id with
    | true => exact hk _ _ _ fun i => by have := h i; rw [hb] at this; exact this
    | false => exact hk _ _ _ fun i => by have := h i; rw [hb] at this; exact this
  | ret tm h' => exact hk _ _ _ h
theorem loop_ac {x : MX} (hx : AC x) : ∀ n, AC ⟨loopM x n⟩
  | 0 => fun i0 k kk hk o q tm h hr => absurd (hr i0) (by intro hc; cases hc)
  | n + 1 => fun i0 k kk hk o q tm h hr => hx i0 (fun i => seqM (loopM x n) (k i)) _ (seqM_imp i0 (loop_ac hx n) hk) o q tm h hr
theorem cutK_imp {ι : Type} (i0 : ι) {C : CutS} {S : List Tpl} {from_ : Option Nat} {k : ι → MK} {kk : MK} (hk : Imp k kk) : Imp (fun i => cutK D C nt S from_ (k i)) (cutK D C nt S from_ kk) := fun r o q h => by
  cases r with
  | no => exact absurd (h i0) (by intro hc; cases hc)
  | norm tm h' => exact h i0
  | exit id tm h' => exact hk _ _ _ h
  | ret tm h' => exact hk _ _ _ h
theorem allT_mk {f : Nat → Orc → Bool} : ∀ {O : List Orc} {t : Nat}, (∀ i o, O[i]? = some o → f (t + i) o = true) → allT f O t = true
  | [], t, _ => rfl
  | x :: O, t, h => both_iff.2 ⟨h 0 x rfl, allT_mk (t := Nat.succ t) fun i o ho => by
      have := h (i + 1) o (by simpa using ho)
      rwa [show Nat.succ t + i = t + (i + 1) by omega]⟩
theorem skip_inv {b : Bool} {x : Bool} (h : (@Bool.rec (fun _ => Bool) x true b) = true) (hb : b = false) : x = true := by subst hb; exact h
theorem cut_ac {C : CutS} {f : Kn → Tm → AH → AOut} {b : MX} (hb : AC b) {ι : Type} (i0 : ι) {k : ι → MK} {kk : MK} (hk : Imp k kk) {o : Orc} {q : Kn} {tm : Tm} {h : AH} (hr : ∀ i, cutM D q0 C nt f b o q tm h (k i) = true) : cutM D q0 C nt f b o q tm h kk = true := by
  have hr : ∀ i, @List.rec TplD (fun _ => Bool) false (fun t0 ts _ => cutS D q0 C nt b o q tm h (k i) (tplsOf D (fun p => addFs (fsAt C p) q0) nt f ts [@Option.rec Tpl (fun _ => Tpl) (mkT nt tm h t0) (fun T => T) t0.lit])) C.T = true := hr
  show @List.rec TplD (fun _ => Bool) false (fun t0 ts _ => cutS D q0 C nt b o q tm h kk (tplsOf D (fun p => addFs (fsAt C p) q0) nt f ts [@Option.rec Tpl (fun _ => Tpl) (mkT nt tm h t0) (fun T => T) t0.lit])) C.T = true
  cases hTs : C.T with
  | nil => have := hr i0; rw [hTs] at this; cases this
  | cons t0 ts =>
  rw [hTs] at hr
  show cutS D q0 C nt b o q tm h kk (tplsOf D (fun p => addFs (fsAt C p) q0) nt f ts [@Option.rec Tpl (fun _ => Tpl) (mkT nt tm h t0) (fun T => T) t0.lit]) = true
  have hr : ∀ i, cutS D q0 C nt b o q tm h (k i) (tplsOf D (fun p => addFs (fsAt C p) q0) nt f ts [@Option.rec Tpl (fun _ => Tpl) (mkT nt tm h t0) (fun T => T) t0.lit]) = true := hr
  generalize tplsOf D (fun p => addFs (fsAt C p) q0) nt f ts [@Option.rec Tpl (fun _ => Tpl) (mkT nt tm h t0) (fun T => T) t0.lit] = S at hr ⊢
  obtain ⟨h1, h2⟩ := both_all hr
  refine both_iff.2 ⟨h1 i0, allT_mk fun j oj hO => ?_⟩
  have h3 := fun i => allT_get (h2 i) j oj hO
  simp only [Nat.zero_add] at h3 ⊢
  cases hm : memB j C.sk with
  | true => rfl
  | false =>
    simp only [hm] at h3
    have h3 : ∀ i, @Option.rec Tpl (fun _ => Bool) false (fun T => b.run oj (addFs (fsAt C j) q0) (tmT T) (hT nt T) (cutK D C nt S (some j) (k i))) (nth S j) = true := h3
    show @Option.rec Tpl (fun _ => Bool) false (fun T => b.run oj (addFs (fsAt C j) q0) (tmT T) (hT nt T) (cutK D C nt S (some j) kk)) (nth S j) = true
    cases hS : nth S j with
    | none => have := h3 i0; rw [hS] at this; cases this
    | some T =>
      rw [hS] at h3
      exact hb i0 _ _ (cutK_imp i0 hk) _ _ _ _ h3

theorem mac_ac : ∀ (c : Code) (CT : List CutS), AC (mac cx D q0 n g nt c CT) := by
  intro c
  induction c with
  | skip => exact fun CT _ i0 k kk hk o q tm h hr => hk _ _ _ hr
  | label l => exact fun CT _ i0 k kk hk o q tm h hr => hk _ _ _ hr
  | exit id => exact fun CT _ i0 k kk hk o q tm h hr => hk _ _ _ hr
  | ret => exact fun CT _ i0 k kk hk o q tm h hr => hk _ _ _ hr
  | region id ops d => exact fun CT => atom_ac _
  | seq x y ihx ihy => exact fun CT _ i0 k kk hk o q tm h hr => ihx CT i0 _ _ (seqM_imp i0 (ihy _) hk) o q tm h hr
  | cond x y z ihy ihz =>
    intro CT ι i0 k kk hk o q tm h hr
    simp only [mac] at hr ⊢
    split at hr
    · rename_i f hf
      have hr : ∀ i, condM ((mac cx D q0 n g nt y CT).run o q tm h (k i)) ((mac cx D q0 n g nt z CT).run o q tm h (k i)) (f.run tm) = true := hr
      show condM ((mac cx D q0 n g nt y CT).run o q tm h kk) ((mac cx D q0 n g nt z CT).run o q tm h kk) (f.run tm) = true
      cases hv : f.run tm <;> simp only [hv] at hr <;> first | (exact absurd (hr i0) (by intro hc; cases hc)) | skip
      rename_i b
      cases b with
      | true => exact ihy CT i0 k kk hk o q tm h hr
      | false => exact ihz CT i0 k kk hk o q tm h hr
    · exact absurd (hr i0) (by intro hc; cases hc)
  | block id x ih => exact fun CT _ i0 k kk hk o q tm h hr => ih CT i0 _ _ (blockM_imp i0 hk) o q tm h hr
  | loop x ih =>
    intro CT
    cases hS : mapSh x with
    | some S => simp only [mac, hS]; exact atom_ac _
    | none =>
      intro ι i0 k kk hk o q tm h hr
      simp only [mac, hS] at hr ⊢
      have hr : ∀ i, @Option.rec (Nat × Orc) (fun _ => Bool) (loopM (mac cx D q0 n g nt x (clear CT)) 100000 o q tm h (k i)) (fun p => @Option.rec CutS (fun _ => Bool) false (fun C => cutM D q0 C nt (fun q tm h => (den cx g x).run q (callN cx q n) tm h) (mac cx D q0 n g nt x []) p.2 q tm h (k i)) (nth CT p.1)) (isCut o) = true := hr
      show @Option.rec (Nat × Orc) (fun _ => Bool) (loopM (mac cx D q0 n g nt x (clear CT)) 100000 o q tm h kk) (fun p => @Option.rec CutS (fun _ => Bool) false (fun C => cutM D q0 C nt (fun q tm h => (den cx g x).run q (callN cx q n) tm h) (mac cx D q0 n g nt x []) p.2 q tm h kk) (nth CT p.1)) (isCut o) = true
      cases hc : isCut o with
      | none =>
        simp only [hc] at hr
        exact loop_ac (ih (clear CT)) 100000 i0 k kk hk o q tm h hr
      | some p =>
        simp only [hc] at hr
        cases hC : nth CT p.1 with
        | none => simp only [hC] at hr; exact absurd (hr i0) (by intro hc; cases hc)
        | some C =>
          simp only [hC] at hr
          have key := cut_ac (ih []) i0 hk hr
          simp only [hC]; exact key
  | scope x ih => exact fun CT _ i0 k kk hk o q tm h hr => ih CT i0 _ _ hk o q tm h hr
  | goto l => exact fun CT _ i0 k kk hk o q tm h hr => absurd (hr i0) (by intro hc; cases hc)
  | rangeFunc f ps a b _ _ => exact fun CT _ i0 k kk hk o q tm h hr => absurd (hr i0) (by intro hc; cases hc)
  | refuse w => exact fun CT _ i0 k kk hk o q tm h hr => absurd (hr i0) (by intro hc; cases hc)

/-- where there is no loop, the cuts play no part -/
theorem either_iff {a b : Bool} : either a b = false ↔ a = false ∧ b = false := by cases a <;> cases b <;> simp [either]
theorem mac_no : ∀ (c : Code) (CT CT' : List CutS), hasLoop c = false → mac cx D q0 n g nt c CT = mac cx D q0 n g nt c CT' := by
  intro c
  induction c with
  | seq x y ihx ihy =>
    intro CT CT' h
    obtain ⟨h1, h2⟩ := either_iff.1 h
    simp only [mac]; rw [ihx CT CT' h1, ihy _ (clrIf (hasLoop x) CT') h2]
  | cond x y z ihy ihz =>
    intro CT CT' h
    obtain ⟨h1, h2⟩ := either_iff.1 h
    simp only [mac]; rw [ihy CT CT' h1, ihz CT CT' h2]
  | block id x ih => intro CT CT' h; simp only [mac]; rw [ih CT CT' h]
  | scope x ih => intro CT CT' h; simp only [mac]; rw [ih CT CT' h]
  | loop x ih =>
    intro CT CT' h
    simp only [hasLoop] at h
    split at h
    · rename_i S hS; simp only [mac, hS]
    · cases h
  | _ => intros; rfl

def CutS.skip (C : CutS) (s : List Nat) : CutS := ⟨C.R, C.K, C.F, C.mi, C.T, C.O, s⟩
theorem nth_skip (s : List Nat) : ∀ (CC : List CutS) (m : Nat), nth (CC.map fun C => C.skip s) m = (nth CC m).map fun C => C.skip s := by
  intro CC m; rw [nth_eq, nth_eq, List.getElem?_map]
theorem clear_skip (s : List Nat) (CC : List CutS) : clear (CC.map fun C => C.skip s) = clear CC := by
  simp [clear, CutS.skip, Function.comp_def]

theorem cut_parts {C : CutS} (hsk : C.sk = []) {f : Kn → Tm → AH → AOut} {b : MX} (hb : AC b) {ι : Type} (i0 : ι) (sk : ι → List Nat) (hs : ∀ j, ∃ i, memB j (sk i) = false) {k : ι → MK} {kk : MK} (hk : Imp1 k kk) {o : Orc} {q : Kn} {tm : Tm} {h : AH}
    (hr : ∀ i, cutM D q0 (C.skip (sk i)) nt f b o q tm h (k i) = true) : cutM D q0 C nt f b o q tm h kk = true := by
  have hr : ∀ i, @List.rec TplD (fun _ => Bool) false (fun t0 ts _ => cutS D q0 (C.skip (sk i)) nt b o q tm h (k i) (tplsOf D (fun p => addFs (fsAt C p) q0) nt f ts [@Option.rec Tpl (fun _ => Tpl) (mkT nt tm h t0) (fun T => T) t0.lit])) C.T = true := hr
  show @List.rec TplD (fun _ => Bool) false (fun t0 ts _ => cutS D q0 C nt b o q tm h kk (tplsOf D (fun p => addFs (fsAt C p) q0) nt f ts [@Option.rec Tpl (fun _ => Tpl) (mkT nt tm h t0) (fun T => T) t0.lit])) C.T = true
  cases hTs : C.T with
  | nil => have := hr i0; rw [hTs] at this; cases this
  | cons t0 ts =>
  rw [hTs] at hr
  show cutS D q0 C nt b o q tm h kk (tplsOf D (fun p => addFs (fsAt C p) q0) nt f ts [@Option.rec Tpl (fun _ => Tpl) (mkT nt tm h t0) (fun T => T) t0.lit]) = true
  have hr : ∀ i, cutS D q0 (C.skip (sk i)) nt b o q tm h (k i) (tplsOf D (fun p => addFs (fsAt C p) q0) nt f ts [@Option.rec Tpl (fun _ => Tpl) (mkT nt tm h t0) (fun T => T) t0.lit]) = true := hr
  generalize tplsOf D (fun p => addFs (fsAt C p) q0) nt f ts [@Option.rec Tpl (fun _ => Tpl) (mkT nt tm h t0) (fun T => T) t0.lit] = S at hr ⊢
  obtain ⟨h1, h2⟩ := both_all hr
  refine both_iff.2 ⟨h1 i0, allT_mk fun j oj hO => ?_⟩
  simp only [Nat.zero_add]
  rw [hsk]
  show @Option.rec Tpl (fun _ => Bool) false (fun T => b.run oj (addFs (fsAt C j) q0) (tmT T) (hT nt T) (cutK D C nt S (some j) kk)) (nth S j) = true
  obtain ⟨i, hi⟩ := hs j
  have h3 := allT_get (h2 i) j oj hO
  simp only [Nat.zero_add] at h3
  have h3 := skip_inv h3 hi
  have h3 : @Option.rec Tpl (fun _ => Bool) false (fun T => b.run oj (addFs (fsAt C j) q0) (tmT T) (hT nt T) (cutK D (C.skip (sk i)) nt S (some j) (k i))) (nth S j) = true := h3
  cases hS : nth S j with
  | none => rw [hS] at h3; cases h3
  | some T =>
    rw [hS] at h3
    refine hb (ι := Unit) () (fun _ => cutK D (C.skip (sk i)) nt S (some j) (k i)) _ (fun r o q h => ?_) _ _ _ _ (fun _ => h3)
    have h := h ()
    cases r with
    | no => cases h
    | norm tm h' => exact h
    | exit id tm h' => exact hk i _ _ _ h
    | ret tm h' => exact hk i _ _ _ h

theorem mac_parts {ι : Type} (i0 : ι) (sk : ι → List Nat) (hs : ∀ j, ∃ i, memB j (sk i) = false) {CC : List CutS} (hC : ∀ C ∈ CC, C.sk = []) : ∀ (c : Code) (k : ι → MK) (kk : MK), Imp1 k kk → ∀ o q tm h,
    (∀ i, (mac cx D q0 n g nt c (CC.map fun C => C.skip (sk i))).run o q tm h (k i) = true) → (mac cx D q0 n g nt c CC).run o q tm h kk = true := by
  have clr : clear CC = CC := by
    unfold clear
    calc CC.map _ = CC.map id := List.map_congr_left fun C hc => by have := hC C hc; cases C; simp only at this; subst this; rfl
      _ = CC := List.map_id _
  intro c
  induction c with
  | seq x y ihx ihy =>
    intro k kk hk o q tm h hr
    have hr : ∀ i, (mac cx D q0 n g nt x (CC.map fun C => C.skip (sk i))).run o q tm h (seqM (mac cx D q0 n g nt y (clrIf (hasLoop x) (CC.map fun C => C.skip (sk i)))).run (k i)) = true := hr
    show (mac cx D q0 n g nt x CC).run o q tm h (seqM (mac cx D q0 n g nt y (clrIf (hasLoop x) CC)).run kk) = true
    cases hl : hasLoop x with
    | true =>
      simp only [hl] at hr
      have e : ∀ i, clrIf true (CC.map fun C => C.skip (sk i)) = clrIf true CC := fun i => clear_skip _ _
      refine ihx _ _ (fun i r o q h => ?_) o q tm h hr
      rw [e i] at h
      cases r with
      | no => cases h
      | norm tm h' => exact mac_ac y _ (ι := Unit) () (fun _ => k i) kk (fun r o q h => hk i r o q (h ())) _ _ _ _ (fun _ => h)
      | exit id tm h' => exact hk i _ _ _ h
      | ret tm h' => exact hk i _ _ _ h
    | false =>
      simp only [hl] at hr
      have hr : ∀ i, (mac cx D q0 n g nt x CC).run o q tm h (seqM (mac cx D q0 n g nt y (CC.map fun C => C.skip (sk i))).run (k i)) = true := fun i => by
        rw [mac_no x CC (CC.map fun C => C.skip (sk i)) hl]; exact hr i
      refine mac_ac x CC i0 _ _ (fun r o q h => ?_) o q tm h hr
      cases r with
      | no => exact absurd (h i0) (by intro hc; cases hc)
      | norm tm h' => exact ihy k kk hk o q tm h' h
      | exit id tm h' => exact hk i0 _ _ _ (h i0)
      | ret tm h' => exact hk i0 _ _ _ (h i0)
  | cond x y z ihy ihz =>
    intro k kk hk o q tm h hr
    simp only [mac] at hr ⊢
    split at hr
    · rename_i f hf
      have hr : ∀ i, condM ((mac cx D q0 n g nt y (CC.map fun C => C.skip (sk i))).run o q tm h (k i)) ((mac cx D q0 n g nt z (CC.map fun C => C.skip (sk i))).run o q tm h (k i)) (f.run tm) = true := hr
      show condM ((mac cx D q0 n g nt y CC).run o q tm h kk) ((mac cx D q0 n g nt z CC).run o q tm h kk) (f.run tm) = true
      cases hv : f.run tm <;> simp only [hv] at hr <;> first | (exact absurd (hr i0) (by intro hc; cases hc)) | skip
      rename_i b
      cases b with
      | true => exact ihy k kk hk o q tm h hr
      | false => exact ihz k kk hk o q tm h hr
    · exact absurd (hr i0) (by intro hc; cases hc)
  | block id x ih =>
    intro k kk hk o q tm h hr
    refine ih _ _ (fun i r o q h => ?_) o q tm h hr
    cases r with
    | no => cases h
    | norm tm h' => exact hk i _ _ _ h
    | exit j tm h' =>
      have h : (@Bool.rec (fun _ => Bool) (k i (.exit j tm h') o q) (k i (.norm tm h') o q) (Nat.beq j id)) = true := h
      show (@Bool.rec (fun _ => Bool) (kk (.exit j tm h') o q) (kk (.norm tm h') o q) (Nat.beq j id)) = true
      cases hb : Nat.beq j id with
      | true => rw [hb] at h; exact hk i _ _ _ h
      | false => rw [hb] at h; exact hk i _ _ _ h
    | ret tm h' => exact hk i _ _ _ h
  | scope x ih => intro k kk hk o q tm h hr; exact ih k kk hk o q tm h hr
  | loop x ih =>
    intro k kk hk o q tm h hr
    cases hS : mapSh x with
    | some S =>
      have e : hasLoop (.loop x) = false := by simp only [hasLoop, hS]
      exact mac_ac (.loop x) CC i0 k kk (hk.imp i0) o q tm h fun i => by rw [mac_no (.loop x) CC (CC.map fun C => C.skip (sk i)) e]; exact hr i
    | none =>
      simp only [mac, hS, clear_skip] at hr ⊢
      have hr : ∀ i, @Option.rec (Nat × Orc) (fun _ => Bool) (loopM (mac cx D q0 n g nt x (clear CC)) 100000 o q tm h (k i)) (fun p => @Option.rec CutS (fun _ => Bool) false (fun C => cutM D q0 C nt (fun q tm h => (den cx g x).run q (callN cx q n) tm h) (mac cx D q0 n g nt x []) p.2 q tm h (k i)) (nth (CC.map fun C => C.skip (sk i)) p.1)) (isCut o) = true := hr
      show @Option.rec (Nat × Orc) (fun _ => Bool) (loopM (mac cx D q0 n g nt x (clear CC)) 100000 o q tm h kk) (fun p => @Option.rec CutS (fun _ => Bool) false (fun C => cutM D q0 C nt (fun q tm h => (den cx g x).run q (callN cx q n) tm h) (mac cx D q0 n g nt x []) p.2 q tm h kk) (nth CC p.1)) (isCut o) = true
      cases hc : isCut o with
      | none =>
        simp only [hc] at hr
        exact loop_ac (mac_ac x (clear CC)) 100000 i0 k kk (hk.imp i0) o q tm h hr
      | some p =>
        simp only [hc, nth_skip] at hr
        cases hm : nth CC p.1 with
        | none => simp only [hm] at hr; exact absurd (hr i0) (by intro hc; cases hc)
        | some C =>
          simp only [hm] at hr
          have hmem : C ∈ CC := by rw [nth_eq] at hm; exact List.mem_of_getElem? hm
          have key := cut_parts (hC C hmem) (mac_ac x []) i0 sk hs hk hr
          simp only [hm]; exact key
  | skip => intro k kk hk o q tm h hr; exact hk i0 _ _ _ (hr i0)
  | label l => intro k kk hk o q tm h hr; exact hk i0 _ _ _ (hr i0)
  | exit id => intro k kk hk o q tm h hr; exact hk i0 _ _ _ (hr i0)
  | ret => intro k kk hk o q tm h hr; exact hk i0 _ _ _ (hr i0)
  | region id ops d => intro k kk hk o q tm h hr; exact mac_ac (.region id ops d) CC i0 k kk (hk.imp i0) o q tm h hr
  | goto l => intro k kk hk o q tm h hr; exact absurd (hr i0) (by intro hc; cases hc)
  | rangeFunc f ps a b _ _ => intro k kk hk o q tm h hr; exact absurd (hr i0) (by intro hc; cases hc)
  | refuse w => intro k kk hk o q tm h hr; exact absurd (hr i0) (by intro hc; cases hc)

/-- a law's run, in parts -/
theorem macF_parts {ι : Type} (i0 : ι) (sk : ι → List Nat) (hs : ∀ j, ∃ i, memB j (sk i) = false) {CC : List CutS} (hC : ∀ C ∈ CC, C.sk = []) {o : Orc} {q : Kn} {args : List AV} (hr : ∀ i, (macF cx D q0 (CC.map fun C => C.skip (sk i)) n g).run o q args = true) : (macF cx D q0 CC n g).run o q args = true := by
  unfold macF at hr ⊢
  cases hf : cx.funcs.get g with
  | none => simp only [hf] at hr; exact absurd (hr i0) (by intro hc; cases hc)
  | some fn =>
    simp only [hf] at hr ⊢
    cases hb : fn.body with
    | none => simp only [hb] at hr; exact absurd (hr i0) (by intro hc; cases hc)
    | some c =>
      simp only [hb] at hr ⊢
      exact mac_parts i0 sk hs hC c (fun _ => endM (resF cx fn.results.toList).run) _ (fun _ _ _ _ h => h) o q _ _ hr
end Go.Abs

namespace Go.Abs
open Go.RowKit
variable {P : Program} {bs : List Nat}

/-! # laws with a cut loop -/
noncomputable def cutsB (as : List Def) (nr : Nat) (CC : List CutS) : Bool := CC.all fun C => both (match C.sk with
  | [] => true
  | _ :: _ => false) (loopsB as nr C.R C.K [])
/-- each body is run in some part -/
noncomputable def coverB (N : Nat) (pk : List (List Nat)) : Bool := both (allT (fun j _ => pk.any fun s => !memB j s) (List.replicate N Orc.fin) 0) (pk.any fun s => s.all fun j => Nat.blt j N)
theorem coverB_ok {N : Nat} {pk : List (List Nat)} (h : coverB N pk = true) (j : Nat) : ∃ i : { s // s ∈ pk }, memB j i.1 = false := by
  obtain ⟨h1, h2⟩ := both_iff.1 h
  by_cases hj : j < N
  · have := allT_get h1 j Orc.fin (by rw [List.getElem?_replicate, if_pos hj])
    obtain ⟨s, hs, hm⟩ := List.any_eq_true.1 this
    refine ⟨⟨s, hs⟩, ?_⟩
    simp only [Nat.zero_add] at hm
    cases e : memB j s with
    | true => rw [e] at hm; cases hm
    | false => rfl
  · obtain ⟨s, hs, hm⟩ := List.any_eq_true.1 h2
    refine ⟨⟨s, hs⟩, ?_⟩
    cases e : memB j s with
    | true =>
      have := List.all_eq_true.1 hm j ((memB_iff _ _).1 e)
      rw [natBlt_eq] at this
      exact absurd (by simpa using this) hj
    | false => rfl
noncomputable def partB (cx : Cx) (D : Tr Def) (bs : List Nat) (CC : List CutS) (n g : Nat) (args : List AV) (o : Orc) (s : List Nat) : Bool := (macF cx D ⟨[], [], tabB bs, [], [], []⟩ (CC.map fun C => C.skip s) n g).run o ⟨[], [], tabB bs, [], [], []⟩ args
theorem law_cut {pl : Tr (Tr (List (List Nat)))} {ms : Tr (Tr (List Nat))} {sums : Tr Sum} (a : Asked P pl ms) (hs : ∀ {σ : Val} g s, sums.get g = some s → SumOK P σ g s) {as ds : List Def} (hw : wfDs as as.length ds = true) (hb : bytesB (tabD as ds) bs = true) {args : List AV} (hargs : args.all (argLt as.length) = true)
    {rv xs : List Int} (ha : argsL as (rv ++ xs)) {CC : List CutS} (hc : cutsB as rv.length CC = true) {n g N : Nat} {o : Orc} {pk : List (List Nat)} (hp : coverB N pk = true) (hr : ∀ s ∈ pk, partB (cxW P pl .nil sums) (tabD as ds) bs CC n g args o s = true) (w : World) :
    Calls P g ⟨args.map (avA (atL (rv ++ xs)))⟩ w fun e w' => e = .returned (.bool true) ∧ Below w.heap.size w w' := by
  have hsk : ∀ C ∈ CC, C.sk = [] ∧ loopsB as rv.length C.R C.K [] = true := fun C hC => by
    obtain ⟨h1, h2⟩ := both_iff.1 (List.all_eq_true.1 hc C hC)
    refine ⟨?_, h2⟩
    split at h1
    · assumption
    · cases h1
  obtain ⟨i0, _⟩ := coverB_ok hp 0
  have hrun := macF_parts (cx := cxW P pl .nil sums) i0 (fun i : { s // s ∈ pk } => i.1) (coverB_ok hp) (fun C hC => (hsk C hC).1) (fun i => hr i.1 i.2)
  have hV : ∀ σ, VL as ds rv (fun _ _ => none) (fun _ => undef) [] σ → Fit P (cxW P pl .nil sums) ms (tabD as ds) bs σ := fun σ hσ => by
    obtain ⟨vs, hv, _, rfl, _⟩ := hσ
    exact fit_of a hs (valL_ok hw hv) hb
  have hR : ∀ C ∈ CC, Rv (VL as ds rv (fun _ _ => none) (fun _ => undef) []) (tabD as ds) C.R C.K ∧ C.sk = [] := fun C hC =>
    ⟨rv_of hw (hsk C hC).2 (fun _ h => by cases h) List.nodup_nil, (hsk C hC).1⟩
  have hσ : VL as ds rv (fun _ _ => none) (fun _ => undef) [] (valD as ds (rv ++ xs)) := ⟨rv ++ xs, ha, fun i hi => by simp only [atL]; rw [List.getElem?_append_left hi], rfl, fun _ h => by cases h⟩
  exact law_of_mac hV (fun _ _ => KnOK.nil) hR hrun hσ KnOK.nil (args_conc hargs) w (fun _ _ _ h => by cases h)

/-- a literal state's temporaries: those that are given; holes -/
def lookT (t : Nat) : List (Nat × AV) → Option AV
  | [] => none
  | p :: l => match Nat.beq p.1 t with
    | true => some p.2
    | false => lookT t l
def litTms (base : Nat) (live : List (Nat × AV)) : Nat → Nat → List AV
  | 0, _ => []
  | n + 1, t => (match lookT t live with
    | some v => v
    | none => .hole (Nat.add base t)) :: litTms base live n (Nat.succ t)
end Go.Abs

namespace Go.Abs
open Go.RowKit Go.ChangeShapes Go.WideShapes Go.ChangeAt Go.WideMaps Go.WideElems
variable {P : Program} {bs : List Nat} {H : Type} {enc : TypeId × Value → H}

/-! # laws whose arguments hold lists of numbers -/
/-- a list of numbers that came in -/
structure IntsIn (W : World) (k : IntKind) (v : Value) (len : Nat) (z : Nat → Int) : Prop where
  shape : ∃ (a : Option Addr) (cap : Nat), v = .slice a len cap ∧ (a = none → len = 0) ∧ ∀ b, a = some b → ∀ i, i < len → W.cell? (b.add i) = some (.int k (z i))
  top : len ≤ maxLen
  wf : ∀ i, i < len → (Lit.int k (z i)).wf = true
theorem ints_in {t e : TypeId} {k : IntKind} (ht : P.underlying t = some (.slice e)) (he : P.underlying e = some (.int k)) (hc : P.cellsOf e = 1) {W : World} {r : Reach} {base b : Nat} {spare : Nat → Bool} {held : Bool} {v : Value} {d : DataW H} {p : List MemPlace}
    (hval : Value.okWide P W r b t v) (h : DataW.Trod enc P W base spare held t v d p) : ∃ len z, IntsIn W k v len z := by
  obtain ⟨a1, len, cap, rfl⟩ := okWide_slice ht hval
  obtain ⟨fuel, hf⟩ := h
  rcases open_ints ht he hc hf with ⟨hcs, hx⟩ | ⟨a, len', cap', zs, hcs, _, hl, hm, hz, hx, hcell, hwz⟩
  · simp [Value.cells] at hcs
    obtain ⟨rfl, rfl, rfl⟩ := hcs
    exact ⟨0, fun _ => 0, ⟨⟨none, 0, rfl, (fun _ => rfl), fun b h => by cases h⟩, Nat.zero_le _, fun i h => by omega⟩⟩
  · simp [Value.cells] at hcs
    obtain ⟨rfl, rfl, rfl⟩ := hcs
    have hlz : len ≤ zs.length := by rw [hz]; split <;> omega
    refine ⟨len, fun i => zs.getD i 0, ⟨⟨some a, cap, rfl, (fun h => by cases h), fun b hb i hi => ?_⟩, by omega, fun i hi => ?_⟩⟩
    · cases hb
      exact hcell i (by omega)
    · have e : zs.getD i 0 = zs[i]'(by omega) := by simp [List.getD, List.getElem?_eq_getElem (show i < zs.length by omega)]
      rw [e]
      exact hwz _ (List.getElem_mem _)

/-- what came in, as the interpreter sees it -/
def glOf (W : World) : Nat → Nat → Option Value := fun b o => W.cell? ⟨b, o, none⟩
theorem glOf_ok {W : World} {g j : Nat} {v : Value} (h : glOf W g j = some v) : g < W.heap.size ∧ W.cell? ⟨g, j, none⟩ = some v := by
  refine ⟨?_, h⟩
  have h : W.cell? ⟨g, j, none⟩ = some v := h
  rcases Nat.lt_or_ge g W.heap.size with h1 | h1
  · exact h1
  · have : W.heap[g]? = none := by simp [h1]
    simp [World.cell?, this] at h
theorem add_spot {W : World} {a : Addr} {v : Value} (h : W.cell? (a.add 0) = some v) : a.spot = none := by
  have := World.cell?_spot h
  simpa [Addr.add] using this
theorem add_none (b o i : Nat) : (Addr.mk b o none).add i = ⟨b, o + i, none⟩ := by
  unfold Addr.add
  split
  · rename_i h; simp_all
  · rfl
theorem IntsIn.len_ok {W : World} {k : IntKind} {v : Value} {len : Nat} {z : Nat → Int} (hi : IntsIn W k v len z) {σ : Val} {j s : Nat} (ho : σ.opq j = v) (hn : σ.num s = Int.ofNat len) : FLenOK σ ⟨j, .sym .i64 s⟩ := by
  obtain ⟨a, cap, rfl, h1, h2⟩ := hi.shape
  refine ⟨a, len, cap, ho, h1, fun hl b hb => add_spot (h2 b hb 0 hl), fun E hE => ?_⟩
  simp only [conc, hE, hn]
def intsW (j s0 m : Nat) (k : IntKind) : List Win := (List.range m).map fun i => ⟨j, 1, true, i, [(k, s0 + i)]⟩
theorem IntsIn.read_ok {W : World} {k : IntKind} {v : Value} {len : Nat} {z : Nat → Int} (hi : IntsIn W k v len z) {σ : Val} {j s0 m : Nat} (ho : σ.opq j = v) (hgl : σ.glob = glOf W) (hz : ∀ i, i < m → i < len → σ.num (s0 + i) = z i) : ∀ w ∈ intsW j s0 m k, FReadOK σ w.read := by
  intro w hw
  obtain ⟨i, hm, rfl⟩ := List.mem_map.1 hw
  have hm := List.mem_range.1 hm
  intro a len' cap' hop hsp h0 h1
  simp only [Win.read] at hop h0 h1 ⊢
  obtain ⟨a1, cap, rfl, e1, e2⟩ := hi.shape
  rw [ho] at hop
  cases hop
  have hil : i < len := by simpa [ixV] using h1
  refine ⟨rfl, [.int k (σ.num (s0 + i))], fun E hE => by simp [concs, conc, hE], fun c u hu => ?_⟩
  cases c with
  | succ c => simp at hu
  | zero =>
    simp only [List.getElem?_cons_zero, Option.some.injEq] at hu
    subst hu
    have := e2 a rfl i hil
    rw [hgl]
    show W.cell? _ = _
    rw [hz i hm hil, ← this]
    obtain ⟨ab, ao, sp⟩ := a
    simp only at hsp; subst hsp
    rw [add_none]
    simp [ixV]

noncomputable def dupB : List Nat → Bool
  | [] => true
  | x :: l => both (!memB x l) (dupB l)
theorem dupB_ok : ∀ {l : List Nat}, dupB l = true → l.Nodup
  | [], _ => List.nodup_nil
  | x :: l, h => by
    obtain ⟨h1, h2⟩ := both_iff.1 h
    refine List.nodup_cons.2 ⟨fun hc => ?_, dupB_ok h2⟩
    rw [(memB_iff _ _).2 hc] at h1; cases h1
noncomputable def cutsLB (as ds : List Def) (nr : Nat) (W : List Win) (CC : List CutS) : Bool := both (dupB (W.flatMap fun w => w.cells.map (·.2))) (CC.all fun C => both (match C.sk with
  | [] => true
  | _ :: _ => false) (both (loopsB as nr C.R C.K []) (W.all fun w => staB (tabD as ds) C.K w)))
noncomputable def partL (cx : Cx) (D : Tr Def) (q0 : Kn) (CC : List CutS) (n g : Nat) (args : List AV) (o : Orc) (s : List Nat) : Bool := (macF cx D q0 (CC.map fun C => C.skip s) n g).run o q0 args
/-- a law with lists -/
theorem law_list {pl : Tr (Tr (List (List Nat)))} {ms : Tr (Tr (List Nat))} {sums : Tr Sum} (a : Asked P pl ms) (hs : ∀ {σ : Val} g s, sums.get g = some s → SumOK P σ g s) {as ds : List Def} (hw : wfDs as as.length ds = true) (hb : bytesB (tabD as ds) bs = true)
    {rv xs : List Int} (ha : argsL as (rv ++ xs)) {w : World} {oq : Nat → Value} {W : List Win} {lens : List FLen} {CC : List CutS} (hc : cutsLB as ds rv.length W CC = true)
    (hread : ∀ x ∈ W, FReadOK (valL as ds (rv ++ xs) (glOf w) oq) x.read) (hlens : ∀ vs, (∀ i, i < rv.length → atL vs i = atL rv i) → ∀ f ∈ lens, FLenOK (valL as ds vs (glOf w) oq) f)
    {args : List AV} {A : List Value} (hargs : concs (noEnv (valL as ds (rv ++ xs) (glOf w) oq)) args = some A)
    {n g N : Nat} {o : Orc} {pk : List (List Nat)} (hp : coverB N pk = true) (hr : ∀ s ∈ pk, partL (cxW P pl .nil sums) (tabD as ds) ⟨[], [], tabB bs, lens, W.map Win.read, []⟩ CC n g args o s = true) :
    Calls P g ⟨A⟩ w fun e w' => e = .returned (.bool true) ∧ Below w.heap.size w w' := by
  obtain ⟨hd, hcc⟩ := both_iff.1 hc
  have hsk : ∀ C ∈ CC, C.sk = [] ∧ loopsB as rv.length C.R C.K [] = true ∧ W.all (fun w => staB (tabD as ds) C.K w) = true := fun C hC => by
    obtain ⟨h1, h2⟩ := both_iff.1 (List.all_eq_true.1 hcc C hC)
    obtain ⟨h3, h4⟩ := both_iff.1 h2
    refine ⟨?_, h3, h4⟩
    split at h1
    · assumption
    · cases h1
  obtain ⟨i0, _⟩ := coverB_ok hp 0
  have hrun := macF_parts (cx := cxW P pl .nil sums) i0 (fun i : { s // s ∈ pk } => i.1) (coverB_ok hp) (fun C hC => (hsk C hC).1) (fun i => hr i.1 i.2)
  have hV : ∀ σ, VL as ds rv (glOf w) oq W σ → Fit P (cxW P pl .nil sums) ms (tabD as ds) bs σ := fun σ hσ => by
    obtain ⟨vs, hv, _, rfl, _⟩ := hσ
    exact fit_of a hs (valL_ok hw hv) hb
  have hQ : ∀ σ, VL as ds rv (glOf w) oq W σ → KnOK P σ bs ⟨[], [], tabB bs, lens, W.map Win.read, []⟩ := fun σ hσ => by
    obtain ⟨vs, hv, h1, rfl, h2⟩ := hσ
    exact ⟨(fun _ h => by cases h), (fun _ h => by cases h), rfl, hlens vs h1, (fun f hf => by
      obtain ⟨x, hx, rfl⟩ := List.mem_map.1 hf
      exact h2 x hx), (fun _ h => by cases h)⟩
  have hR : ∀ C ∈ CC, Rv (VL as ds rv (glOf w) oq W) (tabD as ds) C.R C.K ∧ C.sk = [] := fun C hC =>
    ⟨rv_of hw (hsk C hC).2.1 (fun x hx => .inl (List.all_eq_true.1 (hsk C hC).2.2 x hx)) (dupB_ok hd), (hsk C hC).1⟩
  have hσ : VL as ds rv (glOf w) oq W (valL as ds (rv ++ xs) (glOf w) oq) := ⟨rv ++ xs, ha, fun i hi => by simp only [atL]; rw [List.getElem?_append_left hi], rfl, hread⟩
  exact law_of_mac hV hQ hR hrun hσ (hQ _ hσ) hargs w (fun g j v h => glOf_ok h)

/-- the symbols of a list: its length, its elements -/
def asI (Llo Lhi : Int) (k : IntKind) (lo hi : Int) (m : Nat) : List Def := .arg .i64 Llo Lhi :: List.replicate m (.arg k lo hi)
/-- a law of one list of numbers -/
theorem law_ints {pl : Tr (Tr (List (List Nat)))} {ms : Tr (Tr (List Nat))} {sums : Tr Sum} (a : Asked P pl ms) (hs : ∀ {σ : Val} g s, sums.get g = some s → SumOK P σ g s) {ds : List Def} {Llo Lhi lo hi : Int} {k : IntKind} {m : Nat} (hw : wfDs (asI Llo Lhi k lo hi m) (asI Llo Lhi k lo hi m).length ds = true) (hb : bytesB (tabD (asI Llo Lhi k lo hi m) ds) bs = true)
    {CC : List CutS} (hc : cutsLB (asI Llo Lhi k lo hi m) ds (1 + m) (intsW 0 1 m k) CC = true) {N : Nat} {pk : List (List Nat)} (hp : coverB N pk = true) (hk : ∀ n, (Lit.int k n).wf = true → lo ≤ n ∧ n ≤ hi) (h0 : lo ≤ 0 ∧ 0 ≤ hi)
    {w : World} {v : Value} {len : Nat} {z : Nat → Int} (hi' : IntsIn w k v len z) (h1 : Llo ≤ Int.ofNat len) (h2 : Int.ofNat len ≤ Lhi) {n g : Nat} {o : Orc}
    (hr : ∀ s ∈ pk, partL (cxW P pl .nil sums) (tabD (asI Llo Lhi k lo hi m) ds) ⟨[], [], tabB bs, [⟨0, .sym .i64 0⟩], (intsW 0 1 m k).map Win.read, []⟩ CC n g [.opq 0] o s = true) :
    Calls P g ⟨[v]⟩ w fun e w' => e = .returned (.bool true) ∧ Below w.heap.size w w' := by
  let z' : Nat → Int := fun i => if i < len then z i else 0
  have hz : ∀ i, lo ≤ z' i ∧ z' i ≤ hi := fun i => by
    simp only [z']
    split
    · rename_i hl; exact hk _ (hi'.wf i hl)
    · exact h0
  let rv : List Int := Int.ofNat len :: (List.range' 0 m).map z'
  have hlen : rv.length = 1 + m := by simp [rv]; omega
  have ha : argsL (asI Llo Lhi k lo hi m) (rv ++ []) := by
    rw [List.append_nil]
    refine ⟨⟨h1, h2⟩, ?_⟩
    have := argsL_mk (as := List.replicate m (Def.arg k lo hi)) (o := 0) (g := z') fun j d hd => by
      rw [List.getElem?_replicate] at hd
      split at hd
      · cases hd; exact ⟨k, lo, hi, rfl, (hz (0 + j)).1, (hz (0 + j)).2⟩
      · cases hd
    rwa [List.length_replicate] at this
  have at0 : ∀ vs, (∀ i, i < rv.length → atL vs i = atL rv i) → ∀ i, i < rv.length → (valL (asI Llo Lhi k lo hi m) ds vs (glOf w) fun _ => v).num i = atL rv i := fun vs h i hi => by
    rw [valL_arg (by simp [asI]; omega)]; exact h i hi
  have hov : opqV v = true := by obtain ⟨_, _, rfl, _⟩ := hi'.shape; rfl
  have one : ∀ i, i < rv.length → atL (rv ++ []) i = atL rv i := fun i _ => by rw [List.append_nil]
  refine law_list (rv := rv) (xs := []) (oq := fun _ => v) (W := intsW 0 1 m k) (lens := [⟨0, .sym .i64 0⟩]) a hs hw hb ha (by rw [hlen]; exact hc) ?_ ?_ (args := [.opq 0]) (by simp [concs, conc, noEnv, valL, hov]) hp hr
  · refine hi'.read_ok rfl rfl fun i h3 h4 => ?_
    rw [at0 _ one (1 + i) (by omega)]
    show atL (Int.ofNat len :: (List.range' 0 m).map z') (1 + i) = z i
    rw [Nat.add_comm]
    simp only [atL, List.getElem?_cons_succ]
    have := atL_mk (g := z') h3
    simp only [atL] at this
    rw [this]
    simp only [z', if_pos h4]
  · intro vs hv f hf
    have hf := List.mem_singleton.1 hf
    subst hf
    exact hi'.len_ok rfl (at0 vs hv 0 (by simp [rv]))
end Go.Abs

namespace Go.Abs
theorem and_t {a b : Bool} (h : a = true) (k : b = true) : (a && b) = true := by rw [h, k]; rfl
/-- the row's closed facts, each by itself -/
theorem joined_mk {P : Program} {f : FuncId} {fn : Func} {s : ChangeSpec} {c : OpenClaim}
    (h0 : (c.wf (OpenSpec.ofChange s)) = true)
    (h1 : (laidOutB P) = true)
    (h2 : (mapsRowed P) = true)
    (h3 : (fn.params.all (P.readableRec ·)) = true)
    (h4 : (namedTie P c.named s.vars) = true)
    (h5 : ((c.stops == [])) = true)
    (h6 : ((P.stops == [])) = true)
    (h7 : ((c.knobs == [])) = true)
    (h8 : ((P.stopKnobs == [])) = true)
    (h9 : ((c.inPlace == P.inPlace f)) = true)
    (h10 : ((c.unfollowed == P.unfollowed f)) = true)
    (h11 : ((c.recurses == P.recurses f)) = true)
    (h12 : ((c.named == P.varsNamed f)) = true)
    (h13 : ((c.maps == (fn.params.toList ++ s.plain.varTypes P).any (P.mapsRec ·))) = true)
    (h14 : ((c.ifaces == (fn.params.toList ++ s.plain.varTypes P).any (P.ifacesRec ·))) = true)
    (h15 : ((c.mapsOut == P.mapsAmong fn.resultTypes.toList)) = true)
    (h16 : ((c.loops == (fn.params.toList ++ s.plain.varTypes P).any (P.loopsFrom ·))) = true)
    (h17 : ((c.wideKeys == (fn.params.toList ++ s.plain.varTypes P ++ fn.resultTypes.toList).any (P.wideKeysFrom ·))) = true)
    (h18 : (s.vars.all (P.varReadable ·)) = true)
    (h19 : (fn.resultTypes.all (fun t => P.readableRec t && decide (t < P.types.size))) = true)
    (h20 : ((c.ifacesOut == fn.resultTypes.toList.any (P.ifacesRec ·))) = true)
    (h21 : ((c.loopsOut == fn.resultTypes.toList.any (P.loopsFrom ·))) = true)
    (h22 : ((c.plainKeys == P.plainKeys)) = true)
    (h23 : (c.shortTexts.isNone) = true)
    (h24 : (P.stopsHeard) = true)
    (h25 : (P.mayEnter) = true)
    (h26 : ((c.lifted == P.liftsFinal)) = true)
    (h27 : ((P.make == some c.make)) = true)
    (h28 : ((c.kinds == (if c.domain.isEmpty then [] else fn.params.toList.map fun t => match P.underlying t with | some (.int k) => some k | _ => none))) = true)
    (h29 : ((c.pinned == c.pinnedBy)) = true)
    (h30 : ((c.veiled == (fn.params.toList ++ s.plain.varTypes P ++ fn.resultTypes.toList).any (P.veiledRec ·))) = true)
    (h31 : (c.veiledFits P fn.params.toList (fn.params.toList ++ s.plain.varTypes P ++ fn.resultTypes.toList)) = true) : joinedFacts P f fn s c = true := by
  unfold joinedFacts
  exact (and_t (and_t (and_t (and_t (and_t (and_t (and_t (and_t (and_t (and_t (and_t (and_t (and_t (and_t (and_t (and_t (and_t (and_t (and_t (and_t (and_t (and_t (and_t (and_t (and_t (and_t (and_t (and_t (and_t (and_t (and_t h0 h1) h2) h3) h4) h5) h6) h7) h8) h9) h10) h11) h12) h13) h14) h15) h16) h17) h18) h19) h20) h21) h22) h23) h24) h25) h26) h27) h28) h29) h30) h31)
end Go.Abs
