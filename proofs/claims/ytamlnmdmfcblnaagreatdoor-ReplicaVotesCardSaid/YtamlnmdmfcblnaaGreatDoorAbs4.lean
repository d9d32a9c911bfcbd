/- Regions, in the order of the text and in any order. No premise of its own. -/
import Derived.Test.YtamlnmdmfcblnaaGreatDoorAbs3
import Derived.Orders
import Derived.LoopN
import Derived.Scope
set_option linter.unusedVariables false
set_option linter.unusedSimpArgs false
namespace Go.Abs
open Go.RowKit

variable {P : Program} {σ : Val} {cx : Cx}

/-- a call that gives a value -/
def Called (P : Program) (f : Nat) (A : Array Value) (w : World) (R : Value → World → Prop) : Prop :=
  ((callFunc f A).run P w = .ok (.enter f A) w ∧ Calls P f A w fun e w' => ∃ V, e = .returned V ∧ R V w') ∨
  (∃ V w', (callFunc f A).run P w = .ok (.value V) w' ∧ R V w')

theorem Called.mono {f : Nat} {A : Array Value} {w : World} {R R' : Value → World → Prop} (h : Called P f A w R) (hr : ∀ V w', R V w' → R' V w') : Called P f A w R' := by
  rcases h with ⟨h1, h2⟩ | ⟨V, w', h1, h2⟩
  · exact .inl ⟨h1, Calls.mono h2 fun e w' ⟨V, he, hR⟩ => ⟨V, he, hr V w' hR⟩⟩
  · exact .inr ⟨V, w', h1, hr V w' h2⟩

/-- what a call table's answers mean -/
def SumOK (P : Program) (σ : Val) (f : Nat) (s : Sum) : Prop :=
  (∀ args h v h', s args h = some (v, h') → h.next ≤ h'.next ∧
    ∀ (E : Env) (B : Nat) (w0 w : World) (A : List Value), E.σ = σ → concs E args = some A → Rel E B w0 h w → Fresh E h h' →
      Called P f ⟨A⟩ w fun V w' => ∃ E', conc E' v = some V ∧ Post E B w0 h w E' h' w') ∧
  ∀ args h v h', s args h = some (v, h') → HExt h h'
def CallOK (P : Program) (σ : Val) (callf : CallF) : Prop := ∀ f, SumOK P σ f (callf f)

structure ActOK (E : Env) (nt : Nat) (tm : Tm) (a : Act) : Prop where
  tm : TmRel E tm a
  size : nt ≤ a.tmps.size
  defers : a.defers = []

theorem TmRel.mono {E E' : Env} {tm : Tm} {a : Act} (h : TmRel E tm a) (he : E.le E') : TmRel E' tm a := fun t => conc_mono he _ _ (h t)
theorem ActOK.mono {E E' : Env} {nt : Nat} {tm : Tm} {a : Act} (h : ActOK E nt tm a) (he : E.le E') : ActOK E' nt tm a := ⟨h.tm.mono he, h.size, h.defers⟩

theorem getD_putA (tm : Tm) (d : Option Nat) (v : AV) (t : Nat) : (putA tm d v).at t = if d = some t then v else tm.at t := by
  cases d with
  | none => simp [putA]
  | some d =>
    simp only [putA, Tm.at_set]
    by_cases e : t = d
    · subst e; simp
    · rw [if_neg e, if_neg (by simp; exact fun x => e x.symm)]

theorem ActOK.put {E : Env} {nt : Nat} {tm : Tm} {a : Act} (h : ActOK E nt tm a) {v : AV} {V : Value} (hv : conc E v = some V) {dst : Option Nat} (hd : ∀ d, dst = some d → d < nt) :
    ActOK E nt (putA tm dst v) (a.put dst V) := by
  refine ⟨fun t => ?_, ?_, ?_⟩
  · rw [getD_putA]
    cases dst with
    | none => simpa [Act.put] using h.tm t
    | some d =>
      have hlt : d < a.tmps.size := Nat.lt_of_lt_of_le (hd d rfl) h.size
      by_cases e : d = t
      · subst e; simp [Act.put, hlt, hv]
      · have := h.tm t
        simp only [Act.put, Option.some.injEq, e, if_false]
        simpa [Array.getElem?_setIfInBounds_ne e] using this
  · cases dst <;> simp [Act.put, h.size]
  · cases dst <;> simp [Act.put, h.defers]

theorem conc_boolI {E : Env} {x : AV} {b : Bool} (h : conc E x = some (.bool b)) : x = .bool b ∨ (∃ i, x = .hole i) ∨ ∃ j, x = .opq j := by
  cases x <;> simp only [conc] at h
  case bool c => exact .inl (by simpa using h)
  case hole i => exact .inr (.inl ⟨i, rfl⟩)
  case opq j => exact .inr (.inr ⟨j, rfl⟩)
  case lptr j es c n off => obtain ⟨a, h⟩ := lptrC_one h; cases h
  case fn f a c => split at h <;> simp at h
  case slice i off eo len cap =>
    simp only [Option.bind_eq_some_iff] at h
    obtain ⟨p, _, h⟩ := h
    split at h <;> cases h
  case tail i off eo len size => simp only [Option.map_eq_some_iff] at h; obtain ⟨u, _, h⟩ := h; split at h <;> cases h
  case agg cs => split at h <;> simp at h
  all_goals simp at h

def bval (want : Bool) : Value → Bool
  | .bool b => (b == want)
  | _ => false
theorem wantedV_sound {E : Env} {x : AV} {V : Value} (hx : conc E x = some V) {want r : Bool} (h : wantedV want x = some r) : r = bval want V := by
  by_cases hb : ∃ c, x = .bool c
  · obtain ⟨c, rfl⟩ := hb
    have : V = .bool c := by simpa [conc] using hx.symm
    subst this
    simp only [wantedV, Option.some.injEq] at h
    rw [← h]
    exact boolEq_eq _ _
  · have hr : r = false := by
      cases x <;> simp only [wantedV, Option.some.injEq] at h <;> first | exact h.symm | exact absurd ⟨_, rfl⟩ hb | cases h
    have hh : ∀ i, x ≠ .hole i := fun i e => by subst e; cases h
    have ho : ∀ i, x ≠ .opq i := fun i e => by subst e; cases h
    subst hr
    cases V <;> first | rfl | (rename_i b; exact (conc_boolI hx).elim (fun h => absurd ⟨_, h⟩ hb) (fun h => h.elim (fun ⟨_, h⟩ => absurd h (hh _)) (fun ⟨_, h⟩ => absurd h (ho _))))

theorem wanted_sound {E : Env} {tm : Tm} {a : Act} (ht : TmRel E tm a) (ops : Array Oper) (o : Oper) {r : Bool} (hr : wantedA ops.toList tm o = some r) : Region.wanted o (yielded ops a.tmps) = r := by
  unfold wantedA at hr
  unfold Region.wanted
  cases hg : o.guard with
  | none => rw [hg] at hr; simpa using hr
  | some gw =>
    obtain ⟨g, want⟩ := gw
    simp only [hg] at hr ⊢
    unfold yielded
    rw [nth_eq, Array.getElem?_toList] at hr
    cases ho : ops[g]? with
    | none => rw [ho] at hr; simpa using hr
    | some oo =>
      simp only [ho] at hr
      simp only [Option.bind_some]
      cases hd : oo.dst with
      | none => rw [hd] at hr; simpa using hr
      | some d =>
        simp only [hd] at hr
        simp only [Option.bind_some]
        have h1 := wantedV_sound (ht d) hr
        rw [h1, Array.getD_eq_getD_getElem?]
        cases hv : a.tmps[d]? with
        | none => rfl
        | some V => cases V <;> rfl

def OutOK (E : Env) (B : Nat) (w0 : World) (h : AH) (w : World) (nt : Nat) : AOut → Exit → Act → World → Prop
  | .norm tm h', e, a', w' => e = .normal ∧ ∃ E', ActOK E' nt tm a' ∧ Post E B w0 h w E' h' w'
  | .exit id tm h', e, a', w' => e = .exit id ∧ ∃ E', ActOK E' nt tm a' ∧ Post E B w0 h w E' h' w'
  | .ret tm h', e, a', w' => e = .ret ∧ ∃ E', ActOK E' nt tm a' ∧ Post E B w0 h w E' h' w'
  | .no, _, _, _ => False

def AOut.heap : AOut → AH → AH
  | .norm _ h, _ | .exit _ _ h, _ | .ret _ h, _ => h
  | .no, h => h

theorem OutOK.trans {E E1 : Env} {B : Nat} {w0 : World} {h h1 : AH} {w w1 : World} {nt : Nat} (p : Post E B w0 h w E1 h1 w1) {o : AOut} {e : Exit} {a : Act} {w2 : World}
    (ho : OutOK E1 B w0 h1 w1 nt o e a w2) : OutOK E B w0 h w nt o e a w2 := by
  cases o with
  | no => exact ho
  | norm tm h' => obtain ⟨he, E', ha, hp⟩ := ho; exact ⟨he, E', ha, p.trans hp⟩
  | exit id tm h' => obtain ⟨he, E', ha, hp⟩ := ho; exact ⟨he, E', ha, p.trans hp⟩
  | ret tm h' => obtain ⟨he, E', ha, hp⟩ := ho; exact ⟨he, E', ha, p.trans hp⟩

theorem Fresh.left {E : Env} {h h1 h2 : AH} (hf : Fresh E h h2) (hn : h1.next ≤ h2.next) : Fresh E h h1 := fun i h1 h2 => hf i h1 (by omega)
theorem Fresh.right {E E1 : Env} {B : Nat} {w0 : World} {h h1 h2 : AH} {w w1 : World} (hf : Fresh E h h2) (p : Post E B w0 h w E1 h1 w1) : Fresh E1 h1 h2 := fun i hi hi2 => by
  rw [p.only i (.inr hi)]; exact hf i (Nat.le_trans p.next hi) hi2

/-- one operation, wanted -/
theorem op_wp (ok : CxOK P σ cx) {callf : CallF} (hc : CallOK P σ callf) {tm : Tm} {h : AH} {o : Oper} {v : AV} {h' : AH}
    (ha : aop cx tm h o.op = .val v h' ∨ ∃ f args, aop cx tm h o.op = .call f args ∧ callf f args h = some (v, h')) :
    h.next ≤ h'.next ∧ ∀ (E : Env) (B : Nat) (w0 w : World) (a : Act) (K : Act → World → Prop) (Q : Exit → Act → World → Prop), E.σ = σ → TmRel E tm a → Rel E B w0 h w → Fresh E h h' →
      (∀ E' V w', conc E' v = some V → Post E B w0 h w E' h' w' → K (a.put o.dst V) w') → o.wp P a w K Q := by
  rcases ha with ha | ⟨f, args, ha, hcall⟩
  · obtain ⟨hn, hs⟩ := aop_val ok o ha
    refine ⟨hn, fun E B w0 w a K Q hσ ht hr hf hK => ?_⟩
    obtain ⟨E', V, w', hrun, hV, hp⟩ := hs E B w0 w a hσ ht hr hf
    unfold Oper.wp
    rcases hrun with hrun | ⟨rfl, hrun⟩
    · rw [hrun]; exact hK E' V w' hV hp
    · rw [hrun]; exact hK E' undef w' hV hp
  · obtain ⟨hn, hs⟩ := (hc f).1 args h v h' hcall
    refine ⟨hn, fun E B w0 w a K Q hσ ht hr hf hK => ?_⟩
    obtain ⟨A, hA, hrun⟩ := aop_call o ha E a ht
    unfold Oper.wp
    rw [hrun w]
    rcases hs E B w0 w A hσ hA hr hf with ⟨h1, h2⟩ | ⟨V, w', h1, E', hV, hp⟩
    · rw [h1]
      rw [Oper.upon_enter]
      refine Calls.mono h2 fun e w' hh => ?_
      obtain ⟨V, rfl, E', hV, hp⟩ := hh
      exact hK E' V w' hV hp
    · rw [h1]; exact hK E' V w' hV hp

inductive Lines (ops : Array Oper) : List Nat → List Oper → Prop where
  | nil : Lines ops [] []
  | cons {i : Nat} {o : Oper} {l : List Nat} {os : List Oper} (h : ops[i]? = some o) (t : Lines ops l os) : Lines ops (i :: l) (o :: os)

theorem Lines.range (ops : Array Oper) : Lines ops (List.range ops.size) ops.toList := by
  have key : ∀ (os : List Oper) (k : Nat), ops.toList.drop k = os → Lines ops (List.range' k os.length) os := by
    intro os
    induction os with
    | nil => intro k _; exact .nil
    | cons o os ih =>
      intro k hk
      refine .cons ?_ (ih (k + 1) ?_)
      · have : (ops.toList.drop k)[0]? = some o := by rw [hk]; rfl
        rw [List.getElem?_drop] at this
        simpa [← Array.getElem?_toList] using this
      · rw [← List.drop_drop, hk]; rfl
  have := key ops.toList 0 rfl
  rwa [← List.range_eq_range', Array.length_toList] at this

/-- a region in the order of the text -/
theorem runOps_sound (ok : CxOK P σ cx) {callf : CallF} (hc : CallOK P σ callf) {ops : Array Oper} {nt : Nat} :
    ∀ (os : List Oper) (l : List Nat) (tm : Tm) (h : AH) (out : AOut), Lines ops l os → (∀ o ∈ os, ∀ d, o.dst = some d → d < nt) →
      runOps cx callf ops.toList os tm h = out → out ≠ .no → h.next ≤ (out.heap h).next ∧
      ∀ (E : Env) (B : Nat) (w0 w : World) (a : Act), E.σ = σ → ActOK E nt tm a → Rel E B w0 h w → Fresh E h (out.heap h) → ∀ Q : Exit → Act → World → Prop,
        (∀ e a w', OutOK E B w0 h w nt out e a w' → Q e a w') → wpOps P ops Q l a w := by
  intro os
  induction os with
  | nil =>
    intro l tm h out hl _ hout _
    cases hl
    simp only [runOps] at hout
    subst hout
    exact ⟨Nat.le_refl _, fun E B w0 w a _ ha hr _ Q hQ => hQ _ _ _ ⟨rfl, E, ha, Post.refl hr⟩⟩
  | cons o os ih =>
    intro l tm h out hl hd hout hno
    cases hl with
    | @cons i _ l _ hi hl =>
    have hd' : ∀ o ∈ os, ∀ d, o.dst = some d → d < nt := fun o ho => hd o (by simp [ho])
    have hd0 := hd o (by simp)
    simp only [runOps] at hout
    split at hout
    · exact absurd hout.symm hno
    · rename_i hw
      obtain ⟨hn, hs⟩ := ih l _ h out hl hd' hout hno
      refine ⟨hn, fun E B w0 w a hσ ha hr hf Q hQ => ?_⟩
      have hw' := wanted_sound ha.tm ops o hw
      simp only [wpOps, hi, hw', Bool.false_eq_true, if_false]
      exact hs E B w0 w _ hσ (ha.put (conc_undef E) hd0) hr hf Q hQ
    · rename_i hw
      have next : ∀ v h1, (aop cx tm h o.op = .val v h1 ∨ ∃ f args, aop cx tm h o.op = .call f args ∧ callf f args h = some (v, h1)) →
          runOps cx callf ops.toList os (putA tm o.dst v) h1 = out → h.next ≤ (out.heap h).next ∧
          ∀ (E : Env) (B : Nat) (w0 w : World) (a : Act), E.σ = σ → ActOK E nt tm a → Rel E B w0 h w → Fresh E h (out.heap h) → ∀ Q : Exit → Act → World → Prop,
            (∀ e a w', OutOK E B w0 h w nt out e a w' → Q e a w') → wpOps P ops Q (i :: l) a w := by
        intro v h1 hop hout
        obtain ⟨hn1, hs1⟩ := op_wp ok hc hop
        obtain ⟨hn2, hs2⟩ := ih l _ h1 out hl hd' hout hno
        have hh : out.heap h1 = out.heap h := by cases out <;> first | rfl | exact absurd rfl hno
        rw [hh] at hn2
        refine ⟨Nat.le_trans hn1 hn2, fun E B w0 w a hσ ha hr hf Q hQ => ?_⟩
        have hw' := wanted_sound ha.tm ops o hw
        simp only [wpOps, hi, hw', if_true]
        refine .inl (hs1 E B w0 w a _ Q hσ ha.tm hr (hf.left hn2) fun E' V w' hV hp => ?_)
        refine hs2 E' B w0 w' _ (hp.ext.2.trans hσ) ((ha.mono hp.ext).put hV hd0) hp.rel ?_ Q fun e a w'' ho => hQ e a w'' (OutOK.trans hp ho)
        rw [hh]; exact hf.right hp
      split at hout
      · rename_i v h1 hv
        exact next v h1 (.inl hv) hout
      · rename_i f args hcall
        split at hout
        · rename_i v h1 hcf
          exact next v h1 (.inr ⟨f, args, hcall, hcf⟩) hout
        · exact absurd hout.symm hno
      · exact absurd hout.symm hno
end Go.Abs

namespace Go.Abs
open Go.RowKit

variable {P : Program} {σ : Val} {cx : Cx}

/-! ## an operation looks at its operands only -/
def Agree (tm tm' : Tm) (xs : List Operand) : Prop := ∀ t, Operand.tmp t ∈ xs → tm.at t = tm'.at t

theorem Agree.sub {tm tm' : Tm} {xs ys : List Operand} (h : Agree tm tm' xs) (hs : ∀ y ∈ ys, y ∈ xs) : Agree tm tm' ys := fun t ht => h t (hs _ ht)
theorem opnd_congr {tm tm' : Tm} {x : Operand} (h : Agree tm tm' [x]) : opnd tm x = opnd tm' x := by
  cases x with
  | tmp t => simp only [opnd]; rw [h t (by simp)]
  | _ => rfl
theorem opnd_congr' {tm tm' : Tm} {xs : List Operand} (h : Agree tm tm' xs) {x : Operand} (hx : x ∈ xs) : opnd tm x = opnd tm' x := opnd_congr (h.sub (by simpa using hx))
theorem opnds_congr {tm tm' : Tm} : ∀ {xs : List Operand}, Agree tm tm' xs → opnds tm xs = opnds tm' xs
  | [], _ => rfl
  | x :: xs, h => by simp only [opnds]; rw [opnd_congr' h (by simp), opnds_congr (h.sub (by simp; intro y hy; exact .inr hy))]
theorem partsA_congr {tm tm' : Tm} : ∀ {xs : List (Nat × Operand)}, Agree tm tm' (xs.map (·.2)) → partsA tm xs = partsA tm' xs
  | [], _ => rfl
  | (i, x) :: xs, h => by simp only [partsA]; rw [opnd_congr' h (by simp), partsA_congr (h.sub (by intro y hy; simp only [List.map_cons, List.mem_cons]; exact .inr hy))]
theorem optO_congr {tm tm' : Tm} {x : Option Operand} (h : Agree tm tm' x.toList) : optO tm x = optO tm' x := by
  cases x with
  | none => rfl
  | some x => simp only [optO]; rw [opnd_congr' h (by simp)]

theorem aop_congr {tm tm' : Tm} {h : AH} {o : Op} (ha : Agree tm tm' o.operands.toList) : aop cx tm h o = aop cx tm' h o := by
  cases o <;> simp only [Op.operands, Call.operands] at ha <;> simp only [aop, aop2, pickA, callO]
  case build t ps => rw [partsA_congr (ha.sub (by intro y hy; simpa using hy))]
  case buildSlice t n ps => rw [partsA_congr (ha.sub (by intro y hy; simpa using hy))]
  case makeFunc fn a c => rw [opnds_congr (ha.sub (by intro y hy; simp at hy ⊢; exact .inl hy)), opnds_congr (ha.sub (by intro y hy; simp at hy ⊢; exact .inr hy))]
  case slice t x lo hi mx =>
    rw [opnd_congr' ha (x := x) (by simp), optO_congr (x := lo) (ha.sub (by intro y hy; simp at hy ⊢; simp [hy])), optO_congr (x := hi) (ha.sub (by intro y hy; simp at hy ⊢; simp [hy])),
      optO_congr (x := mx) (ha.sub (by intro y hy; simp at hy ⊢; simp [hy]))]
  case call c =>
    obtain ⟨callee, args, argTypes⟩ := c
    cases callee with
    | value f =>
      simp only at ha ⊢
      rw [opnd_congr' ha (x := f) (by simp), opnds_congr (xs := args.toList) (ha.sub (by intro y hy; simp; exact .inr (by simpa using hy)))]
    | invoke r m => rfl
    | builtin b =>
      simp only at ha ⊢
      rw [opnds_congr (xs := args.toList) (ha.sub (by intro y hy; simp; simpa using hy))]
  all_goals first
    | rfl
    | (rename_i x; rw [opnd_congr' ha (x := x) (by simp)]; done)
    | (rename_i t x; rw [opnd_congr' ha (x := x) (by simp)]; done)
    | (rename_i x t; rw [opnd_congr' ha (x := x) (by simp)]; done)
    | (rename_i t x f; rw [opnd_congr' ha (x := x) (by simp)]; done)
    | (rename_i x y; rw [opnd_congr' ha (x := x) (by simp), opnd_congr' ha (x := y) (by simp)]; done)
    | (rename_i t x y; rw [opnd_congr' ha (x := x) (by simp), opnd_congr' ha (x := y) (by simp)]; done)
    | (rename_i x y z; rw [opnd_congr' ha (x := x) (by simp), opnd_congr' ha (x := y) (by simp), opnd_congr' ha (x := z) (by simp)]; done)
    | (rename_i t x y z; rw [opnd_congr' ha (x := x) (by simp), opnd_congr' ha (x := y) (by simp), opnd_congr' ha (x := z) (by simp)]; done)
    | (rename_i t x y b; rw [opnd_congr' ha (x := x) (by simp), opnd_congr' ha (x := y) (by simp)]; done)
    | (rename_i o t x y b; rw [opnd_congr' ha (x := x) (by simp), opnd_congr' ha (x := y) (by simp)]; done)

/-! ## kinds of operations -/
theorem rv_h {h h' : AH} {x : Option AV} {v : AV} (hh : rv h x = .val v h') (g : AH) : h' = h ∧ rv g x = .val v g := by
  unfold rv at hh ⊢; split at hh <;> cases hh; exact ⟨rfl, rfl⟩

/-- an operation that reads: it leaves the memory -/
theorem aop_L {tm : Tm} {h h' : AH} {o : Op} {v : AV} (hl : isL o = true) (ha : aop cx tm h o = .val v h') : h' = h := by
  cases o <;> simp only [isL, Bool.false_eq_true] at hl <;> simp only [aop, aop2] at ha
  case load => obtain ⟨_, _, ha⟩ := bind1_inv (by simp) ha; exact (rv_inv ha).2
  case lookup => obtain ⟨_, _, ha⟩ := bind1_inv (by simp) ha; obtain ⟨_, _, ha⟩ := bind1_inv (by simp) ha; exact (rv_inv ha).2
  case convert => obtain ⟨_, _, ha⟩ := bind1_inv (by simp) ha; exact (rv_inv ha).2
  case call c =>
    obtain ⟨callee, args, argTypes⟩ := c
    simp only [callO] at ha
    split at hl
    · rename_i hc
      simp only at hc
      subst hc
      simp only at ha
      unfold biA at ha
      split at ha
      · split at ha
        · exact (rv_inv ha).2
        · rename_i heq _; cases heq
        · rename_i heq _; cases heq
        · cases ha
      · split at ha
        all_goals (first | (cases ha; done) | (rename_i heq _; cases heq; done) | (rename_i heq; cases heq; done) | skip)
      · cases ha
    · cases hl

/-- what a new object adds -/
noncomputable def extH (h : AH) : Option AO → AH
  | none => h
  | some o => ⟨h.objs.set h.next o, h.next + 1⟩

/-- an operation that neither reads nor writes -/
theorem aop_Q {tm : Tm} {h h' : AH} {o : Op} {v : AV} (hl : isL o = false) (he : isE o = false) (ha : aop cx tm h o = .val v h') :
    ∃ st, h' = extH h st ∧ ∀ ob, aop cx tm ⟨ob, h.next⟩ o = .val v (extH ⟨ob, h.next⟩ st) := by
  have pure : ∀ {x : Option AV}, rv h x = .val v h' → ∃ st, h' = extH h st ∧ ∀ ob, rv ⟨ob, h.next⟩ x = .val v (extH ⟨ob, h.next⟩ st) := fun hx =>
    ⟨none, (rv_h hx h).1, fun ob => (rv_h hx _).2⟩
  cases o <;> simp only [isL, isE, reduceCtorEq] at hl he <;> simp only [aop, aop2] at ha ⊢
  case alloc t =>
    unfold allocA at ha ⊢
    split at ha
    · rename_i ty hty; cases ha; exact ⟨some _, rfl, fun ob => rfl⟩
    · cases ha
  case box t x =>
    obtain ⟨u, hu, ha⟩ := bind1_inv (by simp) ha
    unfold boxA at ha
    split at ha
    · rename_i htup; cases ha; exact ⟨some _, rfl, fun ob => by simp only [hu, bind1, boxA, htup]; rfl⟩
    · cases ha
  case buildSlice t n ps =>
    unfold buildSl at ha ⊢
    split at ha
    · split at ha
      · split at ha
        · split at ha
          · cases ha; exact ⟨some _, rfl, fun ob => by simp_all [newA, extH]⟩
          · cases ha
        · cases ha
      · cases ha
    · cases ha
  case makeMap t r =>
    unfold mkMapA at ha ⊢
    split at ha
    · cases ha; exact ⟨some _, rfl, fun ob => rfl⟩
    · cases ha
  case makeSlice t n c =>
    obtain ⟨u, hu, ha⟩ := bind1_inv (by simp) ha
    obtain ⟨u2, hu2, ha⟩ := bind1_inv (by simp) ha
    simp only [hu, hu2, bind1]
    unfold mkSlA at ha ⊢
    split at ha
    · split at ha
      · split at ha
        · split at ha
          · cases ha; exact ⟨some _, rfl, fun ob => by simp_all [newA, extH]⟩
          · cases ha
        · cases ha
      · cases ha
    · cases ha
  case call c =>
    obtain ⟨callee, args, argTypes⟩ := c
    simp only [callO] at ha ⊢
    cases callee with
    | value f => simp at he
    | invoke r m => simp at he
    | builtin b =>
      simp only at ha ⊢
      cases b <;> simp at he hl
      all_goals
        unfold biA at ha ⊢
        split at ha
        · simp at ha
        · simp only at ha ⊢; exact pure ha
        · cases ha
  all_goals first
    | (cases ha; done)
    | exact pure ha
    | (obtain ⟨u, hu, ha⟩ := bind1_inv (by simp) ha; simp only [hu, bind1]; exact pure ha)
    | (obtain ⟨u, hu, ha⟩ := bind1_inv (by simp) ha; obtain ⟨u2, hu2, ha⟩ := bind1_inv (by simp) ha; simp only [hu, hu2, bind1]; exact pure ha)

/-! ## equal values -/
mutual
theorem avEq_eq : ∀ (x y : AV), avEq x y = true → x = y
  | .bool a, y, h => by
    cases y <;> simp only [avEq, Bool.false_eq_true] at h
    rw [boolEq_eq] at h; simpa using h
  | .int k a, y, h => by
    cases y <;> simp only [avEq, Bool.false_eq_true] at h
    split at h
    · rename_i hk; rw [intEq_eq] at h; have := kEq_iff.1 hk; subst this; simpa using h
    · cases h
  | .sym k a, y, h => by
    cases y <;> simp only [avEq, Bool.false_eq_true] at h
    split at h
    · rename_i hk; rw [natBeq_eq] at h; have := kEq_iff.1 hk; subst this; simpa using h
    · cases h
  | .str a, y, h => by
    cases y <;> simp only [avEq, Bool.false_eq_true] at h
    rw [strEq_eq] at h; simpa using h
  | .sstr a, y, h => by
    cases y <;> simp only [avEq, Bool.false_eq_true] at h
    rw [avsEq_eq _ _ h]
  | .gptr i o, y, h => by
    cases y <;> simp only [avEq, Bool.false_eq_true] at h
    split at h
    · rename_i hk; rw [natBeq_eq] at h hk; simp at h hk; rw [hk, h]
    · cases h
  | .ptr i o, y, h => by
    cases y <;> simp only [avEq, Bool.false_eq_true] at h
    split at h
    · rename_i hk; rw [natBeq_eq] at h hk; simp at h hk; rw [hk, h]
    · cases h
  | .opq i, y, h => by
    cases y <;> simp only [avEq, Bool.false_eq_true] at h
    rw [natBeq_eq] at h; simpa using h
  | .lptr i e c n o, y, h => by
    cases y <;> simp only [avEq, Bool.false_eq_true] at h
    split at h
    · split at h
      · split at h
        · split at h
          · rename_i _ h1 _ h2 _ h3 _ h4
            rw [natBeq_eq] at h1 h2 h4 h; rw [boolEq_eq] at h3; simp at h1 h2 h3 h4 h
            subst h1 h2 h3 h4 h; rfl
          · cases h
        · cases h
      · cases h
    · cases h
  | .nilp, y, h => by cases y <;> simp only [avEq, Bool.false_eq_true] at h; rfl
  | .slice i o e l c, y, h => by
    cases y <;> simp only [avEq, Bool.false_eq_true] at h
    split at h
    · split at h
      · split at h
        · split at h
          · rename_i _ h1 _ h2 _ h3 _ h4
            rw [natBeq_eq] at h1 h2 h3 h4; simp at h1 h2 h3 h4
            subst h1 h2 h3 h4
            split at h
            · rfl
            · rw [natBeq_eq] at h; simp at h; rw [h]
            · cases h
          · cases h
        · cases h
      · cases h
    · cases h
  | .tail i o e l c, y, h => by cases y <;> simp only [avEq, Bool.false_eq_true] at h
  | .nils, y, h => by cases y <;> simp only [avEq, Bool.false_eq_true] at h; rfl
  | .map i, y, h => by
    cases y <;> simp only [avEq, Bool.false_eq_true] at h
    rw [natBeq_eq] at h; simpa using h
  | .nilm, y, h => by cases y <;> simp only [avEq, Bool.false_eq_true] at h; rfl
  | .fn f a b, y, h => by
    cases y <;> simp only [avEq, Bool.false_eq_true] at h
    split at h
    · split at h
      · rename_i _ h1 _ h2
        rw [natBeq_eq] at h1; simp at h1
        rw [h1, avsEq_eq _ _ h2, avsEq_eq _ _ h]
      · cases h
    · cases h
  | .nilf, y, h => by cases y <;> simp only [avEq, Bool.false_eq_true] at h; rfl
  | .iface t v, y, h => by cases y <;> simp only [avEq, Bool.false_eq_true] at h
  | .nili, y, h => by cases y <;> simp only [avEq, Bool.false_eq_true] at h; rfl
  | .agg a, y, h => by
    cases y <;> simp only [avEq, Bool.false_eq_true] at h
    rw [avsEq_eq _ _ h]
  | .tup a, y, h => by
    cases y <;> simp only [avEq, Bool.false_eq_true] at h
    rw [avsEq_eq _ _ h]
theorem avsEq_eq : ∀ (x y : List AV), avsEq x y = true → x = y
  | [], y, h => by cases y <;> simp only [avsEq, Bool.false_eq_true] at h; rfl
  | a :: x, y, h => by
    cases y <;> simp only [avsEq, Bool.false_eq_true] at h
    split at h
    · rename_i h1; rw [avEq_eq _ _ h1, avsEq_eq _ _ h]
    · cases h
end

/-! ## the run in the order of the text -/
/-- one step of it -/
inductive TStep (cx : Cx) (callf : CallF) (all : List Oper) (tm : Tm) (h : AH) (o : Oper) (v : AV) (h' : AH) : Prop where
  | off (hw : wantedA all tm o = some false) (hv : v = .undef) (hh : h' = h)
  | run (hw : wantedA all tm o = some true) (ha : aop cx tm h o.op = .val v h')
  | call (hw : wantedA all tm o = some true) (he : isE o.op = true) (f : Nat) (args : List AV) (ha : aop cx tm h o.op = .call f args) (hc : callf f args h = some (v, h'))

theorem runDraw_trace {callf : CallF} {all : List Oper} : ∀ (os : List Oper) (k : Nat) (pl : List (List Nat)) (tm : Tm) (h : AH) (sn : Tr AH) (rd : List Read) (out : DOut),
    runDraw cx callf all k os pl tm h sn rd = some out →
    ∃ (tmF : Nat → Tm) (hF : Nat → AH) (vF : Nat → AV), tmF k = tm ∧ hF k = h ∧ tmF (k + os.length) = out.tm ∧ hF (k + os.length) = out.h ∧
      (∀ j o, os[j]? = some o → TStep cx callf all (tmF (k + j)) (hF (k + j)) o (vF (k + j)) (hF (k + j + 1)) ∧ tmF (k + j + 1) = putA (tmF (k + j)) o.dst (vF (k + j))) ∧
      (∀ p g, out.sn.get p = some g → sn.get p = some g ∨ (k ≤ p ∧ g = hF p)) ∧
      (∀ r ∈ rd, r ∈ out.rd) ∧
      (∀ j o p ps, os[j]? = some o → wantedA all (tmF (k + j)) o = some true → isE o.op = false → pl[j]? = some (p :: ps) → ⟨p :: ps, o.op, tmF (k + j), vF (k + j)⟩ ∈ out.rd) := by
  intro os
  induction os with
  | nil =>
    intro k pl tm h sn rd out hr
    simp only [runDraw, Option.some.injEq] at hr
    subst hr
    refine ⟨fun _ => tm, fun _ => h, fun _ => .undef, rfl, rfl, rfl, rfl, by simp, ?_, fun r hr => hr, by simp⟩
    intro p g hg
    simp only [Tr.get_set] at hg
    split at hg
    · rename_i e; cases hg; exact .inr ⟨by omega, rfl⟩
    · exact .inl hg
  | cons o os ih =>
    intro k pl tm h sn rd out hr
    have next : ∀ v h1 sn1 rd1, TStep cx callf all tm h o v h1 → (∀ p g, sn1.get p = some g → sn.get p = some g ∨ (p = k ∧ g = h)) → (∀ r ∈ rd, r ∈ rd1) →
        (∀ p ps, wantedA all tm o = some true → isE o.op = false → pl[0]? = some (p :: ps) → ⟨p :: ps, o.op, tm, v⟩ ∈ rd1) →
        runDraw cx callf all (k + 1) os (tl pl) (putA tm o.dst v) h1 sn1 rd1 = some out →
        ∃ (tmF : Nat → Tm) (hF : Nat → AH) (vF : Nat → AV), tmF k = tm ∧ hF k = h ∧ tmF (k + (o :: os).length) = out.tm ∧ hF (k + (o :: os).length) = out.h ∧
          (∀ j o', (o :: os)[j]? = some o' → TStep cx callf all (tmF (k + j)) (hF (k + j)) o' (vF (k + j)) (hF (k + j + 1)) ∧ tmF (k + j + 1) = putA (tmF (k + j)) o'.dst (vF (k + j))) ∧
          (∀ p g, out.sn.get p = some g → sn.get p = some g ∨ (k ≤ p ∧ g = hF p)) ∧
          (∀ r ∈ rd, r ∈ out.rd) ∧
          (∀ j o' p ps, (o :: os)[j]? = some o' → wantedA all (tmF (k + j)) o' = some true → isE o'.op = false → pl[j]? = some (p :: ps) → ⟨p :: ps, o'.op, tmF (k + j), vF (k + j)⟩ ∈ out.rd) := by
      intro v h1 sn1 rd1 hst hsn hrd hrd0 hr
      obtain ⟨tmF, hF, vF, h1', h2, h3, h4, h5, h6, h7, h8⟩ := ih (k + 1) _ _ _ _ _ _ hr
      have ne : ∀ j, k + (j + 1) ≠ k := fun j => by omega
      have ne1 : ∀ j, k + j + 1 ≠ k := fun j => by omega
      refine ⟨fun i => if i = k then tm else tmF i, fun i => if i = k then h else hF i, fun i => if i = k then v else vF i, by simp, by simp, ?_, ?_, ?_, ?_, fun r hr => h7 r (hrd r hr), ?_⟩
      · simp only [List.length_cons, ne, if_false]; rw [← h3]; congr 1; omega
      · simp only [List.length_cons, ne, if_false]; rw [← h4]; congr 1; omega
      · intro j o' hj
        cases j with
        | zero =>
          simp only [List.getElem?_cons_zero, Option.some.injEq] at hj; subst hj
          simp only [Nat.add_zero, if_true, Nat.succ_ne_self, if_false]
          rw [h2, h1']
          exact ⟨hst, rfl⟩
        | succ j =>
          simp only [List.getElem?_cons_succ] at hj
          have := h5 j o' hj
          simp only [ne, ne1, if_false]
          have e1 : k + (j + 1) = k + 1 + j := by omega
          rw [e1]; exact this
      · intro p g hg
        rcases h6 p g hg with h' | ⟨h', rfl⟩
        · rcases hsn p g h' with h'' | ⟨rfl, rfl⟩
          · exact .inl h''
          · exact .inr ⟨Nat.le_refl _, by simp⟩
        · exact .inr ⟨by omega, (if_neg (show ¬ p = k by omega)).symm⟩
      · intro j o' p ps hj hw he hp
        cases j with
        | zero =>
          simp only [List.getElem?_cons_zero, Option.some.injEq] at hj; subst hj
          simp only [Nat.add_zero, if_true] at hw ⊢
          exact h7 _ (hrd0 p ps hw he hp)
        | succ j =>
          simp only [List.getElem?_cons_succ] at hj
          simp only [ne, if_false] at hw ⊢
          have e1 : k + (j + 1) = k + 1 + j := by omega
          rw [e1] at hw ⊢
          refine h8 j o' p ps hj hw he ?_
          cases pl with
          | nil => simp at hp
          | cons a pl => simpa [tl] using hp
    have snap : ∀ b p g, (snapIf b k h sn).get p = some g → sn.get p = some g ∨ (p = k ∧ g = h) := by
      intro b p g hg
      cases b with
      | false => exact .inl hg
      | true =>
        simp only [snapIf, Tr.get_set] at hg
        split at hg
        · rename_i e; cases hg; exact .inr ⟨e, rfl⟩
        · exact .inl hg
    simp only [runDraw] at hr
    split at hr
    · cases hr
    · rename_i hw
      exact next _ _ _ _ (.off hw rfl rfl) (snap _) (fun _ h => h) (by intro p ps hw'; rw [hw] at hw'; cases hw') hr
    · rename_i hw
      split at hr
      · rename_i v h1 hv
        refine next _ _ _ _ (.run hw hv) (snap _) ?_ ?_ hr
        · intro r hr'
          unfold readIf; split
          · exact List.mem_cons_of_mem _ hr'
          · exact hr'
        · intro p ps _ _ hp
          cases pl with
          | nil => simp at hp
          | cons a pl =>
            simp only [List.getElem?_cons_zero, Option.some.injEq] at hp
            subst hp
            simp [readIf]
      · rename_i f args hcall
        split at hr
        · rename_i he
          split at hr
          · rename_i v h1 hcf
            exact next _ _ _ _ (.call hw he f args hcall hcf) (by simpa [snapIf] using snap true) (fun _ h => h) (by intro p ps _ he'; rw [he] at he'; cases he') hr
          · cases hr
        · cases hr
      · cases hr

theorem chkRead_spec {sn : Tr AH} {r : Read} : ∀ {ps : List Nat}, chkRead cx sn r ps = true → ∀ p ∈ ps, ∃ g g', sn.get p = some g ∧ aop cx r.tm g r.op = .val r.v g'
  | [], _, p, hp => by simp at hp
  | q :: ps, h, p, hp => by
    simp only [chkRead] at h
    split at h
    · rename_i g hg
      split at h
      · rename_i v g' hv
        split at h
        · rename_i he
          rcases List.mem_cons.1 hp with rfl | hp
          · have := avEq_eq _ _ he; subst this; exact ⟨g, g', hg, hv⟩
          · exact chkRead_spec h p hp
        · cases h
      · cases h
    · cases h
theorem chkReads_spec {sn : Tr AH} : ∀ {rs : List Read}, chkReads cx sn rs = true → ∀ r ∈ rs, chkRead cx sn r r.ps = true
  | [], _, r, hr => by simp at hr
  | q :: rs, h, r, hr => by
    simp only [chkReads] at h
    split at h
    · rename_i hq
      rcases List.mem_cons.1 hr with rfl | hr
      · exact hq
      · exact chkReads_spec h r hr
    · cases h
end Go.Abs

namespace Go.Abs
open Go.RowKit

variable {P : Program} {σ : Val} {cx : Cx}

structure SRel (E : Env) (B : Nat) (w0 : World) (f : Nat → Option AO) (w : World) : Prop where
  objs : ∀ i o p, f i = some o → E.φ i = some p → objRel E B w p o
  inj : ∀ i j o o' p q, f i = some o → f j = some o' → E.φ i = some p → E.φ j = some q → o.rw = true → o'.rw = true → i ≠ j → p.block ≠ q.block
  below : Below B w0 w
  base : B ≤ w0.heap.size
  glob : ∀ g j v, E.σ.glob g j = some v → g < B ∧ w0.cell? ⟨g, j, none⟩ = some v

theorem SRel.rel {E : Env} {B : Nat} {w0 w : World} {f : Nat → Option AO} {H : AH} (hs : SRel E B w0 f w) (hsub : ∀ i o, H.objs.get i = some o → f i = some o)
    (hok : ∀ i, H.next ≤ i → H.objs.get i = none) : Rel E B w0 H w :=
  ⟨fun i o p hi => hs.objs i o p (hsub i o hi), fun i j o o' p q hi hj => hs.inj i j o o' p q (hsub i o hi) (hsub j o' hj), hs.below, hs.base, hok, hs.glob⟩

theorem SRel.step {E E' : Env} {B : Nat} {w0 w w' : World} {f f' : Nat → Option AO} {H H' : AH} (hs : SRel E B w0 f w) (hsub : ∀ i o, H.objs.get i = some o → f i = some o)
    (hp : Post E B w0 H w E' H' w')
    (hf' : ∀ i o p, f' i = some o → E'.φ i = some p → H'.objs.get i = some o ∨ (f i = some o ∧ H.objs.get i = none ∧ E.φ i = some p)) : SRel E' B w0 f' w' := by
  have cross : ∀ i j o o' p q, H'.objs.get i = some o → E'.φ i = some p → o.rw = true → f j = some o' → H.objs.get j = none → E.φ j = some q → o'.rw = true → i ≠ j → p.block ≠ q.block := by
    intro i j o o' p q hi hpi hr hj hjn hq hr' hne
    rcases Nat.lt_or_ge i H.next with hlt | hge
    · obtain ⟨o0, h0, himp⟩ := hp.dom i o hlt hi
      rw [hp.only i (.inl hlt)] at hpi
      exact hs.inj i j o0 o' p q (hsub i o0 h0) hj hpi hq (himp hr) hr' hne
    · have hlt' : i < H'.next := by
        rcases Nat.lt_or_ge i H'.next with h | h
        · exact h
        · rw [hp.rel.ok i h] at hi; cases hi
      rcases hp.newb i p hge hlt' hpi with hb | ⟨i0, o0, p0, h0, hp0, hr0, hb⟩
      · have := objRel_lt (hs.objs j o' q hj hq) hr'
        omega
      · rw [← hb]
        exact hs.inj i0 j o0 o' p0 q (hsub i0 o0 h0) hj hp0 hq hr0 hr' (fun e => by subst e; rw [hjn] at h0; cases h0)
  refine ⟨?_, ?_, hp.rel.below, hs.base, hp.rel.glob⟩
  · intro i o p hi hpi
    rcases hf' i o p hi hpi with h1 | ⟨h1, h2, h3⟩
    · exact hp.rel.objs i o p h1 hpi
    · have hobj := hs.objs i o p h1 h3
      refine objRel_mono hp.ext (objRel_block hobj ?_)
      by_cases hr : o.rw = true
      · refine hp.frame _ (objRel_lt hobj hr) ?_
        rintro ⟨i0, o0, p0, h0, hp0, hr0, hb⟩
        exact hs.inj i0 i o0 o p0 p (hsub i0 o0 h0) h1 hp0 h3 hr0 hr (fun e => by subst e; rw [h2] at h0; cases h0) hb
      · cases o with
        | cells cs ro es =>
          have : ro = true := by simpa [AO.rw] using hr
          obtain ⟨_, vs, _, h4, _⟩ := hobj
          have hB := (h4 this).1
          rw [hp.rel.below.block _ hB, hs.below.block _ hB]
        | map es c => simp [AO.rw] at hr
        | iter m since last seen pre => simp [AO.rw] at hr
  · intro i j o o' p q hi hj hpi hpj hr hr' hne
    rcases hf' i o p hi hpi with h1 | ⟨h1, h2, h3⟩ <;> rcases hf' j o' q hj hpj with k1 | ⟨k1, k2, k3⟩
    · exact hp.rel.inj i j o o' p q h1 k1 hpi hpj hr hr' hne
    · exact cross i j o o' p q h1 hpi hr k1 k2 k3 hr' hne
    · exact Ne.symm (cross j i o' o q p k1 hpj hr' h1 h2 h3 hr (Ne.symm hne))
    · exact hs.inj i j o o' p q h1 k1 h3 k3 hr hr' hne

/-- what has become of the memory since the region began -/
structure Past (E0 : Env) (h0 : AH) (wi : World) (top : Nat) (E : Env) (H : AH) (w : World) : Prop where
  ext : E0.le E
  only : ∀ i, (i < h0.next ∨ top ≤ i) → E.φ i = E0.φ i
  hid : ∀ i, i < h0.next → E0.φ i = none → H.objs.get i = h0.objs.get i
  dom : ∀ i o', i < h0.next → H.objs.get i = some o' → ∃ o, h0.objs.get i = some o ∧ (o'.rw = true → o.rw = true)
  frame : ∀ b, b < wi.heap.size → ¬ Owned E0 h0 b → w.heap[b]? = wi.heap[b]?
  newb : ∀ i p, h0.next ≤ i → i < top → E.φ i = some p → wi.heap.size ≤ p.block ∨ Owned E0 h0 p.block
  grow : wi.heap.size ≤ w.heap.size

theorem Past.owned {E0 E : Env} {h0 H : AH} {wi w : World} {top : Nat} (hp : Past E0 h0 wi top E H w) (hok : ∀ i, top ≤ i → H.objs.get i = none) {b : Nat} (ho : Owned E H b) :
    wi.heap.size ≤ b ∨ Owned E0 h0 b := by
  obtain ⟨i, o, p, hi, hpi, hr, rfl⟩ := ho
  rcases Nat.lt_or_ge i h0.next with hlt | hge
  · obtain ⟨o', ho', himp⟩ := hp.dom i o hlt hi
    rw [hp.only i (.inl hlt)] at hpi
    exact .inr ⟨i, o', p, ho', hpi, himp hr, rfl⟩
  · rcases Nat.lt_or_ge i top with hlt1 | hge1
    · exact hp.newb i p hge hlt1 hpi
    · rw [hok i hge1] at hi; cases hi

theorem Past.step {E0 E E' : Env} {h0 H H' G G' : AH} {wi w w' w0 : World} {B top : Nat} (hp : Past E0 h0 wi top E H w) (ps : Post E B w0 G w E' G' w')
    (hG : ∀ b, Owned E G b → wi.heap.size ≤ b ∨ Owned E0 h0 b) (h1 : h0.next ≤ G.next) (h2 : G'.next ≤ top)
    (hid : ∀ i, i < h0.next → E0.φ i = none → H'.objs.get i = h0.objs.get i)
    (dom : ∀ i o', i < h0.next → H'.objs.get i = some o' → ∃ o, h0.objs.get i = some o ∧ (o'.rw = true → o.rw = true)) : Past E0 h0 wi top E' H' w' where
  ext := Env.le_trans hp.ext ps.ext
  only := fun i hi => by
    rcases hi with hi | hi
    · rw [ps.only i (.inl (by omega)), hp.only i (.inl hi)]
    · rw [ps.only i (.inr (by omega)), hp.only i (.inr hi)]
  hid := hid
  dom := dom
  frame := fun b hb hn => by
    rw [ps.frame b (Nat.lt_of_lt_of_le hb hp.grow) (fun ho => (hG b ho).elim (fun x => by omega) hn), hp.frame b hb hn]
  newb := fun i p hi hi2 hpi => by
    rcases Nat.lt_or_ge i G.next with hlt | hge
    · rw [ps.only i (.inl hlt)] at hpi; exact hp.newb i p hi hi2 hpi
    · rcases Nat.lt_or_ge i G'.next with hlt1 | hge1
      · rcases ps.newb i p hge hlt1 hpi with h | h
        · exact .inl (Nat.le_trans hp.grow h)
        · exact hG _ h
      · rw [ps.only i (.inr hge1)] at hpi; exact hp.newb i p hi hi2 hpi
  grow := Nat.le_trans hp.grow ps.grow

/-! ## the static facts of a region -/
def Down (ops : Array Oper) (S : Nat → Prop) : Prop := ∀ j o, ops[j]? = some o → S j → ∀ e ∈ o.after, Region.binds .any e = true → S e.on
def Bef (ops : Array Oper) (i j : Nat) : Prop := ∀ S : Nat → Prop, Down ops S → S j → S i

structure DrawOK (ops : Array Oper) (pl : List (List Nat)) : Prop where
  back : ∀ k o, ops[k]? = some o → ∀ e ∈ o.after, Region.binds .any e = true → e.on < k
  pair : ∀ i j oi oj, i < j → ops[i]? = some oi → ops[j]? = some oj → Bef ops i j ∨ (oi.apart ops oj = true ∧ ¬ (isE oi.op = true ∧ isE oj.op = true))
  reads : ∀ k o, ops[k]? = some o → isL o.op = true → ∀ p, (p = ops.size ∨ ∃ op, ops[p]? = some op ∧ isE op.op = true) →
    Bef ops p k ∨ (∃ q oq, q < p ∧ ops[q]? = some oq ∧ isE oq.op = true ∧ Bef ops k q) ∨ ∃ a as, pl[k]? = some (a :: as) ∧ p ∈ a :: as

section
variable {callf : CallF} {ops : Array Oper} {pl : List (List Nat)} {nt : Nat} {tmF : Nat → Tm} {hF : Nat → AH} {vF : Nat → AV}

def Trace (cx : Cx) (callf : CallF) (ops : Array Oper) (tmF : Nat → Tm) (hF : Nat → AH) (vF : Nat → AV) : Prop :=
  ∀ k o, ops[k]? = some o → TStep cx callf ops.toList (tmF k) (hF k) o (vF k) (hF (k + 1)) ∧ tmF (k + 1) = putA (tmF k) o.dst (vF k)

theorem Trace.quiet (T : Trace cx callf ops tmF hF vF) {k : Nat} {o : Oper} (hk : ops[k]? = some o) (he : isE o.op = false) : ∃ st, hF (k + 1) = extH (hF k) st := by
  rcases (T k o hk).1 with ⟨hw, hv, hh⟩ | ⟨hw, ha⟩ | ⟨hw, he', _, _, _, _⟩
  · exact ⟨none, hh⟩
  · by_cases hl : isL o.op = true
    · exact ⟨none, aop_L hl ha⟩
    · obtain ⟨st, h1, _⟩ := aop_Q (by simpa using hl) he ha
      exact ⟨st, h1⟩
  · rw [he] at he'; cases he'

theorem Trace.mono1 (ok : CxOK P σ cx) (hc : CallOK P σ callf) (T : Trace cx callf ops tmF hF vF) {k : Nat} {o : Oper} (hk : ops[k]? = some o) : (hF k).next ≤ (hF (k + 1)).next := by
  rcases (T k o hk).1 with ⟨hw, hv, hh⟩ | ⟨hw, ha⟩ | ⟨hw, he', f, args, ha, hcf⟩
  · rw [hh]; exact Nat.le_refl _
  · exact (aop_val ok o ha).1
  · exact ((hc f).1 args _ _ _ hcf).1

theorem Trace.mono (ok : CxOK P σ cx) (hc : CallOK P σ callf) (T : Trace cx callf ops tmF hF vF) {i : Nat} : ∀ {j : Nat}, i ≤ j → j ≤ ops.size → (hF i).next ≤ (hF j).next := by
  intro j
  induction j with
  | zero => intro h _; have : i = 0 := by omega
            subst this; exact Nat.le_refl _
  | succ j ih =>
    intro h hj
    rcases Nat.lt_or_ge j i with h' | h'
    · have : i = j + 1 := by omega
      subst this; exact Nat.le_refl _
    · exact Nat.le_trans (ih h' (by omega)) (T.mono1 ok hc (Array.getElem?_eq_getElem (by omega : j < ops.size)))

/-- between two writes the memory only grows -/
theorem Trace.between (T : Trace cx callf ops tmF hF vF) {i : Nat} : ∀ {j : Nat}, i ≤ j → j ≤ ops.size → (∀ q o, i ≤ q → q < j → ops[q]? = some o → isE o.op = false) →
    (hF i).next ≤ (hF j).next ∧ (∀ x, x < (hF i).next → (hF j).objs.get x = (hF i).objs.get x) ∧ ((∀ x, (hF i).next ≤ x → (hF i).objs.get x = none) → ∀ x, (hF j).next ≤ x → (hF j).objs.get x = none) := by
  intro j
  induction j with
  | zero => intro h _ _; have : i = 0 := by omega
            subst this; exact ⟨Nat.le_refl _, fun _ _ => rfl, id⟩
  | succ j ih =>
    intro h hj hq
    rcases Nat.lt_or_ge j i with h' | h'
    · have : i = j + 1 := by omega
      subst this; exact ⟨Nat.le_refl _, fun _ _ => rfl, id⟩
    · obtain ⟨h1, h2, h3⟩ := ih h' (by omega) (fun q o a b => hq q o a (by omega))
      have hlt : j < ops.size := by omega
      obtain ⟨st, hst⟩ := T.quiet (Array.getElem?_eq_getElem hlt) (hq j _ h' (by omega) (Array.getElem?_eq_getElem hlt))
      rw [hst]
      cases st with
      | none => exact ⟨h1, h2, h3⟩
      | some ob =>
        refine ⟨by simp [extH]; omega, fun x hx => ?_, fun hok x hx => ?_⟩
        · simp only [extH, Hp.get_set]; rw [if_neg (by omega)]; exact h2 x hx
        · simp only [extH] at hx
          simp only [extH, Hp.get_set]; rw [if_neg (by omega)]; exact h3 hok x (by omega)

theorem Trace.tm (T : Trace cx callf ops tmF hF vF) {i : Nat} {t : Nat} : ∀ {j : Nat}, i ≤ j → j ≤ ops.size → (∀ q o, i ≤ q → q < j → ops[q]? = some o → o.dst ≠ some t) → (tmF j).at t = (tmF i).at t := by
  intro j
  induction j with
  | zero => intro h _ _; have : i = 0 := by omega
            subst this; rfl
  | succ j ih =>
    intro h hj hq
    rcases Nat.lt_or_ge j i with h' | h'
    · have : i = j + 1 := by omega
      subst this; rfl
    · have hlt : j < ops.size := by omega
      rw [(T j _ (Array.getElem?_eq_getElem hlt)).2, getD_putA, if_neg (hq j _ h' (by omega) (Array.getElem?_eq_getElem hlt))]
      exact ih h' (by omega) (fun q o a b => hq q o a (by omega))

theorem nextE (ops : Array Oper) : ∀ (d i : Nat), i + d = ops.size → ∃ p, i ≤ p ∧ p ≤ ops.size ∧ (∀ q o, i ≤ q → q < p → ops[q]? = some o → isE o.op = false) ∧ (∀ o, ops[p]? = some o → isE o.op = true) := by
  intro d
  induction d with
  | zero => intro i hi; exact ⟨i, Nat.le_refl _, by omega, fun q o a b => by omega, fun o ho => by rw [Array.getElem?_eq_none (by omega)] at ho; cases ho⟩
  | succ d ih =>
    intro i hi
    have hlt : i < ops.size := by omega
    by_cases he : isE (ops[i]'hlt).op = true
    · exact ⟨i, Nat.le_refl _, by omega, fun q o a b => by omega, fun o ho => by rw [Array.getElem?_eq_getElem hlt] at ho; cases ho; exact he⟩
    · obtain ⟨p, h1, h2, h3, h4⟩ := ih (i + 1) (by omega)
      refine ⟨p, by omega, h2, fun q o a b hq => ?_, h4⟩
      rcases Nat.lt_or_ge i q with h | h
      · exact h3 q o h b hq
      · have : q = i := by omega
        subst this
        rw [Array.getElem?_eq_getElem hlt] at hq; cases hq
        simpa using he

structure Inv (σ : Val) (ops : Array Oper) (tmF : Nat → Tm) (hF : Nat → AH) (nt : Nat) (E0 : Env) (B : Nat) (w0 wi : World) (S : Nat → Prop) (p : Nat) (E : Env) (f : Nat → Option AO) (a : Act) (tm : Tm) (w : World) : Prop where
  down : Down ops S
  ple : p ≤ ops.size
  pdone : ∀ q o, q < p → ops[q]? = some o → isE o.op = true → S q
  pnext : ∀ o, ops[p]? = some o → isE o.op = true ∧ ¬ S p
  tmI : ∀ k o, ops[k]? = some o → ¬ S k → ∀ t, t ∈ o.looksAt ops → (∀ j oj, j < k → ops[j]? = some oj → oj.dst = some t → S j) → tm.at t = (tmF k).at t
  tmN : ∀ t, (∀ j oj, ops[j]? = some oj → oj.dst = some t → S j) → tm.at t = (tmF ops.size).at t
  act : ActOK E nt tm a
  sig : E.σ = σ
  srel : SRel E B w0 f w
  sub : ∀ i o, (hF p).objs.get i = some o → f i = some o
  ok : ∀ i, (hF p).next ≤ i → (hF p).objs.get i = none
  dom : ∀ i, i < (hF ops.size).next → E.φ i ≠ none → i < (hF p).next ∨ ∃ k o, p ≤ k ∧ ops[k]? = some o ∧ S k ∧ isE o.op = false ∧ i = (hF k).next ∧ (hF (k + 1)).next = (hF k).next + 1 ∧ f i = (hF (k + 1)).objs.get i
  late : ∀ k o, k < p → ops[k]? = some o → isE o.op = false → ¬ S k → (hF (k + 1)).next = (hF k).next + 1 → E.φ (hF k).next = none ∧ (hF p).objs.get (hF k).next = (hF (k + 1)).objs.get (hF k).next
  past : Past E0 (hF 0) wi (hF ops.size).next E (hF p) w

variable {E0 : Env} {B : Nat} {w0 wi : World} {S : Nat → Prop} {p : Nat} {E : Env} {f : Nat → Option AO} {a : Act} {tm : Tm} {w : World}

def More (S : Nat → Prop) (i : Nat) : Nat → Prop := fun j => S j ∨ j = i

theorem More.down (hd : Down ops S) {i : Nat} {o : Oper} (hi : ops[i]? = some o) (hr : ∀ e ∈ o.after, Region.binds .any e = true → S e.on) : Down ops (More S i) := by
  intro j oj hj hS e he hb
  rcases hS with h | rfl
  · exact .inl (hd j oj hj h e he hb)
  · rw [hi] at hj; cases hj; exact .inl (hr e he hb)

theorem lt_of_some {i : Nat} {o : Oper} (hi : ops[i]? = some o) : i < ops.size := (Array.getElem?_eq_some_iff.1 hi).1

/-- what has been done earlier in the text and is looked at has been done -/
theorem Inv.agree (D : DrawOK ops pl) (inv : Inv σ ops tmF hF nt E0 B w0 wi S p E f a tm w) {i : Nat} {o : Oper} (hi : ops[i]? = some o) (hS : ¬ S i)
    (hr : ∀ e ∈ o.after, Region.binds .any e = true → S e.on) : ∀ t, t ∈ o.looksAt ops → tm.at t = (tmF i).at t := by
  intro t ht
  refine inv.tmI i o hi hS t ht fun j oj hj hoj hd => ?_
  rcases D.pair j i oj o hj hoj hi with hb | ⟨hap, _⟩
  · rcases hb (More S i) (More.down inv.down hi hr) (.inr rfl) with h | h
    · exact h
    · omega
  · exact absurd ht ((Oper.apart_spec hap).1 t hd)

/-- the part of the step that does not concern the memory -/
theorem Inv.adv (D : DrawOK ops pl) (T : Trace cx callf ops tmF hF vF) (hnt : ∀ (k : Nat) (o : Oper), ops[k]? = some o → ∀ d, o.dst = some d → d < nt)
    (inv : Inv σ ops tmF hF nt E0 B w0 wi S p E f a tm w) {i : Nat} {o : Oper} (hi : ops[i]? = some o) (hS : ¬ S i)
    (hr : ∀ e ∈ o.after, Region.binds .any e = true → S e.on) {V : Value} {E' : Env} {w' : World} {p' : Nat} {f' : Nat → Option AO} (hE : E.le E') (hV : conc E' (vF i) = some V)
    (ple : p' ≤ ops.size) (pdone : ∀ q o, q < p' → ops[q]? = some o → isE o.op = true → More S i q) (pnext : ∀ o, ops[p']? = some o → isE o.op = true ∧ ¬ More S i p')
    (srel : SRel E' B w0 f' w') (sub : ∀ i o, (hF p').objs.get i = some o → f' i = some o) (ok : ∀ i, (hF p').next ≤ i → (hF p').objs.get i = none)
    (dom : ∀ j, j < (hF ops.size).next → E'.φ j ≠ none → j < (hF p').next ∨ ∃ k o, p' ≤ k ∧ ops[k]? = some o ∧ More S i k ∧ isE o.op = false ∧ j = (hF k).next ∧ (hF (k + 1)).next = (hF k).next + 1 ∧ f' j = (hF (k + 1)).objs.get j)
    (late : ∀ k o, k < p' → ops[k]? = some o → isE o.op = false → ¬ More S i k → (hF (k + 1)).next = (hF k).next + 1 → E'.φ (hF k).next = none ∧ (hF p').objs.get (hF k).next = (hF (k + 1)).objs.get (hF k).next)
    (past : Past E0 (hF 0) wi (hF ops.size).next E' (hF p') w') :
    Inv σ ops tmF hF nt E0 B w0 wi (More S i) p' E' f' (a.put o.dst V) (putA tm o.dst (vF i)) w' := by
  have md := More.down inv.down hi hr
  have hlt := lt_of_some hi
  refine ⟨md, ple, pdone, pnext, ?_, ?_, (inv.act.mono hE).put hV (hnt i o hi), hE.2.trans inv.sig, srel, sub, ok, dom, late, past⟩
  · intro k ok hk hSk t ht hw
    have hki : k ≠ i := fun e => hSk (.inr e)
    rw [getD_putA]
    by_cases hd : o.dst = some t
    · rw [if_pos hd]
      rcases Nat.lt_or_ge i k with h | h
      · rw [T.tm (i := i + 1) (j := k) (t := t) h (Nat.le_of_lt (lt_of_some hk)) ?_, (T i o hi).2, getD_putA, if_pos hd]
        intro q oq hq1 hq2 hoq hdq
        have hSq : S q := (hw q oq hq2 hoq hdq).resolve_right (by omega)
        rcases D.pair i q o oq (by omega) hi hoq with hb | ⟨hap, _⟩
        · exact hS (hb S inv.down hSq)
        · exact (Oper.apart_spec hap).2.1 t hd hdq
      · exfalso
        rcases D.pair k i ok o (by omega) hk hi with hb | ⟨hap, _⟩
        · exact hSk (hb _ md (.inr rfl))
        · exact (Oper.apart_spec hap).2.2 t hd ht
    · rw [if_neg hd]
      refine inv.tmI k ok hk (fun h => hSk (.inl h)) t ht fun j oj hj hoj hdj => ?_
      rcases hw j oj hj hoj hdj with h | rfl
      · exact h
      · rw [hi] at hoj; cases hoj; exact absurd hdj hd
  · intro t hw
    rw [getD_putA]
    by_cases hd : o.dst = some t
    · rw [if_pos hd]
      rw [T.tm (i := i + 1) (j := ops.size) (t := t) hlt (Nat.le_refl _) ?_, (T i o hi).2, getD_putA, if_pos hd]
      intro q oq hq1 hq2 hoq hdq
      have hSq : S q := (hw q oq hoq hdq).resolve_right (by omega)
      rcases D.pair i q o oq (by omega) hi hoq with hb | ⟨hap, _⟩
      · exact hS (hb S inv.down hSq)
      · exact (Oper.apart_spec hap).2.1 t hd hdq
    · rw [if_neg hd]
      refine inv.tmN t fun j oj hoj hdj => ?_
      rcases hw j oj hoj hdj with h | rfl
      · exact h
      · rw [hi] at hoj; cases hoj; exact absurd hdj hd

theorem Inv.rel (inv : Inv σ ops tmF hF nt E0 B w0 wi S p E f a tm w) : Rel E B w0 (hF p) w := inv.srel.rel inv.sub inv.ok

theorem get_nil (m i : Nat) : (AH.mk (Hp.nil : Hp AO) m).objs.get i = none := Hp.get_nil i

theorem Inv.empty (inv : Inv σ ops tmF hF nt E0 B w0 wi S p E f a tm w) (m : Nat) : Rel E B w0 ⟨.nil, m⟩ w :=
  inv.srel.rel (fun i o h => by rw [get_nil] at h; cases h) (fun i _ => get_nil m i)

/-- a step that neither writes nor makes an object -/
theorem Inv.advN (ok : CxOK P σ cx) (hc : CallOK P σ callf) (D : DrawOK ops pl) (T : Trace cx callf ops tmF hF vF) (hnt : ∀ (k : Nat) (o : Oper), ops[k]? = some o → ∀ d, o.dst = some d → d < nt)
    (inv : Inv σ ops tmF hF nt E0 B w0 wi S p E f a tm w) {i : Nat} {o : Oper} (hi : ops[i]? = some o) (hS : ¬ S i)
    (hr : ∀ e ∈ o.after, Region.binds .any e = true → S e.on) (he : isE o.op = false) {V : Value} {E' : Env} {w' : World} (hV : conc E' (vF i) = some V) {G : AH}
    (hG : G = hF p ∨ G = ⟨.nil, (hF i).next⟩) (hp : Post E B w0 G w E' G w') :
    Inv σ ops tmF hF nt E0 B w0 wi (More S i) p E' f (a.put o.dst V) (putA tm o.dst (vF i)) w' := by
  have hφ : ∀ j, E'.φ j = E.φ j := fun j => hp.only j (by omega)
  have hlt := lt_of_some hi
  have hsub : ∀ j o, G.objs.get j = some o → f j = some o := by
    rcases hG with rfl | rfl
    · exact inv.sub
    · intro j o h; rw [get_nil] at h; cases h
  refine inv.adv D T hnt hi hS hr hp.ext hV inv.ple (fun q o hq ho hE => .inl (inv.pdone q o hq ho hE)) ?_ ?_ inv.sub inv.ok ?_ ?_ ?_
  · intro o' ho'
    refine ⟨(inv.pnext o' ho').1, fun h => h.elim (inv.pnext o' ho').2 fun e => ?_⟩
    subst e; rw [hi] at ho'; cases ho'
    have := (inv.pnext o hi).1; rw [he] at this; cases this
  · refine inv.srel.step hsub hp fun j o' q hj hq => ?_
    cases hg : G.objs.get j with
    | some x => have := hsub j x hg; rw [hj] at this; cases this; exact .inl rfl
    | none => exact .inr ⟨hj, rfl, by rw [← hφ]; exact hq⟩
  · intro j hjt hj
    rw [hφ] at hj
    rcases inv.dom j hjt hj with h | ⟨k, ok', h1, h2, h3, h4⟩
    · exact .inl h
    · exact .inr ⟨k, ok', h1, h2, .inl h3, h4⟩
  · intro k ok' h1 h2 h3 h4 h5
    rw [hφ]; exact inv.late k ok' h1 h2 h3 (fun h => h4 (.inl h)) h5
  · refine inv.past.step hp ?_ ?_ ?_ inv.past.hid inv.past.dom
    · rcases hG with rfl | rfl
      · intro b hb; exact inv.past.owned (fun x hx => inv.ok x (Nat.le_trans (T.mono ok hc inv.ple (Nat.le_refl _)) hx)) hb
      · rintro b ⟨x, ox, px, h1, _⟩; rw [get_nil] at h1; cases h1
    · rcases hG with rfl | rfl
      · exact T.mono ok hc (Nat.zero_le _) inv.ple
      · exact T.mono ok hc (Nat.zero_le _) (Nat.le_of_lt hlt)
    · rcases hG with rfl | rfl
      · exact T.mono ok hc inv.ple (Nat.le_refl _)
      · exact T.mono ok hc (Nat.le_of_lt hlt) (Nat.le_refl _)

/-- an object not yet made has no place -/
theorem Inv.unmade (ok : CxOK P σ cx) (hc : CallOK P σ callf) (T : Trace cx callf ops tmF hF vF) (inv : Inv σ ops tmF hF nt E0 B w0 wi S p E f a tm w) {i : Nat} {o : Oper} (hi : ops[i]? = some o) (hS : ¬ S i)
    (he : isE o.op = false) (hn : (hF (i + 1)).next = (hF i).next + 1) : E.φ (hF i).next = none := by
  have hlt := lt_of_some hi
  rcases Nat.lt_or_ge i p with h | h
  · exact (inv.late i o h hi he hS hn).1
  · cases hx : E.φ (hF i).next with
    | none => rfl
    | some q =>
      exfalso
      rcases inv.dom (hF i).next (by have : (hF (i + 1)).next ≤ _ := T.mono ok hc hlt (Nat.le_refl _); omega) (by rw [hx]; simp) with h1 | ⟨k, ok', h1, h2, h3, h4, h5, h6, _⟩
      · have := T.mono ok hc h (Nat.le_of_lt hlt); omega
      · have hkl := lt_of_some h2
        rcases Nat.lt_trichotomy i k with hik | rfl | hik
        · have := T.mono ok hc (show i + 1 ≤ k from hik) (Nat.le_of_lt hkl); omega
        · exact hS h3
        · have := T.mono ok hc (show k + 1 ≤ i from hik) (Nat.le_of_lt hlt); omega

/-- a step that makes an object -/
theorem Inv.advA (ok : CxOK P σ cx) (hc : CallOK P σ callf) (D : DrawOK ops pl) (T : Trace cx callf ops tmF hF vF) (hnt : ∀ (k : Nat) (o : Oper), ops[k]? = some o → ∀ d, o.dst = some d → d < nt)
    (inv : Inv σ ops tmF hF nt E0 B w0 wi S p E f a tm w) {i : Nat} {o : Oper} (hi : ops[i]? = some o) (hS : ¬ S i)
    (hr : ∀ e ∈ o.after, Region.binds .any e = true → S e.on) (he : isE o.op = false) {V : Value} {E' : Env} {w' : World} (hV : conc E' (vF i) = some V) {ob : AO}
    (hh : hF (i + 1) = ⟨(hF i).objs.set (hF i).next ob, (hF i).next + 1⟩)
    (hp : Post E B w0 ⟨.nil, (hF i).next⟩ w E' ⟨(Hp.nil : Hp AO).set (hF i).next ob, (hF i).next + 1⟩ w') :
    ∃ f', Inv σ ops tmF hF nt E0 B w0 wi (More S i) p E' f' (a.put o.dst V) (putA tm o.dst (vF i)) w' := by
  have hlt := lt_of_some hi
  have hn : (hF (i + 1)).next = (hF i).next + 1 := by rw [hh]
  have hob : (hF (i + 1)).objs.get (hF i).next = some ob := by rw [hh]; simp [Hp.get_set]
  have hφ : ∀ j, j ≠ (hF i).next → E'.φ j = E.φ j := fun j hj => hp.only j (by simp; omega)
  have hun := inv.unmade ok hc T hi hS he hn
  have hsub : ∀ j o, (AH.mk (Hp.nil : Hp AO) (hF i).next).objs.get j = some o → f j = some o := by intro j o h; rw [get_nil] at h; cases h
  have hip : i ≠ p := fun e => by subst e; have := (inv.pnext o hi).1; rw [he] at this; cases this
  have htop : (hF (i + 1)).next ≤ (hF ops.size).next := T.mono ok hc hlt (Nat.le_refl _)
  have hbot : (hF 0).next ≤ (hF i).next := T.mono ok hc (Nat.zero_le _) (Nat.le_of_lt hlt)
  -- the place of the object in the memory at hand
  have place : ∀ x, (hF p).objs.get (hF i).next = some x → x = ob := by
    intro x hx
    rcases Nat.lt_or_ge i p with h | h
    · have := (inv.late i o h hi he hS hn).2
      rw [hx, hob] at this; cases this; rfl
    · rw [inv.ok _ (T.mono ok hc h (Nat.le_of_lt hlt))] at hx; cases hx
  refine ⟨fun j => if j = (hF i).next then some ob else f j, inv.adv D T hnt hi hS hr hp.ext hV inv.ple (fun q o hq ho hE => .inl (inv.pdone q o hq ho hE)) ?_ ?_ ?_ inv.ok ?_ ?_ ?_⟩
  · intro o' ho'
    refine ⟨(inv.pnext o' ho').1, fun h => h.elim (inv.pnext o' ho').2 fun e => hip e.symm⟩
  · refine inv.srel.step hsub hp fun j o' q hj hq => ?_
    by_cases e : j = (hF i).next
    · subst e
      simp only [if_true, Option.some.injEq] at hj; subst hj
      exact .inl (by simp [Hp.get_set])
    · simp only [e, if_false] at hj
      exact .inr ⟨hj, get_nil _ _, by rw [← hφ j e]; exact hq⟩
  · intro j x hx
    by_cases e : j = (hF i).next
    · subst e; rw [place x hx]; simp
    · simp only [e, if_false]; exact inv.sub j x hx
  · intro j hjt hj
    by_cases e : j = (hF i).next
    · subst e
      rcases Nat.lt_or_ge i p with h | h
      · left
        have := T.mono ok hc (show i + 1 ≤ p from h) inv.ple
        omega
      · exact .inr ⟨i, o, h, hi, .inr rfl, he, rfl, hn, by simp [hob]⟩
    · rw [hφ j e] at hj
      rcases inv.dom j hjt hj with h | ⟨k, ok', h1, h2, h3, h4, h5, h6, h7⟩
      · exact .inl h
      · exact .inr ⟨k, ok', h1, h2, .inl h3, h4, h5, h6, by simp only [e, if_false]; exact h7⟩
  · intro k ok' h1 h2 h3 h4 h5
    have hne : (hF k).next ≠ (hF i).next := by
      have hki : k ≠ i := fun e => h4 (.inr e)
      have hkl := lt_of_some h2
      rcases Nat.lt_or_ge k i with h | h
      · have := T.mono ok hc (show k + 1 ≤ i from h) (Nat.le_of_lt hlt); omega
      · have := T.mono ok hc (show i + 1 ≤ k by omega) (Nat.le_of_lt hkl); omega
    rw [hφ _ hne]; exact inv.late k ok' h1 h2 h3 (fun h => h4 (.inl h)) h5
  · refine inv.past.step hp ?_ hbot (by simp; omega) inv.past.hid inv.past.dom
    rintro b ⟨x, ox, px, h1, _⟩; rw [get_nil] at h1; cases h1

/-- a step that writes -/
theorem Inv.advE (ok : CxOK P σ cx) (hc : CallOK P σ callf) (D : DrawOK ops pl) (T : Trace cx callf ops tmF hF vF) (hnt : ∀ (k : Nat) (o : Oper), ops[k]? = some o → ∀ d, o.dst = some d → d < nt)
    (inv : Inv σ ops tmF hF nt E0 B w0 wi S p E f a tm w) {o : Oper} (hi : ops[p]? = some o)
    (hr : ∀ e ∈ o.after, Region.binds .any e = true → S e.on) {V : Value} {E' : Env} {w' : World} (hV : conc E' (vF p) = some V)
    (hp : Post E B w0 (hF p) w E' (hF (p + 1)) w') :
    ∃ p' f', Inv σ ops tmF hF nt E0 B w0 wi (More S p) p' E' f' (a.put o.dst V) (putA tm o.dst (vF p)) w' := by
  have hlt := lt_of_some hi
  have hS := (inv.pnext o hi).2
  obtain ⟨p', q1, q2, q3, q4⟩ := nextE ops (ops.size - (p + 1)) (p + 1) (by omega)
  obtain ⟨b1, b2, b3⟩ := T.between q1 q2 q3
  have b3 := b3 hp.rel.ok
  have hpp : (hF p).next ≤ (hF (p + 1)).next := hp.next
  have m0 : (hF 0).next ≤ (hF p).next := T.mono ok hc (Nat.zero_le _) inv.ple
  -- objects made between
  have mid : ∀ k o, p < k → k < p' → ops[k]? = some o → (hF (k + 1)).next = (hF k).next + 1 → (hF p').objs.get (hF k).next = (hF (k + 1)).objs.get (hF k).next := by
    intro k ok' h1 h2 h3 h4
    exact (T.between (i := k + 1) (j := p') h2 q2 (fun q o a b => q3 q o (by omega) b)).2.1 _ (by omega)
  have early : ∀ j, j < (hF ops.size).next → (hF (p + 1)).next ≤ j → E.φ j ≠ none → ∃ k o, p < k ∧ ops[k]? = some o ∧ S k ∧ isE o.op = false ∧ j = (hF k).next ∧ (hF (k + 1)).next = (hF k).next + 1 ∧ f j = (hF (k + 1)).objs.get j := by
    intro j hjt hj hφ
    rcases inv.dom j hjt hφ with h | ⟨k, ok', h1, h2, h3, h4, h5⟩
    · omega
    · refine ⟨k, ok', ?_, h2, h3, h4, h5⟩
      rcases Nat.lt_or_ge p k with h | h
      · exact h
      · have : k = p := by omega
        subst this
        exact absurd h3 hS
  refine ⟨p', fun j => match (hF p').objs.get j with | some x => some x | none => if j < (hF p').next then none else f j,
    inv.adv D T hnt hi hS hr hp.ext hV q2 ?_ ?_ ?_ ?_ b3 ?_ ?_ ?_⟩
  · intro q oq hq hoq he
    rcases Nat.lt_trichotomy q p with h | h | h
    · exact .inl (inv.pdone q oq h hoq he)
    · exact .inr h
    · have := q3 q oq h hq hoq; rw [he] at this; cases this
  · intro o' ho'
    refine ⟨q4 o' ho', fun h => ?_⟩
    rcases h with h | h
    · rcases D.pair p p' o o' (by omega) hi ho' with hb | ⟨_, hb⟩
      · exact hS (hb S inv.down h)
      · exact hb ⟨(inv.pnext o hi).1, q4 o' ho'⟩
    · omega
  · refine inv.srel.step inv.sub hp fun j x q hj hq => ?_
    split at hj
    · rename_i y hy
      cases hj
      rcases Nat.lt_or_ge j (hF (p + 1)).next with h | h
      · rw [b2 j h] at hy; exact .inl hy
      · right
        rw [hp.only j (.inr h)] at hq
        have hjt : j < (hF ops.size).next := by
          rcases Nat.lt_or_ge j (hF p').next with h' | h'
          · exact Nat.lt_of_lt_of_le h' (T.mono ok hc q2 (Nat.le_refl _))
          · rw [b3 j h'] at hy; cases hy
        obtain ⟨k, ok', h1, h2, h3, h4, h5, h6, h7⟩ := early j hjt h (by rw [hq]; simp)
        refine ⟨?_, inv.ok j (Nat.le_trans hpp h), hq⟩
        have hkp : k < p' := by
          rcases Nat.lt_or_ge k p' with h' | h'
          · exact h'
          · have := T.mono ok hc h' (Nat.le_of_lt (lt_of_some h2))
            rw [b3 j (by omega)] at hy; cases hy
        rw [h7, ← hy, h5, mid k ok' h1 hkp h2 h6]
    · split at hj
      · cases hj
      · rename_i hnone hge
        have hge' : (hF (p + 1)).next ≤ j := by omega
        rw [hp.only j (.inr hge')] at hq
        exact .inr ⟨hj, inv.ok j (by omega), hq⟩
  · intro j x hx
    show (match (hF p').objs.get j with | some x => some x | none => if j < (hF p').next then none else f j) = some x
    rw [hx]
  · intro j hjt hj
    rcases Nat.lt_or_ge j (hF p').next with h | h
    · exact .inl h
    · right
      have hge : (hF (p + 1)).next ≤ j := by omega
      rw [hp.only j (.inr hge)] at hj
      obtain ⟨k, ok', h1, h2, h3, h4, h5, h6, h7⟩ := early j hjt hge hj
      refine ⟨k, ok', ?_, h2, .inl h3, h4, h5, h6, ?_⟩
      · rcases Nat.lt_or_ge k p' with h' | h'
        · have := T.mono ok hc (show k + 1 ≤ p' from h') q2; omega
        · exact h'
      · simp only [b3 j h]
        rw [if_neg (by omega)]; exact h7
  · intro k ok' h1 h2 h3 h4 h5
    have hk : ¬ S k := fun h => h4 (.inl h)
    rcases Nat.lt_trichotomy k p with h | h | h
    · obtain ⟨l1, l2⟩ := inv.late k ok' h h2 h3 hk h5
      have hlt' : (hF k).next < (hF p).next := by have := T.mono ok hc (show k + 1 ≤ p from h) inv.ple; omega
      refine ⟨by rw [hp.only _ (.inl hlt')]; exact l1, ?_⟩
      rw [b2 _ (by omega), hp.hid _ hlt' l1, l2]
    · exact absurd (.inr h) h4
    · have hge : (hF (p + 1)).next ≤ (hF k).next := T.mono ok hc h (Nat.le_of_lt (lt_of_some h2))
      refine ⟨by rw [hp.only _ (.inr hge)]; exact inv.unmade ok hc T h2 hk h3 h5, mid k ok' h h1 h2 h5⟩
  · have hlow : ∀ j, j < (hF 0).next → (hF p').objs.get j = (hF (p + 1)).objs.get j := fun j hj => b2 j (by omega)
    refine inv.past.step hp ?_ m0 (T.mono ok hc hlt (Nat.le_refl _)) ?_ ?_
    · intro b hb; exact inv.past.owned (fun x hx => inv.ok x (Nat.le_trans (T.mono ok hc inv.ple (Nat.le_refl _)) hx)) hb
    · intro j hj hn
      rw [hlow j hj, hp.hid j (by omega) (by rw [inv.past.only j (.inl hj)]; exact hn)]
      exact inv.past.hid j hj hn
    · intro j o' hj ho'
      rw [hlow j hj] at ho'
      obtain ⟨o1, ho1, h1⟩ := hp.dom j o' (by omega) ho'
      obtain ⟨o2, ho2, h2⟩ := inv.past.dom j o1 hj ho1
      exact ⟨o2, ho2, fun x => h2 (h1 x)⟩
end
end Go.Abs

namespace Go.Abs
open Go.RowKit

variable {P : Program} {σ : Val} {cx : Cx}
section
variable {callf : CallF} {ops : Array Oper} {pl : List (List Nat)} {nt : Nat} {tmF : Nat → Tm} {hF : Nat → AH} {vF : Nat → AV}
variable {E0 : Env} {B : Nat} {w0 wi : World} {S : Nat → Prop} {p : Nat} {E : Env} {f : Nat → Option AO} {a : Act} {tm : Tm} {w : World}

theorem wantedA_congr {tm tm' : Tm} {o : Oper} (h : ∀ t, t ∈ o.looksAt ops → tm.at t = tm'.at t) : wantedA ops.toList tm o = wantedA ops.toList tm' o := by
  unfold wantedA
  cases hg : o.guard with
  | none => rfl
  | some gw =>
    obtain ⟨g, want⟩ := gw
    simp only
    rw [nth_eq, Array.getElem?_toList]
    cases ho : ops[g]? with
    | none => rfl
    | some oo =>
      cases hd : oo.dst with
      | none => simp [hd]
      | some d =>
        simp only [hd]
        rw [h d (by simp [Oper.looksAt, hg, ho, hd])]

theorem agree_looks {tm tm' : Tm} {o : Oper} (h : ∀ t, t ∈ o.looksAt ops → tm.at t = tm'.at t) : Agree tm tm' o.op.operands.toList := fun t ht =>
  h t (List.mem_append_left _ (List.mem_filterMap.2 ⟨.tmp t, ht, rfl⟩))

theorem Inv.fresh (ok : CxOK P σ cx) (hc : CallOK P σ callf) (T : Trace cx callf ops tmF hF vF) (inv : Inv σ ops tmF hF nt E0 B w0 wi S p E f a tm w) {o : Oper} (hi : ops[p]? = some o) : Fresh E (hF p) (hF (p + 1)) := by
  intro j h1 h2
  have hlt := lt_of_some hi
  cases hx : E.φ j with
  | none => rfl
  | some q =>
    exfalso
    rcases inv.dom j (Nat.lt_of_lt_of_le h2 (T.mono ok hc hlt (Nat.le_refl _))) (by rw [hx]; simp) with h | ⟨k, o', k1, k2, k3, k4, k5, _⟩
    · omega
    · rcases Nat.lt_or_ge p k with h | h
      · have := T.mono ok hc (show p + 1 ≤ k from h) (Nat.le_of_lt (lt_of_some k2)); omega
      · have : k = p := by omega
        subst this
        exact (inv.pnext o' k2).2 k3

theorem op_wpOp {Q : Exit → Act → World → Prop} {K : Act → World → Prop} {i : Nat} {o : Oper} (hi : ops[i]? = some o) (hw : Region.wanted o (yielded ops a.tmps) = true) (h : o.wp P a w K Q) : wpOp P ops Q i K a w := by
  unfold wpOp
  simp only [hi, hw, if_true]
  exact .inl h

/-- one operation out of its order -/
theorem Inv.op (ok : CxOK P σ cx) (hc : CallOK P σ callf) (D : DrawOK ops pl) (T : Trace cx callf ops tmF hF vF) (hnt : ∀ (k : Nat) (o : Oper), ops[k]? = some o → ∀ d, o.dst = some d → d < nt)
    (R : ∀ (k : Nat) (o : Oper), ops[k]? = some o → wantedA ops.toList (tmF k) o = some true → isE o.op = false → ∀ q qs, pl[k]? = some (q :: qs) → ∀ p ∈ q :: qs, ∃ g', aop cx (tmF k) (hF p) o.op = .val (vF k) g')
    (hSn : ¬ S ops.size) (inv : Inv σ ops tmF hF nt E0 B w0 wi S p E f a tm w) {i : Nat} {o : Oper} (hi : ops[i]? = some o) (hS : ¬ S i)
    (hr : ∀ e ∈ o.after, Region.binds .any e = true → S e.on) {Q : Exit → Act → World → Prop} {K : Act → World → Prop}
    (hK : ∀ p' E' f' a' tm' w', Inv σ ops tmF hF nt E0 B w0 wi (More S i) p' E' f' a' tm' w' → K a' w') : wpOp P ops Q i K a w := by
  have hag := inv.agree D hi hS hr
  have hwa : ∀ r, wantedA ops.toList (tmF i) o = some r → Region.wanted o (yielded ops a.tmps) = r := fun r hr => wanted_sound inv.act.tm ops o ((wantedA_congr hag).trans hr)
  have hap : ∀ h, aop cx tm h o.op = aop cx (tmF i) h o.op := fun h => aop_congr (agree_looks hag)
  have hip : isE o.op = true → i = p := by
    intro he
    rcases Nat.lt_trichotomy i p with h | h | h
    · exact absurd (inv.pdone i o h hi he) hS
    · exact h
    · have hlt := lt_of_some hi
      have hpo : ops[p]? = some (ops[p]'(by omega)) := Array.getElem?_eq_getElem (by omega)
      obtain ⟨he', hSp⟩ := inv.pnext _ hpo
      rcases D.pair p i _ o h hpo hi with hb | ⟨_, hb⟩
      · rcases hb (More S i) (More.down inv.down hi hr) (.inr rfl) with h' | h'
        · exact absurd h' hSp
        · omega
      · exact absurd ⟨he', he⟩ hb
  rcases (T i o hi).1 with ⟨hw, hv, hh⟩ | ⟨hw, ha⟩ | ⟨hw, he, fn, args, ha, hcf⟩
  · -- not wanted
    have hV : conc E (vF i) = some undef := by rw [hv]; exact conc_undef E
    unfold wpOp
    simp only [hi, hwa _ hw, Bool.false_eq_true, if_false]
    by_cases he : isE o.op = true
    · have := hip he; subst this
      obtain ⟨p', f', inv'⟩ := inv.advE ok hc D T hnt hi hr hV (by rw [hh]; exact Post.refl inv.rel)
      exact hK _ _ _ _ _ _ inv'
    · exact hK _ _ _ _ _ _ (inv.advN ok hc D T hnt hi hS hr (by simpa using he) hV (.inl rfl) (Post.refl inv.rel))
  · by_cases he : isE o.op = true
    · have := hip he; subst this
      refine op_wpOp hi (hwa _ hw) ((op_wp ok hc (o := o) (tm := tm) (.inl ((hap _).trans ha))).2 E B w0 w a K Q inv.sig inv.act.tm inv.rel (inv.fresh ok hc T hi) ?_)
      intro E' V w' hV hp
      obtain ⟨p', f', inv'⟩ := inv.advE ok hc D T hnt hi hr hV hp
      exact hK _ _ _ _ _ _ inv'
    · have he : isE o.op = false := by simpa using he
      by_cases hl : isL o.op = true
      · have hpp : p = ops.size ∨ ∃ op, ops[p]? = some op ∧ isE op.op = true := by
          rcases Nat.lt_or_ge p ops.size with h | h
          · have hpo := Array.getElem?_eq_getElem h
            exact .inr ⟨_, hpo, (inv.pnext _ hpo).1⟩
          · have := inv.ple; exact .inl (by omega)
        rcases D.reads i o hi hl p hpp with hb | ⟨q, oq, h1, h2, h3, hb⟩ | ⟨q, qs, h1, h2⟩
        · exfalso
          rcases hb (More S i) (More.down inv.down hi hr) (.inr rfl) with h' | h'
          · rcases hpp with rfl | ⟨op, hop, _⟩
            · exact hSn h'
            · exact (inv.pnext op hop).2 h'
          · subst h'
            rcases hpp with h | ⟨op, hop, hE⟩
            · have := lt_of_some hi; omega
            · rw [hi] at hop; cases hop; rw [he] at hE; cases hE
        · exact absurd (hb S inv.down (inv.pdone q oq h1 h2 h3)) hS
        · obtain ⟨g', hg⟩ := R i o hi hw he q qs h1 p h2
          have := aop_L hl hg; subst this
          refine op_wpOp hi (hwa _ hw) ((op_wp ok hc (o := o) (tm := tm) (.inl ((hap _).trans hg))).2 E B w0 w a K Q inv.sig inv.act.tm inv.rel (fun j h1 h2 => by omega) ?_)
          intro E' V w' hV hp
          exact hK _ _ _ _ _ _ (inv.advN ok hc D T hnt hi hS hr he hV (.inl rfl) hp)
      · obtain ⟨st, h1, h2⟩ := aop_Q (by simpa using hl) he ha
        cases st with
        | none =>
          refine op_wpOp hi (hwa _ hw) ((op_wp ok hc (o := o) (tm := tm) (.inl ((hap _).trans (h2 .nil)))).2 E B w0 w a K Q inv.sig inv.act.tm (inv.empty _) (fun j h1 h2 => by simp [extH] at h1 h2; omega) ?_)
          intro E' V w' hV hp
          exact hK _ _ _ _ _ _ (inv.advN ok hc D T hnt hi hS hr he hV (.inr rfl) hp)
        | some ob =>
          have hn : (hF (i + 1)).next = (hF i).next + 1 := by rw [h1]; rfl
          refine op_wpOp hi (hwa _ hw) ((op_wp ok hc (o := o) (tm := tm) (.inl ((hap _).trans (h2 .nil)))).2 E B w0 w a K Q inv.sig inv.act.tm (inv.empty _) (fun j h1 h2 => ?_) ?_)
          · simp [extH] at h1 h2
            have : j = (hF i).next := by omega
            subst this
            exact inv.unmade ok hc T hi hS he hn
          · intro E' V w' hV hp
            obtain ⟨f', inv'⟩ := inv.advA ok hc D T hnt hi hS hr he hV h1 hp
            exact hK _ _ _ _ _ _ inv'
  · have := hip he; subst this
    refine op_wpOp hi (hwa _ hw) ((op_wp ok hc (o := o) (tm := tm) (.inr ⟨fn, args, (hap _).trans ha, hcf⟩)).2 E B w0 w a K Q inv.sig inv.act.tm inv.rel (inv.fresh ok hc T hi) ?_)
    intro E' V w' hV hp
    obtain ⟨p', f', inv'⟩ := inv.advE ok hc D T hnt hi hr hV hp
    exact hK _ _ _ _ _ _ inv'

theorem Inv.end (ok : CxOK P σ cx) (hc : CallOK P σ callf) (T : Trace cx callf ops tmF hF vF) (inv : Inv σ ops tmF hF nt E0 B w0 wi S p E f a tm w) (hall : ∀ j, j < ops.size → S j) :
    ActOK E nt (tmF ops.size) a ∧ Post E0 B w0 (hF 0) wi E (hF ops.size) w := by
  have hp : p = ops.size := by
    rcases Nat.lt_or_ge p ops.size with h | h
    · exact absurd (hall p h) (inv.pnext _ (Array.getElem?_eq_getElem h)).2
    · have := inv.ple; omega
  have htm : ∀ t, tm.at t = (tmF ops.size).at t := fun t => inv.tmN t fun j oj hj _ => hall j (lt_of_some hj)
  have hrel := inv.rel
  have hpast := inv.past
  rw [hp] at hrel hpast
  refine ⟨⟨fun t => by rw [← htm]; exact inv.act.tm t, inv.act.size, inv.act.defers⟩, ?_⟩
  exact ⟨hpast.ext, hpast.only, hrel, hpast.hid, hpast.dom, hpast.frame, hpast.newb, hpast.grow, T.mono ok hc (Nat.zero_le _) (Nat.le_refl _)⟩

theorem all_of_ready {listed : Array Bool} (D : DrawOK ops pl) (hsz : listed.size = ops.size) (hr : Region.ready .any ops listed = []) : ∀ j, j < ops.size → listed.getD j false = true := by
  intro j
  induction j using Nat.strongRecOn with
  | _ j ih =>
    intro hj
    cases hx : listed.getD j false with
    | true => rfl
    | false =>
      exfalso
      have : j ∈ Region.ready .any ops listed := by
        refine mem_ready.2 ⟨?_, ops[j], Array.getElem?_eq_getElem hj, fun e he hb => ?_⟩
        · simpa [hsz, hj] using hx
        · have hlt := D.back j _ (Array.getElem?_eq_getElem hj) e he hb
          exact ih e.on hlt (by omega)
      rw [hr] at this; cases this

theorem draw_any (ok : CxOK P σ cx) (hc : CallOK P σ callf) (D : DrawOK ops pl) (T : Trace cx callf ops tmF hF vF) (hnt : ∀ (k : Nat) (o : Oper), ops[k]? = some o → ∀ d, o.dst = some d → d < nt)
    (R : ∀ (k : Nat) (o : Oper), ops[k]? = some o → wantedA ops.toList (tmF k) o = some true → isE o.op = false → ∀ q qs, pl[k]? = some (q :: qs) → ∀ p ∈ q :: qs, ∃ g', aop cx (tmF k) (hF p) o.op = .val (vF k) g')
    {Q : Exit → Act → World → Prop} (hQ : ∀ E a w, ActOK E nt (tmF ops.size) a → Post E0 B w0 (hF 0) wi E (hF ops.size) w → Q .normal a w) :
    ∀ (fuel : Nat) (listed : Array Bool) (un : List Nat) (S : Nat → Prop) (p : Nat) (E : Env) (f : Nat → Option AO) (a : Act) (tm : Tm) (w : World), listed.size = ops.size → (∀ j, S j ↔ listed.getD j false = true) →
      un.Nodup → (∀ j, j < ops.size → ¬ S j → j ∈ un) → un.length ≤ fuel → Inv σ ops tmF hF nt E0 B w0 wi S p E f a tm w → wpAny P .any ops Q fuel listed a w := by
  intro fuel
  induction fuel with
  | zero =>
    intro listed un S p E f a tm w hsz hS hnd hun hlen inv
    have hnil : un = [] := List.length_eq_zero_iff.1 (by omega)
    subst hnil
    have hall : ∀ j, j < ops.size → S j := fun j hj => Classical.byContradiction fun h => by have := hun j hj h; cases this
    refine ⟨?_, ?_⟩
    · cases hr : Region.ready .any ops listed with
      | nil => rfl
      | cons i l =>
        exfalso
        have hm : i ∈ Region.ready .any ops listed := by rw [hr]; simp
        obtain ⟨h0, o, ho, _⟩ := mem_ready.1 hm
        have h1 := (hS i).1 (hall i (lt_of_some ho))
        have hlt := lt_of_some ho
        simp [hsz, hlt] at h0 h1; rw [h0] at h1; cases h1
    · obtain ⟨h1, h2⟩ := inv.end ok hc T hall
      exact hQ E a w h1 h2
  | succ fuel ih =>
    intro listed un S p E f a tm w hsz hS hnd hun hlen inv
    refine ⟨fun hr => ?_, fun i hi => ?_⟩
    · obtain ⟨h1, h2⟩ := inv.end ok hc T (fun j hj => (hS j).2 (all_of_ready D hsz hr j hj))
      exact hQ E a w h1 h2
    · obtain ⟨h0, o, ho, hall⟩ := mem_ready.1 hi
      have hlt := lt_of_some ho
      have hSi : ¬ S i := fun h => by
        have h1 := (hS i).1 h
        simp [hsz, hlt] at h0 h1; rw [h0] at h1; cases h1
      have hSn : ¬ S ops.size := fun h => by
        have h1 := (hS _).1 h
        simp [hsz] at h1
      refine inv.op ok hc D T hnt R hSn ho hSi (fun e he hb => (hS _).2 (hall e he hb)) fun p' E' f' a' tm' w' inv' => ?_
      have hiu := hun i hlt hSi
      refine ih (listed.setIfInBounds i true) (un.erase i) (More S i) p' E' f' a' tm' w' (by simp [hsz]) ?_ (hnd.erase i) ?_ (by rw [List.length_erase_of_mem hiu]; omega) inv'
      · intro j
        unfold More
        rw [hS j]
        by_cases e : j = i
        · subst e; simp [hsz, hlt]
        · rw [getD_set_ne false (Ne.symm e)]; simp [e]
      · intro j hj hSj
        have : j ≠ i := fun e => hSj (.inr e)
        exact (List.mem_erase_of_ne this).2 (hun j hj fun h => hSj (.inl h))

/-- a region whose order is open -/
theorem runDraw_sound (ok : CxOK P σ cx) (hm : P.follows .mixedOrders = true) (hc : CallOK P σ callf) (D : DrawOK ops pl) (hnt : ∀ (k : Nat) (o : Oper), ops[k]? = some o → ∀ d, o.dst = some d → d < nt)
    {tm : Tm} {h : AH} {out : DOut} (hrun : runDraw cx callf ops.toList 0 ops.toList pl tm h .nil [] = some out) (hchk : chkReads cx out.sn out.rd = true) : h.next ≤ out.h.next ∧
    ∀ (E : Env) (B : Nat) (w0 w : World) (a : Act) (id : Nat), E.σ = σ → ActOK E nt tm a → Rel E B w0 h w → Fresh E h out.h → ∀ Q : Exit → Act → World → Prop,
      (∀ e a w', OutOK E B w0 h w nt (.norm out.tm out.h) e a w' → Q e a w') → (Code.region id ops true).wp P Q a w := by
  obtain ⟨tmF, hF, vF, h1, h2, h3, h4, h5, h6, h7, h8⟩ := runDraw_trace ops.toList 0 pl tm h .nil [] out hrun
  simp only [Nat.zero_add, Array.length_toList] at h3 h4 h5 h8
  have T : Trace cx callf ops tmF hF vF := fun k o hk => by
    have := h5 k o (by rw [Array.getElem?_toList]; exact hk)
    exact this
  have snp : ∀ p g, out.sn.get p = some g → g = hF p := fun p g hg => by
    rcases h6 p g hg with h | ⟨_, h⟩
    · simp at h
    · exact h
  have R : ∀ (k : Nat) (o : Oper), ops[k]? = some o → wantedA ops.toList (tmF k) o = some true → isE o.op = false → ∀ q qs, pl[k]? = some (q :: qs) → ∀ p ∈ q :: qs, ∃ g', aop cx (tmF k) (hF p) o.op = .val (vF k) g' := by
    intro k o hk hw he q qs hq p hp
    have hmem := h8 k o q qs (by rw [Array.getElem?_toList]; exact hk) hw he hq
    obtain ⟨g, g', hg, hv⟩ := chkRead_spec (chkReads_spec hchk _ hmem) p hp
    rw [snp p g hg] at hv
    exact ⟨g', hv⟩
  have hmono := T.mono ok hc (Nat.zero_le ops.size) (Nat.le_refl _)
  refine ⟨by rw [← h2, ← h4]; exact hmono, fun E B w0 w a id hσ ha hr hf Q hQ => ?_⟩
  refine wp_region_any hm ?_
  rw [← h1] at ha
  rw [← h2] at hr hf
  rw [← h4] at hf
  obtain ⟨p, _, p2, p3, p4⟩ := nextE ops ops.size 0 (by omega)
  obtain ⟨b1, b2, b3⟩ := T.between (Nat.zero_le p) p2 p3
  have b3 := b3 hr.ok
  have htop : (hF p).next ≤ (hF ops.size).next := T.mono ok hc p2 (Nat.le_refl _)
  refine draw_any (E0 := E) (B := B) (w0 := w0) (wi := w) ok hc D T hnt R ?_ ops.size (Array.replicate ops.size false) (List.range ops.size) (fun _ => False) p E (fun j => (hF p).objs.get j) a (tmF 0) _ (by simp) ?_ List.nodup_range (fun j hj _ => List.mem_range.2 hj) (by simp) ?_
  · intro E' a' w' ha' hp'
    refine hQ _ _ _ ⟨rfl, E', ?_, ?_⟩
    · rw [← h3]; exact ha'
    · rw [← h2, ← h4]; exact hp'
  · intro j
    rw [false_iff]
    rcases Nat.lt_or_ge j ops.size with h | h <;> simp [h]
  · refine ⟨fun _ _ _ h => h.elim, p2, fun q o hq ho he => ?_, fun o ho => ⟨p4 o ho, fun h => h⟩, ?_, ?_, ha, hσ, ?_, fun _ _ h => h, b3, ?_, ?_, ?_⟩
    · have := p3 q o (Nat.zero_le _) hq ho; rw [he] at this; cases this
    · intro k o hk _ t _ hw
      exact (T.tm (Nat.zero_le k) (Nat.le_of_lt (lt_of_some hk)) (fun q oq _ hq hoq hd => hw q oq hq hoq hd)).symm
    · intro t hw
      exact (T.tm (Nat.zero_le _) (Nat.le_refl _) (fun q oq _ hq hoq hd => hw q oq hoq hd)).symm
    · have low : ∀ j o q, (hF p).objs.get j = some o → E.φ j = some q → (hF 0).objs.get j = some o := by
        intro j o q hj hq
        rcases Nat.lt_or_ge j (hF 0).next with h | h
        · rw [b2 j h] at hj; exact hj
        · exfalso
          rcases Nat.lt_or_ge j (hF p).next with h' | h'
          · rw [hf j h (by omega)] at hq; cases hq
          · rw [b3 j h'] at hj; cases hj
      have hr' := hr.heap (w' := { w with drawn := w.drawn + 1 }) rfl rfl rfl rfl
      exact ⟨fun j o q hj hq => hr'.objs j o q (low j o q hj hq) hq, fun i j o o' q q' hi hj hq hq' => hr'.inj i j o o' q q' (low i o q hi hq) (low j o' q' hj hq') hq hq', hr'.below, hr'.base, hr'.glob⟩
    · intro j hjt hj
      left
      rcases Nat.lt_or_ge j (hF 0).next with h | h
      · omega
      · exact absurd (hf j h hjt) hj
    · intro k o hk ho he _ hn
      have h0 : (hF 0).next ≤ (hF k).next := T.mono ok hc (Nat.zero_le _) (Nat.le_of_lt (lt_of_some ho))
      have h1' : (hF (k + 1)).next ≤ (hF ops.size).next := T.mono ok hc (lt_of_some ho) (Nat.le_refl _)
      refine ⟨hf _ h0 (by omega), ?_⟩
      exact (T.between (i := k + 1) (j := p) hk p2 (fun q o a b => p3 q o (by omega) b)).2.1 _ (by omega)
    · refine ⟨Env.le_refl E, fun _ _ => rfl, fun j hj _ => b2 j hj, fun j o' hj ho => ⟨o', by rw [b2 j hj] at ho; exact ho, fun h => h⟩, fun _ _ _ => rfl, fun j q h1 h2 hq => ?_, Nat.le_refl _⟩
      rw [hf j h1 h2] at hq; cases hq
end
end Go.Abs

namespace Go.Abs
open Go.RowKit

/-! ## the check of a region whose order is open -/
def bd (e : Edge) : Bool := match e.ground with
  | .textOnly _ => false
  | .gcOnly _ => false
  | _ => true
theorem bd_eq (e : Edge) : Region.binds .any e = bd e := by
  obtain ⟨on, g⟩ := e
  cases g <;> rfl

def getN : List Nat → Nat → Nat
  | [], _ => 0
  | m :: _, 0 => m
  | _ :: l, n + 1 => getN l n

/-- the operations that come before, as bits -/
def maskOf (ms : List Nat) : List Edge → Nat → Nat
  | [], s => s
  | e :: es, s => match bd e with
    | true => maskOf ms es (Nat.lor (Nat.lor s (Nat.pow 2 e.on)) (getN ms e.on))
    | false => maskOf ms es s
def backOK (k : Nat) : List Edge → Bool
  | [] => true
  | e :: es => match bd e with
    | true => match Nat.blt e.on k with
      | true => backOK k es
      | false => false
    | false => backOK k es

structure Info where
  i : Nat
  o : Oper
  m : Nat

def infosG : Nat → List Oper → List Nat → Option (List Info)
  | _, [], _ => some []
  | k, o :: os, m :: ms => match infosG (k + 1) os ms with
    | some l => some (⟨k, o, m⟩ :: l)
    | none => none
  | _, _ :: _, [] => none

def maskOK (ms : List Nat) (x : Info) : Bool := match backOK x.i x.o.after.toList with
  | true => Nat.beq (maskOf ms x.o.after.toList 0) x.m
  | false => false

def pairOK (ops : Array Oper) (x y : Info) : Bool := match Nat.testBit y.m x.i with
  | true => true
  | false => match x.o.apart ops y.o with
    | true => match isE x.o.op with
      | true => match isE y.o.op with
        | true => false
        | false => true
      | false => true
    | false => false
def pairsOK (ops : Array Oper) : List Info → Bool
  | [] => true
  | x :: l => match l.all (pairOK ops x) with
    | true => pairsOK ops l
    | false => false

def memN (n : Nat) : List Nat → Bool
  | [] => false
  | m :: l => match Nat.beq n m with
    | true => true
    | false => memN n l
def filtE : List Info → List Info
  | [] => []
  | x :: l => match isE x.o.op with
    | true => x :: filtE l
    | false => filtE l
/-- at this place the operation need not be thought of, or it is -/
def placeOK (es : List Info) (x : Info) (ps : List Nat) (p : Nat) : Bool := match memN p ps with
  | true => true
  | false => match Nat.testBit x.m p with
    | true => true
    | false => es.any fun q => match Nat.blt q.i p with
      | true => Nat.testBit q.m x.i
      | false => false
noncomputable def nthL (pl : List (List Nat)) (n : Nat) : List Nat := match nth pl n with
  | some l => l
  | none => []
noncomputable def readsOK (n : Nat) (es : List Info) (pl : List (List Nat)) : List Info → Bool
  | [] => true
  | x :: l => match isL x.o.op with
    | true => match placeOK es x (nthL pl x.i) n with
      | true => match es.all fun y => placeOK es x (nthL pl x.i) y.i with
        | true => readsOK n es pl l
        | false => false
      | false => false
    | false => readsOK n es pl l

noncomputable def regOK (ops : Array Oper) (ms : List Nat) (pl : List (List Nat)) : Bool :=
  match infosG 0 ops.toList ms with
  | some l => match l.all (maskOK ms) with
    | true => match pairsOK ops l with
      | true => readsOK ops.size (filtE l) pl l
      | false => false
    | false => false
  | none => false

theorem infosG_spec : ∀ (os : List Oper) (k : Nat) (ms : List Nat) (l : List Info), infosG k os ms = some l →
    (∀ (j : Nat) (o : Oper), os[j]? = some o → l[j]? = some ⟨k + j, o, getN ms j⟩) ∧ l.length = os.length := by
  intro os
  induction os with
  | nil => intro k ms l h; simp only [infosG, Option.some.injEq] at h; subst h; simp
  | cons o os ih =>
    intro k ms l h
    cases ms with
    | nil => simp [infosG] at h
    | cons m ms =>
      simp only [infosG] at h
      split at h
      · rename_i l' hl
        cases h
        obtain ⟨h1, h2⟩ := ih _ _ _ hl
        refine ⟨fun j o' hj => ?_, by simp [h2]⟩
        cases j with
        | zero => simp at hj; subst hj; simp [getN]
        | succ j =>
          simp only [List.getElem?_cons_succ] at hj ⊢
          rw [h1 j o' hj]
          simp only [getN]
          congr 2; omega
      · cases h

theorem getN_eq : ∀ (ms : List Nat) (j : Nat), getN ms j = ms.getD j 0
  | [], j => by simp [getN]
  | m :: ms, 0 => rfl
  | m :: ms, j + 1 => by simp only [getN]; rw [getN_eq ms j]; simp

theorem maskOf_spec {ms : List Nat} {i : Nat} : ∀ (es : List Edge) (s : Nat), (maskOf ms es s).testBit i = true →
    s.testBit i = true ∨ ∃ e ∈ es, bd e = true ∧ (e.on = i ∨ (getN ms e.on).testBit i = true)
  | [], s, h => .inl h
  | e :: es, s, h => by
    simp only [maskOf] at h
    split at h
    · rename_i hb
      rcases maskOf_spec es _ h with h' | ⟨e', h1, h2⟩
      · have h' : ((s ||| 2 ^ e.on) ||| getN ms e.on).testBit i = true := h'
        rw [Nat.testBit_or, Nat.testBit_or, Bool.or_eq_true, Bool.or_eq_true] at h'
        rcases h' with (h' | h') | h'
        · exact .inl h'
        · rw [Nat.testBit_two_pow] at h'
          exact .inr ⟨e, by simp, hb, .inl (by simpa using h')⟩
        · exact .inr ⟨e, by simp, hb, .inr h'⟩
      · exact .inr ⟨e', by simp [h1], h2⟩
    · rcases maskOf_spec es _ h with h' | ⟨e', h1, h2⟩
      · exact .inl h'
      · exact .inr ⟨e', by simp [h1], h2⟩

theorem backOK_spec {k : Nat} : ∀ (es : List Edge), backOK k es = true → ∀ e ∈ es, bd e = true → e.on < k
  | [], _, e, he, _ => by cases he
  | e' :: es, h, e, he, hb => by
    simp only [backOK] at h
    split at h
    · split at h
      · rename_i hlt
        rcases List.mem_cons.1 he with rfl | he
        · rw [natBlt_eq] at hlt; simpa using hlt
        · exact backOK_spec es h e he hb
      · cases h
    · rename_i hb'
      rcases List.mem_cons.1 he with rfl | he
      · rw [hb'] at hb; cases hb
      · exact backOK_spec es h e he hb

theorem memN_spec {n : Nat} : ∀ {l : List Nat}, memN n l = true → n ∈ l
  | [], h => by simp [memN] at h
  | m :: l, h => by
    simp only [memN] at h
    split at h
    · rename_i hb; rw [natBeq_eq] at hb; simp at hb; simp [hb]
    · exact List.mem_cons_of_mem _ (memN_spec h)
theorem filtE_mem : ∀ {l : List Info} {x : Info}, x ∈ filtE l ↔ x ∈ l ∧ isE x.o.op = true
  | [], x => by simp [filtE]
  | y :: l, x => by
    simp only [filtE]
    split
    · rename_i hy
      rw [List.mem_cons, List.mem_cons, filtE_mem]
      constructor
      · rintro (rfl | ⟨h1, h2⟩)
        · exact ⟨.inl rfl, hy⟩
        · exact ⟨.inr h1, h2⟩
      · rintro ⟨rfl | h1, h2⟩
        · exact .inl rfl
        · exact .inr ⟨h1, h2⟩
    · rename_i hy
      rw [List.mem_cons, filtE_mem]
      constructor
      · rintro ⟨h1, h2⟩; exact ⟨.inr h1, h2⟩
      · rintro ⟨rfl | h1, h2⟩
        · rw [hy] at h2; cases h2
        · exact ⟨h1, h2⟩
theorem pairsOK_spec {ops : Array Oper} : ∀ {l : List Info}, pairsOK ops l = true → ∀ (i j : Nat) (x y : Info), i < j → l[i]? = some x → l[j]? = some y → pairOK ops x y = true
  | [], _, i, j, x, y, _, h, _ => by simp at h
  | z :: l, h, i, j, x, y, hij, hi, hj => by
    simp only [pairsOK] at h
    split at h
    · rename_i hz
      cases j with
      | zero => omega
      | succ j =>
        simp only [List.getElem?_cons_succ] at hj
        cases i with
        | zero =>
          simp only [List.getElem?_cons_zero, Option.some.injEq] at hi; subst hi
          exact List.all_eq_true.1 hz y (List.mem_of_getElem? hj)
        | succ i =>
          simp only [List.getElem?_cons_succ] at hi
          exact pairsOK_spec h i j x y (by omega) hi hj
    · cases h
theorem readsOK_spec {n : Nat} {es : List Info} {pl : List (List Nat)} : ∀ {l : List Info}, readsOK n es pl l = true → ∀ x ∈ l, isL x.o.op = true →
    placeOK es x (nthL pl x.i) n = true ∧ ∀ y ∈ es, placeOK es x (nthL pl x.i) y.i = true
  | [], _, x, hx, _ => by cases hx
  | z :: l, h, x, hx, hl => by
    simp only [readsOK] at h
    split at h
    · split at h
      · split at h
        · rename_i _ h1 _ h2
          rcases List.mem_cons.1 hx with rfl | hx
          · exact ⟨h1, List.all_eq_true.1 h2⟩
          · exact readsOK_spec h x hx hl
        · cases h
      · cases h
    · rename_i hz
      rcases List.mem_cons.1 hx with rfl | hx
      · rw [hz] at hl; cases hl
      · exact readsOK_spec h x hx hl

theorem regOK_spec {ops : Array Oper} {ms : List Nat} {pl : List (List Nat)} (h : regOK ops ms pl = true) : DrawOK ops pl := by
  unfold regOK at h
  split at h
  case h_2 => cases h
  rename_i l hl
  split at h
  case h_2 => cases h
  rename_i hm
  split at h
  case h_2 => cases h
  rename_i hp
  obtain ⟨hi, hlen⟩ := infosG_spec _ _ _ _ hl
  have info : ∀ (k : Nat) (o : Oper), ops[k]? = some o → l[k]? = some ⟨k, o, getN ms k⟩ := fun k o hk => by
    have := hi k o (by rw [Array.getElem?_toList]; exact hk)
    simpa using this
  have mask : ∀ (k : Nat) (o : Oper), ops[k]? = some o → (∀ e ∈ o.after.toList, bd e = true → e.on < k) ∧ maskOf ms o.after.toList 0 = getN ms k := fun k o hk => by
    have := List.all_eq_true.1 hm _ (List.mem_of_getElem? (info k o hk))
    simp only [maskOK] at this
    split at this
    · rename_i hb
      rw [natBeq_eq] at this
      exact ⟨backOK_spec _ hb, by simpa using this⟩
    · cases this
  have bef : ∀ j i, j < ops.size → (getN ms j).testBit i = true → Bef ops i j := by
    intro j
    induction j using Nat.strongRecOn with
    | _ j ih =>
      intro i hj hb S hS hSj
      have hoj := Array.getElem?_eq_getElem hj
      obtain ⟨m1, m2⟩ := mask j _ hoj
      rw [← m2] at hb
      rcases maskOf_spec _ _ hb with h0 | ⟨e, he, hbd, h1⟩
      · simp at h0
      · have hlt := m1 e he hbd
        have hSe := hS j _ hoj hSj e (by simpa using he) (by rw [bd_eq]; exact hbd)
        rcases h1 with rfl | h1
        · exact hSe
        · exact ih e.on hlt i (by omega) h1 S hS hSe
  refine ⟨fun k o hk e he hb => (mask k o hk).1 e (by simpa using he) (by rw [← bd_eq]; exact hb), fun i j oi oj hij hoi hoj => ?_, fun k o hk hL p hpp => ?_⟩
  · have := pairsOK_spec hp i j _ _ hij (info i oi hoi) (info j oj hoj)
    unfold pairOK at this
    simp only at this
    split at this
    · rename_i hb; exact .inl (bef j i (lt_of_some hoj) hb)
    · split at this
      · rename_i hap
        split at this
        · split at this
          · cases this
          · rename_i he; exact .inr ⟨hap, fun x => by rw [he] at x; exact absurd x.2 (by simp)⟩
        · rename_i he; exact .inr ⟨hap, fun x => by rw [he] at x; exact absurd x.1 (by simp)⟩
      · cases this
  · obtain ⟨h1, h2⟩ := readsOK_spec h _ (List.mem_of_getElem? (info k o hk)) hL
    have key : placeOK (filtE l) ⟨k, o, getN ms k⟩ (nthL pl k) p = true := by
      rcases hpp with rfl | ⟨op, hop, hE⟩
      · exact h1
      · exact h2 _ (filtE_mem.2 ⟨List.mem_of_getElem? (info p op hop), hE⟩)
    unfold placeOK at key
    split at key
    · rename_i hmem
      right; right
      have hmem := memN_spec hmem
      unfold nthL at hmem
      rw [nth_eq] at hmem
      split at hmem
      · rename_i q hq
        cases q with
        | nil => cases hmem
        | cons a as => exact ⟨a, as, hq, hmem⟩
      · cases hmem
    · split at key
      · rename_i hb; exact .inl (bef k p (lt_of_some hk) hb)
      · right; left
        obtain ⟨q, hq, hqb⟩ := List.any_eq_true.1 key
        obtain ⟨hql, hqE⟩ := filtE_mem.1 hq
        obtain ⟨j, hj⟩ := List.mem_iff_getElem?.1 hql
        have hjl : j < l.length := by
          rcases Nat.lt_or_ge j l.length with h' | h'
          · exact h'
          · rw [List.getElem?_eq_none h'] at hj; cases hj
        have hjs : j < ops.size := by rw [hlen] at hjl; simpa using hjl
        have hoj := Array.getElem?_eq_getElem hjs
        have := info j _ hoj
        rw [hj] at this; cases this
        simp only at hqb hqE
        split at hqb
        · rename_i hlt
          rw [natBlt_eq] at hlt
          exact ⟨j, _, by simpa using hlt, hoj, hqE, bef j k hjs hqb⟩
        · cases hqb

/-! ## the check of a function -/
def dstsOK (nt : Nat) : List Oper → Bool
  | [] => true
  | o :: os => match o.dst with
    | some d => match Nat.blt d nt with
      | true => dstsOK nt os
      | false => false
    | none => dstsOK nt os

noncomputable def planAt (pl : Option (Tr (List (List Nat)))) (id : Nat) : Option (List (List Nat)) := match pl with
  | some t => t.get id
  | none => none
noncomputable def maskAt (ms : Option (Tr (List Nat))) (id : Nat) : List Nat := match ms with
  | some t => match t.get id with
    | some l => l
    | none => []
  | none => []

noncomputable def codeOK (nt : Nat) (pl : Option (Tr (List (List Nat)))) (ms : Option (Tr (List Nat))) : Code → Bool
  | .region id ops draw => match dstsOK nt ops.toList with
    | true => match draw with
      | true => match planAt pl id with
        | some p => regOK ops (maskAt ms id) p
        | none => true
      | false => true
    | false => false
  | .seq a b => match codeOK nt pl ms a with
    | true => codeOK nt pl ms b
    | false => false
  | .cond _ a b => match codeOK nt pl ms a with
    | true => codeOK nt pl ms b
    | false => false
  | .block _ a => codeOK nt pl ms a
  | .loop a => codeOK nt pl ms a
  | .scope a => codeOK nt pl ms a
  | _ => true

noncomputable def fnOK (pl : Option (Tr (List (List Nat)))) (ms : Option (Tr (List Nat))) (fn : Func) : Bool := match fn.body with
  | some c => match fn.name == "runtime.NumGoroutine" with
    | false => codeOK fn.ntmps pl ms c
    | true => false
  | none => true
noncomputable def fnsOK (pl : Tr (Tr (List (List Nat)))) (ms : Tr (Tr (List Nat))) : Nat → List Func → Bool
  | _, [] => true
  | g, fn :: fs => match fnOK (pl.get g) (ms.get g) fn with
    | true => fnsOK pl ms (g + 1) fs
    | false => false

theorem dstsOK_spec {nt : Nat} : ∀ {os : List Oper}, dstsOK nt os = true → ∀ o ∈ os, ∀ d, o.dst = some d → d < nt
  | [], _, o, ho, _, _ => by cases ho
  | x :: os, h, o, ho, d, hd => by
    simp only [dstsOK] at h
    split at h
    · rename_i d' hd'
      split at h
      · rename_i hb
        rcases List.mem_cons.1 ho with rfl | ho
        · rw [hd'] at hd; cases hd; rw [natBlt_eq] at hb; simpa using hb
        · exact dstsOK_spec h o ho d hd
      · cases h
    · rename_i hd'
      rcases List.mem_cons.1 ho with rfl | ho
      · rw [hd'] at hd; cases hd
      · exact dstsOK_spec h o ho d hd

theorem fnsOK_spec {pl : Tr (Tr (List (List Nat)))} {ms : Tr (Tr (List Nat))} : ∀ {l : List Func} {g : Nat}, fnsOK pl ms g l = true → ∀ (j : Nat) (fn : Func), l[j]? = some fn → fnOK (pl.get (g + j)) (ms.get (g + j)) fn = true
  | [], _, _, j, fn, h => by simp at h
  | f :: l, g, h, j, fn, hj => by
    simp only [fnsOK] at h
    split at h
    · rename_i hf
      cases j with
      | zero => simp at hj; subst hj; exact hf
      | succ j =>
        simp only [List.getElem?_cons_succ] at hj
        have := fnsOK_spec h j fn hj
        have e : g + 1 + j = g + (j + 1) := by omega
        rwa [e] at this
    · cases h

theorem trOf_get {α : Type} : ∀ (l : List α) (n : Nat) (t : Tr α) (m : Nat), (trOf n l t).get m = if n ≤ m ∧ m < n + l.length then l[m - n]? else t.get m
  | [], n, t, m => by simp only [trOf]; rw [if_neg (by simp only [List.length_nil]; omega)]
  | a :: l, n, t, m => by
    simp only [trOf]
    rw [trOf_get l (n + 1)]
    simp only [List.length_cons, Tr.get_set]
    by_cases h : n + 1 ≤ m ∧ m < n + 1 + l.length
    · rw [if_pos h, if_pos (by omega)]
      have : m - n = (m - (n + 1)) + 1 := by omega
      rw [this, List.getElem?_cons_succ]
    · rw [if_neg h]
      by_cases e : m = n
      · subst e; rw [if_pos rfl, if_pos (by omega)]; simp
      · rw [if_neg e, if_neg (by omega)]
end Go.Abs
