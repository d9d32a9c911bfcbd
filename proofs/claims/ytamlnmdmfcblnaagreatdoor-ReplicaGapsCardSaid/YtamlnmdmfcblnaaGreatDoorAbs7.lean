/- slices.AppendSeq over maps.Keys and maps.Values, as one step of the interpreter. No premise of its own. -/
import Derived.Test.YtamlnmdmfcblnaaGreatDoorAbs6
import Derived.RangeFuncLeaves
import Derived.RangeFuncRecord
import Derived.RangeFuncIn
import Derived.RangeFuncSeq
import Derived.OwnWalkIn
import Derived.Maps.RangeRun
import Derived.Maps.AppendAt
import Derived.LoopNIn
import Derived.JoinedOf
set_option linter.unusedVariables false
set_option linter.unusedSimpArgs false
namespace Go.Abs
open Go.RowKit
variable {P : Program}

/-! ## slices.AppendSeq over maps.Keys, maps.Values: the steps in a fence that lets all in -/
section steps
variable {F : Fence} {n : Nat} (hF : ∀ f, F.fn f) {ops : Array Oper} {rest : List Oper} {o : Oper} {a : Act} {w w' : World} {Q : Exit → Act → World → Prop}
include hF
theorem opIn_val {V : Value} (hg : o.guard = none) (hd : ∀ c, o.op ≠ .defer c) (hr : (execOp a.eval o).run P w = .ok (.value V) w') (h : wpListIn F n P ops Q rest (a.put o.dst V) w') : wpListIn F n P ops Q (o :: rest) a w := by
  refine wpListIn_plain hg fun K hK => ?_
  unfold Oper.wpIn
  refine ⟨fun f _ => hF f, ?_⟩
  rw [Oper.semAt_plain F _ _ hd, hr]
  exact hK _ _ h
theorem opIn_skip (hg : o.guard = none) (hd : ∀ c, o.op ≠ .defer c) (hr : (execOp a.eval o).run P w = .ok .skip w') (h : wpListIn F n P ops Q rest (a.put o.dst undef) w') : wpListIn F n P ops Q (o :: rest) a w := by
  refine wpListIn_plain hg fun K hK => ?_
  unfold Oper.wpIn
  refine ⟨fun f _ => hF f, ?_⟩
  rw [Oper.semAt_plain F _ _ hd, hr]
  exact hK _ _ h
end steps
theorem regIn {F : Fence} {n : Nat} {id : Nat} {a : Act} {w : World} {Q : Exit → Act → World → Prop} (l : List Oper) (h : wpListIn F n P l.toArray Q l a w) : (Code.region id l.toArray false).wpIn F n P Q a w := by
  refine wpIn_region ?_
  have := wpOpsIn_eq_wpListIn (F := F) (n := n) (P := P) (ops := l.toArray) (Q := Q) l 0 (fun j => by simp)
  rw [← List.range_eq_range'] at this
  simp only [List.size_toArray]
  rw [this]; exact h


/-- what is handed on -/
noncomputable def noC : CallF := fun _ _ _ => none
noncomputable def opsR (cx : Cx) (os : List Oper) (tm : Tm) (h : AH) : Option (Tm × AH) := match runOps cx noC [] os tm h with
  | .norm tm h => some (tm, h)
  | _ => none
def plainOps (nt : Nat) : List Oper → Bool
  | [] => true
  | o :: os => match o.guard with
    | some _ => false
    | none => match o.dst with
      | some d => match Nat.blt d nt with
        | true => plainOps nt os
        | false => false
      | none => plainOps nt os

variable {σ : Val} {cx : Cx}
theorem opsR_nil (tm : Tm) (h : AH) : opsR cx [] tm h = some (tm, h) := rfl
theorem opsR_cons {o : Oper} {os : List Oper} (hg : o.guard = none) {tm tm' : Tm} {h h' : AH} (hr : opsR cx (o :: os) tm h = some (tm', h')) : ∃ v h1, aop cx tm h o.op = .val v h1 ∧ opsR cx os (putA tm o.dst v) h1 = some (tm', h') := by
  unfold opsR at hr ⊢
  simp only [runOps, wantedA, hg] at hr
  cases ha : aop cx tm h o.op with
  | val v h1 => rw [ha] at hr; exact ⟨v, h1, rfl, hr⟩
  | call f as => rw [ha] at hr; cases hr
  | no => rw [ha] at hr; cases hr
theorem plainOps_cons {nt : Nat} {o : Oper} {os : List Oper} (h : plainOps nt (o :: os) = true) : o.guard = none ∧ (∀ d, o.dst = some d → d < nt) ∧ plainOps nt os = true := by
  simp only [plainOps] at h
  split at h
  · cases h
  rename_i hg
  refine ⟨hg, ?_⟩
  split at h
  · rename_i d hd
    split at h
    · rename_i hb
      exact ⟨fun d' e => by rw [hd] at e; cases e; simpa [Nat.blt_eq] using hb, h⟩
    · cases h
  · rename_i hd; exact ⟨fun d e => (by rw [hd] at e; cases e), h⟩

theorem put_rel {E : Env} {nt : Nat} {tm : Tm} {a : Act} (h : TmRel E tm a) (hs : nt ≤ a.tmps.size) {v : AV} {V : Value} (hv : conc E v = some V) {dst : Option Nat} (hd : ∀ d, dst = some d → d < nt) :
    TmRel E (putA tm dst v) (a.put dst V) ∧ nt ≤ (a.put dst V).tmps.size ∧ (a.put dst V).defers = a.defers := by
  refine ⟨fun t => ?_, by cases dst <;> simp [Act.put, hs], by cases dst <;> simp [Act.put]⟩
  rw [getD_putA]
  cases dst with
  | none => simpa [Act.put] using h t
  | some d =>
    have hlt : d < a.tmps.size := Nat.lt_of_lt_of_le (hd d rfl) hs
    by_cases e : d = t
    · subst e; simp [Act.put, hlt, hv]
    · have := h t
      simp only [Act.put, Option.some.injEq, e, if_false]
      simpa [Array.getElem?_setIfInBounds_ne e] using this

/-- operations without guards and calls, in a fence that lets all in -/
theorem opsIn (ok : CxOK P σ cx) {F : Fence} {n : Nat} (hF : ∀ f, F.fn f) {ops : Array Oper} {Q : Exit → Act → World → Prop} {nt : Nat} : ∀ (os rest : List Oper) (tm tm' : Tm) (h h' : AH), plainOps nt os = true → opsR cx os tm h = some (tm', h') →
    h.next ≤ h'.next ∧ ∀ (E : Env) (B : Nat) (w0 w : World) (a : Act), E.σ = σ → TmRel E tm a → nt ≤ a.tmps.size → Rel E B w0 h w → Fresh E h h' →
      (∀ E' a' w', TmRel E' tm' a' → nt ≤ a'.tmps.size → a'.defers = a.defers → Post E B w0 h w E' h' w' → wpListIn F n P ops Q rest a' w') → wpListIn F n P ops Q (os ++ rest) a w
  | [], rest, tm, tm', h, h', _, hr => by
    rw [opsR_nil] at hr; cases hr
    exact ⟨Nat.le_refl _, fun E B w0 w a _ ht hs hrel _ hk => hk E a w ht hs rfl (Post.refl hrel)⟩
  | o :: os, rest, tm, tm', h, h', hp, hr => by
    obtain ⟨hg, hd, hp'⟩ := plainOps_cons hp
    obtain ⟨v, h1, ha, hr'⟩ := opsR_cons hg hr
    obtain ⟨n1, s1⟩ := aop_val ok o ha
    obtain ⟨n2, s2⟩ := opsIn ok hF os rest _ _ _ _ hp' hr'
    refine ⟨Nat.le_trans n1 n2, fun E B w0 w a hσ ht hs hrel hf hk => ?_⟩
    obtain ⟨E', V, w', hrun, hV, hpost⟩ := s1 E B w0 w a hσ ht hrel (hf.left n2)
    obtain ⟨q1, q2, q3⟩ := put_rel (ht.mono hpost.ext) hs hV hd
    have next : wpListIn F n P ops Q (os ++ rest) (a.put o.dst V) w' :=
      s2 E' B w0 w' _ (hpost.ext.2.trans hσ) q1 q2 hpost.rel (hf.right hpost) fun E2 a2 w2 h1 h2 h3 h4 => hk E2 a2 w2 h1 h2 (h3.trans q3) (hpost.trans h4)
    have hdef : ∀ c, o.op ≠ .defer c := fun c e => by rw [e] at ha; simp [aop, aop2] at ha
    rcases hrun with hrun | ⟨rfl, hrun⟩
    · exact opIn_val hF hg hdef hrun next
    · exact opIn_skip hF hg hdef hrun next

theorem opsReg (ok : CxOK P σ cx) {nt : Nat} {os : List Oper} {tm tm' : Tm} {h h' : AH} (hp : plainOps nt os = true) (hr : opsR cx os tm h = some (tm', h')) :
    h.next ≤ h'.next ∧ ∀ {F : Fence} {n : Nat} (_ : ∀ f, F.fn f) {id : Nat} {Q : Exit → Act → World → Prop} (E : Env) (B : Nat) (w0 w : World) (a : Act), E.σ = σ → TmRel E tm a → nt ≤ a.tmps.size → Rel E B w0 h w → Fresh E h h' →
      (∀ E' a' w', TmRel E' tm' a' → nt ≤ a'.tmps.size → a'.defers = a.defers → Post E B w0 h w E' h' w' → Q .normal a' w') → (Code.region id os.toArray false).wpIn F n P Q a w := by
  refine ⟨(opsIn (P := P) ok (F := Fence.wide) (n := 0) (fun _ => trivial) (ops := #[]) (Q := fun _ _ _ => True) os [] _ _ _ _ hp hr).1, fun {F n} hF {id Q} E B w0 w a hσ ht hs hrel hf hk => regIn os ?_⟩
  have := (opsIn (P := P) ok (F := F) (n := n) hF (ops := os.toArray) (Q := Q) os [] _ _ _ _ hp hr).2 E B w0 w a hσ ht hs hrel hf hk
  rwa [List.append_nil] at this

/-! ### blocks that the interpreter's memory knows nothing of -/
theorem Post.poke {E : Env} {B : Nat} {w0 : World} {h : AH} {w : World} {E' : Env} {h' : AH} {w' : World} (p : Post E B w0 h w E' h' w') {l : Nat} (hl : w.heap.size ≤ l) (hB : B ≤ w.heap.size) (hno : ¬ Owned E' h' l) (o : Obj) : Post E B w0 h w E' h' (w'.putObj l o) where
  ext := p.ext
  only := p.only
  rel := {
    objs := fun i o' q hi hq => by
      refine objRel_block (p.rel.objs i o' q hi hq) (World.putObj_heap_other fun e => ?_)
      by_cases hrw : o'.rw = true
      · exact hno ⟨i, o', q, hi, hq, hrw, e⟩
      · cases o' with
        | cells cs ro es =>
          have : ro = true := by simpa [AO.rw] using hrw
          obtain ⟨_, vs, _, h3, _⟩ := p.rel.objs i _ q hi hq
          have := (h3 this).1
          omega
        | map es c => simp [AO.rw] at hrw
        | iter m since last seen pre => simp [AO.rw] at hrw
    inj := p.rel.inj
    below := p.rel.below.trans ⟨rfl, rfl, rfl, by simp, fun k hk => World.putObj_heap_other (by omega)⟩
    base := p.rel.base
    ok := p.rel.ok
    glob := p.rel.glob }
  hid := p.hid
  dom := p.dom
  frame := fun b hb hn => by rw [World.putObj_heap_other (by omega)]; exact p.frame b hb hn
  newb := p.newb
  grow := by simpa using p.grow
  next := p.next

theorem Owned.keep {E : Env} {B : Nat} {w0 : World} {h : AH} {w : World} {E' : Env} {h' : AH} {w' : World} (p : Post E B w0 h w E' h' w') {l : Nat} (hl : l < w.heap.size) (hno : ¬ Owned E h l) : ¬ Owned E' h' l := fun ho => by
  rcases Owned.back p ho with h1 | h1
  · omega
  · exact hno h1

/-- a name for a value -/
theorem Post.hole {E : Env} {B : Nat} {w0 : World} {h : AH} {w : World} (hr : Rel E B w0 h w) (hf : E.φ h.next = none) (V : Value) : Post E B w0 h w (E.put h.next ⟨w.heap.size, 0, 0, V⟩) ⟨h.objs, h.next + 1⟩ w := by
  have hle := Env.le_put (E := E) ⟨w.heap.size, 0, 0, V⟩ hf
  have lt : ∀ i o, h.objs.get i = some o → i ≠ h.next := fun i o hi e => by
    have := hr.ok i (by omega); rw [this] at hi; cases hi
  refine { ext := hle, only := ?_, rel := ?_, hid := fun _ _ _ => rfl, dom := fun i o' _ ho => ⟨o', ho, id⟩, frame := fun _ _ _ => rfl, newb := ?_, grow := Nat.le_refl _, next := Nat.le_succ _ }
  · rintro i (hi | hi)
    · exact Env.put_other _ _ (by omega)
    · exact Env.put_other _ _ (by simp at hi; omega)
  · refine { objs := ?_, inj := ?_, below := hr.below, base := hr.base, ok := fun i hi => hr.ok i (by simp at hi; omega), glob := hr.glob }
    · intro i o p hi hp
      rw [Env.put_other _ _ (lt i o hi)] at hp
      exact objRel_mono hle (hr.objs i o p hi hp)
    · intro i j o1 o2 p q hi hj hp hq
      rw [Env.put_other _ _ (lt i o1 hi)] at hp
      rw [Env.put_other _ _ (lt j o2 hj)] at hq
      exact hr.inj i j o1 o2 p q hi hj hp hq
  · intro i p h1 h2 hp
    have : i = h.next := by simp at h2; omega
    subst this
    rw [Env.put_same] at hp; cases hp
    exact .inl (Nat.le_refl _)

/-! ### the code -/
structure SeqCode where
  r0 : List Oper
  r1 : List Oper
  rA : List Oper
  rB : List Oper
  r4 : List Oper
  k0 : List Oper
  k1 : List Oper
  k2 : List Oper
  k3 : List Oper
  yc : Oper
  kn : Oper
  tc : Nat
  tx : Nat
  ty : Nat
  tr : Nat
  tn : Nat
  ntA : Nat
  ntK : Nat
  ids : Nat → Nat
def SeqCode.asg (C : SeqCode) : Code := .region (C.ids 2) C.rA.toArray false
def SeqCode.bdy (C : SeqCode) : Code := .block (C.ids 3) (.region (C.ids 4) C.rB.toArray false)
def SeqCode.codeA (C : SeqCode) : Code :=
  .seq (.region (C.ids 0) C.r0.toArray false) (.seq (.seq (.region (C.ids 1) C.r1.toArray false) (.block (C.ids 5) (.rangeFunc (.tmp 6) #[7] C.asg C.bdy))) (.seq (.region (C.ids 6) C.r4.toArray false) .ret))
def SeqCode.round (C : SeqCode) : Code :=
  .seq (.region (C.ids 9) C.k1.toArray false) (.seq (.cond (.tmp C.tc) .skip (.exit (C.ids 8))) (.block (C.ids 10) (.seq (.region (C.ids 11) C.k2.toArray false) (.seq (.region (C.ids 12) (C.k3 ++ [C.yc, C.kn]).toArray false) (.cond (.tmp C.tn) .ret .skip)))))
def SeqCode.codeK (C : SeqCode) : Code :=
  .seq (.region (C.ids 7) C.k0.toArray false) (.block (C.ids 8) (.loop C.round))
structure SeqCode.OK (C : SeqCode) : Prop where
  r0 : plainOps C.ntA C.r0 = true
  r1 : plainOps C.ntA C.r1 = true
  rA : plainOps C.ntA C.rA = true
  rB : plainOps C.ntA C.rB = true
  r4 : plainOps C.ntA C.r4 = true
  k0 : plainOps C.ntK C.k0 = true
  k1 : plainOps C.ntK C.k1 = true
  k2 : plainOps C.ntK C.k2 = true
  k3 : plainOps C.ntK C.k3 = true
  yc : ∃ T, C.yc.op = .call { callee := .value (.tmp C.ty), args := #[.tmp C.tx], argTypes := T }
  ycg : C.yc.guard = none
  ycd : C.yc.dst = some C.tr
  kn : ∃ T, C.kn.op = .unOp .not T (.tmp C.tr)
  kng : C.kn.guard = none
  knd : C.kn.dst = some C.tn
  tr : C.tr < C.ntK
  tn : C.tn < C.ntK
  a7 : 7 < C.ntA
  a6 : 6 < C.ntA

/-! ### what is run -/
noncomputable def seqLoop (cx : Cx) (C : SeqCode) (tmA : Tm) (y : Nat) : Nat → Tm → AH → Option AH
  | 0, _, _ => none
  | f + 1, tm, h => match opsR cx C.k1 tm h with
    | none => none
    | some (tm1, h1) => match tm1.at C.tc with
      | .bool false => some h1
      | .bool true => match opsR cx C.k2 tm1 h1 with
        | none => none
        | some (tm2, h2) => match opsR cx C.k3 tm2 h2 with
          | none => none
          | some (tm3, h3) => match tm3.at C.ty with
            | .hole z => match Nat.beq z y with
              | false => none
              | true => match opsR cx C.rA (tmA.set 7 (tm3.at C.tx)) h3 with
                | none => none
                | some (tm4, h4) => match opsR cx C.rB tm4 h4 with
                  | none => none
                  | some (_, h5) => seqLoop cx C tmA y f ((tm3.set C.tr (.bool true)).set C.tn (.bool false)) h5
            | _ => none
      | _ => none
end Go.Abs

namespace Go.Abs
open Go.RowKit
variable {P : Program} {σ : Val} {cx : Cx}

def loopRec (C : SeqCode) (fn : Nat) (TA : Array Value) (D : Nat) (st : LoopState) : Loop :=
  { state := st, pending := none, fn, tmps := TA, params := #[7], assign := C.asg, body := C.bdy, defers := D }

/-- between two steps of the iterator -/
structure SeqAt (C : SeqCode) (E0 : Env) (B : Nat) (w0 : World) (h0 : AH) (wS : World) (fn : Nat) (TA : Array Value) (tmA : Tm) (y l D : Nat) (st : LoopState) (E : Env) (h : AH) (w : World) : Prop where
  post : Post E0 B w0 h0 wS E h w
  L : w.heap[l]? = some (.loop (loopRec C fn TA D st))
  K : w.heap[D]? = some (.deferred (some []))
  nl : ¬ Owned E h l
  nd : ¬ Owned E h D
  ll : wS.heap.size ≤ l
  ld : wS.heap.size ≤ D
  ne : D ≠ l
  ta : TmRel E tmA { tmps := TA, defers := [] }
  ts : C.ntA ≤ TA.size
  hy : ∃ p, E.φ y = some p ∧ p.val = .func (.yield l) #[] #[]

section
variable {C : SeqCode} {E0 E : Env} {B : Nat} {w0 : World} {h0 h : AH} {wS w : World} {fn : Nat} {TA : Array Value} {tmA : Tm} {y l D : Nat} {st : LoopState}
theorem SeqAt.lt (s : SeqAt C E0 B w0 h0 wS fn TA tmA y l D st E h w) : l < w.heap.size := (Array.getElem?_eq_some_iff.1 s.L).1
theorem SeqAt.ltD (s : SeqAt C E0 B w0 h0 wS fn TA tmA y l D st E h w) : D < w.heap.size := (Array.getElem?_eq_some_iff.1 s.K).1
theorem SeqAt.step (s : SeqAt C E0 B w0 h0 wS fn TA tmA y l D st E h w) {E' : Env} {h' : AH} {w' : World} (p : Post E B w0 h w E' h' w') : SeqAt C E0 B w0 h0 wS fn TA tmA y l D st E' h' w' where
  post := s.post.trans p
  L := (p.frame l s.lt s.nl).trans s.L
  K := (p.frame D s.ltD s.nd).trans s.K
  nl := Owned.keep p s.lt s.nl
  nd := Owned.keep p s.ltD s.nd
  ll := s.ll
  ld := s.ld
  ne := s.ne
  ta := s.ta.mono p.ext
  ts := s.ts
  hy := let ⟨q, h1, h2⟩ := s.hy; ⟨q, p.ext.1 _ _ h1, h2⟩
theorem SeqAt.turn (s : SeqAt C E0 B w0 h0 wS fn TA tmA y l D st E h w) (hB : B ≤ wS.heap.size) (st' : LoopState) : SeqAt C E0 B w0 h0 wS fn TA tmA y l D st' E h (w.putObj l (.loop (loopRec C fn TA D st'))) where
  post := s.post.poke s.ll hB s.nl _
  L := World.putObj_heap_same s.lt
  K := (World.putObj_heap_other s.ne).trans s.K
  nl := s.nl
  nd := s.nd
  ll := s.ll
  ld := s.ld
  ne := s.ne
  ta := s.ta
  ts := s.ts
  hy := s.hy
end

theorem set_rel {E : Env} {tm : Tm} {T : Array Value} (h : TmRel E tm { tmps := T, defers := [] }) {t : Nat} (ht : t < T.size) {x : AV} {X : Value} (hx : conc E x = some X) : TmRel E (tm.set t x) { tmps := T.setIfInBounds t X, defers := [] } := fun j => by
  rw [Tm.at_set]
  by_cases e : j = t
  · subst e; simp [ht, hx]
  · rw [if_neg e]
    have := h j
    simpa [Array.getElem?_setIfInBounds_ne (Ne.symm e)] using this

/-- one call of yield -/
theorem yield_round (ok : CxOK P σ cx) {C : SeqCode} (hC : C.OK) {n : Nat} {E0 E : Env} {B : Nat} {w0 : World} {h0 h3 h4 h5 : AH} {wS w : World} {fn : Nat} {TA : Array Value} {tmA tm4 tm5 : Tm} {y l D : Nat} {x : AV} {X : Value}
    (hσ : E0.σ = σ) (hB : B ≤ wS.heap.size) (s : SeqAt C E0 B w0 h0 wS fn TA tmA y l D .ready E h3 w) (hx : conc E x = some X)
    (hA : opsR cx C.rA (tmA.set 7 x) h3 = some (tm4, h4)) (hBd : opsR cx C.rB tm4 h4 = some (tm5, h5)) (hf : Fresh E h3 h5) {R : Ending → World → Prop}
    (hR : ∀ E' w', SeqAt C E0 B w0 h0 wS fn TA tmA y l D .ready E' h5 w' → Post E B w0 h3 w E' h5 w' ∨ E.le E' → R (.returned (.bool true)) w') :
    RoundIn Fence.wide n P l fn (TA.setIfInBounds 7 X) C.asg C.bdy w R := by
  refine roundIn_of_wpIn trivial ?_
  have hall : ∀ f, (Fence.wide.inRound l).fn f := fun _ => trivial
  obtain ⟨n1, s1⟩ := opsIn (P := P) ok (F := Fence.wide.inRound l) (n := n) hall (ops := C.rA.toArray) (Q := Exit.then (fun a₁ w₁ => ∃ w₂, (Instr.beginRound l).run P w₁ = .ok () w₂ ∧ C.bdy.wpIn (Fence.wide.inRound l) n P (roundPost P l R) a₁ w₂) (fun _ _ _ => False)) C.rA [] _ _ _ _ hC.rA hA
  obtain ⟨n2, s2⟩ := opsIn (P := P) ok (F := Fence.wide.inRound l) (n := n) hall (ops := C.rB.toArray) (Q := Exit.inBlock (C.ids 3) (roundPost P l R)) C.rB [] _ _ _ _ hC.rB hBd
  have h7 : 7 < TA.size := Nat.lt_of_lt_of_le hC.a7 s.ts
  have ht := set_rel s.ta h7 hx
  refine regIn C.rA ?_
  rw [List.append_nil] at s1 s2
  refine s1 E B w0 w _ (s.post.ext.2.trans hσ) ht (by simpa using s.ts) s.post.rel (hf.left n2) fun E1 a1 w1 t1 z1 d1 p1 => ?_
  have q1 := s.step p1
  refine ⟨_, run_beginRound q1.L rfl, ?_⟩
  have q2 := q1.turn hB .busy
  unfold SeqCode.bdy
  refine wpIn_block (regIn C.rB ?_)
  refine s2 E1 B w0 _ a1 (q1.post.ext.2.trans hσ) t1 z1 q2.post.rel (hf.right p1) fun E2 a2 w2 t2 z2 d2 p2 => ?_
  have q3 := q2.step p2
  refine ⟨_, _, run_endRound none q3.L, ?_⟩
  have q4 := q3.turn hB .ready
  exact hR E2 _ q4 (.inr (Env.le_trans p1.ext p2.ext))

theorem conc_holeI {E : Env} {y : Nat} {V : Value} (h : conc E (.hole y) = some V) : ∃ p, E.φ y = some p ∧ p.val = V := by
  simp only [conc] at h
  cases hp : E.φ y with
  | none => rw [hp] at h; cases h
  | some p => rw [hp] at h; exact ⟨p, rfl, by simpa using h⟩

theorem seqLoop_sound (ok : CxOK P σ cx) {C : SeqCode} (hC : C.OK) {n : Nat} {E0 : Env} {B : Nat} {w0 : World} {h0 : AH} {wS : World} {fn : Nat} {TA : Array Value} {tmA : Tm} {y l D : Nat} (hσ : E0.σ = σ) (hB : B ≤ wS.heap.size) {Q : Exit → Act → World → Prop} :
    ∀ (f : Nat) (tm : Tm) (h hf : AH), seqLoop cx C tmA y f tm h = some hf → h.next ≤ hf.next ∧ ∀ (E : Env) (w : World) (a : Act), SeqAt C E0 B w0 h0 wS fn TA tmA y l D .ready E h w → TmRel E tm a → C.ntK ≤ a.tmps.size → a.defers = [] → Fresh E h hf →
      (∀ E' a' w', SeqAt C E0 B w0 h0 wS fn TA tmA y l D .ready E' hf w' → a'.defers = [] → Q (.exit (C.ids 8)) a' w') → Code.roundsIn Fence.wide n P C.round Q f a w
  | 0, tm, h, hf, hr => by cases hr
  | f + 1, tm, h, hf, hr => by
    have hall : ∀ f, Fence.wide.fn f := fun _ => trivial
    simp only [seqLoop] at hr
    split at hr
    · cases hr
    rename_i tm1 h1 hk1
    obtain ⟨n1, s1⟩ := opsIn (P := P) ok (F := Fence.wide) (n := n) hall (ops := C.k1.toArray) (Q := Exit.then ((Code.seq (.cond (.tmp C.tc) .skip (.exit (C.ids 8))) (.block (C.ids 10) (.seq (.region (C.ids 11) C.k2.toArray false) (.seq (.region (C.ids 12) (C.k3 ++ [C.yc, C.kn]).toArray false) (.cond (.tmp C.tn) .ret .skip))))).wpIn Fence.wide n P (Exit.then (Code.roundsIn Fence.wide n P C.round Q f) Q)) (Exit.then (Code.roundsIn Fence.wide n P C.round Q f) Q)) C.k1 [] _ _ _ _ hC.k1 hk1
    rw [List.append_nil] at s1
    split at hr
    · -- over
      rename_i hc
      cases hr
      refine ⟨n1, fun E w a s ht hs hd hfr hQ => ?_⟩
      rw [roundsIn_succ]
      refine wpIn_seq (regIn C.k1 (s1 E B w0 w a (s.post.ext.2.trans hσ) ht hs s.post.rel hfr fun E1 a1 w1 t1 z1 d1 p1 => ?_))
      refine wpIn_seq (wpIn_cond_false ?_ (wpIn_exit ?_))
      · have := t1 C.tc
        rw [hc] at this
        simpa [conc, Act.eval] using this.symm
      · exact hQ E1 a1 w1 (s.step p1) (d1.trans hd)
    · -- a round
      rename_i hc
      split at hr
      · cases hr
      rename_i tm2 h2 hk2
      split at hr
      · cases hr
      rename_i tm3 h3 hk3
      split at hr
      case h_2 => cases hr
      rename_i z hy
      split at hr
      · cases hr
      rename_i hzy
      have hzy : z = y := Nat.eq_of_beq_eq_true hzy
      subst hzy
      split at hr
      · cases hr
      rename_i tm4 h4 hkA
      split at hr
      · cases hr
      rename_i tm5 h5 hkB
      obtain ⟨n6, s6⟩ := seqLoop_sound ok hC (n := n) (Q := Q) hσ hB f _ _ _ hr
      obtain ⟨n2, s2⟩ := opsIn (P := P) ok (F := Fence.wide) (n := n) hall (ops := C.k2.toArray) (Q := Exit.then ((Code.seq (.region (C.ids 12) (C.k3 ++ [C.yc, C.kn]).toArray false) (.cond (.tmp C.tn) .ret .skip)).wpIn Fence.wide n P (Exit.inBlock (C.ids 10) (Exit.then (Code.roundsIn Fence.wide n P C.round Q f) Q))) (Exit.inBlock (C.ids 10) (Exit.then (Code.roundsIn Fence.wide n P C.round Q f) Q))) C.k2 [] _ _ _ _ hC.k2 hk2
      rw [List.append_nil] at s2
      obtain ⟨n3, s3⟩ := opsIn (P := P) ok (F := Fence.wide) (n := n) hall (ops := (C.k3 ++ [C.yc, C.kn]).toArray) (Q := Exit.then ((Code.cond (.tmp C.tn) .ret .skip).wpIn Fence.wide n P (Exit.inBlock (C.ids 10) (Exit.then (Code.roundsIn Fence.wide n P C.round Q f) Q))) (Exit.inBlock (C.ids 10) (Exit.then (Code.roundsIn Fence.wide n P C.round Q f) Q))) C.k3 [C.yc, C.kn] _ _ _ _ hC.k3 hk3
      obtain ⟨n4, _⟩ := opsIn (P := P) ok (F := Fence.wide) (n := n) hall (ops := #[]) (Q := fun _ _ _ => True) C.rA [] _ _ _ _ hC.rA hkA
      obtain ⟨n5, _⟩ := opsIn (P := P) ok (F := Fence.wide) (n := n) hall (ops := #[]) (Q := fun _ _ _ => True) C.rB [] _ _ _ _ hC.rB hkB
      refine ⟨by omega, fun E w a s ht hs hd hfr hQ => ?_⟩
      rw [roundsIn_succ]
      refine wpIn_seq (regIn C.k1 (s1 E B w0 w a (s.post.ext.2.trans hσ) ht hs s.post.rel (hfr.left (by omega)) fun E1 a1 w1 t1 z1 d1 p1 => ?_))
      have q1 := s.step p1
      have f1 : Fresh E1 h1 hf := hfr.right p1
      refine wpIn_seq (wpIn_cond_true ?_ (wpIn_skip ?_))
      · have := t1 C.tc
        rw [hc] at this
        simpa [conc, Act.eval] using this.symm
      refine wpIn_block (wpIn_seq (regIn C.k2 (s2 E1 B w0 w1 a1 (q1.post.ext.2.trans hσ) t1 z1 q1.post.rel (f1.left (by omega)) fun E2 a2 w2 t2 z2 d2 p2 => ?_)))
      have q2 := q1.step p2
      have f2 : Fresh E2 h2 hf := f1.right p2
      refine wpIn_seq (regIn (C.k3 ++ [C.yc, C.kn]) (s3 E2 B w0 w2 a2 (q2.post.ext.2.trans hσ) t2 z2 q2.post.rel (f2.left (by omega)) fun E3 a3 w3 t3 z3 d3 p3 => ?_))
      have q3 := q2.step p3
      have f3 : Fresh E3 h3 hf := f2.right p3
      -- yield
      have hty := t3 C.ty
      rw [hy] at hty
      obtain ⟨py, hpy, hpv⟩ := conc_holeI hty
      obtain ⟨py', hpy', hpv'⟩ := q3.hy
      rw [hpy] at hpy'; cases hpy'
      have hfv : a3.tmps.getD C.ty undef = .func (.yield l) #[] #[] := hpv.symm.trans hpv'
      obtain ⟨T, hop⟩ := hC.yc
      have hX := t3 C.tx
      have hrun : (execOp a3.eval C.yc).run P w3 = .ok (.round l fn (TA.setIfInBounds 7 (a3.tmps.getD C.tx undef)) C.asg C.bdy) w3 := by
        have := run_yield (P := P) (args := #[a3.tmps.getD C.tx undef]) q3.L rfl
        simp only [loopRec] at this
        simp only [execOp, hop, resolve, Act.eval, hfv, List.map_toArray, List.map_cons, List.map_nil, Deferred.ofValue, Sem.run_bind, Sem.run_pure, Result.andThen_ok, invoke]
        simpa using this
      refine wpListIn_plain hC.ycg fun K hK => ?_
      unfold Oper.wpIn
      refine ⟨fun f _ => hall f, ?_⟩
      rw [Oper.semAt_plain Fence.wide _ _ (fun c e => by rw [hop] at e; cases e), hrun, Oper.uponIn_round]
      refine ⟨fun h => by simp [Fence.wide] at h, ?_⟩
      refine yield_round ok hC (n := n - 1) hσ hB q3 hX hkA hkB (f3.left n6) fun E5 w5 q5 hle => ?_
      have hle : E3.le E5 := hle.elim (fun p => p.ext) id
      refine hK _ _ ?_
      -- not
      obtain ⟨r1, r2, r3⟩ := put_rel (nt := C.ntK) (t3.mono hle) z3 (v := .bool true) (V := .bool true) rfl (dst := C.yc.dst) (fun d hd => by rw [hC.ycd] at hd; cases hd; exact hC.tr)
      obtain ⟨T2, hop2⟩ := hC.kn
      have hev : (a3.put C.yc.dst (.bool true)).eval (.tmp C.tr) = .bool true := by
        have := r1 C.tr
        rw [hC.ycd] at this
        simp only [putA, Tm.at_set, if_true, conc, Option.some.injEq] at this
        rw [hC.ycd]
        exact this.symm
      refine opIn_val hall hC.kng (fun c e => by rw [hop2] at e; cases e) (V := .bool false) (w' := w5) ?_ ?_
      · simp only [execOp, hop2, hev, Op.unary]
        rfl
      obtain ⟨u1, u2, u3⟩ := put_rel r1 r2 (v := .bool false) (V := .bool false) rfl (dst := C.kn.dst) (fun d hd => by rw [hC.knd] at hd; cases hd; exact hC.tn)
      refine wpIn_cond_false ?_ (wpIn_skip ?_)
      · have := u1 C.tn
        rw [hC.knd] at this
        simp only [putA, Tm.at_set, if_true, conc, Option.some.injEq] at this
        simp only [Act.eval]
        rw [hC.knd]
        exact this.symm
      simp only [hC.ycd, hC.knd, putA] at u1 u2 u3 r3 ⊢
      refine s6 E5 w5 _ q5 u1 u2 (u3.trans (r3.trans (d3.trans (d2.trans (d1.trans hd))))) ?_ hQ
      exact fun i h1 h2 => by
        have e5 := q5.post.only i (.inr h1)
        rw [e5]
        have := f3 i (by omega) h2
        rw [q3.post.only i (.inr (by omega))] at this
        exact this
    · cases hr

/-! ## the whole -/
noncomputable def seqSum (cx : Cx) (C : SeqCode) (gK : Nat) : Sum := fun as h => match as with
  | [.nils, .fn g [] [.ptr b o]] => match Nat.beq g gK with
    | false => none
    | true => match opsR cx C.r0 (initTm 0 [.nils, .fn g [] [.ptr b o]] Tm.nil) h with
      | none => none
      | some (t1, h1) => match opsR cx C.r1 t1 h1 with
        | none => none
        | some (tmA, h2) => match avEq (tmA.at 6) (.fn g [] [.ptr b o]) with
          | false => none
          | true => match opsR cx C.k0 (initTm 0 [.hole h2.next, .ptr b o] Tm.nil) ⟨h2.objs, h2.next + 1⟩ with
            | none => none
            | some (tK, h4) => match seqLoop cx C tmA h2.next 3 tK h4 with
              | none => none
              | some h5 => match opsR cx C.r4 tmA h5 with
                | none => none
                | some (tR, h6) => some (tR.at 4, h6)
  | _ => none

theorem opsR_ext {os : List Oper} {tm tm' : Tm} {h h' : AH} (hr : opsR cx os tm h = some (tm', h')) : HExt h h' := by
  unfold opsR at hr
  split at hr
  · rename_i tm1 h1 ho
    cases hr
    exact runOps_ext (cf := noC) (fun _ _ _ _ _ hc => by cases hc) _ _ _ _ ho (by simp)
  · cases hr
theorem seqLoop_ext {C : SeqCode} {tmA : Tm} {y : Nat} : ∀ (f : Nat) (tm : Tm) (h hf : AH), seqLoop cx C tmA y f tm h = some hf → HExt h hf
  | 0, tm, h, hf, hr => by cases hr
  | f + 1, tm, h, hf, hr => by
    simp only [seqLoop] at hr
    split at hr
    · cases hr
    rename_i tm1 h1 e1
    split at hr
    · cases hr; exact opsR_ext e1
    · split at hr
      · cases hr
      rename_i e2
      split at hr
      · cases hr
      rename_i e3
      split at hr
      case h_2 => cases hr
      split at hr
      · cases hr
      split at hr
      · cases hr
      rename_i e4
      split at hr
      · cases hr
      rename_i e5
      exact (opsR_ext e1).trans ((opsR_ext e2).trans ((opsR_ext e3).trans ((opsR_ext e4).trans ((opsR_ext e5).trans (seqLoop_ext f _ _ _ hr)))))
    · cases hr
theorem seqSum_ext {C : SeqCode} {gK : Nat} {as : List AV} {h h' : AH} {v : AV} (hs : seqSum cx C gK as h = some (v, h')) : HExt h h' := by
  unfold seqSum at hs
  split at hs
  case h_2 => cases hs
  split at hs
  · cases hs
  split at hs
  · cases hs
  rename_i e0
  split at hs
  · cases hs
  rename_i h2 e1
  split at hs
  · cases hs
  split at hs
  · cases hs
  rename_i ek
  split at hs
  · cases hs
  rename_i el
  split at hs
  · cases hs
  rename_i er
  cases hs
  have hh : HExt h2 ⟨h2.objs, h2.next + 1⟩ := ⟨[], rfl, fun _ _ => rfl⟩
  exact (opsR_ext e0).trans ((opsR_ext e1).trans (hh.trans ((opsR_ext ek).trans ((seqLoop_ext _ _ _ _ el).trans (opsR_ext er)))))

theorem conc_fn1 {E : Env} {g b o : Nat} {V : Value} (h : conc E (.fn g [] [.ptr b o]) = some V) : ∃ p, E.φ b = some p ∧ V = .func (.func g) #[] #[.pointer (some ⟨p.block, p.off + o, none⟩)] := by
  cases hb : E.φ b with
  | none => simp [conc, concs, hb] at h
  | some p => simp [conc, concs, hb] at h; exact ⟨p, rfl, h.symm⟩

theorem seq_sumOK (ok : CxOK P σ cx) {C : SeqCode} (hC : C.OK) {gA gK : Nat} {fnA fnK : Func} (hPA : P.funcs[gA]? = some fnA) (hnA : (fnA.name == "runtime.NumGoroutine") = false) (hbA : fnA.body = some C.codeA) (htA : fnA.ntmps = C.ntA) (hrA : fnA.results = #[.tmp 4])
    (hPK : P.funcs[gK]? = some fnK) (hnK : (fnK.name == "runtime.NumGoroutine") = false) (hbK : fnK.body = some C.codeK) (htK : fnK.ntmps = C.ntK) (hrK : fnK.results = #[]) : SumOK P σ gA (seqSum cx C gK) := by
  refine ⟨fun as h v h' hs => ?_, fun as h v h' hs => seqSum_ext hs⟩
  have hall : ∀ f, Fence.wide.fn f := fun _ => trivial
  unfold seqSum at hs
  split at hs
  case h_2 => cases hs
  rename_i g b o
  split at hs
  · cases hs
  rename_i hg
  have hg : g = gK := Nat.eq_of_beq_eq_true hg
  subst hg
  split at hs
  · cases hs
  rename_i t1 h1 e0
  split at hs
  · cases hs
  rename_i tmA h2 e1
  split at hs
  · cases hs
  rename_i h6
  have h6 := avEq_eq _ _ h6
  split at hs
  · cases hs
  rename_i tK h4 ek
  split at hs
  · cases hs
  rename_i h5 el
  split at hs
  · cases hs
  rename_i tR h7 er
  cases hs
  obtain ⟨n0, s0⟩ := opsReg (P := P) ok hC.r0 e0
  obtain ⟨n1, s1⟩ := opsReg (P := P) ok hC.r1 e1
  obtain ⟨nk, sk⟩ := opsReg (P := P) ok hC.k0 ek
  obtain ⟨nr, sr⟩ := opsReg (P := P) ok hC.r4 er
  have nl : h4.next ≤ h5.next := (seqLoop_sound (P := P) ok hC (n := 9) (E0 := noEnv σ) (B := 0) (w0 := default) (h0 := h) (wS := default) (fn := 0) (TA := #[]) (l := 0) (D := 0) rfl (Nat.zero_le _) (Q := fun _ _ _ => True) 3 _ _ _ el).1
  simp only at nk
  refine ⟨by omega, fun E B w0 w A hσ hA hrel hfr => .inl ⟨enter_ok hPA hnA hbA _ _, ?_⟩⟩
  have hB : B ≤ w.heap.size := Nat.le_trans hrel.base hrel.below.size
  obtain ⟨V1, A1, _, hA1, rfl⟩ := concs_cons hA
  obtain ⟨V2, A2, hV2, hA2, rfl⟩ := concs_cons hA1
  have hA2' : A2 = [] := (Option.some.inj hA2).symm
  subst hA2'
  have act := init_act hA C.ntA
  refine callsIn_wide.1 (callsIn_of_wp_marks (n := 9) hPA hbA trivial ?_)
  rw [htA]
  unfold SeqCode.codeA
  refine wpIn_seq (s0 hall E B w0 w _ hσ act.tm act.size hrel (hfr.left (by omega)) fun E1 a1 w1 t1' z1 d1 p1 => ?_)
  refine wpIn_seq (wpIn_seq (s1 hall E1 B w0 w1 a1 (p1.ext.2.trans hσ) t1' z1 p1.rel ((hfr.right p1).left (by omega)) fun E2 a2 w2 t2 z2 d2 p2 => ?_))
  have p12 := p1.trans p2
  have f2 : Fresh E2 h2 h' := hfr.right p12
  refine wpIn_block (wpIn_rangeFunc ?_)
  intro fn _
  -- the record, the name of yield
  have hfn6 := t2 6
  rw [h6] at hfn6
  obtain ⟨pb, hpb, hfv⟩ := conc_fn1 hfn6
  obtain ⟨W1, hW1⟩ : ∃ W1, (w2.alloc (.deferred (some []))).alloc (.loop (loopRec C fn a2.tmps w2.heap.size .ready)) = W1 := ⟨_, rfl⟩
  have hs1 : W1.heap.size = w2.heap.size + 2 := by rw [← hW1]; simp
  have hbel : Below w2.heap.size w2 W1 := by
    rw [← hW1]; exact ((Below.refl _ w2).alloc (Nat.le_refl _) _).alloc (by simp) _
  have p3 : Post E2 B w0 h2 w2 E2 h2 W1 := Post.kept p2.rel hbel
  have p4 := Post.hole p3.rel (f2 h2.next (Nat.le_refl _) (by omega)) (.func (.yield (w2.heap.size + 1)) #[] #[])
  have p34 := p3.trans p4
  have hown : ∀ k, w2.heap.size ≤ k → ¬ Owned (E2.put h2.next ⟨W1.heap.size, 0, 0, .func (.yield (w2.heap.size + 1)) #[] #[]⟩) ⟨h2.objs, h2.next + 1⟩ k := by
    rintro k hk ⟨i, o', p, hi, hp, hrw, rfl⟩
    have hin : i ≠ h2.next := fun e => by rw [p2.rel.ok i (by omega)] at hi; cases hi
    rw [Env.put_other _ _ hin] at hp
    have := objRel_lt (p2.rel.objs i o' p hi hp) hrw
    omega
  have S : SeqAt C E B w0 h w fn a2.tmps tmA h2.next (w2.heap.size + 1) w2.heap.size .ready (E2.put h2.next ⟨W1.heap.size, 0, 0, .func (.yield (w2.heap.size + 1)) #[] #[]⟩) ⟨h2.objs, h2.next + 1⟩ W1 :=
    { post := p12.trans p34, L := ?_, K := ?_, nl := hown _ (by omega), nd := hown _ (Nat.le_refl _), ll := by have := p12.grow; omega, ld := p12.grow, ne := by omega,
      ta := fun t => conc_mono p34.ext _ _ (t2 t), ts := z2, hy := ⟨_, Env.put_same _ _ _, rfl⟩ }
  rotate_left
  · rw [← hW1]; have := World.alloc_heap_new (w2.alloc (.deferred (some []))) (.loop (loopRec C fn a2.tmps w2.heap.size .ready)); rwa [World.size_alloc] at this
  · rw [← hW1]; exact (Below.heap_alloc _ _ _ (by simp)).trans (World.alloc_heap_new w2 _)
  have f3 : Fresh (E2.put h2.next ⟨W1.heap.size, 0, 0, .func (.yield (w2.heap.size + 1)) #[] #[]⟩) ⟨h2.objs, h2.next + 1⟩ h' := f2.right p34
  refine ⟨w2.heap.size + 1, [{ target := .collected w2.heap.size, args := #[] }], W1, { target := .fn (.func g) #[.pointer (some ⟨pb.block, pb.off + o, none⟩)], args := #[.func (.yield (w2.heap.size + 1)) #[] #[]] }, W1, g,
    #[.func (.yield (w2.heap.size + 1)) #[] #[], .pointer (some ⟨pb.block, pb.off + o, none⟩)], W1, ?_, ?_, fun _ _ => trivial, ?_, fun h => by simp [Fence.wide] at h, ?_⟩
  · rw [← hW1]; exact run_enterLoop_outer _ _ _ _ _
  · simp [resolve, Act.eval, hfv, Deferred.ofValue]
  · simp only [invoke]
    exact enter_ok hPK hnK hbK _ _
  -- the iterator
  have hAK : concs (E2.put h2.next ⟨W1.heap.size, 0, 0, .func (.yield (w2.heap.size + 1)) #[] #[]⟩) [.hole h2.next, .ptr b o] = some [.func (.yield (w2.heap.size + 1)) #[] #[], .pointer (some ⟨pb.block, pb.off + o, none⟩)] := by
    have e1 := p34.ext.1 _ _ hpb
    have e2 := Env.put_same E2 h2.next ⟨W1.heap.size, 0, 0, .func (.yield (w2.heap.size + 1)) #[] #[]⟩
    simp [concs, conc, e1, e2]
  have actK := init_act hAK C.ntK
  refine callsIn_of_wp hPK hbK trivial ?_
  rw [htK]
  unfold SeqCode.codeK
  refine wpIn_seq (sk hall _ B w0 W1 _ (p34.ext.2.trans (p12.ext.2.trans hσ)) actK.tm actK.size S.post.rel (f3.left (by omega)) fun E4 a4 w4 t4 z4 d4 p5 => ?_)
  have S4 := S.step p5
  refine wpIn_block (wpIn_loop_rounds 3 ((seqLoop_sound (P := P) ok hC hσ hB 3 _ _ _ el).2 E4 w4 a4 S4 t4 z4 (d4.trans rfl) ((f3.right p5).left (by omega)) fun E5 a5 w5 S5 d5 => ?_))
  simp only [Exit.inBlock, if_true]
  have hres : (results fnK a5.tmps).run P w5 = .ok (.tuple #[]) w5 := by simp [results, hrK]
  refine ⟨d5, _, hres, ?_⟩
  refine ⟨none, _, run_endLoop S5.L (by simp [loopRec]), ?_⟩
  have S6 := S5.turn hB .exhausted
  have t6 : TmRel E5 tmA a2 := fun t => S6.ta t
  have f6 : Fresh E5 h5 h' := fun i h1 h2 => by rw [S6.post.only i (.inr h1)]; exact hfr i (by have := S6.post.next; omega) h2
  refine wpIn_seq (sr hall E5 B w0 _ { a2 with defers := [{ target := .collected w2.heap.size, args := #[] }] ++ a2.defers } (S6.post.ext.2.trans hσ) t6 z2 S6.post.rel f6 fun E7 a7 w7 t7 z7 d7 p7 => ?_)
  have S7 := S6.step p7
  refine wpIn_ret ?_
  have hd7 : a7.defers = [{ target := .collected w2.heap.size, args := #[] }] := by rw [d7, d2, d1]; rfl
  show LeavesInM _ _ _ _ _ _ a7.defers .returning w7
  rw [hd7]
  refine ⟨by simp, .inl ⟨w2.heap.size, _, rfl, run_takeDeferred S7.K, ?_⟩⟩
  refine ⟨_, results_tmp hrA _ _ _, _, rfl, E7, t7 4, S7.post.poke S7.ld hB S7.nd _⟩
end Go.Abs

namespace Go.Abs

/-- the code of slices.AppendSeq and of an iterator, taken apart -/
def mkSeq (a k : Code) (na nk : Nat) : Option SeqCode := match a with
  | .seq (.region i0 r0 _) (.seq (.seq (.region i1 r1 _) (.block b5 (.rangeFunc _ _ (.region i2 rA _) (.block b3 (.region i4 rB _))))) (.seq (.region i6 r4 _) _)) => match k with
    | .seq (.region i7 k0 _) (.block b8 (.loop (.seq (.region i9 k1 _) (.seq (.cond (.tmp tc) _ _) (.block b10 (.seq (.region i11 k2 _) (.seq (.region i12 k3 _) (.cond (.tmp tn) _ _)))))))) => match k3.toList with
      | [x1, x2, yc, kn] => match yc.op, yc.dst with
        | .call c, some tr => match c.callee, c.args.toList with
          | .value (.tmp ty), [.tmp tx] => some ⟨r0.toList, r1.toList, rA.toList, rB.toList, r4.toList, k0.toList, k1.toList, k2.toList, [x1, x2], yc, kn, tc, tx, ty, tr, tn, na, nk, fun n => [i0, i1, i2, b3, i4, b5, i6, i7, b8, i9, b10, i11, i12].getD n 0⟩
          | _, _ => none
        | _, _ => none
      | _ => none
    | _ => none
  | _ => none
instance : Inhabited SeqCode := ⟨⟨[], [], [], [], [], [], [], [], [], default, default, 0, 0, 0, 0, 0, 0, 0, fun _ => 0⟩⟩
def fnAt (P : Program) (g : Nat) : Func := (P.funcs[g]?).getD default
def bodyAt (P : Program) (g : Nat) : Code := (fnAt P g).body.getD .skip
def seqAt (P : Program) (gA gK : Nat) : SeqCode := (mkSeq (bodyAt P gA) (bodyAt P gK) (fnAt P gA).ntmps (fnAt P gK).ntmps).getD default
def callTy (o : Oper) : Array TypeId := match o.op with
  | .call c => c.argTypes
  | _ => #[]
def unTy (o : Oper) : TypeId := match o.op with
  | .unOp _ t _ => t
  | _ => 0
variable {P : Program} {σ : Val}
theorem seq_sumOK_W {pl : Tr (Tr (List (List Nat)))} {ms : Tr (Tr (List Nat))} (a : Asked P pl ms) {C : SeqCode} (hC : C.OK) {gA gK : Nat} (hPA : P.funcs[gA]? = some (fnAt P gA)) (hnA : ((fnAt P gA).name == "runtime.NumGoroutine") = false) (hbA : (fnAt P gA).body = some C.codeA) (htA : (fnAt P gA).ntmps = C.ntA) (hrA : (fnAt P gA).results = #[.tmp 4])
    (hPK : P.funcs[gK]? = some (fnAt P gK)) (hnK : ((fnAt P gK).name == "runtime.NumGoroutine") = false) (hbK : (fnAt P gK).body = some C.codeK) (htK : (fnAt P gK).ntmps = C.ntK) (hrK : (fnAt P gK).results = #[]) : SumOK P σ gA (seqSum (cxW P pl .nil .nil) C gK) :=
  seq_sumOK (cx := cxW P pl .nil .nil) (show CxOK P σ ((cxW P pl .nil .nil).put ⟨[], [], .nil⟩) from (progOK_W a all_nil all_nil bytes_nil globs_nil sums_nil).ok) hC hPA hnA hbA htA hrA hPK hnK hbK htK hrK
end Go.Abs

namespace Go.Abs
theorem and_t {a b : Bool} (h : a = true) (k : b = true) : (a && b) = true := by rw [h, k]; rfl
/-- the row's closed facts, each by itself -/
theorem joined_mk {P : Program} {f : FuncId} {fn : Func} {s : ChangeSpec} {c : OpenClaim}
    (h0 : (c.wf (OpenSpec.ofChange s)) = true)
    (h1 : (laidOutB P) = true)
    (h2 : (mapsRowed P) = true)
    (h3 : (fn.params.all (P.readableRec ·)) = true)
    (h4 : (namedTie P c.named s.vars) = true)
    (h5 : ((c.stops == [])) = true)
    (h6 : ((P.stops == [])) = true)
    (h7 : ((c.knobs == [])) = true)
    (h8 : ((P.stopKnobs == [])) = true)
    (h9 : ((c.inPlace == P.inPlace f)) = true)
    (h10 : ((c.unfollowed == P.unfollowed f)) = true)
    (h11 : ((c.recurses == P.recurses f)) = true)
    (h12 : ((c.named == P.varsNamed f)) = true)
    (h13 : ((c.maps == (fn.params.toList ++ s.plain.varTypes P).any (P.mapsRec ·))) = true)
    (h14 : ((c.ifaces == (fn.params.toList ++ s.plain.varTypes P).any (P.ifacesRec ·))) = true)
    (h15 : ((c.mapsOut == P.mapsAmong fn.resultTypes.toList)) = true)
    (h16 : ((c.loops == (fn.params.toList ++ s.plain.varTypes P).any (P.loopsFrom ·))) = true)
    (h17 : ((c.wideKeys == (fn.params.toList ++ s.plain.varTypes P ++ fn.resultTypes.toList).any (P.wideKeysFrom ·))) = true)
    (h18 : (s.vars.all (P.varReadable ·)) = true)
    (h19 : (fn.resultTypes.all (fun t => P.readableRec t && decide (t < P.types.size))) = true)
    (h20 : ((c.ifacesOut == fn.resultTypes.toList.any (P.ifacesRec ·))) = true)
    (h21 : ((c.loopsOut == fn.resultTypes.toList.any (P.loopsFrom ·))) = true)
    (h22 : ((c.plainKeys == P.plainKeys)) = true)
    (h23 : (c.shortTexts.isNone) = true)
    (h24 : (P.stopsHeard) = true)
    (h25 : (P.mayEnter) = true)
    (h26 : ((c.lifted == P.liftsFinal)) = true)
    (h27 : ((P.make == some c.make)) = true)
    (h28 : ((c.kinds == (if c.domain.isEmpty then [] else fn.params.toList.map fun t => match P.underlying t with | some (.int k) => some k | _ => none))) = true)
    (h29 : ((c.pinned == c.pinnedBy)) = true)
    (h30 : ((c.veiled == (fn.params.toList ++ s.plain.varTypes P ++ fn.resultTypes.toList).any (P.veiledRec ·))) = true)
    (h31 : (c.veiledFits P fn.params.toList (fn.params.toList ++ s.plain.varTypes P ++ fn.resultTypes.toList)) = true) : joinedFacts P f fn s c = true := by
  unfold joinedFacts
  exact (and_t (and_t (and_t (and_t (and_t (and_t (and_t (and_t (and_t (and_t (and_t (and_t (and_t (and_t (and_t (and_t (and_t (and_t (and_t (and_t (and_t (and_t (and_t (and_t (and_t (and_t (and_t (and_t (and_t (and_t (and_t h0 h1) h2) h3) h4) h5) h6) h7) h8) h9) h10) h11) h12) h13) h14) h15) h16) h17) h18) h19) h20) h21) h22) h23) h24) h25) h26) h27) h28) h29) h30) h31)
end Go.Abs
