/- The interpreter is sound: what it answers is what a call in the model gives, whatever the tape; arguments without pointers. No premise of its own. -/
import Derived.Test.YtgcifbpdedlfoaaGreatDoorAbs5
import Derived.Below
import Derived.KernelRfl
import Derived.WalkKit
import Derived.OpenShut
import Derived.LaidMore
import Derived.Stop.Joined
import Derived.Carry
import Derived.ChangeMaps5
import Derived.ProofKit
import Derived.Lib.Join
set_option linter.unusedVariables false
set_option linter.unusedSimpArgs false
namespace Go.Abs
open Go.RowKit

variable {P : Program} {σ : Val} {cx : Cx}

structure ProgOK (P : Program) (σ : Val) (cx : Cx) (ms : Tr (Tr (List Nat))) : Prop where
  ok : CxOK P σ cx
  funcs : ∀ g fn, cx.funcs.get g = some fn → P.funcs[g]? = some fn
  fns : ∀ g fn, cx.funcs.get g = some fn → fnOK (cx.plan.get g) (ms.get g) fn = true
  mixed : P.follows .mixedOrders = true
  sums : ∀ g s, cx.sums.get g = some s → SumOK P σ g s

theorem resA_sound (ok : CxOK P σ cx) {tm : Tm} {h : AH} {E : Env} (hσ : E.σ = σ) {B : Nat} {w0 w : World} {a : Act} (ht : TmRel E tm a) (hr : Rel E B w0 h w) {r : ResultVar} {v : AV} (hv : resA cx tm h r = some v) :
    ∃ V, conc E v = some V ∧ (match r with
      | .tmp t => (Pure.pure (a.tmps.getD t undef) : Sem Value)
      | .cell x t => do loadVar t (← asAddr (a.tmps.getD x undef))).run P w = .ok V w := by
  cases r with
  | tmp t =>
    have := ht t
    simp only [resA, Option.some.injEq] at hv
    subst hv; exact ⟨_, this, rfl⟩
  | cell x t =>
    have := ht x
    simp only [resA] at hv
    obtain ⟨V, ad, hX, hV, hrun⟩ := loadA_sound ok hv hσ hr this
    refine ⟨V, hV, ?_⟩
    simp only [hX]
    simpa [asAddr] using hrun

theorem resAs_sound (ok : CxOK P σ cx) {tm : Tm} {h : AH} {E : Env} (hσ : E.σ = σ) {B : Nat} {w0 w : World} {a : Act} (ht : TmRel E tm a) (hr : Rel E B w0 h w) : ∀ {rs : List ResultVar} {vs : List AV}, resAs cx tm h rs = some vs →
    ∃ VS, concs E vs = some VS ∧ (rs.mapM (m := Sem) fun
      | .tmp t => (Pure.pure (a.tmps.getD t undef) : Sem Value)
      | .cell x t => do loadVar t (← asAddr (a.tmps.getD x undef))).run P w = .ok VS w
  | [], vs, h => by simp only [resAs, Option.some.injEq] at h; subst h; exact ⟨[], rfl, rfl⟩
  | r :: rs, vs, hh => by
    simp only [resAs] at hh
    split at hh
    · rename_i v vs' h1 h2
      cases hh
      obtain ⟨V, hV, hrun⟩ := resA_sound ok hσ ht hr h1
      obtain ⟨VS, hVS, hruns⟩ := resAs_sound ok hσ ht hr h2
      refine ⟨V :: VS, concs_mk hV hVS, ?_⟩
      rw [List.mapM_cons]
      simp only [Sem.run_bind]
      rw [hrun]
      simp only [Result.andThen_ok, Sem.run_bind]
      rw [hruns]
      rfl
    · cases hh

theorem tup1_sound {E : Env} {vs : List AV} {VS : List Value} (h : concs E vs = some VS) : conc E (tup1 vs) = some (if h : (⟨VS⟩ : Array Value).size = 1 then (⟨VS⟩ : Array Value)[0] else .tuple ⟨VS⟩) := by
  match vs, VS, h with
  | [], VS, h => simp [concs] at h; subst h; rfl
  | [x], VS, h =>
    obtain ⟨V, l, hV, hl, rfl⟩ := concs_cons h
    simp [concs] at hl; subst hl
    simpa [tup1] using hV
  | x :: y :: l, VS, h =>
    obtain ⟨V, l1, hV, hl, rfl⟩ := concs_cons h
    obtain ⟨V2, l2, hV2, hl2, rfl⟩ := concs_cons hl
    simp [tup1, conc, h]

theorem fin_sound (ok : CxOK P σ cx) {fn : Func} {out : AOut} {v : AV} {h' : AH} (hf : finA cx fn out = some (v, h')) :
    out ≠ .no ∧ (∀ h, out.heap h = h') ∧ ∀ (E : Env) (B : Nat) (w0 : World) (h : AH) (w : World) (nt : Nat) (R : Ending → World → Prop) (e : Exit) (a : Act) (w' : World), E.σ = σ →
      OutOK E B w0 h w nt out e a w' → (∀ E' V, conc E' v = some V → Post E B w0 h w E' h' w' → R (.returned V) w') → bodyPost P fn R e a w' := by
  have key : ∀ (tm : Tm) (hh : AH), (match resAs cx tm hh fn.results.toList with
      | some vs => some (tup1 vs, hh)
      | none => none) = some (v, h') → hh = h' ∧ ∀ (E' : Env) (B : Nat) (w0 : World) (nt : Nat) (a : Act) (w' : World), E'.σ = σ → ActOK E' nt tm a → Rel E' B w0 h' w' →
        a.defers = [] ∧ ∃ V, conc E' v = some V ∧ (results fn a.tmps).run P w' = .ok V w' := by
    intro tm hh hk
    split at hk
    · rename_i vs hvs
      cases hk
      refine ⟨rfl, fun E' B w0 nt a w' hσ ha hr => ⟨ha.defers, ?_⟩⟩
      obtain ⟨VS, hVS, hrun⟩ := resAs_sound ok hσ ha.tm hr hvs
      refine ⟨_, tup1_sound hVS, ?_⟩
      unfold results
      rw [Array.mapM_eq_mapM_toList]
      simp only [bind_pure_comp, Functor.map_map, Sem.run_map]
      refine (congrArg (fun q : Result (List Value) => Result.andThen q _) hrun).trans ?_
      rfl
    · cases hk
  cases out with
  | no => simp [finA] at hf
  | exit id tm hh => simp [finA] at hf
  | norm tm hh =>
    obtain ⟨rfl, hk⟩ := key tm hh hf
    refine ⟨by simp, fun _ => rfl, ?_⟩
    rintro E B w0 h w nt R e a w' hσ ⟨rfl, E', ha, hp⟩ hR
    obtain ⟨hd, V, hV, hrun⟩ := hk E' B w0 nt a w' (hp.ext.2.trans hσ) ha hp.rel
    exact ⟨hd, V, hrun, hR E' V hV hp⟩
  | ret tm hh =>
    obtain ⟨rfl, hk⟩ := key tm hh hf
    refine ⟨by simp, fun _ => rfl, ?_⟩
    rintro E B w0 h w nt R e a w' hσ ⟨rfl, E', ha, hp⟩ hR
    obtain ⟨hd, V, hV, hrun⟩ := hk E' B w0 nt a w' (hp.ext.2.trans hσ) ha hp.rel
    exact ⟨hd, V, hrun, hR E' V hV hp⟩

theorem initTm_get : ∀ (args : List AV) (n : Nat) (tm : Tm) (t : Nat), (initTm n args tm).at t = if n ≤ t ∧ t < n + args.length then (args[t - n]?).getD .undef else tm.at t
  | [], n, tm, t => by simp only [initTm]; rw [if_neg (by simp only [List.length_nil]; omega)]
  | a :: l, n, tm, t => by
    simp only [initTm]
    rw [initTm_get l (n + 1)]
    simp only [List.length_cons, Tm.at_set]
    by_cases h : n + 1 ≤ t ∧ t < n + 1 + l.length
    · rw [if_pos h, if_pos (by omega)]
      have : t - n = (t - (n + 1)) + 1 := by omega
      rw [this, List.getElem?_cons_succ]
    · rw [if_neg h]
      by_cases e : t = n
      · subst e; rw [if_pos rfl, if_pos (by omega)]; simp
      · rw [if_neg e, if_neg (by omega)]
theorem initR_eq : ∀ (args : List AV) (n : Nat) (tm : Tm), initR args n tm = initTm n args tm
  | [], n, tm => rfl
  | a :: l, n, tm => by
    show initR l (n + 1) ((setF n).run a tm) = _
    rw [setF_run, initR_eq l (n + 1)]; rfl

theorem init_act {E : Env} {args : List AV} {A : List Value} (h : concs E args = some A) (nt : Nat) :
    ActOK E nt (initTm 0 args Tm.nil) { tmps := (⟨A⟩ : Array Value) ++ Array.replicate (nt - (⟨A⟩ : Array Value).size) undef, defers := [] } := by
  have hl := concs_length h
  refine ⟨fun t => ?_, by simp; omega, rfl⟩
  rw [initTm_get]
  simp only [Nat.zero_le, true_and, Nat.zero_add, Nat.sub_zero]
  by_cases ht : t < args.length
  · rw [if_pos ht]
    have hx : args[t]? = some (args[t]'ht) := List.getElem?_eq_getElem ht
    obtain ⟨V, hV, hc⟩ := concs_get h t _ hx
    rw [hx, Option.getD_some]
    have hA : t < A.length := by omega
    rw [Array.getD_eq_getD_getElem?, Array.getElem?_append_left (by simpa using hA)]
    simp only [List.getElem?_toArray, hV, Option.getD_some, hc]
  · rw [if_neg ht]
    have : ((⟨A⟩ : Array Value) ++ Array.replicate (nt - (⟨A⟩ : Array Value).size) undef).getD t undef = undef := by
      rw [Array.getD_eq_getD_getElem?, Array.getElem?_append_right (by simp; omega)]
      simp only [Array.getElem?_replicate]
      split <;> rfl
    rw [this]
    rw [Tm.at_nil]; exact conc_undef E

def CodeS (P : Program) (σ : Val) (nt : Nat) (c : Code) (tm : Tm) (h : AH) (out : AOut) : Prop :=
  h.next ≤ (out.heap h).next ∧ ∀ (E : Env) (B : Nat) (w0 w : World) (a : Act), E.σ = σ → ActOK E nt tm a → Rel E B w0 h w → Fresh E h (out.heap h) → ∀ Q : Exit → Act → World → Prop,
    (∀ e a w', OutOK E B w0 h w nt out e a w' → Q e a w') → c.wp P Q a w

theorem region_lines {nt : Nat} {ops : Array Oper} (h : dstsOK nt ops.toList = true) : ∀ (k : Nat) (o : Oper), ops[k]? = some o → ∀ d, o.dst = some d → d < nt :=
  fun k o hk => dstsOK_spec h o (by rw [← Array.getElem?_toList] at hk; exact List.mem_of_getElem? hk)

theorem runReg_sound {ms : Tr (Tr (List Nat))} (hp : ProgOK P σ cx ms) {callf : CallF} (hc : CallOK P σ callf) {g id : Nat} {ops : Array Oper} {draw : Bool} {tm : Tm} {h : AH} {out : AOut} {nt : Nat}
    (hok : codeOK nt (cx.plan.get g) (ms.get g) (.region id ops draw) = true) (hr : runReg cx callf g id ops.toList draw tm h = out) (hno : out ≠ .no) : CodeS P σ nt (.region id ops draw) tm h out := by
  unfold codeOK at hok
  split at hok
  case h_2 => cases hok
  rename_i hd
  unfold runReg at hr
  cases draw with
  | false =>
    simp only at hr
    obtain ⟨h1, h2⟩ := runOps_sound hp.ok hc (nt := nt) ops.toList _ tm h out (Lines.range ops) (dstsOK_spec hd) hr hno
    exact ⟨h1, fun E B w0 w a hσ ha hrel hf Q hQ => wp_region (h2 E B w0 w a hσ ha hrel hf Q hQ)⟩
  | true =>
    simp only at hr hok
    split at hr
    case h_2 => exact absurd hr.symm hno
    rename_i t ht
    split at hr
    case h_2 => exact absurd hr.symm hno
    rename_i pl hpl
    split at hr
    case h_2 => exact absurd hr.symm hno
    rename_i tm' h' sn rd hrun
    split at hr
    case h_2 => exact absurd hr.symm hno
    rename_i hchk
    simp only [planAt, ht, hpl] at hok
    have D := regOK_spec hok
    obtain ⟨h1, h2⟩ := runDraw_sound hp.ok hp.mixed hc D (region_lines hd) hrun hchk
    subst hr
    exact ⟨h1, fun E B w0 w a hσ ha hrel hf Q hQ => h2 E B w0 w a id hσ ha hrel hf Q hQ⟩

theorem CodeS.then {nt : Nat} {c d : Code} {tm : Tm} {h : AH} {tm1 : Tm} {h1 : AH} {out : AOut} (hno : out ≠ .no) (ha : CodeS P σ nt c tm h (.norm tm1 h1)) (hb : CodeS P σ nt d tm1 h1 out) :
    h.next ≤ (out.heap h).next ∧ ∀ (E : Env) (B : Nat) (w0 w : World) (a : Act), E.σ = σ → ActOK E nt tm a → Rel E B w0 h w → Fresh E h (out.heap h) → ∀ Q : Exit → Act → World → Prop,
      (∀ e a w', OutOK E B w0 h w nt out e a w' → Q e a w') → c.wp P (Exit.then (d.wp P Q) Q) a w := by
  have hh : out.heap h1 = out.heap h := by cases out <;> first | rfl | exact absurd rfl hno
  obtain ⟨a1, a2⟩ := ha
  obtain ⟨b1, b2⟩ := hb
  rw [hh] at b1 b2
  simp only [AOut.heap] at a1 a2
  refine ⟨Nat.le_trans a1 b1, fun E B w0 w a hσ hact hrel hf Q hQ => a2 E B w0 w a hσ hact hrel (hf.left b1) _ fun e a' w' ho => ?_⟩
  obtain ⟨rfl, E', hact', hpost⟩ := ho
  exact b2 E' B w0 w' a' (hpost.ext.2.trans hσ) hact' hpost.rel (hf.right hpost) Q fun e a'' w'' ho => hQ e a'' w'' (OutOK.trans hpost ho)

theorem AOut.heap_of {out : AOut} (hno : out ≠ .no) (h h1 : AH) : out.heap h1 = out.heap h := by cases out <;> first | rfl | exact absurd rfl hno

theorem seqK_eq (b : K) (r : AOut) : seqK b r = match r with
    | .norm tm h => b tm h
    | r => r := by cases r <;> rfl
theorem loopK_succ (a : K) (n : Nat) (tm : Tm) (h : AH) : loopK a (n + 1) tm h = seqK (loopK a n) (a tm h) := rfl

theorem seq_sound {nt : Nat} {x y : Code} {rx : AOut} {ry : K} {tm : Tm} {h : AH} {out : AOut} (hx : ∀ out, rx = out → out ≠ .no → CodeS P σ nt x tm h out) (hy : ∀ tm h out, ry tm h = out → out ≠ .no → CodeS P σ nt y tm h out)
    (hr : seqK ry rx = out) (hno : out ≠ .no) : h.next ≤ (out.heap h).next ∧ ∀ (E : Env) (B : Nat) (w0 w : World) (a : Act), E.σ = σ → ActOK E nt tm a → Rel E B w0 h w → Fresh E h (out.heap h) → ∀ Q : Exit → Act → World → Prop,
      (∀ e a w', OutOK E B w0 h w nt out e a w' → Q e a w') → x.wp P (Exit.then (y.wp P Q) Q) a w := by
  rw [seqK_eq] at hr
  split at hr
  · rename_i tm1 h1
    exact (hx _ rfl (by simp)).then hno (hy tm1 h1 out hr hno)
  · rename_i r hne
    subst hr
    obtain ⟨h2, h3⟩ := hx _ rfl hno
    refine ⟨h2, fun E B w0 w a hσ ha hrel hf Q hQ => h3 E B w0 w a hσ ha hrel hf _ fun e a' w' ho => ?_⟩
    cases rx with
    | norm tm1 h1 => exact absurd rfl (hne tm1 h1)
    | no => exact absurd rfl hno
    | exit id tm1 h1 => have := hQ _ _ _ ho; obtain ⟨rfl, _⟩ := ho; exact this
    | ret tm1 h1 => have := hQ _ _ _ ho; obtain ⟨rfl, _⟩ := ho; exact this

/-- the rounds of a loop -/
theorem loop_sound {nt : Nat} {x : Code} {a : K} (hx : ∀ tm h out, a tm h = out → out ≠ .no → CodeS P σ nt x tm h out) : ∀ (n : Nat) (tm : Tm) (h : AH) (out : AOut), loopK a n tm h = out → out ≠ .no →
    h.next ≤ (out.heap h).next ∧ ∀ (E : Env) (B : Nat) (w0 w : World) (a : Act), E.σ = σ → ActOK E nt tm a → Rel E B w0 h w → Fresh E h (out.heap h) → ∀ Q : Exit → Act → World → Prop,
      (∀ e a w', OutOK E B w0 h w nt out e a w' → Q e a w') → Code.rounds P x Q n a w
  | 0, tm, h, out, hr, hno => absurd hr.symm hno
  | n + 1, tm, h, out, hr, hno => by
    rw [loopK_succ, seqK_eq] at hr
    split at hr
    · rename_i tm1 h1 hr1
      obtain ⟨a1, a2⟩ := hx tm h _ hr1 (by simp)
      obtain ⟨b1, b2⟩ := loop_sound hx n tm1 h1 out hr hno
      rw [AOut.heap_of hno h h1] at b1 b2
      simp only [AOut.heap] at a1 a2
      refine ⟨Nat.le_trans a1 b1, fun E B w0 w a hσ hact hrel hf Q hQ => a2 E B w0 w a hσ hact hrel (hf.left b1) _ fun e a' w' ho => ?_⟩
      obtain ⟨rfl, E', hact', hpost⟩ := ho
      exact b2 E' B w0 w' a' (hpost.ext.2.trans hσ) hact' hpost.rel (hf.right hpost) Q fun e a'' w'' ho => hQ e a'' w'' (OutOK.trans hpost ho)
    · rename_i r hne
      obtain ⟨h2, h3⟩ := hx tm h _ hr hno
      refine ⟨h2, fun E B w0 w a hσ ha hrel hf Q hQ => (h3 E B w0 w a hσ ha hrel hf _ fun e a' w' ho => ?_)⟩
      cases out with
      | norm tm1 h1 => exact absurd hr (hne tm1 h1)
      | no => exact absurd rfl hno
      | exit id tm1 h1 => have := hQ _ _ _ ho; obtain ⟨rfl, _⟩ := ho; exact this
      | ret tm1 h1 => have := hQ _ _ _ ho; obtain ⟨rfl, _⟩ := ho; exact this

/-- the code's meaning tells the truth -/
theorem den_sound {ms : Tr (Tr (List Nat))} {q : Kn} (hq : cx.put q = cx) (hp : ProgOK P σ cx ms) {cf : CallF} (hc : CallOK P σ cf) (g : Nat) {nt : Nat} : ∀ (c : Code) (tm : Tm) (h : AH) (out : AOut), codeOK nt (cx.plan.get g) (ms.get g) c = true →
    (den cx g c).run q cf tm h = out → out ≠ .no → CodeS P σ nt c tm h out := by
  intro c
  induction c with
  | skip =>
    intro tm h out hok hr hno
    simp only [den] at hr; subst hr
    exact ⟨Nat.le_refl _, fun E B w0 w a hσ ha hrel hf Q hQ => wp_skip (hQ _ _ _ ⟨rfl, E, ha, Post.refl hrel⟩)⟩
  | label l =>
    intro tm h out hok hr hno
    simp only [den] at hr; subst hr
    exact ⟨Nat.le_refl _, fun E B w0 w a hσ ha hrel hf Q hQ => wp_label (hQ _ _ _ ⟨rfl, E, ha, Post.refl hrel⟩)⟩
  | exit id =>
    intro tm h out hok hr hno
    simp only [den] at hr; subst hr
    exact ⟨Nat.le_refl _, fun E B w0 w a hσ ha hrel hf Q hQ => wp_exit (hQ _ _ _ ⟨rfl, E, ha, Post.refl hrel⟩)⟩
  | ret =>
    intro tm h out hok hr hno
    simp only [den] at hr; subst hr
    exact ⟨Nat.le_refl _, fun E B w0 w a hσ ha hrel hf Q hQ => wp_ret (hQ _ _ _ ⟨rfl, E, ha, Post.refl hrel⟩)⟩
  | region id ops draw =>
    intro tm h out hok hr hno
    refine runReg_sound (g := g) hp hc hok ?_ hno
    cases draw with
    | false =>
      simp only [den] at hr
      simp only [runReg]
      rw [← runX_eq hq]; exact hr
    | true =>
      simp only [den] at hr
      unfold runReg
      cases hg : cx.plan.get g with
      | none => rw [hg] at hr; exact absurd hr.symm hno
      | some t =>
        rw [hg] at hr
        simp only at hr ⊢
        cases hid : t.get id with
        | none => rw [hid] at hr; exact absurd hr.symm hno
        | some pl =>
          rw [hid] at hr
          obtain ⟨d, h1, h2, h3⟩ := runD_ok hq hno ops.toList 0 ops.toList.length pl tm h .nil [] (by simp) hr
          simp only [h1, h2, h3]
  | seq x y ihx ihy =>
    intro tm h out hok hr hno
    simp only [codeOK] at hok
    split at hok
    case h_2 => cases hok
    rename_i hx
    simp only [den] at hr
    obtain ⟨h2, h3⟩ := seq_sound (fun out hr hno => ihx tm h out hx hr hno) (fun tm h out hr hno => ihy tm h out hok hr hno) hr hno
    exact ⟨h2, fun E B w0 w a hσ ha hrel hf Q hQ => wp_seq (h3 E B w0 w a hσ ha hrel hf Q hQ)⟩
  | cond x y z ihy ihz =>
    intro tm h out hok hr hno
    simp only [codeOK] at hok
    split at hok
    case h_2 => cases hok
    rename_i hy
    simp only [den] at hr
    split at hr
    · rename_i f hf
      have hx := opF_some hf tm
      have hr' : condK ((den cx g y).run q cf) ((den cx g z).run q cf) tm h (f.run tm) = out := hr
      cases hv : f.run tm <;> rw [hv] at hr' <;> first | exact absurd hr'.symm hno | skip
      rename_i b
      rw [hv] at hx
      cases b with
      | true =>
        obtain ⟨h2, h3⟩ := ihy tm h out hy hr' hno
        refine ⟨h2, fun E B w0 w a hσ ha hrel hf Q hQ => wp_cond_true ?_ (h3 E B w0 w a hσ ha hrel hf Q hQ)⟩
        have := opnd_sound ha.tm hx
        simpa [conc] using this.symm
      | false =>
        obtain ⟨h2, h3⟩ := ihz tm h out hok hr' hno
        refine ⟨h2, fun E B w0 w a hσ ha hrel hf Q hQ => wp_cond_false ?_ (h3 E B w0 w a hσ ha hrel hf Q hQ)⟩
        have := opnd_sound ha.tm hx
        simpa [conc] using this.symm
    · exact absurd hr.symm hno
  | block id x ih =>
    intro tm h out hok hr hno
    simp only [codeOK] at hok
    simp only [den] at hr
    have hr' : blockK id ((den cx g x).run q cf tm h) = out := hr
    cases hr1 : (den cx g x).run q cf tm h with
    | no => rw [hr1] at hr'; exact absurd hr'.symm hno
    | exit j tm1 h1 =>
      rw [hr1] at hr'
      have hr2 : (@Bool.rec (fun _ => AOut) (.exit j tm1 h1) (.norm tm1 h1) (Nat.beq j id)) = out := hr'
      obtain ⟨h2, h3⟩ := ih tm h _ hok hr1 (by simp)
      rw [natBeq_eq] at hr2
      by_cases hj : j = id
      · subst hj
        rw [decide_eq_true rfl] at hr2
        subst hr2
        refine ⟨h2, fun E B w0 w a hσ ha hrel hf Q hQ => wp_block (h3 E B w0 w a hσ ha hrel hf _ fun e a' w' ho => ?_)⟩
        obtain ⟨rfl, ho⟩ := ho
        simp only [Exit.inBlock, if_true]
        exact hQ _ _ _ ⟨rfl, ho⟩
      · rw [decide_eq_false hj] at hr2
        subst hr2
        refine ⟨h2, fun E B w0 w a hσ ha hrel hf Q hQ => wp_block (h3 E B w0 w a hσ ha hrel hf _ fun e a' w' ho => ?_)⟩
        obtain ⟨rfl, ho⟩ := ho
        simp only [Exit.inBlock, hj, if_false]
        exact hQ _ _ _ ⟨rfl, ho⟩
    | norm tm1 h1 =>
      rw [hr1] at hr'
      have hr2 : AOut.norm tm1 h1 = out := hr'
      subst hr2
      obtain ⟨h2, h3⟩ := ih tm h _ hok hr1 (by simp)
      refine ⟨h2, fun E B w0 w a hσ ha hrel hf Q hQ => wp_block (h3 E B w0 w a hσ ha hrel hf _ fun e a' w' ho => ?_)⟩
      have := hQ _ _ _ ho; obtain ⟨rfl, _⟩ := ho; exact this
    | ret tm1 h1 =>
      rw [hr1] at hr'
      have hr2 : AOut.ret tm1 h1 = out := hr'
      subst hr2
      obtain ⟨h2, h3⟩ := ih tm h _ hok hr1 (by simp)
      refine ⟨h2, fun E B w0 w a hσ ha hrel hf Q hQ => wp_block (h3 E B w0 w a hσ ha hrel hf _ fun e a' w' ho => ?_)⟩
      have := hQ _ _ _ ho; obtain ⟨rfl, _⟩ := ho; exact this
  | loop x ih =>
    intro tm h out hok hr hno
    simp only [codeOK] at hok
    simp only [den] at hr
    obtain ⟨h2, h3⟩ := loop_sound (x := x) (fun tm h out hr hno => ih tm h out hok hr hno) 100000 tm h out hr hno
    exact ⟨h2, fun E B w0 w a hσ ha hrel hf Q hQ => wp_loop_rounds 100000 (h3 E B w0 w a hσ ha hrel hf Q hQ)⟩
  | scope x ih =>
    intro tm h out hok hr hno
    simp only [codeOK] at hok
    simp only [den] at hr
    obtain ⟨h2, h3⟩ := ih tm h out hok hr hno
    refine ⟨h2, fun E B w0 w a hσ ha hrel hf Q hQ => wp_scope_straight (h3 E B w0 w a hσ ha hrel hf _ fun e a' w' ho => ?_)⟩
    have hq := hQ _ _ _ ho
    cases out with
    | no => exact absurd rfl hno
    | norm tm1 h1 => obtain ⟨rfl, _⟩ := ho; exact hq
    | exit id tm1 h1 => obtain ⟨rfl, _⟩ := ho; exact hq
    | ret tm1 h1 => obtain ⟨rfl, _⟩ := ho; exact hq
  | rangeFunc => intro tm h out hok hr hno; simp only [den] at hr; exact absurd hr.symm hno
  | goto => intro tm h out hok hr hno; simp only [den] at hr; exact absurd hr.symm hno
  | refuse => intro tm h out hok hr hno; simp only [den] at hr; exact absurd hr.symm hno

theorem res1_eq (r : ResultVar) (tm : Tm) (h : AH) {v : AV} (hv : (res1 cx r).run tm h = some v) : resA cx tm h r = some v := by
  cases r with
  | tmp t =>
    have : some ((getF t).run tm) = some v := hv
    rw [getF_run] at this
    simpa [resA] using this
  | cell a t =>
    simp only [res1] at hv
    simp only [resA]
    split at hv
    · rename_i ty ht
      split at hv
      · rename_i ha; rw [← loadNO_eq ht ha, ← getF_run]; exact hv
      · rename_i ha; rw [← load1O_eq ht ha, ← getF_run]; exact hv
    · cases hv
theorem resAll_eq (tm : Tm) (h : AH) : ∀ (rs : List ResultVar) (vs : List AV), resAll (rs.map (res1 cx)) tm h = some vs → resAs cx tm h rs = some vs
  | [], vs, hv => hv
  | r :: rs, vs, hv => by
    have hv' : (@Option.rec AV (fun _ => Option (List AV)) none (fun v => @Option.rec (List AV) (fun _ => Option (List AV)) none (fun vs => some (v :: vs)) (resAll (rs.map (res1 cx)) tm h)) ((res1 cx r).run tm h)) = some vs := hv
    simp only [resAs]
    cases h1 : (res1 cx r).run tm h with
    | none => rw [h1] at hv'; cases hv'
    | some v =>
      rw [h1] at hv'
      have hv2 : (@Option.rec (List AV) (fun _ => Option (List AV)) none (fun vs => some (v :: vs)) (resAll (rs.map (res1 cx)) tm h)) = some vs := hv'
      rw [res1_eq r tm h h1]
      cases h2 : resAll (rs.map (res1 cx)) tm h with
      | none => rw [h2] at hv2; cases hv2
      | some us =>
        rw [h2] at hv2
        rw [resAll_eq tm h rs us h2]
        exact hv2
theorem resF_eq (tm : Tm) (h : AH) (rs : List ResultVar) {v : AV} {h' : AH} (hv : (resF cx rs).run tm h = some (v, h')) : h' = h ∧ ∃ vs, resAs cx tm h rs = some vs ∧ tup1 vs = v := by
  match rs, hv with
  | [r], hv =>
    have hv' : (@Option.rec AV (fun _ => Option (AV × AH)) none (fun v => some (v, h)) ((res1 cx r).run tm h)) = some (v, h') := hv
    cases h1 : (res1 cx r).run tm h with
    | none => rw [h1] at hv'; cases hv'
    | some u =>
      rw [h1] at hv'
      cases hv'
      exact ⟨rfl, [v], by simp only [resAs, res1_eq r tm h h1], rfl⟩
  | [], hv =>
    have hv' : some (AV.tup [], h) = some (v, h') := hv
    cases hv'
    exact ⟨rfl, [], rfl, rfl⟩
  | r :: r2 :: rs, hv =>
    have hv' : (@Option.rec (List AV) (fun _ => Option (AV × AH)) none (fun vs => some (AV.tup vs, h)) (resAll ((r :: r2 :: rs).map (res1 cx)) tm h)) = some (v, h') := hv
    cases h1 : resAll ((r :: r2 :: rs).map (res1 cx)) tm h with
    | none => rw [h1] at hv'; cases hv'
    | some us =>
      rw [h1] at hv'
      cases hv'
      have := resAll_eq tm h _ us h1
      refine ⟨rfl, us, this, ?_⟩
      simp only [resAs] at this
      split at this
      · rename_i a b _ hb
        split at hb
        · cases hb; cases this; rfl
        · cases hb
      · cases this
theorem finK_eq (fn : Func) {o : AOut} {v : AV} {h' : AH} (hv : finK (resF cx fn.results.toList).run o = some (v, h')) : finA cx fn o = some (v, h') := by
  cases o with
  | no => cases hv
  | exit id tm h => cases hv
  | norm tm h =>
    obtain ⟨rfl, vs, h1, h2⟩ := resF_eq tm h _ hv
    simp only [finA, h1, h2]
  | ret tm h =>
    obtain ⟨rfl, vs, h1, h2⟩ := resF_eq tm h _ hv
    simp only [finA, h1, h2]

/-- a function's body gives what the call gives -/
theorem fn_sound {ms : Tr (Tr (List Nat))} {q : Kn} (hq : cx.put q = cx) (hp : ProgOK P σ cx ms) {cf : CallF} (hc : CallOK P σ cf) {g : Nat} {args : List AV} {h : AH} {v : AV} {h' : AH} (hr : (fnX cx g).run q cf args h = some (v, h')) :
    h.next ≤ h'.next ∧ ∀ (E : Env) (B : Nat) (w0 w : World) (A : List Value), E.σ = σ → concs E args = some A → Rel E B w0 h w → Fresh E h h' →
      (callFunc g ⟨A⟩).run P w = .ok (.enter g ⟨A⟩) w ∧ Calls P g ⟨A⟩ w fun e w' => ∃ V, e = .returned V ∧ ∃ E', conc E' v = some V ∧ Post E B w0 h w E' h' w' := by
  unfold fnX at hr
  split at hr
  case h_2 => cases hr
  rename_i fn hg
  split at hr
  case h_2 => cases hr
  rename_i c hb
  have hr' := finK_eq fn hr
  rw [initR_eq] at hr'
  have hfn := hp.fns g fn hg
  have hP := hp.funcs g fn hg
  simp only [fnOK, hb] at hfn
  split at hfn
  case h_2 => cases hfn
  rename_i hname
  obtain ⟨f1, f2, f3⟩ := fin_sound (P := P) hp.ok hr'
  obtain ⟨n1, n2⟩ := den_sound hq hp hc g c _ h _ hfn rfl f1
  rw [f2] at n1 n2
  refine ⟨n1, fun E B w0 w A hσ hA hrel hfr => ⟨?_, ?_⟩⟩
  · unfold callFunc
    simp only [Sem.run_bind, run_program, Result.andThen_ok, hP, hname, Bool.false_eq_true, if_false, hb, Option.isNone_some]
    rfl
  · refine calls_of_wp hP hb (n2 E B w0 w _ hσ (init_act hA fn.ntmps) hrel hfr _ fun e a w' ho => ?_)
    exact f3 E B w0 h w _ _ e a w' hσ ho fun E' V hV hpost => ⟨V, rfl, E', hV, hpost⟩

theorem callN_succ (q : Kn) (n g : Nat) (as : List AV) (h : AH) : callN cx q (n + 1) g as h = match cx.sums.get g with
    | some s => s as h
    | none => (fnX cx g).run q (callN cx q n) as h := by
  show @Option.rec Sum (fun _ => Option (AV × AH)) _ _ (cx.sums.get g) = _
  cases cx.sums.get g <;> rfl

theorem callN_ok {ms : Tr (Tr (List Nat))} {q : Kn} (hq : cx.put q = cx) (hp : ProgOK P σ cx ms) : ∀ n, CallOK P σ (callN cx q n)
  | 0 => fun g args h v h' hc => by cases hc
  | n + 1 => fun g args h v h' hc => by
    rw [callN_succ] at hc
    split at hc
    · rename_i s hs; exact hp.sums g s hs args h v h' hc
    · obtain ⟨h1, h2⟩ := fn_sound hq hp (callN_ok hq hp n) hc
      exact ⟨h1, fun E B w0 w A hσ hA hrel hfr => .inl (h2 E B w0 w A hσ hA hrel hfr)⟩
section put
variable (z : Kn)
theorem anyX_put (o : Op) (s : SF) : anyX (cx.put z) o s = anyX cx o s := rfl
theorem binX_put (op : BinOp) (t : Nat) (x y : VF) (s : SF) : binX (cx.put z) op t x y s = binX cx op t x y s := by cases op <;> rfl
theorem opX_put (o : Op) (s : SF) : opX (cx.put z) o s = opX cx o s := by
  cases o <;> first | rfl | skip
theorem lineX_put (all : List Oper) (o : Oper) : lineX (cx.put z) all o = lineX cx all o := by unfold lineX; rw [opX_put]
theorem linesX_put (all : List Oper) : ∀ os, linesX (cx.put z) all os = linesX cx all os
  | [] => rfl
  | o :: os => by simp only [linesX, lineX_put, linesX_put all os]
theorem readF_put (o : Op) : readF (cx.put z) o = readF cx o := by cases o <;> rfl
theorem chkR_put (q : Kn) (sn : Tr AH) (r : Read) (ps : List Nat) : chkR (cx.put z) q sn r ps = chkR cx q sn r ps := by unfold chkR; rw [readF_put]
theorem chksR_put (q : Kn) (sn : Tr AH) (rs : List Read) : chksR (cx.put z) q sn rs = chksR cx q sn rs := by
  unfold chksR; simp only [chkR_put]
theorem drawL_put (all : List Oper) (k : Nat) (o : Oper) (ps : List Nat) : drawL (cx.put z) all k o ps = drawL cx all k o ps := by unfold drawL; rw [opX_put]
theorem drawsX_put (all : List Oper) : ∀ (os : List Oper) (k : Nat) (pl : List (List Nat)), drawsX (cx.put z) all k os pl = drawsX cx all k os pl
  | [], _, _ => rfl
  | o :: os, k, pl => by simp only [drawsX, drawL_put, drawsX_put all os]
theorem runD_put (q : Kn) (n : Nat) (cf : CallF) (xs : List DX) : runD (cx.put z) q n cf xs = runD cx q n cf xs := by unfold runD; simp only [chksR_put]
theorem den_put (g : Nat) : ∀ c, den (cx.put z) g c = den cx g c := by
  intro c
  induction c with
  | region id ops draw =>
    cases draw with
    | false => simp only [den, regX, linesX_put]
    | true => simp only [den, runD_put, drawsL, drawsX_put]; rfl
  | seq a b iha ihb => simp only [den, iha, ihb]
  | cond x a b iha ihb => simp only [den, iha, ihb]
  | block id a ih => simp only [den, ih]
  | loop a ih => simp only [den, ih]
  | scope a ih => simp only [den, ih]
  | _ => simp only [den]
theorem fnX_put (g : Nat) : fnX (cx.put z) g = fnX cx g := by
  unfold fnX
  simp only [den_put]
  rfl
theorem callN_put (q : Kn) : ∀ n, callN (cx.put z) q n = callN cx q n
  | 0 => rfl
  | n + 1 => by
    funext g as h
    rw [callN_succ, callN_succ, fnX_put, callN_put q n]; rfl
theorem goT_put (q : Kn) (n g : Nat) (args : List AV) (h : AH) : goT (cx.put z) q n g args h = goT cx q n g args h := by
  unfold goT; rw [fnX_put, callN_put]
end put
/-- what is run, with what is known -/
theorem goT_sound {ms : Tr (Tr (List Nat))} {q : Kn} (hp : ProgOK P σ (cx.put q) ms) {n g : Nat} {args : List AV} {h : AH} {v : AV} {h' : AH} (hr : goT cx q n g args h = some (v, h')) :
    h.next ≤ h'.next ∧ ∀ (E : Env) (B : Nat) (w0 w : World) (A : List Value), E.σ = σ → concs E args = some A → Rel E B w0 h w → Fresh E h h' →
      (callFunc g ⟨A⟩).run P w = .ok (.enter g ⟨A⟩) w ∧ Calls P g ⟨A⟩ w fun e w' => ∃ V, e = .returned V ∧ ∃ E', conc E' v = some V ∧ Post E B w0 h w E' h' w' :=
  fn_sound (cx := cx.put q) (q := q) rfl hp (callN_ok rfl hp n) ((goT_put q q n g args h).trans hr)
end Go.Abs

namespace Go.Abs
open Go.RowKit

variable {P : Program} {σ : Val} {cx : Cx}

theorem ttGo_get (P : Program) : ∀ (l : List TypeInfo) (n : Nat) (t : Tr TyI) (m : Nat), (ttGo P n l t).get m = if n ≤ m ∧ m < n + l.length then tyI P m else t.get m
  | [], n, t, m => by simp only [ttGo]; rw [if_neg (by simp only [List.length_nil]; omega)]
  | a :: l, n, t, m => by
    simp only [ttGo]
    rw [ttGo_get P l (n + 1)]
    simp only [List.length_cons, Tr.get_setG]
    by_cases h : n + 1 ≤ m ∧ m < n + 1 + l.length
    · rw [if_pos h, if_pos (by omega)]
    · rw [if_neg h]
      by_cases e : m = n
      · subst e; rw [if_pos rfl, if_pos (by omega)]
      · rw [if_neg e, if_neg (by omega)]

theorem ttOf_ok (P : Program) : ∀ t i, (ttOf P).get t = some i → tyI P t = some i := by
  intro t i h
  unfold ttOf at h
  rw [ttGo_get] at h
  split at h
  · exact h
  · simp at h

/-- what the kernel is asked of a program once -/
structure Asked (P : Program) (pl : Tr (Tr (List (List Nat)))) (ms : Tr (Tr (List Nat))) : Prop where
  fns : fnsOK pl ms 0 P.funcs.toList = true
  mixed : P.follows .mixedOrders = true

theorem progOK_of {pl : Tr (Tr (List (List Nat)))} {ms : Tr (Tr (List Nat))} (a : Asked P pl ms) (h1 : cx.tt = ttOf P) (h2 : cx.funcs = trOf 0 P.funcs.toList .nil) (h3 : cx.plan = pl)
    (hf : ∀ f ∈ cx.facts, FactOK P σ f) (hc : ∀ f ∈ cx.convs, FConvOK σ f) (hb : ∀ s, cx.bytes.get s = some true → 0 ≤ σ.num s ∧ σ.num s < 256)
    (hgl : ∀ g cs, cx.globs.get g = some cs → cs.all AV.atom = true ∧ ∃ vs, (∀ E : Env, E.σ = σ → concs E cs = some vs) ∧ ∀ (j : Nat) (v : Value), vs[j]? = some v → σ.glob g j = some v) (hs : ∀ g s, cx.sums.get g = some s → SumOK P σ g s) : ProgOK P σ cx ms := by
  have hg : ∀ g fn, cx.funcs.get g = some fn → P.funcs.toList[g]? = some fn := by
    intro g fn h
    rw [h2, trOf_get] at h
    split at h
    · simpa using h
    · simp at h
  refine ⟨⟨by rw [h1]; exact ttOf_ok P, hf, hc, hb, hgl⟩, fun g fn h => ?_, fun g fn h => ?_, a.mixed, hs⟩
  · rw [← Array.getElem?_toList]; exact hg g fn h
  · rw [h3]
    have := fnsOK_spec a.fns g fn (hg g fn h)
    simpa using this

noncomputable def cxW (P : Program) (pl : Tr (Tr (List (List Nat)))) (globs : Tr (List AV)) (sums : Tr Sum) : Cx :=
  { tt := ttOf P, funcs := trOf 0 P.funcs.toList .nil, facts := [], convs := [], sums := sums, globs := globs, bytes := .nil, plan := pl }

theorem progOK_W {pl : Tr (Tr (List (List Nat)))} {ms : Tr (Tr (List Nat))} {globs : Tr (List AV)} {sums : Tr Sum} {q : Kn} (a : Asked P pl ms)
    (hf : ∀ f ∈ q.facts, FactOK P σ f) (hc : ∀ f ∈ q.convs, FConvOK σ f) (hb : ∀ s, q.bytes.get s = some true → 0 ≤ σ.num s ∧ σ.num s < 256)
    (hgl : ∀ g cs, globs.get g = some cs → cs.all AV.atom = true ∧ ∃ vs, (∀ E : Env, E.σ = σ → concs E cs = some vs) ∧ ∀ (j : Nat) (v : Value), vs[j]? = some v → σ.glob g j = some v)
    (hs : ∀ g s, sums.get g = some s → SumOK P σ g s) : ProgOK P σ ((cxW P pl globs sums).put q) ms :=
  progOK_of (cx := (cxW P pl globs sums).put q) a rfl rfl rfl hf hc hb hgl hs

def noEnv (σ : Val) : Env := ⟨fun _ => none, σ⟩
theorem rel_none {σ : Val} {w : World} (hg : ∀ g j v, σ.glob g j = some v → g < w.heap.size ∧ w.cell? ⟨g, j, none⟩ = some v) (m : Nat) : Rel (noEnv σ) w.heap.size w ⟨.nil, m⟩ w :=
  { objs := fun i o p hi => (by rw [get_nil] at hi; cases hi), inj := fun i j o o' p q hi => (by rw [get_nil] at hi; cases hi), below := Below.refl _ _, base := Nat.le_refl _, ok := fun i _ => get_nil m i, glob := hg }

theorem isTrue_inv {x : Option (AV × AH)} (h : isTrueR x = true) : ∃ h', x = some (.bool true, h') := by
  cases x with
  | none => cases h
  | some p =>
    obtain ⟨v, h'⟩ := p
    cases v <;> first | (cases h; done) | skip
    rename_i b
    have hb : b = true := h
    subst hb; exact ⟨h', rfl⟩

/-- a law whose arguments hold no memory -/
theorem law_of_run {ms : Tr (Tr (List Nat))} {q : Kn} (hp : ProgOK P σ (cx.put q) ms) {fuel g : Nat} {args : List AV} {A : List Value} (hA : concs (noEnv σ) args = some A)
    (hr : isTrueR (goT cx q fuel g args ⟨.nil, 0⟩) = true) (w : World) (hg : ∀ g j v, σ.glob g j = some v → g < w.heap.size ∧ w.cell? ⟨g, j, none⟩ = some v) : Calls P g ⟨A⟩ w fun e w' => e = .returned (.bool true) ∧ Below w.heap.size w w' := by
  obtain ⟨h', hr⟩ := isTrue_inv hr
  obtain ⟨_, h2⟩ := goT_sound hp hr
  refine Calls.mono (h2 (noEnv σ) w.heap.size w w A rfl hA (rel_none hg 0) (fun _ _ _ => rfl)).2 fun e w' hh => ?_
  obtain ⟨V, rfl, E', hV, hpost⟩ := hh
  simp only [conc, Option.some.injEq] at hV
  subst hV
  exact ⟨rfl, hpost.rel.below⟩

/-- several runs -/
noncomputable def runAll (cx : Cx) (n g : Nat) (l : List (Kn × List AV)) : Bool :=
  List.rec (motive := fun _ => Bool) true (fun p _ ih => Bool.rec (motive := fun _ => Bool) false ih (isTrueR (goT cx p.1 n g p.2 ⟨.nil, 0⟩))) l
theorem runAll_get {n g : Nat} : ∀ {l : List (Kn × List AV)}, runAll cx n g l = true → ∀ (i : Nat) {p : Kn × List AV}, l[i]? = some p → isTrueR (goT cx p.1 n g p.2 ⟨.nil, 0⟩) = true
  | [], _, i, p, hp => by simp at hp
  | p :: l, h, i, r, hp => by
    have h' : (@Bool.rec (fun _ => Bool) false (runAll cx n g l) (isTrueR (goT cx p.1 n g p.2 ⟨.nil, 0⟩))) = true := h
    cases hr : isTrueR (goT cx p.1 n g p.2 ⟨.nil, 0⟩) with
    | false => rw [hr] at h'; cases h'
    | true =>
      rw [hr] at h'
      cases i with
      | zero => simp at hp; subst hp; exact hr
      | succ i => exact runAll_get h' i (by simpa using hp)

/-! ## calls that touch no memory of the caller's -/
mutual
def plain : AV → Bool
  | .bool _ | .int _ _ | .sym _ _ | .str _ | .nilp | .nils | .nilm | .nilf | .nili => true
  | .agg cs => plains cs
  | .tup cs => plains cs
  | _ => false
def plains : List AV → Bool
  | [] => true
  | v :: vs => match plain v with
    | true => plains vs
    | false => false
end

mutual
theorem conc_plain {E E' : Env} (hσ : E.σ = E'.σ) : ∀ (x : AV), plain x = true → conc E x = conc E' x
  | .bool _, _ | .int _ _, _ | .str _, _ | .nilp, _ | .nils, _ | .nilm, _ | .nilf, _ | .nili, _ => rfl
  | .sym _ _, _ => by simp only [conc, hσ]
  | .agg cs, h => by simp only [plain] at h; simp only [conc, concs_plain hσ cs h]
  | .tup cs, h => by simp only [plain] at h; simp only [conc, concs_plain hσ cs h]
  | .ptr _ _, h | .slice _ _ _ _ _, h | .tail _ _ _ _ _, h | .map _, h | .fn _ _ _, h | .iface _ _, h => by simp [plain] at h
theorem concs_plain {E E' : Env} (hσ : E.σ = E'.σ) : ∀ (xs : List AV), plains xs = true → concs E xs = concs E' xs
  | [], _ => rfl
  | x :: xs, h => by
    simp only [plains] at h
    split at h
    · rename_i hx
      simp only [concs, conc_plain hσ x hx, concs_plain hσ xs h]
    · cases h
end

theorem Post.kept {E : Env} {B : Nat} {w0 : World} {h : AH} {w w' : World} (hr : Rel E B w0 h w) (hb : Below w.heap.size w w') : Post E B w0 h w E h w' := by
  refine { Post.refl hr with rel := ?_, frame := fun b hb' _ => hb.block b hb', grow := hb.size }
  refine ⟨fun i o p hi hp => objRel_block (hr.objs i o p hi hp) (hb.block _ ?_), hr.inj, ⟨hb.os.trans hr.below.os, hb.tape.trans hr.below.tape, hb.output.trans hr.below.output, Nat.le_trans hr.below.size hb.size, fun k hk => ?_⟩, hr.base, hr.ok, hr.glob⟩
  · by_cases hw : o.rw = true
    · exact objRel_lt (hr.objs i o p hi hp) hw
    · have h1 := hr.objs i o p hi hp
      cases o with
      | cells cs ro es =>
        have hro : ro = true := by simpa [AO.rw] using hw
        obtain ⟨_, vs, _, h3, _⟩ := h1
        exact Nat.lt_of_lt_of_le (h3 hro).1 (Nat.le_trans hr.base hr.below.size)
      | map es c => simp [AO.rw] at hw
      | iter m since last seen pre => simp [AO.rw] at hw
  · rw [hb.block k (Nat.lt_of_lt_of_le hk (Nat.le_trans hr.base hr.below.size)), hr.below.block k hk]

/-- a call at these arguments gives this, and no more -/
def sumAt (args : List AV) (v : AV) : Sum := fun as h => match avsEq as args with
  | true => some (v, h)
  | false => none

theorem globHere {E : Env} {B : Nat} {w0 w : World} {h : AH} (hσ : E.σ = σ) (hr : Rel E B w0 h w) : ∀ g j v, σ.glob g j = some v → g < w.heap.size ∧ w.cell? ⟨g, j, none⟩ = some v := by
  intro g j v hg
  rw [← hσ] at hg
  obtain ⟨h1, h2⟩ := hr.glob g j v hg
  exact ⟨Nat.lt_of_lt_of_le h1 (Nat.le_trans hr.base hr.below.size), by rw [hr.below.cell h1]; exact h2⟩

theorem sum_pure {ms : Tr (Tr (List Nat))} {q : Kn} (hp : ProgOK P σ (cx.put q) ms) {fuel g : Nat} {args : List AV} {v : AV} {h' : AH} (ha : plains args = true) (hv : plain v = true)
    (hr : goT cx q fuel g args ⟨.nil, 0⟩ = some (v, h')) : SumOK P σ g (sumAt args v) := by
  intro as h u h1 hs
  unfold sumAt at hs
  split at hs
  case h_2 => cases hs
  rename_i heq
  cases hs
  have := avsEq_eq _ _ heq; subst this
  refine ⟨Nat.le_refl _, fun E B w0 w A hσ hA hrel _ => .inl ?_⟩
  have hA' : concs (noEnv σ) as = some A := by rw [← hA]; exact concs_plain hσ.symm as ha
  obtain ⟨h2, h3⟩ := (goT_sound hp hr).2 (noEnv σ) w.heap.size w w A rfl hA' (rel_none (globHere hσ hrel) 0) (fun _ _ _ => rfl)
  refine ⟨h2, Calls.mono h3 fun e w' hh => ?_⟩
  obtain ⟨V, rfl, E', hV, hpost⟩ := hh
  refine ⟨V, rfl, E, ?_, Post.kept hrel hpost.rel.below⟩
  rw [conc_plain (E := E) (E' := E') (hσ.trans hpost.ext.2.symm) v hv]; exact hV

theorem isV_inv {x : Option (AV × AH)} {v : AV} (h : isVR x v = true) : ∃ h', x = some (v, h') := by
  cases x with
  | none => cases h
  | some p =>
    obtain ⟨u, h'⟩ := p
    have h2 : avEqR u v = true := h
    exact ⟨h', by rw [avEq_eq _ _ (avEqR_ok _ _ h2)]⟩
theorem sum_run {ms : Tr (Tr (List Nat))} {q : Kn} (hp : ProgOK P σ (cx.put q) ms) {fuel g : Nat} {args : List AV} {v : AV} (ha : plains args = true) (hv : plain v = true)
    (hr : isVR (goT cx q fuel g args ⟨.nil, 0⟩) v = true) : SumOK P σ g (sumAt args v) := by
  obtain ⟨h', h⟩ := isV_inv hr
  exact sum_pure hp ha hv h

/-- one summary -/
noncomputable def oneSum (g : Nat) (s : Sum) : Tr Sum := (Tr.nil : Tr Sum).set g s
theorem oneSum_ok {g : Nat} {s : Sum} (h : SumOK P σ g s) : ∀ g' s', (oneSum g s).get g' = some s' → SumOK P σ g' s' := by
  intro g' s' hh
  unfold oneSum at hh
  rw [Tr.get_set] at hh
  split at hh
  · rename_i e; cases hh; subst e; exact h
  · simp at hh

theorem setSum_ok {t : Tr Sum} {g0 : Nat} {s0 : Sum} (h : ∀ g s, t.get g = some s → SumOK P σ g s) (h0 : SumOK P σ g0 s0) : ∀ g s, (t.set g0 s0).get g = some s → SumOK P σ g s := by
  intro g s hh
  rw [Tr.get_set] at hh
  split at hh
  · rename_i e; cases hh; subst e; exact h0
  · exact h g s hh

/-! ## facts -/
theorem fact_int {k : IntKind} {op : BinOp} {x y r : AV} {a b : Int} (hx : ∀ E : Env, E.σ = σ → conc E x = some (.int k a)) (hy : ∀ E : Env, E.σ = σ → conc E y = some (.int k b))
    (hr : ∀ E : Env, E.σ = σ → ∃ R, conc E r = some R ∧ ∀ w t, (binOp op t (.int k a) (.int k b)).run P w = .ok R w) : FactOK P σ ⟨op, x, y, r⟩ := by
  intro E hE X Y hX hY
  rw [hx E hE] at hX; cases hX
  rw [hy E hE] at hY; cases hY
  exact hr E hE

theorem fact_eql {k : IntKind} {s t : Nat} {b : Bool} (h : (σ.num s == σ.num t) = b) : FactOK P σ ⟨.eql, .sym k s, .sym k t, .bool b⟩ :=
  fact_int (k := k) (a := σ.num s) (b := σ.num t) (fun E hE => by simp [conc, hE]) (fun E hE => by simp [conc, hE]) fun E hE => by
    have hb : binI .eql k (σ.num s) (σ.num t) = some (.bool b) := by simp only [binI]; rw [intEq_eq, h]
    exact binI_sound hb E
theorem fact_of {k : IntKind} {op : BinOp} {x y r : AV} {a b : Int} (hx : ∀ E : Env, E.σ = σ → conc E x = some (.int k a)) (hy : ∀ E : Env, E.σ = σ → conc E y = some (.int k b))
    (h : binI op k a b = some r) : FactOK P σ ⟨op, x, y, r⟩ :=
  fact_int hx hy fun E _ => binI_sound h E
def cmpI (op : BinOp) (a b : Int) : Bool := match op with
  | .eql => intEq a b
  | .neq => !intEq a b
  | .lss => intLt a b
  | .leq => !intLt b a
  | .gtr => intLt b a
  | .geq => !intLt a b
  | _ => false
def sval (σ : Val) : AV → Option (IntKind × Int)
  | .int k n => some (k, n)
  | .sym k s => some (k, σ.num s)
  | _ => none
theorem sval_conc {x : AV} {k : IntKind} {n : Int} (h : sval σ x = some (k, n)) (E : Env) (hE : E.σ = σ) : conc E x = some (.int k n) := by
  cases x <;> simp only [sval, Option.some.injEq, Prod.mk.injEq, reduceCtorEq] at h
  · obtain ⟨rfl, rfl⟩ := h; rfl
  · obtain ⟨rfl, rfl⟩ := h; simp [conc, hE]
theorem fact_val {op : BinOp} {x y r : AV} {k : IntKind} {a b : Int} (hx : sval σ x = some (k, a)) (hy : sval σ y = some (k, b)) (h : ∃ r', binI op k a b = some r' ∧ ∀ E : Env, E.σ = σ → conc E r = conc E r') : FactOK P σ ⟨op, x, y, r⟩ :=
  fact_int (sval_conc hx) (sval_conc hy) fun E hE => by
    obtain ⟨r', hr, he⟩ := h
    obtain ⟨R, hR, hrun⟩ := binI_sound (P := P) hr E
    exact ⟨R, by rw [he E hE]; exact hR, hrun⟩
theorem fact_cmp {op : BinOp} {x y : AV} {k : IntKind} {a b : Int} {r : Bool} (hx : sval σ x = some (k, a)) (hy : sval σ y = some (k, b)) (h : cmpI op a b = r) (ho : binI op k a b = some (.bool (cmpI op a b))) : FactOK P σ ⟨op, x, y, .bool r⟩ :=
  fact_val hx hy ⟨_, ho, fun E _ => by rw [h]⟩
theorem fact_eq {x y : AV} {k : IntKind} {a b : Int} (hx : sval σ x = some (k, a)) (hy : sval σ y = some (k, b)) (h : a = b) : FactOK P σ ⟨.eql, x, y, .bool true⟩ :=
  fact_cmp hx hy (by simp [cmpI, intEq_eq, h]) rfl
theorem fact_ne {x y : AV} {k : IntKind} {a b : Int} (hx : sval σ x = some (k, a)) (hy : sval σ y = some (k, b)) (h : ¬ a = b) : FactOK P σ ⟨.eql, x, y, .bool false⟩ :=
  fact_cmp hx hy (by simp [cmpI, intEq_eq, h]) rfl
theorem fact_neq_t {x y : AV} {k : IntKind} {a b : Int} (hx : sval σ x = some (k, a)) (hy : sval σ y = some (k, b)) (h : ¬ a = b) : FactOK P σ ⟨.neq, x, y, .bool true⟩ :=
  fact_cmp hx hy (by simp [cmpI, intEq_eq, h]) rfl
theorem fact_neq_f {x y : AV} {k : IntKind} {a b : Int} (hx : sval σ x = some (k, a)) (hy : sval σ y = some (k, b)) (h : a = b) : FactOK P σ ⟨.neq, x, y, .bool false⟩ :=
  fact_cmp hx hy (by simp [cmpI, intEq_eq, h]) rfl
theorem fact_lss_t {x y : AV} {k : IntKind} {a b : Int} (hx : sval σ x = some (k, a)) (hy : sval σ y = some (k, b)) (h : a < b) : FactOK P σ ⟨.lss, x, y, .bool true⟩ :=
  fact_cmp hx hy (by simp [cmpI, intLt_eq]; omega) rfl
theorem fact_lss_f {x y : AV} {k : IntKind} {a b : Int} (hx : sval σ x = some (k, a)) (hy : sval σ y = some (k, b)) (h : ¬ a < b) : FactOK P σ ⟨.lss, x, y, .bool false⟩ :=
  fact_cmp hx hy (by simp [cmpI, intLt_eq]; omega) rfl
theorem fact_gtr_t {x y : AV} {k : IntKind} {a b : Int} (hx : sval σ x = some (k, a)) (hy : sval σ y = some (k, b)) (h : a > b) : FactOK P σ ⟨.gtr, x, y, .bool true⟩ :=
  fact_cmp hx hy (by simp [cmpI, intLt_eq]; omega) rfl
theorem fact_gtr_f {x y : AV} {k : IntKind} {a b : Int} (hx : sval σ x = some (k, a)) (hy : sval σ y = some (k, b)) (h : ¬ a > b) : FactOK P σ ⟨.gtr, x, y, .bool false⟩ :=
  fact_cmp hx hy (by simp [cmpI, intLt_eq]; omega) rfl
theorem fact_leq_t {x y : AV} {k : IntKind} {a b : Int} (hx : sval σ x = some (k, a)) (hy : sval σ y = some (k, b)) (h : a ≤ b) : FactOK P σ ⟨.leq, x, y, .bool true⟩ :=
  fact_cmp hx hy (by simp [cmpI, intLt_eq]; omega) rfl
theorem fact_leq_f {x y : AV} {k : IntKind} {a b : Int} (hx : sval σ x = some (k, a)) (hy : sval σ y = some (k, b)) (h : ¬ a ≤ b) : FactOK P σ ⟨.leq, x, y, .bool false⟩ :=
  fact_cmp hx hy (by simp [cmpI, intLt_eq]; omega) rfl
theorem fact_geq_t {x y : AV} {k : IntKind} {a b : Int} (hx : sval σ x = some (k, a)) (hy : sval σ y = some (k, b)) (h : a ≥ b) : FactOK P σ ⟨.geq, x, y, .bool true⟩ :=
  fact_cmp hx hy (by simp [cmpI, intLt_eq]; omega) rfl
theorem fact_geq_f {x y : AV} {k : IntKind} {a b : Int} (hx : sval σ x = some (k, a)) (hy : sval σ y = some (k, b)) (h : ¬ a ≥ b) : FactOK P σ ⟨.geq, x, y, .bool false⟩ :=
  fact_cmp hx hy (by simp [cmpI, intLt_eq]; omega) rfl
/-- a number that an operation gives: its value is r's -/
theorem fact_num {op : BinOp} {x y r : AV} {k j : IntKind} {a b c d : Int} (hx : sval σ x = some (k, a)) (hy : sval σ y = some (k, b)) (hr : sval σ r = some (j, c)) (h : binI op k a b = some (.int j d)) (hd : c = d) : FactOK P σ ⟨op, x, y, r⟩ :=
  fact_val hx hy ⟨_, h, fun E hE => by rw [sval_conc hr E hE, hd]; rfl⟩
/-- a number that an operation gives, whatever the second operand's kind -/
theorem fact_num2 {op : BinOp} {x y r : AV} {k i j : IntKind} {a b c d : Int} (hx : sval σ x = some (k, a)) (hy : sval σ y = some (i, b)) (hr : sval σ r = some (j, c)) (h : binInt op k a i b = some (.int j d)) (hd : c = d) : FactOK P σ ⟨op, x, y, r⟩ := by
  intro E hE X Y hX hY
  rw [sval_conc hx E hE] at hX; cases hX
  rw [sval_conc hy E hE] at hY; cases hY
  obtain ⟨R, hR, hrun⟩ := binInt_sound (P := P) h E
  exact ⟨R, by rw [sval_conc hr E hE, hd]; exact hR, hrun⟩
theorem conv_num {x r : AV} {k j : IntKind} {a c : Int} (hx : sval σ x = some (j, a)) (hr : sval σ r = some (k, c)) (h : c = k.wrap a) : FConvOK σ ⟨k, x, r⟩ := by
  intro E hE X hX
  rw [sval_conc hx E hE] at hX; cases hX
  exact ⟨j, a, rfl, by rw [← h]; exact sval_conc hr E hE⟩
theorem wrap_u8 (n : Int) : IntKind.u8.wrap n = n % 256 := rfl
theorem wrap_u16 (n : Int) : IntKind.u16.wrap n = n % 65536 := rfl
theorem wrap_u32 (n : Int) : IntKind.u32.wrap n = n % 4294967296 := rfl
theorem wrap_u64 (n : Int) : IntKind.u64.wrap n = n % 18446744073709551616 := rfl
theorem wrap_i64 {n : Int} (h1 : -9223372036854775808 ≤ n) (h2 : n < 9223372036854775808) : IntKind.i64.wrap n = n := by
  unfold IntKind.wrap
  simp only [IntKind.bits, IntKind.signed]
  simp
  split <;> omega
theorem all_nil {α : Type} {p : α → Prop} : ∀ f ∈ ([] : List α), p f := fun _ h => by cases h
theorem all_cons {α : Type} {p : α → Prop} {a : α} {l : List α} (h : p a) (t : ∀ f ∈ l, p f) : ∀ f ∈ a :: l, p f := fun f hf => by
  rcases List.mem_cons.1 hf with rfl | hf
  · exact h
  · exact t f hf
theorem binI_rem {k : IntKind} {a b : Int} (h : 0 ≤ a) (hb : intEq b 0 = false) : binI .rem k a b = some (.int k (a % b)) := by
  simp only [binI, hb]
  rw [Int.tmod_eq_emod_of_nonneg h]
theorem binI_quo {k : IntKind} {a b : Int} (h : 0 ≤ a) (hb : intEq b 0 = false) : binI .quo k a b = some (.int k (k.wrap (a / b))) := by
  simp only [binI, hb]
  rw [Int.tdiv_eq_ediv_of_nonneg h]
theorem binI_shr {k i : IntKind} {a : Int} {c : Nat} (hc : c ≤ k.bits) : binInt .shr k a i (Int.ofNat c) = some (.int k (a / Int.ofNat (2 ^ c))) := by
  have h0 : intLt (Int.ofNat c) 0 = false := by rw [intLt_eq]; simp
  have h1 : Nat.min c k.bits = c := Nat.min_eq_left hc
  simp only [binInt, shrI, h0, Int.ofNat_eq_natCast, Int.toNat_natCast, h1]
  rw [Int.fdiv_eq_ediv_of_nonneg _ (Int.natCast_nonneg _)]
  rfl
theorem binI_shl {k i : IntKind} {a : Int} {c : Nat} (hc : c ≤ k.bits) : binInt .shl k a i (Int.ofNat c) = some (.int k (k.wrap (a * Int.ofNat (2 ^ c)))) := by
  have h0 : intLt (Int.ofNat c) 0 = false := by rw [intLt_eq]; simp
  have h1 : Nat.min c k.bits = c := Nat.min_eq_left hc
  simp only [binInt, shlI, h0, Int.ofNat_eq_natCast, Int.toNat_natCast, h1]
  rfl
theorem binI_and1 {k : IntKind} {a : Int} (hk : Nat.beq (modK k) 0 = false) : binI .and k a 1 = some (.int k (a % 2)) := by
  have key : ∀ (m : Nat), 2 ∣ m → 1 < m → (Nat.land (a % Int.ofNat m).toNat ((1 : Int) % Int.ofNat m).toNat : Nat) = (a % 2).toNat := by
    intro m h2 hm
    have e1 : ((1 : Int) % Int.ofNat m).toNat = 1 := by
      rw [Int.emod_eq_of_lt (by omega) (by simp only [Int.ofNat_eq_natCast]; omega)]; rfl
    rw [e1]
    show ((a % Int.ofNat m).toNat &&& 1) = _
    rw [Nat.and_one_is_mod]
    obtain ⟨q, rfl⟩ := h2
    have h3 : (a % Int.ofNat (2 * q)) % 2 = a % 2 := Int.emod_emod_of_dvd a ⟨(q : Int), by simp⟩
    have h4 : 0 ≤ a % Int.ofNat (2 * q) := Int.emod_nonneg _ (by simp only [Int.ofNat_eq_natCast]; omega)
    omega
  have e : binI .and k a 1 = some (.int k (k.wrap (Int.ofNat (Nat.land (a % Int.ofNat (Nat.pow 2 k.bits)).toNat ((1 : Int) % Int.ofNat (Nat.pow 2 k.bits)).toNat)))) := rfl
  rw [e]
  cases k <;> first | (exact absurd hk (by decide)) | skip
  all_goals
    rw [key _ (by decide) (by decide)]
    first | rw [wrap_u8] | rw [wrap_u16] | rw [wrap_u32] | rw [wrap_u64]
    congr 2
    simp only [Int.ofNat_eq_natCast]
    omega
noncomputable def tabB : List Nat → Tr Bool
  | [] => .nil
  | s :: l => (tabB l).set s true
theorem tabB_mem : ∀ {l : List Nat} {s : Nat}, (tabB l).get s = some true → s ∈ l
  | [], s, h => by simp [tabB] at h
  | t :: l, s, h => by
    simp only [tabB, Tr.get_set] at h
    split at h
    · rename_i e; simp [e]
    · exact List.mem_cons_of_mem _ (tabB_mem h)
theorem tabB_ok {l : List Nat} (h : ∀ s ∈ l, 0 ≤ σ.num s ∧ σ.num s < 256) : ∀ s, (tabB l).get s = some true → 0 ≤ σ.num s ∧ σ.num s < 256 := fun s hs => h s (tabB_mem hs)
theorem globs_nil {σ : Val} : ∀ g cs, (Tr.nil : Tr (List AV)).get g = some cs → cs.all AV.atom = true ∧ ∃ vs, (∀ E : Env, E.σ = σ → concs E cs = some vs) ∧ ∀ (j : Nat) (v : Value), vs[j]? = some v → σ.glob g j = some v := fun g cs h => by simp at h
theorem bytes_nil {σ : Val} : ∀ s, (Tr.nil : Tr Bool).get s = some true → 0 ≤ σ.num s ∧ σ.num s < 256 := fun s h => by simp at h
theorem sums_nil {P : Program} {σ : Val} : ∀ g s, (Tr.nil : Tr Sum).get g = some s → SumOK P σ g s := fun g s h => by simp at h
theorem conc_symI (k : IntKind) (s : Nat) (E : Env) (hE : E.σ = σ) : conc E (.sym k s) = some (.int k (σ.num s)) := by simp [conc, hE]
theorem conc_intI (k : IntKind) (n : Int) (E : Env) (_ : E.σ = σ) : conc E (.int k n) = some (.int k n) := rfl
end Go.Abs

namespace Go.Abs
open Go.RowKit

/-! ## arguments without pointers: what they are, and that they read the same in every memory -/
inductive Lk where
  | int (k : IntKind)
  | bool
  | str
mutual
def plainK (P : Program) : Nat → TypeId → Option (List Lk)
  | 0, _ => none
  | d + 1, t => match P.underlying t with
    | some (.int k) => some [.int k]
    | some .bool => some [.bool]
    | some .string => some [.str]
    | some (.struct fs) => match plainFs P d 0 fs.toList with
      | some l => match Nat.beq l.length (P.cellsOf t) with
        | true => some l
        | false => none
      | none => none
    | some (.array n e) => match plainK P d e with
      | some l => match Nat.beq l.length (P.cellsOf e), Nat.beq (n * l.length) (P.cellsOf t) with
        | true, true => some (repl n l)
        | _, _ => none
      | none => none
    | _ => none
def plainFs (P : Program) : Nat → Nat → List Field → Option (List Lk)
  | _, _, [] => some []
  | 0, _, _ => none
  | d + 1, off, f :: fs => match plainK P d f.type with
    | none => none
    | some l => match plainFs P d (off + l.length) fs with
      | none => none
      | some r => match Nat.beq f.offset off, Nat.beq l.length (P.cellsOf f.type) with
        | true, true => some (l ++ r)
        | _, _ => none
end
def FitL : Lk → Value → Prop
  | .int k, v => ∃ n, v = .int k n ∧ (Lit.int k n).wf = true
  | .bool, v => ∃ b, v = .bool b
  | .str, v => ∃ s, v = .string s ∧ s.size ≤ maxLen
def FitsL : List Lk → List Value → Prop
  | [], cs => cs = []
  | k :: ks, cs => ∃ v rest, FitL k v ∧ cs = v :: rest ∧ FitsL ks rest
theorem FitsL.append : ∀ {a b : List Lk} {x y : List Value}, FitsL a x → FitsL b y → FitsL (a ++ b) (x ++ y)
  | [], b, x, y, h, h2 => by simp only [FitsL] at h; subst h; simpa using h2
  | k :: a, b, x, y, h, h2 => by
    obtain ⟨v, r, h1, rfl, h3⟩ := h
    exact ⟨v, r ++ y, h1, rfl, h3.append h2⟩
theorem FitsL.length : ∀ {a : List Lk} {x : List Value}, FitsL a x → x.length = a.length
  | [], x, h => by simp only [FitsL] at h; subst h; rfl
  | k :: a, x, h => by obtain ⟨v, r, h1, rfl, h3⟩ := h; simp [h3.length]

variable {H : Type} {enc : TypeId × Value → H} {P : Program}
/-- a reading that leans on no memory -/
def Still (enc : TypeId × Value → H) (P : Program) (fuel : Nat) (t : TypeId) (cs : List Value) (d : DataW H) : Prop :=
  ∀ (w : World) (base : Nat) (spare : Nat → Bool) (held : Bool), DataW.trod enc P w base spare held fuel t cs = some (d, [])

theorem trod_bool_mk {t : TypeId} {b : Bool} {w : World} {base : Nat} {spare : Nat → Bool} {held : Bool} (m : Nat) (ht : P.underlying t = some .bool) : DataW.trod enc P w base spare held (m + 1) t [.bool b] = some (.lit (.bool b), []) := by
  unfold DataW.trod; rw [ht]
theorem trod_string_mk {t : TypeId} {s : ByteArray} {w : World} {base : Nat} {spare : Nat → Bool} {held : Bool} (m : Nat) (ht : P.underlying t = some .string) (hs : s.size ≤ maxLen) : DataW.trod enc P w base spare held (m + 1) t [.string s] = some (.lit (.string s.data.toList), []) := by
  unfold DataW.trod; rw [ht]; simp [hs]
theorem trod_struct_eq {t : TypeId} {fs : Array Field} {w : World} {base : Nat} {spare : Nat → Bool} {held : Bool} (n : Nat) (cs : List Value) (ht : P.underlying t = some (.struct fs)) :
    DataW.trod enc P w base spare held (n + 1) t cs = if cs.length = P.cellsOf t then (fs.toList.mapM fun f => DataW.trod enc P w base spare held n f.type ((cs.drop f.offset).take (P.cellsOf f.type))).map fun xs => (.agg (xs.map (·.1)), xs.flatMap (·.2)) else none := by
  conv => lhs; unfold DataW.trod
  rw [ht]
theorem trod_array_eq {t e : TypeId} {k : Nat} {w : World} {base : Nat} {spare : Nat → Bool} {held : Bool} (n : Nat) (cs : List Value) (ht : P.underlying t = some (.array k e)) :
    DataW.trod enc P w base spare held (n + 1) t cs = if cs.length = P.cellsOf t then ((List.range k).mapM fun i => DataW.trod enc P w base spare held n e ((cs.drop (i * P.cellsOf e)).take (P.cellsOf e))).map fun xs => (.agg (xs.map (·.1)), xs.flatMap (·.2)) else none := by
  conv => lhs; unfold DataW.trod
  rw [ht]

/-- what is said of one type -/
def PlainAt (enc : TypeId × Value → H) (P : Program) (t : TypeId) (ks : List Lk) : Prop :=
  ∀ (fuel : Nat) (cs : List Value) (w : World) (base : Nat) (spare : Nat → Bool) (held : Bool) (x : DataW H × List MemPlace), DataW.trod enc P w base spare held fuel t cs = some x → x.2 = [] ∧ FitsL ks cs ∧ Still enc P fuel t cs x.1

theorem fits_take {l r : List Lk} {cs : List Value} {off : Nat} (h1 : FitsL l ((cs.drop off).take l.length)) (h2 : FitsL r ((cs.drop (off + l.length)).take r.length)) : FitsL (l ++ r) ((cs.drop off).take (l ++ r).length) := by
  rw [List.length_append, List.take_add, List.drop_drop]
  exact h1.append h2

theorem fields_plain (D : Nat) (all : ∀ dp, dp ≤ D → ∀ t ks, plainK P dp t = some ks → PlainAt enc P t ks) : ∀ (dp : Nat), dp ≤ D → ∀ (off : Nat) (fs : List Field) (ks : List Lk), plainFs P dp off fs = some ks → ∀ (n : Nat) (cs : List Value) (w : World) (base : Nat) (spare : Nat → Bool) (held : Bool) (xs : List (DataW H × List MemPlace)),
    fs.mapM (fun f => DataW.trod enc P w base spare held n f.type ((cs.drop f.offset).take (P.cellsOf f.type))) = some xs →
    xs.flatMap (·.2) = [] ∧ FitsL ks ((cs.drop off).take ks.length) ∧ ∀ (w' : World) (b' : Nat) (s' : Nat → Bool) (h' : Bool), fs.mapM (fun f => DataW.trod enc P w' b' s' h' n f.type ((cs.drop f.offset).take (P.cellsOf f.type))) = some (xs.map fun x => (x.1, []))
  | dp, hD, off, [], ks, h, n, cs, w, base, spare, held, xs, hx => by
    have : ks = [] := by cases dp <;> (simp only [plainFs, Option.some.injEq] at h; exact h.symm)
    subst this
    simp at hx; subst hx
    exact ⟨rfl, rfl, fun _ _ _ _ => rfl⟩
  | 0, hD, off, f :: fs, ks, h, n, cs, w, base, spare, held, xs, hx => by simp [plainFs] at h
  | dp + 1, hD, off, f :: fs, ks, h, n, cs, w, base, spare, held, xs, hx => by
    simp only [plainFs] at h
    split at h
    · cases h
    rename_i l hl
    split at h
    · cases h
    rename_i r hr
    split at h
    case h_2 => cases h
    rename_i ho hc
    cases h
    rw [natBeq_eq] at ho hc
    have ho : f.offset = off := by simpa using ho
    have hc : l.length = P.cellsOf f.type := by simpa using hc
    simp only [List.mapM_cons, Option.bind_eq_bind, Option.bind_eq_some_iff, Option.pure_def, Option.some.injEq] at hx
    obtain ⟨x, hx, ys, hys, rfl⟩ := hx
    obtain ⟨h1, h2, h3⟩ := all dp (by omega) f.type l hl n _ w base spare held x hx
    obtain ⟨h4, h5, h6⟩ := fields_plain D all dp (by omega) (off + l.length) fs r hr n cs w base spare held ys hys
    refine ⟨by simp [h1, h4], fits_take ?_ h5, fun w' b' s' h' => ?_⟩
    · rw [ho, ← hc] at h2; exact h2
    · simp only [List.mapM_cons, Option.bind_eq_bind, h3 w' b' s' h', h6 w' b' s' h', Option.bind_some, Option.pure_def, List.map_cons]

theorem elems_plain {e : TypeId} {l : List Lk} (he : PlainAt enc P e l) (hc : l.length = P.cellsOf e) : ∀ (m s : Nat) (n : Nat) (cs : List Value) (w : World) (base : Nat) (spare : Nat → Bool) (held : Bool) (xs : List (DataW H × List MemPlace)),
    (List.range' s m).mapM (fun i => DataW.trod enc P w base spare held n e ((cs.drop (i * P.cellsOf e)).take (P.cellsOf e))) = some xs →
    xs.flatMap (·.2) = [] ∧ FitsL (repl m l) ((cs.drop (s * l.length)).take (repl m l).length) ∧ ∀ (w' : World) (b' : Nat) (s' : Nat → Bool) (h' : Bool), (List.range' s m).mapM (fun i => DataW.trod enc P w' b' s' h' n e ((cs.drop (i * P.cellsOf e)).take (P.cellsOf e))) = some (xs.map fun x => (x.1, []))
  | 0, s, n, cs, w, base, spare, held, xs, hx => by simp at hx; subst hx; exact ⟨rfl, rfl, fun _ _ _ _ => rfl⟩
  | m + 1, s, n, cs, w, base, spare, held, xs, hx => by
    rw [List.range'_succ] at hx ⊢
    simp only [List.mapM_cons, Option.bind_eq_bind, Option.bind_eq_some_iff, Option.pure_def, Option.some.injEq] at hx
    obtain ⟨x, hx, ys, hys, rfl⟩ := hx
    obtain ⟨h1, h2, h3⟩ := he n _ w base spare held x hx
    obtain ⟨h4, h5, h6⟩ := elems_plain he hc m (s + 1) n cs w base spare held ys hys
    refine ⟨by simp [h1, h4], ?_, fun w' b' s' h' => ?_⟩
    · show FitsL (l ++ repl m l) _
      refine fits_take ?_ ?_
      · rw [← hc] at h2; exact h2
      · rw [show s * l.length + l.length = (s + 1) * l.length by rw [Nat.succ_mul]]; exact h5
    · simp only [List.mapM_cons, Option.bind_eq_bind, h3 w' b' s' h', h6 w' b' s' h', Option.bind_some, Option.pure_def, List.map_cons]

theorem trod_plain : ∀ (dp : Nat) (t : TypeId) (ks : List Lk), plainK P dp t = some ks → PlainAt enc P t ks := by
  intro dp
  induction dp using Nat.strongRecOn with
  | _ dp ihs =>
  intro t ks h fuel cs w base spare held x hx
  cases dp with
  | zero => simp [plainK] at h
  | succ dp =>
  cases fuel with
  | zero => simp [DataW.trod] at hx
  | succ fuel =>
  simp only [plainK] at h
  split at h
  · rename_i k hu
    cases h
    obtain ⟨n, rfl, rfl, hw⟩ := DataW.trod_int hu hx
    exact ⟨rfl, ⟨_, [], ⟨n, rfl, hw⟩, rfl, rfl⟩, fun w' b' s' h' => ChangeShapes.trod_int_mk fuel hu hw⟩
  · rename_i hu
    cases h
    obtain ⟨b, rfl, rfl⟩ := DataW.trod_bool hu hx
    exact ⟨rfl, ⟨_, [], ⟨b, rfl⟩, rfl, rfl⟩, fun w' b' s' h' => trod_bool_mk fuel hu⟩
  · rename_i hu
    cases h
    obtain ⟨s, rfl, rfl, hs⟩ := DataW.trod_string hu hx
    exact ⟨rfl, ⟨_, [], ⟨s, rfl, hs⟩, rfl, rfl⟩, fun w' b' s' h' => trod_string_mk fuel hu hs⟩
  · rename_i fs hu
    split at h
    case h_2 => cases h
    rename_i l hl
    split at h
    case h_2 => cases h
    rename_i hc
    cases h
    rw [natBeq_eq] at hc
    have hc : ks.length = P.cellsOf t := by simpa using hc
    rw [trod_struct_eq fuel cs hu] at hx
    split at hx
    case isFalse => cases hx
    rename_i hlen
    simp only [Option.map_eq_some_iff] at hx
    obtain ⟨xs, hxs, rfl⟩ := hx
    obtain ⟨h1, h2, h3⟩ := fieldsA dp ihs 0 fs.toList ks hl fuel cs w base spare held xs hxs
    refine ⟨h1, ?_, fun w' b' s' h' => ?_⟩
    · rw [List.drop_zero, hc, ← hlen, List.take_length] at h2; exact h2
    · rw [trod_struct_eq fuel cs hu, if_pos hlen, h3 w' b' s' h']
      simp
  · rename_i n e hu
    split at h
    case h_2 => cases h
    rename_i l hl
    split at h
    case h_2 => cases h
    rename_i hc1 hc2
    cases h
    rw [natBeq_eq] at hc1 hc2
    have hc1 : l.length = P.cellsOf e := by simpa using hc1
    have hc2 : n * l.length = P.cellsOf t := by simpa using hc2
    rw [trod_array_eq fuel cs hu] at hx
    split at hx
    case isFalse => cases hx
    rename_i hlen
    simp only [Option.map_eq_some_iff] at hx
    obtain ⟨xs, hxs, rfl⟩ := hx
    rw [List.range_eq_range'] at hxs
    obtain ⟨h1, h2, h3⟩ := elems_plain (ihs dp (Nat.lt_succ_self dp) e l hl) hc1 n 0 fuel cs w base spare held xs hxs
    refine ⟨h1, ?_, fun w' b' s' h' => ?_⟩
    · rw [Nat.zero_mul, List.drop_zero, repl_length, hc2, ← hlen, List.take_length] at h2; exact h2
    · rw [trod_array_eq fuel cs hu, if_pos hlen, List.range_eq_range', h3 w' b' s' h']
      simp
  · cases h
where
  fieldsA (dp : Nat) (ihs : ∀ m, m < dp + 1 → ∀ (t : TypeId) (ks : List Lk), plainK P m t = some ks → PlainAt enc P t ks) (off : Nat) (fs : List Field) (ks : List Lk) (h : plainFs P dp off fs = some ks) (n : Nat) (cs : List Value) (w : World) (base : Nat) (spare : Nat → Bool) (held : Bool) (xs : List (DataW H × List MemPlace))
    (hx : fs.mapM (fun f => DataW.trod enc P w base spare held n f.type ((cs.drop f.offset).take (P.cellsOf f.type))) = some xs) :
    xs.flatMap (·.2) = [] ∧ FitsL ks ((cs.drop off).take ks.length) ∧ ∀ (w' : World) (b' : Nat) (s' : Nat → Bool) (h' : Bool), fs.mapM (fun f => DataW.trod enc P w' b' s' h' n f.type ((cs.drop f.offset).take (P.cellsOf f.type))) = some (xs.map fun x => (x.1, [])) :=
    fields_plain dp (fun m hm t ks h => ihs m (by omega) t ks h) dp (Nat.le_refl _) off fs ks h n cs w base spare held xs hx

theorem wf_u8 {n : Int} (h : (Lit.int .u8 n).wf = true) : 0 ≤ n ∧ n < 256 := by
  simp only [Lit.wf, Bool.and_eq_true, decide_eq_true_eq] at h; have h1 := h.1; have h2 := h.2; simp only [IntKind.min, IntKind.max, IntKind.bits, IntKind.signed] at h1 h2; simp at h1 h2; omega
theorem wf_u16 {n : Int} (h : (Lit.int .u16 n).wf = true) : 0 ≤ n ∧ n < 65536 := by
  simp only [Lit.wf, Bool.and_eq_true, decide_eq_true_eq] at h; have h1 := h.1; have h2 := h.2; simp only [IntKind.min, IntKind.max, IntKind.bits, IntKind.signed] at h1 h2; simp at h1 h2; omega
theorem wf_u32 {n : Int} (h : (Lit.int .u32 n).wf = true) : 0 ≤ n ∧ n < 4294967296 := by
  simp only [Lit.wf, Bool.and_eq_true, decide_eq_true_eq] at h; have h1 := h.1; have h2 := h.2; simp only [IntKind.min, IntKind.max, IntKind.bits, IntKind.signed] at h1 h2; simp at h1 h2; omega
theorem wf_u64 {n : Int} (h : (Lit.int .u64 n).wf = true) : 0 ≤ n ∧ n < 18446744073709551616 := by
  simp only [Lit.wf, Bool.and_eq_true, decide_eq_true_eq] at h; have h1 := h.1; have h2 := h.2; simp only [IntKind.min, IntKind.max, IntKind.bits, IntKind.signed] at h1 h2; simp at h1 h2; omega
theorem wf_i64 {n : Int} (h : (Lit.int .i64 n).wf = true) : -9223372036854775808 ≤ n ∧ n < 9223372036854775808 := by
  simp only [Lit.wf, Bool.and_eq_true, decide_eq_true_eq] at h; have h1 := h.1; have h2 := h.2; simp only [IntKind.min, IntKind.max, IntKind.bits, IntKind.signed] at h1 h2; simp at h1 h2; omega

/-- an argument of each kind -/
abbrev ArgK := Bool × List Lk
def plainArg (P : Program) (t : TypeId) : Option ArgK := match plainK P 40 t with
  | some ks => some (aggK (tyK P (P.underlying t)), ks)
  | none => none
def plainArgs (P : Program) : List TypeId → Option (List ArgK)
  | [] => some []
  | t :: ts => match plainArg P t, plainArgs P ts with
    | some k, some ks => some (k :: ks)
    | _, _ => none
def FitsAll : List ArgK → List Value → Prop
  | [], vs => vs = []
  | (true, ks) :: r, vs => ∃ cs rest, FitsL ks cs ∧ vs = .agg ⟨cs⟩ :: rest ∧ FitsAll r rest
  | (false, ks) :: r, vs => ∃ v rest, FitsL ks [v] ∧ vs = v :: rest ∧ FitsAll r rest
theorem fit_agg {ks : List Lk} {r : List ArgK} {vs : List Value} (h : FitsAll ((true, ks) :: r) vs) : ∃ cs rest, FitsL ks cs ∧ vs = .agg ⟨cs⟩ :: rest ∧ FitsAll r rest := h
theorem fitL_int {k : IntKind} {ks : List Lk} {cs : List Value} (h : FitsL (.int k :: ks) cs) : ∃ n rest, (Lit.int k n).wf = true ∧ cs = .int k n :: rest ∧ FitsL ks rest := by
  obtain ⟨v, rest, ⟨n, rfl, hw⟩, rfl, h⟩ := h
  exact ⟨n, rest, hw, rfl, h⟩
theorem fitL_nil {cs : List Value} (h : FitsL [] cs) : cs = [] := h
theorem fit_nil {vs : List Value} (h : FitsAll [] vs) : vs = [] := h
theorem fit_int {k : IntKind} {r : List ArgK} {vs : List Value} (h : FitsAll ((false, [.int k]) :: r) vs) : ∃ n rest, (Lit.int k n).wf = true ∧ vs = .int k n :: rest ∧ FitsAll r rest := by
  obtain ⟨v, rest, hf, rfl, h⟩ := h
  obtain ⟨n, rest2, hw, he, _⟩ := fitL_int hf
  cases he
  exact ⟨n, rest, hw, rfl, h⟩
theorem fit_bool {r : List ArgK} {vs : List Value} (h : FitsAll ((false, [.bool]) :: r) vs) : ∃ b rest, vs = .bool b :: rest ∧ FitsAll r rest := by
  obtain ⟨v, rest, ⟨u, rest2, ⟨b, rfl⟩, he, _⟩, rfl, h⟩ := h
  cases he
  exact ⟨b, rest, rfl, h⟩
open Go.ChangeShapes Go.WideShapes Go.ChangeAt Go.WideMaps Go.WideElems
theorem fits_agg {t : TypeId} {v : Value} {w : World} {r : Reach} {b : Nat} {ks : List Lk} (h : aggK (tyK P (P.underlying t)) = true) (hv : Value.okWide P w r b t v) (hf : FitsL ks v.cells.toList) : ∃ cs, FitsL ks cs ∧ v = .agg ⟨cs⟩ := by
  unfold Value.okWide at hv
  cases hu : P.underlying t with
  | none => rw [hu] at h; cases h
  | some d =>
    rw [hu] at h hv
    cases d <;> first | (cases h; done) | skip
    all_goals
      obtain ⟨cs, rfl, _⟩ := hv
      exact ⟨cs.toList, hf, rfl⟩
theorem fits_atom {dp : Nat} {t : TypeId} {v : Value} {w : World} {r : Reach} {b : Nat} {ks : List Lk} (hk : plainK P dp t = some ks) (h : aggK (tyK P (P.underlying t)) = false) (hv : Value.okWide P w r b t v) {base : Nat} {spare : Nat → Bool} {held : Bool} {d : DataW H} {p : List MemPlace}
    (ht : DataW.Trod enc P w base spare held t v d p) : FitsL ks [v] := by
  cases dp with
  | zero => simp [plainK] at hk
  | succ dp =>
  simp only [plainK] at hk
  split at hk
  · rename_i k hu
    cases hk
    obtain ⟨n, rfl, _, _, hw⟩ := open_int hu hv ht
    exact ⟨_, [], ⟨n, rfl, hw⟩, rfl, rfl⟩
  · rename_i hu
    cases hk
    obtain ⟨x, rfl, _⟩ := open_bool hu hv ht
    exact ⟨_, [], ⟨x, rfl⟩, rfl, rfl⟩
  · rename_i hu
    cases hk
    obtain ⟨x, rfl, _, _, hs⟩ := ChangeMaps.open_string hu hv ht
    exact ⟨_, [], ⟨x, rfl, hs⟩, rfl, rfl⟩
  · rename_i fs hu; rw [hu] at h; cases h
  · rename_i n e hu; rw [hu] at h; cases h
  · cases hk
theorem trodAll_plain {W : World} {r : Reach} {b : Nat} {base : Nat} {spare : Nat → Bool} {held : Bool} : ∀ {ts : List TypeId} {ks : List ArgK} {vs : List Value} {ds : List (DataW H)} {p : List MemPlace}, plainArgs P ts = some ks →
    (∀ (j : Nat) (t : TypeId) (v : Value), ts[j]? = some t → vs[j]? = some v → Value.okWide P W r b t v) → DataW.TrodAll enc P W base spare held ts vs ds p →
    p = [] ∧ FitsAll ks vs ∧ ∀ (w' : World) (b' : Nat) (s' : Nat → Bool) (h' : Bool), DataW.TrodAll enc P w' b' s' h' ts vs ds []
  | [], ks, vs, ds, p, hk, hv, h => by
    simp only [plainArgs, Option.some.injEq] at hk
    subst hk
    obtain ⟨rfl, rfl, rfl⟩ := trodAll_nil h
    exact ⟨rfl, rfl, fun _ _ _ _ => trodAll_mk0⟩
  | t :: ts, ks, vs, ds, p, hk, hv, h => by
    simp only [plainArgs] at hk
    split at hk
    case h_2 => cases hk
    rename_i k ks' hk1 hk2
    cases hk
    obtain ⟨v, vs', d, ds', p1, p2, rfl, rfl, rfl, ⟨fuel, h1⟩, h2⟩ := trodAll_cons h
    unfold plainArg at hk1
    split at hk1
    case h_2 => cases hk1
    rename_i l hl
    cases hk1
    obtain ⟨hp, hf, hs⟩ := trod_plain (H := H) (enc := enc) 40 t l hl fuel _ W base spare held _ h1
    obtain ⟨rfl, hf2, hs2⟩ := trodAll_plain hk2 (fun j t' v' ht hv' => hv (j + 1) t' v' (by simpa using ht) (by simpa using hv')) h2
    have hp' : p1 = [] := hp
    subst hp'
    have hv0 := hv 0 t v rfl rfl
    refine ⟨rfl, ?_, fun w' b' s' h' => trodAll_cons_mk (p := []) (p' := []) ⟨fuel, hs w' b' s' h'⟩ (hs2 w' b' s' h')⟩
    cases ha : aggK (tyK P (P.underlying t)) with
    | true =>
      obtain ⟨cs, hc, rfl⟩ := fits_agg ha hv0 hf
      exact ⟨cs, vs', hc, rfl, hf2⟩
    | false => exact ⟨v, vs', fits_atom (enc := enc) hl ha hv0 ⟨fuel, h1⟩, rfl, hf2⟩
theorem trodAll_len {w : World} {base : Nat} {spare : Nat → Bool} {held : Bool} : ∀ {ts : List TypeId} {vs : List Value} {ds : List (DataW H)} {p : List MemPlace}, DataW.TrodAll enc P w base spare held ts vs ds p → ds.length = ts.length
  | [], vs, ds, p, h => by obtain ⟨rfl, rfl, rfl⟩ := trodAll_nil h; rfl
  | t :: ts, vs, ds, p, h => by
    obtain ⟨v, vs', d, ds', p1, p2, rfl, rfl, rfl, _, h2⟩ := trodAll_cons h
    simp [trodAll_len h2]
theorem len1 {α : Type} {l : List α} (h : l.length = 1) : ∃ a, l = [a] := by
  match l, h with
  | [a], _ => exact ⟨a, rfl⟩
theorem len2 {α : Type} {l : List α} (h : l.length = 2) : ∃ a b, l = [a, b] := by
  match l, h with
  | [a, b], _ => exact ⟨a, b, rfl⟩
theorem len3 {α : Type} {l : List α} (h : l.length = 3) : ∃ a b c, l = [a, b, c] := by
  match l, h with
  | [a, b, c], _ => exact ⟨a, b, c, rfl⟩
theorem len4 {α : Type} {l : List α} (h : l.length = 4) : ∃ a b c d, l = [a, b, c, d] := by
  match l, h with
  | [a, b, c, d], _ => exact ⟨a, b, c, d, rfl⟩
theorem len5 {α : Type} {l : List α} (h : l.length = 5) : ∃ a b c d e, l = [a, b, c, d, e] := by
  match l, h with
  | [a, b, c, d, e], _ => exact ⟨a, b, c, d, e, rfl⟩
theorem len6 {α : Type} {l : List α} (h : l.length = 6) : ∃ a b c d e f, l = [a, b, c, d, e, f] := by
  match l, h with
  | [a, b, c, d, e, f], _ => exact ⟨a, b, c, d, e, f, rfl⟩
theorem len7 {α : Type} {l : List α} (h : l.length = 7) : ∃ a b c d e f g, l = [a, b, c, d, e, f, g] := by
  match l, h with
  | [a, b, c, d, e, f, g], _ => exact ⟨a, b, c, d, e, f, g, rfl⟩
theorem len8 {α : Type} {l : List α} (h : l.length = 8) : ∃ a b c d e f g h, l = [a, b, c, d, e, f, g, h] := by
  match l, h with
  | [a, b, c, d, e, f, g, h], _ => exact ⟨a, b, c, d, e, f, g, h, rfl⟩
end Go.Abs

namespace Go.Abs
open Go.RowKit
variable {P : Program} {σ : Val}

/-! ## strings.Join, by its contract -/
def strsOf : List AV → Option (List (List UInt8))
  | [] => some []
  | .str s :: r => match strsOf r with
    | some l => some (s :: l)
    | none => none
  | _ => none
def joinB (sep : List UInt8) : List (List UInt8) → List UInt8
  | [] => []
  | [x] => x
  | x :: y :: r => x ++ (sep ++ joinB sep (y :: r))
theorem joinB_eq (sep : List UInt8) : ∀ xs, joinB sep xs = Lib.join xs sep
  | [] => rfl
  | [x] => by simp [joinB, Lib.join, List.intercalate]
  | x :: y :: r => by
    simp only [joinB, joinB_eq sep (y :: r)]
    simp [Lib.join, List.intercalate, List.intersperse]
noncomputable def joinL (h : AH) (sep : List UInt8) (l : Option (List AV)) : Option (AV × AH) := match l with
  | some l => match strsOf l with
    | some ss => match Nat.ble ss.length 140737488355328, Nat.ble (joinB sep ss).length 140737488355328 with
      | true, true => some (.str (joinB sep ss), h)
      | _, _ => none
    | none => none
  | none => none
noncomputable def joinSum : Sum := fun as h => match as with
  | [.slice i off _ len _, .str sep] => match h.objs.get i with
    | some (.cells cs _ _) => joinL h sep (slice1 cs off len)
    | _ => none
  | _ => none

theorem strsOf_conc {E : Env} : ∀ {l : List AV} {ss : List (List UInt8)} {vs : List Value}, strsOf l = some ss → concs E l = some vs → vs = ss.map fun s => .string ⟨s.toArray⟩
  | [], ss, vs, h, hv => by
    simp only [strsOf, Option.some.injEq] at h; subst h
    simp only [concs, Option.some.injEq] at hv; subst hv; rfl
  | x :: r, ss, vs, h, hv => by
    obtain ⟨v, vs', h1, h2, rfl⟩ := concs_cons hv
    cases x <;> simp only [strsOf] at h <;> try (cases h; done)
    split at h
    · rename_i l hl
      cases h
      simp only [conc, Option.some.injEq] at h1
      subst h1
      rw [strsOf_conc hl h2]; rfl
    · cases h

theorem enter_ok {g : Nat} {fn : Func} {c : Code} (hP : P.funcs[g]? = some fn) (hname : (fn.name == "runtime.NumGoroutine") = false) (hb : fn.body = some c) (A : Array Value) (w : World) : (callFunc g A).run P w = .ok (.enter g A) w := by
  unfold callFunc
  simp only [Sem.run_bind, run_program, Result.andThen_ok, hP, hname, Bool.false_eq_true, if_false, hb, Option.isNone_some]
  rfl

theorem join_sumOK {g : Nat} {fn : Func} {c : Code} (hP : P.funcs[g]? = some fn) (hname : (fn.name == "runtime.NumGoroutine") = false) (hb : fn.body = some c)
    (C : ∀ (bk o c : Nat) (xs : List ByteArray) (sep : ByteArray) (w : World), (∀ (j : Nat) x, xs[j]? = some x → w.cell? ⟨bk, o + j, none⟩ = some (.string x)) → bk < w.heap.size → xs.length ≤ 140737488355328 → xs.length ≤ c →
      (Lib.join (xs.map (·.data.toList)) sep.data.toList).length ≤ 140737488355328 →
      Calls P g #[.slice (some ⟨bk, o, none⟩) xs.length c, .string sep] w fun e w' => e = .returned (.string ⟨(Lib.join (xs.map (·.data.toList)) sep.data.toList).toArray⟩) ∧ Below w.heap.size w w') : SumOK P σ g joinSum := by
  intro as h v h' hs
  unfold joinSum at hs
  split at hs
  case h_2 => cases hs
  rename_i i off eo len cap sep
  split at hs
  case h_2 => cases hs
  rename_i cs ro es hi
  unfold joinL at hs
  split at hs
  case h_2 => cases hs
  rename_i l hl
  split at hs
  case h_2 => cases hs
  rename_i ss hss
  split at hs
  case h_2 => cases hs
  rename_i b1 b2
  cases hs
  have b1 : ss.length ≤ 140737488355328 := by simpa using b1
  have b2 : (joinB sep ss).length ≤ 140737488355328 := by simpa using b2
  refine ⟨Nat.le_refl _, fun E B w0 w A hσ hA hrel _ => .inl ⟨enter_ok hP hname hb _ _, ?_⟩⟩
  obtain ⟨X, A1, hX, hA1, rfl⟩ := concs_cons hA
  obtain ⟨Y, Z, hY, hZ, rfl⟩ := concs_cons hA1
  have hZ' : Z = [] := (Option.some.inj hZ).symm
  subst hZ'
  obtain ⟨p, hp, rfl, hle⟩ := conc_slice hX
  have hY' : Y = .string ⟨sep.toArray⟩ := (Option.some.inj hY).symm
  subst hY'
  obtain ⟨hat, vs, hvs, hc⟩ := cells_at hrel hi hp
  obtain ⟨hle1, rfl⟩ := slice1_eq hl
  have hlen := concs_length hvs
  have hc2 := concs_take (concs_drop hvs off) len
  have hVS := strsOf_conc hss hc2
  have hsl : ss.length = len := by
    have := congrArg List.length hVS
    simp at this; omega
  have hbk : p.block < w.heap.size := by
    have ho := hrel.objs i _ p hi hp
    cases ro with
    | false => exact objRel_lt ho rfl
    | true =>
      obtain ⟨_, _, _, h3, _⟩ := ho
      exact Nat.lt_of_lt_of_le (h3 rfl).1 (Nat.le_trans hrel.base hrel.below.size)
  have key := C p.block (p.off + off) (capOf p eo cap) (ss.map fun s => ⟨s.toArray⟩) ⟨sep.toArray⟩ w (fun j x hx => ?_) hbk (by simpa using b1) (by simpa [hsl] using hle) (by simpa [joinB_eq, Function.comp_def] using b2)
  · have e : ((ss.map fun s => (⟨s.toArray⟩ : ByteArray)).map (·.data.toList)) = ss := by simp [Function.comp_def]
    rw [e] at key
    simp only [List.length_map, hsl] at key
    refine key.mono fun e w' ⟨he, hb⟩ => ?_
    refine ⟨_, he, E, ?_, Post.kept hrel hb⟩
    simp only [conc, joinB_eq]
  · have hj : j < len := by
      rcases Nat.lt_or_ge j len with h' | h'
      · exact h'
      · rw [List.getElem?_eq_none (by simp; omega)] at hx; cases hx
    have h1 : ((vs.drop off).take len)[j]? = some (.string x) := by
      rw [hVS]
      rw [List.getElem?_map] at hx ⊢
      cases hs : ss[j]? with
      | none => rw [hs] at hx; cases hx
      | some s => rw [hs] at hx; cases hx; rfl
    rw [List.getElem?_take_of_lt hj, List.getElem?_drop] at h1
    rw [Nat.add_assoc]
    exact hc _ _ h1
end Go.Abs
