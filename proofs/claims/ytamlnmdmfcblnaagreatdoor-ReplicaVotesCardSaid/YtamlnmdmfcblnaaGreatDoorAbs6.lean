/- The interpreter is sound: what it answers is what a call in the model gives, whatever the tape; arguments without pointers. No premise of its own. -/
import Derived.Test.YtamlnmdmfcblnaaGreatDoorAbs5
import Derived.Maps.RangeRun
import Derived.Below
import Derived.KernelRfl
import Derived.WalkKit
import Derived.OpenShut
import Derived.LaidMore
import Derived.Stop.Joined
import Derived.Carry
import Derived.ChangeMaps5
import Derived.ProofKit
import Derived.Lib.Join
set_option linter.unusedVariables false
set_option linter.unusedSimpArgs false
namespace Go.Abs
open Go.RowKit

variable {P : Program} {σ : Val} {cx : Cx}

/-- a call that is known, and touches nothing -/
def FCallOK (P : Program) (σ : Val) (f : FCall) : Prop := ∀ (h : AH) (E : Env) (B : Nat) (w0 w : World) (A : List Value), E.σ = σ → concs E f.args = some A → Rel E B w0 h w →
  Called P f.g ⟨A⟩ w fun V w' => conc E f.v = some V ∧ Post E B w0 h w E h w'
structure ProgOK (P : Program) (σ : Val) (cx : Cx) (ms : Tr (Tr (List Nat))) : Prop where
  ok : CxOK P σ cx
  funcs : ∀ g fn, cx.funcs.get g = some fn → P.funcs[g]? = some fn
  fns : ∀ g fn, cx.funcs.get g = some fn → fnOK (cx.plan.get g) (ms.get g) fn = true
  mixed : P.follows .mixedOrders = true
  sums : ∀ g s, cx.sums.get g = some s → SumOK P σ g s
  calls : ∀ f ∈ cx.calls, FCallOK P σ f

theorem resA_sound (ok : CxOK P σ cx) {tm : Tm} {h : AH} {E : Env} (hσ : E.σ = σ) {B : Nat} {w0 w : World} {a : Act} (ht : TmRel E tm a) (hr : Rel E B w0 h w) {r : ResultVar} {v : AV} (hv : resA cx tm h r = some v) :
    ∃ V, conc E v = some V ∧ (match r with
      | .tmp t => (Pure.pure (a.tmps.getD t undef) : Sem Value)
      | .cell x t => do loadVar t (← asAddr (a.tmps.getD x undef))).run P w = .ok V w := by
  cases r with
  | tmp t =>
    have := ht t
    simp only [resA, Option.some.injEq] at hv
    subst hv; exact ⟨_, this, rfl⟩
  | cell x t =>
    have := ht x
    simp only [resA] at hv
    obtain ⟨V, ad, hX, hV, hrun⟩ := loadA_sound ok hv hσ hr this
    refine ⟨V, hV, ?_⟩
    simp only [hX]
    simpa [asAddr] using hrun

theorem resAs_sound (ok : CxOK P σ cx) {tm : Tm} {h : AH} {E : Env} (hσ : E.σ = σ) {B : Nat} {w0 w : World} {a : Act} (ht : TmRel E tm a) (hr : Rel E B w0 h w) : ∀ {rs : List ResultVar} {vs : List AV}, resAs cx tm h rs = some vs →
    ∃ VS, concs E vs = some VS ∧ (rs.mapM (m := Sem) fun
      | .tmp t => (Pure.pure (a.tmps.getD t undef) : Sem Value)
      | .cell x t => do loadVar t (← asAddr (a.tmps.getD x undef))).run P w = .ok VS w
  | [], vs, h => by simp only [resAs, Option.some.injEq] at h; subst h; exact ⟨[], rfl, rfl⟩
  | r :: rs, vs, hh => by
    simp only [resAs] at hh
    split at hh
    · rename_i v vs' h1 h2
      cases hh
      obtain ⟨V, hV, hrun⟩ := resA_sound ok hσ ht hr h1
      obtain ⟨VS, hVS, hruns⟩ := resAs_sound ok hσ ht hr h2
      refine ⟨V :: VS, concs_mk hV hVS, ?_⟩
      rw [List.mapM_cons]
      simp only [Sem.run_bind]
      rw [hrun]
      simp only [Result.andThen_ok, Sem.run_bind]
      rw [hruns]
      rfl
    · cases hh

theorem tup1_sound {E : Env} {vs : List AV} {VS : List Value} (h : concs E vs = some VS) : conc E (tup1 vs) = some (if h : (⟨VS⟩ : Array Value).size = 1 then (⟨VS⟩ : Array Value)[0] else .tuple ⟨VS⟩) := by
  match vs, VS, h with
  | [], VS, h => simp [concs] at h; subst h; rfl
  | [x], VS, h =>
    obtain ⟨V, l, hV, hl, rfl⟩ := concs_cons h
    simp [concs] at hl; subst hl
    simpa [tup1] using hV
  | x :: y :: l, VS, h =>
    obtain ⟨V, l1, hV, hl, rfl⟩ := concs_cons h
    obtain ⟨V2, l2, hV2, hl2, rfl⟩ := concs_cons hl
    simp [tup1, conc, h]

theorem fin_sound (ok : CxOK P σ cx) {fn : Func} {out : AOut} {v : AV} {h' : AH} (hf : finA cx fn out = some (v, h')) :
    out ≠ .no ∧ (∀ h, out.heap h = h') ∧ ∀ (E : Env) (B : Nat) (w0 : World) (h : AH) (w : World) (nt : Nat) (R : Ending → World → Prop) (e : Exit) (a : Act) (w' : World), E.σ = σ →
      OutOK E B w0 h w nt out e a w' → (∀ E' V, conc E' v = some V → Post E B w0 h w E' h' w' → R (.returned V) w') → bodyPost P fn R e a w' := by
  have key : ∀ (tm : Tm) (hh : AH), (match resAs cx tm hh fn.results.toList with
      | some vs => some (tup1 vs, hh)
      | none => none) = some (v, h') → hh = h' ∧ ∀ (E' : Env) (B : Nat) (w0 : World) (nt : Nat) (a : Act) (w' : World), E'.σ = σ → ActOK E' nt tm a → Rel E' B w0 h' w' →
        a.defers = [] ∧ ∃ V, conc E' v = some V ∧ (results fn a.tmps).run P w' = .ok V w' := by
    intro tm hh hk
    split at hk
    · rename_i vs hvs
      cases hk
      refine ⟨rfl, fun E' B w0 nt a w' hσ ha hr => ⟨ha.defers, ?_⟩⟩
      obtain ⟨VS, hVS, hrun⟩ := resAs_sound ok hσ ha.tm hr hvs
      refine ⟨_, tup1_sound hVS, ?_⟩
      unfold results
      rw [Array.mapM_eq_mapM_toList]
      simp only [bind_pure_comp, Functor.map_map, Sem.run_map]
      refine (congrArg (fun q : Result (List Value) => Result.andThen q _) hrun).trans ?_
      rfl
    · cases hk
  cases out with
  | no => simp [finA] at hf
  | exit id tm hh => simp [finA] at hf
  | norm tm hh =>
    obtain ⟨rfl, hk⟩ := key tm hh hf
    refine ⟨by simp, fun _ => rfl, ?_⟩
    rintro E B w0 h w nt R e a w' hσ ⟨rfl, E', ha, hp⟩ hR
    obtain ⟨hd, V, hV, hrun⟩ := hk E' B w0 nt a w' (hp.ext.2.trans hσ) ha hp.rel
    exact ⟨hd, V, hrun, hR E' V hV hp⟩
  | ret tm hh =>
    obtain ⟨rfl, hk⟩ := key tm hh hf
    refine ⟨by simp, fun _ => rfl, ?_⟩
    rintro E B w0 h w nt R e a w' hσ ⟨rfl, E', ha, hp⟩ hR
    obtain ⟨hd, V, hV, hrun⟩ := hk E' B w0 nt a w' (hp.ext.2.trans hσ) ha hp.rel
    exact ⟨hd, V, hrun, hR E' V hV hp⟩

theorem initTm_get : ∀ (args : List AV) (n : Nat) (tm : Tm) (t : Nat), (initTm n args tm).at t = if n ≤ t ∧ t < n + args.length then (args[t - n]?).getD .undef else tm.at t
  | [], n, tm, t => by simp only [initTm]; rw [if_neg (by simp only [List.length_nil]; omega)]
  | a :: l, n, tm, t => by
    simp only [initTm]
    rw [initTm_get l (n + 1)]
    simp only [List.length_cons, Tm.at_set]
    by_cases h : n + 1 ≤ t ∧ t < n + 1 + l.length
    · rw [if_pos h, if_pos (by omega)]
      have : t - n = (t - (n + 1)) + 1 := by omega
      rw [this, List.getElem?_cons_succ]
    · rw [if_neg h]
      by_cases e : t = n
      · subst e; rw [if_pos rfl, if_pos (by omega)]; simp
      · rw [if_neg e, if_neg (by omega)]
theorem initR_eq : ∀ (args : List AV) (n : Nat) (tm : Tm), initR args n tm = initTm n args tm
  | [], n, tm => rfl
  | a :: l, n, tm => by
    show initR l (n + 1) ((setF n).run a tm) = _
    rw [setF_run, initR_eq l (n + 1)]; rfl

theorem init_act {E : Env} {args : List AV} {A : List Value} (h : concs E args = some A) (nt : Nat) :
    ActOK E nt (initTm 0 args Tm.nil) { tmps := (⟨A⟩ : Array Value) ++ Array.replicate (nt - (⟨A⟩ : Array Value).size) undef, defers := [] } := by
  have hl := concs_length h
  refine ⟨fun t => ?_, by simp; omega, rfl⟩
  rw [initTm_get]
  simp only [Nat.zero_le, true_and, Nat.zero_add, Nat.sub_zero]
  by_cases ht : t < args.length
  · rw [if_pos ht]
    have hx : args[t]? = some (args[t]'ht) := List.getElem?_eq_getElem ht
    obtain ⟨V, hV, hc⟩ := concs_get h t _ hx
    rw [hx, Option.getD_some]
    have hA : t < A.length := by omega
    rw [Array.getD_eq_getD_getElem?, Array.getElem?_append_left (by simpa using hA)]
    simp only [List.getElem?_toArray, hV, Option.getD_some, hc]
  · rw [if_neg ht]
    have : ((⟨A⟩ : Array Value) ++ Array.replicate (nt - (⟨A⟩ : Array Value).size) undef).getD t undef = undef := by
      rw [Array.getD_eq_getD_getElem?, Array.getElem?_append_right (by simp; omega)]
      simp only [Array.getElem?_replicate]
      split <;> rfl
    rw [this]
    rw [Tm.at_nil]; exact conc_undef E

def CodeS (P : Program) (σ : Val) (nt : Nat) (c : Code) (tm : Tm) (h : AH) (out : AOut) : Prop :=
  h.next ≤ (out.heap h).next ∧ ∀ (E : Env) (B : Nat) (w0 w : World) (a : Act), E.σ = σ → ActOK E nt tm a → Rel E B w0 h w → Fresh E h (out.heap h) → ∀ Q : Exit → Act → World → Prop,
    (∀ e a w', OutOK E B w0 h w nt out e a w' → Q e a w') → c.wp P Q a w

theorem region_lines {nt : Nat} {ops : Array Oper} (h : dstsOK nt ops.toList = true) : ∀ (k : Nat) (o : Oper), ops[k]? = some o → ∀ d, o.dst = some d → d < nt :=
  fun k o hk => dstsOK_spec h o (by rw [← Array.getElem?_toList] at hk; exact List.mem_of_getElem? hk)

theorem runReg_sound {ms : Tr (Tr (List Nat))} (hp : ProgOK P σ cx ms) {callf : CallF} (hc : CallOK P σ callf) {g id : Nat} {ops : Array Oper} {draw : Bool} {tm : Tm} {h : AH} {out : AOut} {nt : Nat}
    (hok : codeOK nt (cx.plan.get g) (ms.get g) (.region id ops draw) = true) (hr : runReg cx callf g id ops.toList draw tm h = out) (hno : out ≠ .no) : CodeS P σ nt (.region id ops draw) tm h out := by
  unfold codeOK at hok
  split at hok
  case h_2 => cases hok
  rename_i hd
  unfold runReg at hr
  cases draw with
  | false =>
    simp only at hr
    obtain ⟨h1, h2⟩ := runOps_sound hp.ok hc (nt := nt) ops.toList _ tm h out (Lines.range ops) (dstsOK_spec hd) hr hno
    exact ⟨h1, fun E B w0 w a hσ ha hrel hf Q hQ => wp_region (h2 E B w0 w a hσ ha hrel hf Q hQ)⟩
  | true =>
    simp only at hr hok
    split at hr
    case h_2 => exact absurd hr.symm hno
    rename_i t ht
    split at hr
    case h_2 => exact absurd hr.symm hno
    rename_i pl hpl
    split at hr
    case h_2 => exact absurd hr.symm hno
    rename_i tm' h' sn rd hrun
    split at hr
    case h_2 => exact absurd hr.symm hno
    rename_i hchk
    simp only [planAt, ht, hpl] at hok
    have D := regOK_spec hok
    obtain ⟨h1, h2⟩ := runDraw_sound hp.ok hp.mixed hc D (region_lines hd) hrun hchk
    subst hr
    exact ⟨h1, fun E B w0 w a hσ ha hrel hf Q hQ => h2 E B w0 w a id hσ ha hrel hf Q hQ⟩

theorem CodeS.then {nt : Nat} {c d : Code} {tm : Tm} {h : AH} {tm1 : Tm} {h1 : AH} {out : AOut} (hno : out ≠ .no) (ha : CodeS P σ nt c tm h (.norm tm1 h1)) (hb : CodeS P σ nt d tm1 h1 out) :
    h.next ≤ (out.heap h).next ∧ ∀ (E : Env) (B : Nat) (w0 w : World) (a : Act), E.σ = σ → ActOK E nt tm a → Rel E B w0 h w → Fresh E h (out.heap h) → ∀ Q : Exit → Act → World → Prop,
      (∀ e a w', OutOK E B w0 h w nt out e a w' → Q e a w') → c.wp P (Exit.then (d.wp P Q) Q) a w := by
  have hh : out.heap h1 = out.heap h := by cases out <;> first | rfl | exact absurd rfl hno
  obtain ⟨a1, a2⟩ := ha
  obtain ⟨b1, b2⟩ := hb
  rw [hh] at b1 b2
  simp only [AOut.heap] at a1 a2
  refine ⟨Nat.le_trans a1 b1, fun E B w0 w a hσ hact hrel hf Q hQ => a2 E B w0 w a hσ hact hrel (hf.left b1) _ fun e a' w' ho => ?_⟩
  obtain ⟨rfl, E', hact', hpost⟩ := ho
  exact b2 E' B w0 w' a' (hpost.ext.2.trans hσ) hact' hpost.rel (hf.right hpost) Q fun e a'' w'' ho => hQ e a'' w'' (OutOK.trans hpost ho)

theorem AOut.heap_of {out : AOut} (hno : out ≠ .no) (h h1 : AH) : out.heap h1 = out.heap h := by cases out <;> first | rfl | exact absurd rfl hno

theorem seqK_eq (b : K) (r : AOut) : seqK b r = match r with
    | .norm tm h => b tm h
    | r => r := by cases r <;> rfl
theorem loopK_succ (a : K) (n : Nat) (tm : Tm) (h : AH) : loopK a (n + 1) tm h = seqK (loopK a n) (a tm h) := rfl

theorem seq_sound {nt : Nat} {x y : Code} {rx : AOut} {ry : K} {tm : Tm} {h : AH} {out : AOut} (hx : ∀ out, rx = out → out ≠ .no → CodeS P σ nt x tm h out) (hy : ∀ tm h out, ry tm h = out → out ≠ .no → CodeS P σ nt y tm h out)
    (hr : seqK ry rx = out) (hno : out ≠ .no) : h.next ≤ (out.heap h).next ∧ ∀ (E : Env) (B : Nat) (w0 w : World) (a : Act), E.σ = σ → ActOK E nt tm a → Rel E B w0 h w → Fresh E h (out.heap h) → ∀ Q : Exit → Act → World → Prop,
      (∀ e a w', OutOK E B w0 h w nt out e a w' → Q e a w') → x.wp P (Exit.then (y.wp P Q) Q) a w := by
  rw [seqK_eq] at hr
  split at hr
  · rename_i tm1 h1
    exact (hx _ rfl (by simp)).then hno (hy tm1 h1 out hr hno)
  · rename_i r hne
    subst hr
    obtain ⟨h2, h3⟩ := hx _ rfl hno
    refine ⟨h2, fun E B w0 w a hσ ha hrel hf Q hQ => h3 E B w0 w a hσ ha hrel hf _ fun e a' w' ho => ?_⟩
    cases rx with
    | norm tm1 h1 => exact absurd rfl (hne tm1 h1)
    | no => exact absurd rfl hno
    | exit id tm1 h1 => have := hQ _ _ _ ho; obtain ⟨rfl, _⟩ := ho; exact this
    | ret tm1 h1 => have := hQ _ _ _ ho; obtain ⟨rfl, _⟩ := ho; exact this

/-- the rounds of a loop -/
theorem loop_sound {nt : Nat} {x : Code} {a : K} (hx : ∀ tm h out, a tm h = out → out ≠ .no → CodeS P σ nt x tm h out) : ∀ (n : Nat) (tm : Tm) (h : AH) (out : AOut), loopK a n tm h = out → out ≠ .no →
    h.next ≤ (out.heap h).next ∧ ∀ (E : Env) (B : Nat) (w0 w : World) (a : Act), E.σ = σ → ActOK E nt tm a → Rel E B w0 h w → Fresh E h (out.heap h) → ∀ Q : Exit → Act → World → Prop,
      (∀ e a w', OutOK E B w0 h w nt out e a w' → Q e a w') → Code.rounds P x Q n a w
  | 0, tm, h, out, hr, hno => absurd hr.symm hno
  | n + 1, tm, h, out, hr, hno => by
    rw [loopK_succ, seqK_eq] at hr
    split at hr
    · rename_i tm1 h1 hr1
      obtain ⟨a1, a2⟩ := hx tm h _ hr1 (by simp)
      obtain ⟨b1, b2⟩ := loop_sound hx n tm1 h1 out hr hno
      rw [AOut.heap_of hno h h1] at b1 b2
      simp only [AOut.heap] at a1 a2
      refine ⟨Nat.le_trans a1 b1, fun E B w0 w a hσ hact hrel hf Q hQ => a2 E B w0 w a hσ hact hrel (hf.left b1) _ fun e a' w' ho => ?_⟩
      obtain ⟨rfl, E', hact', hpost⟩ := ho
      exact b2 E' B w0 w' a' (hpost.ext.2.trans hσ) hact' hpost.rel (hf.right hpost) Q fun e a'' w'' ho => hQ e a'' w'' (OutOK.trans hpost ho)
    · rename_i r hne
      obtain ⟨h2, h3⟩ := hx tm h _ hr hno
      refine ⟨h2, fun E B w0 w a hσ ha hrel hf Q hQ => (h3 E B w0 w a hσ ha hrel hf _ fun e a' w' ho => ?_)⟩
      cases out with
      | norm tm1 h1 => exact absurd hr (hne tm1 h1)
      | no => exact absurd rfl hno
      | exit id tm1 h1 => have := hQ _ _ _ ho; obtain ⟨rfl, _⟩ := ho; exact this
      | ret tm1 h1 => have := hQ _ _ _ ho; obtain ⟨rfl, _⟩ := ho; exact this

def restOf : Code → Code
  | .seq _ b => b
  | _ => .skip
/-- induction over code; of a loop the rest behind its head too -/
theorem code_ind {M : Code → Prop} (skip : M .skip) (label : ∀ l, M (.label l)) (region : ∀ id ops d, M (.region id ops d)) (seq : ∀ x y, M x → M y → M (.seq x y)) (cond : ∀ c x y, M x → M y → M (.cond c x y)) (block : ∀ id x, M x → M (.block id x))
    (loop : ∀ x, M x → M (restOf x) → M (.loop x)) (exit : ∀ id, M (.exit id)) (ret : M .ret) (goto : ∀ l, M (.goto l)) (scope : ∀ x, M x → M (.scope x)) (rangeFunc : ∀ f ps a b, M (.rangeFunc f ps a b)) (refuse : ∀ w, M (.refuse w)) (c : Code) : M c := by
  have key : ∀ c : Code, M c ∧ M (restOf c) := by
    intro c
    induction c with
    | skip => exact ⟨skip, skip⟩
    | label l => exact ⟨label l, skip⟩
    | region id ops d => exact ⟨region id ops d, skip⟩
    | seq x y ihx ihy => exact ⟨seq x y ihx.1 ihy.1, ihy.1⟩
    | cond c x y ihx ihy => exact ⟨cond c x y ihx.1 ihy.1, skip⟩
    | block id x ih => exact ⟨block id x ih.1, skip⟩
    | loop x ih => exact ⟨loop x ih.1 ih.2, skip⟩
    | exit id => exact ⟨exit id, skip⟩
    | ret => exact ⟨ret, skip⟩
    | goto l => exact ⟨goto l, skip⟩
    | scope x ih => exact ⟨scope x ih.1, skip⟩
    | rangeFunc f ps a b _ _ => exact ⟨rangeFunc f ps a b, skip⟩
    | refuse w => exact ⟨refuse w, skip⟩
  exact (key c).1

/-! ## what the text tells of a loop over a map -/
structure MapOK (S : MapSh) (x : Code) : Prop where
  shape : ∃ id o1 o2, x = .seq (.region id #[o1, o2] false) S.rest ∧ o1.guard = none ∧ o2.guard = none ∧ o1.op = .next (.tmp S.it) false ∧ o2.op = .extract (.tmp S.t) 0 ∧ o1.dst = some S.t ∧ o2.dst = some S.c
  t : S.t ∈ S.D
  c : S.c ∈ S.D
  tc : S.t ≠ S.c
  it : S.it ∉ S.D
  nodup : S.D.Nodup
  all : ∀ y, y ∈ asg S.rest → y ∈ S.D ∨ y ∈ S.W
  apart : ∀ y, y ∈ S.W → y ∉ S.D
  sub : ∀ y, y ∈ S.D → y = S.t ∨ y = S.c ∨ y ∈ asg S.rest
theorem memNat_iff (n : Nat) (l : List Nat) : memNat n l = true ↔ n ∈ l := by rw [memNat_eq]; simp
theorem nubN_mem (n : Nat) : ∀ l, n ∈ nubN l ↔ n ∈ l
  | [] => by simp [nubN]
  | m :: l => by
    simp only [nubN]
    split
    · rename_i h
      rw [nubN_mem n l]
      have := (memNat_iff m l).1 h
      constructor
      · exact fun h => List.mem_cons_of_mem _ h
      · intro h; rcases List.mem_cons.1 h with rfl | h
        · exact this
        · exact h
    · simp [nubN_mem n l]
theorem nubN_nodup : ∀ l, (nubN l).Nodup
  | [] => by simp [nubN]
  | m :: l => by
    simp only [nubN]
    split
    · exact nubN_nodup l
    · rename_i h
      refine List.nodup_cons.2 ⟨fun h' => ?_, nubN_nodup l⟩
      have := (memNat_iff m l).2 ((nubN_mem m l).1 h')
      rw [this] at h; cases h
theorem mapSh_spec {x : Code} {S : MapSh} (h : mapSh x = some S) : MapOK S x := by
  unfold mapSh at h
  split at h
  case h_2 => cases h
  rename_i id ops rest
  split at h
  case h_2 => cases h
  rename_i o1 o2 ho
  unfold mapSh2 at h
  split at h
  case h_2 => cases h
  rename_i t c g1 g2 d1 d2
  split at h
  case h_2 => cases h
  rename_i it t2 p1 p2
  unfold mkMapSh at h
  split at h
  case h_2 => cases h
  rename_i b1 b2 b3 b4 b5
  cases h
  have e1 : t = t2 := Nat.eq_of_beq_eq_true b1
  subst e1
  have hops : ops = #[o1, o2] := by apply Array.ext'; simpa using ho
  subst hops
  refine { shape := ⟨id, o1, o2, rfl, g1, g2, p1, p2, d1, d2⟩, t := (memNat_iff _ _).1 b3, c := (memNat_iff _ _).1 b4, tc := fun e => (by rw [natBeq_eq] at b2; simp at b2; exact b2 e), it := fun e => (by rw [(memNat_iff _ _).2 e] at b5; cases b5), nodup := (nubN_nodup _).filter _, all := fun y hy => ?_, apart := fun y hy hd => ?_, sub := fun y hy => ?_ }
  · have hm : y ∈ nubN (t :: c :: asg rest) := (nubN_mem _ _).2 (by simp [hy])
    simp only [List.mem_filter, hm, true_and]
    cases firstW y ((t, true) :: (c, true) :: mens rest) <;> simp
  · simp only [List.mem_filter] at hy hd
    rw [hd.2] at hy; simp at hy
  · have := (nubN_mem _ _).1 (List.mem_filter.1 hy).1
    simpa using this
end Go.Abs

namespace Go.Abs
variable {cx : Cx}

def CfExt (cf : CallF) : Prop := ∀ g as h v h', cf g as h = some (v, h') → HExt h h'

theorem runOps_ext {cf : CallF} (hc : CfExt cf) {all : List Oper} : ∀ (os : List Oper) (tm : Tm) (h : AH) (out : AOut), runOps cx cf all os tm h = out → out ≠ .no → HExt h (out.heap h)
  | [], tm, h, out, hr, hno => by simp only [runOps] at hr; subst hr; exact HExt.refl _
  | o :: os, tm, h, out, hr, hno => by
    simp only [runOps] at hr
    have next : ∀ h1 tm1, HExt h h1 → runOps cx cf all os tm1 h1 = out → HExt h (out.heap h) := fun h1 tm1 he hr => by
      have := runOps_ext hc os tm1 h1 out hr hno
      rw [AOut.heap_of hno h h1] at this
      exact he.trans this
    split at hr
    · exact absurd hr.symm hno
    · exact next h _ (HExt.refl _) hr
    · split at hr
      · rename_i v h1 hv; exact next h1 _ (aop_ext hv) hr
      · split at hr
        · rename_i v h1 hcf; exact next h1 _ (hc _ _ _ _ _ hcf) hr
        · exact absurd hr.symm hno
      · exact absurd hr.symm hno

theorem runDraw_ext {cf : CallF} (hc : CfExt cf) {all : List Oper} : ∀ (os : List Oper) (k : Nat) (pl : List (List Nat)) (tm : Tm) (h : AH) (sn : Tr AH) (rd : List Read) (d : DOut), runDraw cx cf all k os pl tm h sn rd = some d → HExt h d.h
  | [], k, pl, tm, h, sn, rd, d, hr => by simp only [runDraw, Option.some.injEq] at hr; subst hr; exact HExt.refl _
  | o :: os, k, pl, tm, h, sn, rd, d, hr => by
    simp only [runDraw] at hr
    split at hr
    · cases hr
    · exact runDraw_ext hc os _ _ _ _ _ _ _ hr
    · split at hr
      · rename_i v h1 hv; exact (aop_ext hv).trans (runDraw_ext hc os _ _ _ _ _ _ _ hr)
      · split at hr
        · split at hr
          · rename_i v h1 hcf; exact (hc _ _ _ _ _ hcf).trans (runDraw_ext hc os _ _ _ _ _ _ _ hr)
          · cases hr
        · cases hr
      · cases hr

theorem seqK_ext {rx : AOut} {ry : K} {h : AH} {out : AOut} (hx : rx ≠ .no → HExt h (rx.heap h)) (hy : ∀ tm h out, ry tm h = out → out ≠ .no → HExt h (out.heap h)) (hr : seqK ry rx = out) (hno : out ≠ .no) : HExt h (out.heap h) := by
  rw [seqK_eq] at hr
  split at hr
  · rename_i tm1 h1
    have := hy _ _ _ hr hno
    rw [AOut.heap_of hno h h1] at this
    exact (hx (by simp)).trans this
  · subst hr; exact hx hno

theorem loopK_ext {a : K} (hx : ∀ tm h out, a tm h = out → out ≠ .no → HExt h (out.heap h)) : ∀ (n : Nat) (tm : Tm) (h : AH) (out : AOut), loopK a n tm h = out → out ≠ .no → HExt h (out.heap h)
  | 0, tm, h, out, hr, hno => absurd hr.symm hno
  | n + 1, tm, h, out, hr, hno => by
    rw [loopK_succ] at hr
    exact seqK_ext (fun hno => hx tm h _ rfl hno) (fun tm h out hr hno => loopK_ext hx n tm h out hr hno) hr hno

/-! ### loops over maps -/
theorem appN_eq (a b : List Nat) : appN a b = a ++ b := by
  induction a with
  | nil => rfl
  | cons x a ih => show x :: appN a b = _; rw [ih]; rfl
theorem relog_heap {N : Nat} {h : AH} {i : Nat} {o : AOut} (hno : relog N h i o ≠ .no) (d : AH) : o ≠ .no ∧ (relog N h i o).heap d = relogH N h i (o.heap d) := by
  cases o with
  | no => exact absurd rfl hno
  | norm _ _ => exact absurd rfl hno
  | exit _ _ _ => exact ⟨by simp, rfl⟩
  | ret _ _ => exact ⟨by simp, rfl⟩
theorem headB_log (h : AH) (i m since : Nat) (seen : List Nat) (nD : Nat) : (headB h i m since seen nD).objs.log = [] := rfl
theorem headB_get (h : AH) (i m since : Nat) (seen : List Nat) (nD j : Nat) : (headB h i m since seen nD).objs.get j = if j = i then some (.iter (some m) since since seen (some h.next)) else h.objs.get j := by
  show (Hp.put (some (.iter (some m) since since seen (some h.next))) h.objs i).get j = _
  exact Hp.get_put _ _ _ _
/-- what is run from the head tells by its log what it put -/
theorem relog_ext {N : Nat} {h : AH} {i m since nD : Nat} {seen : List Nat} {o : AOut} (hno : relog N h i o ≠ .no) (he : HExt (headB h i m since seen nD) (o.heap h)) : HExt h ((relog N h i o).heap h) := by
  rw [(relog_heap hno h).2]
  obtain ⟨l, h1, h2⟩ := he
  rw [headB_log, List.append_nil] at h1
  refine ⟨l ++ [i], ?_, fun j hj => ?_⟩
  · show appN (o.heap h).objs.log (i :: h.objs.log) = _
    rw [appN_eq, h1]; simp
  · have hj1 : j ∉ l := fun e => hj (by simp [e])
    have hj2 : j ≠ i := fun e => hj (by simp [e])
    have : (relogH N h i (o.heap h)).objs.get j = (o.heap h).objs.get j := rfl
    rw [this, h2 j hj1, headB_get, if_neg hj2]
theorem mapAfter_inv {body : K} {S : MapSh} {i m since n b : Nat} {tm1 : Tm} {h1 : AH} {out : AOut} (hr : mapAfter body S i m since n b tm1 h1 = out) (hno : out ≠ .no) :
    h1.objs.get i = some (.iter (some m) since since [b] (some n)) ∧ ∃ es, h1.objs.get m = some (.map es since) ∧ bornB since es = true ∧ tm1.at S.it = .ptr i 0 ∧ quietBut body S i m since tm1 h1 b es = true ∧ out = relog (topN body S i m since tm1 h1 es) h1 i (mapOver body S i m since tm1 h1) := by
  unfold mapAfter at hr
  cases hi : h1.objs.get i with
  | none => rw [hi] at hr; exact absurd hr.symm hno
  | some o =>
    rw [hi] at hr
    cases o with
    | cells cs ro es => exact absurd hr.symm hno
    | map es c => exact absurd hr.symm hno
    | iter mo s l seen pre =>
      cases mo with
      | none => exact absurd hr.symm hno
      | some m2 =>
      have hr1 : (@Bool.rec (fun _ => AOut) .no (@Bool.rec (fun _ => AOut) .no (@Bool.rec (fun _ => AOut) .no (@Bool.rec (fun _ => AOut) .no (@Bool.rec (fun _ => AOut) .no (@Option.rec AO (fun _ => AOut) .no (fun o2 => @AO.rec (fun _ => AOut) (fun _ _ _ => .no) (fun es c => @Bool.rec (fun _ => AOut) .no (@Bool.rec (fun _ => AOut) .no (@Bool.rec (fun _ => AOut) .no (@Bool.rec (fun _ => AOut) .no (relog (topN body S i m since tm1 h1 es) h1 i (mapOver body S i m since tm1 h1)) (quietBut body S i m since tm1 h1 b es)) (avEqR ((getF S.it).run tm1) (.ptr i 0))) (bornB since es)) (Nat.beq c since)) (fun _ _ _ _ _ => .no) o2) (h1.objs.get m)) (isSome n pre)) (isOne b seen)) (Nat.beq l since)) (Nat.beq s since)) (Nat.beq m2 m)) = out := hr
      cases e1 : Nat.beq m2 m with
      | false => rw [e1] at hr1; exact absurd hr1.symm hno
      | true =>
      cases e2 : Nat.beq s since with
      | false => rw [e1, e2] at hr1; exact absurd hr1.symm hno
      | true =>
      cases e3 : Nat.beq l since with
      | false => rw [e1, e2, e3] at hr1; exact absurd hr1.symm hno
      | true =>
      cases e4 : isOne b seen with
      | false => rw [e1, e2, e3, e4] at hr1; exact absurd hr1.symm hno
      | true =>
      cases e5 : isSome n pre with
      | false => rw [e1, e2, e3, e4, e5] at hr1; exact absurd hr1.symm hno
      | true =>
      cases hm : h1.objs.get m with
      | none => rw [e1, e2, e3, e4, e5, hm] at hr1; exact absurd hr1.symm hno
      | some o2 =>
      cases o2 with
      | cells cs ro es => rw [e1, e2, e3, e4, e5, hm] at hr1; exact absurd hr1.symm hno
      | iter _ _ _ _ _ => rw [e1, e2, e3, e4, e5, hm] at hr1; exact absurd hr1.symm hno
      | map es c =>
      cases e6 : Nat.beq c since with
      | false => rw [e1, e2, e3, e4, e5, hm] at hr1; have hr1 : (@Bool.rec (fun _ => AOut) .no _ (Nat.beq c since)) = out := hr1; rw [e6] at hr1; exact absurd hr1.symm hno
      | true =>
      rw [e1, e2, e3, e4, e5, hm] at hr1
      have hr1 : (@Bool.rec (fun _ => AOut) .no (@Bool.rec (fun _ => AOut) .no (@Bool.rec (fun _ => AOut) .no (@Bool.rec (fun _ => AOut) .no (relog (topN body S i m since tm1 h1 es) h1 i (mapOver body S i m since tm1 h1)) (quietBut body S i m since tm1 h1 b es)) (avEqR ((getF S.it).run tm1) (.ptr i 0))) (bornB since es)) (Nat.beq c since)) = out := hr1
      rw [e6] at hr1
      cases e8 : bornB since es with
      | false => rw [e8] at hr1; exact absurd hr1.symm hno
      | true =>
      cases e9 : avEqR ((getF S.it).run tm1) (.ptr i 0) with
      | false => rw [e8, e9] at hr1; exact absurd hr1.symm hno
      | true =>
      rw [e8, e9] at hr1
      have hr1 : (@Bool.rec (fun _ => AOut) .no (relog (topN body S i m since tm1 h1 es) h1 i (mapOver body S i m since tm1 h1)) (quietBut body S i m since tm1 h1 b es)) = out := hr1
      have f9 : tm1.at S.it = .ptr i 0 := by
        have := avEq_eq _ _ (avEqR_ok _ _ e9)
        rwa [getF_run] at this
      cases e7 : quietBut body S i m since tm1 h1 b es with
      | false => rw [e7] at hr1; exact absurd hr1.symm hno
      | true =>
      rw [e7] at hr1
      have f1 : m2 = m := Nat.eq_of_beq_eq_true e1
      have f2 : s = since := Nat.eq_of_beq_eq_true e2
      have f3 : l = since := Nat.eq_of_beq_eq_true e3
      have f6 : c = since := Nat.eq_of_beq_eq_true e6
      subst f1; subst f2; subst f3; subst f6
      have f4 : seen = [b] := by
        cases seen with
        | nil => cases e4
        | cons x r =>
          have e4' : (@Bool.rec (fun _ => Bool) false (@List.rec Nat (fun _ => Bool) true (fun _ _ _ => false) r) (Nat.beq x b)) = true := e4
          cases hx : Nat.beq x b with
          | false => rw [hx] at e4'; cases e4'
          | true =>
            rw [hx] at e4'
            cases r with
            | nil => rw [Nat.eq_of_beq_eq_true hx]
            | cons y r => cases e4'
      have f5 : pre = some n := by
        cases pre with
        | none => cases e5
        | some y => rw [Nat.eq_of_beq_eq_true (show Nat.beq y n = true from e5)]
      subst f4; subst f5
      exact ⟨rfl, es, rfl, e8, f9, e7, hr1.symm⟩

theorem delRule_inv {body : K} {S : MapSh} {i m since : Nat} {tm : Tm} {h : AH} {es : List (AV × AV × Nat)} {L : List Nat} {out : AOut} (hr : delRule body S i m since tm h es L = out) (hno : out ≠ .no) :
    allL (delAll body S i m since tm h es L) (subsL L) = true ∧ out = relog (topD body S i m since tm h es (subsL L)) (goneH m since h es L) i (mapOver body S i m since tm (goneH m since h es L)) := by
  unfold delRule at hr
  cases e1 : few8 L with
  | false => rw [e1] at hr; exact absurd hr.symm hno
  | true =>
    cases e2 : allL (delAll body S i m since tm h es L) (subsL L) with
    | false => rw [e1, e2] at hr; exact absurd hr.symm hno
    | true => rw [e1, e2] at hr; exact ⟨rfl, hr.symm⟩
theorem mapRule_inv {body : K} {S : MapSh} {i m since : Nat} {tm : Tm} {h : AH} {es : List (AV × AV × Nat)} {out : AOut} (hr : mapRule body S i m since tm h es = out) (hno : out ≠ .no) :
    (louds body S i m since tm h es = [] ∧ out = relog (topN body S i m since tm h es) h i (mapOver body S i m since tm h)) ∨
    (∃ L, allL (delAll body S i m since tm h es L) (subsL L) = true ∧ out = relog (topD body S i m since tm h es (subsL L)) (goneH m since h es L) i (mapOver body S i m since tm (goneH m since h es L))) ∨
    ∃ e, louds body S i m since tm h es = [e] ∧ ((∃ tm1 h1, mapRound body S i m since tm h e = .norm tm1 h1 ∧ out = relog (topN body S i m since tm h es) h i (mapAfter body S i m since h.next e.2.2 tm1 h1)) ∨
      (out = relog (topN body S i m since tm h es) h i (mapRound body S i m since tm h e) ∧ ∀ tm1 h1, mapRound body S i m since tm h e ≠ .norm tm1 h1)) := by
  unfold mapRule at hr
  cases hl : louds body S i m since tm h es with
  | nil => rw [hl] at hr; exact .inl ⟨rfl, hr.symm⟩
  | cons e r =>
    rw [hl] at hr
    cases r with
    | cons a b => exact .inr (.inl ⟨_, delRule_inv hr hno⟩)
    | nil =>
      refine .inr (.inr ⟨e, rfl, ?_⟩)
      have hr' : relog (topN body S i m since tm h es) h i (mapLoud body S i m since h.next e.2.2 (mapRound body S i m since tm h e)) = out := hr
      cases ho : mapRound body S i m since tm h e with
      | norm tm1 h1 => rw [ho] at hr'; exact .inl ⟨tm1, h1, rfl, hr'.symm⟩
      | exit id tm1 h1 => rw [ho] at hr'; exact .inr ⟨hr'.symm, by simp⟩
      | ret tm1 h1 => rw [ho] at hr'; exact .inr ⟨hr'.symm, by simp⟩
      | no => rw [ho] at hr'; exact absurd hr'.symm hno

theorem mapLoop_inv {body : K} {S : MapSh} {fall : AOut} {tm : Tm} {h : AH} {out : AOut} (hr : mapLoop body S fall tm h = out) :
    out = fall ∨ ∃ i m since es, tm.at S.it = .ptr i 0 ∧ h.objs.get i = some (.iter (some m) since since [] none) ∧ h.objs.get m = some (.map es since) ∧ bornB since es = true ∧ mapRule body S i m since tm h es = out := by
  unfold mapLoop at hr
  rw [getF_run] at hr
  cases ht : tm.at S.it with
  | ptr i off =>
    rw [ht] at hr
    have hr1 : (@Bool.rec (fun _ => AOut) fall (@Option.rec AO (fun _ => AOut) fall _ (h.objs.get i)) (Nat.beq off 0)) = out := hr
    cases e0 : Nat.beq off 0 with
    | false => rw [e0] at hr1; exact .inl hr1.symm
    | true =>
    rw [e0] at hr1
    have f0 : off = 0 := Nat.eq_of_beq_eq_true e0
    subst f0
    cases hi : h.objs.get i with
    | none => rw [hi] at hr1; exact .inl hr1.symm
    | some o =>
    rw [hi] at hr1
    cases o with
    | cells cs ro es => exact .inl hr1.symm
    | map es c => exact .inl hr1.symm
    | iter mo s l seen pre =>
    cases mo with
    | none => exact .inl hr1.symm
    | some m =>
    have hr2 : (@Bool.rec (fun _ => AOut) fall (@List.rec Nat (fun _ => AOut) (@Option.rec Nat (fun _ => AOut) (@Option.rec AO (fun _ => AOut) fall (fun o2 => @AO.rec (fun _ => AOut) (fun _ _ _ => fall) (fun es c => @Bool.rec (fun _ => AOut) fall (@Bool.rec (fun _ => AOut) fall (@Bool.rec (fun _ => AOut) fall (mapRule body S i m s tm h es) (bornB s es)) (Nat.beq c s)) (many es)) (fun _ _ _ _ _ => fall) o2) (h.objs.get m)) (fun _ => fall) pre) (fun _ _ _ => fall) seen) (Nat.beq l s)) = out := hr1
    cases e1 : Nat.beq l s with
    | false => rw [e1] at hr2; exact .inl hr2.symm
    | true =>
    cases seen with
    | cons x r => rw [e1] at hr2; exact .inl hr2.symm
    | nil =>
    cases pre with
    | some y => rw [e1] at hr2; exact .inl hr2.symm
    | none =>
    cases hm : h.objs.get m with
    | none => rw [e1, hm] at hr2; exact .inl hr2.symm
    | some o2 =>
    cases o2 with
    | cells cs ro es => rw [e1, hm] at hr2; exact .inl hr2.symm
    | iter _ _ _ _ _ => rw [e1, hm] at hr2; exact .inl hr2.symm
    | map es c =>
    rw [e1, hm] at hr2
    have hr3 : (@Bool.rec (fun _ => AOut) fall (@Bool.rec (fun _ => AOut) fall (@Bool.rec (fun _ => AOut) fall (mapRule body S i m s tm h es) (bornB s es)) (Nat.beq c s)) (many es)) = out := hr2
    cases e2 : many es with
    | false => rw [e2] at hr3; exact .inl hr3.symm
    | true =>
    cases e3 : Nat.beq c s with
    | false => rw [e2, e3] at hr3; exact .inl hr3.symm
    | true =>
    cases e4 : bornB s es with
    | false => rw [e2, e3, e4] at hr3; exact .inl hr3.symm
    | true =>
    rw [e2, e3, e4] at hr3
    have f1 : l = s := Nat.eq_of_beq_eq_true e1
    have f3 : c = s := Nat.eq_of_beq_eq_true e3
    subst f1; subst f3
    exact .inr ⟨i, m, _, es, rfl, hi, hm, e4, hr3⟩
  | _ => rw [ht] at hr; exact .inl hr.symm

theorem mapRule_ext {body : K} (hy : ∀ tm h out, body tm h = out → out ≠ .no → HExt h (out.heap h)) {S : MapSh} {i m since : Nat} {tm : Tm} {h : AH} {es : List (AV × AV × Nat)} {out : AOut} (hr : mapRule body S i m since tm h es = out) (hno : out ≠ .no) : HExt h (out.heap h) := by
  have go : ∀ (N : Nat) (h0 : AH) (tm : Tm) (seen : List Nat), relog N h0 i (body tm (headB h0 i m since seen (lenN S.D))) ≠ .no → HExt h0 ((relog N h0 i (body tm (headB h0 i m since seen (lenN S.D)))).heap h0) := fun N h0 tm seen hn => by
    have hb := (relog_heap hn h0).1
    refine relog_ext hn (seen := seen) (m := m) (since := since) (nD := lenN S.D) ?_
    have := hy _ _ _ rfl hb
    rwa [AOut.heap_of hb h0 _] at this
  rcases mapRule_inv hr hno with ⟨_, rfl⟩ | ⟨L, _, rfl⟩ | ⟨e, _, ⟨tm1, h1, ho, rfl⟩ | ⟨rfl, _⟩⟩
  · exact go _ _ _ _ hno
  · have e1 : HExt (goneH m since h es L) ((relog (topD body S i m since tm h es (subsL L)) (goneH m since h es L) i (mapOver body S i m since tm (goneH m since h es L))).heap (goneH m since h es L)) := go _ (goneH m since h es L) _ _ hno
    rw [AOut.heap_of hno (goneH m since h es L) h]
    refine HExt.trans ⟨[m], Hp.log_put _ _ _, fun j hj => ?_⟩ e1
    show (Hp.put _ h.objs m).get j = _
    rw [Hp.get_put, if_neg (fun e => hj (by simp [e]))]
  · have hn := (relog_heap hno h).1
    obtain ⟨_, es1, _, _, _, _, he⟩ := mapAfter_inv rfl hn
    rw [he] at hno ⊢
    have hb := (relog_heap hno h).1
    have e1 : HExt h1 ((relog (topN body S i m since tm1 h1 es1) h1 i (mapOver body S i m since tm1 h1)).heap h1) := go _ h1 _ _ hb
    rw [AOut.heap_of hb h h1] at e1
    refine relog_ext hno (m := m) (since := since) (seen := [e.2.2]) (nD := lenN S.D) ?_
    have e0 := hy _ _ _ (show body _ (headB h i m since [e.2.2] (lenN S.D)) = _ from ho) (by simp)
    exact e0.trans e1
  · exact go _ _ _ _ hno

theorem den_loop (cx : Cx) (g : Nat) (x : Code) : den cx g (.loop x) = loopX (mapSh x) (den cx g x) (match x with
    | .seq _ b => den cx g b
    | _ => noCW) := by cases x <;> rfl

theorem den_ext {q : Kn} (hq : cx.put q = cx) {cf : CallF} (hc : CfExt cf) (g : Nat) : ∀ (c : Code) (tm : Tm) (h : AH) (out : AOut), (den cx g c).run q cf tm h = out → out ≠ .no → HExt h (out.heap h) := by
  intro c
  induction c using code_ind with
  | skip => intro tm h out hr hno; simp only [den] at hr; subst hr; exact HExt.refl _
  | label l => intro tm h out hr hno; simp only [den] at hr; subst hr; exact HExt.refl _
  | exit id => intro tm h out hr hno; simp only [den] at hr; subst hr; exact HExt.refl _
  | ret => intro tm h out hr hno; simp only [den] at hr; subst hr; exact HExt.refl _
  | region id ops draw =>
    intro tm h out hr hno
    cases draw with
    | false =>
      simp only [den] at hr
      have hr' : runX q cf (linesX cx ops.toList ops.toList) tm h = out := hr
      rw [runX_eq hq] at hr'
      exact runOps_ext hc _ _ _ _ hr' hno
    | true =>
      simp only [den] at hr
      cases hg : cx.plan.get g with
      | none => rw [hg] at hr; exact absurd hr.symm hno
      | some t =>
        rw [hg] at hr
        simp only at hr
        cases hid : t.get id with
        | none => rw [hid] at hr; exact absurd hr.symm hno
        | some pl =>
          rw [hid] at hr
          obtain ⟨d, h1, h2, h3⟩ := runD_ok hq hno ops.toList 0 ops.toList.length pl tm h .nil [] (by simp) hr
          subst h3
          exact runDraw_ext hc _ _ _ _ _ _ _ _ h1
  | seq x y ihx ihy =>
    intro tm h out hr hno
    simp only [den] at hr
    exact seqK_ext (fun hno => ihx tm h _ rfl hno) (fun tm h out hr hno => ihy tm h out hr hno) hr hno
  | cond c x y ihx ihy =>
    intro tm h out hr hno
    simp only [den] at hr
    cases ho : opF c with
    | none => rw [ho] at hr; exact absurd hr.symm hno
    | some z =>
      rw [ho] at hr
      simp only at hr
      cases hz : z.run tm <;> rw [hz] at hr <;> try (exact absurd hr.symm hno)
      rename_i b
      cases b with
      | true => exact ihx _ _ _ hr hno
      | false => exact ihy _ _ _ hr hno
  | block id x ih =>
    intro tm h out hr hno
    simp only [den] at hr
    cases hx : (den cx g x).run q cf tm h with
    | no => rw [hx] at hr; exact absurd hr.symm hno
    | norm tm1 h1 => rw [hx] at hr; have := ih _ _ _ hx (by simp); subst hr; exact this
    | ret tm1 h1 => rw [hx] at hr; have := ih _ _ _ hx (by simp); subst hr; exact this
    | exit j tm1 h1 =>
      rw [hx] at hr
      have h2 := ih _ _ _ hx (by simp)
      have hr' : (@Bool.rec (fun _ => AOut) (AOut.exit j tm1 h1) (AOut.norm tm1 h1) (Nat.beq j id)) = out := hr
      cases hb : Nat.beq j id with
      | true => rw [hb] at hr'; subst hr'; exact h2
      | false => rw [hb] at hr'; subst hr'; exact h2
  | loop x ih ihr =>
    intro tm h out hr hno
    rw [den_loop] at hr
    cases hS : mapSh x with
    | none => rw [hS] at hr; exact loopK_ext ih 100000 tm h out hr hno
    | some S =>
      rw [hS] at hr
      obtain ⟨id, o1, o2, hx, _⟩ := (mapSh_spec hS).shape
      subst hx
      rcases mapLoop_inv hr with h1 | ⟨i, m, since, es, _, _, _, _, h1⟩
      · exact loopK_ext ih 100000 tm h out h1.symm hno
      · exact mapRule_ext (fun tm h out hr hno => ihr tm h out hr hno) h1 hno
  | scope x ih => intro tm h out hr hno; simp only [den] at hr; exact ih tm h out hr hno
  | rangeFunc => intro tm h out hr hno; simp only [den] at hr; exact absurd hr.symm hno
  | goto => intro tm h out hr hno; simp only [den] at hr; exact absurd hr.symm hno
  | refuse => intro tm h out hr hno; simp only [den] at hr; exact absurd hr.symm hno

theorem CallOK.ext {P : Program} {σ : Val} {cf : CallF} (h : CallOK P σ cf) : CfExt cf := fun g as hh v h' hc => (h g).2 as hh v h' hc
end Go.Abs

namespace Go.Abs
variable {cx : Cx}

def AOut.tms : AOut → Tm → Tm
  | .norm tm _, _ | .exit _ tm _, _ | .ret tm _, _ => tm
  | .no, d => d
theorem AOut.tms_of {out : AOut} (hno : out ≠ .no) (a b : Tm) : out.tms a = out.tms b := by cases out <;> first | rfl | exact absurd rfl hno

theorem putA_off {tm : Tm} {d : Option Nat} {v : AV} {t : Nat} (h : d ≠ some t) : (putA tm d v).at t = tm.at t := by
  rw [getD_putA, if_neg h]

theorem runOps_asg {cf : CallF} {all : List Oper} {t : Nat} : ∀ (os : List Oper) (tm : Tm) (h : AH) (out : AOut), t ∉ os.filterMap (·.dst) → runOps cx cf all os tm h = out → out ≠ .no → (out.tms tm).at t = tm.at t
  | [], tm, h, out, _, hr, hno => by simp only [runOps] at hr; subst hr; rfl
  | o :: os, tm, h, out, ht, hr, hno => by
    have h0 : o.dst ≠ some t := fun e => ht (by simp [List.filterMap_cons, e])
    have h1 : t ∉ os.filterMap (·.dst) := fun e => ht (by
      rw [List.filterMap_cons]; split
      · exact e
      · exact List.mem_cons_of_mem _ e)
    have next : ∀ v g, runOps cx cf all os (putA tm o.dst v) g = out → (out.tms tm).at t = tm.at t := fun v g hr => by
      have := runOps_asg os _ g out h1 hr hno
      rw [AOut.tms_of hno _ tm, putA_off h0] at this
      exact this
    simp only [runOps] at hr
    split at hr
    · exact absurd hr.symm hno
    · exact next _ _ hr
    · split at hr
      · exact next _ _ hr
      · split at hr
        · exact next _ _ hr
        · exact absurd hr.symm hno
      · exact absurd hr.symm hno

theorem runDraw_asg {cf : CallF} {all : List Oper} {t : Nat} : ∀ (os : List Oper) (k : Nat) (pl : List (List Nat)) (tm : Tm) (h : AH) (sn : Tr AH) (rd : List Read) (d : DOut), t ∉ os.filterMap (·.dst) →
    runDraw cx cf all k os pl tm h sn rd = some d → d.tm.at t = tm.at t
  | [], k, pl, tm, h, sn, rd, d, _, hr => by simp only [runDraw, Option.some.injEq] at hr; subst hr; rfl
  | o :: os, k, pl, tm, h, sn, rd, d, ht, hr => by
    have h0 : o.dst ≠ some t := fun e => ht (by simp [List.filterMap_cons, e])
    have h1 : t ∉ os.filterMap (·.dst) := fun e => ht (by
      rw [List.filterMap_cons]; split
      · exact e
      · exact List.mem_cons_of_mem _ e)
    have next : ∀ v k pl g sn rd, runDraw cx cf all k os pl (putA tm o.dst v) g sn rd = some d → d.tm.at t = tm.at t := fun v k pl g sn rd hr => by
      rw [runDraw_asg os k pl _ g sn rd d h1 hr, putA_off h0]
    simp only [runDraw] at hr
    split at hr
    · cases hr
    · exact next _ _ _ _ _ _ hr
    · split at hr
      · exact next _ _ _ _ _ _ hr
      · split at hr
        · split at hr
          · exact next _ _ _ _ _ _ hr
          · cases hr
        · cases hr
      · cases hr

theorem seqK_asg {rx : AOut} {ry : K} {tm : Tm} {out : AOut} {t : Nat} (hx : rx ≠ .no → (rx.tms tm).at t = tm.at t) (hy : ∀ tm h out, ry tm h = out → out ≠ .no → (out.tms tm).at t = tm.at t) (hr : seqK ry rx = out) (hno : out ≠ .no) :
    (out.tms tm).at t = tm.at t := by
  rw [seqK_eq] at hr
  split at hr
  · rename_i tm1 h1
    have := hy _ _ _ hr hno
    rw [AOut.tms_of hno _ tm] at this
    rw [this]; exact hx (by simp)
  · subst hr; exact hx hno

theorem loopK_asg {a : K} {t : Nat} (hx : ∀ tm h out, a tm h = out → out ≠ .no → (out.tms tm).at t = tm.at t) : ∀ (n : Nat) (tm : Tm) (h : AH) (out : AOut), loopK a n tm h = out → out ≠ .no → (out.tms tm).at t = tm.at t
  | 0, tm, h, out, hr, hno => absurd hr.symm hno
  | n + 1, tm, h, out, hr, hno => by
    rw [loopK_succ] at hr
    exact seqK_asg (fun hno => hx tm h _ rfl hno) (fun tm h out hr hno => loopK_asg hx n tm h out hr hno) hr hno

theorem holesR_off {t : Nat} : ∀ (D : List Nat) (n : Nat) (tm : Tm), t ∉ D → (holesR D n tm).at t = tm.at t
  | [], _, _, _ => rfl
  | d :: D, n, tm, h => by
    show (holesR D (n + 1) ((setF d).run (AV.hole n) tm)).at t = _
    rw [holesR_off D _ _ (fun e => h (List.mem_cons_of_mem _ e)), setF_run, Tm.at_set, if_neg (fun e => h (by subst e; exact List.mem_cons_self))]
theorem relog_tms {N : Nat} {h : AH} {i : Nat} {o : AOut} (hno : relog N h i o ≠ .no) (d : Tm) : o ≠ .no ∧ (relog N h i o).tms d = o.tms d := by
  cases o with
  | no => exact absurd rfl hno
  | norm _ _ => exact absurd rfl hno
  | exit _ _ _ => exact ⟨by simp, rfl⟩
  | ret _ _ => exact ⟨by simp, rfl⟩
theorem mapRule_asg {body : K} {t : Nat} (hy : ∀ tm h out, body tm h = out → out ≠ .no → (out.tms tm).at t = tm.at t) {S : MapSh} (hD : t ∉ S.D) (hc : t ≠ S.c) (ht : t ≠ S.t) {i m since : Nat} {tm : Tm} {h : AH} {es : List (AV × AV × Nat)} {out : AOut} (hr : mapRule body S i m since tm h es = out) (hno : out ≠ .no) :
    (out.tms tm).at t = tm.at t := by
  have go : ∀ (N : Nat) (h0 : AH) (tm : Tm) (u v : AV) (g : AH), relog N h0 i (body ((setF S.c).run u ((setF S.t).run v (holesR S.D (Nat.succ h0.next) tm))) g) ≠ .no → ((relog N h0 i (body ((setF S.c).run u ((setF S.t).run v (holesR S.D (Nat.succ h0.next) tm))) g)).tms tm).at t = tm.at t := fun N h0 tm u v g hn => by
    obtain ⟨hb, e⟩ := relog_tms hn tm
    rw [e, AOut.tms_of hb tm _, hy _ _ _ rfl hb, setF_run, setF_run, Tm.at_set, if_neg hc, Tm.at_set, if_neg ht, holesR_off _ _ _ hD]
  rcases mapRule_inv hr hno with ⟨_, rfl⟩ | ⟨L, _, rfl⟩ | ⟨e, _, ⟨tm1, h1, ho, rfl⟩ | ⟨rfl, _⟩⟩
  · exact go _ _ _ _ _ _ hno
  · exact go _ _ _ _ _ _ hno
  · obtain ⟨hn, e1⟩ := relog_tms hno tm
    rw [e1]
    obtain ⟨_, es1, _, _, _, _, he⟩ := mapAfter_inv rfl hn
    rw [he] at hn ⊢
    have e2 := go _ h1 tm1 _ _ _ hn
    rw [AOut.tms_of hn tm tm1]
    refine e2.trans ?_
    have := hy _ _ _ ho (by simp)
    simp only [AOut.tms] at this
    rw [this, setF_run, setF_run, Tm.at_set, if_neg hc, Tm.at_set, if_neg ht, holesR_off _ _ _ hD]
  · exact go _ _ _ _ _ _ hno

theorem den_asg {q : Kn} (hq : cx.put q = cx) {cf : CallF} (g : Nat) {t : Nat} : ∀ (c : Code) (tm : Tm) (h : AH) (out : AOut), t ∉ asg c → (den cx g c).run q cf tm h = out → out ≠ .no → (out.tms tm).at t = tm.at t := by
  intro c
  induction c using code_ind with
  | skip => intro tm h out ht hr hno; simp only [den] at hr; subst hr; rfl
  | label l => intro tm h out ht hr hno; simp only [den] at hr; subst hr; rfl
  | exit id => intro tm h out ht hr hno; simp only [den] at hr; subst hr; rfl
  | ret => intro tm h out ht hr hno; simp only [den] at hr; subst hr; rfl
  | region id ops draw =>
    intro tm h out ht hr hno
    simp only [asg] at ht
    cases draw with
    | false =>
      simp only [den] at hr
      have hr' : runX q cf (linesX cx ops.toList ops.toList) tm h = out := hr
      rw [runX_eq hq] at hr'
      exact runOps_asg _ _ _ _ ht hr' hno
    | true =>
      simp only [den] at hr
      cases hg : cx.plan.get g with
      | none => rw [hg] at hr; exact absurd hr.symm hno
      | some pt =>
        rw [hg] at hr
        simp only at hr
        cases hid : pt.get id with
        | none => rw [hid] at hr; exact absurd hr.symm hno
        | some pl =>
          rw [hid] at hr
          obtain ⟨d, h1, h2, h3⟩ := runD_ok hq hno ops.toList 0 ops.toList.length pl tm h .nil [] (by simp) hr
          subst h3
          exact runDraw_asg _ _ _ _ _ _ _ _ ht h1
  | seq x y ihx ihy =>
    intro tm h out ht hr hno
    simp only [asg, List.mem_append, not_or] at ht
    simp only [den] at hr
    exact seqK_asg (fun hno => ihx tm h _ ht.1 rfl hno) (fun tm h out hr hno => ihy tm h out ht.2 hr hno) hr hno
  | cond c x y ihx ihy =>
    intro tm h out ht hr hno
    simp only [asg, List.mem_append, not_or] at ht
    simp only [den] at hr
    cases ho : opF c with
    | none => rw [ho] at hr; exact absurd hr.symm hno
    | some z =>
      rw [ho] at hr
      simp only at hr
      cases hz : z.run tm <;> rw [hz] at hr <;> try (exact absurd hr.symm hno)
      rename_i b
      cases b with
      | true => exact ihx _ _ _ ht.1 hr hno
      | false => exact ihy _ _ _ ht.2 hr hno
  | block id x ih =>
    intro tm h out ht hr hno
    simp only [asg] at ht
    simp only [den] at hr
    cases hx : (den cx g x).run q cf tm h with
    | no => rw [hx] at hr; exact absurd hr.symm hno
    | norm tm1 h1 => rw [hx] at hr; have := ih _ _ _ ht hx (by simp); subst hr; exact this
    | ret tm1 h1 => rw [hx] at hr; have := ih _ _ _ ht hx (by simp); subst hr; exact this
    | exit j tm1 h1 =>
      rw [hx] at hr
      have h2 := ih _ _ _ ht hx (by simp)
      have hr' : (@Bool.rec (fun _ => AOut) (AOut.exit j tm1 h1) (AOut.norm tm1 h1) (Nat.beq j id)) = out := hr
      cases hb : Nat.beq j id with
      | true => rw [hb] at hr'; subst hr'; exact h2
      | false => rw [hb] at hr'; subst hr'; exact h2
  | loop x ih ihr =>
    intro tm h out ht hr hno
    simp only [asg] at ht
    rw [den_loop] at hr
    cases hS : mapSh x with
    | none => rw [hS] at hr; exact loopK_asg (fun tm h out hr hno => ih tm h out ht hr hno) 100000 tm h out hr hno
    | some S =>
      rw [hS] at hr
      have M := mapSh_spec hS
      obtain ⟨id, o1, o2, hx, _, _, _, _, d1, d2⟩ := M.shape
      rcases mapLoop_inv hr with h1 | ⟨i, m, since, es, _, _, _, _, h1⟩
      · exact loopK_asg (fun tm h out hr hno => ih tm h out ht hr hno) 100000 tm h out h1.symm hno
      · subst hx
        simp only [asg, List.filterMap_cons, d1, d2, List.filterMap_nil, List.mem_append, List.mem_cons, List.not_mem_nil, or_false, not_or] at ht
        exact mapRule_asg (fun tm h out hr hno => ihr tm h out ht.2 hr hno) (fun hd => by rcases M.sub _ hd with e | e | e; exact ht.1.1 e; exact ht.1.2 e; exact ht.2 e) ht.1.2 ht.1.1 h1 hno
  | scope x ih => intro tm h out ht hr hno; simp only [asg] at ht; simp only [den] at hr; exact ih tm h out ht hr hno
  | rangeFunc => intro tm h out ht hr hno; simp only [den] at hr; exact absurd hr.symm hno
  | goto => intro tm h out ht hr hno; simp only [den] at hr; exact absurd hr.symm hno
  | refuse => intro tm h out ht hr hno; simp only [den] at hr; exact absurd hr.symm hno
end Go.Abs

namespace Go.Abs
variable {P : Program} {σ : Val} {cx : Cx}

theorem encI_inj {S T : List Nat} (h : encI S = encI T) : S = T := by
  have h1 : (S.map fun n => Value.int .i64 (Int.ofNat n)) = T.map fun n => Value.int .i64 (Int.ofNat n) := by
    have := Value.tuple.inj h
    simpa using congrArg Array.toList this
  clear h
  induction S generalizing T with
  | nil => cases T with
    | nil => rfl
    | cons b T => simp at h1
  | cons a S ih =>
    cases T with
    | nil => simp at h1
    | cons b T =>
      simp only [List.map_cons, List.cons.injEq] at h1
      obtain ⟨h2, h3⟩ := h1
      have : a = b := by
        have := (Value.int.inj h2).2
        exact Int.ofNat.inj this
      rw [this, ih h3]

theorem mapOf_uniq {E : Env} : ∀ {m a b : Option Nat}, mapOf E m a → mapOf E m b → a = b
  | none, _, _, h, k => h.trans k.symm
  | some _, _, _, ⟨q, hq, h⟩, ⟨r, hr, k⟩ => by rw [hq] at hr; cases hr; rw [h, k]
theorem preOf_uniq {E : Env} : ∀ {m : Option Nat} {S T : List Nat}, preOf E m S → preOf E m T → S = T
  | none, _, _, h, k => h.trans k.symm
  | some _, _, _, ⟨q, hq, h⟩, ⟨r, hr, k⟩ => by rw [hq] at hr; cases hr; exact encI_inj (h.symm.trans k)

/-- an object told in the elder words -/
theorem objRel_back {E0 E2 : Env} {B : Nat} {wS w : World} {p : Pl} {o : AO} (hE : E0.le E2) (h0 : objRel E0 B wS p o) (h2 : objRel E2 B w p o) : objRel E0 B w p o := by
  cases o with
  | cells cs ro es =>
    obtain ⟨ha, v0, hv0, _⟩ := h0
    obtain ⟨_, v2, hv2, hro, hrw⟩ := h2
    have := concs_mono hE _ _ hv0
    rw [hv2] at this; cases this
    exact ⟨ha, v0, hv0, hro, hrw⟩
  | map es clock =>
    obtain ⟨hB, l0, hl0, _⟩ := h0
    obtain ⟨_, l2, hl2, hw⟩ := h2
    have := concE_mono hE _ _ hl0
    rw [hl2] at this; cases this
    exact ⟨hB, l0, hl0, hw⟩
  | iter m since last seen pre =>
    obtain ⟨hB, ho, mb0, S0, hm0, hp0, _⟩ := h0
    obtain ⟨_, _, mb2, S2, hm2, hp2, hw⟩ := h2
    have e1 := mapOf_uniq hm2 (mapOf_mono hE hm0)
    have e2 := preOf_uniq hp2 (preOf_mono hE hp0)
    subst e1; subst e2
    exact ⟨hB, ho, mb2, S2, hm0, hp0, hw⟩

/-! ## the head of a loop over a map -/
/-- holes for temporaries, from n on -/
noncomputable def holesA : List Nat → Nat → Tm → Tm
  | [], _, tm => tm
  | t :: D, n, tm => holesA D (n + 1) (tm.set t (.hole n))

theorem holesA_off {t : Nat} : ∀ (D : List Nat) (n : Nat) (tm : Tm), t ∉ D → (holesA D n tm).at t = tm.at t
  | [], _, _, _ => rfl
  | d :: D, n, tm, h => by
    simp only [holesA]
    rw [holesA_off D _ _ (fun e => h (List.mem_cons_of_mem _ e)), Tm.at_set, if_neg (fun e => h (by subst e; exact List.mem_cons_self))]
theorem holesA_on {t : Nat} : ∀ (D : List Nat) (n : Nat) (tm : Tm), t ∈ D → D.Nodup → ∃ k, k < D.length ∧ D[k]? = some t ∧ (holesA D n tm).at t = .hole (n + k)
  | d :: D, n, tm, h, hd => by
    simp only [holesA]
    rcases List.mem_cons.1 h with rfl | h'
    · refine ⟨0, by simp, rfl, ?_⟩
      rw [holesA_off D _ _ (List.nodup_cons.1 hd).1, Tm.at_set, if_pos rfl]; rfl
    · obtain ⟨k, h1, h2, h3⟩ := holesA_on D (n + 1) (tm.set d (.hole n)) h' (List.nodup_cons.1 hd).2
      exact ⟨k + 1, by simp; omega, by simpa using h2, by rw [h3]; congr 1; omega⟩

/-- the head's memory: what was seen is the tag's -/
noncomputable def headH (h : AH) (i m since nD : Nat) : AH := ⟨{ Hp.put (some (.iter (some m) since since [] (some h.next))) h.objs i with log := [] }, h.next + 1 + nD⟩

/-- the head's names: of the old what they were; the tag; the holes' values -/
def headE (E : Env) (n : Nat) (D : List Nat) (w : World) (X : List Nat) (a : Act) : Env :=
  { E with φ := fun j => if j < n then E.φ j else if j = n then some ⟨w.heap.size, 0, 0, encI X⟩ else match D[j - (n + 1)]? with
      | some t => some ⟨w.heap.size, 0, 0, a.tmps.getD t undef⟩
      | none => E.φ j }
theorem headE_le {E : Env} {n : Nat} {D : List Nat} {w : World} {X : List Nat} {a : Act} (hf : ∀ j, n ≤ j → j < n + 1 + D.length → E.φ j = none) : E.le (headE E n D w X a) :=
  ⟨fun j p hj => by
    simp only [headE]
    by_cases h1 : j < n
    · rw [if_pos h1]; exact hj
    · rw [if_neg h1]
      by_cases h2 : j = n
      · rw [hf j (by omega) (by omega)] at hj; cases hj
      · rw [if_neg h2]
        cases hD : D[j - (n + 1)]? with
        | none => exact hj
        | some t =>
          have := (List.getElem?_eq_some_iff.1 hD).1
          exact absurd (hj.symm.trans (hf j (by omega) (by omega))) (by simp), rfl⟩

theorem head_tm {E : Env} {n : Nat} {D : List Nat} {w : World} {X : List Nat} {a a0 : Act} {tm tm2 : Tm} (hd : D.Nodup) (hle : E.le (headE E n D w X a)) (h0 : TmRel E tm a0) {E2 : Env} (hE2 : E.le E2) (h2 : TmRel E2 tm2 a)
    (hs : ∀ t, t ∉ D → tm2.at t = tm.at t) : TmRel (headE E n D w X a) (holesA D (n + 1) tm) a := by
  intro t
  by_cases ht : t ∈ D
  · obtain ⟨k, h1, h3, h4⟩ := holesA_on D (n + 1) tm ht hd
    rw [h4]
    simp only [conc, headE]
    rw [if_neg (by omega), if_neg (by omega)]
    have : n + 1 + k - (n + 1) = k := by omega
    rw [this, h3]; rfl
  · rw [holesA_off D _ _ ht]
    have e1 := h2 t
    rw [hs t ht] at e1
    have e0 := conc_mono hE2 _ _ (h0 t)
    rw [e1] at e0
    have := conc_mono hle _ _ (h0 t)
    rw [this]; exact e0.symm
theorem headH_get {h : AH} {i m since nD : Nat} (j : Nat) : (headH h i m since nD).objs.get j = if j = i then some (.iter (some m) since since [] (some h.next)) else h.objs.get j := by
  show (Hp.put (some (.iter (some m) since since [] (some h.next))) h.objs i).get j = _
  exact Hp.get_put _ _ _ _

/-- back at the head, X seen -/
theorem head_post {E0 E2 : Env} {B : Nat} {w0 wS w : World} {h h2 : AH} {i m since : Nat} {D X seen0 : List Nat} {last0 : Nat} {pre0 : Option Nat} {pi q : Pl} {a : Act} (hr0 : Rel E0 B w0 h wS) (hi : h.objs.get i = some (.iter (some m) since last0 seen0 pre0)) (hpi : E0.φ i = some pi) (hq : E0.φ m = some q)
    (hf : ∀ j, h.next ≤ j → j < h.next + 1 + D.length → E0.φ j = none) (p : Post E0 B w0 h wS E2 h2 w) (hsame : ∀ j, j < h.next → j ≠ i → h2.objs.get j = h.objs.get j)
    (hw : w.heap[pi.block]? = some (.mapIter (some q.block) since X.toArray since)) : Post E0 B w0 h wS (headE E0 h.next D wS X a) (headH h i m since D.length) w := by
  have hle : E0.le (headE E0 h.next D wS X a) := headE_le hf
  have lt : ∀ j o, h.objs.get j = some o → j < h.next := fun j o hj => by
    rcases Nat.lt_or_ge j h.next with h' | h'
    · exact h'
    · rw [hr0.ok j h'] at hj; cases hj
  have hold : ∀ j, j < h.next → (headE E0 h.next D wS X a).φ j = E0.φ j := fun j hj => by simp only [headE, if_pos hj]
  have hin := lt i _ hi
  have get : ∀ j o, (headH h i m since D.length).objs.get j = some o → j < h.next ∧ ∃ o', h.objs.get j = some o' ∧ (o.rw = o'.rw) := fun j o hj => by
    rw [headH_get] at hj
    split at hj
    · rename_i e; subst e; cases hj; exact ⟨hin, _, hi, rfl⟩
    · exact ⟨lt j o hj, o, hj, rfl⟩
  obtain ⟨hB, hoff, _⟩ := hr0.objs i _ pi hi hpi
  refine { ext := hle, only := ?_, rel := ?_, hid := ?_, dom := ?_, frame := p.frame, newb := ?_, grow := p.grow, next := by simp only [headH]; omega }
  · intro j hj
    simp only [headH] at hj
    rcases hj with hj | hj
    · exact hold j hj
    · simp only [headE]
      rw [if_neg (by omega), if_neg (by omega), List.getElem?_eq_none (by omega)]
  · refine { objs := ?_, inj := ?_, below := p.rel.below, base := hr0.base, ok := ?_, glob := hr0.glob }
    · intro j o pj hj hpj
      obtain ⟨hjn, _, _, _⟩ := get j o hj
      rw [hold j hjn] at hpj
      rw [headH_get] at hj
      split at hj
      · rename_i e; subst e; cases hj
        rw [hpi] at hpj; cases hpj
        refine ⟨hB, hoff, some q.block, X, ⟨q, hle.1 _ _ hq, rfl⟩, ⟨⟨wS.heap.size, 0, 0, encI X⟩, ?_, rfl⟩, by simpa using hw⟩
        simp [headE]
      · rename_i hne
        have h1 := hr0.objs j o pj hj hpj
        have h3 := p.rel.objs j o pj (by rw [hsame j hjn hne]; exact hj) (by rw [p.only j (.inl hjn)]; exact hpj)
        exact objRel_mono hle (objRel_back p.ext h1 h3)
    · intro j k o o' pj pk hj hk hpj hpk hrw hrw' hne
      obtain ⟨hjn, oj, hoj, ej⟩ := get j o hj
      obtain ⟨hkn, ok, hok, ek⟩ := get k o' hk
      rw [hold j hjn] at hpj
      rw [hold k hkn] at hpk
      exact hr0.inj j k oj ok pj pk hoj hok hpj hpk (ej ▸ hrw) (ek ▸ hrw') hne
    · intro j hj
      simp only [headH] at hj
      rw [headH_get, if_neg (by omega)]
      exact hr0.ok j (by omega)
  · intro j hj hn
    rw [headH_get, if_neg (fun e => by subst e; rw [hpi] at hn; cases hn)]
  · intro j o' hj ho
    obtain ⟨_, o, h1, h2⟩ := get j o' ho
    exact ⟨o, h1, fun h => h2 ▸ h⟩
  · intro j pj h1 h2 hp
    left
    simp only [headH] at h2
    simp only [headE] at hp
    rw [if_neg (by omega)] at hp
    split at hp
    · cases hp; exact Nat.le_refl _
    · split at hp
      · cases hp; exact Nat.le_refl _
      · rw [hf j h1 (by omega)] at hp; cases hp
end Go.Abs

namespace Go.Abs
variable {P : Program} {σ : Val} {cx : Cx}

/-! ## the loop over a map: what is run (the soundness is not written yet) -/
/-- a round with the entry (k, v, b) -/
noncomputable def roundOut (body : K) (D : List Nat) (t c i m since : Nat) (tm : Tm) (h : AH) (k v : AV) (b : Nat) : AOut :=
  body (((holesA D (h.next + 1) tm).set t (.tup [.bool true, k, v])).set c (.bool true)) ⟨{ Hp.put (some (.iter (some m) since since [b] (some h.next))) h.objs i with log := [] }, h.next + 1 + D.length⟩
/-- nothing is left -/
noncomputable def overOut (body : K) (D : List Nat) (t c i m since : Nat) (tm : Tm) (h : AH) : AOut :=
  body (((holesA D (h.next + 1) tm).set t (.tup [.bool false])).set c (.bool false)) (headH h i m since D.length)

def allGe (n : Nat) : List Nat → Bool
  | [] => true
  | j :: l => match Nat.ble n j with
    | true => allGe n l
    | false => false
noncomputable def sameOn (a b : Tm) : List Nat → Bool
  | [] => true
  | t :: W => match avEq (a.at t) (b.at t) with
    | true => sameOn a b W
    | false => false
noncomputable def quiet (W : List Nat) (n : Nat) (tm : Tm) : AOut → Bool
  | .norm tm' h' => match sameOn tm' tm W with
    | true => allGe n h'.objs.log
    | false => false
  | _ => false

theorem allGe_spec {n : Nat} : ∀ {l : List Nat}, allGe n l = true → ∀ j ∈ l, n ≤ j
  | [], _, j, hj => by cases hj
  | x :: l, h, j, hj => by
    simp only [allGe] at h
    split at h
    · rename_i hx
      rcases List.mem_cons.1 hj with rfl | hj
      · exact Nat.ble_eq ▸ hx
      · exact allGe_spec h j hj
    · cases h
theorem sameOn_spec {a b : Tm} : ∀ {W : List Nat}, sameOn a b W = true → ∀ t ∈ W, a.at t = b.at t
  | [], _, j, hj => by cases hj
  | x :: l, h, j, hj => by
    simp only [sameOn] at h
    split at h
    · rename_i hx
      rcases List.mem_cons.1 hj with rfl | hj
      · exact avEq_eq _ _ hx
      · exact sameOn_spec h j hj
    · cases h

/-- what a quiet round tells -/
theorem quiet_spec {q : Kn} (hq : cx.put q = cx) {cf : CallF} (hc : CfExt cf) {g : Nat} {rest : Code} {D W : List Nat} {t c i m since : Nat} {tm : Tm} {h : AH} {k v : AV} {b : Nat}
    (ht : t ∈ D) (hcD : c ∈ D) (hasg : ∀ x, x ∈ asg rest → x ∈ D ∨ x ∈ W) (hdis : ∀ x, x ∈ W → x ∉ D)
    (hqt : quiet W h.next tm (roundOut ((den cx g rest).run q cf) D t c i m since tm h k v b) = true) :
    ∃ tm' h', roundOut ((den cx g rest).run q cf) D t c i m since tm h k v b = .norm tm' h' ∧ (∀ x, x ∉ D → tm'.at x = tm.at x) ∧ (∀ j, j < h.next → h'.objs.get j = if j = i then some (.iter (some m) since since [b] (some h.next)) else h.objs.get j) := by
  unfold quiet at hqt
  split at hqt
  case h_2 => cases hqt
  rename_i tm' h' ho
  split at hqt
  case h_2 => cases hqt
  rename_i hs
  refine ⟨tm', h', ho, fun x hx => ?_, fun j hj => ?_⟩
  · have off : (((holesA D (h.next + 1) tm).set t (.tup [.bool true, k, v])).set c (.bool true)).at x = tm.at x := by
      rw [Tm.at_set, if_neg (fun e : x = c => hx (by rw [e]; exact hcD)), Tm.at_set, if_neg (fun e : x = t => hx (by rw [e]; exact ht)), holesA_off _ _ _ hx]
    by_cases hxW : x ∈ W
    · exact sameOn_spec hs x hxW
    · have := den_asg hq (cf := cf) g rest _ _ _ (fun e => (hasg x e).elim hx hxW) ho (by simp)
      exact this.trans off
  · obtain ⟨l, h1, h2⟩ := den_ext hq hc g rest _ _ _ ho (by simp)
    have hl : j ∉ l := fun e => by
      have := allGe_spec hqt j (by rw [show h'.objs.log = l ++ [] from h1]; simpa using e)
      omega
    have := h2 j hl
    simp only [AOut.heap] at this
    rw [this]
    exact Hp.get_put _ _ _ _

/-- at the head, X seen -/
def AtHead (E0 : Env) (B : Nat) (w0 : World) (h : AH) (wS : World) (D : List Nat) (i m since nt : Nat) (tm : Tm) (X : List Nat) (a : Act) (w : World) : Prop :=
  ∃ E1, ActOK E1 nt (holesA D (h.next + 1) tm) a ∧ Post E0 B w0 h wS E1 (headH h i m since D.length) w ∧ preOf E1 (some h.next) X

/-- a quiet round leads from X to X and its entry -/
theorem quiet_round {q : Kn} (hq : cx.put q = cx) {cf : CallF} (hce : CfExt cf) {g nt : Nat} {rest : Code} (hsd : ∀ tm h out, (den cx g rest).run q cf tm h = out → out ≠ .no → CodeS P σ nt rest tm h out)
    {D W : List Nat} {t c i m since : Nat} {tm : Tm} {h : AH} {k v : AV} {b : Nat} (hd : D.Nodup) (ht : t ∈ D) (hcD : c ∈ D) (hasg : ∀ x, x ∈ asg rest → x ∈ D ∨ x ∈ W) (hdis : ∀ x, x ∈ W → x ∉ D)
    (hqt : quiet W h.next tm (roundOut ((den cx g rest).run q cf) D t c i m since tm h k v b) = true)
    {E0 E1 : Env} {B : Nat} {w0 wS w w1 : World} {a0 a1 : Act} {pi mq : Pl} {last0 : Nat} {seen0 : List Nat} {pre0 : Option Nat} {X : List Nat} (hσ : E0.σ = σ) (hr0 : Rel E0 B w0 h wS) (ha0 : ActOK E0 nt tm a0)
    (hi : h.objs.get i = some (.iter (some m) since last0 seen0 pre0)) (hpi : E0.φ i = some pi) (hmq : E0.φ m = some mq)
    (hfr : ∀ tm' h', roundOut ((den cx g rest).run q cf) D t c i m since tm h k v b = .norm tm' h' → ∀ j, h.next ≤ j → j < h'.next → E0.φ j = none)
    (hpost : Post E0 B w0 h wS E1 (headH h i m since D.length) w) (hX : preOf E1 (some h.next) X)
    (hstep : Post E1 B w0 (headH h i m since D.length) w E1 ⟨{ Hp.put (some (.iter (some m) since since [b] (some h.next))) h.objs i with log := [] }, h.next + 1 + D.length⟩ w1)
    (ha1 : ActOK E1 nt (((holesA D (h.next + 1) tm).set t (.tup [.bool true, k, v])).set c (.bool true)) a1) {Q : Exit → Act → World → Prop}
    (hQ : ∀ a' w', AtHead E0 B w0 h wS D i m since nt tm (X ++ [b]) a' w' → Q .normal a' w') : rest.wp P Q a1 w1 := by
  obtain ⟨tm', h', ho, htm, hob⟩ := quiet_spec hq hce ht hcD hasg hdis hqt
  have hfr := hfr tm' h' ho
  obtain ⟨n1, n2⟩ := hsd _ _ _ ho (by simp)
  simp only [AOut.heap] at n1 n2
  refine n2 E1 B w0 w1 a1 (hpost.ext.2.trans hσ) ha1 hstep.rel ?_ Q ?_
  · intro j h1 h2
    simp only at h1
    rw [hpost.only j (.inr (by simpa only [headH] using h1))]
    exact hfr j (by omega) h2
  · rintro e a' w' ⟨rfl, E2, hact, hp2⟩
    have pall : Post E0 B w0 h wS E2 h' w' := (hpost.trans hstep).trans hp2
    have hin : i < h.next := by
      rcases Nat.lt_or_ge i h.next with h' | h'
      · exact h'
      · rw [hr0.ok i h'] at hi; cases hi
    have hgi := hob i hin
    rw [if_pos rfl] at hgi
    obtain ⟨_, _, mb, S, hmb, hS, hw⟩ := pall.rel.objs i _ pi hgi (by rw [pall.only i (.inl hin)]; exact hpi)
    have e12 : E1.le E2 := Env.le_trans hstep.ext hp2.ext
    have eS : S = X := preOf_uniq hS (preOf_mono e12 hX)
    have eM : mb = some mq.block := mapOf_uniq hmb ⟨mq, pall.ext.1 _ _ hmq, rfl⟩
    subst eS; subst eM
    have hnn : h.next + 1 + D.length ≤ h'.next := n1
    have hf : ∀ j, h.next ≤ j → j < h.next + 1 + D.length → E0.φ j = none := fun j h1 h2 => hfr j h1 (by omega)
    refine hQ a' w' ⟨headE E0 h.next D wS (S ++ [b]) a', ⟨?_, hact.size, hact.defers⟩, ?_, ?_⟩
    · exact head_tm hd (headE_le hf) ha0.tm pall.ext hact.tm htm
    · exact head_post hr0 hi hpi hmq hf pall (fun j hj hne => by rw [hob j hj, if_neg hne]) hw
    · exact ⟨⟨wS.heap.size, 0, 0, encI (S ++ [b])⟩, by simp [headE], rfl⟩

theorem Post.congr {E E' : Env} {B : Nat} {w0 w w' : World} {h h1 h2 : AH} (p : Post E B w0 h w E' h1 w') (hg : ∀ j, h2.objs.get j = h1.objs.get j) (hn : h2.next = h1.next) : Post E B w0 h w E' h2 w' where
  ext := p.ext
  only := fun i hi => p.only i (by rw [hn] at hi; exact hi)
  rel := { objs := fun i o q hi hq => p.rel.objs i o q (by rw [← hg]; exact hi) hq, inj := fun i j o o' a b hi hj => p.rel.inj i j o o' a b (by rw [← hg]; exact hi) (by rw [← hg]; exact hj), below := p.rel.below, base := p.rel.base,
           ok := fun i hi => by rw [hg]; exact p.rel.ok i (by rw [← hn]; exact hi), glob := p.rel.glob }
  hid := fun i hi he => by rw [hg]; exact p.hid i hi he
  dom := fun i o' hi ho => p.dom i o' hi (by rw [← hg]; exact ho)
  frame := p.frame
  newb := fun i q h1 h2 hq => p.newb i q h1 (by rw [← hn]; exact h2) hq
  grow := p.grow
  next := by rw [hn]; exact p.next

/-- the iterator's block turns -/
theorem head_step {E0 E1 : Env} {B : Nat} {w0 wS w w1 : World} {h : AH} {D X : List Nat} {i m since b : Nat} {pi mq : Pl} (hpost : Post E0 B w0 h wS E1 (headH h i m since D.length) w) (hin : i < h.next) (hpi : E0.φ i = some pi) (hmq : E0.φ m = some mq)
    (hX : preOf E1 (some h.next) X) (hdr : w1 = w ∨ w1 = w.drew) :
    Post E1 B w0 (headH h i m since D.length) w E1 ⟨{ Hp.put (some (.iter (some m) since since [b] (some h.next))) h.objs i with log := [] }, h.next + 1 + D.length⟩
      { w1 with heap := w1.heap.setIfInBounds pi.block (.mapIter (some mq.block) since (X ++ [b]).toArray since) } := by
  have hgi : (headH h i m since D.length).objs.get i = some (.iter (some m) since since [] (some h.next)) := by rw [headH_get, if_pos rfl]
  have hpi1 : E1.φ i = some pi := hpost.ext.1 _ _ hpi
  have key : ∀ w1, Rel E1 B w0 (headH h i m since D.length) w1 → Post E1 B w0 (headH h i m since D.length) w1 E1 ⟨{ Hp.put (some (.iter (some m) since since [b] (some h.next))) h.objs i with log := [] }, h.next + 1 + D.length⟩
      { w1 with heap := w1.heap.setIfInBounds pi.block (.mapIter (some mq.block) since (X ++ [b]).toArray since) } := fun w1 hr => by
    obtain ⟨hB, h0, _⟩ := hr.objs i _ pi hgi hpi1
    refine Post.congr (Post.write hr (o' := .iter (some m) since since [b] (some h.next)) hgi hpi1 rfl _ fun w' hw' => ⟨hB, h0, some mq.block, X, ⟨mq, hpost.ext.1 _ _ hmq, rfl⟩, hX, hw'⟩) (fun j => ?_) rfl
    show (Hp.put _ h.objs i).get j = (Hp.set (headH h i m since D.length).objs i _).get j
    rw [Hp.get_put, Hp.get_set, headH_get]
    by_cases e : j = i <;> simp [e]
  rcases hdr with rfl | rfl
  · exact key _ hpost.rel
  · exact (Post.drew0 hpost.rel).trans (key _ hpost.rel.drew)
end Go.Abs

namespace Go.Abs
open Go.RowKit
variable {P : Program} {σ : Val} {cx : Cx}

/-- the head's region: next, and whether something came -/
theorem region_next {id : Nat} {o1 o2 : Oper} {it : Nat} {t c : Nat} {a : Act} {w w1 : World} {V : Value} {vs : Array Value} {bb : Bool} {Q : Exit → Act → World → Prop}
    (g1 : o1.guard = none) (g2 : o2.guard = none) (p1 : o1.op = .next (.tmp it) false) (p2 : o2.op = .extract (.tmp t) 0) (d1 : o1.dst = some t) (d2 : o2.dst = some c) (ht : t < a.tmps.size)
    (hrun : (Instr.next (a.tmps.getD it undef) false o1.type).run P w = .ok V w1) (hV : V = .tuple vs) (hb : vs[0]? = some (.bool bb))
    (hQ : Q .normal ((a.put (some t) V).put (some c) (.bool bb)) w1) : (Code.region id #[o1, o2] false).wp P Q a w := by
  refine wp_region ?_
  have hr : List.range (#[o1, o2] : Array Oper).size = [0, 1] := rfl
  rw [hr]
  have w1' : ∀ y, Region.wanted o1 y = true := fun y => by simp [Region.wanted, g1]
  have w2' : ∀ y, Region.wanted o2 y = true := fun y => by simp [Region.wanted, g2]
  have i0 : (#[o1, o2] : Array Oper)[0]? = some o1 := rfl
  have i1 : (#[o1, o2] : Array Oper)[1]? = some o2 := rfl
  simp only [wpOps, i0, i1, w1', w2', if_true]
  refine .inl ?_
  unfold Oper.wp
  have e1 : (execOp a.eval o1).run P w = .ok (.value V) w1 := by
    simp only [execOp, p1]
    exact run_v (by simpa [Act.eval] using hrun)
  rw [e1]
  refine .inl ?_
  have e2 : (execOp (a.put o1.dst V).eval o2).run P w1 = .ok (.value (.bool bb)) w1 := by
    simp only [execOp, p2]
    refine run_v ?_
    have : (a.put o1.dst V).eval (.tmp t) = V := by
      rw [d1]; simp [Act.put, Act.eval, ht]
    rw [this, hV]
    simp [Instr.extract, hb]
  rw [e2, d1]
  show Q .normal ((a.put (some t) V).put o2.dst (.bool bb)) w1
  rw [d2]; exact hQ

theorem concE_mem {E : Env} : ∀ {es : List (AV × AV × Nat)} {l : List MapEntry}, concE E es = some l → ∀ e ∈ l, ∃ k v, (k, v, e.born) ∈ es ∧ conc E k = some e.key ∧ conc E v = some e.val
  | [], l, h, e, he => by simp [concE] at h; subst h; cases he
  | (k, v, b) :: es, l, h, e, he => by
    obtain ⟨k', v', l', h1, h2, h3, rfl⟩ := concE_cons h
    rcases List.mem_cons.1 he with rfl | he
    · exact ⟨k, v, List.mem_cons_self, h1, h2⟩
    · obtain ⟨k2, v2, h4, h5, h6⟩ := concE_mem h3 e he
      exact ⟨k2, v2, List.mem_cons_of_mem _ h4, h5, h6⟩

theorem concE_mem2 {E : Env} : ∀ {es : List (AV × AV × Nat)} {l : List MapEntry}, concE E es = some l → ∀ {k v : AV} {b : Nat}, (k, v, b) ∈ es → ∃ e, e ∈ l ∧ e.born = b
  | [], l, h, k, v, b, he => by cases he
  | (k0, v0, b0) :: es, l, h, k, v, b, he => by
    obtain ⟨k', v', l', h1, h2, h3, rfl⟩ := concE_cons h
    rcases List.mem_cons.1 he with he | he
    · cases he; exact ⟨_, List.mem_cons_self, rfl⟩
    · obtain ⟨e, h4, h5⟩ := concE_mem2 h3 he
      exact ⟨e, List.mem_cons_of_mem _ h4, h5⟩

theorem count_lt {es : List (AV × AV × Nat)} {S : List Nat} {k v : AV} {b : Nat} (h : (k, v, b) ∈ es) (hb : S.contains b = false) :
    (es.filter fun e => !(S ++ [b]).contains e.2.2).length < (es.filter fun e => !S.contains e.2.2).length := by
  have e1 : (es.filter fun e => !(S ++ [b]).contains e.2.2) = (es.filter fun e => !S.contains e.2.2).filter fun e => !(e.2.2 == b) := by
    rw [List.filter_filter]
    congr 1
    funext e
    have : (e.2.2 == b) = decide (e.2.2 = b) := by by_cases h : e.2.2 = b <;> simp [h]
    simp [Bool.and_comm, this]
  rw [e1, List.length_filter_lt_length_iff_exists]
  exact ⟨(k, v, b), List.mem_filter.2 ⟨h, by simpa using hb⟩, by simp⟩

theorem rounds_ind {R : Code} {Q : Exit → Act → World → Prop} {St : List Nat → Act → World → Prop} (μ : List Nat → Nat)
    (hs : ∀ X a w n, St X a w → (∀ X' a' w', μ X' < μ X → St X' a' w' → Code.rounds P R Q n a' w') → Code.rounds P R Q (n + 1) a w) : ∀ n X a w, μ X < n → St X a w → Code.rounds P R Q n a w
  | 0, _, _, _, h, _ => absurd h (Nat.not_lt_zero _)
  | n + 1, X, a, w, h, hst => hs X a w n hst fun X' a' w' hlt hst' => rounds_ind μ hs n X' a' w' (by omega) hst'

/-- at the head: the iterator steps -/
theorem node_step {nt : Nat} {rest : Code} {D : List Nat} {t c i m since : Nat} {tm : Tm} {h : AH} (htn : t < nt) (hcn : c < nt)
    {es : List (AV × AV × Nat)} (hm : h.objs.get m = some (.map es since)) (hborn : ∀ k v b, (k, v, b) ∈ es → b < since)
    {E0 : Env} {B : Nat} {w0 wS : World} {pi mq : Pl} {last0 : Nat} {seen0 : List Nat} {pre0 : Option Nat} (hr0 : Rel E0 B w0 h wS)
    (hi : h.objs.get i = some (.iter (some m) since last0 seen0 pre0)) (hpi : E0.φ i = some pi) (hmq : E0.φ m = some mq)
    {id it : Nat} {o1 o2 : Oper} (g1 : o1.guard = none) (g2 : o2.guard = none) (p1 : o1.op = .next (.tmp it) false) (p2 : o2.op = .extract (.tmp t) 0) (d1 : o1.dst = some t) (d2 : o2.dst = some c)
    (hit : tm.at it = .ptr i 0) (hitD : it ∉ D) {K : Act → World → Prop} {Q : Exit → Act → World → Prop} {X : List Nat} {a : Act} {w : World} (hat : AtHead E0 B w0 h wS D i m since nt tm X a w)
    (hover : ∀ (E1 : Env) (a1 : Act), (∀ k v b, (k, v, b) ∈ es → X.contains b = true) → ActOK E1 nt (((holesA D (h.next + 1) tm).set t (.tup [.bool false])).set c (.bool false)) a1 → Post E0 B w0 h wS E1 (headH h i m since D.length) w → rest.wp P (Exit.then K Q) a1 w)
    (hround : ∀ (k v : AV) (b : Nat) (E1 : Env) (a1 : Act) (w1 : World), (k, v, b) ∈ es → X.contains b = false → Post E0 B w0 h wS E1 (headH h i m since D.length) w → preOf E1 (some h.next) X →
      Post E1 B w0 (headH h i m since D.length) w E1 ⟨{ Hp.put (some (.iter (some m) since since [b] (some h.next))) h.objs i with log := [] }, h.next + 1 + D.length⟩ w1 →
      ActOK E1 nt (((holesA D (h.next + 1) tm).set t (.tup [.bool true, k, v])).set c (.bool true)) a1 → rest.wp P (Exit.then K Q) a1 w1) :
    (Code.seq (.region id #[o1, o2] false) rest).wp P (Exit.then K Q) a w := by
  obtain ⟨E1, hact, hpost, hX⟩ := hat
  refine wp_seq ?_
  have hin : i < h.next := by
    rcases Nat.lt_or_ge i h.next with h' | h'
    · exact h'
    · rw [hr0.ok i h'] at hi; cases hi
  have hne : m ≠ i := fun e => by subst e; rw [hi] at hm; cases hm
  have hpi1 : E1.φ i = some pi := hpost.ext.1 _ _ hpi
  have hmq1 : E1.φ m = some mq := hpost.ext.1 _ _ hmq
  obtain ⟨_, hoff, mb, S, hmb, hS, hw⟩ := hpost.rel.objs i _ pi (by rw [headH_get, if_pos rfl]) hpi1
  have eS : S = X := preOf_uniq hS hX
  have eM : mb = some mq.block := mapOf_uniq hmb ⟨mq, hmq1, rfl⟩
  subst eS; subst eM
  obtain ⟨_, l, hl, hwm⟩ := hpost.rel.objs m _ mq (by rw [headH_get, if_neg hne]; exact hm) hmq1
  have hitv : a.tmps.getD it undef = .pointer (some ⟨pi.block, 0, none⟩) := by
    have := hact.tm it
    rw [holesA_off _ _ _ hitD, hit] at this
    simp only [conc, hpi1, Option.map_some, hoff, Nat.add_zero, Option.some.injEq] at this
    exact this.symm
  have hts : t < a.tmps.size := Nat.lt_of_lt_of_le htn hact.size
  rcases run_next_at (P := P) w o1.type pi.block mq.block since since (S ++ []).toArray l.toArray since hw hwm (fun x hx => by
      obtain ⟨k, v, h1, _, _⟩ := concE_mem hl x (by simpa using hx)
      exact hborn k v x.born h1) (Nat.le_refl _) with ⟨hz, hrun⟩ | ⟨e, he, w1, hdr, hrun⟩
  · refine region_next g1 g2 p1 p2 d1 d2 hts (by rw [hitv]; exact hrun) rfl rfl ?_
    refine hover E1 _ (fun k v b hmem => ?_) ?_ hpost
    · obtain ⟨x, hx, hxb⟩ := concE_mem2 hl hmem
      cases hc : S.contains b with
      | true => rfl
      | false =>
        have : x ∈ leftOf l.toArray (S ++ []).toArray := by
          simp only [leftOf, Array.mem_filter, List.mem_toArray]
          refine ⟨hx, ?_⟩
          rw [hxb]
          simpa using hc
        rw [Array.eq_empty_of_size_eq_zero hz] at this
        simp at this
    · have := (hact.put (v := .tup [.bool false]) (V := .tuple #[.bool false]) rfl (dst := some t) (fun d hd => by cases hd; exact htn))
      exact this.put (v := .bool false) (V := .bool false) rfl (dst := some c) (fun d hd => by cases hd; exact hcn)
  · obtain ⟨he1, he2⟩ : e ∈ l ∧ S.contains e.born = false := by simpa [leftOf] using he
    obtain ⟨k, v, hmem, hk, hv⟩ := concE_mem hl e he1
    refine region_next g1 g2 p1 p2 d1 d2 hts (by rw [hitv]; exact hrun) rfl rfl ?_
    have hstep := head_step (b := e.born) hpost hin hpi hmq hX hdr
    refine hround k v e.born E1 _ _ hmem he2 hpost hX (by simpa [Go.ChangeMaps.setBlock] using hstep) ?_
    have := (hact.put (v := .tup [.bool true, k, v]) (V := .tuple #[.bool true, e.key, e.val]) (conc_next hk hv) (dst := some t) (fun d hd => by cases hd; exact htn))
    exact this.put (v := .bool true) (V := .bool true) rfl (dst := some c) (fun d hd => by cases hd; exact hcn)
end Go.Abs

namespace Go.Abs
open Go.RowKit
variable {P : Program} {σ : Val} {cx : Cx}

/-! ## rounds that do away with their own entries -/
/-- the map has lost entries; all else is as it was -/
structure Lost (h : AH) (G : Hp AO) (m since : Nat) (es esG : List (AV × AV × Nat)) : Prop where
  was : h.objs.get m = some (.map es since)
  now : G.get m = some (.map esG since)
  sub : esG.Sublist es
  same : ∀ j, j ≠ m → G.get j = h.objs.get j
theorem concE_sub {E : Env} : ∀ {es esG : List (AV × AV × Nat)} {l : List MapEntry}, esG.Sublist es → concE E es = some l → ∃ l', concE E esG = some l'
  | _, _, _, .slnil, h => ⟨_, h⟩
  | _, _, _, .cons (k, v, b) s, h => by
    obtain ⟨k', v', l', h1, h2, h3, rfl⟩ := concE_cons h
    exact concE_sub s h3
  | _, _, _, .cons_cons (k, v, b) s, h => by
    obtain ⟨k', v', l', h1, h2, h3, rfl⟩ := concE_cons h
    obtain ⟨l2, h4⟩ := concE_sub s h3
    exact ⟨⟨k', v', b⟩ :: l2, by simp only [concE, h1, h2, h4]⟩

/-- back at the head, X seen, some entries gone -/
theorem head_postG {E0 E2 : Env} {B : Nat} {w0 wS w : World} {h h2 : AH} {G : Hp AO} {i m since : Nat} {es esG : List (AV × AV × Nat)} {D X seen0 : List Nat} {last0 : Nat} {pre0 : Option Nat} {pi q : Pl} {a : Act} (hr0 : Rel E0 B w0 h wS) (hG : Lost h G m since es esG) (hi : h.objs.get i = some (.iter (some m) since last0 seen0 pre0)) (hpi : E0.φ i = some pi) (hq : E0.φ m = some q)
    (hf : ∀ j, h.next ≤ j → j < h.next + 1 + D.length → E0.φ j = none) (p : Post E0 B w0 h wS E2 h2 w) (hsame : ∀ j, j < h.next → j ≠ i → h2.objs.get j = G.get j)
    (hw : w.heap[pi.block]? = some (.mapIter (some q.block) since X.toArray since)) : Post E0 B w0 h wS (headE E0 h.next D wS X a) (headH ⟨G, h.next⟩ i m since D.length) w := by
  have hle : E0.le (headE E0 h.next D wS X a) := headE_le hf
  have hne : m ≠ i := fun e => by subst e; have := hG.was; rw [hi] at this; cases this
  have lt0 : ∀ j o, h.objs.get j = some o → j < h.next := fun j o hj => by
    rcases Nat.lt_or_ge j h.next with h' | h'
    · exact h'
    · rw [hr0.ok j h'] at hj; cases hj
  have hmn := lt0 m _ hG.was
  have orig : ∀ j o, G.get j = some o → ∃ o', h.objs.get j = some o' ∧ o.rw = o'.rw := fun j o hj => by
    by_cases e : j = m
    · subst e; rw [hG.now] at hj; cases hj; exact ⟨_, hG.was, rfl⟩
    · rw [hG.same j e] at hj; exact ⟨o, hj, rfl⟩
  have lt : ∀ j o, G.get j = some o → j < h.next := fun j o hj => by
    obtain ⟨o', h1, _⟩ := orig j o hj; exact lt0 j o' h1
  have hold : ∀ j, j < h.next → (headE E0 h.next D wS X a).φ j = E0.φ j := fun j hj => by simp only [headE, if_pos hj]
  have hin := lt0 i _ hi
  have hget : ∀ j, (headH ⟨G, h.next⟩ i m since D.length).objs.get j = if j = i then some (.iter (some m) since since [] (some h.next)) else G.get j := fun j => headH_get (h := ⟨G, h.next⟩) j
  have get : ∀ j o, (headH ⟨G, h.next⟩ i m since D.length).objs.get j = some o → j < h.next ∧ ∃ o', h.objs.get j = some o' ∧ (o.rw = o'.rw) := fun j o hj => by
    rw [hget] at hj
    split at hj
    · rename_i e; subst e; cases hj; exact ⟨hin, _, hi, rfl⟩
    · exact ⟨lt j o hj, orig j o hj⟩
  obtain ⟨hB, hoff, _⟩ := hr0.objs i _ pi hi hpi
  refine { ext := hle, only := ?_, rel := ?_, hid := ?_, dom := ?_, frame := p.frame, newb := ?_, grow := p.grow, next := by simp only [headH]; omega }
  · intro j hj
    simp only [headH] at hj
    rcases hj with hj | hj
    · exact hold j hj
    · simp only [headE]
      rw [if_neg (by omega), if_neg (by omega), List.getElem?_eq_none (by omega)]
  · refine { objs := ?_, inj := ?_, below := p.rel.below, base := hr0.base, ok := ?_, glob := hr0.glob }
    · intro j o pj hj hpj
      obtain ⟨hjn, _, _, _⟩ := get j o hj
      rw [hold j hjn] at hpj
      rw [hget] at hj
      split at hj
      · rename_i e; subst e; cases hj
        rw [hpi] at hpj; cases hpj
        refine ⟨hB, hoff, some q.block, X, ⟨q, hle.1 _ _ hq, rfl⟩, ⟨⟨wS.heap.size, 0, 0, encI X⟩, ?_, rfl⟩, by simpa using hw⟩
        simp [headE]
      · rename_i hni
        have h3 := p.rel.objs j o pj (by rw [hsame j hjn hni]; exact hj) (by rw [p.only j (.inl hjn)]; exact hpj)
        by_cases e : j = m
        · subst e
          rw [hG.now] at hj; cases hj
          obtain ⟨hB0, l0, hl0, _⟩ := hr0.objs j _ pj hG.was hpj
          obtain ⟨_, l2, hl2, hw2⟩ := h3
          obtain ⟨lg, hlg⟩ := concE_sub hG.sub hl0
          have := concE_mono p.ext _ _ hlg
          rw [hl2] at this; cases this
          exact objRel_mono hle ⟨hB0, _, hlg, hw2⟩
        · have h1 := hr0.objs j o pj (by rw [← hG.same j e]; exact hj) hpj
          exact objRel_mono hle (objRel_back p.ext h1 h3)
    · intro j k o o' pj pk hj hk hpj hpk hrw hrw' hne
      obtain ⟨hjn, oj, hoj, ej⟩ := get j o hj
      obtain ⟨hkn, ok, hok, ek⟩ := get k o' hk
      rw [hold j hjn] at hpj
      rw [hold k hkn] at hpk
      exact hr0.inj j k oj ok pj pk hoj hok hpj hpk (ej ▸ hrw) (ek ▸ hrw') hne
    · intro j hj
      simp only [headH] at hj
      rw [hget, if_neg (by omega), hG.same j (by omega)]
      exact hr0.ok j (by omega)
  · intro j hj hn
    by_cases e : j = m
    · subst e; rw [hq] at hn; cases hn
    · rw [hget, if_neg (fun e => by subst e; rw [hpi] at hn; cases hn), hG.same j e]
  · intro j o' hj ho
    obtain ⟨_, o, h1, h2⟩ := get j o' ho
    exact ⟨o, h1, fun h => h2 ▸ h⟩
  · intro j pj h1 h2 hp
    left
    simp only [headH] at h2
    simp only [headE] at hp
    rw [if_neg (by omega)] at hp
    split at hp
    · cases hp; exact Nat.le_refl _
    · split at hp
      · cases hp; exact Nat.le_refl _
      · rw [hf j h1 (by omega)] at hp; cases hp

/-- at the head, X seen, some entries gone -/
def AtG (E0 : Env) (B : Nat) (w0 : World) (h : AH) (wS : World) (D : List Nat) (i m since nt : Nat) (tm : Tm) (X : List Nat) (G : Hp AO) (a : Act) (w : World) : Prop :=
  ∃ E1, ActOK E1 nt (holesA D (h.next + 1) tm) a ∧ Post E0 B w0 h wS E1 (headH ⟨G, h.next⟩ i m since D.length) w ∧ preOf E1 (some h.next) X

theorem head_stepG {E0 E1 : Env} {B : Nat} {w0 wS w w1 : World} {h0 h : AH} {D X : List Nat} {i m since b : Nat} {pi mq : Pl} (hpost : Post E0 B w0 h0 wS E1 (headH h i m since D.length) w) (hpi1 : E1.φ i = some pi) (hmq1 : E1.φ m = some mq)
    (hX : preOf E1 (some h.next) X) (hdr : w1 = w ∨ w1 = w.drew) :
    Post E1 B w0 (headH h i m since D.length) w E1 ⟨{ Hp.put (some (.iter (some m) since since [b] (some h.next))) h.objs i with log := [] }, h.next + 1 + D.length⟩
      { w1 with heap := w1.heap.setIfInBounds pi.block (.mapIter (some mq.block) since (X ++ [b]).toArray since) } := by
  have hgi : (headH h i m since D.length).objs.get i = some (.iter (some m) since since [] (some h.next)) := by rw [headH_get, if_pos rfl]
  have key : ∀ w1, Rel E1 B w0 (headH h i m since D.length) w1 → Post E1 B w0 (headH h i m since D.length) w1 E1 ⟨{ Hp.put (some (.iter (some m) since since [b] (some h.next))) h.objs i with log := [] }, h.next + 1 + D.length⟩
      { w1 with heap := w1.heap.setIfInBounds pi.block (.mapIter (some mq.block) since (X ++ [b]).toArray since) } := fun w1 hr => by
    obtain ⟨hB, h0, _⟩ := hr.objs i _ pi hgi hpi1
    refine Post.congr (Post.write hr (o' := .iter (some m) since since [b] (some h.next)) hgi hpi1 rfl _ fun w' hw' => ⟨hB, h0, some mq.block, X, ⟨mq, hmq1, rfl⟩, hX, hw'⟩) (fun j => ?_) rfl
    show (Hp.put _ h.objs i).get j = (Hp.set (headH h i m since D.length).objs i _).get j
    rw [Hp.get_put, Hp.get_set, headH_get]
    by_cases e : j = i <;> simp [e]
  rcases hdr with rfl | rfl
  · exact key _ hpost.rel
  · exact (Post.drew0 hpost.rel).trans (key _ hpost.rel.drew)

theorem node_stepG {nt : Nat} {rest : Code} {D : List Nat} {t c i m since : Nat} {tm : Tm} {h : AH} {G : Hp AO} (htn : t < nt) (hcn : c < nt)
    {es esG : List (AV × AV × Nat)} (hG : Lost h G m since es esG) (hborn : ∀ k v b, (k, v, b) ∈ es → b < since)
    {E0 : Env} {B : Nat} {w0 wS : World} {pi mq : Pl} {last0 : Nat} {seen0 : List Nat} {pre0 : Option Nat}
    (hi : h.objs.get i = some (.iter (some m) since last0 seen0 pre0)) (hpi : E0.φ i = some pi) (hmq : E0.φ m = some mq)
    {id it : Nat} {o1 o2 : Oper} (g1 : o1.guard = none) (g2 : o2.guard = none) (p1 : o1.op = .next (.tmp it) false) (p2 : o2.op = .extract (.tmp t) 0) (d1 : o1.dst = some t) (d2 : o2.dst = some c)
    (hit : tm.at it = .ptr i 0) (hitD : it ∉ D) {K : Act → World → Prop} {Q : Exit → Act → World → Prop} {X : List Nat} {a : Act} {w : World} (hat : AtG E0 B w0 h wS D i m since nt tm X G a w)
    (hover : ∀ (E1 : Env) (a1 : Act), (∀ k v b, (k, v, b) ∈ esG → X.contains b = true) → ActOK E1 nt (((holesA D (h.next + 1) tm).set t (.tup [.bool false])).set c (.bool false)) a1 → Post E0 B w0 h wS E1 (headH ⟨G, h.next⟩ i m since D.length) w → rest.wp P (Exit.then K Q) a1 w)
    (hround : ∀ (k v : AV) (b : Nat) (E1 : Env) (a1 : Act) (w1 : World), (k, v, b) ∈ esG → X.contains b = false → Post E0 B w0 h wS E1 (headH ⟨G, h.next⟩ i m since D.length) w → preOf E1 (some h.next) X →
      Post E1 B w0 (headH ⟨G, h.next⟩ i m since D.length) w E1 ⟨{ Hp.put (some (.iter (some m) since since [b] (some h.next))) G i with log := [] }, h.next + 1 + D.length⟩ w1 →
      ActOK E1 nt (((holesA D (h.next + 1) tm).set t (.tup [.bool true, k, v])).set c (.bool true)) a1 → rest.wp P (Exit.then K Q) a1 w1) :
    (Code.seq (.region id #[o1, o2] false) rest).wp P (Exit.then K Q) a w := by
  obtain ⟨E1, hact, hpost, hX⟩ := hat
  refine wp_seq ?_
  have hne : m ≠ i := fun e => by subst e; have := hG.was; rw [hi] at this; cases this
  have hpi1 : E1.φ i = some pi := hpost.ext.1 _ _ hpi
  have hmq1 : E1.φ m = some mq := hpost.ext.1 _ _ hmq
  have hget : ∀ j, (headH ⟨G, h.next⟩ i m since D.length).objs.get j = if j = i then some (.iter (some m) since since [] (some h.next)) else G.get j := fun j => headH_get (h := ⟨G, h.next⟩) j
  obtain ⟨_, hoff, mb, S, hmb, hS, hw⟩ := hpost.rel.objs i _ pi (by rw [hget, if_pos rfl]) hpi1
  have eS : S = X := preOf_uniq hS hX
  have eM : mb = some mq.block := mapOf_uniq hmb ⟨mq, hmq1, rfl⟩
  subst eS; subst eM
  obtain ⟨_, l, hl, hwm⟩ := hpost.rel.objs m _ mq (by rw [hget, if_neg hne]; exact hG.now) hmq1
  have hitv : a.tmps.getD it undef = .pointer (some ⟨pi.block, 0, none⟩) := by
    have := hact.tm it
    rw [holesA_off _ _ _ hitD, hit] at this
    simp only [conc, hpi1, Option.map_some, hoff, Nat.add_zero, Option.some.injEq] at this
    exact this.symm
  have hts : t < a.tmps.size := Nat.lt_of_lt_of_le htn hact.size
  rcases run_next_at (P := P) w o1.type pi.block mq.block since since (S ++ []).toArray l.toArray since hw hwm (fun x hx => by
      obtain ⟨k, v, h1, _, _⟩ := concE_mem hl x (by simpa using hx)
      exact hborn k v x.born (hG.sub.subset h1)) (Nat.le_refl _) with ⟨hz, hrun⟩ | ⟨e, he, w1, hdr, hrun⟩
  · refine region_next g1 g2 p1 p2 d1 d2 hts (by rw [hitv]; exact hrun) rfl rfl ?_
    refine hover E1 _ (fun k v b hmem => ?_) ?_ hpost
    · obtain ⟨x, hx, hxb⟩ := concE_mem2 hl hmem
      cases hc : S.contains b with
      | true => rfl
      | false =>
        have : x ∈ leftOf l.toArray (S ++ []).toArray := by
          simp only [leftOf, Array.mem_filter, List.mem_toArray]
          refine ⟨hx, ?_⟩
          rw [hxb]
          simpa using hc
        rw [Array.eq_empty_of_size_eq_zero hz] at this
        simp at this
    · have := (hact.put (v := .tup [.bool false]) (V := .tuple #[.bool false]) rfl (dst := some t) (fun d hd => by cases hd; exact htn))
      exact this.put (v := .bool false) (V := .bool false) rfl (dst := some c) (fun d hd => by cases hd; exact hcn)
  · obtain ⟨he1, he2⟩ : e ∈ l ∧ S.contains e.born = false := by simpa [leftOf] using he
    obtain ⟨k, v, hmem, hk, hv⟩ := concE_mem hl e he1
    refine region_next g1 g2 p1 p2 d1 d2 hts (by rw [hitv]; exact hrun) rfl rfl ?_
    have hstep := head_stepG (b := e.born) (h := ⟨G, h.next⟩) hpost hpi1 hmq1 hX hdr
    refine hround k v e.born E1 _ _ hmem he2 hpost hX (by simpa [Go.ChangeMaps.setBlock] using hstep) ?_
    have := (hact.put (v := .tup [.bool true, k, v]) (V := .tuple #[.bool true, e.key, e.val]) (conc_next hk hv) (dst := some t) (fun d hd => by cases hd; exact htn))
    exact this.put (v := .bool true) (V := .bool true) rfl (dst := some c) (fun d hd => by cases hd; exact hcn)

/-- a round leads from G to G' -/
theorem roundG {q : Kn} {cf : CallF} {g nt : Nat} {rest : Code} (hsd : ∀ tm h out, (den cx g rest).run q cf tm h = out → out ≠ .no → CodeS P σ nt rest tm h out)
    {D : List Nat} {t c i m since : Nat} {tm tm' : Tm} {h h' : AH} {G G' : Hp AO} {k v : AV} {b : Nat} (hd : D.Nodup)
    (ho : roundOut ((den cx g rest).run q cf) D t c i m since tm ⟨G, h.next⟩ k v b = .norm tm' h') (htm : ∀ x, x ∉ D → tm'.at x = tm.at x) (hob : ∀ j, j < h.next → h'.objs.get j = if j = i then some (.iter (some m) since since [b] (some h.next)) else G'.get j)
    {E0 E1 : Env} {B : Nat} {w0 wS w w1 : World} {a0 a1 : Act} {pi mq : Pl} {last0 : Nat} {seen0 : List Nat} {pre0 : Option Nat} {X : List Nat} {es esG' : List (AV × AV × Nat)} (hσ : E0.σ = σ) (hr0 : Rel E0 B w0 h wS) (ha0 : ActOK E0 nt tm a0) (hG' : Lost h G' m since es esG')
    (hi : h.objs.get i = some (.iter (some m) since last0 seen0 pre0)) (hpi : E0.φ i = some pi) (hmq : E0.φ m = some mq)
    (hfr : ∀ j, h.next ≤ j → j < h'.next → E0.φ j = none)
    (hpost : Post E0 B w0 h wS E1 (headH ⟨G, h.next⟩ i m since D.length) w) (hX : preOf E1 (some h.next) X)
    (hstep : Post E1 B w0 (headH ⟨G, h.next⟩ i m since D.length) w E1 ⟨{ Hp.put (some (.iter (some m) since since [b] (some h.next))) G i with log := [] }, h.next + 1 + D.length⟩ w1)
    (ha1 : ActOK E1 nt (((holesA D (h.next + 1) tm).set t (.tup [.bool true, k, v])).set c (.bool true)) a1) {Q : Exit → Act → World → Prop}
    (hQ : ∀ a' w', AtG E0 B w0 h wS D i m since nt tm (X ++ [b]) G' a' w' → Q .normal a' w') : rest.wp P Q a1 w1 := by
  obtain ⟨n1, n2⟩ := hsd _ _ _ ho (by simp)
  simp only [AOut.heap] at n1 n2
  refine n2 E1 B w0 w1 a1 (hpost.ext.2.trans hσ) ha1 hstep.rel ?_ Q ?_
  · intro j h1 h2
    simp only at h1
    rw [hpost.only j (.inr (by simpa only [headH] using h1))]
    exact hfr j (by omega) h2
  · rintro e a' w' ⟨rfl, E2, hact, hp2⟩
    have pall : Post E0 B w0 h wS E2 h' w' := (hpost.trans hstep).trans hp2
    have hin : i < h.next := by
      rcases Nat.lt_or_ge i h.next with h' | h'
      · exact h'
      · rw [hr0.ok i h'] at hi; cases hi
    have hgi := hob i hin
    rw [if_pos rfl] at hgi
    obtain ⟨_, _, mb, S, hmb, hS, hw⟩ := pall.rel.objs i _ pi hgi (by rw [pall.only i (.inl hin)]; exact hpi)
    have e12 : E1.le E2 := Env.le_trans hstep.ext hp2.ext
    have eS : S = X := preOf_uniq hS (preOf_mono e12 hX)
    have eM : mb = some mq.block := mapOf_uniq hmb ⟨mq, pall.ext.1 _ _ hmq, rfl⟩
    subst eS; subst eM
    have hnn : h.next + 1 + D.length ≤ h'.next := n1
    have hf : ∀ j, h.next ≤ j → j < h.next + 1 + D.length → E0.φ j = none := fun j h1 h2 => hfr j h1 (by omega)
    refine hQ a' w' ⟨headE E0 h.next D wS (S ++ [b]) a', ⟨?_, hact.size, hact.defers⟩, ?_, ?_⟩
    · exact head_tm hd (headE_le hf) ha0.tm pall.ext hact.tm htm
    · exact head_postG hr0 hG' hi hpi hmq hf pall (fun j hj hne => by rw [hob j hj, if_neg hne]) hw
    · exact ⟨⟨wS.heap.size, 0, 0, encI (S ++ [b])⟩, by simp [headE], rfl⟩
end Go.Abs

namespace Go.Abs
open Go.RowKit
variable {P : Program} {σ : Val} {cx : Cx}

/-! ## the rule for loops over maps is sound -/
theorem lenN_eq : ∀ D : List Nat, lenN D = D.length
  | [] => rfl
  | _ :: D => congrArg Nat.succ (lenN_eq D)
theorem holesR_eq : ∀ (D : List Nat) (n : Nat) (tm : Tm), holesR D n tm = holesA D n tm
  | [], _, _ => rfl
  | d :: D, n, tm => by
    show holesR D (n + 1) ((setF d).run (AV.hole n) tm) = _
    rw [setF_run, holesR_eq D]; rfl
theorem mapRound_eq (body : K) (S : MapSh) (i m since : Nat) (tm : Tm) (h : AH) (k v : AV) (b : Nat) : mapRound body S i m since tm h (k, v, b) = roundOut body S.D S.t S.c i m since tm h k v b := by
  unfold mapRound roundOut
  rw [setF_run, setF_run, holesR_eq, lenN_eq]
  rfl
theorem mapOver_eq (body : K) (S : MapSh) (i m since : Nat) (tm : Tm) (h : AH) : mapOver body S i m since tm h = overOut body S.D S.t S.c i m since tm h := by
  unfold mapOver overOut
  rw [setF_run, setF_run, holesR_eq, lenN_eq]
  rfl
theorem allGeR_ok (n : Nat) : ∀ l, allGeR n l = true → allGe n l = true
  | [], _ => rfl
  | j :: l, h => by
    have h' : (@Bool.rec (fun _ => Bool) false (allGeR n l) (Nat.ble n j)) = true := h
    simp only [allGe]
    cases hb : Nat.ble n j with
    | false => rw [hb] at h'; cases h'
    | true => rw [hb] at h'; exact allGeR_ok n l h'
theorem sameR_ok (a b : Tm) : ∀ W, sameR a b W = true → sameOn a b W = true
  | [], _ => rfl
  | t :: W, h => by
    have h' : (@Bool.rec (fun _ => Bool) false (sameR a b W) (avEqR ((getF t).run a) ((getF t).run b))) = true := h
    simp only [sameOn]
    cases hb : avEqR ((getF t).run a) ((getF t).run b) with
    | false => rw [hb] at h'; cases h'
    | true =>
      rw [hb] at h'
      rw [getF_run, getF_run] at hb
      rw [avEqR_ok _ _ hb]
      exact sameR_ok a b W h'
theorem quietR_ok {W : List Nat} {n : Nat} {tm : Tm} {o : AOut} (h : quietR W n tm o = true) : quiet W n tm o = true := by
  cases o with
  | norm tm2 h2 =>
    have h' : (@Bool.rec (fun _ => Bool) false (allGeR n h2.objs.log) (sameR tm2 tm W)) = true := h
    simp only [quiet]
    cases hb : sameR tm2 tm W with
    | false => rw [hb] at h'; cases h'
    | true => rw [hb] at h'; rw [sameR_ok _ _ _ hb]; exact allGeR_ok _ _ h'
  | exit _ _ _ => cases h
  | ret _ _ => cases h
  | no => cases h
theorem mxN_eq (a b : Nat) : mxN a b = max a b := by
  unfold mxN
  cases h : Nat.ble a b with
  | true => have : a ≤ b := Nat.ble_eq ▸ h; show b = _; omega
  | false => have : ¬ a ≤ b := fun e => by rw [ble_of e] at h; cases h
             show a = _; omega
theorem topN_ge {body : K} {S : MapSh} {i m since : Nat} {tm : Tm} {h : AH} : ∀ {es : List (AV × AV × Nat)}, ∀ e ∈ es, nextO (mapRound body S i m since tm h e) ≤ topN body S i m since tm h es
  | [], e, he => by cases he
  | x :: es, e, he => by
    have : topN body S i m since tm h (x :: es) = mxN (nextO (mapRound body S i m since tm h x)) (topN body S i m since tm h es) := rfl
    rw [this, mxN_eq]
    rcases List.mem_cons.1 he with rfl | he
    · omega
    · have := topN_ge (body := body) (S := S) (i := i) (m := m) (since := since) (tm := tm) (h := h) e he
      omega
theorem louds_spec {body : K} {S : MapSh} {i m since : Nat} {tm : Tm} {h : AH} : ∀ {es : List (AV × AV × Nat)}, (∀ e ∈ es, e ∈ louds body S i m since tm h es ∨ quietR S.W h.next tm (mapRound body S i m since tm h e) = true) ∧ ∀ e ∈ louds body S i m since tm h es, e ∈ es
  | [] => ⟨fun e he => (by cases he), fun e he => he⟩
  | x :: es => by
    have e0 : louds body S i m since tm h (x :: es) = @Bool.rec (fun _ => List (AV × AV × Nat)) (x :: louds body S i m since tm h es) (louds body S i m since tm h es) (quietR S.W h.next tm (mapRound body S i m since tm h x)) := rfl
    obtain ⟨h1, h2⟩ := louds_spec (body := body) (S := S) (i := i) (m := m) (since := since) (tm := tm) (h := h) (es := es)
    cases hb : quietR S.W h.next tm (mapRound body S i m since tm h x) with
    | true =>
      rw [hb] at e0
      rw [e0]
      refine ⟨fun e he => ?_, fun e he => List.mem_cons_of_mem _ (h2 e he)⟩
      rcases List.mem_cons.1 he with rfl | he
      · exact .inr hb
      · exact h1 e he
    | false =>
      rw [hb] at e0
      rw [e0]
      refine ⟨fun e he => ?_, fun e he => ?_⟩
      · rcases List.mem_cons.1 he with rfl | he
        · exact .inl List.mem_cons_self
        · exact (h1 e he).imp (List.mem_cons_of_mem _) id
      · have he : e ∈ x :: louds body S i m since tm h es := he
        rcases List.mem_cons.1 he with rfl | he
        · exact List.mem_cons_self
        · exact List.mem_cons_of_mem _ (h2 e he)
theorem quietBut_spec {body : K} {S : MapSh} {i m since : Nat} {tm : Tm} {h : AH} {b : Nat} : ∀ {es : List (AV × AV × Nat)}, quietBut body S i m since tm h b es = true → ∀ e ∈ es, e.2.2 ≠ b → quietR S.W h.next tm (mapRound body S i m since tm h e) = true
  | [], _, e, he, _ => by cases he
  | x :: es, hq, e, he, hne => by
    have hq' : (@Bool.rec (fun _ => Bool) (@Bool.rec (fun _ => Bool) false (quietBut body S i m since tm h b es) (quietR S.W h.next tm (mapRound body S i m since tm h x))) (quietBut body S i m since tm h b es) (Nat.beq x.2.2 b)) = true := hq
    cases hb : Nat.beq x.2.2 b with
    | true =>
      rw [hb] at hq'
      rcases List.mem_cons.1 he with rfl | he
      · exact absurd (Nat.eq_of_beq_eq_true hb) hne
      · exact quietBut_spec hq' e he hne
    | false =>
      rw [hb] at hq'
      have hq' : (@Bool.rec (fun _ => Bool) false (quietBut body S i m since tm h b es) (quietR S.W h.next tm (mapRound body S i m since tm h x))) = true := hq'
      cases hc : quietR S.W h.next tm (mapRound body S i m since tm h x) with
      | false => rw [hc] at hq'; cases hq'
      | true =>
        rw [hc] at hq'
        rcases List.mem_cons.1 he with rfl | he
        · exact hc
        · exact quietBut_spec hq' e he hne
theorem bornGo_spec {since : Nat} : ∀ {es : List (AV × AV × Nat)} {p : Nat}, bornGo since es p = true → (∀ e ∈ es, p ≤ e.2.2 ∧ e.2.2 < since) ∧ p ≤ since ∧ ∀ e ∈ es, ∀ e' ∈ es, e.2.2 = e'.2.2 → e = e'
  | [], p, h => ⟨fun e he => (by cases he), Nat.ble_eq ▸ h, fun e he => (by cases he)⟩
  | x :: es, p, h => by
    have h' : (@Bool.rec (fun _ => Bool) false (bornGo since es (Nat.succ x.2.2)) (Nat.ble p x.2.2)) = true := h
    cases hb : Nat.ble p x.2.2 with
    | false => rw [hb] at h'; cases h'
    | true =>
      rw [hb] at h'
      have hp : p ≤ x.2.2 := Nat.ble_eq ▸ hb
      obtain ⟨h1, h2, h3⟩ := bornGo_spec h'
      refine ⟨fun e he => ?_, by omega, fun e he e' he' hee => ?_⟩
      · rcases List.mem_cons.1 he with rfl | he
        · omega
        · have := h1 e he; omega
      · rcases List.mem_cons.1 he with q1 | q1 <;> rcases List.mem_cons.1 he' with q2 | q2
        · rw [q1, q2]
        · have := h1 e' q2; rw [q1] at hee; omega
        · have := h1 e q1; rw [q2] at hee; omega
        · exact h3 e q1 e' q2 hee

theorem Post.bump {E E' : Env} {B : Nat} {w0 w w' : World} {h h1 h2 : AH} (p : Post E B w0 h w E' h1 w') (hg : ∀ j, h2.objs.get j = h1.objs.get j) (hn : h1.next ≤ h2.next) (hf : ∀ j, h1.next ≤ j → j < h2.next → E.φ j = none) : Post E B w0 h w E' h2 w' where
  ext := p.ext
  only := fun i hi => p.only i (hi.imp id fun h => by omega)
  rel := { objs := fun i o q hi hq => p.rel.objs i o q (by rw [← hg]; exact hi) hq, inj := fun i j o o' a b hi hj => p.rel.inj i j o o' a b (by rw [← hg]; exact hi) (by rw [← hg]; exact hj), below := p.rel.below, base := p.rel.base,
           ok := fun i hi => by rw [hg]; exact p.rel.ok i (by omega), glob := p.rel.glob }
  hid := fun i hi he => by rw [hg]; exact p.hid i hi he
  dom := fun i o' hi ho => p.dom i o' hi (by rw [← hg]; exact ho)
  frame := p.frame
  newb := fun i q h1' h2' hq => by
    by_cases hi : i < h1.next
    · exact p.newb i q h1' hi hq
    · rw [p.only i (.inr (by omega)), hf i (by omega) h2'] at hq; cases hq
  grow := p.grow
  next := Nat.le_trans p.next hn

/-- what is run behind the head, told of the whole -/
theorem OutOK.relog {E : Env} {B : Nat} {w0 : World} {h : AH} {w : World} {nt N i : Nat} {h0 : AH} {o : AOut} {e : Exit} {a : Act} {w' : World} (hno : relog N h0 i o ≠ .no) (hf : Fresh E h ((relog N h0 i o).heap h)) (ho : OutOK E B w0 h w nt o e a w') : OutOK E B w0 h w nt (relog N h0 i o) e a w' := by
  have key : ∀ (h2 : AH) (E' : Env), (∀ j, h.next ≤ j → j < mxN N h2.next → E.φ j = none) → Post E B w0 h w E' h2 w' → Post E B w0 h w E' (relogH N h0 i h2) w' := fun h2 E' hf p =>
    p.bump (fun j => rfl) (by show h2.next ≤ mxN N h2.next; rw [mxN_eq]; omega) fun j h1 h3 => hf j (Nat.le_trans p.next h1) h3
  cases o with
  | no => exact absurd rfl hno
  | norm tm h2 => exact absurd rfl hno
  | exit id tm h2 => obtain ⟨he, E', ha, hp⟩ := ho; exact ⟨he, E', ha, key h2 E' hf hp⟩
  | ret tm h2 => obtain ⟨he, E', ha, hp⟩ := ho; exact ⟨he, E', ha, key h2 E' hf hp⟩
/-- a loop's end is no round's -/
theorem OutOK.thenQ {E : Env} {B : Nat} {w0 : World} {h : AH} {w : World} {nt N i : Nat} {h0 : AH} {o : AOut} {e : Exit} {a : Act} {w' : World} (hno : Go.Abs.relog N h0 i o ≠ .no) (ho : OutOK E B w0 h w nt o e a w') {K : Act → World → Prop} {Q : Exit → Act → World → Prop} (hQ : Q e a w') : (Exit.then K Q) e a w' := by
  cases o with
  | no => exact absurd rfl hno
  | norm tm h2 => exact absurd rfl hno
  | exit id tm h2 => obtain ⟨rfl, _⟩ := ho; exact hQ
  | ret tm h2 => obtain ⟨rfl, _⟩ := ho; exact hQ

/-- a round that changes something leads to another head -/
theorem loud_round {q : Kn} {cf : CallF} {g nt : Nat} {rest : Code} (hsd : ∀ tm h out, (den cx g rest).run q cf tm h = out → out ≠ .no → CodeS P σ nt rest tm h out)
    {D : List Nat} {t c i m since : Nat} {tm tm1 : Tm} {h h1 : AH} {k v : AV} {b : Nat} (hd : D.Nodup)
    (ho : roundOut ((den cx g rest).run q cf) D t c i m since tm h k v b = .norm tm1 h1) (hi1 : h1.objs.get i = some (.iter (some m) since since [b] (some h.next)))
    {E0 E1 : Env} {B : Nat} {w0 wS w w1 : World} {a1 : Act} {pi mq : Pl} {X : List Nat} (hσ : E0.σ = σ) (hin : i < h.next) (hpi : E0.φ i = some pi) (hmq : E0.φ m = some mq)
    (hfr : ∀ j, h.next ≤ j → j < h1.next + 1 + D.length → E0.φ j = none)
    (hpost : Post E0 B w0 h wS E1 (headH h i m since D.length) w) (hX : preOf E1 (some h.next) X)
    (hstep : Post E1 B w0 (headH h i m since D.length) w E1 ⟨{ Hp.put (some (.iter (some m) since since [b] (some h.next))) h.objs i with log := [] }, h.next + 1 + D.length⟩ w1)
    (ha1 : ActOK E1 nt (((holesA D (h.next + 1) tm).set t (.tup [.bool true, k, v])).set c (.bool true)) a1) {Q : Exit → Act → World → Prop}
    (hQ : ∀ E2 a' w', Post E0 B w0 h wS E2 h1 w' → ActOK E2 nt tm1 a' → AtHead E2 B w0 h1 w' D i m since nt tm1 (X ++ [b]) a' w' → Q .normal a' w') : rest.wp P Q a1 w1 := by
  obtain ⟨n1, n2⟩ := hsd _ _ _ ho (by simp)
  simp only [AOut.heap] at n1 n2
  refine n2 E1 B w0 w1 a1 (hpost.ext.2.trans hσ) ha1 hstep.rel ?_ Q ?_
  · intro j h1' h2'
    simp only at h1'
    rw [hpost.only j (.inr (by simpa only [headH] using h1'))]
    exact hfr j (by omega) (by omega)
  · rintro e a' w' ⟨rfl, E2, hact, hp2⟩
    have pall : Post E0 B w0 h wS E2 h1 w' := (hpost.trans hstep).trans hp2
    have hpi2 : E2.φ i = some pi := pall.ext.1 _ _ hpi
    have hmq2 : E2.φ m = some mq := pall.ext.1 _ _ hmq
    obtain ⟨_, _, mb, S, hmb, hS, hw⟩ := pall.rel.objs i _ pi hi1 hpi2
    have e12 : E1.le E2 := Env.le_trans hstep.ext hp2.ext
    have eS : S = X := preOf_uniq hS (preOf_mono e12 hX)
    have eM : mb = some mq.block := mapOf_uniq hmb ⟨mq, hmq2, rfl⟩
    subst eS; subst eM
    have hf2 : ∀ j, h1.next ≤ j → j < h1.next + 1 + D.length → E2.φ j = none := fun j h3 h4 => by
      rw [pall.only j (.inr h3)]; exact hfr j (Nat.le_trans pall.next h3) h4
    refine hQ E2 a' w' pall hact ⟨headE E2 h1.next D w' (S ++ [b]) a', ⟨?_, hact.size, hact.defers⟩, ?_, ?_⟩
    · exact head_tm hd (headE_le hf2) hact.tm (Env.le_refl E2) hact.tm (fun _ _ => rfl)
    · exact head_post pall.rel hi1 hpi2 hmq2 hf2 (Post.refl pall.rel) (fun _ _ _ => rfl) hw
    · exact ⟨⟨w'.heap.size, 0, 0, encI (S ++ [b])⟩, by simp [headE], rfl⟩

/-! ### rounds that do away with their own entries -/
theorem keepE_sub (sl : List Nat) : ∀ es : List (AV × AV × Nat), (keepE sl es).Sublist es
  | [] => List.Sublist.refl _
  | e :: es => by
    show (@Bool.rec (fun _ => List (AV × AV × Nat)) (e :: keepE sl es) (keepE sl es) (memB e.2.2 sl)).Sublist (e :: es)
    cases memB e.2.2 sl with
    | true => exact List.Sublist.cons _ (keepE_sub sl es)
    | false => exact List.Sublist.cons_cons _ (keepE_sub sl es)
theorem memB_mem (b : Nat) : ∀ l : List Nat, memB b l = true ↔ b ∈ l
  | [] => by simp [memB]
  | x :: l => by
    show (@Bool.rec (fun _ => Bool) (memB b l) true (Nat.beq x b)) = true ↔ _
    cases e : Nat.beq x b with
    | true => have := Nat.eq_of_beq_eq_true e; subst this; simp
    | false =>
      have hne : ¬ b = x := fun h => by subst h; simp at e
      show memB b l = true ↔ _
      rw [memB_mem b l]; simp [hne]
theorem keepE_nil : ∀ es : List (AV × AV × Nat), keepE [] es = es
  | [] => rfl
  | e :: es => by show e :: keepE [] es = e :: es; rw [keepE_nil es]
theorem keepE_mem (sl : List Nat) (e : AV × AV × Nat) : ∀ es : List (AV × AV × Nat), e ∈ keepE sl es ↔ e ∈ es ∧ e.2.2 ∉ sl
  | [] => by simp [keepE]
  | x :: es => by
    show e ∈ (@Bool.rec (fun _ => List (AV × AV × Nat)) (x :: keepE sl es) (keepE sl es) (memB x.2.2 sl)) ↔ _
    cases hm : memB x.2.2 sl with
    | true =>
      have := (memB_mem _ _).1 hm
      show e ∈ keepE sl es ↔ _
      rw [keepE_mem sl e es]
      constructor
      · exact fun h => ⟨List.mem_cons_of_mem _ h.1, h.2⟩
      · rintro ⟨h1, h2⟩
        rcases List.mem_cons.1 h1 with rfl | h1
        · exact absurd this h2
        · exact ⟨h1, h2⟩
    | false =>
      have hn : x.2.2 ∉ sl := fun h => by rw [(memB_mem _ _).2 h] at hm; cases hm
      show e ∈ x :: keepE sl es ↔ _
      rw [List.mem_cons, keepE_mem sl e es, List.mem_cons]
      constructor
      · rintro (rfl | h)
        · exact ⟨.inl rfl, hn⟩
        · exact ⟨.inr h.1, h.2⟩
      · rintro ⟨rfl | h1, h2⟩
        · exact .inl rfl
        · exact .inr ⟨h1, h2⟩
theorem keepE_congr {a b : List Nat} : ∀ {es : List (AV × AV × Nat)}, (∀ e ∈ es, (e.2.2 ∈ a ↔ e.2.2 ∈ b)) → keepE a es = keepE b es
  | [], _ => rfl
  | e :: es, h => by
    show (@Bool.rec (fun _ => List (AV × AV × Nat)) (e :: keepE a es) (keepE a es) (memB e.2.2 a)) = @Bool.rec (fun _ => List (AV × AV × Nat)) (e :: keepE b es) (keepE b es) (memB e.2.2 b)
    have ih := keepE_congr (a := a) (b := b) (es := es) fun x hx => h x (List.mem_cons_of_mem _ hx)
    have e1 : memB e.2.2 a = memB e.2.2 b := by
      have := h e List.mem_cons_self
      rw [← memB_mem, ← memB_mem] at this
      cases h1 : memB e.2.2 a <;> cases h2 : memB e.2.2 b <;> simp_all
    rw [e1, ih]
theorem addB_eq (L gone : List Nat) (b : Nat) : addB L gone b = L.filter fun x => memB x gone || Nat.beq x b := by
  induction L with
  | nil => rfl
  | cons x L ih =>
    show (@Bool.rec (fun _ => List Nat) (@Bool.rec (fun _ => List Nat) (addB L gone b) (x :: addB L gone b) (Nat.beq x b)) (x :: addB L gone b) (memB x gone)) = _
    rw [List.filter_cons]
    cases memB x gone <;> cases Nat.beq x b <;> simp [ih]
theorem appL_eq (b : List (List Nat)) : ∀ a, appL a b = a ++ b
  | [] => rfl
  | x :: a => congrArg (x :: ·) (appL_eq b a)
theorem consL_eq (x : Nat) : ∀ l, consL x l = l.map (x :: ·)
  | [] => rfl
  | s :: l => congrArg ((x :: s) :: ·) (consL_eq x l)
theorem subsL_mem (p : Nat → Bool) : ∀ L : List Nat, L.filter p ∈ subsL L
  | [] => by simp [subsL]
  | x :: L => by
    show _ ∈ appL (subsL L) (consL x (subsL L))
    rw [appL_eq, consL_eq, List.filter_cons]
    have ih := subsL_mem p L
    split
    · exact List.mem_append_right _ (List.mem_map.2 ⟨_, ih, rfl⟩)
    · exact List.mem_append_left _ ih
theorem allL_get {p : List Nat → Bool} : ∀ {l : List (List Nat)}, allL p l = true → ∀ s ∈ l, p s = true
  | [], _, s, hs => by cases hs
  | x :: l, h, s, hs => by
    have h : (@Bool.rec (fun _ => Bool) false (allL p l) (p x)) = true := h
    cases hx : p x with
    | false => rw [hx] at h; cases h
    | true =>
      rw [hx] at h
      rcases List.mem_cons.1 hs with rfl | hs
      · exact hx
      · exact allL_get h s hs
theorem entsEqR_ok : ∀ {a b : List (AV × AV × Nat)}, entsEqR a b = true → a = b
  | [], [], _ => rfl
  | [], _ :: _, h => by cases h
  | _ :: _, [], h => by cases h
  | (k, v, s) :: a, (k2, v2, s2) :: b, h => by
    have h' : (@Bool.rec (fun _ => Bool) false (@Bool.rec (fun _ => Bool) false (@Bool.rec (fun _ => Bool) false (entsEqR a b) (Nat.beq s s2)) (avEqR v v2)) (avEqR k k2)) = true := h
    cases e1 : avEqR k k2 with
    | false => rw [e1] at h'; cases h'
    | true =>
    cases e2 : avEqR v v2 with
    | false => rw [e1, e2] at h'; cases h'
    | true =>
    cases e3 : Nat.beq s s2 with
    | false => rw [e1, e2, e3] at h'; cases h'
    | true =>
      rw [e1, e2, e3] at h'
      clear h
      have f1 := avEq_eq _ _ (avEqR_ok _ _ e1)
      have f2 := avEq_eq _ _ (avEqR_ok _ _ e2)
      have f3 := Nat.eq_of_beq_eq_true e3
      subst f1; subst f2; subst f3
      rw [entsEqR_ok (a := a) (b := b) h']
theorem onlyM_spec {n m : Nat} : ∀ {l : List Nat}, onlyM n m l = true → ∀ j ∈ l, j = m ∨ n ≤ j
  | [], _, j, hj => by cases hj
  | x :: l, h, j, hj => by
    have h : (@Bool.rec (fun _ => Bool) (@Bool.rec (fun _ => Bool) false (onlyM n m l) (Nat.ble n x)) (onlyM n m l) (Nat.beq x m)) = true := h
    cases e1 : Nat.beq x m with
    | true =>
      rw [e1] at h
      rcases List.mem_cons.1 hj with rfl | hj
      · exact .inl (Nat.eq_of_beq_eq_true e1)
      · exact onlyM_spec h j hj
    | false =>
      cases e2 : Nat.ble n x with
      | false => rw [e1, e2] at h; cases h
      | true =>
        rw [e1, e2] at h
        rcases List.mem_cons.1 hj with rfl | hj
        · exact .inr (Nat.le_of_ble_eq_true e2)
        · exact onlyM_spec h j hj
theorem delOut_inv {W : List Nat} {n m since : Nat} {tm : Tm} {want : List (AV × AV × Nat)} {o : AOut} (h : delOut W n m since tm want o = true) : ∃ tm2 h2, o = .norm tm2 h2 ∧ sameOn tm2 tm W = true ∧ (∀ j ∈ h2.objs.log, j = m ∨ n ≤ j) ∧ h2.objs.get m = some (.map want since) := by
  cases o with
  | no => cases h
  | exit id tm h2 => cases h
  | ret tm h2 => cases h
  | norm tm2 h2 =>
    have h : (@Bool.rec (fun _ => Bool) false (@Bool.rec (fun _ => Bool) false (isMapR (h2.objs.get m) want since) (onlyM n m h2.objs.log)) (sameR tm2 tm W)) = true := h
    cases e1 : sameR tm2 tm W with
    | false => rw [e1] at h; cases h
    | true =>
    cases e2 : onlyM n m h2.objs.log with
    | false => rw [e1, e2] at h; cases h
    | true =>
    rw [e1, e2] at h
    refine ⟨tm2, h2, rfl, sameR_ok _ _ _ e1, onlyM_spec e2, ?_⟩
    have h : isMapR (h2.objs.get m) want since = true := h
    cases ho : h2.objs.get m with
    | none => rw [ho] at h; cases h
    | some o =>
      rw [ho] at h
      cases o with
      | cells _ _ _ => cases h
      | iter _ _ _ _ _ => cases h
      | map es2 c =>
        have h : (@Bool.rec (fun _ => Bool) false (entsEqR es2 want) (Nat.beq c since)) = true := h
        cases e3 : Nat.beq c since with
        | false => rw [e3] at h; cases h
        | true =>
          rw [e3] at h
          have f1 := Nat.eq_of_beq_eq_true e3
          have f2 := entsEqR_ok (a := es2) (b := want) h
          subst f1; subst f2; rfl
theorem delAll_get {body : K} {S : MapSh} {i m since : Nat} {tm : Tm} {h : AH} {es : List (AV × AV × Nat)} {L gone : List Nat} (hr : delAll body S i m since tm h es L gone = true) : ∀ e ∈ keepE gone es, delOne body S i m since tm h es L gone e = true := by
  unfold delAll at hr
  generalize keepE gone es = l at hr ⊢
  induction l with
  | nil => intro e he; cases he
  | cons x l ih =>
    have hr : (@Bool.rec (fun _ => Bool) false (List.rec (motive := fun _ => Bool) true (fun e _ ih => @Bool.rec (fun _ => Bool) false ih (delOne body S i m since tm h es L gone e)) l) (delOne body S i m since tm h es L gone x)) = true := hr
    cases hx : delOne body S i m since tm h es L gone x with
    | false => rw [hx] at hr; cases hr
    | true =>
      rw [hx] at hr
      intro e he
      rcases List.mem_cons.1 he with rfl | he
      · exact hx
      · exact ih hr e he
theorem topD_ge {body : K} {S : MapSh} {i m since : Nat} {tm : Tm} {h : AH} {es : List (AV × AV × Nat)} : ∀ {l : List (List Nat)}, ∀ s ∈ l, ∀ e ∈ keepE s es, nextO (mapRound body S i m since tm (goneH m since h es s) e) ≤ topD body S i m since tm h es l
  | [], s, hs, _, _ => by cases hs
  | x :: l, s, hs, e, he => by
    show _ ≤ mxN (topN body S i m since tm (goneH m since h es x) (keepE x es)) (topD body S i m since tm h es l)
    rw [mxN_eq]
    rcases List.mem_cons.1 hs with rfl | hs
    · exact Nat.le_trans (topN_ge e he) (Nat.le_max_left _ _)
    · exact Nat.le_trans (topD_ge s hs e he) (Nat.le_max_right _ _)
theorem gone_lost {h : AH} {m since : Nat} {es : List (AV × AV × Nat)} (hm : h.objs.get m = some (.map es since)) (s : List Nat) : Lost h (goneH m since h es s).objs m since es (keepE s es) :=
  ⟨hm, by show (Hp.put _ h.objs m).get m = _; rw [Hp.get_put, if_pos rfl], keepE_sub s es, fun j hj => by show (Hp.put _ h.objs m).get j = _; rw [Hp.get_put, if_neg hj]⟩

theorem delRule_sound {q : Kn} (hq : cx.put q = cx) {cf : CallF} (hce : CfExt cf) {g nt : Nat} {S : MapSh} {x : Code} (M : MapOK S x) (htn : S.t < nt) (hcn : S.c < nt)
    (hsd : ∀ tm h out, (den cx g S.rest).run q cf tm h = out → out ≠ .no → CodeS P σ nt S.rest tm h out) {tm : Tm} {h : AH} {i m since : Nat} {es : List (AV × AV × Nat)} {L : List Nat}
    (hit : tm.at S.it = .ptr i 0) (hi : h.objs.get i = some (.iter (some m) since since [] none)) (hm : h.objs.get m = some (.map es since)) (hb : bornB since es = true)
    (hall : allL (delAll ((den cx g S.rest).run q cf) S i m since tm h es L) (subsL L) = true)
    (hno : relog (topD ((den cx g S.rest).run q cf) S i m since tm h es (subsL L)) (goneH m since h es L) i (mapOver ((den cx g S.rest).run q cf) S i m since tm (goneH m since h es L)) ≠ .no) :
    CodeS P σ nt (.loop x) tm h (relog (topD ((den cx g S.rest).run q cf) S i m since tm h es (subsL L)) (goneH m since h es L) i (mapOver ((den cx g S.rest).run q cf) S i m since tm (goneH m since h es L))) := by
  generalize hN : topD ((den cx g S.rest).run q cf) S i m since tm h es (subsL L) = N at hno ⊢
  obtain ⟨hborn, _, huniq⟩ := bornGo_spec hb
  have hborn' : ∀ k v b, (k, v, b) ∈ es → b < since := fun k v b he => (hborn _ he).2
  obtain ⟨id, o1, o2, hx, g1, g2, p1, p2, d1, d2⟩ := M.shape
  have hpi0 : ∀ {E : Env} {a : Act}, ActOK E nt tm a → ∃ pi, E.φ i = some pi := fun {E a} ha => by
    have h := ha.tm S.it
    rw [hit] at h
    cases hp : E.φ i with
    | none => simp [conc, hp] at h
    | some p => exact ⟨p, rfl⟩
  have hne : m ≠ i := fun e => by subst e; rw [hi] at hm; cases hm
  let gone : List Nat → List Nat := fun X => L.filter fun x => X.contains x
  have hgs : ∀ X, gone X ∈ subsL L := fun X => subsL_mem _ L
  have start : ∀ {E : Env} {B : Nat} {w0 w : World} {a : Act} {pi mq : Pl}, ActOK E nt tm a → Rel E B w0 h w → E.φ i = some pi → E.φ m = some mq → (∀ j, h.next ≤ j → j < h.next + 1 + S.D.length → E.φ j = none) → AtG E B w0 h w S.D i m since nt tm [] (goneH m since h es (gone [])).objs a w :=
    fun {E B w0 w a pi mq} ha hrel hpi hmq fr => by
      obtain ⟨hB, hoff, mb, S0, hmb, hS0, hw⟩ := hrel.objs i _ pi hi hpi
      obtain ⟨mq', hmq', rfl⟩ := hmb
      rw [hmq] at hmq'; cases hmq'
      cases hS0
      have e0 : keepE (gone []) es = es := by
        have : gone [] = [] := by simp [gone]
        rw [this]
        exact keepE_nil es
      refine ⟨headE E h.next S.D w [] a, ⟨head_tm M.nodup (headE_le fr) ha.tm (Env.le_refl E) ha.tm (fun _ _ => rfl), ha.size, ha.defers⟩, head_postG hrel (gone_lost hm (gone [])) hi hpi hmq fr (Post.refl hrel) (fun j hj hji => ?_) (by simpa using hw), ⟨⟨w.heap.size, 0, 0, encI []⟩, by simp [headE], rfl⟩⟩
      by_cases ej : j = m
      · subst ej; rw [(gone_lost hm (gone [])).now, e0, hm]
      · exact ((gone_lost hm (gone [])).same j ej).symm
  have mq0 : ∀ {E : Env} {B : Nat} {w0 w : World} {pi : Pl}, Rel E B w0 h w → E.φ i = some pi → ∃ mq, E.φ m = some mq := fun {E B w0 w pi} hrel hpi => by
    obtain ⟨hB, hoff, mb, S0, hmb, hS0, hw⟩ := hrel.objs i _ pi hi hpi
    obtain ⟨mq', hmq', rfl⟩ := hmb
    exact ⟨mq', hmq'⟩
  have flt : ∀ (l : List (AV × AV × Nat)) (X : List Nat), (l.filter fun e => !X.contains e.2.2).length < l.length + 1 := fun l X => Nat.lt_succ_of_le (List.length_filter_le _ _)
  subst hx
  obtain ⟨hno', hh⟩ := relog_heap hno (goneH m since h es L)
  have hno2 := hno'
  rw [mapOver_eq] at hno2
  have hov : overOut ((den cx g S.rest).run q cf) S.D S.t S.c i m since tm (goneH m since h es L) = mapOver ((den cx g S.rest).run q cf) S i m since tm (goneH m since h es L) := (mapOver_eq _ _ _ _ _ _ _).symm
  obtain ⟨on1, on2⟩ := hsd _ _ _ (show _ = overOut ((den cx g S.rest).run q cf) S.D S.t S.c i m since tm (goneH m since h es L) from rfl) hno2
  have hlt : h.next + 1 + S.D.length ≤ ((mapOver ((den cx g S.rest).run q cf) S i m since tm (goneH m since h es L)).heap h).next := by
    have e := on1
    rw [AOut.heap_of hno2 h _] at e
    rw [← hov]
    exact e
  have hnext : ((relog N (goneH m since h es L) i (mapOver ((den cx g S.rest).run q cf) S i m since tm (goneH m since h es L))).heap h).next = max N ((mapOver ((den cx g S.rest).run q cf) S i m since tm (goneH m since h es L)).heap h).next := by
    rw [AOut.heap_of hno (goneH m since h es L) h, hh, AOut.heap_of hno' (goneH m since h es L) h]; exact mxN_eq _ _
  refine ⟨by rw [hnext]; omega, fun E B w0 w a hσ ha hrel hf Q hQ => ?_⟩
  obtain ⟨pi, hpi⟩ := hpi0 ha
  obtain ⟨mq, hmq⟩ := mq0 hrel hpi
  refine wp_loop_rounds (es.length + 1) (rounds_ind (St := fun X a' w' => AtG E B w0 h w S.D i m since nt tm X (goneH m since h es (gone X)).objs a' w') (fun X => (es.filter fun e => !X.contains e.2.2).length) (fun X a' w' n hst hrec => ?_) (es.length + 1) [] a w (flt es []) (start ha hrel hpi hmq fun j h1 h2 => hf j h1 (by rw [hnext]; omega)))
  rw [rounds_succ]
  refine node_stepG htn hcn (gone_lost hm (gone X)) hborn' hi hpi hmq g1 g2 p1 p2 d1 d2 hit M.it hst ?_ ?_
  · intro E1 a1 hover hact hpost
    have hk : keepE (gone X) es = keepE L es := keepE_congr fun e he => by
      constructor
      · exact fun h => (List.mem_filter.1 h).1
      · intro hL
        by_cases hg : e.2.2 ∈ gone X
        · exact hg
        · have := hover e.1 e.2.1 e.2.2 ((keepE_mem _ _ _).2 ⟨he, hg⟩)
          exact List.mem_filter.2 ⟨hL, this⟩
    have hg : goneH m since h es (gone X) = goneH m since h es L := by simp only [goneH, hk]
    rw [hg] at hpost
    refine on2 E1 B w0 w' a1 (hpost.ext.2.trans hσ) hact hpost.rel ?_ _ fun e' a'' w'' hok => ?_
    · intro j h1 h2
      rw [hpost.only j (.inr h1)]
      have h1' : h.next + 1 + S.D.length ≤ j := h1
      refine hf j (by omega) ?_
      rw [AOut.heap_of hno2 h _, hov] at h2
      rw [hnext]; omega
    · have ok2 : OutOK E B w0 h w nt (mapOver ((den cx g S.rest).run q cf) S i m since tm (goneH m since h es L)) e' a'' w'' := hov ▸ OutOK.trans hpost hok
      exact OutOK.thenQ hno ok2 (hQ _ _ _ (OutOK.relog hno hf ok2))
  · intro k v b E1 a1 w1 hmem hnb hpost hX hstep hact
    have h1 := delAll_get (allL_get hall _ (hgs X)) _ hmem
    obtain ⟨tm2, h2, ho, hsame, hlog, hmap⟩ := delOut_inv h1
    have ho2 := ho
    rw [mapRound_eq] at ho2
    have hadd : addB L (gone X) b = gone (X ++ [b]) := by
      rw [addB_eq]
      refine List.filter_congr fun y hy => ?_
      have e1 : memB y (gone X) = X.contains y := by
        cases e : memB y (gone X) with
        | true =>
          have := (List.mem_filter.1 ((memB_mem _ _).1 e)).2
          exact this.symm
        | false =>
          cases e2 : X.contains y with
          | false => rfl
          | true =>
            rw [(memB_mem _ _).2 (List.mem_filter.2 ⟨hy, e2⟩)] at e; cases e
      rw [e1, natBeq_eq]
      simp only [List.contains_eq_mem, List.mem_append, List.mem_singleton, Bool.decide_or]
    have hmem0 := (keepE_sub _ _).subset hmem
    obtain ⟨lg, hl1, hl2⟩ := den_ext hq hce g S.rest _ _ _ ho2 (by simp)
    refine roundG hsd M.nodup ho2 (fun y hy => ?_) (fun j hj => ?_) hσ hrel ha (gone_lost hm (gone (X ++ [b]))) hi hpi hmq (fun j h3 h4 => hf j h3 ?_) hpost hX hstep hact ?_
    · have off : (((holesA S.D (h.next + 1) tm).set S.t (.tup [.bool true, k, v])).set S.c (.bool true)).at y = tm.at y := by
        rw [Tm.at_set, if_neg (fun e : y = S.c => hy (by rw [e]; exact M.c)), Tm.at_set, if_neg (fun e : y = S.t => hy (by rw [e]; exact M.t)), holesA_off _ _ _ hy]
      by_cases hyW : y ∈ S.W
      · exact sameOn_spec hsame y hyW
      · have := den_asg hq (cf := cf) g S.rest _ _ _ (fun e => (M.all _ e).elim hy hyW) ho2 (by simp)
        exact this.trans off
    · by_cases ej : j = m
      · subst ej
        rw [if_neg hne, hmap, (gone_lost hm (gone (X ++ [b]))).now]
        show some (AO.map (keepE (addB L (gone X) b) es) since) = _
        rw [hadd]
      · have hjl : j ∉ lg := fun e => by
          rcases hlog j (by rw [show h2.objs.log = lg ++ [] from hl1]; simpa using e) with e1 | e1
          · exact ej e1
          · have : h.next ≤ j := e1
            omega
        have := hl2 j hjl
        simp only [AOut.heap] at this
        rw [this]
        show (Hp.put _ (goneH m since h es (gone X)).objs i).get j = _
        rw [Hp.get_put, (gone_lost hm (gone X)).same j ej, (gone_lost hm (gone (X ++ [b]))).same j ej]
        rfl
    · have e1 := topD_ge (body := (den cx g S.rest).run q cf) (S := S) (i := i) (m := m) (since := since) (tm := tm) (h := h) _ (hgs X) _ hmem
      rw [hN, ho] at e1
      have e1 : h2.next ≤ N := e1
      rw [hnext]; omega
    · intro a'' w'' hat
      exact hrec (X ++ [b]) a'' w'' (count_lt hmem0 hnb) hat

theorem mapRule_sound {q : Kn} (hq : cx.put q = cx) {cf : CallF} (hce : CfExt cf) {g nt : Nat} {S : MapSh} {x : Code} (M : MapOK S x) (htn : S.t < nt) (hcn : S.c < nt)
    (hsd : ∀ tm h out, (den cx g S.rest).run q cf tm h = out → out ≠ .no → CodeS P σ nt S.rest tm h out) {tm : Tm} {h : AH} {i m since : Nat} {es : List (AV × AV × Nat)} {out : AOut}
    (hit : tm.at S.it = .ptr i 0) (hi : h.objs.get i = some (.iter (some m) since since [] none)) (hm : h.objs.get m = some (.map es since)) (hb : bornB since es = true)
    (hr : mapRule ((den cx g S.rest).run q cf) S i m since tm h es = out) (hno : out ≠ .no) : CodeS P σ nt (.loop x) tm h out := by
  obtain ⟨hborn, _, huniq⟩ := bornGo_spec hb
  have hborn' : ∀ k v b, (k, v, b) ∈ es → b < since := fun k v b he => (hborn _ he).2
  obtain ⟨id, o1, o2, hx, g1, g2, p1, p2, d1, d2⟩ := M.shape
  have hbody := hsd
  -- the over path from a head
  have over : ∀ {tm0 : Tm} {h0 : AH}, mapOver ((den cx g S.rest).run q cf) S i m since tm0 h0 ≠ .no → h0.next + 1 + S.D.length ≤ ((mapOver ((den cx g S.rest).run q cf) S i m since tm0 h0).heap h0).next := fun {tm0 h0} hn => by
    rw [mapOver_eq] at hn ⊢
    have := (hsd _ _ _ (show _ = overOut ((den cx g S.rest).run q cf) S.D S.t S.c i m since tm0 h0 from rfl) hn).1
    rw [AOut.heap_of hn h0 _] at this
    simpa only [headH] using this
  have qn : ∀ {tm0 : Tm} {h0 : AH} {k v : AV} {b : Nat} {tm' : Tm} {h' : AH}, roundOut ((den cx g S.rest).run q cf) S.D S.t S.c i m since tm0 h0 k v b = .norm tm' h' → nextO (mapRound ((den cx g S.rest).run q cf) S i m since tm0 h0 (k, v, b)) = h'.next := fun ho => by
    rw [mapRound_eq, ho]; rfl
  have hpi0 : ∀ {E : Env} {a : Act}, ActOK E nt tm a → ∃ pi, E.φ i = some pi := fun {E a} ha => by
    have h := ha.tm S.it
    rw [hit] at h
    cases hp : E.φ i with
    | none => simp [conc, hp] at h
    | some p => exact ⟨p, rfl⟩
  have start : ∀ {E : Env} {B : Nat} {w0 w : World} {a : Act} {pi mq : Pl}, ActOK E nt tm a → Rel E B w0 h w → E.φ i = some pi → E.φ m = some mq → (∀ j, h.next ≤ j → j < h.next + 1 + S.D.length → E.φ j = none) → AtHead E B w0 h w S.D i m since nt tm [] a w :=
    fun {E B w0 w a pi mq} ha hrel hpi hmq fr => by
      obtain ⟨hB, hoff, mb, S0, hmb, hS0, hw⟩ := hrel.objs i _ pi hi hpi
      obtain ⟨mq', hmq', rfl⟩ := hmb
      rw [hmq] at hmq'; cases hmq'
      cases hS0
      exact ⟨headE E h.next S.D w [] a, ⟨head_tm M.nodup (headE_le fr) ha.tm (Env.le_refl E) ha.tm (fun _ _ => rfl), ha.size, ha.defers⟩, head_post hrel hi hpi hmq fr (Post.refl hrel) (fun _ _ _ => rfl) (by simpa using hw), ⟨⟨w.heap.size, 0, 0, encI []⟩, by simp [headE], rfl⟩⟩
  have mq0 : ∀ {E : Env} {B : Nat} {w0 w : World} {pi : Pl}, Rel E B w0 h w → E.φ i = some pi → ∃ mq, E.φ m = some mq := fun {E B w0 w pi} hrel hpi => by
    obtain ⟨hB, hoff, mb, S0, hmb, hS0, hw⟩ := hrel.objs i _ pi hi hpi
    obtain ⟨mq', hmq', rfl⟩ := hmb
    exact ⟨mq', hmq'⟩
  have hin : ∀ {E : Env} {B : Nat} {w0 w : World}, Rel E B w0 h w → i < h.next := fun hrel => by
    rcases Nat.lt_or_ge i h.next with h' | h'
    · exact h'
    · rw [hrel.ok i h'] at hi; cases hi
  have flt : ∀ (l : List (AV × AV × Nat)) (X : List Nat), (l.filter fun e => !X.contains e.2.2).length < l.length + 1 := fun l X => Nat.lt_succ_of_le (List.length_filter_le _ _)
  subst hx
  rcases mapRule_inv hr hno with ⟨hl, rfl⟩ | ⟨L, hL, rfl⟩ | ⟨e, hl, ⟨tm1, h1, ho, rfl⟩ | ⟨rfl, hnn⟩⟩
  rotate_left
  · exact delRule_sound hq hce M htn hcn hsd hit hi hm hb hL hno
  rotate_right
  · -- all entries are quiet
    obtain ⟨hno', hh⟩ := relog_heap hno h
    have hlt := over hno'
    have hnext : ((relog (topN ((den cx g S.rest).run q cf) S i m since tm h es) h i (mapOver ((den cx g S.rest).run q cf) S i m since tm h)).heap h).next = max (topN ((den cx g S.rest).run q cf) S i m since tm h es) ((mapOver ((den cx g S.rest).run q cf) S i m since tm h).heap h).next := by
      rw [hh]; exact mxN_eq _ _
    refine ⟨by rw [hnext]; omega, fun E B w0 w a hσ ha hrel hf Q hQ => ?_⟩
    obtain ⟨pi, hpi⟩ := hpi0 ha
    obtain ⟨mq, hmq⟩ := mq0 hrel hpi
    refine wp_loop_rounds (es.length + 1) (rounds_ind (St := fun X a' w' => AtHead E B w0 h w S.D i m since nt tm X a' w') (fun X => (es.filter fun e => !X.contains e.2.2).length) (fun X a' w' n hst hrec => ?_) (es.length + 1) [] a w (flt es []) (start ha hrel hpi hmq fun j h1 h2 => hf j h1 (by rw [hnext]; omega)))
    rw [rounds_succ]
    refine node_step htn hcn hm hborn' hrel hi hpi hmq g1 g2 p1 p2 d1 d2 hit M.it hst ?_ ?_
    · intro E1 a1 _ hact hpost
      have hno2 := hno'
      rw [mapOver_eq] at hno2
      obtain ⟨_, n2⟩ := hsd _ _ _ rfl hno2
      have hov : overOut ((den cx g S.rest).run q cf) S.D S.t S.c i m since tm h = mapOver ((den cx g S.rest).run q cf) S i m since tm h := (mapOver_eq _ _ _ _ _ _ _).symm
      refine n2 E1 B w0 w' a1 (hpost.ext.2.trans hσ) hact hpost.rel ?_ _ fun e' a'' w'' hok => ?_
      · intro j h1 h2
        rw [hpost.only j (.inr h1)]
        refine hf j (by simp only [headH] at h1; omega) ?_
        have hov' := hov
        unfold overOut at hov'
        rw [hov', AOut.heap_of hno' h] at h2
        rw [hnext]; omega
      · have ok2 : OutOK E B w0 h w nt (mapOver ((den cx g S.rest).run q cf) S i m since tm h) e' a'' w'' := hov ▸ OutOK.trans hpost hok
        exact OutOK.thenQ hno ok2 (hQ _ _ _ (OutOK.relog hno hf ok2))
    · intro k v b E1 a1 w1 hmem hnb hpost hX hstep hact
      have hqt : quietR S.W h.next tm (mapRound ((den cx g S.rest).run q cf) S i m since tm h (k, v, b)) = true := by
        rcases louds_spec.1 _ hmem with hh | hh
        · rw [hl] at hh; cases hh
        · exact hh
      have hqt2 := quietR_ok hqt
      rw [mapRound_eq] at hqt2
      refine quiet_round hq hce hsd M.nodup M.t M.c M.all M.apart hqt2 hσ hrel ha hi hpi hmq (fun tm' h' ho' j h1 h2 => hf j h1 ?_) hpost hX hstep hact ?_
      · have e1 := topN_ge (body := (den cx g S.rest).run q cf) (S := S) (i := i) (m := m) (since := since) (tm := tm) (h := h) _ hmem
        rw [qn ho'] at e1
        rw [hnext]; omega
      · intro a'' w'' hat
        exact hrec (X ++ [b]) a'' w'' (count_lt hmem hnb) hat
  · -- one entry changes something, and the rounds go on
    obtain ⟨hn, hh⟩ := relog_heap hno h
    obtain ⟨hi1, es1, hm1, hb1, hit1, hqb, he⟩ := mapAfter_inv rfl hn
    rw [he] at hno hn ⊢
    obtain ⟨hn1, hh1⟩ := relog_heap hn h1
    obtain ⟨hborn1, _, _⟩ := bornGo_spec hb1
    have hlt1 := over hn1
    obtain ⟨ek, ev, eb⟩ := e
    have heL : (ek, ev, eb) ∈ es := louds_spec.2 _ (by rw [hl]; exact List.mem_cons_self)
    have ho2 := ho
    rw [mapRound_eq] at ho2
    have hn1le : h.next + 1 + S.D.length ≤ h1.next := (hsd _ _ _ ho2 (by simp)).1
    have hnext : ((relog (topN ((den cx g S.rest).run q cf) S i m since tm h es) h i (relog (topN ((den cx g S.rest).run q cf) S i m since tm1 h1 es1) h1 i (mapOver ((den cx g S.rest).run q cf) S i m since tm1 h1))).heap h).next =
        max (topN ((den cx g S.rest).run q cf) S i m since tm h es) (max (topN ((den cx g S.rest).run q cf) S i m since tm1 h1 es1) ((mapOver ((den cx g S.rest).run q cf) S i m since tm1 h1).heap h1).next) := by
      rw [(relog_heap hno h).2]
      show mxN _ ((relog _ h1 i (mapOver ((den cx g S.rest).run q cf) S i m since tm1 h1)).heap h).next = _
      rw [AOut.heap_of hn h1 h, hh1]
      show mxN _ (mxN _ _) = _
      rw [mxN_eq, mxN_eq]
    have hT0 : h1.next ≤ topN ((den cx g S.rest).run q cf) S i m since tm h es := by
      have e1 := topN_ge (body := (den cx g S.rest).run q cf) (S := S) (i := i) (m := m) (since := since) (tm := tm) (h := h) _ heL
      rwa [qn ho2] at e1
    refine ⟨by rw [hnext]; omega, fun E B w0 w a hσ ha hrel hf Q hQ => ?_⟩
    obtain ⟨pi, hpi⟩ := hpi0 ha
    obtain ⟨mq, hmq⟩ := mq0 hrel hpi
    have hinn := hin hrel
    refine wp_loop_rounds ((es ++ es1).length + 1) (rounds_ind (St := fun X a' w' => (AtHead E B w0 h w S.D i m since nt tm X a' w' ∧ X.contains eb = false) ∨ (X.contains eb = true ∧ ∃ E2 w2 a2, Post E B w0 h w E2 h1 w2 ∧ ActOK E2 nt tm1 a2 ∧ AtHead E2 B w0 h1 w2 S.D i m since nt tm1 X a' w'))
      (fun X => ((es ++ es1).filter fun e => !X.contains e.2.2).length) (fun X a' w' n hst hrec => ?_) ((es ++ es1).length + 1) [] a w (flt (es ++ es1) []) (.inl ⟨start ha hrel hpi hmq fun j h1 h2 => hf j h1 (by rw [hnext]; omega), rfl⟩))
    rw [rounds_succ]
    rcases hst with ⟨hst, hXe⟩ | ⟨hXe, E2, w2, a2, hp2, ha2, hst⟩
    · -- ahead of it
      refine node_step htn hcn hm hborn' hrel hi hpi hmq g1 g2 p1 p2 d1 d2 hit M.it hst ?_ ?_
      · intro E1 a1 hall _ _
        have := hall ek ev eb heL
        rw [hXe] at this; cases this
      · intro k v b E1 a1 w1 hmem hnb hpost hX hstep hact
        by_cases hbe : b = eb
        · have : (k, v, b) = (ek, ev, eb) := huniq _ hmem _ heL hbe
          cases this
          refine loud_round hsd M.nodup ho2 hi1 hσ hinn hpi hmq (fun j h1 h2 => hf j h1 ?_) hpost hX hstep hact ?_
          · rw [hnext]; omega
          · intro E2 a'' w'' hp2 hact2 hat2
            exact hrec (X ++ [eb]) a'' w'' (count_lt (List.mem_append_left _ hmem) hnb) (.inr ⟨by simp, E2, w'', a'', hp2, hact2, hat2⟩)
        · have hqt : quietR S.W h.next tm (mapRound ((den cx g S.rest).run q cf) S i m since tm h (k, v, b)) = true := by
            rcases louds_spec.1 _ hmem with hh | hh
            · rw [hl] at hh
              have := List.mem_singleton.1 hh
              cases this
              exact absurd rfl hbe
            · exact hh
          have hqt2 := quietR_ok hqt
          rw [mapRound_eq] at hqt2
          refine quiet_round hq hce hsd M.nodup M.t M.c M.all M.apart hqt2 hσ hrel ha hi hpi hmq (fun tm' h' ho' j h1 h2 => hf j h1 ?_) hpost hX hstep hact ?_
          · have e1 := topN_ge (body := (den cx g S.rest).run q cf) (S := S) (i := i) (m := m) (since := since) (tm := tm) (h := h) _ hmem
            rw [qn ho'] at e1
            rw [hnext]; omega
          · intro a'' w'' hat
            refine hrec (X ++ [b]) a'' w'' (count_lt (List.mem_append_left _ hmem) hnb) (.inl ⟨hat, ?_⟩)
            simp only [List.contains_eq_mem, List.mem_append, List.mem_singleton, decide_eq_false_iff_not] at hXe ⊢
            rintro (h | h)
            · exact hXe h
            · exact hbe h.symm
    · -- behind it
      have hpi2 : E2.φ i = some pi := hp2.ext.1 _ _ hpi
      have hmq2 : E2.φ m = some mq := hp2.ext.1 _ _ hmq
      have hf2 : ∀ j, h1.next ≤ j → j < max (topN ((den cx g S.rest).run q cf) S i m since tm h es) (max (topN ((den cx g S.rest).run q cf) S i m since tm1 h1 es1) ((mapOver ((den cx g S.rest).run q cf) S i m since tm1 h1).heap h1).next) → E2.φ j = none := fun j h3 h4 => by
        rw [hp2.only j (.inr h3)]; exact hf j (Nat.le_trans hp2.next h3) (by rw [hnext]; exact h4)
      refine node_step htn hcn hm1 (fun k v b he => (hborn1 _ he).2) hp2.rel hi1 hpi2 hmq2 g1 g2 p1 p2 d1 d2 hit1 M.it hst ?_ ?_
      · intro E1 a1 _ hact hpost
        have hno2 := hn1
        rw [mapOver_eq] at hno2
        obtain ⟨_, n2⟩ := hsd _ _ _ rfl hno2
        have hov : overOut ((den cx g S.rest).run q cf) S.D S.t S.c i m since tm1 h1 = mapOver ((den cx g S.rest).run q cf) S i m since tm1 h1 := (mapOver_eq _ _ _ _ _ _ _).symm
        refine n2 E1 B w0 w' a1 (hpost.ext.2.trans (hp2.ext.2.trans hσ)) hact hpost.rel ?_ _ fun e' a'' w'' hok => ?_
        · intro j h3 h4
          rw [hpost.only j (.inr h3)]
          refine hf2 j (by simp only [headH] at h3; omega) ?_
          have hov' := hov
          unfold overOut at hov'
          rw [hov', AOut.heap_of hn1 h1] at h4
          omega
        · have ok2 : OutOK E B w0 h w nt (mapOver ((den cx g S.rest).run q cf) S i m since tm1 h1) e' a'' w'' := OutOK.trans hp2 (hov ▸ OutOK.trans hpost hok)
          have ok3 := OutOK.relog (N := topN ((den cx g S.rest).run q cf) S i m since tm1 h1 es1) (i := i) (h0 := h1) hn (fun j h3 h4 => hf j h3 (by
            rw [AOut.heap_of hn h1 h, hh1] at h4
            have h4 : j < mxN _ _ := h4
            rw [mxN_eq] at h4
            rw [hnext]; omega)) ok2
          exact OutOK.thenQ hno ok3 (hQ _ _ _ (OutOK.relog hno hf ok3))
      · intro k v b E1 a1 w1 hmem hnb hpost hX hstep hact
        have hbe : b ≠ eb := fun h => by rw [h, hXe] at hnb; cases hnb
        have hqt2 := quietR_ok (quietBut_spec hqb _ hmem hbe)
        rw [mapRound_eq] at hqt2
        refine quiet_round hq hce hsd M.nodup M.t M.c M.all M.apart hqt2 (hp2.ext.2.trans hσ) hp2.rel ha2 hi1 hpi2 hmq2 (fun tm' h' ho' j h3 h4 => hf2 j h3 ?_) hpost hX hstep hact ?_
        · have e1 := topN_ge (body := (den cx g S.rest).run q cf) (S := S) (i := i) (m := m) (since := since) (tm := tm1) (h := h1) _ hmem
          rw [qn ho'] at e1
          omega
        · intro a'' w'' hat
          refine hrec (X ++ [b]) a'' w'' (count_lt (List.mem_append_right _ hmem) hnb) (.inr ⟨?_, E2, w2, a2, hp2, ha2, hat⟩)
          simp only [List.contains_eq_mem, List.mem_append, decide_eq_true_eq] at hXe ⊢
          exact .inl hXe
  · -- one entry leaves the loop
    obtain ⟨hn, hh⟩ := relog_heap hno h
    obtain ⟨ek, ev, eb⟩ := e
    have heL : (ek, ev, eb) ∈ es := louds_spec.2 _ (by rw [hl]; exact List.mem_cons_self)
    have ho2 : mapRound ((den cx g S.rest).run q cf) S i m since tm h (ek, ev, eb) = roundOut ((den cx g S.rest).run q cf) S.D S.t S.c i m since tm h ek ev eb := mapRound_eq _ _ _ _ _ _ _ _ _ _
    have hn2 := hn
    rw [ho2] at hn2
    obtain ⟨r1, r2⟩ := hsd _ _ _ (show _ = roundOut ((den cx g S.rest).run q cf) S.D S.t S.c i m since tm h ek ev eb from rfl) hn2
    have hnext : ((relog (topN ((den cx g S.rest).run q cf) S i m since tm h es) h i (mapRound ((den cx g S.rest).run q cf) S i m since tm h (ek, ev, eb))).heap h).next = max (topN ((den cx g S.rest).run q cf) S i m since tm h es) ((mapRound ((den cx g S.rest).run q cf) S i m since tm h (ek, ev, eb)).heap h).next := by
      rw [hh]; exact mxN_eq _ _
    have hlt : h.next + 1 + S.D.length ≤ ((mapRound ((den cx g S.rest).run q cf) S i m since tm h (ek, ev, eb)).heap h).next := by
      rw [ho2]
      rw [AOut.heap_of hn2 h _] at r1
      exact r1
    refine ⟨by rw [hnext]; omega, fun E B w0 w a hσ ha hrel hf Q hQ => ?_⟩
    obtain ⟨pi, hpi⟩ := hpi0 ha
    obtain ⟨mq, hmq⟩ := mq0 hrel hpi
    refine wp_loop_rounds (es.length + 1) (rounds_ind (St := fun X a' w' => AtHead E B w0 h w S.D i m since nt tm X a' w' ∧ X.contains eb = false) (fun X => (es.filter fun e => !X.contains e.2.2).length) (fun X a' w' n hst hrec => ?_) (es.length + 1) [] a w (flt es []) ⟨start ha hrel hpi hmq fun j h1 h2 => hf j h1 (by rw [hnext]; omega), rfl⟩)
    rw [rounds_succ]
    obtain ⟨hst, hXe⟩ := hst
    refine node_step htn hcn hm hborn' hrel hi hpi hmq g1 g2 p1 p2 d1 d2 hit M.it hst ?_ ?_
    · intro E1 a1 hall _ _
      have := hall ek ev eb heL
      rw [hXe] at this; cases this
    · intro k v b E1 a1 w1 hmem hnb hpost hX hstep hact
      by_cases hbe : b = eb
      · have : (k, v, b) = (ek, ev, eb) := huniq _ hmem _ heL hbe
        cases this
        refine r2 E1 B w0 w1 a1 (hpost.ext.2.trans hσ) hact hstep.rel ?_ _ fun e' a'' w'' hok => ?_
        · intro j h1 h2
          rw [hpost.only j (.inr h1)]
          refine hf j (by simp only at h1; omega) ?_
          have h2' : j < ((roundOut ((den cx g S.rest).run q cf) S.D S.t S.c i m since tm h ek ev eb).heap h).next := by
            rw [AOut.heap_of hn2 _ h]; exact h2
          rw [← ho2] at h2'
          rw [hnext]; omega
        · have ok2 : OutOK E B w0 h w nt (mapRound ((den cx g S.rest).run q cf) S i m since tm h (ek, ev, eb)) e' a'' w'' := by
            rw [ho2]; exact OutOK.trans (hpost.trans hstep) hok
          exact OutOK.thenQ hno ok2 (hQ _ _ _ (OutOK.relog hno hf ok2))
      · have hqt : quietR S.W h.next tm (mapRound ((den cx g S.rest).run q cf) S i m since tm h (k, v, b)) = true := by
          rcases louds_spec.1 _ hmem with hh | hh
          · rw [hl] at hh
            have := List.mem_singleton.1 hh
            cases this
            exact absurd rfl hbe
          · exact hh
        have hqt2 := quietR_ok hqt
        rw [mapRound_eq] at hqt2
        refine quiet_round hq hce hsd M.nodup M.t M.c M.all M.apart hqt2 hσ hrel ha hi hpi hmq (fun tm' h' ho' j h1 h2 => hf j h1 ?_) hpost hX hstep hact ?_
        · have e1 := topN_ge (body := (den cx g S.rest).run q cf) (S := S) (i := i) (m := m) (since := since) (tm := tm) (h := h) _ hmem
          rw [qn ho'] at e1
          rw [hnext]; omega
        · intro a'' w'' hat
          refine hrec (X ++ [b]) a'' w'' (count_lt hmem hnb) ⟨hat, ?_⟩
          simp only [List.contains_eq_mem, List.mem_append, List.mem_singleton, decide_eq_false_iff_not] at hXe ⊢
          rintro (h | h)
          · exact hXe h
          · exact hbe h.symm
end Go.Abs

namespace Go.Abs
open Go.RowKit

variable {P : Program} {σ : Val} {cx : Cx}

/-- the code's meaning tells the truth -/
theorem den_sound {ms : Tr (Tr (List Nat))} {q : Kn} (hq : cx.put q = cx) (hp : ProgOK P σ cx ms) {cf : CallF} (hc : CallOK P σ cf) (g : Nat) {nt : Nat} : ∀ (c : Code) (tm : Tm) (h : AH) (out : AOut), codeOK nt (cx.plan.get g) (ms.get g) c = true →
    (den cx g c).run q cf tm h = out → out ≠ .no → CodeS P σ nt c tm h out := by
  intro c
  induction c using code_ind with
  | skip =>
    intro tm h out hok hr hno
    simp only [den] at hr; subst hr
    exact ⟨Nat.le_refl _, fun E B w0 w a hσ ha hrel hf Q hQ => wp_skip (hQ _ _ _ ⟨rfl, E, ha, Post.refl hrel⟩)⟩
  | label l =>
    intro tm h out hok hr hno
    simp only [den] at hr; subst hr
    exact ⟨Nat.le_refl _, fun E B w0 w a hσ ha hrel hf Q hQ => wp_label (hQ _ _ _ ⟨rfl, E, ha, Post.refl hrel⟩)⟩
  | exit id =>
    intro tm h out hok hr hno
    simp only [den] at hr; subst hr
    exact ⟨Nat.le_refl _, fun E B w0 w a hσ ha hrel hf Q hQ => wp_exit (hQ _ _ _ ⟨rfl, E, ha, Post.refl hrel⟩)⟩
  | ret =>
    intro tm h out hok hr hno
    simp only [den] at hr; subst hr
    exact ⟨Nat.le_refl _, fun E B w0 w a hσ ha hrel hf Q hQ => wp_ret (hQ _ _ _ ⟨rfl, E, ha, Post.refl hrel⟩)⟩
  | region id ops draw =>
    intro tm h out hok hr hno
    refine runReg_sound (g := g) hp hc hok ?_ hno
    cases draw with
    | false =>
      simp only [den] at hr
      simp only [runReg]
      rw [← runX_eq hq]; exact hr
    | true =>
      simp only [den] at hr
      unfold runReg
      cases hg : cx.plan.get g with
      | none => rw [hg] at hr; exact absurd hr.symm hno
      | some t =>
        rw [hg] at hr
        simp only at hr ⊢
        cases hid : t.get id with
        | none => rw [hid] at hr; exact absurd hr.symm hno
        | some pl =>
          rw [hid] at hr
          obtain ⟨d, h1, h2, h3⟩ := runD_ok hq hno ops.toList 0 ops.toList.length pl tm h .nil [] (by simp) hr
          simp only [h1, h2, h3]
  | seq x y ihx ihy =>
    intro tm h out hok hr hno
    simp only [codeOK] at hok
    split at hok
    case h_2 => cases hok
    rename_i hx
    simp only [den] at hr
    obtain ⟨h2, h3⟩ := seq_sound (fun out hr hno => ihx tm h out hx hr hno) (fun tm h out hr hno => ihy tm h out hok hr hno) hr hno
    exact ⟨h2, fun E B w0 w a hσ ha hrel hf Q hQ => wp_seq (h3 E B w0 w a hσ ha hrel hf Q hQ)⟩
  | cond x y z ihy ihz =>
    intro tm h out hok hr hno
    simp only [codeOK] at hok
    split at hok
    case h_2 => cases hok
    rename_i hy
    simp only [den] at hr
    split at hr
    · rename_i f hf
      have hx := opF_some hf tm
      have hr' : condK ((den cx g y).run q cf) ((den cx g z).run q cf) tm h (f.run tm) = out := hr
      cases hv : f.run tm <;> rw [hv] at hr' <;> first | exact absurd hr'.symm hno | skip
      rename_i b
      rw [hv] at hx
      cases b with
      | true =>
        obtain ⟨h2, h3⟩ := ihy tm h out hy hr' hno
        refine ⟨h2, fun E B w0 w a hσ ha hrel hf Q hQ => wp_cond_true ?_ (h3 E B w0 w a hσ ha hrel hf Q hQ)⟩
        have := opnd_sound ha.tm hx
        simpa [conc] using this.symm
      | false =>
        obtain ⟨h2, h3⟩ := ihz tm h out hok hr' hno
        refine ⟨h2, fun E B w0 w a hσ ha hrel hf Q hQ => wp_cond_false ?_ (h3 E B w0 w a hσ ha hrel hf Q hQ)⟩
        have := opnd_sound ha.tm hx
        simpa [conc] using this.symm
    · exact absurd hr.symm hno
  | block id x ih =>
    intro tm h out hok hr hno
    simp only [codeOK] at hok
    simp only [den] at hr
    have hr' : blockK id ((den cx g x).run q cf tm h) = out := hr
    cases hr1 : (den cx g x).run q cf tm h with
    | no => rw [hr1] at hr'; exact absurd hr'.symm hno
    | exit j tm1 h1 =>
      rw [hr1] at hr'
      have hr2 : (@Bool.rec (fun _ => AOut) (.exit j tm1 h1) (.norm tm1 h1) (Nat.beq j id)) = out := hr'
      obtain ⟨h2, h3⟩ := ih tm h _ hok hr1 (by simp)
      rw [natBeq_eq] at hr2
      by_cases hj : j = id
      · subst hj
        rw [decide_eq_true rfl] at hr2
        subst hr2
        refine ⟨h2, fun E B w0 w a hσ ha hrel hf Q hQ => wp_block (h3 E B w0 w a hσ ha hrel hf _ fun e a' w' ho => ?_)⟩
        obtain ⟨rfl, ho⟩ := ho
        simp only [Exit.inBlock, if_true]
        exact hQ _ _ _ ⟨rfl, ho⟩
      · rw [decide_eq_false hj] at hr2
        subst hr2
        refine ⟨h2, fun E B w0 w a hσ ha hrel hf Q hQ => wp_block (h3 E B w0 w a hσ ha hrel hf _ fun e a' w' ho => ?_)⟩
        obtain ⟨rfl, ho⟩ := ho
        simp only [Exit.inBlock, hj, if_false]
        exact hQ _ _ _ ⟨rfl, ho⟩
    | norm tm1 h1 =>
      rw [hr1] at hr'
      have hr2 : AOut.norm tm1 h1 = out := hr'
      subst hr2
      obtain ⟨h2, h3⟩ := ih tm h _ hok hr1 (by simp)
      refine ⟨h2, fun E B w0 w a hσ ha hrel hf Q hQ => wp_block (h3 E B w0 w a hσ ha hrel hf _ fun e a' w' ho => ?_)⟩
      have := hQ _ _ _ ho; obtain ⟨rfl, _⟩ := ho; exact this
    | ret tm1 h1 =>
      rw [hr1] at hr'
      have hr2 : AOut.ret tm1 h1 = out := hr'
      subst hr2
      obtain ⟨h2, h3⟩ := ih tm h _ hok hr1 (by simp)
      refine ⟨h2, fun E B w0 w a hσ ha hrel hf Q hQ => wp_block (h3 E B w0 w a hσ ha hrel hf _ fun e a' w' ho => ?_)⟩
      have := hQ _ _ _ ho; obtain ⟨rfl, _⟩ := ho; exact this
  | loop x ih ihr =>
    intro tm h out hok hr hno
    simp only [codeOK] at hok
    have fall : loopK ((den cx g x).run q cf) 100000 tm h = out → CodeS P σ nt (.loop x) tm h out := fun hr => by
      obtain ⟨h2, h3⟩ := loop_sound (x := x) (fun tm h out hr hno => ih tm h out hok hr hno) 100000 tm h out hr hno
      exact ⟨h2, fun E B w0 w a hσ ha hrel hf Q hQ => wp_loop_rounds 100000 (h3 E B w0 w a hσ ha hrel hf Q hQ)⟩
    rw [den_loop] at hr
    cases hS : mapSh x with
    | none => rw [hS] at hr; exact fall hr
    | some S =>
      rw [hS] at hr
      have M := mapSh_spec hS
      obtain ⟨id, o1, o2, hx, _, _, _, _, d1, d2⟩ := M.shape
      have hr2 : mapLoop ((den cx g S.rest).run q cf) S (loopK ((den cx g x).run q cf) 100000 tm h) tm h = out := by
        rw [hx] at hr ⊢; exact hr
      rcases mapLoop_inv hr2 with h1 | ⟨i, m, since, es, hit, hi, hm, hb, h1⟩
      · exact fall h1.symm
      · have hok2 := hok
        rw [hx] at hok2
        simp only [codeOK] at hok2
        split at hok2
        case h_2 => cases hok2
        rename_i hreg
        have hd : dstsOK nt [o1, o2] = true := by
          cases hb : dstsOK nt [o1, o2] with
          | true => rfl
          | false => rw [hb] at hreg; cases hreg
        have hds := dstsOK_spec hd
        rw [hx] at ihr
        exact mapRule_sound hq (CallOK.ext hc) M (hds o1 (by simp) _ d1) (hds o2 (by simp) _ d2) (fun tm h out hr hno => ihr tm h out hok2 hr hno) hit hi hm hb h1 hno
  | scope x ih =>
    intro tm h out hok hr hno
    simp only [codeOK] at hok
    simp only [den] at hr
    obtain ⟨h2, h3⟩ := ih tm h out hok hr hno
    refine ⟨h2, fun E B w0 w a hσ ha hrel hf Q hQ => wp_scope_straight (h3 E B w0 w a hσ ha hrel hf _ fun e a' w' ho => ?_)⟩
    have hq := hQ _ _ _ ho
    cases out with
    | no => exact absurd rfl hno
    | norm tm1 h1 => obtain ⟨rfl, _⟩ := ho; exact hq
    | exit id tm1 h1 => obtain ⟨rfl, _⟩ := ho; exact hq
    | ret tm1 h1 => obtain ⟨rfl, _⟩ := ho; exact hq
  | rangeFunc => intro tm h out hok hr hno; simp only [den] at hr; exact absurd hr.symm hno
  | goto => intro tm h out hok hr hno; simp only [den] at hr; exact absurd hr.symm hno
  | refuse => intro tm h out hok hr hno; simp only [den] at hr; exact absurd hr.symm hno

theorem res1_eq (r : ResultVar) (tm : Tm) (h : AH) {v : AV} (hv : (res1 cx r).run tm h = some v) : resA cx tm h r = some v := by
  cases r with
  | tmp t =>
    have : some ((getF t).run tm) = some v := hv
    rw [getF_run] at this
    simpa [resA] using this
  | cell a t =>
    simp only [res1] at hv
    simp only [resA]
    split at hv
    · rename_i ty ht
      split at hv
      · rename_i ha; rw [← getF_run]; exact loadNO_eq ht ha (.inr rfl) hv
      · rename_i ha; rw [← getF_run]; exact load1O_eq ht ha (.inr rfl) hv
    · cases hv
theorem resAll_eq (tm : Tm) (h : AH) : ∀ (rs : List ResultVar) (vs : List AV), resAll (rs.map (res1 cx)) tm h = some vs → resAs cx tm h rs = some vs
  | [], vs, hv => hv
  | r :: rs, vs, hv => by
    have hv' : (@Option.rec AV (fun _ => Option (List AV)) none (fun v => @Option.rec (List AV) (fun _ => Option (List AV)) none (fun vs => some (v :: vs)) (resAll (rs.map (res1 cx)) tm h)) ((res1 cx r).run tm h)) = some vs := hv
    simp only [resAs]
    cases h1 : (res1 cx r).run tm h with
    | none => rw [h1] at hv'; cases hv'
    | some v =>
      rw [h1] at hv'
      have hv2 : (@Option.rec (List AV) (fun _ => Option (List AV)) none (fun vs => some (v :: vs)) (resAll (rs.map (res1 cx)) tm h)) = some vs := hv'
      rw [res1_eq r tm h h1]
      cases h2 : resAll (rs.map (res1 cx)) tm h with
      | none => rw [h2] at hv2; cases hv2
      | some us =>
        rw [h2] at hv2
        rw [resAll_eq tm h rs us h2]
        exact hv2
theorem resF_eq (tm : Tm) (h : AH) (rs : List ResultVar) {v : AV} {h' : AH} (hv : (resF cx rs).run tm h = some (v, h')) : h' = h ∧ ∃ vs, resAs cx tm h rs = some vs ∧ tup1 vs = v := by
  match rs, hv with
  | [r], hv =>
    have hv' : (@Option.rec AV (fun _ => Option (AV × AH)) none (fun v => some (v, h)) ((res1 cx r).run tm h)) = some (v, h') := hv
    cases h1 : (res1 cx r).run tm h with
    | none => rw [h1] at hv'; cases hv'
    | some u =>
      rw [h1] at hv'
      cases hv'
      exact ⟨rfl, [v], by simp only [resAs, res1_eq r tm h h1], rfl⟩
  | [], hv =>
    have hv' : some (AV.tup [], h) = some (v, h') := hv
    cases hv'
    exact ⟨rfl, [], rfl, rfl⟩
  | r :: r2 :: rs, hv =>
    have hv' : (@Option.rec (List AV) (fun _ => Option (AV × AH)) none (fun vs => some (AV.tup vs, h)) (resAll ((r :: r2 :: rs).map (res1 cx)) tm h)) = some (v, h') := hv
    cases h1 : resAll ((r :: r2 :: rs).map (res1 cx)) tm h with
    | none => rw [h1] at hv'; cases hv'
    | some us =>
      rw [h1] at hv'
      cases hv'
      have := resAll_eq tm h _ us h1
      refine ⟨rfl, us, this, ?_⟩
      simp only [resAs] at this
      split at this
      · rename_i a b _ hb
        split at hb
        · cases hb; cases this; rfl
        · cases hb
      · cases this
theorem finK_eq (fn : Func) {o : AOut} {v : AV} {h' : AH} (hv : finK (resF cx fn.results.toList).run o = some (v, h')) : finA cx fn o = some (v, h') := by
  cases o with
  | no => cases hv
  | exit id tm h => cases hv
  | norm tm h =>
    obtain ⟨rfl, vs, h1, h2⟩ := resF_eq tm h _ hv
    simp only [finA, h1, h2]
  | ret tm h =>
    obtain ⟨rfl, vs, h1, h2⟩ := resF_eq tm h _ hv
    simp only [finA, h1, h2]
end Go.Abs

namespace Go.Abs
open Go.RowKit
variable {P : Program} {σ : Val} {cx : Cx}

/-! ## every order of a loop over a map -/
theorem memB_iff (b : Nat) : ∀ l, memB b l = true ↔ b ∈ l
  | [] => by simp [memB]
  | x :: l => by
    have e : memB b (x :: l) = @Bool.rec (fun _ => Bool) (memB b l) true (Nat.beq x b) := rfl
    rw [e]
    cases hb : Nat.beq x b with
    | true => have := Nat.eq_of_beq_eq_true hb; simp [this]
    | false =>
      have : ¬ x = b := fun h => by subst h; simp at hb
      rw [List.mem_cons]
      show memB b l = true ↔ _
      rw [memB_iff b l]
      exact ⟨.inr, fun h => h.elim (fun h => absurd h.symm this) id⟩
theorem keepE_iff (sl : List Nat) (e : AV × AV × Nat) : ∀ es, e ∈ keepE sl es ↔ e ∈ es ∧ e.2.2 ∉ sl
  | [] => by simp [keepE]
  | x :: es => by
    have e0 : keepE sl (x :: es) = @Bool.rec (fun _ => List (AV × AV × Nat)) (x :: keepE sl es) (keepE sl es) (memB x.2.2 sl) := rfl
    rw [e0]
    have ih := keepE_iff sl e es
    cases hb : memB x.2.2 sl with
    | true =>
      have := (memB_iff _ _).1 hb
      show e ∈ keepE sl es ↔ _
      rw [ih, List.mem_cons]
      exact ⟨fun h => ⟨.inr h.1, h.2⟩, fun h => ⟨h.1.elim (fun q => absurd (q ▸ this) h.2) id, h.2⟩⟩
    | false =>
      have : x.2.2 ∉ sl := fun h => by rw [(memB_iff _ _).2 h] at hb; cases hb
      show e ∈ x :: keepE sl es ↔ _
      rw [List.mem_cons, List.mem_cons, ih]
      exact ⟨fun h => h.elim (fun q => ⟨.inl q, q ▸ this⟩) fun q => ⟨.inr q.1, q.2⟩, fun h => h.1.imp id fun q => ⟨q, h.2⟩⟩
theorem subE_spec {bs : List Nat} : ∀ {es}, subE es bs = true → ∀ e ∈ es, e.2.2 ∈ bs
  | [], _, e, he => by cases he
  | x :: es, h, e, he => by
    have h' : (@Bool.rec (fun _ => Bool) false (subE es bs) (memB x.2.2 bs)) = true := h
    cases hb : memB x.2.2 bs with
    | false => rw [hb] at h'; cases h'
    | true =>
      rw [hb] at h'
      rcases List.mem_cons.1 he with rfl | he
      · exact (memB_iff _ _).1 hb
      · exact subE_spec h' e he
theorem stampsE_eq : ∀ es, stampsE es = es.map (·.2.2)
  | [] => rfl
  | x :: es => by show x.2.2 :: stampsE es = _; rw [stampsE_eq es]; rfl
theorem subE_self (es : List (AV × AV × Nat)) : subE es (stampsE es) = true := by
  have : ∀ l : List (AV × AV × Nat), (∀ e ∈ l, e.2.2 ∈ stampsE es) → subE l (stampsE es) = true := by
    intro l
    induction l with
    | nil => intro _; rfl
    | cons x l ih =>
      intro h
      show (@Bool.rec (fun _ => Bool) false (subE l (stampsE es)) (memB x.2.2 (stampsE es))) = true
      rw [(memB_iff _ _).2 (h x List.mem_cons_self)]
      exact ih fun e he => h e (List.mem_cons_of_mem _ he)
  refine this es fun e he => ?_
  rw [stampsE_eq]
  exact List.mem_map_of_mem he
theorem appO_eq (b : List AOut) : ∀ a, appO a b = a ++ b
  | [] => rfl
  | x :: a => by show x :: appO a b = _; rw [appO_eq b a]; rfl
theorem relogs_eq (N : Nat) (h : AH) (i : Nat) : ∀ l, relogs N h i l = l.map (relog N h i)
  | [] => rfl
  | x :: l => by show relog N h i x :: relogs N h i l = _; rw [relogs_eq N h i l]; rfl
theorem ordEach_eq (body : K) (S : MapSh) (i m since : Nat) (bs sl L : List Nat) (ih : OrdK) (tm : Tm) (h : AH) : ∀ new, ordEach body S i m since bs sl L ih tm h new = new.flatMap fun e => ordOne S i m since h.next e.2.2 bs sl L ih (mapRound body S i m since tm h e)
  | [] => rfl
  | e :: new => by
    show appO _ (ordEach body S i m since bs sl L ih tm h new) = _
    rw [appO_eq, ordEach_eq body S i m since bs sl L ih tm h new]; rfl

theorem isSome_eq {b : Nat} {x : Option Nat} (h : isSome b x = true) : x = some b := by
  cases x with
  | none => cases h
  | some y => rw [Nat.eq_of_beq_eq_true (show Nat.beq y b = true from h)]
theorem isOne_eq {b : Nat} {seen : List Nat} (h : isOne b seen = true) : seen = [b] := by
  cases seen with
  | nil => cases h
  | cons x r =>
    have h' : (@Bool.rec (fun _ => Bool) false (@List.rec Nat (fun _ => Bool) true (fun _ _ _ => false) r) (Nat.beq x b)) = true := h
    cases hx : Nat.beq x b with
    | false => rw [hx] at h'; cases h'
    | true =>
      rw [hx] at h'
      cases r with
      | nil => rw [Nat.eq_of_beq_eq_true hx]
      | cons y r => cases h'
theorem ordAfter_inv {S : MapSh} {i m since n b : Nat} {bs sl L : List Nat} {ih : OrdK} {tm1 : Tm} {h1 : AH} (hno : ∀ o ∈ ordAfter S i m since n b bs sl L ih tm1 h1, o ≠ .no) :
    h1.objs.get i = some (.iter (some m) since since [b] (some n)) ∧ ∃ es, h1.objs.get m = some (.map es since) ∧ bornB since es = true ∧ tm1.at S.it = .ptr i 0 ∧ subE es bs = true ∧ ordAfter S i m since n b bs sl L ih tm1 h1 = ih tm1 h1 es (b :: sl) L := by
  have bad : ¬ ∀ o ∈ [AOut.no], o ≠ AOut.no := fun h => h _ List.mem_cons_self rfl
  generalize hr : ordAfter S i m since n b bs sl L ih tm1 h1 = outs at hno ⊢
  unfold ordAfter at hr
  cases hi : h1.objs.get i with
  | none => rw [hi] at hr; subst hr; exact absurd hno bad
  | some o =>
    rw [hi] at hr
    cases o with
    | cells => subst hr; exact absurd hno bad
    | map => subst hr; exact absurd hno bad
    | iter mo s l seen pre =>
      have hr : (@Bool.rec (fun _ => List AOut) [.no] _ (isSome m mo)) = outs := hr
      cases g1 : isSome m mo with
      | false => rw [g1] at hr; subst hr; exact absurd hno bad
      | true =>
      rw [g1] at hr
      have hr : (@Bool.rec (fun _ => List AOut) [.no] _ (Nat.beq s since)) = outs := hr
      cases g2 : Nat.beq s since with
      | false => rw [g2] at hr; subst hr; exact absurd hno bad
      | true =>
      rw [g2] at hr
      have hr : (@Bool.rec (fun _ => List AOut) [.no] _ (Nat.beq l since)) = outs := hr
      cases g3 : Nat.beq l since with
      | false => rw [g3] at hr; subst hr; exact absurd hno bad
      | true =>
      rw [g3] at hr
      have hr : (@Bool.rec (fun _ => List AOut) [.no] _ (isOne b seen)) = outs := hr
      cases g4 : isOne b seen with
      | false => rw [g4] at hr; subst hr; exact absurd hno bad
      | true =>
      rw [g4] at hr
      have hr : (@Bool.rec (fun _ => List AOut) [.no] _ (isSome n pre)) = outs := hr
      cases g5 : isSome n pre with
      | false => rw [g5] at hr; subst hr; exact absurd hno bad
      | true =>
      rw [g5] at hr
      cases hm : h1.objs.get m with
      | none => rw [hm] at hr; subst hr; exact absurd hno bad
      | some o2 =>
      rw [hm] at hr
      cases o2 with
      | cells => subst hr; exact absurd hno bad
      | iter => subst hr; exact absurd hno bad
      | map es c =>
      have hr : (@Bool.rec (fun _ => List AOut) [.no] _ (Nat.beq c since)) = outs := hr
      cases g6 : Nat.beq c since with
      | false => rw [g6] at hr; subst hr; exact absurd hno bad
      | true =>
      rw [g6] at hr
      have hr : (@Bool.rec (fun _ => List AOut) [.no] _ (bornB since es)) = outs := hr
      cases g7 : bornB since es with
      | false => rw [g7] at hr; subst hr; exact absurd hno bad
      | true =>
      rw [g7] at hr
      have hr : (@Bool.rec (fun _ => List AOut) [.no] _ (avEqR ((getF S.it).run tm1) (AV.ptr i 0))) = outs := hr
      cases g8 : avEqR ((getF S.it).run tm1) (AV.ptr i 0) with
      | false => rw [g8] at hr; subst hr; exact absurd hno bad
      | true =>
      rw [g8] at hr
      have hr : (@Bool.rec (fun _ => List AOut) [.no] (ih tm1 h1 es (b :: sl) L) (subE es bs)) = outs := hr
      cases g9 : subE es bs with
      | false => rw [g9] at hr; subst hr; exact absurd hno bad
      | true =>
      rw [g9] at hr
      have hz : outs = ih tm1 h1 es (b :: sl) L := hr.symm
      have e1 := isSome_eq g1
      have e2 := Nat.eq_of_beq_eq_true g2
      have e3 := Nat.eq_of_beq_eq_true g3
      have e4 := isOne_eq g4
      have e5 := isSome_eq g5
      have e6 := Nat.eq_of_beq_eq_true g6
      subst e1 e2 e3 e4 e5 e6
      refine ⟨rfl, es, rfl, g7, ?_, g9, hz⟩
      rw [getF_run] at g8
      exact avEq_eq _ _ (avEqR_ok _ _ g8)

/-- what is behind a round -/
theorem ordR_succ (body : K) (S : MapSh) (i m since : Nat) (bs : List Nat) (n : Nat) (tm : Tm) (h : AH) (es : List (AV × AV × Nat)) (sl L : List Nat) :
    ordR body S i m since bs (n + 1) tm h es sl L = ordNode body S i m since bs sl L (ordR body S i m since bs n) tm h es (louds body S i m since tm h (keepE sl es)) := rfl
theorem ordNode_nil {body : K} {S : MapSh} {i m since : Nat} {bs sl L : List Nat} {ih : OrdK} {tm : Tm} {h : AH} {es : List (AV × AV × Nat)} :
    ordNode body S i m since bs sl L ih tm h es [] = [relog (topN body S i m since tm h es) h i (mapOver body S i m since tm h)] := rfl
theorem ordNode_cons {body : K} {S : MapSh} {i m since : Nat} {bs sl L : List Nat} {ih : OrdK} {tm : Tm} {h : AH} {es new : List (AV × AV × Nat)} (hn : new ≠ []) (hno : ∀ o ∈ ordNode body S i m since bs sl L ih tm h es new, o ≠ .no) :
    subE new L = true ∧ ordNode body S i m since bs sl L ih tm h es new = (new.flatMap fun e => ordOne S i m since h.next e.2.2 bs sl (stampsE new) ih (mapRound body S i m since tm h e)).map (relog (topN body S i m since tm h es) h i) := by
  cases new with
  | nil => exact absurd rfl hn
  | cons e r =>
    have e0 : ordNode body S i m since bs sl L ih tm h es (e :: r) = relogs (topN body S i m since tm h es) h i (@Bool.rec (fun _ => List AOut) [AOut.no] (@Bool.rec (fun _ => List AOut) [AOut.no] (ordEach body S i m since bs sl (stampsE (e :: r)) ih tm h (e :: r)) (subE (e :: r) L)) (few (e :: r))) := rfl
    have bad : ¬ ∀ o ∈ relogs (topN body S i m since tm h es) h i [AOut.no], o ≠ AOut.no := fun h => h _ List.mem_cons_self rfl
    cases h1 : few (e :: r) with
    | false => rw [e0, h1] at hno; exact absurd hno bad
    | true =>
      cases h2 : subE (e :: r) L with
      | false => rw [e0, h1, h2] at hno; exact absurd hno bad
      | true =>
        refine ⟨rfl, ?_⟩
        rw [e0, h1, h2]
        show relogs _ h i (ordEach body S i m since bs sl (stampsE (e :: r)) ih tm h (e :: r)) = _
        rw [relogs_eq, ordEach_eq]
theorem ordR_ne {body : K} {S : MapSh} {i m since : Nat} {bs : List Nat} : ∀ (n : Nat) (tm : Tm) (h : AH) (es : List (AV × AV × Nat)) (sl L : List Nat), (∀ o ∈ ordR body S i m since bs n tm h es sl L, o ≠ .no) → ordR body S i m since bs n tm h es sl L ≠ []
  | 0, _, _, _, _, _, _ => by simp [ordR]
  | n + 1, tm, h, es, sl, L, hno => by
    rw [ordR_succ] at hno ⊢
    cases hl : louds body S i m since tm h (keepE sl es) with
    | nil => rw [ordNode_nil]; simp
    | cons e r =>
      rw [hl] at hno
      obtain ⟨_, e2⟩ := ordNode_cons (by simp) hno
      rw [e2] at hno ⊢
      intro hz
      have hz' := List.map_eq_nil_iff.1 hz
      rw [List.flatMap_eq_nil_iff] at hz'
      have h3 := hz' e List.mem_cons_self
      have hno3 : ∀ o ∈ ordOne S i m since h.next e.2.2 bs sl (stampsE (e :: r)) (ordR body S i m since bs n) (mapRound body S i m since tm h e), o ≠ .no := fun o ho => by
        rw [h3] at ho; cases ho
      cases ho : mapRound body S i m since tm h e with
      | no => rw [ho] at h3; cases h3
      | exit => rw [ho] at h3; cases h3
      | ret => rw [ho] at h3; cases h3
      | norm tm1 h1 =>
        rw [ho] at h3 hno3
        obtain ⟨_, es1, _, _, _, _, e4⟩ := ordAfter_inv (S := S) (tm1 := tm1) (h1 := h1) hno3
        have h3' : ordAfter S i m since h.next e.2.2 bs sl (stampsE (e :: r)) (ordR body S i m since bs n) tm1 h1 = [] := h3
        rw [e4] at h3'
        exact ordR_ne n _ _ _ _ _ (fun o ho => by rw [h3'] at ho; cases ho) h3'
/-- an outcome of a node -/
theorem ord_child {body : K} {S : MapSh} {i m since n : Nat} {bs sl L : List Nat} {tm : Tm} {h : AH} {es : List (AV × AV × Nat)} (hno : ∀ o ∈ ordR body S i m since bs (n + 1) tm h es sl L, o ≠ .no) {e : AV × AV × Nat}
    (he : e ∈ louds body S i m since tm h (keepE sl es)) :
    (∀ o ∈ ordOne S i m since h.next e.2.2 bs sl (stampsE (louds body S i m since tm h (keepE sl es))) (ordR body S i m since bs n) (mapRound body S i m since tm h e), relog (topN body S i m since tm h es) h i o ∈ ordR body S i m since bs (n + 1) tm h es sl L) := by
  rw [ordR_succ] at hno ⊢
  obtain ⟨_, e2⟩ := ordNode_cons (List.ne_nil_of_mem he) hno
  intro o ho
  rw [e2]
  exact List.mem_map_of_mem (List.mem_flatMap.2 ⟨e, he, ho⟩)
end Go.Abs

namespace Go.Abs
open Go.RowKit
variable {P : Program} {σ : Val} {cx : Cx}

theorem over_next {q : Kn} {cf : CallF} {g nt : Nat} {S : MapSh} (hsd : ∀ tm h out, (den cx g S.rest).run q cf tm h = out → out ≠ .no → CodeS P σ nt S.rest tm h out) {i m since : Nat} {tm0 : Tm} {h0 : AH}
    (hn : mapOver ((den cx g S.rest).run q cf) S i m since tm0 h0 ≠ .no) : h0.next + 1 + S.D.length ≤ ((mapOver ((den cx g S.rest).run q cf) S i m since tm0 h0).heap h0).next := by
  rw [mapOver_eq] at hn ⊢
  have := (hsd _ _ _ (show _ = overOut ((den cx g S.rest).run q cf) S.D S.t S.c i m since tm0 h0 from rfl) hn).1
  rw [AOut.heap_of hn h0 _] at this
  simpa only [headH] using this
theorem round_next {q : Kn} {cf : CallF} {g nt : Nat} {S : MapSh} (hsd : ∀ tm h out, (den cx g S.rest).run q cf tm h = out → out ≠ .no → CodeS P σ nt S.rest tm h out) {i m since : Nat} {tm0 : Tm} {h0 : AH} {e : AV × AV × Nat}
    (hn : mapRound ((den cx g S.rest).run q cf) S i m since tm0 h0 e ≠ .no) : h0.next + 1 + S.D.length ≤ ((mapRound ((den cx g S.rest).run q cf) S i m since tm0 h0 e).heap h0).next := by
  obtain ⟨k, v, b⟩ := e
  rw [mapRound_eq] at hn ⊢
  have := (hsd _ _ _ (show _ = roundOut ((den cx g S.rest).run q cf) S.D S.t S.c i m since tm0 h0 k v b from rfl) hn).1
  rw [AOut.heap_of hn h0 _] at this
  exact this
theorem relog_next {N i : Nat} {h h0 : AH} {o : AOut} (hno : relog N h0 i o ≠ .no) : ((relog N h0 i o).heap h).next = max N (o.heap h).next := by
  rw [(relog_heap hno h).2]; exact mxN_eq _ _

theorem ordR_next {q : Kn} {cf : CallF} {g nt : Nat} {S : MapSh} (hsd : ∀ tm h out, (den cx g S.rest).run q cf tm h = out → out ≠ .no → CodeS P σ nt S.rest tm h out) {i m since : Nat} {bs : List Nat} :
    ∀ (n : Nat) (tm : Tm) (h : AH) (es : List (AV × AV × Nat)) (sl L : List Nat), (∀ o ∈ ordR ((den cx g S.rest).run q cf) S i m since bs n tm h es sl L, o ≠ .no) → ∀ o ∈ ordR ((den cx g S.rest).run q cf) S i m since bs n tm h es sl L,
      h.next + 1 + S.D.length ≤ (o.heap h).next ∧ topN ((den cx g S.rest).run q cf) S i m since tm h es ≤ (o.heap h).next
  | 0, _, _, _, _, _, hno, o, ho => absurd (List.mem_singleton.1 ho) (hno o ho)
  | n + 1, tm, h, es, sl, L, hno, o, ho => by
    have hno0 := hno
    have ho0 := ho
    rw [ordR_succ] at hno ho
    cases hl : louds ((den cx g S.rest).run q cf) S i m since tm h (keepE sl es) with
    | nil =>
      rw [hl, ordNode_nil] at ho
      rw [hl, ordNode_nil] at hno
      have := List.mem_singleton.1 ho
      subst this
      have h1 := hno _ ho
      have h2 := over_next hsd (relog_heap h1 h).1
      rw [relog_next h1]
      omega
    | cons e0 r =>
      rw [hl] at hno ho
      obtain ⟨_, e2⟩ := ordNode_cons (by simp) hno
      rw [e2] at ho hno
      obtain ⟨oo, hoo, rfl⟩ := List.mem_map.1 ho
      have h1 := hno _ ho
      rw [relog_next h1]
      obtain ⟨e, he, hoe⟩ := List.mem_flatMap.1 hoo
      have hno3 : ∀ o ∈ ordOne S i m since h.next e.2.2 bs sl (stampsE (e0 :: r)) (ordR ((den cx g S.rest).run q cf) S i m since bs n) (mapRound ((den cx g S.rest).run q cf) S i m since tm h e), o ≠ .no := fun o' ho' =>
        (relog_heap (hno _ (List.mem_map_of_mem (List.mem_flatMap.2 ⟨e, he, ho'⟩))) h).1
      suffices hs : h.next + 1 + S.D.length ≤ (oo.heap h).next by omega
      cases hr : mapRound ((den cx g S.rest).run q cf) S i m since tm h e with
      | no => rw [hr] at hno3; exact absurd rfl (hno3 _ List.mem_cons_self)
      | exit id tm1 h1 =>
        have h4 := round_next hsd (i := i) (m := m) (since := since) (tm0 := tm) (h0 := h) (e := e) (by rw [hr]; simp)
        rw [hr] at hoe h4
        rw [List.mem_singleton.1 hoe]; exact h4
      | ret tm1 h1 =>
        have h4 := round_next hsd (i := i) (m := m) (since := since) (tm0 := tm) (h0 := h) (e := e) (by rw [hr]; simp)
        rw [hr] at hoe h4
        rw [List.mem_singleton.1 hoe]; exact h4
      | norm tm1 h1 =>
        have h4 := round_next hsd (i := i) (m := m) (since := since) (tm0 := tm) (h0 := h) (e := e) (by rw [hr]; simp)
        rw [hr] at hoe h4 hno3
        obtain ⟨_, es1, _, _, _, _, e4⟩ := ordAfter_inv (S := S) (tm1 := tm1) (h1 := h1) hno3
        have hoe' : oo ∈ ordAfter S i m since h.next e.2.2 bs sl (stampsE (e0 :: r)) (ordR ((den cx g S.rest).run q cf) S i m since bs n) tm1 h1 := hoe
        have hno4 : ∀ o ∈ ordAfter S i m since h.next e.2.2 bs sl (stampsE (e0 :: r)) (ordR ((den cx g S.rest).run q cf) S i m since bs n) tm1 h1, o ≠ .no := hno3
        rw [e4] at hoe' hno4
        have h5 := ordR_next hsd n tm1 h1 es1 _ _ hno4 oo hoe'
        rw [AOut.heap_of (hno4 _ hoe') h1 h]
        have h4 : h.next + 1 + S.D.length ≤ h1.next := h4
        omega

/-- on the way through the orders: at a node, X seen -/
structure OrdAt (P : Program) (cx : Cx) (σ : Val) (q : Kn) (cf : CallF) (g nt B i m since : Nat) (S : MapSh) (bs : List Nat) (Mx : Nat) (w0 : World) (Q : Exit → Act → World → Prop) (X : List Nat) (a' : Act) (w' : World)
    (n : Nat) (tm : Tm) (h : AH) (es : List (AV × AV × Nat)) (sl L : List Nat) (E2 : Env) (w2 : World) (a2 : Act) (pi mq : Pl) (seen0 : List Nat) (pre0 : Option Nat) : Prop where
  it : tm.at S.it = .ptr i 0
  hi : h.objs.get i = some (.iter (some m) since since seen0 pre0)
  hm : h.objs.get m = some (.map es since)
  born : bornB since es = true
  sub : subE es bs = true
  no : ∀ o ∈ ordR ((den cx g S.rest).run q cf) S i m since bs n tm h es sl L, o ≠ .no
  le : ∀ o ∈ ordR ((den cx g S.rest).run q cf) S i m since bs n tm h es sl L, (o.heap h).next ≤ Mx
  hσ : E2.σ = σ
  rel : Rel E2 B w0 h w2
  act : ActOK E2 nt tm a2
  fr : ∀ j, h.next ≤ j → j < Mx → E2.φ j = none
  post : ∀ o ∈ ordR ((den cx g S.rest).run q cf) S i m since bs n tm h es sl L, ∀ e a w, OutOK E2 B w0 h w2 nt o e a w → Q e a w
  hpi : E2.φ i = some pi
  hmq : E2.φ m = some mq
  at_ : AtHead E2 B w0 h w2 S.D i m since nt tm X a' w'
  seen : ∀ b ∈ sl, b ∈ X
  left : ∀ e ∈ louds ((den cx g S.rest).run q cf) S i m since tm h (keepE sl es), X.contains e.2.2 = false

theorem stamps_lt {bs X : List Nat} {b : Nat} (h : b ∈ bs) (hb : X.contains b = false) : (bs.filter fun x => !(X ++ [b]).contains x).length < (bs.filter fun x => !X.contains x).length := by
  have e1 : (bs.filter fun x => !(X ++ [b]).contains x) = (bs.filter fun x => !X.contains x).filter fun x => !(x == b) := by
    rw [List.filter_filter]
    congr 1
    funext x
    have : (x == b) = decide (x = b) := by by_cases h : x = b <;> simp [h]
    simp [Bool.and_comm, this]
  rw [e1, List.length_filter_lt_length_iff_exists]
  exact ⟨b, List.mem_filter.2 ⟨h, by simpa using hb⟩, by simp⟩

theorem ordR_sound {q : Kn} (hq : cx.put q = cx) {cf : CallF} (hce : CfExt cf) {g nt : Nat} {S : MapSh} {x : Code} (M : MapOK S x) (htn : S.t < nt) (hcn : S.c < nt)
    (hsd : ∀ tm h out, (den cx g S.rest).run q cf tm h = out → out ≠ .no → CodeS P σ nt S.rest tm h out) {i m since Mx B : Nat} {bs : List Nat} {w0 : World} {Q : Exit → Act → World → Prop} {a : Act} {w : World}
    {n : Nat} {tm : Tm} {h : AH} {es : List (AV × AV × Nat)} {sl L : List Nat} {E : Env} {w2 : World} {a2 : Act} {pi mq : Pl} {seen0 : List Nat} {pre0 : Option Nat} (hst : OrdAt P cx σ q cf g nt B i m since S bs Mx w0 Q [] a w n tm h es sl L E w2 a2 pi mq seen0 pre0) :
    (Code.loop x).wp P Q a w := by
  obtain ⟨id, o1, o2, hx, g1, g2, p1, p2, d1, d2⟩ := M.shape
  subst hx
  refine wp_loop_rounds (bs.length + 1) (rounds_ind (St := fun X a' w' => ∃ n tm h es sl L E2 w2 a2 pi mq seen0 pre0, OrdAt P cx σ q cf g nt B i m since S bs Mx w0 Q X a' w' n tm h es sl L E2 w2 a2 pi mq seen0 pre0)
    (fun X => (bs.filter fun b => !X.contains b).length) (fun X a' w' n hst hrec => ?_) (bs.length + 1) [] a w (Nat.lt_succ_of_le (List.length_filter_le _ _)) ⟨_, _, _, _, _, _, _, _, _, _, _, _, _, hst⟩)
  obtain ⟨n, tm, h, es, sl, L, E2, w2, a2, pi, mq, seen0, pre0, H⟩ := hst
  rw [rounds_succ]
  obtain ⟨hborn, _, huniq⟩ := bornGo_spec H.born
  have hin : i < h.next := by
    rcases Nat.lt_or_ge i h.next with h' | h'
    · exact h'
    · have := H.rel.ok i h'; rw [H.hi] at this; cases this
  have Hno := H.no
  have Hle := H.le
  cases n with
  | zero => exact absurd rfl (Hno _ List.mem_cons_self)
  | succ n =>
  have hne := ordR_ne (n + 1) tm h es sl L Hno
  obtain ⟨o0, ho0⟩ := List.exists_mem_of_ne_nil _ hne
  have hT : topN ((den cx g S.rest).run q cf) S i m since tm h es ≤ Mx := Nat.le_trans (ordR_next hsd (n + 1) tm h es sl L Hno o0 ho0).2 (Hle _ ho0)
  have hD : h.next + 1 + S.D.length ≤ Mx := Nat.le_trans (ordR_next hsd (n + 1) tm h es sl L Hno o0 ho0).1 (Hle _ ho0)
  refine node_step htn hcn H.hm (fun k v b he => (hborn _ he).2) H.rel H.hi H.hpi H.hmq g1 g2 p1 p2 d1 d2 H.it M.it H.at_ ?_ ?_
  · intro E1 a1 hall hact hpost
    have hnil : louds ((den cx g S.rest).run q cf) S i m since tm h (keepE sl es) = [] := by
      cases hl : louds ((den cx g S.rest).run q cf) S i m since tm h (keepE sl es) with
      | nil => rfl
      | cons e r =>
        have h1 := H.left e (by rw [hl]; exact List.mem_cons_self)
        have h2 : e ∈ louds ((den cx g S.rest).run q cf) S i m since tm h (keepE sl es) := by rw [hl]; exact List.mem_cons_self
        have h3 := ((keepE_iff _ _ _).1 (louds_spec.2 _ h2)).1
        have h4 := hall e.1 e.2.1 e.2.2 h3
        rw [h1] at h4; cases h4
    have hmem : relog (topN ((den cx g S.rest).run q cf) S i m since tm h es) h i (mapOver ((den cx g S.rest).run q cf) S i m since tm h) ∈ ordR ((den cx g S.rest).run q cf) S i m since bs (n + 1) tm h es sl L := by
      rw [ordR_succ, hnil, ordNode_nil]; exact List.mem_cons_self
    have hno := Hno _ hmem
    have hle := Hle _ hmem
    obtain ⟨hno', hh⟩ := relog_heap hno h
    have hnx : ((relog (topN ((den cx g S.rest).run q cf) S i m since tm h es) h i (mapOver ((den cx g S.rest).run q cf) S i m since tm h)).heap h).next = _ := relog_next hno
    have hno2 := hno'
    rw [mapOver_eq] at hno2
    obtain ⟨_, n2⟩ := hsd _ _ _ rfl hno2
    have hov : overOut ((den cx g S.rest).run q cf) S.D S.t S.c i m since tm h = mapOver ((den cx g S.rest).run q cf) S i m since tm h := (mapOver_eq _ _ _ _ _ _ _).symm
    refine n2 E1 B w0 w' a1 (hpost.ext.2.trans H.hσ) hact hpost.rel ?_ _ fun e' a'' w'' hok => ?_
    · intro j h1 h2
      rw [hpost.only j (.inr h1)]
      refine H.fr j (by simp only [headH] at h1; omega) ?_
      have hov' := hov
      unfold overOut at hov'
      rw [hov', AOut.heap_of hno' h] at h2
      omega
    · have ok2 : OutOK E2 B w0 h w2 nt (mapOver ((den cx g S.rest).run q cf) S i m since tm h) e' a'' w'' := hov ▸ OutOK.trans hpost hok
      exact OutOK.thenQ hno ok2 (H.post _ hmem _ _ _ (OutOK.relog hno (fun j h1 h2 => H.fr j h1 (by omega)) ok2))
  · intro k v b E1 a1 w1 hmem hnb hpost hX hstep hact
    have hbs : b ∈ bs := subE_spec H.sub _ hmem
    by_cases hlo : (k, v, b) ∈ louds ((den cx g S.rest).run q cf) S i m since tm h (keepE sl es)
    · -- a round that changes something
      have hch := ord_child Hno hlo
      cases ho : mapRound ((den cx g S.rest).run q cf) S i m since tm h (k, v, b) with
      | no =>
        rw [ho] at hch
        exact absurd rfl (Hno _ (hch _ List.mem_cons_self))
      | norm tm1 h1 =>
        rw [ho] at hch
        have hno3 : ∀ o ∈ ordAfter S i m since h.next b bs sl (stampsE (louds ((den cx g S.rest).run q cf) S i m since tm h (keepE sl es))) (ordR ((den cx g S.rest).run q cf) S i m since bs n) tm1 h1, o ≠ .no := fun o' ho' => (relog_heap (Hno _ (hch _ ho')) h).1
        obtain ⟨hi1, es1, hm1, hb1, hit1, hsub1, e4⟩ := ordAfter_inv hno3
        have hch' : ∀ o ∈ ordAfter S i m since h.next b bs sl (stampsE (louds ((den cx g S.rest).run q cf) S i m since tm h (keepE sl es))) (ordR ((den cx g S.rest).run q cf) S i m since bs n) tm1 h1, relog (topN ((den cx g S.rest).run q cf) S i m since tm h es) h i o ∈ ordR ((den cx g S.rest).run q cf) S i m since bs (n + 1) tm h es sl L := hch
        rw [e4] at hno3 hch'
        have hne1 := ordR_ne n _ _ _ _ _ hno3
        obtain ⟨o1', ho1'⟩ := List.exists_mem_of_ne_nil _ hne1
        have hle1 : ∀ o ∈ ordR ((den cx g S.rest).run q cf) S i m since bs n tm1 h1 es1 (b :: sl) (stampsE (louds ((den cx g S.rest).run q cf) S i m since tm h (keepE sl es))), (o.heap h1).next ≤ Mx := fun o ho => by
          have h2 := Hle _ (hch' _ ho)
          rw [relog_next (Hno _ (hch' _ ho)), AOut.heap_of (hno3 _ ho) h1 h] at h2
          omega
        have hn1 : h1.next + 1 + S.D.length ≤ Mx := Nat.le_trans (ordR_next hsd n _ _ _ _ _ hno3 _ ho1').1 (hle1 _ ho1')
        have ho2 := ho
        rw [mapRound_eq] at ho2
        refine loud_round hsd M.nodup ho2 hi1 H.hσ hin H.hpi H.hmq (fun j h3 h4 => H.fr j h3 (by omega)) hpost hX hstep hact ?_
        intro E3 a3 w3 hp3 hact3 hat3
        refine hrec (X ++ [b]) a3 w3 (stamps_lt hbs hnb) ⟨n, tm1, h1, es1, b :: sl, _, E3, w3, a3, pi, mq, [b], some h.next,
          { it := hit1, hi := hi1, hm := hm1, born := hb1, sub := hsub1, no := hno3, le := hle1, hσ := hp3.ext.2.trans H.hσ, rel := hp3.rel, act := hact3, hpi := hp3.ext.1 _ _ H.hpi, hmq := hp3.ext.1 _ _ H.hmq, at_ := hat3, fr := ?_, post := ?_, seen := ?_, left := ?_ }⟩
        · intro j h3 h4
          rw [hp3.only j (.inr h3)]
          exact H.fr j (Nat.le_trans hp3.next h3) h4
        · intro o ho' e a4 w4 hok
          have hmem' := hch' _ ho'
          have hle' := Hle _ hmem'
          exact H.post _ hmem' _ _ _ (OutOK.relog (Hno _ hmem') (fun j h3 h4 => H.fr j h3 (by omega)) (OutOK.trans hp3 hok))
        · intro b' hb'
          rcases List.mem_cons.1 hb' with rfl | hb'
          · simp
          · exact List.mem_append_left _ (H.seen _ hb')
        · intro e he
          have hk := (keepE_iff _ _ _).1 (louds_spec.2 _ he)
          have hne : e.2.2 ≠ b := fun q => hk.2 (by rw [q]; exact List.mem_cons_self)
          -- it was loud ahead of it
          have hsubL : subE (louds ((den cx g S.rest).run q cf) S i m since tm1 h1 (keepE (b :: sl) es1)) (stampsE (louds ((den cx g S.rest).run q cf) S i m since tm h (keepE sl es))) = true := by
            cases n with
            | zero => exact absurd rfl (hno3 _ List.mem_cons_self)
            | succ n' =>
              have hno4 := hno3
              rw [ordR_succ] at hno4
              exact (ordNode_cons (List.ne_nil_of_mem he) hno4).1
          have h5 := subE_spec hsubL _ he
          rw [stampsE_eq] at h5
          obtain ⟨e', he', hee⟩ := List.mem_map.1 h5
          have h6 := H.left e' he'
          rw [hee] at h6
          simp only [List.contains_eq_mem, List.mem_append, List.mem_singleton, decide_eq_false_iff_not] at h6 ⊢
          rintro (h | h)
          · exact h6 h
          · exact hne h
      | exit id1 tm1 h1 =>
        rw [ho] at hch
        have hmem' := hch _ List.mem_cons_self
        have hno' := Hno _ hmem'
        have hle' := Hle _ hmem'
        have ho2 := ho
        rw [mapRound_eq] at ho2
        obtain ⟨_, r2⟩ := hsd _ _ _ ho2 (by simp)
        refine r2 E1 B w0 w1 a1 (hpost.ext.2.trans H.hσ) hact hstep.rel ?_ _ fun e' a'' w'' hok => ?_
        · intro j h3 h4
          rw [hpost.only j (.inr h3)]
          refine H.fr j (by simp only at h3; omega) ?_
          have h4 : j < h1.next := h4
          rw [relog_next hno'] at hle'
          have : ((AOut.exit id1 tm1 h1).heap h).next = h1.next := rfl
          omega
        · have ok2 : OutOK E2 B w0 h w2 nt (.exit id1 tm1 h1) e' a'' w'' := OutOK.trans (hpost.trans hstep) hok
          exact OutOK.thenQ hno' ok2 (H.post _ hmem' _ _ _ (OutOK.relog hno' (fun j h3 h4 => H.fr j h3 (by omega)) ok2))
      | ret tm1 h1 =>
        rw [ho] at hch
        have hmem' := hch _ List.mem_cons_self
        have hno' := Hno _ hmem'
        have hle' := Hle _ hmem'
        have ho2 := ho
        rw [mapRound_eq] at ho2
        obtain ⟨_, r2⟩ := hsd _ _ _ ho2 (by simp)
        refine r2 E1 B w0 w1 a1 (hpost.ext.2.trans H.hσ) hact hstep.rel ?_ _ fun e' a'' w'' hok => ?_
        · intro j h3 h4
          rw [hpost.only j (.inr h3)]
          refine H.fr j (by simp only at h3; omega) ?_
          have h4 : j < h1.next := h4
          rw [relog_next hno'] at hle'
          have : ((AOut.ret tm1 h1).heap h).next = h1.next := rfl
          omega
        · have ok2 : OutOK E2 B w0 h w2 nt (.ret tm1 h1) e' a'' w'' := OutOK.trans (hpost.trans hstep) hok
          exact OutOK.thenQ hno' ok2 (H.post _ hmem' _ _ _ (OutOK.relog hno' (fun j h3 h4 => H.fr j h3 (by omega)) ok2))
    · -- a quiet one
      have hbk : b ∉ sl := fun h => by
        have := H.seen _ h
        simp only [List.contains_eq_mem, decide_eq_false_iff_not] at hnb
        exact hnb this
      have hqt : quietR S.W h.next tm (mapRound ((den cx g S.rest).run q cf) S i m since tm h (k, v, b)) = true := by
        rcases louds_spec.1 _ ((keepE_iff sl _ es).2 ⟨hmem, hbk⟩) with hh | hh
        · exact absurd hh hlo
        · exact hh
      have hqt2 := quietR_ok hqt
      rw [mapRound_eq] at hqt2
      refine quiet_round hq hce hsd M.nodup M.t M.c M.all M.apart hqt2 H.hσ H.rel H.act H.hi H.hpi H.hmq (fun tm' h' ho' j h1 h2 => H.fr j h1 ?_) hpost hX hstep hact ?_
      · have e1 := topN_ge (body := (den cx g S.rest).run q cf) (S := S) (i := i) (m := m) (since := since) (tm := tm) (h := h) _ hmem
        rw [mapRound_eq, ho'] at e1
        have e1 : h'.next ≤ _ := e1
        omega
      · intro a'' w'' hat
        refine hrec (X ++ [b]) a'' w'' (stamps_lt hbs hnb) ⟨n + 1, tm, h, es, sl, L, E2, w2, a2, pi, mq, seen0, pre0, { H with at_ := hat, seen := fun b' hb' => List.mem_append_left _ (H.seen _ hb'), left := fun e he => ?_ }⟩
        have h6 := H.left e he
        have hne : e.2.2 ≠ b := fun hq' => by
          have h7 := ((keepE_iff _ _ _).1 (louds_spec.2 _ he)).1
          have := huniq _ h7 _ hmem hq'
          rw [this] at he
          exact hlo he
        simp only [List.contains_eq_mem, List.mem_append, List.mem_singleton, decide_eq_false_iff_not] at h6 ⊢
        rintro (h | h)
        · exact h6 h
        · exact hne h
end Go.Abs

namespace Go.Abs
open Go.RowKit
variable {P : Program} {σ : Val} {cx : Cx}

/-! ## code with several outcomes -/
theorem ordR_ext {body : K} (hy : ∀ tm h out, body tm h = out → out ≠ .no → HExt h (out.heap h)) {S : MapSh} {i m since : Nat} {bs : List Nat} :
    ∀ (n : Nat) (tm : Tm) (h : AH) (es : List (AV × AV × Nat)) (sl L : List Nat), (∀ o ∈ ordR body S i m since bs n tm h es sl L, o ≠ .no) → ∀ o ∈ ordR body S i m since bs n tm h es sl L, HExt h (o.heap h)
  | 0, _, _, _, _, _, hno, o, ho => absurd (List.mem_singleton.1 ho) (hno o ho)
  | n + 1, tm, h, es, sl, L, hno, o, ho => by
    have go : ∀ (N : Nat) (h0 : AH) (tm : Tm) (seen : List Nat), relog N h0 i (body tm (headB h0 i m since seen (lenN S.D))) ≠ .no → HExt h0 ((relog N h0 i (body tm (headB h0 i m since seen (lenN S.D)))).heap h0) := fun N h0 tm seen hn => by
      have hb := (relog_heap hn h0).1
      refine relog_ext hn (seen := seen) (m := m) (since := since) (nD := lenN S.D) ?_
      have := hy _ _ _ rfl hb
      rwa [AOut.heap_of hb h0 _] at this
    rw [ordR_succ] at hno ho
    cases hl : louds body S i m since tm h (keepE sl es) with
    | nil =>
      rw [hl, ordNode_nil] at ho hno
      have := List.mem_singleton.1 ho
      subst this
      exact go _ _ _ _ (hno _ ho)
    | cons e0 r =>
      rw [hl] at hno ho
      obtain ⟨_, e2⟩ := ordNode_cons (by simp) hno
      rw [e2] at ho hno
      obtain ⟨oo, hoo, rfl⟩ := List.mem_map.1 ho
      have h1 := hno _ ho
      obtain ⟨e, he, hoe⟩ := List.mem_flatMap.1 hoo
      have hno3 : ∀ o ∈ ordOne S i m since h.next e.2.2 bs sl (stampsE (e0 :: r)) (ordR body S i m since bs n) (mapRound body S i m since tm h e), o ≠ .no := fun o' ho' =>
        (relog_heap (hno _ (List.mem_map_of_mem (List.mem_flatMap.2 ⟨e, he, ho'⟩))) h).1
      cases hr : mapRound body S i m since tm h e with
      | no => rw [hr] at hno3; exact absurd rfl (hno3 _ List.mem_cons_self)
      | exit id tm1 h1' =>
        rw [hr] at hoe
        have e5 := List.mem_singleton.1 hoe
        subst e5
        refine relog_ext h1 (m := m) (since := since) (seen := [e.2.2]) (nD := lenN S.D) ?_
        exact hy _ _ _ (show body _ (headB h i m since [e.2.2] (lenN S.D)) = _ from hr) (by simp)
      | ret tm1 h1' =>
        rw [hr] at hoe
        have e5 := List.mem_singleton.1 hoe
        subst e5
        refine relog_ext h1 (m := m) (since := since) (seen := [e.2.2]) (nD := lenN S.D) ?_
        exact hy _ _ _ (show body _ (headB h i m since [e.2.2] (lenN S.D)) = _ from hr) (by simp)
      | norm tm1 h1' =>
        rw [hr] at hoe hno3
        obtain ⟨_, es1, _, _, _, _, e4⟩ := ordAfter_inv (S := S) (tm1 := tm1) (h1 := h1') hno3
        have hoe' : oo ∈ ordAfter S i m since h.next e.2.2 bs sl (stampsE (e0 :: r)) (ordR body S i m since bs n) tm1 h1' := hoe
        have hno4 : ∀ o ∈ ordAfter S i m since h.next e.2.2 bs sl (stampsE (e0 :: r)) (ordR body S i m since bs n) tm1 h1', o ≠ .no := hno3
        rw [e4] at hoe' hno4
        have h5 := ordR_ext hy n tm1 h1' es1 _ _ hno4 oo hoe'
        rw [AOut.heap_of (hno4 _ hoe') h h1'] at h5
        refine relog_ext h1 (m := m) (since := since) (seen := [e.2.2]) (nD := lenN S.D) ?_
        have e0 := hy _ _ _ (show body _ (headB h i m since [e.2.2] (lenN S.D)) = _ from hr) (by simp)
        exact e0.trans h5

theorem ordLoop_inv {body : K} {S : MapSh} {fall : AOut} {tm : Tm} {h : AH} {outs : List AOut} (hr : ordLoop body S fall tm h = outs) :
    outs = [fall] ∨ ∃ i m since es, tm.at S.it = .ptr i 0 ∧ h.objs.get i = some (.iter (some m) since since [] none) ∧ h.objs.get m = some (.map es since) ∧ bornB since es = true ∧ ordR body S i m since (stampsE es) 6 tm h es [] (stampsE es) = outs := by
  unfold ordLoop at hr
  rw [getF_run] at hr
  cases ht : tm.at S.it with
  | ptr i off =>
    rw [ht] at hr
    have hr : (@Bool.rec (fun _ => List AOut) [fall] _ (Nat.beq off 0)) = outs := hr
    cases g1 : Nat.beq off 0 with
    | false => rw [g1] at hr; exact .inl hr.symm
    | true =>
    rw [g1] at hr
    cases hi : h.objs.get i with
    | none => rw [hi] at hr; exact .inl hr.symm
    | some o =>
    rw [hi] at hr
    cases o with
    | cells => exact .inl hr.symm
    | map => exact .inl hr.symm
    | iter mo s l seen pre =>
    cases mo with
    | none => exact .inl hr.symm
    | some m =>
    have hr : (@Bool.rec (fun _ => List AOut) [fall] _ (Nat.beq l s)) = outs := hr
    cases g2 : Nat.beq l s with
    | false => rw [g2] at hr; exact .inl hr.symm
    | true =>
    rw [g2] at hr
    cases seen with
    | cons _ _ => exact .inl hr.symm
    | nil =>
    cases pre with
    | some _ => exact .inl hr.symm
    | none =>
    have hr : (@Option.rec AO (fun _ => List AOut) [fall] _ (h.objs.get m)) = outs := hr
    cases hm : h.objs.get m with
    | none => rw [hm] at hr; exact .inl hr.symm
    | some o2 =>
    rw [hm] at hr
    cases o2 with
    | cells => exact .inl hr.symm
    | iter => exact .inl hr.symm
    | map es c =>
    have hr : (@Bool.rec (fun _ => List AOut) [fall] _ (many es)) = outs := hr
    cases g3 : many es with
    | false => rw [g3] at hr; exact .inl hr.symm
    | true =>
    rw [g3] at hr
    have hr : (@Bool.rec (fun _ => List AOut) [fall] _ (Nat.beq c s)) = outs := hr
    cases g4 : Nat.beq c s with
    | false => rw [g4] at hr; exact .inl hr.symm
    | true =>
    rw [g4] at hr
    have hr : (@Bool.rec (fun _ => List AOut) [fall] (ordR body S i m s (stampsE es) 6 tm h es [] (stampsE es)) (bornB s es)) = outs := hr
    cases g5 : bornB s es with
    | false => rw [g5] at hr; exact .inl hr.symm
    | true =>
    rw [g5] at hr
    have f1 := Nat.eq_of_beq_eq_true g1
    have f2 := Nat.eq_of_beq_eq_true g2
    have f4 := Nat.eq_of_beq_eq_true g4
    have hz : ordR body S i m s (stampsE es) 6 tm h es [] (stampsE es) = outs := hr
    exact .inr ⟨i, m, s, es, by rw [f1], by rw [hi, f2], by rw [hm, f4], g5, hz⟩
  | _ => rw [ht] at hr; exact .inl hr.symm

theorem bindO_eq (k : Tm → AH → List AOut) : ∀ l, bindO k l = l.flatMap fun o => match o with
    | .norm tm h => k tm h
    | o => [o]
  | [] => rfl
  | o :: l => by
    cases o with
    | norm tm h =>
      show appO (k tm h) (bindO k l) = _
      rw [appO_eq, bindO_eq k l]; rfl
    | exit id tm h => show AOut.exit id tm h :: bindO k l = _; rw [bindO_eq k l]; rfl
    | ret tm h => show AOut.ret tm h :: bindO k l = _; rw [bindO_eq k l]; rfl
    | no => show AOut.no :: bindO k l = _; rw [bindO_eq k l]; rfl
theorem blockO_eq (id : Nat) : ∀ l, blockO id l = l.map (blockK id)
  | [] => rfl
  | o :: l => by show blockK id o :: blockO id l = _; rw [blockO_eq id l]; rfl
theorem mden_loop (g : Nat) (a : Code) {S : MapSh} {b : Code} {id : Nat} {o1 o2 : Oper} (h : mapSh a = some S) (ha : a = .seq (.region id #[o1, o2] false) b) :
    mden cx g (.loop a) = ⟨fun q cf tm h => ordLoop ((den cx g b).run q cf) S ((den cx g (.loop a)).run q cf tm h) tm h⟩ := by
  subst ha
  simp only [mden, h]
theorem mden_loop0 (g : Nat) (a : Code) (h : mapSh a = none) : mden cx g (.loop a) = ⟨fun q cf tm h => [(den cx g (.loop a)).run q cf tm h]⟩ := by
  cases a <;> simp only [mden, h]

theorem mden_ext {q : Kn} (hq : cx.put q = cx) {cf : CallF} (hc : CfExt cf) (g : Nat) : ∀ (c : Code) (tm : Tm) (h : AH), (∀ o ∈ (mden cx g c).run q cf tm h, o ≠ .no) → ∀ o ∈ (mden cx g c).run q cf tm h, HExt h (o.heap h) := by
  have leaf : ∀ (c : Code) (tm : Tm) (h : AH), (∀ o ∈ [(den cx g c).run q cf tm h], o ≠ .no) → ∀ o ∈ [(den cx g c).run q cf tm h], HExt h (o.heap h) := fun c tm h hno o ho => by
    have := List.mem_singleton.1 ho
    subst this
    exact den_ext hq hc g c tm h _ rfl (hno _ ho)
  intro c
  induction c using code_ind with
  | seq x y ihx ihy =>
    intro tm h hno o ho
    simp only [mden] at hno ho
    rw [bindO_eq] at hno ho
    obtain ⟨oa, hoa, hob⟩ := List.mem_flatMap.1 ho
    have hnoA : ∀ o ∈ (mden cx g x).run q cf tm h, o ≠ .no := fun o ho he => by
      subst he
      exact hno .no (List.mem_flatMap.2 ⟨.no, ho, List.mem_cons_self⟩) rfl
    have h1 := ihx tm h hnoA oa hoa
    cases oa with
    | no => exact absurd rfl (hnoA _ hoa)
    | norm tm1 h1' =>
      have hnoB : ∀ o ∈ (mden cx g y).run q cf tm1 h1', o ≠ .no := fun o ho => hno o (List.mem_flatMap.2 ⟨_, hoa, ho⟩)
      have h2 := ihy tm1 h1' hnoB o hob
      rw [AOut.heap_of (hnoB _ hob) h h1'] at h2
      exact h1.trans h2
    | exit id tm1 h1' => rw [List.mem_singleton.1 hob]; exact h1
    | ret tm1 h1' => rw [List.mem_singleton.1 hob]; exact h1
  | block id x ih =>
    intro tm h hno o ho
    simp only [mden] at hno ho
    rw [blockO_eq] at hno ho
    obtain ⟨oa, hoa, rfl⟩ := List.mem_map.1 ho
    have hnoA : ∀ o ∈ (mden cx g x).run q cf tm h, o ≠ .no := fun o ho he => by
      subst he
      exact hno _ (List.mem_map_of_mem ho) rfl
    have h1 := ih tm h hnoA oa hoa
    cases oa with
    | no => exact absurd rfl (hnoA _ hoa)
    | norm tm1 h1' => exact h1
    | exit j tm1 h1' =>
      show HExt h ((@Bool.rec (fun _ => AOut) (.exit j tm1 h1') (.norm tm1 h1') (Nat.beq j id)).heap h)
      cases Nat.beq j id <;> exact h1
    | ret tm1 h1' => exact h1
  | loop x ih ihr =>
    intro tm h hno o ho
    cases hS : mapSh x with
    | none => rw [mden_loop0 g x hS] at hno ho; exact leaf _ tm h hno o ho
    | some S =>
      obtain ⟨id, o1, o2, hx, _⟩ := (mapSh_spec hS).shape
      rw [mden_loop g x hS hx] at hno ho
      rcases ordLoop_inv (rfl : ordLoop ((den cx g S.rest).run q cf) S ((den cx g (.loop x)).run q cf tm h) tm h = _) with h1 | ⟨i, m, since, es, _, _, _, _, h1⟩
      · have hno : ∀ o ∈ ordLoop ((den cx g S.rest).run q cf) S ((den cx g (.loop x)).run q cf tm h) tm h, o ≠ .no := hno
        have ho : o ∈ ordLoop ((den cx g S.rest).run q cf) S ((den cx g (.loop x)).run q cf tm h) tm h := ho
        rw [h1] at hno ho
        exact leaf _ tm h hno o ho
      · have hno : ∀ o ∈ ordLoop ((den cx g S.rest).run q cf) S ((den cx g (.loop x)).run q cf tm h) tm h, o ≠ .no := hno
        have ho : o ∈ ordLoop ((den cx g S.rest).run q cf) S ((den cx g (.loop x)).run q cf tm h) tm h := ho
        rw [← h1] at hno ho
        exact ordR_ext (fun tm h out hr hno => den_ext hq hc g S.rest tm h out hr hno) _ _ _ _ _ _ hno o ho
  | _ => intro tm h hno o ho; simp only [mden] at hno ho; exact leaf _ tm h hno o ho

/-- what code with several outcomes means -/
def CodeM (P : Program) (σ : Val) (nt : Nat) (c : Code) (tm : Tm) (h : AH) (outs : List AOut) : Prop :=
  outs ≠ [] ∧ (∀ o ∈ outs, h.next ≤ (o.heap h).next) ∧ ∀ (Mx : Nat) (E : Env) (B : Nat) (w0 w : World) (a : Act), (∀ o ∈ outs, (o.heap h).next ≤ Mx) → E.σ = σ → ActOK E nt tm a → Rel E B w0 h w → (∀ j, h.next ≤ j → j < Mx → E.φ j = none) →
    ∀ Q : Exit → Act → World → Prop, (∀ o ∈ outs, ∀ e a w', OutOK E B w0 h w nt o e a w' → Q e a w') → c.wp P Q a w
theorem CodeM.one {nt : Nat} {c : Code} {tm : Tm} {h : AH} {out : AOut} (hc : CodeS P σ nt c tm h out) : CodeM P σ nt c tm h [out] :=
  ⟨by simp, fun o ho => by rw [List.mem_singleton.1 ho]; exact hc.1, fun Mx E B w0 w a hM hσ ha hr hf Q hQ => hc.2 E B w0 w a hσ ha hr (fun j h1 h2 => hf j h1 (Nat.lt_of_lt_of_le h2 (hM _ List.mem_cons_self))) Q (hQ _ List.mem_cons_self)⟩

theorem mden_sound {ms : Tr (Tr (List Nat))} {q : Kn} (hq : cx.put q = cx) (hp : ProgOK P σ cx ms) {cf : CallF} (hc : CallOK P σ cf) (g : Nat) {nt : Nat} : ∀ (c : Code) (tm : Tm) (h : AH), codeOK nt (cx.plan.get g) (ms.get g) c = true →
    (∀ o ∈ (mden cx g c).run q cf tm h, o ≠ .no) → CodeM P σ nt c tm h ((mden cx g c).run q cf tm h) := by
  have leaf : ∀ (c : Code) (tm : Tm) (h : AH), codeOK nt (cx.plan.get g) (ms.get g) c = true → (∀ o ∈ [(den cx g c).run q cf tm h], o ≠ .no) → CodeM P σ nt c tm h [(den cx g c).run q cf tm h] := fun c tm h hok hno =>
    .one (den_sound hq hp hc g c tm h _ hok rfl (hno _ List.mem_cons_self))
  intro c
  induction c using code_ind with
  | seq x y ihx ihy =>
    intro tm h hok hno
    simp only [codeOK] at hok
    split at hok
    case h_2 => cases hok
    rename_i hx
    simp only [mden] at hno ⊢
    rw [bindO_eq] at hno ⊢
    have hnoA : ∀ o ∈ (mden cx g x).run q cf tm h, o ≠ .no := fun o ho he => by
      subst he
      exact hno .no (List.mem_flatMap.2 ⟨.no, ho, List.mem_cons_self⟩) rfl
    obtain ⟨a1, a2, a3⟩ := ihx tm h hx hnoA
    have hB : ∀ tm1 h1, AOut.norm tm1 h1 ∈ (mden cx g x).run q cf tm h → CodeM P σ nt y tm1 h1 ((mden cx g y).run q cf tm1 h1) ∧ ∀ o ∈ (mden cx g y).run q cf tm1 h1, o ≠ .no := fun tm1 h1 hm => by
      have hnoB : ∀ o ∈ (mden cx g y).run q cf tm1 h1, o ≠ .no := fun o ho => hno o (List.mem_flatMap.2 ⟨_, hm, ho⟩)
      exact ⟨ihy tm1 h1 hok hnoB, hnoB⟩
    refine ⟨?_, ?_, ?_⟩
    · obtain ⟨oa, hoa⟩ := List.exists_mem_of_ne_nil _ a1
      intro hz
      rw [List.flatMap_eq_nil_iff] at hz
      have h3 := hz oa hoa
      cases oa with
      | norm tm1 h1 => exact (hB tm1 h1 hoa).1.1 h3
      | no => cases h3
      | exit => cases h3
      | ret => cases h3
    · intro o ho
      obtain ⟨oa, hoa, hob⟩ := List.mem_flatMap.1 ho
      have h1 := a2 oa hoa
      cases oa with
      | norm tm1 h1' =>
        obtain ⟨⟨_, b2, _⟩, hnb⟩ := hB tm1 h1' hoa
        have h2 := b2 o hob
        rw [AOut.heap_of (hnb _ hob) h h1'] at h2
        exact Nat.le_trans h1 h2
      | no => exact absurd rfl (hnoA _ hoa)
      | exit => rw [List.mem_singleton.1 hob]; exact h1
      | ret => rw [List.mem_singleton.1 hob]; exact h1
    · intro Mx E B w0 w a hM hσ ha hr hf Q hQ
      have hMA : ∀ o ∈ (mden cx g x).run q cf tm h, (o.heap h).next ≤ Mx := fun oa hoa => by
        cases oa with
        | norm tm1 h1' =>
          obtain ⟨⟨b1, b2, _⟩, hnb⟩ := hB tm1 h1' hoa
          obtain ⟨ob, hob⟩ := List.exists_mem_of_ne_nil _ b1
          have h2 := b2 ob hob
          rw [AOut.heap_of (hnb _ hob) h h1'] at h2
          exact Nat.le_trans h2 (hM _ (List.mem_flatMap.2 ⟨_, hoa, hob⟩))
        | no => exact absurd rfl (hnoA _ hoa)
        | exit => exact hM _ (List.mem_flatMap.2 ⟨_, hoa, List.mem_cons_self⟩)
        | ret => exact hM _ (List.mem_flatMap.2 ⟨_, hoa, List.mem_cons_self⟩)
      refine wp_seq (a3 Mx E B w0 w a hMA hσ ha hr hf _ fun oa hoa e a' w' hok' => ?_)
      cases oa with
      | norm tm1 h1' =>
        obtain ⟨rfl, E', hact, hpost⟩ := hok'
        obtain ⟨⟨b1, b2, b3⟩, hnb⟩ := hB tm1 h1' hoa
        refine b3 Mx E' B w0 w' a' (fun o ho => ?_) (hpost.ext.2.trans hσ) hact hpost.rel (fun j h1 h2 => ?_) Q fun o ho e2 a2 w2 hok2 => ?_
        · rw [AOut.heap_of (hnb _ ho) h h1']
          exact hM _ (List.mem_flatMap.2 ⟨_, hoa, ho⟩)
        · rw [hpost.only j (.inr h1)]
          exact hf j (Nat.le_trans hpost.next h1) h2
        · exact hQ o (List.mem_flatMap.2 ⟨_, hoa, ho⟩) _ _ _ (OutOK.trans hpost hok2)
      | no => exact absurd rfl (hnoA _ hoa)
      | exit id tm1 h1' =>
        have h1 := hQ _ (List.mem_flatMap.2 ⟨_, hoa, List.mem_cons_self⟩) _ _ _ hok'
        obtain ⟨rfl, _⟩ := hok'
        exact h1
      | ret tm1 h1' =>
        have h1 := hQ _ (List.mem_flatMap.2 ⟨_, hoa, List.mem_cons_self⟩) _ _ _ hok'
        obtain ⟨rfl, _⟩ := hok'
        exact h1
  | block id x ih =>
    intro tm h hok hno
    simp only [codeOK] at hok
    simp only [mden] at hno ⊢
    rw [blockO_eq] at hno ⊢
    have hnoA : ∀ o ∈ (mden cx g x).run q cf tm h, o ≠ .no := fun o ho he => by
      subst he
      exact hno _ (List.mem_map_of_mem ho) rfl
    obtain ⟨a1, a2, a3⟩ := ih tm h hok hnoA
    have hh : ∀ o ∈ (mden cx g x).run q cf tm h, (blockK id o).heap h = o.heap h := fun o ho => by
      cases o with
      | no => exact absurd rfl (hnoA _ ho)
      | norm tm1 h1 => rfl
      | ret tm1 h1 => rfl
      | exit j tm1 h1 =>
        show (@Bool.rec (fun _ => AOut) (.exit j tm1 h1) (.norm tm1 h1) (Nat.beq j id)).heap h = _
        cases Nat.beq j id <;> rfl
    refine ⟨fun hz => a1 (List.map_eq_nil_iff.1 hz), fun o ho => ?_, fun Mx E B w0 w a hM hσ ha hr hf Q hQ => ?_⟩
    · obtain ⟨oa, hoa, rfl⟩ := List.mem_map.1 ho
      rw [hh _ hoa]; exact a2 _ hoa
    · refine wp_block (a3 Mx E B w0 w a (fun o ho => by rw [← hh _ ho]; exact hM _ (List.mem_map_of_mem ho)) hσ ha hr hf _ fun oa hoa e a' w' ho => ?_)
      have hq1 := fun e a' w' => hQ _ (List.mem_map_of_mem hoa) e a' w'
      cases oa with
      | no => exact absurd rfl (hnoA _ hoa)
      | norm tm1 h1 => have h3 := hq1 _ _ _ ho; obtain ⟨rfl, _⟩ := ho; exact h3
      | ret tm1 h1 => have h3 := hq1 _ _ _ ho; obtain ⟨rfl, _⟩ := ho; exact h3
      | exit j tm1 h1 =>
        have hk : blockK id (.exit j tm1 h1) = @Bool.rec (fun _ => AOut) (.exit j tm1 h1) (.norm tm1 h1) (Nat.beq j id) := rfl
        obtain ⟨rfl, ho⟩ := ho
        by_cases hj : j = id
        · subst hj
          rw [natBeq_eq, decide_eq_true rfl] at hk
          simp only [Exit.inBlock, if_true]
          rw [hk] at hq1
          exact hq1 _ _ _ ⟨rfl, ho⟩
        · rw [natBeq_eq, decide_eq_false hj] at hk
          simp only [Exit.inBlock, hj, if_false]
          rw [hk] at hq1
          exact hq1 _ _ _ ⟨rfl, ho⟩
  | loop x ih ihr =>
    intro tm h hok hno
    cases hS : mapSh x with
    | none => rw [mden_loop0 g x hS] at hno ⊢; exact leaf _ tm h hok hno
    | some S =>
      have M := mapSh_spec hS
      obtain ⟨id, o1, o2, hx, _, _, _, _, d1, d2⟩ := M.shape
      rw [mden_loop g x hS hx] at hno ⊢
      have hno : ∀ o ∈ ordLoop ((den cx g S.rest).run q cf) S ((den cx g (.loop x)).run q cf tm h) tm h, o ≠ .no := hno
      show CodeM P σ nt (.loop x) tm h (ordLoop ((den cx g S.rest).run q cf) S ((den cx g (.loop x)).run q cf tm h) tm h)
      rcases ordLoop_inv (rfl : ordLoop ((den cx g S.rest).run q cf) S ((den cx g (.loop x)).run q cf tm h) tm h = _) with h1 | ⟨i, m, since, es, hit, hi, hm, hb, h1⟩
      · rw [h1] at hno ⊢
        exact leaf _ tm h hok hno
      · rw [← h1] at hno ⊢
        have hok2 := hok
        simp only [codeOK] at hok2
        rw [hx] at hok2
        simp only [codeOK] at hok2
        split at hok2
        case h_2 => cases hok2
        rename_i hreg
        have hd : dstsOK nt [o1, o2] = true := by
          cases hb : dstsOK nt [o1, o2] with
          | true => rfl
          | false => rw [hb] at hreg; cases hreg
        have hds := dstsOK_spec hd
        have hsd : ∀ tm h out, (den cx g S.rest).run q cf tm h = out → out ≠ .no → CodeS P σ nt S.rest tm h out := fun tm h out hr hno => den_sound hq hp hc g S.rest tm h out hok2 hr hno
        have hne := ordR_ne _ _ _ _ _ _ hno
        refine ⟨hne, fun o ho => ?_, fun Mx E B w0 w a hM hσ ha hr hf Q hQ => ?_⟩
        · have := (ordR_next hsd _ _ _ _ _ _ hno o ho).1; omega
        · obtain ⟨o0, ho0⟩ := List.exists_mem_of_ne_nil _ hne
          have hD : h.next + 1 + S.D.length ≤ Mx := Nat.le_trans (ordR_next hsd _ _ _ _ _ _ hno o0 ho0).1 (hM _ ho0)
          obtain ⟨pi, hpi⟩ : ∃ pi, E.φ i = some pi := by
            have h := ha.tm S.it
            rw [hit] at h
            cases hp : E.φ i with
            | none => simp [conc, hp] at h
            | some p => exact ⟨p, rfl⟩
          obtain ⟨hB, hoff, mb, S0, hmb, hS0, hw⟩ := hr.objs i _ pi hi hpi
          obtain ⟨mq, hmq, rfl⟩ := hmb
          cases hS0
          have fr : ∀ j, h.next ≤ j → j < h.next + 1 + S.D.length → E.φ j = none := fun j h1 h2 => hf j h1 (by omega)
          refine ordR_sound hq (CallOK.ext hc) M (hds o1 (by simp) _ d1) (hds o2 (by simp) _ d2) hsd (bs := stampsE es) (Mx := Mx) (n := 6) (tm := tm) (h := h) (es := es) (sl := []) (L := stampsE es) (E := E) (w2 := w) (a2 := a)
            { it := hit, hi := hi, hm := hm, born := hb, sub := subE_self es, no := hno, le := hM, hσ := hσ, rel := hr, act := ha, fr := hf, post := hQ, hpi := hpi, hmq := hmq, seen := fun b hb => (by cases hb), left := fun _ _ => rfl, at_ := ?_ }
          exact ⟨headE E h.next S.D w [] a, ⟨head_tm M.nodup (headE_le fr) ha.tm (Env.le_refl E) ha.tm (fun _ _ => rfl), ha.size, ha.defers⟩, head_post hr hi hpi hmq fr (Post.refl hr) (fun _ _ _ => rfl) (by simpa using hw), ⟨⟨w.heap.size, 0, 0, encI []⟩, by simp [headE], rfl⟩⟩
  | _ => intro tm h hok hno; simp only [mden] at hno ⊢; exact leaf _ tm h hok hno
end Go.Abs

namespace Go.Abs
open Go.RowKit
variable {P : Program} {σ : Val} {cx : Cx}

/-! ## the outcomes joined -/
/-- acc is h with some of what lies from n on forgotten -/
def DropOf (n : Nat) (h acc : AH) : Prop := ∀ j, acc.objs.get j = h.objs.get j ∨ (acc.objs.get j = none ∧ n ≤ j)
theorem DropOf.refl (n : Nat) (h : AH) : DropOf n h h := fun _ => .inl rfl
theorem DropOf.trans {n : Nat} {a b c : AH} (x : DropOf n a b) (y : DropOf n b c) : DropOf n a c := fun j => by
  rcases y j with h | h
  · rw [h]; exact x j
  · exact .inr h
theorem oEqR_ok {a b : Option AO} (h : oEqR a b = true) : a = b := by
  cases a with
  | none => cases b with
    | none => rfl
    | some y => cases h
  | some x => cases b with
    | none => cases x <;> cases h
    | some y =>
      cases x with
      | map => cases h
      | iter => cases h
      | cells cs ro es =>
        cases y with
        | map => cases h
        | iter => cases h
        | cells cs2 ro2 es2 =>
          have h' : (@Bool.rec (fun _ => Bool) false (@Bool.rec (fun _ => Bool) false (Nat.beq es es2) (boolEqR ro ro2)) (avsEqR cs cs2)) = true := h
          cases h1 : avsEqR cs cs2 with
          | false => rw [h1] at h'; cases h'
          | true =>
            rw [h1] at h'
            have h' : (@Bool.rec (fun _ => Bool) false (Nat.beq es es2) (boolEqR ro ro2)) = true := h'
            cases h2 : boolEqR ro ro2 with
            | false => rw [h2] at h'; cases h'
            | true =>
              rw [h2] at h'
              have e1 := avsEq_eq _ _ (avsEqR_ok _ _ h1)
              have e2 : ro = ro2 := by cases ro <;> cases ro2 <;> first | rfl | cases h2
              have e3 := Nat.eq_of_beq_eq_true h'
              rw [e1, e2, e3]
theorem dropH_get (h : AH) (j k : Nat) : (dropH h j).objs.get k = if k = j then none else h.objs.get k := Hp.get_put _ _ _ _
theorem dropH_ext {h0 h : AH} (j : Nat) (he : HExt h0 h) : HExt h0 (dropH h j) := by
  obtain ⟨l, h1, h2⟩ := he
  refine ⟨j :: l, ?_, fun k hk => ?_⟩
  · have : (dropH h j).objs.log = j :: h.objs.log := Hp.log_put _ _ _
    rw [this, h1]; rfl
  · rw [dropH_get, if_neg (fun e => hk (by rw [e]; exact List.mem_cons_self))]
    exact h2 k fun e => hk (List.mem_cons_of_mem _ e)
theorem joinH_spec {n : Nat} {h2 : AH} : ∀ (l : List Nat) (h h3 : AH), joinH n h2 l h = some h3 → h3.next = h.next ∧ DropOf n h h3 ∧ (∀ j ∈ l, h3.objs.get j = h2.objs.get j ∨ (h3.objs.get j = none ∧ n ≤ j)) ∧ ∀ h0, HExt h0 h → HExt h0 h3
  | [], h, h3, hr => by
    have hr' : some h = some h3 := hr
    cases hr'
    exact ⟨rfl, .refl _ _, fun j hj => (by cases hj), fun _ => id⟩
  | j :: l, h, h3, hr => by
    have hr' : (@Bool.rec (fun _ => Option AH) (@Bool.rec (fun _ => Option AH) none (@Bool.rec (fun _ => Option AH) (joinH n h2 l (dropH h j)) (joinH n h2 l h) (goneO (h.objs.get j))) (Nat.ble n j)) (joinH n h2 l h) (oEqR (h.objs.get j) (h2.objs.get j))) = some h3 := hr
    cases hq : oEqR (h.objs.get j) (h2.objs.get j) with
    | true =>
      rw [hq] at hr'
      obtain ⟨a1, a2, a3, a4⟩ := joinH_spec l h h3 hr'
      refine ⟨a1, a2, fun k hk => ?_, a4⟩
      rcases List.mem_cons.1 hk with rfl | hk
      · rw [← oEqR_ok hq]; exact a2 k
      · exact a3 k hk
    | false =>
      rw [hq] at hr'
      have hr' : (@Bool.rec (fun _ => Option AH) none (@Bool.rec (fun _ => Option AH) (joinH n h2 l (dropH h j)) (joinH n h2 l h) (goneO (h.objs.get j))) (Nat.ble n j)) = some h3 := hr'
      cases hn : Nat.ble n j with
      | false => rw [hn] at hr'; cases hr'
      | true =>
        rw [hn] at hr'
        have hle : n ≤ j := Nat.ble_eq ▸ hn
        have hr' : (@Bool.rec (fun _ => Option AH) (joinH n h2 l (dropH h j)) (joinH n h2 l h) (goneO (h.objs.get j))) = some h3 := hr'
        cases hg : goneO (h.objs.get j) with
        | true =>
          rw [hg] at hr'
          obtain ⟨a1, a2, a3, a4⟩ := joinH_spec l h h3 hr'
          have hnone : h.objs.get j = none := by
            cases e : h.objs.get j with
            | none => rfl
            | some x => rw [e] at hg; cases hg
          refine ⟨a1, a2, fun k hk => ?_, a4⟩
          rcases List.mem_cons.1 hk with rfl | hk
          · rcases a2 k with e | e
            · rw [hnone] at e; exact .inr ⟨e, hle⟩
            · exact .inr e
          · exact a3 k hk
        | false =>
        rw [hg] at hr'
        obtain ⟨a1, a2, a3, a4⟩ := joinH_spec l (dropH h j) h3 hr'
        have hd : DropOf n h (dropH h j) := fun k => by
          rw [dropH_get]
          by_cases e : k = j
          · rw [if_pos e]; exact .inr ⟨rfl, e ▸ hle⟩
          · rw [if_neg e]; exact .inl rfl
        refine ⟨a1, hd.trans a2, fun k hk => ?_, fun h0 he => a4 h0 (dropH_ext j he)⟩
        rcases List.mem_cons.1 hk with rfl | hk
        · rcases a2 k with e | e
          · rw [dropH_get, if_pos rfl] at e; exact .inr ⟨e, hle⟩
          · exact .inr e
        · exact a3 k hk
theorem join2_spec {n : Nat} {h0 h h2 H : AH} {v v2 V : AV} (h0l : h0.objs.log = []) (e1 : HExt h0 h) (e2 : HExt h0 h2) (hr : join2 n v h v2 h2 = some (V, H)) :
    V = v ∧ v2 = v ∧ DropOf n h H ∧ DropOf n h2 H ∧ HExt h0 H ∧ h.next ≤ H.next ∧ h2.next ≤ H.next := by
  have hr' : (@Bool.rec (fun _ => Option (AV × AH)) none (@Option.rec AH (fun _ => Option (AV × AH)) none (fun h3 => some (v, AH.mk h3.objs (mxN h.next h2.next))) (joinH n h2 (appN h.objs.log h2.objs.log) h)) (avEqR v v2)) = some (V, H) := hr
  cases hv : avEqR v v2 with
  | false => rw [hv] at hr'; cases hr'
  | true =>
    rw [hv] at hr'
    have hr' : (@Option.rec AH (fun _ => Option (AV × AH)) none (fun h3 => some (v, AH.mk h3.objs (mxN h.next h2.next))) (joinH n h2 (appN h.objs.log h2.objs.log) h)) = some (V, H) := hr'
    cases hj : joinH n h2 (appN h.objs.log h2.objs.log) h with
    | none => rw [hj] at hr'; cases hr'
    | some h3 =>
      rw [hj] at hr'
      have hr' : some (v, AH.mk h3.objs (mxN h.next h2.next)) = some (V, H) := hr'
      cases hr'
      obtain ⟨a1, a2, a3, a4⟩ := joinH_spec _ _ _ hj
      rw [appN_eq] at a3
      have hve : v = v2 := avEq_eq _ _ (avEqR_ok _ _ hv)
      have hmx := mxN_eq h.next h2.next
      refine ⟨rfl, hve.symm, a2, fun j => ?_, a4 h0 e1, by show h.next ≤ mxN _ _; omega, by show h2.next ≤ mxN _ _; omega⟩
      by_cases hm : j ∈ h.objs.log ++ h2.objs.log
      · exact a3 j hm
      · obtain ⟨l1, p1, p2⟩ := e1
        obtain ⟨l2, q1, q2⟩ := e2
        rw [h0l, List.append_nil] at p1 q1
        rw [p1, q1] at hm
        have n1 := p2 j fun e => hm (List.mem_append_left _ e)
        have n2 := q2 j fun e => hm (List.mem_append_right _ e)
        show h3.objs.get j = _ ∨ _
        rw [n2, ← n1]
        exact a2 j

theorem foldJ {r : Tm → AH → Option (AV × AH)} {n : Nat} {h0 : AH} (h0l : h0.objs.log = []) {v : AV} {H : AH} : ∀ (l2 : List AOut) (a : Option (AV × AH)), (∀ o ∈ l2, ∀ v hk, finK r o = some (v, hk) → HExt h0 hk) →
    (List.rec (motive := fun _ => Option (AV × AH) → Option (AV × AH)) (fun a => a) (fun o2 _ ih a => @Option.rec (AV × AH) (fun _ => Option (AV × AH)) none (fun p => @Option.rec (AV × AH) (fun _ => Option (AV × AH)) none (fun p2 => ih (join2 n p.1 p.2 p2.1 p2.2)) (finK r o2)) a) l2 a) = some (v, H) →
    ∃ ha, a = some (v, ha) ∧ (HExt h0 ha → HExt h0 H ∧ DropOf n ha H ∧ ha.next ≤ H.next ∧ ∀ o ∈ l2, ∃ hk, finK r o = some (v, hk) ∧ DropOf n hk H ∧ hk.next ≤ H.next)
  | [], a, _, hr => ⟨H, hr, fun he => ⟨he, .refl _ _, Nat.le_refl _, fun o ho => (by cases ho)⟩⟩
  | o2 :: l2, a, hx, hr => by
    cases a with
    | none => cases hr
    | some p =>
      cases hf : finK r o2 with
      | none =>
        have hr' : (@Option.rec (AV × AH) (fun _ => Option (AV × AH)) none (fun p2 => (List.rec (motive := fun _ => Option (AV × AH) → Option (AV × AH)) (fun a => a) (fun o2 _ ih a => @Option.rec (AV × AH) (fun _ => Option (AV × AH)) none (fun p => @Option.rec (AV × AH) (fun _ => Option (AV × AH)) none (fun p2 => ih (join2 n p.1 p.2 p2.1 p2.2)) (finK r o2)) a) l2 (join2 n p.1 p.2 p2.1 p2.2))) (finK r o2)) = some (v, H) := hr
        rw [hf] at hr'; cases hr'
      | some p2 =>
        have hr' : (@Option.rec (AV × AH) (fun _ => Option (AV × AH)) none (fun p2 => (List.rec (motive := fun _ => Option (AV × AH) → Option (AV × AH)) (fun a => a) (fun o2 _ ih a => @Option.rec (AV × AH) (fun _ => Option (AV × AH)) none (fun p => @Option.rec (AV × AH) (fun _ => Option (AV × AH)) none (fun p2 => ih (join2 n p.1 p.2 p2.1 p2.2)) (finK r o2)) a) l2 (join2 n p.1 p.2 p2.1 p2.2))) (finK r o2)) = some (v, H) := hr
        rw [hf] at hr'
        obtain ⟨ha, h1, h2⟩ := foldJ h0l l2 _ (fun o ho => hx o (List.mem_cons_of_mem _ ho)) hr'
        obtain ⟨pv, ph⟩ := p
        obtain ⟨pv2, ph2⟩ := p2
        have hx2 := hx o2 List.mem_cons_self _ _ hf
        have hd : HExt h0 ph → v = pv ∧ pv2 = pv ∧ DropOf n ph ha ∧ DropOf n ph2 ha ∧ HExt h0 ha ∧ ph.next ≤ ha.next ∧ ph2.next ≤ ha.next := fun he => join2_spec h0l he hx2 h1
        have hv : v = pv := by
          have h1' : (@Bool.rec (fun _ => Option (AV × AH)) none (@Option.rec AH (fun _ => Option (AV × AH)) none (fun h3 => some (pv, AH.mk h3.objs (mxN ph.next ph2.next))) (joinH n ph2 (appN ph.objs.log ph2.objs.log) ph)) (avEqR pv pv2)) = some (v, ha) := h1
          cases hv : avEqR pv pv2 with
          | false => rw [hv] at h1'; cases h1'
          | true =>
            rw [hv] at h1'
            have h1' : (@Option.rec AH (fun _ => Option (AV × AH)) none (fun h3 => some (pv, AH.mk h3.objs (mxN ph.next ph2.next))) (joinH n ph2 (appN ph.objs.log ph2.objs.log) ph)) = some (v, ha) := h1'
            cases hj : joinH n ph2 (appN ph.objs.log ph2.objs.log) ph with
            | none => rw [hj] at h1'; cases h1'
            | some h3 =>
              rw [hj] at h1'
              have h1' : some (pv, AH.mk h3.objs (mxN ph.next ph2.next)) = some (v, ha) := h1'
              cases h1'; rfl
        subst hv
        refine ⟨ph, rfl, fun he => ?_⟩
        obtain ⟨_, d2, d3, d4, d5, d6, d7⟩ := hd he
        subst d2
        obtain ⟨k1, k2, k3, k4⟩ := h2 d5
        refine ⟨k1, d3.trans k2, Nat.le_trans d6 k3, fun o ho => ?_⟩
        rcases List.mem_cons.1 ho with rfl | ho
        · exact ⟨ph2, hf, d4.trans k2, Nat.le_trans d7 k3⟩
        · exact k4 o ho
theorem joinAll_spec {r : Tm → AH → Option (AV × AH)} {n : Nat} {h0 : AH} (h0l : h0.objs.log = []) {v : AV} {H : AH} {l : List AOut} (hx : ∀ o ∈ l, ∀ v hk, finK r o = some (v, hk) → HExt h0 hk) (hr : joinAll r n l = some (v, H)) :
    HExt h0 H ∧ ∀ o ∈ l, ∃ hk, finK r o = some (v, hk) ∧ DropOf n hk H ∧ hk.next ≤ H.next := by
  cases l with
  | nil => cases hr
  | cons o l2 =>
    obtain ⟨ha, h1, h2⟩ := foldJ h0l l2 (finK r o) (fun o ho => hx o (List.mem_cons_of_mem _ ho)) hr
    obtain ⟨k1, k2, k3, k4⟩ := h2 (hx o List.mem_cons_self _ _ h1)
    refine ⟨k1, fun o' ho => ?_⟩
    rcases List.mem_cons.1 ho with rfl | ho
    · exact ⟨ha, h1, k2, k3⟩
    · exact k4 o' ho
/-- all outcomes end -/
theorem joinAll_no {r : Tm → AH → Option (AV × AH)} {n : Nat} {v : AV} {H : AH} {l : List AOut} (hr : joinAll r n l = some (v, H)) : ∀ o ∈ l, o ≠ .no := by
  have key : ∀ (l2 : List AOut) (a : Option (AV × AH)), (List.rec (motive := fun _ => Option (AV × AH) → Option (AV × AH)) (fun a => a) (fun o2 _ ih a => @Option.rec (AV × AH) (fun _ => Option (AV × AH)) none (fun p => @Option.rec (AV × AH) (fun _ => Option (AV × AH)) none (fun p2 => ih (join2 n p.1 p.2 p2.1 p2.2)) (finK r o2)) a) l2 a) = some (v, H) → a ≠ none ∧ ∀ o ∈ l2, o ≠ .no := by
    intro l2
    induction l2 with
    | nil => intro a h; exact ⟨fun e => (by rw [e] at h; cases h), fun o ho => (by cases ho)⟩
    | cons o2 l2 ih =>
      intro a h
      cases a with
      | none => cases h
      | some p =>
        refine ⟨by simp, ?_⟩
        have h' : (@Option.rec (AV × AH) (fun _ => Option (AV × AH)) none (fun p2 => (List.rec (motive := fun _ => Option (AV × AH) → Option (AV × AH)) (fun a => a) (fun o2 _ ih a => @Option.rec (AV × AH) (fun _ => Option (AV × AH)) none (fun p => @Option.rec (AV × AH) (fun _ => Option (AV × AH)) none (fun p2 => ih (join2 n p.1 p.2 p2.1 p2.2)) (finK r o2)) a) l2 (join2 n p.1 p.2 p2.1 p2.2))) (finK r o2)) = some (v, H) := h
        cases hf : finK r o2 with
        | none => rw [hf] at h'; cases h'
        | some p2 =>
          rw [hf] at h'
          intro o ho
          rcases List.mem_cons.1 ho with rfl | ho
          · intro e; rw [e] at hf; cases hf
          · exact (ih _ h').2 o ho
  cases l with
  | nil => cases hr
  | cons o l2 =>
    obtain ⟨k1, k2⟩ := key l2 (finK r o) hr
    intro o' ho
    rcases List.mem_cons.1 ho with rfl | ho
    · intro e; rw [e] at k1; exact k1 rfl
    · exact k2 o' ho

/-- what is forgotten takes nothing from what is told -/
theorem Post.drop {E E' : Env} {B : Nat} {w0 w w' : World} {h hk H : AH} (p : Post E B w0 h w E' hk w') (hd : DropOf h.next hk H) (hn : hk.next ≤ H.next) (hf : ∀ j, hk.next ≤ j → j < H.next → E.φ j = none) : Post E B w0 h w E' H w' := by
  have sub : ∀ j o, H.objs.get j = some o → hk.objs.get j = some o := fun j o hj => by
    rcases hd j with e | e
    · rw [← e]; exact hj
    · rw [e.1] at hj; cases hj
  have low : ∀ j, j < h.next → H.objs.get j = hk.objs.get j := fun j hj => by
    rcases hd j with e | e
    · exact e
    · omega
  exact {
    ext := p.ext
    only := fun i hi => p.only i (hi.imp id fun h => by omega)
    rel := { objs := fun i o q hi hq => p.rel.objs i o q (sub i o hi) hq, inj := fun i j o o' a b hi hj => p.rel.inj i j o o' a b (sub i o hi) (sub j o' hj), below := p.rel.below, base := p.rel.base,
             ok := fun i hi => by
               rcases hd i with e | e
               · rw [e]; exact p.rel.ok i (by omega)
               · exact e.1
             glob := p.rel.glob }
    hid := fun i hi he => by rw [low i hi]; exact p.hid i hi he
    dom := fun i o' hi ho => p.dom i o' hi (sub i o' ho)
    frame := p.frame
    newb := fun i q h1' h2' hq => by
      by_cases hi : i < hk.next
      · exact p.newb i q h1' hi hq
      · rw [p.only i (.inr (by omega)), hf i (by omega) h2'] at hq; cases hq
    grow := p.grow
    next := Nat.le_trans p.next hn }
theorem relogF_inv {h : AH} {r : Option (AV × AH)} {v : AV} {h' : AH} (hr : relogF h r = some (v, h')) : ∃ H, r = some (v, H) ∧ h' = ⟨⟨H.objs.lo, H.objs.hi, H.objs.log ++ h.objs.log⟩, H.next⟩ := by
  cases r with
  | none => cases hr
  | some p =>
    obtain ⟨u, H⟩ := p
    have hr' : some (u, AH.mk (Hp.mk H.objs.lo H.objs.hi (appN H.objs.log h.objs.log)) H.next) = some (v, h') := hr
    cases hr'
    exact ⟨H, rfl, by rw [appN_eq]⟩
end Go.Abs

namespace Go.Abs
open Go.RowKit

variable {P : Program} {σ : Val} {cx : Cx}

/-- a function's body gives what the call gives -/
theorem fn_sound {ms : Tr (Tr (List Nat))} {q : Kn} (hq : cx.put q = cx) (hp : ProgOK P σ cx ms) {cf : CallF} (hc : CallOK P σ cf) {g : Nat} {args : List AV} {h : AH} {v : AV} {h' : AH} (hr : (fnX cx g).run q cf args h = some (v, h')) :
    h.next ≤ h'.next ∧ ∀ (E : Env) (B : Nat) (w0 w : World) (A : List Value), E.σ = σ → concs E args = some A → Rel E B w0 h w → Fresh E h h' →
      (callFunc g ⟨A⟩).run P w = .ok (.enter g ⟨A⟩) w ∧ Calls P g ⟨A⟩ w fun e w' => ∃ V, e = .returned V ∧ ∃ E', conc E' v = some V ∧ Post E B w0 h w E' h' w' := by
  unfold fnX at hr
  split at hr
  case h_2 => cases hr
  rename_i fn hg
  split at hr
  case h_2 => cases hr
  rename_i c hb
  have hfn := hp.fns g fn hg
  have hP := hp.funcs g fn hg
  simp only [fnOK, hb] at hfn
  split at hfn
  case h_2 => cases hfn
  rename_i hname
  have one : finK (resF cx fn.results.toList).run ((den cx g c).run q cf (initR args 0 Tm.nil) h) = some (v, h') → h.next ≤ h'.next ∧ ∀ (E : Env) (B : Nat) (w0 w : World) (A : List Value), E.σ = σ → concs E args = some A → Rel E B w0 h w → Fresh E h h' →
      (callFunc g ⟨A⟩).run P w = .ok (.enter g ⟨A⟩) w ∧ Calls P g ⟨A⟩ w fun e w' => ∃ V, e = .returned V ∧ ∃ E', conc E' v = some V ∧ Post E B w0 h w E' h' w' := by
    intro hr
    have hr' := finK_eq fn hr
    rw [initR_eq] at hr'
    obtain ⟨f1, f2, f3⟩ := fin_sound (P := P) hp.ok hr'
    obtain ⟨n1, n2⟩ := den_sound hq hp hc g c _ h _ hfn rfl f1
    rw [f2] at n1 n2
    refine ⟨n1, fun E B w0 w A hσ hA hrel hfr => ⟨?_, ?_⟩⟩
    · unfold callFunc
      simp only [Sem.run_bind, run_program, Result.andThen_ok, hP, hname, Bool.false_eq_true, if_false, hb, Option.isNone_some]
      rfl
    · refine calls_of_wp hP hb (n2 E B w0 w _ hσ (init_act hA fn.ntmps) hrel hfr _ fun e a w' ho => ?_)
      exact f3 E B w0 h w _ _ e a w' hσ ho fun E' V hV hpost => ⟨V, rfl, E', hV, hpost⟩
  split at hr
  · exact one hr
  · have hr' : (@Option.rec (AV × AH) (fun _ => Option (AV × AH)) (relogF h (joinAll (resF cx fn.results.toList).run h.next ((mden cx g c).run q cf (initR args 0 Tm.nil) (AH.mk (noLog h.objs) h.next)))) (fun p => some p)
      (finK (resF cx fn.results.toList).run ((den cx g c).run q cf (initR args 0 Tm.nil) h))) = some (v, h') := hr
    cases h1 : finK (resF cx fn.results.toList).run ((den cx g c).run q cf (initR args 0 Tm.nil) h) with
    | some p =>
      rw [h1] at hr'
      have hr' : some p = some (v, h') := hr'
      rw [hr'] at h1
      exact one h1
    | none =>
      rw [h1] at hr'
      obtain ⟨H, hj, rfl⟩ := relogF_inv hr'
      rw [initR_eq] at hj
      have hno := joinAll_no hj
      obtain ⟨m1, m2, m3⟩ := mden_sound hq hp hc g c (initTm 0 args Tm.nil) (AH.mk (noLog h.objs) h.next) hfn hno
      have hx := mden_ext hq (CallOK.ext hc) g c (initTm 0 args Tm.nil) (AH.mk (noLog h.objs) h.next) hno
      have hfx : ∀ o ∈ (mden cx g c).run q cf (initTm 0 args Tm.nil) (AH.mk (noLog h.objs) h.next), ∀ v hk, finK (resF cx fn.results.toList).run o = some (v, hk) → HExt (AH.mk (noLog h.objs) h.next) hk := fun o ho v hk hf => by
        have h2 := fin_sound (P := P) hp.ok (finK_eq fn hf)
        have h3 := hx o ho
        rwa [h2.2.1] at h3
      obtain ⟨_, hall⟩ := joinAll_spec rfl hfx hj
      have hle : ∀ o ∈ (mden cx g c).run q cf (initTm 0 args Tm.nil) (AH.mk (noLog h.objs) h.next), (o.heap (AH.mk (noLog h.objs) h.next)).next ≤ H.next := fun o ho => by
        obtain ⟨hk, h2, _, h3⟩ := hall o ho
        rw [(fin_sound (P := P) hp.ok (finK_eq fn h2)).2.1]
        exact h3
      obtain ⟨o0, ho0⟩ := List.exists_mem_of_ne_nil _ m1
      refine ⟨Nat.le_trans (m2 o0 ho0) (hle o0 ho0), fun E B w0 w A hσ hA hrel hfr => ⟨?_, ?_⟩⟩
      · unfold callFunc
        simp only [Sem.run_bind, run_program, Result.andThen_ok, hP, hname, Bool.false_eq_true, if_false, hb, Option.isNone_some]
        rfl
      · have hrel0 : Rel E B w0 (AH.mk (noLog h.objs) h.next) w := ⟨hrel.objs, hrel.inj, hrel.below, hrel.base, hrel.ok, hrel.glob⟩
        refine calls_of_wp hP hb (m3 H.next E B w0 w _ hle hσ (init_act hA fn.ntmps) hrel0 hfr _ fun o ho e a w' hok => ?_)
        obtain ⟨hk, h2, h3, h4⟩ := hall o ho
        obtain ⟨f1, f2, f3⟩ := fin_sound (P := P) hp.ok (finK_eq fn h2)
        refine f3 E B w0 _ w _ _ e a w' hσ hok fun E' V hV hpost => ⟨V, rfl, E', hV, ?_⟩
        have hp1 : Post E B w0 h w E' hk w' := ⟨hpost.ext, hpost.only, hpost.rel, hpost.hid, hpost.dom, hpost.frame, hpost.newb, hpost.grow, hpost.next⟩
        have hp2 := hp1.drop h3 h4 fun j h5 h6 => hfr j (Nat.le_trans hp1.next h5) h6
        exact hp2.congr (fun j => rfl) rfl

theorem callQ_inv {g : Nat} {as : List AV} {v : AV} : ∀ {l : List FCall}, callQ g as l = some v → ∃ f ∈ l, f.g = g ∧ f.args = as ∧ f.v = v
  | [], h => by cases h
  | f :: l, h => by
    have h : @Bool.rec (fun _ => Option AV) (callQ g as l) (@Bool.rec (fun _ => Option AV) (callQ g as l) (some f.v) (avsEqR f.args as)) (Nat.beq g f.g) = some v := h
    cases h1 : Nat.beq g f.g with
    | false => rw [h1] at h; obtain ⟨x, hx, r⟩ := callQ_inv h; exact ⟨x, by simp [hx], r⟩
    | true =>
      rw [h1] at h
      cases h2 : avsEqR f.args as with
      | false => rw [h2] at h; obtain ⟨x, hx, r⟩ := callQ_inv h; exact ⟨x, by simp [hx], r⟩
      | true =>
        rw [h2] at h
        cases h
        exact ⟨f, by simp, (Nat.eq_of_beq_eq_true h1).symm, avsEq_eq _ _ (avsEqR_ok _ _ h2), rfl⟩
theorem callN_succ (q : Kn) (n g : Nat) (as : List AV) (h : AH) : callN cx q (n + 1) g as h = match callQ g as q.calls with
    | some v => some (v, h)
    | none => match cx.sums.get g with
      | some s => s as h
      | none => (fnX cx g).run q (callN cx q n) as h := by
  show @Option.rec AV (fun _ => Option (AV × AH)) (@Option.rec Sum (fun _ => Option (AV × AH)) _ _ (cx.sums.get g)) _ (callQ g as q.calls) = _
  cases callQ g as q.calls with
  | some v => rfl
  | none => cases cx.sums.get g <;> rfl

theorem finA_ext {fn : Func} {o : AOut} {v : AV} {h h' : AH} (hv : finA cx fn o = some (v, h')) (he : o ≠ .no → HExt h (o.heap h)) : HExt h h' := by
  cases o with
  | no => simp [finA] at hv
  | exit => simp [finA] at hv
  | norm tm h1 =>
    simp only [finA] at hv
    split at hv
    · cases hv; exact he (by simp)
    · cases hv
  | ret tm h1 =>
    simp only [finA] at hv
    split at hv
    · cases hv; exact he (by simp)
    · cases hv
theorem fnX_ext {q : Kn} (hq : cx.put q = cx) {cf : CallF} (hc : CfExt cf) {g : Nat} {args : List AV} {h h' : AH} {v : AV} (hr : (fnX cx g).run q cf args h = some (v, h')) : HExt h h' := by
  unfold fnX at hr
  split at hr
  case h_2 => cases hr
  rename_i fn hg
  split at hr
  case h_2 => cases hr
  rename_i c hb
  have one : finK (resF cx fn.results.toList).run ((den cx g c).run q cf (initR args 0 Tm.nil) h) = some (v, h') → HExt h h' := fun hr => finA_ext (finK_eq _ hr) fun hno => den_ext hq hc g _ _ _ _ rfl hno
  split at hr
  · exact one hr
  · have hr' : (@Option.rec (AV × AH) (fun _ => Option (AV × AH)) (relogF h (joinAll (resF cx fn.results.toList).run h.next ((mden cx g c).run q cf (initR args 0 Tm.nil) (AH.mk (noLog h.objs) h.next)))) (fun p => some p)
      (finK (resF cx fn.results.toList).run ((den cx g c).run q cf (initR args 0 Tm.nil) h))) = some (v, h') := hr
    cases h1 : finK (resF cx fn.results.toList).run ((den cx g c).run q cf (initR args 0 Tm.nil) h) with
    | some p =>
      rw [h1] at hr'
      have hr' : some p = some (v, h') := hr'
      rw [hr'] at h1
      exact one h1
    | none =>
      rw [h1] at hr'
      obtain ⟨H, hj, rfl⟩ := relogF_inv hr'
      have hno := joinAll_no hj
      have hx := mden_ext hq hc g c (initR args 0 Tm.nil) (AH.mk (noLog h.objs) h.next) hno
      have hfx : ∀ o ∈ (mden cx g c).run q cf (initR args 0 Tm.nil) (AH.mk (noLog h.objs) h.next), ∀ v hk, finK (resF cx fn.results.toList).run o = some (v, hk) → HExt (AH.mk (noLog h.objs) h.next) hk := fun o ho v hk hf =>
        finA_ext (finK_eq fn hf) fun _ => hx o ho
      obtain ⟨⟨l, h2, h3⟩, _⟩ := joinAll_spec rfl hfx hj
      have h2 : H.objs.log = l ++ [] := h2
      rw [List.append_nil] at h2
      exact ⟨l, by rw [← h2], fun j hj => h3 j hj⟩
theorem callN_ext {q : Kn} (hq : cx.put q = cx) (hs : ∀ g s, cx.sums.get g = some s → ∀ as h v h', s as h = some (v, h') → HExt h h') : ∀ n, CfExt (callN cx q n)
  | 0 => fun g args h v h' hc => by cases hc
  | n + 1 => fun g args h v h' hc => by
    rw [callN_succ] at hc
    split at hc
    · cases hc; exact HExt.refl _
    split at hc
    · rename_i s hsum; exact hs g s hsum args h v h' hc
    · exact fnX_ext hq (callN_ext hq hs n) hc


theorem callN_ok {ms : Tr (Tr (List Nat))} {q : Kn} (hq : cx.put q = cx) (hp : ProgOK P σ cx ms) : ∀ n, CallOK P σ (callN cx q n)
  | 0 => fun g => ⟨fun args h v h' hc => (by cases hc), fun args h v h' hc => (by cases hc)⟩
  | n + 1 => fun g => ⟨fun args h v h' hc => by
    rw [callN_succ] at hc
    split at hc
    · rename_i v0 hcq
      cases hc
      rw [show q.calls = cx.calls from congrArg Cx.calls hq] at hcq
      obtain ⟨f, hf, rfl, rfl, rfl⟩ := callQ_inv hcq
      refine ⟨Nat.le_refl _, fun E B w0 w A hσ hA hrel _ => ?_⟩
      exact (hp.calls f hf h E B w0 w A hσ hA hrel).mono fun V w' ⟨h1, h2⟩ => ⟨E, h1, h2⟩
    split at hc
    · rename_i s hs; exact (hp.sums g s hs).1 args h v h' hc
    · obtain ⟨h1, h2⟩ := fn_sound hq hp (callN_ok hq hp n) hc
      exact ⟨h1, fun E B w0 w A hσ hA hrel hfr => .inl (h2 E B w0 w A hσ hA hrel hfr)⟩,
    callN_ext hq (fun g s hs => (hp.sums g s hs).2) (n + 1) g⟩
section put
variable (z : Kn)
theorem anyX_put (o : Op) (s : SF) : anyX (cx.put z) o s = anyX cx o s := rfl
theorem binX_put (op : BinOp) (t : Nat) (x y : VF) (s : SF) : binX (cx.put z) op t x y s = binX cx op t x y s := by cases op <;> rfl
theorem opX_put (o : Op) (s : SF) : opX (cx.put z) o s = opX cx o s := by
  cases o <;> first | rfl | skip
theorem lineX_put (all : List Oper) (o : Oper) : lineX (cx.put z) all o = lineX cx all o := by unfold lineX; rw [opX_put]
theorem linesX_put (all : List Oper) : ∀ os, linesX (cx.put z) all os = linesX cx all os
  | [] => rfl
  | o :: os => by simp only [linesX, lineX_put, linesX_put all os]
theorem readF_put (o : Op) : readF (cx.put z) o = readF cx o := by cases o <;> rfl
theorem chkR_put (q : Kn) (sn : Tr AH) (r : Read) (ps : List Nat) : chkR (cx.put z) q sn r ps = chkR cx q sn r ps := by unfold chkR; rw [readF_put]
theorem chksR_put (q : Kn) (sn : Tr AH) (rs : List Read) : chksR (cx.put z) q sn rs = chksR cx q sn rs := by
  unfold chksR; simp only [chkR_put]
theorem drawL_put (all : List Oper) (k : Nat) (o : Oper) (ps : List Nat) : drawL (cx.put z) all k o ps = drawL cx all k o ps := by unfold drawL; rw [opX_put]
theorem drawsX_put (all : List Oper) : ∀ (os : List Oper) (k : Nat) (pl : List (List Nat)), drawsX (cx.put z) all k os pl = drawsX cx all k os pl
  | [], _, _ => rfl
  | o :: os, k, pl => by simp only [drawsX, drawL_put, drawsX_put all os]
theorem runD_put (q : Kn) (n : Nat) (cf : CallF) (xs : List DX) : runD (cx.put z) q n cf xs = runD cx q n cf xs := by unfold runD; simp only [chksR_put]
theorem den_put (g : Nat) : ∀ c, den (cx.put z) g c = den cx g c := by
  intro c
  induction c using code_ind with
  | region id ops draw =>
    cases draw with
    | false => simp only [den, regX, linesX_put]
    | true => simp only [den, runD_put, drawsL, drawsX_put]; rfl
  | seq a b iha ihb => simp only [den, iha, ihb]
  | cond x a b iha ihb => simp only [den, iha, ihb]
  | block id a ih => simp only [den, ih]
  | loop a ih ihr =>
    rw [den_loop, den_loop, ih]
    cases a with
    | seq x y => have e : den (cx.put z) g y = den cx g y := ihr; simp only [e]
    | _ => rfl
  | scope a ih => simp only [den, ih]
  | skip => rfl
  | label l => rfl
  | exit id => rfl
  | ret => rfl
  | goto l => rfl
  | rangeFunc f ps a b => rfl
  | refuse w => rfl
theorem mden_put (g : Nat) : ∀ c, mden (cx.put z) g c = mden cx g c := by
  intro c
  induction c using code_ind with
  | seq a b iha ihb => simp only [mden, iha, ihb]
  | block id a ih => simp only [mden, ih]
  | loop a ih ihr =>
    cases hS : mapSh a with
    | none => rw [mden_loop0 g a hS, mden_loop0 g a hS, den_put]
    | some S =>
      obtain ⟨id, o1, o2, hx, _⟩ := (mapSh_spec hS).shape
      rw [mden_loop g a hS hx, mden_loop g a hS hx, den_put, den_put]
  | _ => simp only [mden, den_put]
theorem fnX_put (g : Nat) : fnX (cx.put z) g = fnX cx g := by
  unfold fnX
  simp only [den_put, mden_put]
  rfl
theorem callN_put (q : Kn) : ∀ n, callN (cx.put z) q n = callN cx q n
  | 0 => rfl
  | n + 1 => by
    funext g as h
    rw [callN_succ, callN_succ, fnX_put, callN_put q n]; rfl
theorem goT_put (q : Kn) (n g : Nat) (args : List AV) (h : AH) : goT (cx.put z) q n g args h = goT cx q n g args h := by
  unfold goT; rw [fnX_put, callN_put]
end put
/-- what is run, with what is known -/
theorem goT_sound {ms : Tr (Tr (List Nat))} {q : Kn} (hp : ProgOK P σ (cx.put q) ms) {n g : Nat} {args : List AV} {h : AH} {v : AV} {h' : AH} (hr : goT cx q n g args h = some (v, h')) :
    h.next ≤ h'.next ∧ ∀ (E : Env) (B : Nat) (w0 w : World) (A : List Value), E.σ = σ → concs E args = some A → Rel E B w0 h w → Fresh E h h' →
      (callFunc g ⟨A⟩).run P w = .ok (.enter g ⟨A⟩) w ∧ Calls P g ⟨A⟩ w fun e w' => ∃ V, e = .returned V ∧ ∃ E', conc E' v = some V ∧ Post E B w0 h w E' h' w' :=
  fn_sound (cx := cx.put q) (q := q) rfl hp (callN_ok rfl hp n) ((goT_put q q n g args h).trans hr)
end Go.Abs

namespace Go.Abs
open Go.RowKit

variable {P : Program} {σ : Val} {cx : Cx}

theorem ttGo_get (P : Program) : ∀ (l : List TypeInfo) (n : Nat) (t : Tr TyI) (m : Nat), (ttGo P n l t).get m = if n ≤ m ∧ m < n + l.length then tyI P m else t.get m
  | [], n, t, m => by simp only [ttGo]; rw [if_neg (by simp only [List.length_nil]; omega)]
  | a :: l, n, t, m => by
    simp only [ttGo]
    rw [ttGo_get P l (n + 1)]
    simp only [List.length_cons, Tr.get_setG]
    by_cases h : n + 1 ≤ m ∧ m < n + 1 + l.length
    · rw [if_pos h, if_pos (by omega)]
    · rw [if_neg h]
      by_cases e : m = n
      · subst e; rw [if_pos rfl, if_pos (by omega)]
      · rw [if_neg e, if_neg (by omega)]

theorem ttOf_ok (P : Program) : ∀ t i, (ttOf P).get t = some i → tyI P t = some i := by
  intro t i h
  unfold ttOf at h
  rw [ttGo_get] at h
  split at h
  · exact h
  · simp at h

/-- what the kernel is asked of a program once -/
structure Asked (P : Program) (pl : Tr (Tr (List (List Nat)))) (ms : Tr (Tr (List Nat))) : Prop where
  fns : fnsOK pl ms 0 P.funcs.toList = true
  mixed : P.follows .mixedOrders = true

theorem progOK_of {pl : Tr (Tr (List (List Nat)))} {ms : Tr (Tr (List Nat))} (a : Asked P pl ms) (h1 : cx.tt = ttOf P) (h2 : cx.funcs = trOf 0 P.funcs.toList .nil) (h3 : cx.plan = pl)
    (hf : ∀ f ∈ cx.facts, FactOK P σ f) (hc : ∀ f ∈ cx.convs, FConvOK σ f) (hb : ∀ s, cx.bytes.get s = some true → 0 ≤ σ.num s ∧ σ.num s < 256) (hl : ∀ f ∈ cx.lens, FLenOK σ f) (hrd : ∀ f ∈ cx.reads, FReadOK σ f) (hcl : ∀ f ∈ cx.calls, FCallOK P σ f)
    (hgl : ∀ g cs, cx.globs.get g = some cs → cs.all AV.atom = true ∧ ∃ vs, (∀ E : Env, E.σ = σ → concs E cs = some vs) ∧ ∀ (j : Nat) (v : Value), vs[j]? = some v → σ.glob g j = some v) (hs : ∀ g s, cx.sums.get g = some s → SumOK P σ g s) : ProgOK P σ cx ms := by
  have hg : ∀ g fn, cx.funcs.get g = some fn → P.funcs.toList[g]? = some fn := by
    intro g fn h
    rw [h2, trOf_get] at h
    split at h
    · simpa using h
    · simp at h
  refine ⟨⟨by rw [h1]; exact ttOf_ok P, hf, hc, hb, hl, hrd, hgl⟩, fun g fn h => ?_, fun g fn h => ?_, a.mixed, hs, hcl⟩
  · rw [← Array.getElem?_toList]; exact hg g fn h
  · rw [h3]
    have := fnsOK_spec a.fns g fn (hg g fn h)
    simpa using this

noncomputable def cxW (P : Program) (pl : Tr (Tr (List (List Nat)))) (globs : Tr (List AV)) (sums : Tr Sum) : Cx :=
  { tt := ttOf P, funcs := trOf 0 P.funcs.toList .nil, facts := [], convs := [], sums := sums, globs := globs, bytes := .nil, lens := [], reads := [], calls := [], plan := pl }

theorem progOK_W {pl : Tr (Tr (List (List Nat)))} {ms : Tr (Tr (List Nat))} {globs : Tr (List AV)} {sums : Tr Sum} {q : Kn} (a : Asked P pl ms)
    (hf : ∀ f ∈ q.facts, FactOK P σ f) (hc : ∀ f ∈ q.convs, FConvOK σ f) (hb : ∀ s, q.bytes.get s = some true → 0 ≤ σ.num s ∧ σ.num s < 256) (hl : ∀ f ∈ q.lens, FLenOK σ f) (hrd : ∀ f ∈ q.reads, FReadOK σ f) (hcl : ∀ f ∈ q.calls, FCallOK P σ f)
    (hgl : ∀ g cs, globs.get g = some cs → cs.all AV.atom = true ∧ ∃ vs, (∀ E : Env, E.σ = σ → concs E cs = some vs) ∧ ∀ (j : Nat) (v : Value), vs[j]? = some v → σ.glob g j = some v)
    (hs : ∀ g s, sums.get g = some s → SumOK P σ g s) : ProgOK P σ ((cxW P pl globs sums).put q) ms :=
  progOK_of (cx := (cxW P pl globs sums).put q) a rfl rfl rfl hf hc hb hl hrd hcl hgl hs

def noEnv (σ : Val) : Env := ⟨fun _ => none, σ⟩
theorem rel_none {σ : Val} {w : World} (hg : ∀ g j v, σ.glob g j = some v → g < w.heap.size ∧ w.cell? ⟨g, j, none⟩ = some v) (m : Nat) : Rel (noEnv σ) w.heap.size w ⟨.nil, m⟩ w :=
  { objs := fun i o p hi => (by rw [get_nil] at hi; cases hi), inj := fun i j o o' p q hi => (by rw [get_nil] at hi; cases hi), below := Below.refl _ _, base := Nat.le_refl _, ok := fun i _ => get_nil m i, glob := hg }

theorem isTrue_inv {x : Option (AV × AH)} (h : isTrueR x = true) : ∃ h', x = some (.bool true, h') := by
  cases x with
  | none => cases h
  | some p =>
    obtain ⟨v, h'⟩ := p
    cases v <;> first | (cases h; done) | skip
    rename_i b
    have hb : b = true := h
    subst hb; exact ⟨h', rfl⟩

/-- a law whose arguments hold no memory -/
theorem law_of_run {ms : Tr (Tr (List Nat))} {q : Kn} (hp : ProgOK P σ (cx.put q) ms) {fuel g : Nat} {args : List AV} {A : List Value} (hA : concs (noEnv σ) args = some A)
    (hr : isTrueR (goT cx q fuel g args ⟨.nil, 0⟩) = true) (w : World) (hg : ∀ g j v, σ.glob g j = some v → g < w.heap.size ∧ w.cell? ⟨g, j, none⟩ = some v) : Calls P g ⟨A⟩ w fun e w' => e = .returned (.bool true) ∧ Below w.heap.size w w' := by
  obtain ⟨h', hr⟩ := isTrue_inv hr
  obtain ⟨_, h2⟩ := goT_sound hp hr
  refine Calls.mono (h2 (noEnv σ) w.heap.size w w A rfl hA (rel_none hg 0) (fun _ _ _ => rfl)).2 fun e w' hh => ?_
  obtain ⟨V, rfl, E', hV, hpost⟩ := hh
  simp only [conc, Option.some.injEq] at hV
  subst hV
  exact ⟨rfl, hpost.rel.below⟩

/-- several runs -/
noncomputable def runAll (cx : Cx) (n g : Nat) (l : List (Kn × List AV)) : Bool :=
  List.rec (motive := fun _ => Bool) true (fun p _ ih => Bool.rec (motive := fun _ => Bool) false ih (isTrueR (goT cx p.1 n g p.2 ⟨.nil, 0⟩))) l
theorem runAll_get {n g : Nat} : ∀ {l : List (Kn × List AV)}, runAll cx n g l = true → ∀ (i : Nat) {p : Kn × List AV}, l[i]? = some p → isTrueR (goT cx p.1 n g p.2 ⟨.nil, 0⟩) = true
  | [], _, i, p, hp => by simp at hp
  | p :: l, h, i, r, hp => by
    have h' : (@Bool.rec (fun _ => Bool) false (runAll cx n g l) (isTrueR (goT cx p.1 n g p.2 ⟨.nil, 0⟩))) = true := h
    cases hr : isTrueR (goT cx p.1 n g p.2 ⟨.nil, 0⟩) with
    | false => rw [hr] at h'; cases h'
    | true =>
      rw [hr] at h'
      cases i with
      | zero => simp at hp; subst hp; exact hr
      | succ i => exact runAll_get h' i (by simpa using hp)

/-! ## calls that touch no memory of the caller's -/
mutual
def plain : AV → Bool
  | .bool _ | .int _ _ | .sym _ _ | .str _ | .nilp | .nils | .nilm | .nilf | .nili | .opq _ => true
  | .agg cs => plains cs
  | .tup cs => plains cs
  | _ => false
def plains : List AV → Bool
  | [] => true
  | v :: vs => match plain v with
    | true => plains vs
    | false => false
end

mutual
theorem conc_plain {E E' : Env} (hσ : E.σ = E'.σ) : ∀ (x : AV), plain x = true → conc E x = conc E' x
  | .bool _, _ | .int _ _, _ | .str _, _ | .nilp, _ | .nils, _ | .nilm, _ | .nilf, _ | .nili, _ => rfl
  | .sym _ _, _ => by simp only [conc, hσ]
  | .opq _, _ => by simp only [conc, hσ]
  | .agg cs, h => by simp only [plain] at h; simp only [conc, concs_plain hσ cs h]
  | .tup cs, h => by simp only [plain] at h; simp only [conc, concs_plain hσ cs h]
  | .ptr _ _, h | .slice _ _ _ _ _, h | .tail _ _ _ _ _, h | .map _, h | .fn _ _ _, h | .iface _ _, h => by simp [plain] at h
theorem concs_plain {E E' : Env} (hσ : E.σ = E'.σ) : ∀ (xs : List AV), plains xs = true → concs E xs = concs E' xs
  | [], _ => rfl
  | x :: xs, h => by
    simp only [plains] at h
    split at h
    · rename_i hx
      simp only [concs, conc_plain hσ x hx, concs_plain hσ xs h]
    · cases h
end

theorem Post.kept {E : Env} {B : Nat} {w0 : World} {h : AH} {w w' : World} (hr : Rel E B w0 h w) (hb : Below w.heap.size w w') : Post E B w0 h w E h w' := by
  refine { Post.refl hr with rel := ?_, frame := fun b hb' _ => hb.block b hb', grow := hb.size }
  refine ⟨fun i o p hi hp => objRel_block (hr.objs i o p hi hp) (hb.block _ ?_), hr.inj, ⟨hb.os.trans hr.below.os, hb.tape.trans hr.below.tape, hb.output.trans hr.below.output, Nat.le_trans hr.below.size hb.size, fun k hk => ?_⟩, hr.base, hr.ok, hr.glob⟩
  · by_cases hw : o.rw = true
    · exact objRel_lt (hr.objs i o p hi hp) hw
    · have h1 := hr.objs i o p hi hp
      cases o with
      | cells cs ro es =>
        have hro : ro = true := by simpa [AO.rw] using hw
        obtain ⟨_, vs, _, h3, _⟩ := h1
        exact Nat.lt_of_lt_of_le (h3 hro).1 (Nat.le_trans hr.base hr.below.size)
      | map es c => simp [AO.rw] at hw
      | iter m since last seen pre => simp [AO.rw] at hw
  · rw [hb.block k (Nat.lt_of_lt_of_le hk (Nat.le_trans hr.base hr.below.size)), hr.below.block k hk]

/-- a call at these arguments gives this, and no more -/
def sumAt (args : List AV) (v : AV) : Sum := fun as h => match avsEq as args with
  | true => some (v, h)
  | false => none

theorem globHere {E : Env} {B : Nat} {w0 w : World} {h : AH} (hσ : E.σ = σ) (hr : Rel E B w0 h w) : ∀ g j v, σ.glob g j = some v → g < w.heap.size ∧ w.cell? ⟨g, j, none⟩ = some v := by
  intro g j v hg
  rw [← hσ] at hg
  obtain ⟨h1, h2⟩ := hr.glob g j v hg
  exact ⟨Nat.lt_of_lt_of_le h1 (Nat.le_trans hr.base hr.below.size), by rw [hr.below.cell h1]; exact h2⟩

theorem sum_pure {ms : Tr (Tr (List Nat))} {q : Kn} (hp : ProgOK P σ (cx.put q) ms) {fuel g : Nat} {args : List AV} {v : AV} {h' : AH} (ha : plains args = true) (hv : plain v = true)
    (hr : goT cx q fuel g args ⟨.nil, 0⟩ = some (v, h')) : SumOK P σ g (sumAt args v) := by
  refine ⟨fun as h u h1 hs => ?_, fun as h u h1 hs => ?_⟩
  rotate_left
  · unfold sumAt at hs
    split at hs
    · cases hs; exact HExt.refl _
    · cases hs
  unfold sumAt at hs
  split at hs
  case h_2 => cases hs
  rename_i heq
  cases hs
  have := avsEq_eq _ _ heq; subst this
  refine ⟨Nat.le_refl _, fun E B w0 w A hσ hA hrel _ => .inl ?_⟩
  have hA' : concs (noEnv σ) as = some A := by rw [← hA]; exact concs_plain hσ.symm as ha
  obtain ⟨h2, h3⟩ := (goT_sound hp hr).2 (noEnv σ) w.heap.size w w A rfl hA' (rel_none (globHere hσ hrel) 0) (fun _ _ _ => rfl)
  refine ⟨h2, Calls.mono h3 fun e w' hh => ?_⟩
  obtain ⟨V, rfl, E', hV, hpost⟩ := hh
  refine ⟨V, rfl, E, ?_, Post.kept hrel hpost.rel.below⟩
  rw [conc_plain (E := E) (E' := E') (hσ.trans hpost.ext.2.symm) v hv]; exact hV

theorem isV_inv {x : Option (AV × AH)} {v : AV} (h : isVR x v = true) : ∃ h', x = some (v, h') := by
  cases x with
  | none => cases h
  | some p =>
    obtain ⟨u, h'⟩ := p
    have h2 : avEqR u v = true := h
    exact ⟨h', by rw [avEq_eq _ _ (avEqR_ok _ _ h2)]⟩
theorem sum_run {ms : Tr (Tr (List Nat))} {q : Kn} (hp : ProgOK P σ (cx.put q) ms) {fuel g : Nat} {args : List AV} {v : AV} (ha : plains args = true) (hv : plain v = true)
    (hr : isVR (goT cx q fuel g args ⟨.nil, 0⟩) v = true) : SumOK P σ g (sumAt args v) := by
  obtain ⟨h', h⟩ := isV_inv hr
  exact sum_pure hp ha hv h

/-- one summary -/
noncomputable def oneSum (g : Nat) (s : Sum) : Tr Sum := (Tr.nil : Tr Sum).set g s
theorem oneSum_ok {g : Nat} {s : Sum} (h : SumOK P σ g s) : ∀ g' s', (oneSum g s).get g' = some s' → SumOK P σ g' s' := by
  intro g' s' hh
  unfold oneSum at hh
  rw [Tr.get_set] at hh
  split at hh
  · rename_i e; cases hh; subst e; exact h
  · simp at hh

theorem setSum_ok {t : Tr Sum} {g0 : Nat} {s0 : Sum} (h : ∀ g s, t.get g = some s → SumOK P σ g s) (h0 : SumOK P σ g0 s0) : ∀ g s, (t.set g0 s0).get g = some s → SumOK P σ g s := by
  intro g s hh
  rw [Tr.get_set] at hh
  split at hh
  · rename_i e; cases hh; subst e; exact h0
  · exact h g s hh

/-! ## facts -/
theorem fact_int {k : IntKind} {op : BinOp} {x y r : AV} {a b : Int} (hx : ∀ E : Env, E.σ = σ → conc E x = some (.int k a)) (hy : ∀ E : Env, E.σ = σ → conc E y = some (.int k b))
    (hr : ∀ E : Env, E.σ = σ → ∃ R, conc E r = some R ∧ ∀ w t, (binOp op t (.int k a) (.int k b)).run P w = .ok R w) : FactOK P σ ⟨op, x, y, r⟩ := by
  intro E hE X Y hX hY
  rw [hx E hE] at hX; cases hX
  rw [hy E hE] at hY; cases hY
  exact hr E hE

theorem fact_eql {k : IntKind} {s t : Nat} {b : Bool} (h : (σ.num s == σ.num t) = b) : FactOK P σ ⟨.eql, .sym k s, .sym k t, .bool b⟩ :=
  fact_int (k := k) (a := σ.num s) (b := σ.num t) (fun E hE => by simp [conc, hE]) (fun E hE => by simp [conc, hE]) fun E hE => by
    have hb : binI .eql k (σ.num s) (σ.num t) = some (.bool b) := by simp only [binI]; rw [intEq_eq, h]
    exact binI_sound hb E
theorem fact_of {k : IntKind} {op : BinOp} {x y r : AV} {a b : Int} (hx : ∀ E : Env, E.σ = σ → conc E x = some (.int k a)) (hy : ∀ E : Env, E.σ = σ → conc E y = some (.int k b))
    (h : binI op k a b = some r) : FactOK P σ ⟨op, x, y, r⟩ :=
  fact_int hx hy fun E _ => binI_sound h E
def cmpI (op : BinOp) (a b : Int) : Bool := match op with
  | .eql => intEq a b
  | .neq => !intEq a b
  | .lss => intLt a b
  | .leq => !intLt b a
  | .gtr => intLt b a
  | .geq => !intLt a b
  | _ => false
def sval (σ : Val) : AV → Option (IntKind × Int)
  | .int k n => some (k, n)
  | .sym k s => some (k, σ.num s)
  | _ => none
theorem sval_conc {x : AV} {k : IntKind} {n : Int} (h : sval σ x = some (k, n)) (E : Env) (hE : E.σ = σ) : conc E x = some (.int k n) := by
  cases x <;> simp only [sval, Option.some.injEq, Prod.mk.injEq, reduceCtorEq] at h
  · obtain ⟨rfl, rfl⟩ := h; rfl
  · obtain ⟨rfl, rfl⟩ := h; simp [conc, hE]
theorem fact_val {op : BinOp} {x y r : AV} {k : IntKind} {a b : Int} (hx : sval σ x = some (k, a)) (hy : sval σ y = some (k, b)) (h : ∃ r', binI op k a b = some r' ∧ ∀ E : Env, E.σ = σ → conc E r = conc E r') : FactOK P σ ⟨op, x, y, r⟩ :=
  fact_int (sval_conc hx) (sval_conc hy) fun E hE => by
    obtain ⟨r', hr, he⟩ := h
    obtain ⟨R, hR, hrun⟩ := binI_sound (P := P) hr E
    exact ⟨R, by rw [he E hE]; exact hR, hrun⟩
theorem fact_cmp {op : BinOp} {x y : AV} {k : IntKind} {a b : Int} {r : Bool} (hx : sval σ x = some (k, a)) (hy : sval σ y = some (k, b)) (h : cmpI op a b = r) (ho : binI op k a b = some (.bool (cmpI op a b))) : FactOK P σ ⟨op, x, y, .bool r⟩ :=
  fact_val hx hy ⟨_, ho, fun E _ => by rw [h]⟩
theorem fact_eq {x y : AV} {k : IntKind} {a b : Int} (hx : sval σ x = some (k, a)) (hy : sval σ y = some (k, b)) (h : a = b) : FactOK P σ ⟨.eql, x, y, .bool true⟩ :=
  fact_cmp hx hy (by simp [cmpI, intEq_eq, h]) rfl
theorem fact_ne {x y : AV} {k : IntKind} {a b : Int} (hx : sval σ x = some (k, a)) (hy : sval σ y = some (k, b)) (h : ¬ a = b) : FactOK P σ ⟨.eql, x, y, .bool false⟩ :=
  fact_cmp hx hy (by simp [cmpI, intEq_eq, h]) rfl
theorem fact_neq_t {x y : AV} {k : IntKind} {a b : Int} (hx : sval σ x = some (k, a)) (hy : sval σ y = some (k, b)) (h : ¬ a = b) : FactOK P σ ⟨.neq, x, y, .bool true⟩ :=
  fact_cmp hx hy (by simp [cmpI, intEq_eq, h]) rfl
theorem fact_neq_f {x y : AV} {k : IntKind} {a b : Int} (hx : sval σ x = some (k, a)) (hy : sval σ y = some (k, b)) (h : a = b) : FactOK P σ ⟨.neq, x, y, .bool false⟩ :=
  fact_cmp hx hy (by simp [cmpI, intEq_eq, h]) rfl
theorem fact_lss_t {x y : AV} {k : IntKind} {a b : Int} (hx : sval σ x = some (k, a)) (hy : sval σ y = some (k, b)) (h : a < b) : FactOK P σ ⟨.lss, x, y, .bool true⟩ :=
  fact_cmp hx hy (by simp [cmpI, intLt_eq]; omega) rfl
theorem fact_lss_f {x y : AV} {k : IntKind} {a b : Int} (hx : sval σ x = some (k, a)) (hy : sval σ y = some (k, b)) (h : ¬ a < b) : FactOK P σ ⟨.lss, x, y, .bool false⟩ :=
  fact_cmp hx hy (by simp [cmpI, intLt_eq]; omega) rfl
theorem fact_gtr_t {x y : AV} {k : IntKind} {a b : Int} (hx : sval σ x = some (k, a)) (hy : sval σ y = some (k, b)) (h : a > b) : FactOK P σ ⟨.gtr, x, y, .bool true⟩ :=
  fact_cmp hx hy (by simp [cmpI, intLt_eq]; omega) rfl
theorem fact_gtr_f {x y : AV} {k : IntKind} {a b : Int} (hx : sval σ x = some (k, a)) (hy : sval σ y = some (k, b)) (h : ¬ a > b) : FactOK P σ ⟨.gtr, x, y, .bool false⟩ :=
  fact_cmp hx hy (by simp [cmpI, intLt_eq]; omega) rfl
theorem fact_leq_t {x y : AV} {k : IntKind} {a b : Int} (hx : sval σ x = some (k, a)) (hy : sval σ y = some (k, b)) (h : a ≤ b) : FactOK P σ ⟨.leq, x, y, .bool true⟩ :=
  fact_cmp hx hy (by simp [cmpI, intLt_eq]; omega) rfl
theorem fact_leq_f {x y : AV} {k : IntKind} {a b : Int} (hx : sval σ x = some (k, a)) (hy : sval σ y = some (k, b)) (h : ¬ a ≤ b) : FactOK P σ ⟨.leq, x, y, .bool false⟩ :=
  fact_cmp hx hy (by simp [cmpI, intLt_eq]; omega) rfl
theorem fact_geq_t {x y : AV} {k : IntKind} {a b : Int} (hx : sval σ x = some (k, a)) (hy : sval σ y = some (k, b)) (h : a ≥ b) : FactOK P σ ⟨.geq, x, y, .bool true⟩ :=
  fact_cmp hx hy (by simp [cmpI, intLt_eq]; omega) rfl
theorem fact_geq_f {x y : AV} {k : IntKind} {a b : Int} (hx : sval σ x = some (k, a)) (hy : sval σ y = some (k, b)) (h : ¬ a ≥ b) : FactOK P σ ⟨.geq, x, y, .bool false⟩ :=
  fact_cmp hx hy (by simp [cmpI, intLt_eq]; omega) rfl
/-- a number that an operation gives: its value is r's -/
theorem fact_num {op : BinOp} {x y r : AV} {k j : IntKind} {a b c d : Int} (hx : sval σ x = some (k, a)) (hy : sval σ y = some (k, b)) (hr : sval σ r = some (j, c)) (h : binI op k a b = some (.int j d)) (hd : c = d) : FactOK P σ ⟨op, x, y, r⟩ :=
  fact_val hx hy ⟨_, h, fun E hE => by rw [sval_conc hr E hE, hd]; rfl⟩
/-- a number that an operation gives, whatever the second operand's kind -/
theorem fact_num2 {op : BinOp} {x y r : AV} {k i j : IntKind} {a b c d : Int} (hx : sval σ x = some (k, a)) (hy : sval σ y = some (i, b)) (hr : sval σ r = some (j, c)) (h : binInt op k a i b = some (.int j d)) (hd : c = d) : FactOK P σ ⟨op, x, y, r⟩ := by
  intro E hE X Y hX hY
  rw [sval_conc hx E hE] at hX; cases hX
  rw [sval_conc hy E hE] at hY; cases hY
  obtain ⟨R, hR, hrun⟩ := binInt_sound (P := P) h E
  exact ⟨R, by rw [sval_conc hr E hE, hd]; exact hR, hrun⟩
theorem conv_num {x r : AV} {k j : IntKind} {a c : Int} (hx : sval σ x = some (j, a)) (hr : sval σ r = some (k, c)) (h : c = k.wrap a) : FConvOK σ ⟨k, x, r⟩ := by
  intro E hE X hX
  rw [sval_conc hx E hE] at hX; cases hX
  exact ⟨j, a, rfl, by rw [← h]; exact sval_conc hr E hE⟩
theorem wrap_u8 (n : Int) : IntKind.u8.wrap n = n % 256 := rfl
theorem wrap_u16 (n : Int) : IntKind.u16.wrap n = n % 65536 := rfl
theorem wrap_u32 (n : Int) : IntKind.u32.wrap n = n % 4294967296 := rfl
theorem wrap_u64 (n : Int) : IntKind.u64.wrap n = n % 18446744073709551616 := rfl
theorem wrap_i64 {n : Int} (h1 : -9223372036854775808 ≤ n) (h2 : n < 9223372036854775808) : IntKind.i64.wrap n = n := by
  unfold IntKind.wrap
  simp only [IntKind.bits, IntKind.signed]
  simp
  split <;> omega
theorem all_nil {α : Type} {p : α → Prop} : ∀ f ∈ ([] : List α), p f := fun _ h => by cases h
theorem all_cons {α : Type} {p : α → Prop} {a : α} {l : List α} (h : p a) (t : ∀ f ∈ l, p f) : ∀ f ∈ a :: l, p f := fun f hf => by
  rcases List.mem_cons.1 hf with rfl | hf
  · exact h
  · exact t f hf
theorem binI_rem {k : IntKind} {a b : Int} (h : 0 ≤ a) (hb : intEq b 0 = false) : binI .rem k a b = some (.int k (a % b)) := by
  simp only [binI, hb]
  rw [Int.tmod_eq_emod_of_nonneg h]
theorem binI_quo {k : IntKind} {a b : Int} (h : 0 ≤ a) (hb : intEq b 0 = false) : binI .quo k a b = some (.int k (k.wrap (a / b))) := by
  simp only [binI, hb]
  rw [Int.tdiv_eq_ediv_of_nonneg h]
theorem binI_shr {k i : IntKind} {a : Int} {c : Nat} (hc : c ≤ k.bits) : binInt .shr k a i (Int.ofNat c) = some (.int k (a / Int.ofNat (2 ^ c))) := by
  have h0 : intLt (Int.ofNat c) 0 = false := by rw [intLt_eq]; simp
  have h1 : Nat.min c k.bits = c := Nat.min_eq_left hc
  simp only [binInt, shrI, h0, Int.ofNat_eq_natCast, Int.toNat_natCast, h1]
  rw [Int.fdiv_eq_ediv_of_nonneg _ (Int.natCast_nonneg _)]
  rfl
theorem binI_shl {k i : IntKind} {a : Int} {c : Nat} (hc : c ≤ k.bits) : binInt .shl k a i (Int.ofNat c) = some (.int k (k.wrap (a * Int.ofNat (2 ^ c)))) := by
  have h0 : intLt (Int.ofNat c) 0 = false := by rw [intLt_eq]; simp
  have h1 : Nat.min c k.bits = c := Nat.min_eq_left hc
  simp only [binInt, shlI, h0, Int.ofNat_eq_natCast, Int.toNat_natCast, h1]
  rfl
theorem binI_and1 {k : IntKind} {a : Int} (hk : Nat.beq (modK k) 0 = false) : binI .and k a 1 = some (.int k (a % 2)) := by
  have key : ∀ (m : Nat), 2 ∣ m → 1 < m → (Nat.land (a % Int.ofNat m).toNat ((1 : Int) % Int.ofNat m).toNat : Nat) = (a % 2).toNat := by
    intro m h2 hm
    have e1 : ((1 : Int) % Int.ofNat m).toNat = 1 := by
      rw [Int.emod_eq_of_lt (by omega) (by simp only [Int.ofNat_eq_natCast]; omega)]; rfl
    rw [e1]
    show ((a % Int.ofNat m).toNat &&& 1) = _
    rw [Nat.and_one_is_mod]
    obtain ⟨q, rfl⟩ := h2
    have h3 : (a % Int.ofNat (2 * q)) % 2 = a % 2 := Int.emod_emod_of_dvd a ⟨(q : Int), by simp⟩
    have h4 : 0 ≤ a % Int.ofNat (2 * q) := Int.emod_nonneg _ (by simp only [Int.ofNat_eq_natCast]; omega)
    omega
  have e : binI .and k a 1 = some (.int k (k.wrap (Int.ofNat (Nat.land (a % Int.ofNat (Nat.pow 2 k.bits)).toNat ((1 : Int) % Int.ofNat (Nat.pow 2 k.bits)).toNat)))) := rfl
  rw [e]
  cases k <;> first | (exact absurd hk (by decide)) | skip
  all_goals
    rw [key _ (by decide) (by decide)]
    first | rw [wrap_u8] | rw [wrap_u16] | rw [wrap_u32] | rw [wrap_u64]
    congr 2
    simp only [Int.ofNat_eq_natCast]
    omega
noncomputable def tabB : List Nat → Tr Bool
  | [] => .nil
  | s :: l => (tabB l).set s true
theorem tabB_mem : ∀ {l : List Nat} {s : Nat}, (tabB l).get s = some true → s ∈ l
  | [], s, h => by simp [tabB] at h
  | t :: l, s, h => by
    simp only [tabB, Tr.get_set] at h
    split at h
    · rename_i e; simp [e]
    · exact List.mem_cons_of_mem _ (tabB_mem h)
theorem tabB_ok {l : List Nat} (h : ∀ s ∈ l, 0 ≤ σ.num s ∧ σ.num s < 256) : ∀ s, (tabB l).get s = some true → 0 ≤ σ.num s ∧ σ.num s < 256 := fun s hs => h s (tabB_mem hs)
theorem globs_nil {σ : Val} : ∀ g cs, (Tr.nil : Tr (List AV)).get g = some cs → cs.all AV.atom = true ∧ ∃ vs, (∀ E : Env, E.σ = σ → concs E cs = some vs) ∧ ∀ (j : Nat) (v : Value), vs[j]? = some v → σ.glob g j = some v := fun g cs h => by simp at h
theorem bytes_nil {σ : Val} : ∀ s, (Tr.nil : Tr Bool).get s = some true → 0 ≤ σ.num s ∧ σ.num s < 256 := fun s h => by simp at h
theorem sums_nil {P : Program} {σ : Val} : ∀ g s, (Tr.nil : Tr Sum).get g = some s → SumOK P σ g s := fun g s h => by simp at h
theorem conc_symI (k : IntKind) (s : Nat) (E : Env) (hE : E.σ = σ) : conc E (.sym k s) = some (.int k (σ.num s)) := by simp [conc, hE]
theorem conc_intI (k : IntKind) (n : Int) (E : Env) (_ : E.σ = σ) : conc E (.int k n) = some (.int k n) := rfl
end Go.Abs

namespace Go.Abs
open Go.RowKit

/-! ## arguments without pointers: what they are, and that they read the same in every memory -/
inductive Lk where
  | int (k : IntKind)
  | bool
  | str
mutual
def plainK (P : Program) : Nat → TypeId → Option (List Lk)
  | 0, _ => none
  | d + 1, t => match P.underlying t with
    | some (.int k) => some [.int k]
    | some .bool => some [.bool]
    | some .string => some [.str]
    | some (.struct fs) => match plainFs P d 0 fs.toList with
      | some l => match Nat.beq l.length (P.cellsOf t) with
        | true => some l
        | false => none
      | none => none
    | some (.array n e) => match plainK P d e with
      | some l => match Nat.beq l.length (P.cellsOf e), Nat.beq (n * l.length) (P.cellsOf t) with
        | true, true => some (repl n l)
        | _, _ => none
      | none => none
    | _ => none
def plainFs (P : Program) : Nat → Nat → List Field → Option (List Lk)
  | _, _, [] => some []
  | 0, _, _ => none
  | d + 1, off, f :: fs => match plainK P d f.type with
    | none => none
    | some l => match plainFs P d (off + l.length) fs with
      | none => none
      | some r => match Nat.beq f.offset off, Nat.beq l.length (P.cellsOf f.type) with
        | true, true => some (l ++ r)
        | _, _ => none
end
def FitL : Lk → Value → Prop
  | .int k, v => ∃ n, v = .int k n ∧ (Lit.int k n).wf = true
  | .bool, v => ∃ b, v = .bool b
  | .str, v => ∃ s, v = .string s ∧ s.size ≤ maxLen
def FitsL : List Lk → List Value → Prop
  | [], cs => cs = []
  | k :: ks, cs => ∃ v rest, FitL k v ∧ cs = v :: rest ∧ FitsL ks rest
theorem FitsL.append : ∀ {a b : List Lk} {x y : List Value}, FitsL a x → FitsL b y → FitsL (a ++ b) (x ++ y)
  | [], b, x, y, h, h2 => by simp only [FitsL] at h; subst h; simpa using h2
  | k :: a, b, x, y, h, h2 => by
    obtain ⟨v, r, h1, rfl, h3⟩ := h
    exact ⟨v, r ++ y, h1, rfl, h3.append h2⟩
theorem FitsL.length : ∀ {a : List Lk} {x : List Value}, FitsL a x → x.length = a.length
  | [], x, h => by simp only [FitsL] at h; subst h; rfl
  | k :: a, x, h => by obtain ⟨v, r, h1, rfl, h3⟩ := h; simp [h3.length]

variable {H : Type} {enc : TypeId × Value → H} {P : Program}
/-- a reading that leans on no memory -/
def Still (enc : TypeId × Value → H) (P : Program) (fuel : Nat) (t : TypeId) (cs : List Value) (d : DataW H) : Prop :=
  ∀ (w : World) (base : Nat) (spare : Nat → Bool) (held : Bool), DataW.trod enc P w base spare held fuel t cs = some (d, [])

theorem trod_bool_mk {t : TypeId} {b : Bool} {w : World} {base : Nat} {spare : Nat → Bool} {held : Bool} (m : Nat) (ht : P.underlying t = some .bool) : DataW.trod enc P w base spare held (m + 1) t [.bool b] = some (.lit (.bool b), []) := by
  unfold DataW.trod; rw [ht]
theorem trod_string_mk {t : TypeId} {s : ByteArray} {w : World} {base : Nat} {spare : Nat → Bool} {held : Bool} (m : Nat) (ht : P.underlying t = some .string) (hs : s.size ≤ maxLen) : DataW.trod enc P w base spare held (m + 1) t [.string s] = some (.lit (.string s.data.toList), []) := by
  unfold DataW.trod; rw [ht]; simp [hs]
theorem trod_struct_eq {t : TypeId} {fs : Array Field} {w : World} {base : Nat} {spare : Nat → Bool} {held : Bool} (n : Nat) (cs : List Value) (ht : P.underlying t = some (.struct fs)) :
    DataW.trod enc P w base spare held (n + 1) t cs = if cs.length = P.cellsOf t then (fs.toList.mapM fun f => DataW.trod enc P w base spare held n f.type ((cs.drop f.offset).take (P.cellsOf f.type))).map fun xs => (.agg (xs.map (·.1)), xs.flatMap (·.2)) else none := by
  conv => lhs; unfold DataW.trod
  rw [ht]
theorem trod_array_eq {t e : TypeId} {k : Nat} {w : World} {base : Nat} {spare : Nat → Bool} {held : Bool} (n : Nat) (cs : List Value) (ht : P.underlying t = some (.array k e)) :
    DataW.trod enc P w base spare held (n + 1) t cs = if cs.length = P.cellsOf t then ((List.range k).mapM fun i => DataW.trod enc P w base spare held n e ((cs.drop (i * P.cellsOf e)).take (P.cellsOf e))).map fun xs => (.agg (xs.map (·.1)), xs.flatMap (·.2)) else none := by
  conv => lhs; unfold DataW.trod
  rw [ht]

/-- what is said of one type -/
def PlainAt (enc : TypeId × Value → H) (P : Program) (t : TypeId) (ks : List Lk) : Prop :=
  ∀ (fuel : Nat) (cs : List Value) (w : World) (base : Nat) (spare : Nat → Bool) (held : Bool) (x : DataW H × List MemPlace), DataW.trod enc P w base spare held fuel t cs = some x → x.2 = [] ∧ FitsL ks cs ∧ Still enc P fuel t cs x.1

theorem fits_take {l r : List Lk} {cs : List Value} {off : Nat} (h1 : FitsL l ((cs.drop off).take l.length)) (h2 : FitsL r ((cs.drop (off + l.length)).take r.length)) : FitsL (l ++ r) ((cs.drop off).take (l ++ r).length) := by
  rw [List.length_append, List.take_add, List.drop_drop]
  exact h1.append h2

theorem fields_plain (D : Nat) (all : ∀ dp, dp ≤ D → ∀ t ks, plainK P dp t = some ks → PlainAt enc P t ks) : ∀ (dp : Nat), dp ≤ D → ∀ (off : Nat) (fs : List Field) (ks : List Lk), plainFs P dp off fs = some ks → ∀ (n : Nat) (cs : List Value) (w : World) (base : Nat) (spare : Nat → Bool) (held : Bool) (xs : List (DataW H × List MemPlace)),
    fs.mapM (fun f => DataW.trod enc P w base spare held n f.type ((cs.drop f.offset).take (P.cellsOf f.type))) = some xs →
    xs.flatMap (·.2) = [] ∧ FitsL ks ((cs.drop off).take ks.length) ∧ ∀ (w' : World) (b' : Nat) (s' : Nat → Bool) (h' : Bool), fs.mapM (fun f => DataW.trod enc P w' b' s' h' n f.type ((cs.drop f.offset).take (P.cellsOf f.type))) = some (xs.map fun x => (x.1, []))
  | dp, hD, off, [], ks, h, n, cs, w, base, spare, held, xs, hx => by
    have : ks = [] := by cases dp <;> (simp only [plainFs, Option.some.injEq] at h; exact h.symm)
    subst this
    simp at hx; subst hx
    exact ⟨rfl, rfl, fun _ _ _ _ => rfl⟩
  | 0, hD, off, f :: fs, ks, h, n, cs, w, base, spare, held, xs, hx => by simp [plainFs] at h
  | dp + 1, hD, off, f :: fs, ks, h, n, cs, w, base, spare, held, xs, hx => by
    simp only [plainFs] at h
    split at h
    · cases h
    rename_i l hl
    split at h
    · cases h
    rename_i r hr
    split at h
    case h_2 => cases h
    rename_i ho hc
    cases h
    rw [natBeq_eq] at ho hc
    have ho : f.offset = off := by simpa using ho
    have hc : l.length = P.cellsOf f.type := by simpa using hc
    simp only [List.mapM_cons, Option.bind_eq_bind, Option.bind_eq_some_iff, Option.pure_def, Option.some.injEq] at hx
    obtain ⟨x, hx, ys, hys, rfl⟩ := hx
    obtain ⟨h1, h2, h3⟩ := all dp (by omega) f.type l hl n _ w base spare held x hx
    obtain ⟨h4, h5, h6⟩ := fields_plain D all dp (by omega) (off + l.length) fs r hr n cs w base spare held ys hys
    refine ⟨by simp [h1, h4], fits_take ?_ h5, fun w' b' s' h' => ?_⟩
    · rw [ho, ← hc] at h2; exact h2
    · simp only [List.mapM_cons, Option.bind_eq_bind, h3 w' b' s' h', h6 w' b' s' h', Option.bind_some, Option.pure_def, List.map_cons]

theorem elems_plain {e : TypeId} {l : List Lk} (he : PlainAt enc P e l) (hc : l.length = P.cellsOf e) : ∀ (m s : Nat) (n : Nat) (cs : List Value) (w : World) (base : Nat) (spare : Nat → Bool) (held : Bool) (xs : List (DataW H × List MemPlace)),
    (List.range' s m).mapM (fun i => DataW.trod enc P w base spare held n e ((cs.drop (i * P.cellsOf e)).take (P.cellsOf e))) = some xs →
    xs.flatMap (·.2) = [] ∧ FitsL (repl m l) ((cs.drop (s * l.length)).take (repl m l).length) ∧ ∀ (w' : World) (b' : Nat) (s' : Nat → Bool) (h' : Bool), (List.range' s m).mapM (fun i => DataW.trod enc P w' b' s' h' n e ((cs.drop (i * P.cellsOf e)).take (P.cellsOf e))) = some (xs.map fun x => (x.1, []))
  | 0, s, n, cs, w, base, spare, held, xs, hx => by simp at hx; subst hx; exact ⟨rfl, rfl, fun _ _ _ _ => rfl⟩
  | m + 1, s, n, cs, w, base, spare, held, xs, hx => by
    rw [List.range'_succ] at hx ⊢
    simp only [List.mapM_cons, Option.bind_eq_bind, Option.bind_eq_some_iff, Option.pure_def, Option.some.injEq] at hx
    obtain ⟨x, hx, ys, hys, rfl⟩ := hx
    obtain ⟨h1, h2, h3⟩ := he n _ w base spare held x hx
    obtain ⟨h4, h5, h6⟩ := elems_plain he hc m (s + 1) n cs w base spare held ys hys
    refine ⟨by simp [h1, h4], ?_, fun w' b' s' h' => ?_⟩
    · show FitsL (l ++ repl m l) _
      refine fits_take ?_ ?_
      · rw [← hc] at h2; exact h2
      · rw [show s * l.length + l.length = (s + 1) * l.length by rw [Nat.succ_mul]]; exact h5
    · simp only [List.mapM_cons, Option.bind_eq_bind, h3 w' b' s' h', h6 w' b' s' h', Option.bind_some, Option.pure_def, List.map_cons]

theorem trod_plain : ∀ (dp : Nat) (t : TypeId) (ks : List Lk), plainK P dp t = some ks → PlainAt enc P t ks := by
  intro dp
  induction dp using Nat.strongRecOn with
  | _ dp ihs =>
  intro t ks h fuel cs w base spare held x hx
  cases dp with
  | zero => simp [plainK] at h
  | succ dp =>
  cases fuel with
  | zero => simp [DataW.trod] at hx
  | succ fuel =>
  simp only [plainK] at h
  split at h
  · rename_i k hu
    cases h
    obtain ⟨n, rfl, rfl, hw⟩ := DataW.trod_int hu hx
    exact ⟨rfl, ⟨_, [], ⟨n, rfl, hw⟩, rfl, rfl⟩, fun w' b' s' h' => ChangeShapes.trod_int_mk fuel hu hw⟩
  · rename_i hu
    cases h
    obtain ⟨b, rfl, rfl⟩ := DataW.trod_bool hu hx
    exact ⟨rfl, ⟨_, [], ⟨b, rfl⟩, rfl, rfl⟩, fun w' b' s' h' => trod_bool_mk fuel hu⟩
  · rename_i hu
    cases h
    obtain ⟨s, rfl, rfl, hs⟩ := DataW.trod_string hu hx
    exact ⟨rfl, ⟨_, [], ⟨s, rfl, hs⟩, rfl, rfl⟩, fun w' b' s' h' => trod_string_mk fuel hu hs⟩
  · rename_i fs hu
    split at h
    case h_2 => cases h
    rename_i l hl
    split at h
    case h_2 => cases h
    rename_i hc
    cases h
    rw [natBeq_eq] at hc
    have hc : ks.length = P.cellsOf t := by simpa using hc
    rw [trod_struct_eq fuel cs hu] at hx
    split at hx
    case isFalse => cases hx
    rename_i hlen
    simp only [Option.map_eq_some_iff] at hx
    obtain ⟨xs, hxs, rfl⟩ := hx
    obtain ⟨h1, h2, h3⟩ := fieldsA dp ihs 0 fs.toList ks hl fuel cs w base spare held xs hxs
    refine ⟨h1, ?_, fun w' b' s' h' => ?_⟩
    · rw [List.drop_zero, hc, ← hlen, List.take_length] at h2; exact h2
    · rw [trod_struct_eq fuel cs hu, if_pos hlen, h3 w' b' s' h']
      simp
  · rename_i n e hu
    split at h
    case h_2 => cases h
    rename_i l hl
    split at h
    case h_2 => cases h
    rename_i hc1 hc2
    cases h
    rw [natBeq_eq] at hc1 hc2
    have hc1 : l.length = P.cellsOf e := by simpa using hc1
    have hc2 : n * l.length = P.cellsOf t := by simpa using hc2
    rw [trod_array_eq fuel cs hu] at hx
    split at hx
    case isFalse => cases hx
    rename_i hlen
    simp only [Option.map_eq_some_iff] at hx
    obtain ⟨xs, hxs, rfl⟩ := hx
    rw [List.range_eq_range'] at hxs
    obtain ⟨h1, h2, h3⟩ := elems_plain (ihs dp (Nat.lt_succ_self dp) e l hl) hc1 n 0 fuel cs w base spare held xs hxs
    refine ⟨h1, ?_, fun w' b' s' h' => ?_⟩
    · rw [Nat.zero_mul, List.drop_zero, repl_length, hc2, ← hlen, List.take_length] at h2; exact h2
    · rw [trod_array_eq fuel cs hu, if_pos hlen, List.range_eq_range', h3 w' b' s' h']
      simp
  · cases h
where
  fieldsA (dp : Nat) (ihs : ∀ m, m < dp + 1 → ∀ (t : TypeId) (ks : List Lk), plainK P m t = some ks → PlainAt enc P t ks) (off : Nat) (fs : List Field) (ks : List Lk) (h : plainFs P dp off fs = some ks) (n : Nat) (cs : List Value) (w : World) (base : Nat) (spare : Nat → Bool) (held : Bool) (xs : List (DataW H × List MemPlace))
    (hx : fs.mapM (fun f => DataW.trod enc P w base spare held n f.type ((cs.drop f.offset).take (P.cellsOf f.type))) = some xs) :
    xs.flatMap (·.2) = [] ∧ FitsL ks ((cs.drop off).take ks.length) ∧ ∀ (w' : World) (b' : Nat) (s' : Nat → Bool) (h' : Bool), fs.mapM (fun f => DataW.trod enc P w' b' s' h' n f.type ((cs.drop f.offset).take (P.cellsOf f.type))) = some (xs.map fun x => (x.1, [])) :=
    fields_plain dp (fun m hm t ks h => ihs m (by omega) t ks h) dp (Nat.le_refl _) off fs ks h n cs w base spare held xs hx

theorem wf_u8 {n : Int} (h : (Lit.int .u8 n).wf = true) : 0 ≤ n ∧ n < 256 := by
  simp only [Lit.wf, Bool.and_eq_true, decide_eq_true_eq] at h; have h1 := h.1; have h2 := h.2; simp only [IntKind.min, IntKind.max, IntKind.bits, IntKind.signed] at h1 h2; simp at h1 h2; omega
theorem wf_u16 {n : Int} (h : (Lit.int .u16 n).wf = true) : 0 ≤ n ∧ n < 65536 := by
  simp only [Lit.wf, Bool.and_eq_true, decide_eq_true_eq] at h; have h1 := h.1; have h2 := h.2; simp only [IntKind.min, IntKind.max, IntKind.bits, IntKind.signed] at h1 h2; simp at h1 h2; omega
theorem wf_u32 {n : Int} (h : (Lit.int .u32 n).wf = true) : 0 ≤ n ∧ n < 4294967296 := by
  simp only [Lit.wf, Bool.and_eq_true, decide_eq_true_eq] at h; have h1 := h.1; have h2 := h.2; simp only [IntKind.min, IntKind.max, IntKind.bits, IntKind.signed] at h1 h2; simp at h1 h2; omega
theorem wf_u64 {n : Int} (h : (Lit.int .u64 n).wf = true) : 0 ≤ n ∧ n < 18446744073709551616 := by
  simp only [Lit.wf, Bool.and_eq_true, decide_eq_true_eq] at h; have h1 := h.1; have h2 := h.2; simp only [IntKind.min, IntKind.max, IntKind.bits, IntKind.signed] at h1 h2; simp at h1 h2; omega
theorem wf_i64 {n : Int} (h : (Lit.int .i64 n).wf = true) : -9223372036854775808 ≤ n ∧ n < 9223372036854775808 := by
  simp only [Lit.wf, Bool.and_eq_true, decide_eq_true_eq] at h; have h1 := h.1; have h2 := h.2; simp only [IntKind.min, IntKind.max, IntKind.bits, IntKind.signed] at h1 h2; simp at h1 h2; omega

/-- an argument of each kind -/
abbrev ArgK := Bool × List Lk
def plainArg (P : Program) (t : TypeId) : Option ArgK := match plainK P 40 t with
  | some ks => some (aggK (tyK P (P.underlying t)), ks)
  | none => none
def plainArgs (P : Program) : List TypeId → Option (List ArgK)
  | [] => some []
  | t :: ts => match plainArg P t, plainArgs P ts with
    | some k, some ks => some (k :: ks)
    | _, _ => none
def FitsAll : List ArgK → List Value → Prop
  | [], vs => vs = []
  | (true, ks) :: r, vs => ∃ cs rest, FitsL ks cs ∧ vs = .agg ⟨cs⟩ :: rest ∧ FitsAll r rest
  | (false, ks) :: r, vs => ∃ v rest, FitsL ks [v] ∧ vs = v :: rest ∧ FitsAll r rest
theorem fit_agg {ks : List Lk} {r : List ArgK} {vs : List Value} (h : FitsAll ((true, ks) :: r) vs) : ∃ cs rest, FitsL ks cs ∧ vs = .agg ⟨cs⟩ :: rest ∧ FitsAll r rest := h
theorem fitL_int {k : IntKind} {ks : List Lk} {cs : List Value} (h : FitsL (.int k :: ks) cs) : ∃ n rest, (Lit.int k n).wf = true ∧ cs = .int k n :: rest ∧ FitsL ks rest := by
  obtain ⟨v, rest, ⟨n, rfl, hw⟩, rfl, h⟩ := h
  exact ⟨n, rest, hw, rfl, h⟩
theorem fitL_nil {cs : List Value} (h : FitsL [] cs) : cs = [] := h
theorem fit_nil {vs : List Value} (h : FitsAll [] vs) : vs = [] := h
theorem fit_int {k : IntKind} {r : List ArgK} {vs : List Value} (h : FitsAll ((false, [.int k]) :: r) vs) : ∃ n rest, (Lit.int k n).wf = true ∧ vs = .int k n :: rest ∧ FitsAll r rest := by
  obtain ⟨v, rest, hf, rfl, h⟩ := h
  obtain ⟨n, rest2, hw, he, _⟩ := fitL_int hf
  cases he
  exact ⟨n, rest, hw, rfl, h⟩
theorem fit_bool {r : List ArgK} {vs : List Value} (h : FitsAll ((false, [.bool]) :: r) vs) : ∃ b rest, vs = .bool b :: rest ∧ FitsAll r rest := by
  obtain ⟨v, rest, ⟨u, rest2, ⟨b, rfl⟩, he, _⟩, rfl, h⟩ := h
  cases he
  exact ⟨b, rest, rfl, h⟩
open Go.ChangeShapes Go.WideShapes Go.ChangeAt Go.WideMaps Go.WideElems
theorem fits_agg {t : TypeId} {v : Value} {w : World} {r : Reach} {b : Nat} {ks : List Lk} (h : aggK (tyK P (P.underlying t)) = true) (hv : Value.okWide P w r b t v) (hf : FitsL ks v.cells.toList) : ∃ cs, FitsL ks cs ∧ v = .agg ⟨cs⟩ := by
  unfold Value.okWide at hv
  cases hu : P.underlying t with
  | none => rw [hu] at h; cases h
  | some d =>
    rw [hu] at h hv
    cases d <;> first | (cases h; done) | skip
    all_goals
      obtain ⟨cs, rfl, _⟩ := hv
      exact ⟨cs.toList, hf, rfl⟩
theorem fits_atom {dp : Nat} {t : TypeId} {v : Value} {w : World} {r : Reach} {b : Nat} {ks : List Lk} (hk : plainK P dp t = some ks) (h : aggK (tyK P (P.underlying t)) = false) (hv : Value.okWide P w r b t v) {base : Nat} {spare : Nat → Bool} {held : Bool} {d : DataW H} {p : List MemPlace}
    (ht : DataW.Trod enc P w base spare held t v d p) : FitsL ks [v] := by
  cases dp with
  | zero => simp [plainK] at hk
  | succ dp =>
  simp only [plainK] at hk
  split at hk
  · rename_i k hu
    cases hk
    obtain ⟨n, rfl, _, _, hw⟩ := open_int hu hv ht
    exact ⟨_, [], ⟨n, rfl, hw⟩, rfl, rfl⟩
  · rename_i hu
    cases hk
    obtain ⟨x, rfl, _⟩ := open_bool hu hv ht
    exact ⟨_, [], ⟨x, rfl⟩, rfl, rfl⟩
  · rename_i hu
    cases hk
    obtain ⟨x, rfl, _, _, hs⟩ := ChangeMaps.open_string hu hv ht
    exact ⟨_, [], ⟨x, rfl, hs⟩, rfl, rfl⟩
  · rename_i fs hu; rw [hu] at h; cases h
  · rename_i n e hu; rw [hu] at h; cases h
  · cases hk
theorem trodAll_plain {W : World} {r : Reach} {b : Nat} {base : Nat} {spare : Nat → Bool} {held : Bool} : ∀ {ts : List TypeId} {ks : List ArgK} {vs : List Value} {ds : List (DataW H)} {p : List MemPlace}, plainArgs P ts = some ks →
    (∀ (j : Nat) (t : TypeId) (v : Value), ts[j]? = some t → vs[j]? = some v → Value.okWide P W r b t v) → DataW.TrodAll enc P W base spare held ts vs ds p →
    p = [] ∧ FitsAll ks vs ∧ ∀ (w' : World) (b' : Nat) (s' : Nat → Bool) (h' : Bool), DataW.TrodAll enc P w' b' s' h' ts vs ds []
  | [], ks, vs, ds, p, hk, hv, h => by
    simp only [plainArgs, Option.some.injEq] at hk
    subst hk
    obtain ⟨rfl, rfl, rfl⟩ := trodAll_nil h
    exact ⟨rfl, rfl, fun _ _ _ _ => trodAll_mk0⟩
  | t :: ts, ks, vs, ds, p, hk, hv, h => by
    simp only [plainArgs] at hk
    split at hk
    case h_2 => cases hk
    rename_i k ks' hk1 hk2
    cases hk
    obtain ⟨v, vs', d, ds', p1, p2, rfl, rfl, rfl, ⟨fuel, h1⟩, h2⟩ := trodAll_cons h
    unfold plainArg at hk1
    split at hk1
    case h_2 => cases hk1
    rename_i l hl
    cases hk1
    obtain ⟨hp, hf, hs⟩ := trod_plain (H := H) (enc := enc) 40 t l hl fuel _ W base spare held _ h1
    obtain ⟨rfl, hf2, hs2⟩ := trodAll_plain hk2 (fun j t' v' ht hv' => hv (j + 1) t' v' (by simpa using ht) (by simpa using hv')) h2
    have hp' : p1 = [] := hp
    subst hp'
    have hv0 := hv 0 t v rfl rfl
    refine ⟨rfl, ?_, fun w' b' s' h' => trodAll_cons_mk (p := []) (p' := []) ⟨fuel, hs w' b' s' h'⟩ (hs2 w' b' s' h')⟩
    cases ha : aggK (tyK P (P.underlying t)) with
    | true =>
      obtain ⟨cs, hc, rfl⟩ := fits_agg ha hv0 hf
      exact ⟨cs, vs', hc, rfl, hf2⟩
    | false => exact ⟨v, vs', fits_atom (enc := enc) hl ha hv0 ⟨fuel, h1⟩, rfl, hf2⟩
theorem trodAll_len {w : World} {base : Nat} {spare : Nat → Bool} {held : Bool} : ∀ {ts : List TypeId} {vs : List Value} {ds : List (DataW H)} {p : List MemPlace}, DataW.TrodAll enc P w base spare held ts vs ds p → ds.length = ts.length
  | [], vs, ds, p, h => by obtain ⟨rfl, rfl, rfl⟩ := trodAll_nil h; rfl
  | t :: ts, vs, ds, p, h => by
    obtain ⟨v, vs', d, ds', p1, p2, rfl, rfl, rfl, _, h2⟩ := trodAll_cons h
    simp [trodAll_len h2]
theorem len1 {α : Type} {l : List α} (h : l.length = 1) : ∃ a, l = [a] := by
  match l, h with
  | [a], _ => exact ⟨a, rfl⟩
theorem len2 {α : Type} {l : List α} (h : l.length = 2) : ∃ a b, l = [a, b] := by
  match l, h with
  | [a, b], _ => exact ⟨a, b, rfl⟩
theorem len3 {α : Type} {l : List α} (h : l.length = 3) : ∃ a b c, l = [a, b, c] := by
  match l, h with
  | [a, b, c], _ => exact ⟨a, b, c, rfl⟩
theorem len4 {α : Type} {l : List α} (h : l.length = 4) : ∃ a b c d, l = [a, b, c, d] := by
  match l, h with
  | [a, b, c, d], _ => exact ⟨a, b, c, d, rfl⟩
theorem len5 {α : Type} {l : List α} (h : l.length = 5) : ∃ a b c d e, l = [a, b, c, d, e] := by
  match l, h with
  | [a, b, c, d, e], _ => exact ⟨a, b, c, d, e, rfl⟩
theorem len6 {α : Type} {l : List α} (h : l.length = 6) : ∃ a b c d e f, l = [a, b, c, d, e, f] := by
  match l, h with
  | [a, b, c, d, e, f], _ => exact ⟨a, b, c, d, e, f, rfl⟩
theorem len7 {α : Type} {l : List α} (h : l.length = 7) : ∃ a b c d e f g, l = [a, b, c, d, e, f, g] := by
  match l, h with
  | [a, b, c, d, e, f, g], _ => exact ⟨a, b, c, d, e, f, g, rfl⟩
theorem len8 {α : Type} {l : List α} (h : l.length = 8) : ∃ a b c d e f g h, l = [a, b, c, d, e, f, g, h] := by
  match l, h with
  | [a, b, c, d, e, f, g, h], _ => exact ⟨a, b, c, d, e, f, g, h, rfl⟩
end Go.Abs

namespace Go.Abs
open Go.RowKit
variable {P : Program} {σ : Val}

/-! ## strings.Join, by its contract -/
def strsOf : List AV → Option (List (List UInt8))
  | [] => some []
  | .str s :: r => match strsOf r with
    | some l => some (s :: l)
    | none => none
  | _ => none
def joinB (sep : List UInt8) : List (List UInt8) → List UInt8
  | [] => []
  | [x] => x
  | x :: y :: r => x ++ (sep ++ joinB sep (y :: r))
theorem joinB_eq (sep : List UInt8) : ∀ xs, joinB sep xs = Lib.join xs sep
  | [] => rfl
  | [x] => by simp [joinB, Lib.join, List.intercalate]
  | x :: y :: r => by
    simp only [joinB, joinB_eq sep (y :: r)]
    simp [Lib.join, List.intercalate, List.intersperse]
noncomputable def joinL (h : AH) (sep : List UInt8) (l : Option (List AV)) : Option (AV × AH) := match l with
  | some l => match strsOf l with
    | some ss => match Nat.ble ss.length 140737488355328, Nat.ble (joinB sep ss).length 140737488355328 with
      | true, true => some (.str (joinB sep ss), h)
      | _, _ => none
    | none => none
  | none => none
noncomputable def joinSum : Sum := fun as h => match as with
  | [.slice i off _ len _, .str sep] => match h.objs.get i with
    | some (.cells cs _ _) => joinL h sep (slice1 cs off len)
    | _ => none
  | _ => none

theorem strsOf_conc {E : Env} : ∀ {l : List AV} {ss : List (List UInt8)} {vs : List Value}, strsOf l = some ss → concs E l = some vs → vs = ss.map fun s => .string ⟨s.toArray⟩
  | [], ss, vs, h, hv => by
    simp only [strsOf, Option.some.injEq] at h; subst h
    simp only [concs, Option.some.injEq] at hv; subst hv; rfl
  | x :: r, ss, vs, h, hv => by
    obtain ⟨v, vs', h1, h2, rfl⟩ := concs_cons hv
    cases x <;> simp only [strsOf] at h <;> try (cases h; done)
    split at h
    · rename_i l hl
      cases h
      simp only [conc, Option.some.injEq] at h1
      subst h1
      rw [strsOf_conc hl h2]; rfl
    · cases h

theorem enter_ok {g : Nat} {fn : Func} {c : Code} (hP : P.funcs[g]? = some fn) (hname : (fn.name == "runtime.NumGoroutine") = false) (hb : fn.body = some c) (A : Array Value) (w : World) : (callFunc g A).run P w = .ok (.enter g A) w := by
  unfold callFunc
  simp only [Sem.run_bind, run_program, Result.andThen_ok, hP, hname, Bool.false_eq_true, if_false, hb, Option.isNone_some]
  rfl

theorem join_sumOK {g : Nat} {fn : Func} {c : Code} (hP : P.funcs[g]? = some fn) (hname : (fn.name == "runtime.NumGoroutine") = false) (hb : fn.body = some c)
    (C : ∀ (bk o c : Nat) (xs : List ByteArray) (sep : ByteArray) (w : World), (∀ (j : Nat) x, xs[j]? = some x → w.cell? ⟨bk, o + j, none⟩ = some (.string x)) → bk < w.heap.size → xs.length ≤ 140737488355328 → xs.length ≤ c →
      (Lib.join (xs.map (·.data.toList)) sep.data.toList).length ≤ 140737488355328 →
      Calls P g #[.slice (some ⟨bk, o, none⟩) xs.length c, .string sep] w fun e w' => e = .returned (.string ⟨(Lib.join (xs.map (·.data.toList)) sep.data.toList).toArray⟩) ∧ Below w.heap.size w w') : SumOK P σ g joinSum := by
  refine ⟨fun as h v h' hs => ?_, fun as h v h' hs => ?_⟩
  rotate_left
  · unfold joinSum joinL at hs
    (repeat' (first | (cases hs; done) | (split at hs)))
    all_goals (cases hs; exact HExt.refl _)
  unfold joinSum at hs
  split at hs
  case h_2 => cases hs
  rename_i i off eo len cap sep
  split at hs
  case h_2 => cases hs
  rename_i cs ro es hi
  unfold joinL at hs
  split at hs
  case h_2 => cases hs
  rename_i l hl
  split at hs
  case h_2 => cases hs
  rename_i ss hss
  split at hs
  case h_2 => cases hs
  rename_i b1 b2
  cases hs
  have b1 : ss.length ≤ 140737488355328 := by simpa using b1
  have b2 : (joinB sep ss).length ≤ 140737488355328 := by simpa using b2
  refine ⟨Nat.le_refl _, fun E B w0 w A hσ hA hrel _ => .inl ⟨enter_ok hP hname hb _ _, ?_⟩⟩
  obtain ⟨X, A1, hX, hA1, rfl⟩ := concs_cons hA
  obtain ⟨Y, Z, hY, hZ, rfl⟩ := concs_cons hA1
  have hZ' : Z = [] := (Option.some.inj hZ).symm
  subst hZ'
  obtain ⟨p, hp, rfl, hle⟩ := conc_slice hX
  have hY' : Y = .string ⟨sep.toArray⟩ := (Option.some.inj hY).symm
  subst hY'
  obtain ⟨hat, vs, hvs, hc⟩ := cells_at hrel hi hp
  obtain ⟨hle1, rfl⟩ := slice1_eq hl
  have hlen := concs_length hvs
  have hc2 := concs_take (concs_drop hvs off) len
  have hVS := strsOf_conc hss hc2
  have hsl : ss.length = len := by
    have := congrArg List.length hVS
    simp at this; omega
  have hbk : p.block < w.heap.size := by
    have ho := hrel.objs i _ p hi hp
    cases ro with
    | false => exact objRel_lt ho rfl
    | true =>
      obtain ⟨_, _, _, h3, _⟩ := ho
      exact Nat.lt_of_lt_of_le (h3 rfl).1 (Nat.le_trans hrel.base hrel.below.size)
  have key := C p.block (p.off + off) (capOf p eo cap) (ss.map fun s => ⟨s.toArray⟩) ⟨sep.toArray⟩ w (fun j x hx => ?_) hbk (by simpa using b1) (by simpa [hsl] using hle) (by simpa [joinB_eq, Function.comp_def] using b2)
  · have e : ((ss.map fun s => (⟨s.toArray⟩ : ByteArray)).map (·.data.toList)) = ss := by simp [Function.comp_def]
    rw [e] at key
    simp only [List.length_map, hsl] at key
    refine key.mono fun e w' ⟨he, hb⟩ => ?_
    refine ⟨_, he, E, ?_, Post.kept hrel hb⟩
    simp only [conc, joinB_eq]
  · have hj : j < len := by
      rcases Nat.lt_or_ge j len with h' | h'
      · exact h'
      · rw [List.getElem?_eq_none (by simp; omega)] at hx; cases hx
    have h1 : ((vs.drop off).take len)[j]? = some (.string x) := by
      rw [hVS]
      rw [List.getElem?_map] at hx ⊢
      cases hs : ss[j]? with
      | none => rw [hs] at hx; cases hx
      | some s => rw [hs] at hx; cases hx; rfl
    rw [List.getElem?_take_of_lt hj, List.getElem?_drop] at h1
    rw [Nat.add_assoc]
    exact hc _ _ h1
end Go.Abs
