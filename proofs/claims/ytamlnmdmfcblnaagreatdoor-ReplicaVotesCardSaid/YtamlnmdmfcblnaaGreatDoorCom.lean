/- What all laws of this seat share: the program's code passes the interpreter's check; the listed tables as the program's start lays them; a law that leaves the old memory as it was meets the row's end; what the laws' first function gives. No premise of its own. -/
import Derived.Test.YtamlnmdmfcblnaaGreatDoorRows
import Derived.Test.YtamlnmdmfcblnaaGreatDoorPlan
import Derived.Test.YtamlnmdmfcblnaaGreatDoorTie
import Derived.WalkKit
import Derived.ProofKit
import Derived.OpenShut
import Derived.LaidMore
import Derived.Stop.Joined
import Derived.Carry
import Derived.Test.YtamlnmdmfcblnaaGreatDoorShelf
namespace Go.Proofs.YtamlnmdmfcblnaaGreatDoor
open Go.ChangeShapes Go.WideShapes Go.ChangeAt Go.WideMaps Go.WideElems Go.RowKit Go.Abs

theorem own : ownKnob Tryz.prog.godebug = none := by kernel_rfl
theorem asked : Asked Tryz.prog plan masks := ⟨by kernel_rfl, by kernel_rfl⟩

def laidAll {H : Type} : List (String × DataW H) := [("math/bits.deBruijn32tab", Rows.laid_math_bits_deBruijn32tab), ("math/bits.deBruijn64tab", Rows.laid_math_bits_deBruijn64tab), ("internal/strconv.uint64pow10", Rows.laid_internal_strconv_uint64pow10)]

theorem door_met (os : Os) (args : Array Value) : laidMetH Tryz.prog laidAll ((World.doorLaid Tryz.prog 400 os).forCall (fun _ _ => 0) ⟨#[], args, []⟩).memory :=
  laidMetH_of_parts3 (fuel := 8) (laidMet_of_run' 8 (by kernel_rfl) (by kernel_rfl)) (by kernel_rfl) (by kernel_rfl)

theorem g_laid : laidOutB Tryz.prog = true := by kernel_rfl
theorem g_rowed : mapsRowed Tryz.prog = true := by kernel_rfl
theorem g_heard : Tryz.prog.stopsHeard = true := by kernel_rfl
theorem g_enter : Tryz.prog.mayEnter = true := by kernel_rfl
theorem g_plain : (Rows.replicaTellsRow.plainKeys == Tryz.prog.plainKeys) = true := by kernel_rfl
theorem g_lift : (Rows.replicaTellsRow.lifted == Tryz.prog.liftsFinal) = true := by kernel_rfl
theorem g_make : (Tryz.prog.make == some Rows.replicaTellsRow.make) = true := by kernel_rfl

variable {H : Type} {enc : TypeId × Value → H} {P : Program}
/-- The old memory stands, the results and the arguments read as they should: the row's end is met. -/
theorem post_of_below {f : Func} {s : ChangeSpec} {apart fresh handsOn again : Bool} {W W' : World} {args : Array Value} {v : Value} {ds gs : List (DataW H)} {before pa pv : List MemPlace}
    (hW : DataW.Whole enc P f.params.toList s.vars apart W args.toList ds gs before)
    (hres : ∀ (b : Nat) (sp : Nat → Bool) (hd : Bool), DataW.TrodAll enc P W' b sp hd f.resultTypes.toList (v.resultList f.resultTypes.size) (s.fn H (ds ++ gs)).results [])
    (hargs : ∀ sp : Nat → Bool, (∀ p ∈ before, sp p.block = true) → DataW.TrodAll enc P W' 0 sp true f.params.toList args.toList (s.fn H (ds ++ gs)).args pa)
    (hvars : ∀ sp : Nat → Bool, (∀ p ∈ before, sp p.block = true) → DataW.TrodVars enc P W' sp s.vars (s.fn H (ds ++ gs)).vars pv)
    (hps : before = pa ++ pv) (hb : Below W.heap.size W W')
    (hok : ∀ (j : Nat) (t : TypeId) (r : Value), f.resultTypes[j]? = some t → (v.resultList f.resultTypes.size)[j]? = some r → Value.okWide P W' .any 0 t r) :
    s.post enc P f apart fresh handsOn again W args v W' := by
  have old : ∀ x ∈ before, x.block < W.heap.size := hW.lt
  have both : ∀ x, x ∈ before ↔ x ∈ ([] ++ pa) ++ pv := fun x => by rw [hps]; simp
  have inOld : ∀ x ∈ before, (fun b => decide (b < W.heap.size)) x.block = true := fun x hx => decide_eq_true (old x hx)
  refine ⟨ds, gs, before, [], pa, pv, hW, hres _ _ _, hargs _ inOld, hvars _ inOld, World.keptBut_mono (fun x hx => ⟨hx, .inr (List.mem_append.1 (hps ▸ hx))⟩) (hb.frame (· ∈ before)), fun _ => ?_⟩
  obtain ⟨_, _, _, _, _, notFrozen, once⟩ := hW
  have all : DataW.TrodAll enc P W' 0 _ true _ _ _ _ := trodAll_append (hargs (fun _ => true) (fun _ _ => rfl)) (hres 0 (fun _ => true) true)
  refine ⟨hok, _, _, _, ⟨[] ++ pa, pv, all, hvars _ (fun _ _ => rfl), rfl, fun b off hx => ?_, fun ha => ?_⟩, fun x hx _ => (both x).2 hx⟩
  · have hx' := (both _).2 hx
    rw [hb.frozen (old _ hx')]
    exact notFrozen b off hx'
  · simpa [hps] using once ha

/-! ### what the laws' first function gives -/
def q0 : Kn := ⟨[], [], .nil, [], [], []⟩
noncomputable def sumsJ : Tr Sum := oneSum 275 joinSum
theorem sumsJ_ok {σ : Val} : ∀ g s, sumsJ.get g = some s → SumOK Tryz.prog σ g s :=
  oneSum_ok (join_sumOK (fn := (Tryz.prog.funcs[275]?).getD default) (c := ((Tryz.prog.funcs[275]?).getD default).body.getD .skip) (by kernel_rfl) (by kernel_rfl) (by kernel_rfl) (fun bk o c xs sep w h1 h2 h3 h4 h5 => Tryz.strings_Join bk o c xs sep w h1 h2 h3 h4 h5))
noncomputable def sq0 : SeqCode := seqAt Tryz.prog 261 203
theorem sq0_ok : SeqCode.OK sq0 := ⟨by kernel_rfl, by kernel_rfl, by kernel_rfl, by kernel_rfl, by kernel_rfl, by kernel_rfl, by kernel_rfl, by kernel_rfl, by kernel_rfl, ⟨callTy sq0.yc, by kernel_rfl⟩, by kernel_rfl, by kernel_rfl, ⟨unTy sq0.kn, by kernel_rfl⟩, by kernel_rfl, by kernel_rfl, of_decide_eq_true (by kernel_rfl), of_decide_eq_true (by kernel_rfl), of_decide_eq_true (by kernel_rfl), of_decide_eq_true (by kernel_rfl)⟩
noncomputable def sumsQ0 : Tr Sum := (sumsJ : Tr Sum).set 261 (seqSum (cxW Tryz.prog plan .nil .nil) sq0 203)
theorem sumsQ0_ok {σ : Val} : ∀ g s, sumsQ0.get g = some s → SumOK Tryz.prog σ g s :=
  setSum_ok sumsJ_ok (seq_sumOK_W asked sq0_ok (gA := 261) (gK := 203) (by kernel_rfl) (by kernel_rfl) (by kernel_rfl) (by kernel_rfl) (by kernel_rfl) (by kernel_rfl) (by kernel_rfl) (by kernel_rfl) (by kernel_rfl) (by kernel_rfl))
noncomputable def nx0 : SeqNext := nextOf sq0
theorem nx0_ok : SeqNext.OK nx0 sq0 := ⟨by kernel_rfl, by kernel_rfl, by kernel_rfl, by kernel_rfl, by kernel_rfl, by kernel_rfl, by kernel_rfl, of_decide_eq_true (by kernel_rfl), of_decide_eq_true (by kernel_rfl)⟩
noncomputable def sumsT0 : Tr Sum := (sumsQ0 : Tr Sum).set 126 (sortSum Tryz.prog plan sumsQ0 sq0 nx0 261 203 201 126 14 60)
theorem sumsT0_ok {σ : Val} : ∀ g s, sumsT0.get g = some s → SumOK Tryz.prog σ g s :=
  setSum_ok sumsQ0_ok (sort_ok_W asked sumsQ0_ok sq0_ok nx0_ok (by kernel_rfl) (by kernel_rfl) (by kernel_rfl) (by kernel_rfl) (by kernel_rfl) (by kernel_rfl) (by kernel_rfl) (by kernel_rfl) (by kernel_rfl) (by kernel_rfl) (by kernel_rfl) (by kernel_rfl) (by kernel_rfl) (by kernel_rfl) (by kernel_rfl) (by kernel_rfl) (by kernel_rfl) (by kernel_rfl) (by kernel_rfl) (by kernel_rfl))
noncomputable def sq1 : SeqCode := seqAt Tryz.prog 276 211
theorem sq1_ok : SeqCode.OK sq1 := ⟨by kernel_rfl, by kernel_rfl, by kernel_rfl, by kernel_rfl, by kernel_rfl, by kernel_rfl, by kernel_rfl, by kernel_rfl, by kernel_rfl, ⟨callTy sq1.yc, by kernel_rfl⟩, by kernel_rfl, by kernel_rfl, ⟨unTy sq1.kn, by kernel_rfl⟩, by kernel_rfl, by kernel_rfl, of_decide_eq_true (by kernel_rfl), of_decide_eq_true (by kernel_rfl), of_decide_eq_true (by kernel_rfl), of_decide_eq_true (by kernel_rfl)⟩
noncomputable def sumsQ1 : Tr Sum := (sumsT0 : Tr Sum).set 276 (seqSum (cxW Tryz.prog plan .nil .nil) sq1 211)
theorem sumsQ1_ok {σ : Val} : ∀ g s, sumsQ1.get g = some s → SumOK Tryz.prog σ g s :=
  setSum_ok sumsT0_ok (seq_sumOK_W asked sq1_ok (gA := 276) (gK := 211) (by kernel_rfl) (by kernel_rfl) (by kernel_rfl) (by kernel_rfl) (by kernel_rfl) (by kernel_rfl) (by kernel_rfl) (by kernel_rfl) (by kernel_rfl) (by kernel_rfl))
noncomputable def nx1 : SeqNext := nextOf sq1
theorem nx1_ok : SeqNext.OK nx1 sq1 := ⟨by kernel_rfl, by kernel_rfl, by kernel_rfl, by kernel_rfl, by kernel_rfl, by kernel_rfl, by kernel_rfl, of_decide_eq_true (by kernel_rfl), of_decide_eq_true (by kernel_rfl)⟩
noncomputable def sumsT1 : Tr Sum := (sumsQ1 : Tr Sum).set 132 (sortSum Tryz.prog plan sumsQ1 sq1 nx1 276 211 210 132 14 60)
theorem sumsT1_ok {σ : Val} : ∀ g s, sumsT1.get g = some s → SumOK Tryz.prog σ g s :=
  setSum_ok sumsQ1_ok (sort_ok_W asked sumsQ1_ok sq1_ok nx1_ok (by kernel_rfl) (by kernel_rfl) (by kernel_rfl) (by kernel_rfl) (by kernel_rfl) (by kernel_rfl) (by kernel_rfl) (by kernel_rfl) (by kernel_rfl) (by kernel_rfl) (by kernel_rfl) (by kernel_rfl) (by kernel_rfl) (by kernel_rfl) (by kernel_rfl) (by kernel_rfl) (by kernel_rfl) (by kernel_rfl) (by kernel_rfl) (by kernel_rfl))
noncomputable def cx0 : Cx := cxW Tryz.prog plan .nil sumsT1
theorem known_runs : isVR (goT cx0 q0 60 9 [] ⟨.nil, 0⟩) (.bool true) = true := by kernel_rfl
noncomputable def sums : Tr Sum := (sumsT1 : Tr Sum).set 9 (sumAt [] (.bool true))
theorem sums_ok {σ : Val} : ∀ g s, sums.get g = some s → SumOK Tryz.prog σ g s :=
  setSum_ok sumsT1_ok (sum_run (q := q0) (progOK_W asked all_nil all_nil bytes_nil all_nil all_nil all_nil globs_nil sumsT1_ok) rfl rfl known_runs)
noncomputable def cx : Cx := cxW Tryz.prog plan .nil sums
end Go.Proofs.YtamlnmdmfcblnaaGreatDoor
