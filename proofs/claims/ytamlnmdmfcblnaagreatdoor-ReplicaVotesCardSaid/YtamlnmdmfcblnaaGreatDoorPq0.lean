/- slices.SortFunc at structs, twelve elements or fewer, under a comparator of which is known what it gives and that what was there stands; entries of what was seen, their order; Q as a summary of the interpreter. No premise of its own. -/
import Derived.Test.YtamlnmdmfcblnaaGreatDoorAbs9
import Derived.Shelf.SlSortCmp.SmallK
import Derived.Lib.QuietBelow
import Derived.Maps.RangeRun
import Derived.Maps.RangeWalk
import Derived.Maps.AppendAt
import Derived.Lib.Hide
import Derived.RangeFuncGives
import Derived.RangeFuncMany
import Derived.RangeFuncLeaves
import Derived.Sort.MapsRangeIn
import Derived.Sort.KeysCollected
import Derived.OwnWalkIn
import Derived.TacticsInMore
import Derived.RegionIn
import Derived.LoopNIn
import Derived.LoopIn
import Derived.Maps.OwnIn
set_option linter.unusedVariables false
set_option linter.unusedSimpArgs false
namespace Go.Abs
open Go.Shelf Go.RowKit Go.Lib Go.Sort Go.Proofs Go
variable {P : Program} {ρ : Ren} {α : Type} [Inhabited α]

/-- cmp, in every world of the sort's: what it gives; what was there stands -/
def CmpB (P : Program) (g : Nat) (cb : Array Value) (enc : α → List Value) (k : Nat) (cf : α → α → Int) (blk off size : Nat) (w : World) : Prop :=
  ∀ (m : Nat) (os : Array Obj) (dk : Array α), dk.size = size → ∀ x y : α,
    Calls P g (#[.agg (enc x).toArray, .agg (enc y).toArray] ++ cb) (sortWorldK enc k w blk off m dk os) fun e w' => e = .returned (.int .i64 (cf x y)) ∧ Below (sortWorldK enc k w blk off m dk os).heap.size (sortWorldK enc k w blk off m dk os) w'
theorem sortWorldK_redrawn (enc : α → List Value) (k : Nat) (w : World) (blk off : Nat) (hz : w.drawn = 0) (m n : Nat) (dk : Array α) (os os' : Array Obj) : grow (redrawn (sortWorldK enc k w blk off m dk os) n) os' = sortWorldK enc k w blk off n dk (os ++ os') := by
  have e : sortWorldK enc k w blk off n dk os = redrawn (sortWorldK enc k w blk off m dk os) n := by
    unfold sortWorldK redrawn putRowK putRow mapBlock Sort.ahead grow
    simp [hz]
  rw [← e]
  unfold sortWorldK
  rw [grow_grow]

set_option maxHeartbeats 4000000 in
set_option maxRecDepth 1000000 in
theorem insB (L : SlLaysF0.n20 P ρ) (k : Nat) (aE : ∀ w, (isAgg (ρ.t 24)).run P w = .ok true w) (zE : ∀ w, (Go.sizeOf (ρ.t 24)).run P w = .ok k w) (enc : α → List Value) (hk : ∀ x, (enc x).length = k) (h1 : ∀ x, ∀ v ∈ enc x, v.oneCell' = true)
    (cf : α → α → Int) (g : Nat) (cb : Array Value) (blk off cap a b : Nat) (d : Array α) (w00 : World) (hz : w00.drawn = 0) (m0 : Nat) (w : World) (hw0 : w = sortWorldK enc k w00 blk off m0 d #[])
    (eg : ∀ args w, (callFunc g args).run P w = .ok (.enter g args) w) (hcmp : CmpB P g cb enc k cf blk off d.size w00) (hH : HoldsK enc k w00 blk off d) (hblk : blk < w00.heap.size) (hab : a ≤ b) (hb : b ≤ d.size) (hsz : d.size < 4611686018427387904) :
    Calls P (ρ.f 20) #[.slice (some ⟨blk, off, none⟩) d.size cap, .int .i64 a, .int .i64 b, .func (.func g) #[] cb] w fun e w' =>
      e = .returned (.tuple #[]) ∧ ∃ n os, w' = sortWorldK enc k w00 blk off n (Sort.insertionSort (ltOf cf) d a b) os := by
  have mixed := L.mixed; have t0 := L.t0; have a0 := L.a0; have z0 := L.z0; have v0 := L.v0; have t3 := L.t3; have a3 := L.a3; have z3 := L.z3; have v3 := L.v3; have t4 := L.t4; have a4 := L.a4; have z4 := L.z4; have v4 := L.v4; have t22 := L.t22; have a22 := L.a22; have z22 := L.z22; have v22 := L.v22; have t25 := L.t25; have a25 := L.a25; have z25 := L.z25; have v25 := L.v25
  have u22 := run_underlying L.t22
  obtain ⟨nm20, _, F20⟩ := L.f20
  have HC : Aside _ := hcmp
  have HST : Hid (w = sortWorldK enc k w00 blk off m0 d #[]) := hw0
  have HZ : Hid (w00.drawn = 0) := hz
  clear hz hw0
  have HH : Hid (HoldsK enc k w00 blk off d) := hH
  have HK : Hid (∀ x, (enc x).length = k) := hk
  have H1 : Hid (∀ x, ∀ v ∈ enc x, v.oneCell' = true) := h1
  clear hcmp hH hk h1
  go_enter F20, SlBodyF.n20_ntmps ρ
  go_wp2
  go_loopg [8] (b - a) (fun g1 vi wr => ∃ (i n : Nat) (dk : Array α) (os : Array Obj), vi = .int .i64 i ∧ a < i ∧ i ≤ b + 1 ∧ b + 1 - i ≤ g1 + 1 ∧ dk.size = d.size ∧ wr = sortWorldK enc k w00 blk off n dk os ∧ Hid (insOuter (ltOf cf) a b i dk = insOuter (ltOf cf) a b (a + 1) d))
  case atStart => exact ⟨a + 1, m0, d, #[], by go_num, by omega, by omega, by omega, rfl, HST.out, rfl⟩
  case round =>
    obtain ⟨i, n, dk, os, rfl, hai, hib, hg1, hsk, rfl, HO⟩ := hrel
    by_cases hlt : i < b
    · have hltz : (i : Int) < (b : Int) := by omega
      go_wp2
      -- the inner loop
      go_loopg [9] i (fun g2 vj wr2 => ∃ (j m : Nat) (dj : Array α) (oj : Array Obj), vj = .int .i64 j ∧ a ≤ j ∧ j ≤ i ∧ j ≤ g2 ∧ dj.size = d.size ∧ wr2 = sortWorldK enc k w00 blk off m dj oj ∧ Hid (insInner (ltOf cf) a j dj = insInner (ltOf cf) a i dk))
      case atStart => exact ⟨i, n, dk, os, rfl, by omega, Nat.le_refl _, Nat.le_refl _, hsk, rfl, rfl⟩
      case round =>
        obtain ⟨j, m, dj, oj, rfl, haj, hji, hg2, hsj, rfl, HI⟩ := hrel
        have out : (j ≤ a ∨ ltOf cf dj[j]! dj[j - 1]! = false) → Hid (insOuter (ltOf cf) a b (i + 1) dj = insOuter (ltOf cf) a b (a + 1) d) := fun hs => by
          show _ = _
          rw [← HO.out, insOuter_go _ _ _ _ _ hlt, ← HI.out, insInner_stop _ _ _ _ hs]
        have OUT : Aside _ := out
        clear out
        by_cases hja : a < j
        · have hjaz : (a : Int) < (j : Int) := by omega
          obtain ⟨jp, rfl⟩ : ∃ jp, j = jp + 1 := ⟨j - 1, by omega⟩
          obtain ⟨xj, hxj⟩ : ∃ x, dj[jp + 1]! = x := ⟨_, rfl⟩
          obtain ⟨xp, hxp⟩ : ∃ x, dj[jp]! = x := ⟨_, rfl⟩
          have hwp : IntKind.i64.wrap (jp : Int) = (jp : Int) := by rw [IntKind.wrap_i64]; omega
          have jz : (jp : Int) + 1 < (d.size : Int) := by omega
          have jz1 : (jp : Int) < (d.size : Int) := by omega
          have hjaz' : (a : Int) < (jp : Int) + 1 := by omega
          have p0 : (0 : Int) ≤ (jp : Int) + 1 := by omega
          have e0 : ((jp : Int) + 1).toNat = jp + 1 := by omega
          -- every world of the class is one of the sort's
          have hcls : ∀ n' os', grow (redrawn (sortWorldK enc k w00 blk off m dj oj) n') os' = sortWorldK enc k w00 blk off n' dj (oj ++ os') := fun n' os' => sortWorldK_redrawn enc k w00 blk off HZ.out m n' dj oj os'
          have hHc : ∀ n' os', HoldsK enc k (grow (redrawn (sortWorldK enc k w00 blk off m dj oj) n') os') blk off dj := fun n' os' => by rw [hcls]; exact holdsK_sortWorldK_c enc k w00 blk off d dj _ _ HH.out hblk hsj
          have lj : ∀ n' os', Sem.run P (loadCellsFrom ⟨blk, off + (jp + 1) * k, none⟩ 0 k #[]) (grow (redrawn (sortWorldK enc k w00 blk off m dj oj) n') os') = .ok (enc xj).toArray (grow (redrawn (sortWorldK enc k w00 blk off m dj oj) n') os') := fun n' os' => by
            rw [← hxj]; exact run_loadCellsFrom_list P _ _ _ k (HK.out _) (HoldsK.cells (hHc n' os') HK.out (by omega))
          have lp : ∀ n' os', Sem.run P (loadCellsFrom ⟨blk, off + jp * k, none⟩ 0 k #[]) (grow (redrawn (sortWorldK enc k w00 blk off m dj oj) n') os') = .ok (enc xp).toArray (grow (redrawn (sortWorldK enc k w00 blk off m dj oj) n') os') := fun n' os' => by
            rw [← hxp]; exact run_loadCellsFrom_list P _ _ _ k (HK.out _) (HoldsK.cells (hHc n' os') HK.out (by omega))
          have hcg : ∀ n' os', Calls P g (#[.agg (enc xj).toArray, .agg (enc xp).toArray] ++ cb) (grow (redrawn (sortWorldK enc k w00 blk off m dj oj) n') os') fun e w' => e = .returned (.int .i64 (cf xj xp)) ∧ Below (grow (redrawn (sortWorldK enc k w00 blk off m dj oj) n') os').heap.size (grow (redrawn (sortWorldK enc k w00 blk off m dj oj) n') os') w' := fun n' os' => by
            rw [hcls]; exact HC.out _ _ dj hsj xj xp
          have CLS : Hid _ := hcls
          clear hcls hHc
          generalize hwq : sortWorldK enc k w00 blk off m dj oj = wq at lj lp hcg CLS ⊢
          by_cases hlv : cf xj xp < 0
          · go_wp2_with fail
            refine wp_region_quiet_below (by assumption) (by kernel_rfl) ?_
            repeat (quiet_step (first | (go_at_fn g; refine Calls.regrown_of (hcg _ _))))
            refine wpQuiet_nil ?_
            intro _ hw'
            obtain ⟨⟨nq, osq⟩, hw''⟩ := hw'
            subst hw''
            go_wp2_with fail
            have hw2 : grow (redrawn wq nq) osq = sortWorldK enc k w00 blk off nq dj (oj ++ osq) := CLS.out nq osq
            have hHd : HoldsK enc k (grow (redrawn wq nq) osq).drew blk off dj := by
              have : HoldsK enc k (grow (redrawn wq nq) osq) blk off dj := by rw [hw2]; exact holdsK_sortWorldK_c enc k w00 blk off d dj _ _ HH.out hblk hsj
              exact this
            have bnd : ∀ x, x < dj.size → x * k + k ≤ dj.size * k := fun x hx => by
              have := Nat.mul_le_mul_right k (show x + 1 ≤ dj.size from hx); rwa [Nat.add_mul, Nat.one_mul] at this
            clear lj lp hcg
            generalize grow (redrawn wq nq) osq = wq2 at hw2 hHd ⊢
            have lj2 : Sem.run P (loadCellsFrom ⟨blk, off + (jp + 1) * k, none⟩ 0 k #[]) wq2.drew = .ok (enc xj).toArray wq2.drew := by rw [← hxj]; exact run_loadCellsFrom_list P _ _ _ k (HK.out _) (HoldsK.cells hHd HK.out (by omega))
            have lp2 : Sem.run P (loadCellsFrom ⟨blk, off + jp * k, none⟩ 0 k #[]) wq2.drew = .ok (enc xp).toArray wq2.drew := by rw [← hxp]; exact run_loadCellsFrom_list P _ _ _ k (HK.out _) (HoldsK.cells hHd HK.out (by omega))
            have s1 : Sem.run P (storeCells ⟨blk, off + (jp + 1) * k, none⟩ (enc xp) 0) wq2.drew = .ok () (wq2.drew.setCells blk (off + (jp + 1) * k) (enc xp)) := stores_of_holds P hHd ((jp + 1) * k) _ (by rw [HK.out, size_flatK]; exact bnd (jp + 1) (by omega)) (H1.out _)
            have s2 : Sem.run P (storeCells ⟨blk, off + jp * k, none⟩ (enc xj) 0) (wq2.drew.setCells blk (off + (jp + 1) * k) (enc xp)) = .ok () ((wq2.drew.setCells blk (off + (jp + 1) * k) (enc xp)).setCells blk (off + jp * k) (enc xj)) :=
              stores_of_holds P (holds_setCells_c hHd ((jp + 1) * k) _ (by rw [HK.out, size_flatK]; exact bnd (jp + 1) (by omega))) (jp * k) _ (by rw [HK.out, size_setMany, size_flatK]; exact bnd jp (by omega)) (H1.out _)
            have hsJ : (enc xj).length = k := HK.out _
            have hsP : (enc xp).length = k := HK.out _
            have HW2 : Hid (wq2 = sortWorldK enc k w00 blk off nq dj (oj ++ osq)) := hw2
            clear hw2 hHd bnd
            obtain ⟨cJ, hcJ⟩ : ∃ c, c = enc xj := ⟨_, rfl⟩
            obtain ⟨cP, hcP⟩ : ∃ c, c = enc xp := ⟨_, rfl⟩
            rw [← hcP] at s1 lp2 hsP
            rw [← hcJ] at lj2 hsJ
            rw [← hcJ, ← hcP] at s2
            have CC : Hid (cJ = enc xj ∧ cP = enc xp) := ⟨hcJ, hcP⟩
            clear hcJ hcP
            go_big_region_o
            all_goals go_wp2
            go_roundg jp
            case measure => omega
            case rel =>
              refine ⟨jp, nq + 1, swp dj (jp + 1) jp, oj ++ osq, by first | rfl | go_num | (congr 1; omega), by omega, by omega, Nat.le_refl _, by rw [size_swp]; exact hsj, ?_, (show Hid _ from ?_)⟩
              · rw [CC.out.1, CC.out.2, HW2.out, ← hxp, ← hxj]
                exact sortWorldK_swp_c enc k w00 blk off HK.out nq dj (oj ++ osq) hblk (jp + 1) jp (by omega) (by omega)
              · show _ = _
                have := insInner_go (ltOf cf) a (jp + 1) dj hja (by simp only [Nat.add_sub_cancel]; rw [hxj, hxp]; exact decide_eq_true hlv)
                simp only [Nat.add_sub_cancel] at this
                rw [← HI.out, this]
          · -- not less: out of the inner loop
            go_wp2_with fail
            refine wp_region_quiet_below (by assumption) (by kernel_rfl) ?_
            repeat (quiet_step (first | (go_at_fn g; refine Calls.regrown_of (hcg _ _))))
            refine wpQuiet_nil ?_
            intro _ hw'
            obtain ⟨⟨nq, osq⟩, hw''⟩ := hw'
            subst hw''
            go_wp2
            go_roundg (b - (i + 1))
            case measure => omega
            case rel => exact ⟨i + 1, _, dj, _, by go_num, by omega, by omega, by omega, hsj, CLS.out nq osq, OUT.out (Or.inr (by simp only [Nat.add_sub_cancel]; rw [hxj, hxp]; exact decide_eq_false (by omega)))⟩
        · -- j = a: out of the inner loop (the guard is false: 'cmp' is not called)
          have hjaz : decide ((j : Int) > (a : Int)) = false := decide_eq_false (by omega)
          have hjaz' : ¬ (a : Int) < (j : Int) := by omega
          have hdr : (sortWorldK enc k w00 blk off m dj oj).drew = sortWorldK enc k w00 blk off (m + 1) dj oj := rfl
          generalize hwq : sortWorldK enc k w00 blk off m dj oj = wq at hdr
          have HDR : Hid _ := hdr
          clear hdr
          go_wp2_with fail
          go_big_region_o
          all_goals go_wp2
          go_roundg (b - (i + 1))
          case measure => omega
          case rel => exact ⟨i + 1, m + 1, dj, oj, by go_num, by omega, by omega, by omega, hsj, HDR.out, OUT.out (Or.inl (by omega))⟩
    · have hltz : ¬ (i : Int) < (b : Int) := by omega
      go_wp2
      go_end0
      exact ⟨rfl, n, os, by unfold Sort.insertionSort; rw [← HO.out, insOuter_stop _ _ _ _ _ hlt]⟩


theorem sortWorldK_start (enc : α → List Value) (k : Nat) (w : World) (blk off : Nat) (d : Array α) (hH : HoldsK enc k w blk off d) : w = sortWorldK enc k (redrawn w 0) blk off w.drawn d #[] := by
  have e : Sort.ahead (redrawn w 0) w.drawn = w := by
    unfold Sort.ahead redrawn
    simp
  unfold sortWorldK
  rw [e, grow_empty]
  exact (putRowK_self enc k w blk off d hH).symm

set_option maxHeartbeats 2000000 in
set_option maxRecDepth 100000 in
theorem pdqB (L : SlLaysF0.n14 P ρ) (k : Nat) (aE : ∀ w, (isAgg (ρ.t 24)).run P w = .ok true w) (zE : ∀ w, (Go.sizeOf (ρ.t 24)).run P w = .ok k w) (enc : α → List Value) (hk : ∀ x, (enc x).length = k) (h1 : ∀ x, ∀ v ∈ enc x, v.oneCell' = true) (cf : α → α → Int) (g : Nat) (cb : Array Value) (blk off cap a b : Nat) (lim : Int) (d : Array α) (w00 : World) (hz : w00.drawn = 0) (m0 : Nat) (w : World) (hw0 : w = sortWorldK enc k w00 blk off m0 d #[])
    (eg : ∀ args w, (callFunc g args).run P w = .ok (.enter g args) w) (hcmp : CmpB P g cb enc k cf blk off d.size w00) (hH : HoldsK enc k w00 blk off d) (hblk : blk < w00.heap.size) (hab : a ≤ b) (hb : b ≤ d.size) (hsz : d.size < 4611686018427387904) (h12 : b - a ≤ 12) :
    Calls P (ρ.f 14) #[.slice (some ⟨blk, off, none⟩) d.size cap, .int .i64 a, .int .i64 b, .int .i64 lim, .func (.func g) #[] cb] w fun e w' => e = .returned (.tuple #[]) ∧ ∃ n os, w' = sortWorldK enc k w00 blk off n (Sort.insertionSort (ltOf cf) d a b) os := by
  have mixed := L.mixed; have t0 := L.t0; have a0 := L.a0; have z0 := L.z0; have v0 := L.v0; have t3 := L.t3; have a3 := L.a3; have z3 := L.z3; have v3 := L.v3; have t4 := L.t4; have a4 := L.a4; have z4 := L.z4; have v4 := L.v4; have t5 := L.t5; have a5 := L.a5; have z5 := L.z5; have v5 := L.v5; have t9 := L.t9; have a9 := L.a9; have z9 := L.z9; have v9 := L.v9; have t22 := L.t22; have a22 := L.a22; have z22 := L.z22; have v22 := L.v22; have t25 := L.t25; have a25 := L.a25; have z25 := L.z25; have v25 := L.v25; have t39 := L.t39; have a39 := L.a39; have z39 := L.z39; have v39 := L.v39; have t45 := L.t45; have a45 := L.a45; have z45 := L.z45; have v45 := L.v45; have t46 := L.t46; have a46 := L.a46; have z46 := L.z46; have v46 := L.v46; have t50 := L.t50; have a50 := L.a50; have z50 := L.z50; have v50 := L.v50; have t53 := L.t53; have a53 := L.a53; have z53 := L.z53; have v53 := L.v53; have t55 := L.t55; have a55 := L.a55; have z55 := L.z55; have v55 := L.v55; have t66 := L.t66; have a66 := L.a66; have z66 := L.z66; have v66 := L.v66; have t70 := L.t70; have a70 := L.a70; have z70 := L.z70; have v70 := L.v70; have t76 := L.t76; have a76 := L.a76; have z76 := L.z76; have v76 := L.v76; have t77 := L.t77; have a77 := L.a77; have z77 := L.z77; have v77 := L.v77
  have e20 : ∀ args w, (callFunc (ρ.f 20) args).run P w = .ok (.enter (ρ.f 20) args) w := L.f20.enters rfl
  have hi := insB (P := P) (ρ := ρ) { L with } k aE zE enc hk h1 cf g cb blk off cap a b d w00 hz m0 w hw0 eg hcmp hH hblk hab hb hsz
  clear hH hcmp hk h1 hw0
  obtain ⟨_, _, FG⟩ := L.f14
  go_enter FG, SlBodyF.n14_ntmps ρ
  go_wp2
  refine wp_loop_rounds 1 ?_
  rw [rounds_succ]
  go_wp2_with (go_at_fn (ρ.f 20); refine hi.mono ?_; rintro e w' ⟨rfl, n, os, rfl⟩)
  (try simp only [Exit.inBlock, Exit.then]); refine bodyPost_ret (results_none rfl _ _ _) rfl ?_
  exact ⟨rfl, n, os, rfl⟩

set_option maxHeartbeats 2000000 in
set_option maxRecDepth 100000 in
theorem sortB (L : SlLaysF0.n6 P ρ) (k : Nat) (aE : ∀ w, (isAgg (ρ.t 24)).run P w = .ok true w) (zE : ∀ w, (Go.sizeOf (ρ.t 24)).run P w = .ok k w) (enc : α → List Value) (hk : ∀ x, (enc x).length = k) (h1 : ∀ x, ∀ v ∈ enc x, v.oneCell' = true) (cf : α → α → Int) (g : Nat) (cb : Array Value) (blk off cap : Nat) (d : Array α) (w : World)
    (eg : ∀ args w, (callFunc g args).run P w = .ok (.enter g args) w) (hcmp : CmpB P g cb enc k cf blk off d.size (redrawn w 0)) (hH : HoldsK enc k w blk off d) (hblk : blk < w.heap.size) (h12 : d.size ≤ 12)
    (hlen : ∀ (n : Nat) (W : World), n ≤ 12 → Calls P (ρ.f 15) #[.int .u64 n] W fun e w' => (∃ l : Int, e = .returned (.int .i64 l)) ∧ w' = W) :
    Calls P (ρ.f 6) #[.slice (some ⟨blk, off, none⟩) d.size cap, .func (.func g) #[] cb] w fun e w' => e = .returned (.tuple #[]) ∧ ∃ n os, w' = sortWorldK enc k (redrawn w 0) blk off n (Sort.insertionSort (ltOf cf) d 0 d.size) os := by
  have mixed := L.mixed; have t0 := L.t0; have a0 := L.a0; have z0 := L.z0; have v0 := L.v0; have t3 := L.t3; have a3 := L.a3; have z3 := L.z3; have v3 := L.v3; have t4 := L.t4; have a4 := L.a4; have z4 := L.z4; have v4 := L.v4; have t5 := L.t5; have a5 := L.a5; have z5 := L.z5; have v5 := L.v5; have t9 := L.t9; have a9 := L.a9; have z9 := L.z9; have v9 := L.v9; have t22 := L.t22; have a22 := L.a22; have z22 := L.z22; have v22 := L.v22; have t25 := L.t25; have a25 := L.a25; have z25 := L.z25; have v25 := L.v25; have t39 := L.t39; have a39 := L.a39; have z39 := L.z39; have v39 := L.v39; have t45 := L.t45; have a45 := L.a45; have z45 := L.z45; have v45 := L.v45; have t46 := L.t46; have a46 := L.a46; have z46 := L.z46; have v46 := L.v46; have t50 := L.t50; have a50 := L.a50; have z50 := L.z50; have v50 := L.v50; have t53 := L.t53; have a53 := L.a53; have z53 := L.z53; have v53 := L.v53; have t55 := L.t55; have a55 := L.a55; have z55 := L.z55; have v55 := L.v55; have t66 := L.t66; have a66 := L.a66; have z66 := L.z66; have v66 := L.v66; have t70 := L.t70; have a70 := L.a70; have z70 := L.z70; have v70 := L.v70; have t76 := L.t76; have a76 := L.a76; have z76 := L.z76; have v76 := L.v76; have t77 := L.t77; have a77 := L.a77; have z77 := L.z77; have v77 := L.v77
  have e14 : ∀ args w, (callFunc (ρ.f 14) args).run P w = .ok (.enter (ρ.f 14) args) w := L.f14.enters rfl
  have e15 : ∀ args w, (callFunc (ρ.f 15) args).run P w = .ok (.enter (ρ.f 15) args) w := enters_of L.f15 (by kernel_rfl) rfl
  have hp := fun lim => pdqB (P := P) (ρ := ρ) { L with } k aE zE enc hk h1 cf g cb blk off cap 0 d.size lim d (redrawn w 0) rfl w.drawn w (sortWorldK_start enc k w blk off d hH) eg hcmp hH hblk (Nat.zero_le _) (Nat.le_refl _) (by omega) (by omega)
  have hl := hlen d.size w h12
  clear hH hcmp hlen hk h1
  obtain ⟨_, _, FG⟩ := L.f6
  go_enter FG, SlBodyF.n6_ntmps ρ
  go_wp2_with (first | (go_at_fn (ρ.f 15); refine hl.mono ?_; rintro e w' ⟨⟨l, rfl⟩, rfl⟩) | (go_at_fn (ρ.f 14); refine (hp _).mono ?_; rintro e w' ⟨rfl, n, os, rfl⟩))
  go_end0
  exact ⟨rfl, n, os, rfl⟩


theorem sortB_sorted (L : SlLaysF0.n6 P ρ) (k : Nat) (aE : ∀ w, (isAgg (ρ.t 24)).run P w = .ok true w) (zE : ∀ w, (Go.sizeOf (ρ.t 24)).run P w = .ok k w) (enc : α → List Value) (hk : ∀ x, (enc x).length = k) (h1 : ∀ x, ∀ v ∈ enc x, v.oneCell' = true) (cf : α → α → Int) (g : Nat) (cb : Array Value) (hS : SWO (ltOf cf)) (blk off cap : Nat) (d : Array α) (w : World)
    (eg : ∀ args w, (callFunc g args).run P w = .ok (.enter g args) w) (hcmp : CmpB P g cb enc k cf blk off d.size (redrawn w 0)) (hH : HoldsK enc k w blk off d) (hblk : blk < w.heap.size) (h12 : d.size ≤ 12)
    (hlen : ∀ (n : Nat) (W : World), n ≤ 12 → Calls P (ρ.f 15) #[.int .u64 n] W fun e w' => (∃ l : Int, e = .returned (.int .i64 l)) ∧ w' = W) :
    Calls P (ρ.f 6) #[.slice (some ⟨blk, off, none⟩) d.size cap, .func (.func g) #[] cb] w fun e w' => e = .returned (.tuple #[]) ∧ ∃ d' n os, PermIn 0 d.size d d' ∧ SortedIn (ltOf cf) 0 d.size d' ∧ w' = sortWorldK enc k (redrawn w 0) blk off n d' os :=
  (sortB L k aE zE enc hk h1 cf g cb blk off cap d w eg hcmp hH hblk h12 hlen).mono fun _ _ ⟨he, n, os, hw⟩ =>
    have h := insertionSort_holds (lt := ltOf cf) hS d 0 d.size (Nat.zero_le _) (Nat.le_refl _)
    ⟨he, _, n, os, h.1, h.2, hw⟩

end Go.Abs

namespace Go.Abs
open Go.RowKit Go Go.Proofs Go.Shelf Go.Lib Go.Sort
open Go.ChangeMaps (setBlock)
section
variable {P : Program} (w : World) {ops : Array Oper} {rest : List Oper} {o : Oper} {a : Act} {Q : Exit → Act → World → Prop}
/-- a step over a map: nothing is left, or some entry that is left -/
theorem wpList_next_at (hg : o.guard = none) (it : Operand) (hop : o.op = Op.next it false) (r bm since c0 : Nat) (seen : Array Nat) (es : Array MapEntry) (clock : Nat)
    (hit : a.eval it = .pointer (some ⟨r, 0, none⟩)) (hr : w.heap[r]? = some (.mapIter (some bm) since seen c0)) (hb : w.heap[bm]? = some (.map es clock)) (hold : ∀ x ∈ es.toList, x.born < since) (hsc : since ≤ c0) (hn : (es.toList.map (·.born)).Nodup) (hne : r ≠ bm)
    (hDone : (leftOf es seen).size = 0 → wpList P ops Q rest (a.put o.dst (.tuple #[.bool false])) w)
    (hMore : ∀ e ∈ (leftOf es seen).toList, ∀ w2 : World, w2.heap[r]? = some (.mapIter (some bm) since (seen.push e.born) clock) → w.grownBy w2 (some r) → w2.heap.size = w.heap.size → (Instr.entry (.pointer (some ⟨r, 0, none⟩))).run P w2 = .ok (.tuple #[e.key, e.val]) w2 → wpList P ops Q rest (a.put o.dst (.tuple #[.bool true, e.key, e.val])) w2) :
    wpList P ops Q (o :: rest) a w := by
  refine wpList_plain hg fun K' hK' => ?_
  unfold Oper.wp
  have hrl : r < w.heap.size := (Array.getElem?_eq_some_iff.1 hr).1
  rcases run_next_at (P := P) w o.type r bm since c0 seen es clock hr hb hold hsc with ⟨h0, hrun⟩ | ⟨e, he, w1, hw1, hrun⟩
  · simp [execOp, hop, hit, hrun, Result.andThen]
    exact hK' _ _ (hDone h0)
  · simp [execOp, hop, hit, hrun, Result.andThen]
    have hh : w1.heap = w.heap := by rcases hw1 with rfl | rfl <;> rfl
    have h1 : (setBlock w1 r (.mapIter (some bm) since (seen.push e.born) clock)).heap[r]? = some (.mapIter (some bm) since (seen.push e.born) clock) := by
      simp [setBlock, hh, hrl]
    have h2 : ∀ k, k ≠ r → (setBlock w1 r (.mapIter (some bm) since (seen.push e.born) clock)).heap[k]? = w.heap[k]? := fun k hk => by
      simp only [setBlock, hh]
      exact Array.getElem?_setIfInBounds_ne (Ne.symm hk)
    refine hK' _ _ (hMore e he _ h1 ⟨?_, ?_, ?_, ?_, fun k _ hk => h2 k (fun e => hk (by rw [e]))⟩ ?_ ?_)
    · rcases hw1 with rfl | rfl <;> rfl
    · rcases hw1 with rfl | rfl <;> rfl
    · rcases hw1 with rfl | rfl <;> rfl
    · simp [setBlock, hh]
    · simp [setBlock, hh]
    · exact run_entry_at _ r bm since seen es clock e h1 (by rw [h2 bm (Ne.symm hne)]; exact hb) (mem_left he).1 hn
end

/-- an entry: the place, the view, the request -/
structure Ent where
  seq : Int
  view : Int
  cl : Int
  ts : Int
  kd : Int
  ky : Int
  vl : Int
  deriving Inhabited
def Ent.row (e : Ent) : List Value := [.int .u32 e.seq, .int .u32 e.view, .int .u8 e.cl, .int .u32 e.ts, .int .u8 e.kd, .int .u8 e.ky, .int .u16 e.vl]
/-- a map's entry is this one -/
def KeyOK (e : MapEntry) (x : Ent) : Prop := e.key = .agg #[.int .u32 x.seq, .int .u8 x.cl, .int .u32 x.ts, .int .u8 x.kd, .int .u8 x.ky, .int .u16 x.vl] ∧ e.val = .int .u32 x.view
def rowsOf (X : List Ent) : List Value := X.flatMap Ent.row
def mleft (es : Array MapEntry) (r : Nat) (w : World) : Nat := match w.heap[r]? with
  | some (.mapIter _ _ seen _) => (leftOf es seen).size
  | _ => 0
theorem mleft_eq {es : Array MapEntry} {r : Nat} {w : World} {m : Option Nat} {s c : Nat} {seen : Array Nat} (h : w.heap[r]? = some (.mapIter m s seen c)) : mleft es r w = (leftOf es seen).size := by simp [mleft, h]
theorem len_le_of_sub {α : Type} [DecidableEq α] : ∀ {a b : List α}, a.Nodup → (∀ x ∈ a, x ∈ b) → a.length ≤ b.length
  | [], _, _, _ => Nat.zero_le _
  | x :: a, b, hn, hs => by
    have h1 := List.nodup_cons.1 hn
    have hx : x ∈ b := hs x List.mem_cons_self
    have := len_le_of_sub (a := a) (b := b.erase x) h1.2 (fun y hy => by
      have hne : y ≠ x := fun e => h1.1 (e ▸ hy)
      exact (List.mem_erase_of_ne hne).2 (hs y (List.mem_cons_of_mem _ hy)))
    rw [List.length_erase_of_mem hx] at this
    have hb : 0 < b.length := List.length_pos_of_mem hx
    simp; omega

def u64N (z : Int) : Nat := (IntKind.u64.wrap z).toNat
theorem u64N_lt (z : Int) : u64N z < 18446744073709551616 := by
  unfold u64N; rw [wrap_u64]
  have := Int.emod_nonneg z (show (18446744073709551616 : Int) ≠ 0 by decide)
  have := Int.emod_lt_of_pos z (show (0 : Int) < 18446744073709551616 by decide)
  omega
/-- the order of two entries -/
def txE (x : Ent) : List UInt8 := textB [u64N x.cl, u64N x.ts, u64N x.kd, u64N x.ky, u64N x.vl]
def cfE (x y : Ent) : Int := if x.seq < y.seq then -1 else if x.seq > y.seq then 1 else if strLess (txE x) (txE y) then -1 else if strLess (txE x) (txE y) || strEq (txE x) (txE y) then 0 else 1
theorem lt_cf (x y : Ent) : ltOf cfE x y = lessB x.seq (txE x) y.seq (txE y) := by
  unfold ltOf cfE lessB
  by_cases e1 : x.seq < y.seq
  · simp [e1]
  · by_cases e2 : x.seq > y.seq
    · have : ¬ x.seq = y.seq := by omega
      simp [e1, e2, this]
    · have : x.seq = y.seq := by omega
      simp only [this, decide_true, Bool.true_and]
      cases strLess (txE x) (txE y) <;> simp
      split <;> decide

theorem lessB_n {s t u : Int} {x y z : List UInt8} (h : lessB s x t y = false) (k : lessB t y u z = false) : lessB s x u z = false := by
  cases e : lessB s x u z with
  | false => rfl
  | true =>
    exfalso
    cases f : lessB t y s x with
    | true =>
      have := lessB_trans f e
      rw [this] at k; cases k
    | false =>
      obtain ⟨rfl, rfl⟩ := lessB_conn h f
      rw [e] at k; cases k
theorem swoE : SWO (ltOf cfE) where
  irrefl x := by rw [lt_cf]; exact lessB_irr _ _
  trans x y z h1 h2 := by
    rw [lt_cf] at h1 h2 ⊢
    exact lessB_trans h1 h2
  ntrans x y z h1 h2 := by
    rw [lt_cf] at h1 h2 ⊢
    exact lessB_n h1 h2
theorem cell_sw {α : Type} [Inhabited α] (enc : α → List Value) (k : Nat) (W : World) (blk off n : Nat) (dk : Array α) (os : Array Obj) (a : Addr) (h1 : a.block ≠ blk) (h2 : a.block < W.heap.size) : (sortWorldK enc k W blk off n dk os).cell? a = W.cell? a := by
  have hb : (sortWorldK enc k W blk off n dk os).heap[a.block]? = W.heap[a.block]? := by
    unfold sortWorldK grow putRowK putRow mapBlock
    simp only
    rw [Array.getElem?_append_left (by simpa [Sort.ahead] using h2), Array.getElem?_modify]
    rw [if_neg (Ne.symm h1)]
    rfl
  exact World.cell?_of_block hb
theorem powF_block {GL g j : Nat} {v : Value} (h : powF GL g j = some v) : g = GL := by
  unfold powF at h
  split at h
  · rename_i h'; exact h'.1
  · cases h
/-- the table of powers of ten stands -/
def TabOK (GL : Nat) (w : World) : Prop := ∀ g j v, powF GL g j = some v → g < w.heap.size ∧ w.cell? ⟨g, j, none⟩ = some v
theorem cmpB {P : Program} {GL gc : Nat} (hc : ∀ (x y : Ent) (w : World), TabOK GL w → Calls P gc #[.agg x.row.toArray, .agg y.row.toArray] w fun e w' => e = .returned (.int .i64 (cfE x y)) ∧ Below w.heap.size w w')
    (w : World) (hT : TabOK GL w) (blk off n : Nat) (hb : blk ≠ GL) : CmpB P gc #[] Ent.row 7 cfE blk off n (redrawn w 0) := by
  intro m os dk hdk x y
  refine hc x y _ fun g j v h => ?_
  obtain ⟨h1, h2⟩ := hT g j v h
  have hg := powF_block h
  refine ⟨Nat.lt_of_lt_of_le h1 (size_sortWorldK_c Ent.row 7 (redrawn w 0) blk off m dk os), ?_⟩
  rw [cell_sw Ent.row 7 (redrawn w 0) blk off m dk os ⟨g, j, none⟩ (by rw [hg]; exact Ne.symm hb) h1]
  exact h2
theorem rowsOf_get : ∀ (l : List Ent) (t : Nat), t < l.length * 7 → (rowsOf l)[t]? = some ((Ent.row l[t / 7]!)[t % 7]!)
  | [], t, h => by simp at h
  | x :: l, t, h => by
    simp only [List.map_cons, rowsOf, List.flatMap_cons]
    by_cases ht : t < 7
    · have e1 : t / 7 = 0 := by omega
      have e2 : t % 7 = t := by omega
      rw [List.getElem?_append_left (by simpa [Ent.row] using ht), e1, e2]
      have : (Ent.row x)[t]? = some ((Ent.row x)[t]'(by simpa [Ent.row] using ht)) := List.getElem?_eq_getElem _
      rw [this]
      simp only [List.getElem!_cons_zero]
      rw [List.getElem!_eq_getElem?_getD, this]; rfl
    · have hl : (Ent.row x).length = 7 := rfl
      rw [List.getElem?_append_right (by rw [hl]; omega), hl]
      have := rowsOf_get l (t - 7) (by simp at h; omega)
      simp only [rowsOf] at this
      rw [this]
      have e1 : t / 7 = (t - 7) / 7 + 1 := by omega
      have e2 : t % 7 = (t - 7) % 7 := by omega
      rw [e1, e2, List.getElem!_cons_succ]
theorem rowsOf_len (l : List Ent) : (rowsOf l).length = l.length * 7 := by
  induction l with
  | nil => rfl
  | cons x l ih => simp only [List.map_cons, rowsOf, List.flatMap_cons, List.length_append, List.length_cons] at ih ⊢; rw [ih]; simp [Ent.row]; omega
theorem flat_rows (d : Array Ent) : (Sort.flatK Ent.row 7 d).toList = rowsOf d.toList := by
  apply List.ext_getElem?
  intro t
  by_cases h : t < d.size * 7
  · rw [rowsOf_get d.toList t (by simpa using h)]
    have h1 : t < (Sort.flatK Ent.row 7 d).size := by simpa using h
    rw [Array.getElem?_toList, Array.getElem?_eq_getElem h1, ← getElem!_pos _ t h1, get_flatK Ent.row 7 d t h]
    congr 2
    rw [getElem!_def, getElem!_def]; simp
  · rw [List.getElem?_eq_none (by simpa using h), List.getElem?_eq_none (by rw [rowsOf_len]; simpa using h)]
/-- the row owned holds the entries -/
theorem holds_own {te : TypeId} {w : World} {base g cap : Nat} {l : List Ent} (h : w.ownsRow base te 7 (.slice (some ⟨g, 0, none⟩) l.length cap) l.length (rowsOf l)) : HoldsK Ent.row 7 w g 0 l.toArray := by
  intro j hj
  have hj : j < l.length * 7 := by simpa using hj
  rw [Nat.zero_add, h.cellAt j hj]
  refine ⟨?_, h.frozenAt j⟩
  have e := flat_rows l.toArray
  simp only at e
  rw [← e]
  have h1 : j < (Sort.flatK Ent.row 7 l.toArray).size := by simpa using hj
  rw [Array.getElem?_toList, Array.getElem?_eq_getElem h1, getElem!_pos _ j h1]; rfl
/-- behind the sort: the row owned -/
theorem own_sorted {te : TypeId} {w : World} {base g cap n m : Nat} {xs : List Value} {d : Array Ent} {os : Array Obj} (h : w.ownsRow base te 7 (.slice (some ⟨g, 0, none⟩) n cap) n xs) (hd : d.size = n) (hn : 0 < n) :
    (sortWorldK Ent.row 7 (redrawn w 0) g 0 m d os).ownsRow base te 7 (.slice (some ⟨g, 0, none⟩) n cap) n (rowsOf d.toList) := by
  refine ⟨by rw [rowsOf_len]; simp [hd], .inr ?_⟩
  obtain ⟨_, h | ⟨g', cap', cur, hv, hbg, hg, hnc, hcm, hcs, htake⟩⟩ := h
  · cases h.1
  · cases hv
    have hgl : g < w.heap.size := (Array.getElem?_eq_some_iff.1 hg).1
    refine ⟨g, cap, Sort.putCells id 0 (Sort.flatK Ent.row 7 d) cur, rfl, hbg, ?_, hnc, hcm, by simp [Sort.putCells, hcs], ?_⟩
    · unfold sortWorldK grow putRowK putRow mapBlock
      simp only
      rw [Array.getElem?_append_left (by simpa [Sort.ahead, redrawn] using hgl), Array.getElem?_modify, if_pos rfl]
      show Option.map _ (w.heap[g]?) = _
      rw [hg]; rfl
    · rw [← flat_rows d]
      apply List.ext_getElem?
      intro t
      rw [List.getElem?_take]
      by_cases ht : t < n * 7
      · have h1 : t < cur.size := by rw [hcs]; have := Nat.mul_le_mul_right 7 hnc; omega
        have h2 : t < (Sort.flatK Ent.row 7 d).size := by simp [hd]; omega
        rw [if_pos ht, Array.getElem?_toList, Array.getElem?_toList]
        simp only [Sort.putCells, Array.getElem?_mapIdx, Array.getElem?_eq_getElem h1, Option.map_some]
        rw [if_pos ⟨Nat.zero_le _, by simpa using h2⟩, Nat.sub_zero, Array.getElem?_eq_getElem h2, getElem!_pos _ t h2]; rfl
      · rw [if_neg ht, List.getElem?_eq_none (by simp [hd]; omega)]
theorem below_sorted {te : TypeId} {w : World} {base g m : Nat} {d : Array Ent} {os : Array Obj} (hb : base ≤ g) (hs : base ≤ w.heap.size) : Below base w (sortWorldK Ent.row 7 (redrawn w 0) g 0 m d os) := by
  refine ⟨rfl, rfl, rfl, size_sortWorldK_c Ent.row 7 (redrawn w 0) g 0 m d os, fun k hk => ?_⟩
  unfold sortWorldK grow putRowK putRow mapBlock
  simp only
  rw [Array.getElem?_append_left (by simp [Sort.ahead, redrawn]; omega), Array.getElem?_modify, if_neg (by omega)]; rfl
/-- one sorted list alone -/
theorem sorted_one {α : Type} {lt : α → α → Prop} (hirr : ∀ a, ¬ lt a a) (htr : ∀ a b c, lt a b → lt b c → lt a c) : ∀ {a b : List α}, a.Perm b → a.Pairwise (fun x y => ¬ lt y x) → b.Pairwise lt → a = b
  | [], b, hp, _, _ => by have := hp.length_eq; cases b <;> simp_all
  | x :: a, [], hp, _, _ => by have := hp.length_eq; simp at this
  | x :: a, y :: b, hp, ha, hb => by
    have hxy : x = y := by
      have h1 : x ∈ y :: b := hp.subset List.mem_cons_self
      have h2 : y ∈ x :: a := hp.symm.subset List.mem_cons_self
      rcases List.mem_cons.1 h1 with h | h
      · exact h
      · have h3 := (List.pairwise_cons.1 hb).1 x h
        rcases List.mem_cons.1 h2 with h' | h'
        · exact h'.symm
        · exact absurd h3 ((List.pairwise_cons.1 ha).1 y h')
    subst hxy
    rw [sorted_one hirr htr (List.Perm.cons_inv hp) (List.pairwise_cons.1 ha).2 (List.pairwise_cons.1 hb).2]
theorem perm_of_all {a b : List Nat} (ha : a.Nodup) (hb : b.Nodup) (h1 : ∀ x ∈ a, x ∈ b) (h2 : ∀ x ∈ b, x ∈ a) : a.Perm b := (List.perm_ext_iff_of_nodup ha hb).2 fun x => ⟨h1 x, h2 x⟩
theorem own_form {w : World} {base size n : Nat} {e : TypeId} {v : Value} {xs : List Value} (h : w.ownsRow base e size v n xs) (hn : 0 < n) : ∃ g cap, v = .slice (some ⟨g, 0, none⟩) n cap ∧ base ≤ g ∧ g < w.heap.size := by
  rcases h.2 with ⟨_, h0⟩ | ⟨g, cap, cur, rfl, hb, hg, _⟩
  · omega
  · exact ⟨g, cap, rfl, hb, (Array.getElem?_eq_some_iff.1 hg).1⟩
theorem own_mono {w : World} {base base' size n : Nat} {e : TypeId} {v : Value} {xs : List Value} (h : w.ownsRow base e size v n xs) (hb : base' ≤ base) : w.ownsRow base' e size v n xs :=
  ⟨h.1, h.2.imp id fun ⟨g, cap, cur, a, b, r⟩ => ⟨g, cap, cur, a, Nat.le_trans hb b, r⟩⟩

theorem entE_one : ∀ x : Ent, ∀ v ∈ x.row, v.oneCell' = true := fun x v hv => by
  simp [Ent.row] at hv
  rcases hv with rfl | rfl | rfl | rfl | rfl | rfl | rfl <;> rfl
/-- what Q and P give: a row of one's own with the entries, sorted -/
def QPost (te : TypeId) (w : World) (L : List Ent) (e : Ending) (w' : World) : Prop := ∃ g cap, e = .returned (.slice (some ⟨g, 0, none⟩) L.length cap) ∧ w'.ownsRow w.heap.size te 7 (.slice (some ⟨g, 0, none⟩) L.length cap) L.length (rowsOf L) ∧ Below w.heap.size w w'
structure QHead (te : TypeId) (w : World) (bm clock : Nat) (es : Array MapEntry) (en : Nat → Ent) (X : List Nat) (c0 : Nat) (v : Value) (wr : World) : Prop where
  it : wr.heap[w.heap.size]? = some (.mapIter (some bm) clock X.toArray c0)
  le : clock ≤ c0
  mp : wr.heap[bm]? = some (.map es clock)
  sub : ∀ b ∈ X, b ∈ es.toList.map (·.born)
  nd : X.Nodup
  own : wr.ownsRow (w.heap.size + 1) te 7 v X.length (rowsOf (X.map en))
  bel : Below w.heap.size w wr

/-! ## Q as a summary -/
/-- a block that the call made becomes an object -/
theorem Post.got {E : Env} {B : Nat} {w0 : World} {h : AH} {w w' : World} (hr : Rel E B w0 h w) (hb : RowKit.Below w.heap.size w w') (hf : E.φ h.next = none) (o : AO) (p : Pl) (hp : w.heap.size ≤ p.block) (ho : objRel (E.put h.next p) B w' p o) :
    Post E B w0 h w (E.put h.next p) ⟨h.objs.set h.next o, h.next + 1⟩ w' := by
  have hle := Env.le_put (E := E) p hf
  have old : ∀ i o' q, i ≠ h.next → h.objs.get i = some o' → E.φ i = some q → objRel (E.put h.next p) B w' q o' ∧ (o'.rw = true → q.block < w.heap.size) := by
    intro i o' q hne hi hq
    have h1 := hr.objs i o' q hi hq
    refine ⟨?_, fun hrw' => objRel_lt h1 hrw'⟩
    by_cases hrw' : o'.rw = true
    · exact objRel_mono hle (objRel_block h1 (hb.block _ (objRel_lt h1 hrw')))
    · refine objRel_mono hle (objRel_block h1 (hb.block _ ?_))
      cases o' with
      | cells cs ro es =>
        have : ro = true := by simpa [AO.rw] using hrw'
        obtain ⟨_, vs, _, h3, _⟩ := h1
        exact Nat.lt_of_lt_of_le (h3 this).1 (Nat.le_trans hr.base hr.below.size)
      | map es c => simp [AO.rw] at hrw'
      | iter m since last seen pre => simp [AO.rw] at hrw'
  refine { ext := hle, only := ?_, rel := ?_, hid := ?_, dom := ?_, frame := fun b hb' _ => hb.block b hb', newb := ?_, grow := hb.size, next := Nat.le_succ _ }
  · rintro i (hi | hi)
    · exact Env.put_other _ _ (by omega)
    · exact Env.put_other _ _ (by simp at hi; omega)
  · refine { objs := ?_, inj := ?_, below := hr.below.trans (hb.mono (Nat.le_trans hr.base hr.below.size)), base := hr.base, ok := ?_, glob := hr.glob }
    · intro i o' q hi hq
      rw [Hp.get_set] at hi
      split at hi
      · rename_i e; subst e
        cases hi
        rw [Env.put_same] at hq; cases hq
        exact ho
      · rename_i e
        rw [Env.put_other _ _ e] at hq
        exact (old i o' q e hi hq).1
    · intro i j o1 o2 p1 q hi hj hp1 hq hr1 hr2 hne
      rw [Hp.get_set] at hi hj
      split at hi <;> split at hj
      · omega
      · rename_i e e'; subst e
        rw [Env.put_same] at hp1; cases hp1
        rw [Env.put_other _ _ e'] at hq
        have := (old j o2 q e' hj hq).2 hr2
        omega
      · rename_i e e'; subst e'
        rw [Env.put_same] at hq; cases hq
        rw [Env.put_other _ _ e] at hp1
        have := (old i o1 p1 e hi hp1).2 hr1
        omega
      · rename_i e e'
        rw [Env.put_other _ _ e] at hp1
        rw [Env.put_other _ _ e'] at hq
        exact hr.inj i j o1 o2 p1 q hi hj hp1 hq hr1 hr2 hne
    · intro i hi
      simp at hi
      rw [Hp.get_set, if_neg (by omega)]
      exact hr.ok i (by omega)
  · intro i hi _
    simp only [Hp.get_set]; rw [if_neg (by omega)]
  · intro i o' hi ho'
    simp only [Hp.get_set] at ho'; rw [if_neg (by omega)] at ho'
    exact ⟨o', ho', id⟩
  · intro i q hi hi2 hq
    simp at hi2
    have : i = h.next := by omega
    subst this
    rw [Env.put_same] at hq; cases hq
    exact .inl hp

def kindB (k : IntKind) : AV → Bool
  | .int j _ => kEq k j
  | .sym j _ => kEq k j
  | _ => false
/-- an entry of a map, with its place -/
def entA (key v : AV) : Option (Nat × List AV) := match key with
  | .agg [.int .u32 (.ofNat n), c, t, k, y, x] => match kindB .u32 v, kindB .u8 c, kindB .u32 t, kindB .u8 k, kindB .u8 y, kindB .u16 x with
    | true, true, true, true, true, true => some (n, [.int .u32 (.ofNat n), v, c, t, k, y, x])
    | _, _, _, _, _, _ => none
  | _ => none
def rowsA : List (AV × AV × Nat) → Option (List (Nat × List AV))
  | [] => some []
  | (k, v, _) :: es => match entA k v, rowsA es with
    | some r, some rs => some (r :: rs)
    | _, _ => none
def insA (x : Nat × List AV) : List (Nat × List AV) → List (Nat × List AV)
  | [] => [x]
  | y :: r => match Nat.ble x.1 y.1 with
    | true => x :: y :: r
    | false => y :: insA x r
def sortA : List (Nat × List AV) → List (Nat × List AV)
  | [] => []
  | x :: r => insA x (sortA r)
def riseA : List (Nat × List AV) → Bool
  | [] => true
  | x :: r => (r.all fun y => Nat.blt x.1 y.1) && riseA r
def flatA (l : List (Nat × List AV)) : List AV := l.flatMap (·.2)
noncomputable def listA (h : AH) (es : List (AV × AV × Nat)) (clock : Nat) : Option (AV × AH) := match Nat.ble es.length 12, bornB clock es, rowsA es with
  | true, true, some rs => match riseA (sortA rs) with
    | true => some (.slice h.next 0 0 es.length none, newA h (flatA (sortA rs)) 7)
    | false => none
  | _, _, _ => none
noncomputable def qSum (d : Nat) (fb : Sum) : Sum := fun xa h => match xa with
  | [.ptr i off] => match h.objs.get i with
    | some (.cells cs _ _) => match nth cs (off + d) with
      | some (.map m) => match h.objs.get m with
        | some (.map [] _) => fb xa h
        | some (.map (e :: es) clock) => listA h (e :: es) clock
        | _ => none
      | _ => none
    | _ => none
  | _ => none

/-- a row stands for an entry -/
def RowAt (E : Env) (r : Nat × List AV) (x : Ent) : Prop := concs E r.2 = some x.row ∧ x.seq = (r.1 : Int) ∧ r.2.all AV.atom = true
inductive RowsAt (E : Env) : List (Nat × List AV) → List Ent → Prop
  | nil : RowsAt E [] []
  | cons {r x rs xs} : RowAt E r x → RowsAt E rs xs → RowsAt E (r :: rs) (x :: xs)
theorem RowsAt.length {E : Env} {rs : List (Nat × List AV)} {xs : List Ent} (h : RowsAt E rs xs) : xs.length = rs.length := by
  induction h with
  | nil => rfl
  | cons _ _ ih => simp [ih]
theorem kindB_conc {E : Env} {k : IntKind} {x : AV} {V : Value} (h : kindB k x = true) (hc : conc E x = some V) : ∃ n, V = .int k n ∧ x.atom = true := by
  cases x <;> simp only [kindB, Bool.false_eq_true] at h
  · simp only [conc, Option.some.injEq] at hc; subst hc; rw [kEq_iff.1 h]; exact ⟨_, rfl, rfl⟩
  · simp only [conc, Option.some.injEq] at hc; subst hc; rw [kEq_iff.1 h]; exact ⟨_, rfl, rfl⟩
/-- the entry that a map's entry is -/
def entOf (e : MapEntry) : Ent := match e.key, e.val with
  | .agg ⟨[.int _ s, .int _ c, .int _ t, .int _ k, .int _ y, .int _ v]⟩, .int _ n => ⟨s, n, c, t, k, y, v⟩
  | _, _ => default
theorem entA_ok {E : Env} {k v : AV} {r : Nat × List AV} (h : entA k v = some r) {K V : Value} (hk : conc E k = some K) (hv : conc E v = some V) (b : Nat) : RowAt E r (entOf ⟨K, V, b⟩) ∧ KeyOK ⟨K, V, b⟩ (entOf ⟨K, V, b⟩) := by
  unfold entA at h
  split at h
  case h_2 => cases h
  rename_i n c t kk y x
  split at h
  case h_2 => cases h
  rename_i g1 g2 g3 g4 g5 g6
  cases h
  obtain ⟨ha, vs, hvs, rfl⟩ := conc_agg_inv hk
  obtain ⟨v1, r1, e1, k1, rfl⟩ := concs_cons hvs
  obtain ⟨v2, r2, e2, k2, rfl⟩ := concs_cons k1
  obtain ⟨v3, r3, e3, k3, rfl⟩ := concs_cons k2
  obtain ⟨v4, r4, e4, k4, rfl⟩ := concs_cons k3
  obtain ⟨v5, r5, e5, k5, rfl⟩ := concs_cons k4
  obtain ⟨v6, r6, e6, k6, rfl⟩ := concs_cons k5
  have e7 : r6 = [] := (Option.some.inj k6).symm
  subst e7
  have e1' : v1 = .int .u32 (.ofNat n) := (Option.some.inj e1).symm
  subst e1'
  obtain ⟨n0, rfl, a0⟩ := kindB_conc g1 hv
  obtain ⟨n2, rfl, a2⟩ := kindB_conc g2 e2
  obtain ⟨n3, rfl, a3⟩ := kindB_conc g3 e3
  obtain ⟨n4, rfl, a4⟩ := kindB_conc g4 e4
  obtain ⟨n5, rfl, a5⟩ := kindB_conc g5 e5
  obtain ⟨n6, rfl, a6⟩ := kindB_conc g6 e6
  refine ⟨⟨?_, rfl, ?_⟩, rfl, rfl⟩
  · exact concs_mk rfl (concs_mk hv (concs_mk e2 (concs_mk e3 (concs_mk e4 (concs_mk e5 (concs_mk e6 rfl))))))
  · simp only [List.all_cons, a0, a2, a3, a4, a5, a6, List.all_nil, Bool.and_true]; rfl
theorem rowsA_ok {E : Env} : ∀ {es : List (AV × AV × Nat)} {rs : List (Nat × List AV)} {l : List MapEntry}, rowsA es = some rs → concE E es = some l → RowsAt E rs (l.map entOf) ∧ ∀ e ∈ l, KeyOK e (entOf e)
  | [], rs, l, h, hl => by
    simp only [rowsA, Option.some.injEq] at h; subst h
    simp only [concE, Option.some.injEq] at hl; subst hl
    exact ⟨.nil, fun _ h => by cases h⟩
  | (k, v, b) :: es, rs, l, h, hl => by
    obtain ⟨K, V, l', h1, h2, h3, rfl⟩ := concE_cons hl
    simp only [rowsA] at h
    split at h
    case h_2 => cases h
    rename_i r rs' hr hrs
    cases h
    obtain ⟨a1, a2⟩ := rowsA_ok hrs h3
    obtain ⟨b1, b2⟩ := entA_ok hr h1 h2 b
    exact ⟨.cons b1 a1, fun e he => by
      rcases List.mem_cons.1 he with rfl | he
      · exact b2
      · exact a2 e he⟩
theorem insA_ok {E : Env} {r : Nat × List AV} {x : Ent} (h : RowAt E r x) : ∀ {rs : List (Nat × List AV)} {xs : List Ent}, RowsAt E rs xs → ∃ ys, (x :: xs).Perm ys ∧ RowsAt E (insA r rs) ys
  | _, _, .nil => ⟨[x], List.Perm.refl _, .cons h .nil⟩
  | _, _, .cons (r := y) (x := z) (rs := rs) (xs := xs) h1 h2 => by
    unfold insA
    split
    · exact ⟨x :: z :: xs, List.Perm.refl _, .cons h (.cons h1 h2)⟩
    · obtain ⟨ys, hp, hr⟩ := insA_ok h h2
      exact ⟨z :: ys, (List.Perm.swap z x xs).trans (hp.cons z), .cons h1 hr⟩
theorem sortA_ok {E : Env} : ∀ {rs : List (Nat × List AV)} {xs : List Ent}, RowsAt E rs xs → ∃ ys, xs.Perm ys ∧ RowsAt E (sortA rs) ys
  | _, _, .nil => ⟨[], List.Perm.refl _, .nil⟩
  | _, _, .cons h1 h2 => by
    obtain ⟨ys, hp, hr⟩ := sortA_ok h2
    obtain ⟨zs, hp2, hr2⟩ := insA_ok h1 hr
    exact ⟨zs, (hp.cons _).trans hp2, hr2⟩
theorem RowsAt.mem {E : Env} {rs : List (Nat × List AV)} {xs : List Ent} (h : RowsAt E rs xs) : ∀ x ∈ xs, ∃ r ∈ rs, RowAt E r x := by
  induction h with
  | nil => intro x hx; cases hx
  | cons h1 _ ih =>
    intro x hx
    rcases List.mem_cons.1 hx with rfl | hx
    · exact ⟨_, List.mem_cons_self, h1⟩
    · obtain ⟨r, hr, h2⟩ := ih x hx
      exact ⟨r, List.mem_cons_of_mem _ hr, h2⟩
theorem riseA_ok {E : Env} {rs : List (Nat × List AV)} {xs : List Ent} (h : RowsAt E rs xs) : riseA rs = true → xs.Pairwise fun x y => ltOf cfE x y = true := by
  induction h with
  | nil => intro _; exact .nil
  | cons h1 h2 ih =>
    intro hr
    simp only [riseA, Bool.and_eq_true] at hr
    refine List.pairwise_cons.2 ⟨fun y hy => ?_, ih hr.2⟩
    obtain ⟨r, hm, hr2⟩ := h2.mem y hy
    have := List.all_eq_true.1 hr.1 r hm
    rw [natBlt_eq] at this
    have hlt := of_decide_eq_true this
    unfold ltOf cfE
    rw [h1.2.1, hr2.2.1, if_pos (by omega)]; decide
theorem flatA_ok {E : Env} {rs : List (Nat × List AV)} {xs : List Ent} (h : RowsAt E rs xs) : concs E (flatA rs) = some (rowsOf xs) ∧ (flatA rs).all AV.atom = true := by
  induction h with
  | nil => exact ⟨rfl, rfl⟩
  | cons h1 _ ih =>
    simp only [flatA, rowsOf, List.flatMap_cons] at ih ⊢
    exact ⟨concs_append h1.1 ih.1, by rw [List.all_append, h1.2.2, ih.2]; rfl⟩
theorem find_entry {l : List MapEntry} (hn : (l.map (·.born)).Nodup) {e : MapEntry} (he : e ∈ l) : ((l.find? (·.born == e.born)).map entOf).getD default = entOf e := by
  rw [find_born e l hn he]; rfl
theorem concE_born {E : Env} : ∀ {es : List (AV × AV × Nat)} {l : List MapEntry}, concE E es = some l → l.map (·.born) = es.map (·.2.2)
  | [], l, h => by simp only [concE, Option.some.injEq] at h; subst h; rfl
  | (k, v, b) :: es, l, h => by
    obtain ⟨K, V, l', h1, h2, h3, rfl⟩ := concE_cons h
    simp [concE_born h3]
theorem bornGo_nodup {since : Nat} : ∀ {es : List (AV × AV × Nat)} {p : Nat}, bornGo since es p = true → (es.map (·.2.2)).Nodup
  | [], _, _ => List.nodup_nil
  | x :: es, p, h => by
    have h' : (@Bool.rec (fun _ => Bool) false (bornGo since es (Nat.succ x.2.2)) (Nat.ble p x.2.2)) = true := h
    cases hb : Nat.ble p x.2.2 with
    | false => rw [hb] at h'; cases h'
    | true =>
      rw [hb] at h'
      obtain ⟨h1, _, _⟩ := bornGo_spec h'
      refine List.nodup_cons.2 ⟨fun hm => ?_, bornGo_nodup h'⟩
      obtain ⟨e, he, hee⟩ := List.mem_map.1 hm
      have := (h1 e he).1
      simp only at hee
      omega
/-- Q's contract -/
def QCon (P : Program) (GL g d : Nat) (te : TypeId) : Prop := ∀ (w : World) (bs os bm clock : Nat) (es : Array MapEntry) (en : Nat → Ent) (L : List Ent), w.cell? ⟨bs, os + d, none⟩ = some (.map (some bm)) → w.heap[bm]? = some (.map es clock) → (∀ x ∈ es.toList, x.born < clock) → (es.toList.map (·.born)).Nodup →
  es.size ≤ 12 → (∀ e ∈ es.toList, KeyOK e (en e.born)) → TabOK GL w → 0 < es.size → (es.toList.map fun e => en e.born).Perm L → (L.Pairwise fun x y => ltOf cfE x y = true) → Calls P g #[.pointer (some ⟨bs, os, none⟩)] w (QPost te w L)
theorem listA_inv {h h' : AH} {es : List (AV × AV × Nat)} {clock : Nat} {v : AV} (hs : listA h es clock = some (v, h')) : es.length ≤ 12 ∧ bornB clock es = true ∧ ∃ rs, rowsA es = some rs ∧ riseA (sortA rs) = true ∧ v = .slice h.next 0 0 es.length none ∧ h' = newA h (flatA (sortA rs)) 7 := by
  unfold listA at hs
  split at hs
  case h_2 => cases hs
  rename_i rs h12 hborn hrs
  split at hs
  case h_2 => cases hs
  rename_i hrise
  cases hs
  exact ⟨by rw [Nat.ble_eq] at h12; exact h12, hborn, rs, hrs, hrise, rfl, rfl⟩
theorem listA_sound {P : Program} {σ : Val} {GL g d : Nat} {te : TypeId} (C : QCon P GL g d te) {h h' : AH} {e0 : AV × AV × Nat} {es : List (AV × AV × Nat)} {clock : Nat} {v : AV} (hs : listA h (e0 :: es) clock = some (v, h')) {E : Env} {B : Nat} {w0 w : World} (hσ : E.σ = σ) (hG : ∀ g j v, powF GL g j = some v → σ.glob g j = some v)
    (hr : Rel E B w0 h w) (hf : Fresh E h h') {bs os m : Nat} {q : Pl} (hm : h.objs.get m = some (.map (e0 :: es) clock)) (hq : E.φ m = some q) (hc : w.cell? ⟨bs, os + d, none⟩ = some (.map (some q.block))) :
    Calls P g #[.pointer (some ⟨bs, os, none⟩)] w fun e w' => ∃ V, e = .returned V ∧ ∃ E', conc E' v = some V ∧ Post E B w0 h w E' h' w' := by
  obtain ⟨h12, hborn, rs, hrs, hrise, rfl, rfl⟩ := listA_inv hs
  obtain ⟨hBq, l, hl, hb⟩ := hr.objs m _ q hm hq
  obtain ⟨k1, k2⟩ := rowsA_ok hrs hl
  obtain ⟨L, hp, hL⟩ := sortA_ok k1
  have hsorted := riseA_ok hL hrise
  have hlen : l.length = (e0 :: es).length := concE_length hl
  have hnd : (l.map (·.born)).Nodup := by rw [concE_born hl]; exact bornGo_nodup hborn
  obtain ⟨b1, _, _⟩ := bornGo_spec hborn
  have hold : ∀ x ∈ l, x.born < clock := fun x hx => by
    have : x.born ∈ (e0 :: es).map (·.2.2) := by rw [← concE_born hl]; exact List.mem_map_of_mem hx
    obtain ⟨e, he, hee⟩ := List.mem_map.1 this
    rw [← hee]; exact (b1 e he).2
  have hLlen : L.length = (e0 :: es).length := by rw [← hp.length_eq, List.length_map, hlen]
  have htab : TabOK GL w := fun g j v hv => globHere hσ hr g j v (hG g j v hv)
  refine (C w bs os q.block clock l.toArray (fun b => ((l.find? (·.born == b)).map entOf).getD default) L hc hb (by simpa using hold) (by simpa using hnd) (by simp [hlen]; simpa using h12) (fun e he => ?_) htab (by simp [hlen]) ?_ hsorted).mono fun e w' hQ => ?_
  · have he : e ∈ l := by simpa using he
    rw [find_entry hnd he]; exact k2 e he
  · have : (l.map fun e => ((l.find? (·.born == e.born)).map entOf).getD default) = l.map entOf := List.map_congr_left fun e he => find_entry hnd he
    rw [this]; exact hp
  · obtain ⟨g', cap, he, hown, hbel⟩ := hQ
    refine ⟨_, he, E.put h.next ⟨g', 0, cap, undef⟩, ?_, ?_⟩
    · obtain ⟨_, ⟨hx, _⟩ | ⟨g2, cap2, cur, hv, _, _, hnc, _⟩⟩ := hown
      · cases hx
      · cases hv
        have := conc_slice_mk (E := E.put h.next ⟨g', 0, cap, undef⟩) (Env.put_same E h.next ⟨g', 0, cap, undef⟩) (off := 0) (eo := 0) (len := (e0 :: es).length) (cap := none) (by simp only [capOf]; omega)
        rw [this, hLlen]
        simp [capOf]
    · obtain ⟨hrl, ⟨hx, _⟩ | ⟨g2, cap2, cur, hv, hbg, hg2, hnc, hcm, hcs, htake⟩⟩ := hown
      · cases hx
      · cases hv
        have hfn : E.φ h.next = none := hf h.next (Nat.le_refl _) (by simp [newA])
        refine Post.got hr hbel hfn (.cells (flatA (sortA rs)) false 7) ⟨g', 0, cap, undef⟩ hbg ?_
        obtain ⟨f1, f2⟩ := flatA_ok hL
        have hBB : B ≤ g' := Nat.le_trans (Nat.le_trans hr.base hr.below.size) hbg
        refine ⟨f2, rowsOf L, concs_mono (Env.le_put _ hfn) _ _ f1, fun hx => (by cases hx), fun _ => ⟨hBB, cur, te, (0, 0), hg2, fun o _ hx => by omega, fun j v hv => ?_, ?_, fun _ => ⟨?_, ?_⟩⟩⟩
        · rw [← htake, List.getElem?_take] at hv
          split at hv
          · simpa using hv
          · cases hv
        · have := Nat.mul_le_mul_right 7 hnc
          simp only [rowsOf_len]; omega
        · rw [rowsOf_len]; exact Nat.mul_le_mul_right 7 hnc
        · simp only [Nat.zero_add]; omega
theorem q_sumOK {P : Program} {σ : Val} {GL g d : Nat} {te : TypeId} {fn : Func} {c : Code} (hP : P.funcs[g]? = some fn) (hname : (fn.name == "runtime.NumGoroutine") = false) (hb : fn.body = some c) (C : QCon P GL g d te) (hG : ∀ g j v, powF GL g j = some v → σ.glob g j = some v) {fb : Sum} (hfb : SumOK P σ g fb) : SumOK P σ g (qSum d fb) := by
  refine ⟨fun xa h v h' hs => ?_, fun xa h v h' hs => ?_⟩
  · unfold qSum at hs
    split at hs
    case h_2 => cases hs
    rename_i i off
    split at hs
    case h_2 => cases hs
    rename_i cs ro es0 hi
    split at hs
    case h_2 => cases hs
    rename_i m hnth
    split at hs
    · exact hfb.1 _ _ _ _ hs
    · rename_i e0 es clock hm
      have hinv := listA_inv hs
      refine ⟨by obtain ⟨_, _, rs, _, _, _, rfl⟩ := hinv; simp [newA], fun E B w0 w A hσ hA hrel hfr => .inl ⟨enter_ok hP hname hb _ _, ?_⟩⟩
      obtain ⟨X, A1, hX, hA1, rfl⟩ := concs_cons hA
      have hA1' : A1 = [] := (Option.some.inj hA1).symm
      subst hA1'
      obtain ⟨p, hp, rfl⟩ := conc_ptr hX
      obtain ⟨_, vs, hvs, hc⟩ := cells_at hrel hi hp
      obtain ⟨V, hV, hcV⟩ := concs_get hvs (off + d) (.map m) (by rw [← nth_eq]; exact hnth)
      obtain ⟨q, hq, rfl⟩ := conc_map hcV
      have hcell := hc _ _ hV
      exact listA_sound C hs hσ hG hrel hfr hm hq (by rw [Nat.add_assoc]; exact hcell)
    · cases hs
  · unfold qSum at hs
    split at hs
    case h_2 => cases hs
    split at hs
    case h_2 => cases hs
    split at hs
    case h_2 => cases hs
    split at hs
    · exact hfb.2 _ _ _ _ hs
    · obtain ⟨_, _, rs, _, _, _, rfl⟩ := listA_inv hs
      exact HExt.newA _ _ _
    · cases hs

/-! ## laws whose summaries lean on what stands in the memory -/
theorem leaf_concL {ad ds : List Def} {vs : List Int} {gl : Nat → Nat → Option Value} {oq : Nat → Value} {x : AV} (h : leafLt ad.length x = true) : conc (noEnv (valL ad ds vs gl oq)) x = some (avF (atL vs) x) ∧ x.atom = true := by
  cases x <;> simp only [leafLt, Bool.false_eq_true] at h
  · exact ⟨rfl, rfl⟩
  · exact ⟨rfl, rfl⟩
  · refine ⟨?_, rfl⟩
    rw [natBlt_eq] at h
    simp only [conc, noEnv, avF]; rw [valL_arg (by simpa using h)]
theorem leafs_concL {ad ds : List Def} {vs : List Int} {gl : Nat → Nat → Option Value} {oq : Nat → Value} : ∀ {cs : List AV}, cs.all (leafLt ad.length) = true → concs (noEnv (valL ad ds vs gl oq)) cs = some (cs.map (avF (atL vs))) ∧ cs.all AV.atom = true
  | [], _ => ⟨rfl, rfl⟩
  | c :: cs, h => by
    simp only [List.all_cons, Bool.and_eq_true] at h
    obtain ⟨h1, h2⟩ := leaf_concL (ds := ds) (vs := vs) (gl := gl) (oq := oq) h.1
    obtain ⟨h3, h4⟩ := leafs_concL (ds := ds) (vs := vs) (gl := gl) (oq := oq) h.2
    exact ⟨concs_mk h1 h3, by simp [h2, h4]⟩
theorem args_concL {ad ds : List Def} {vs : List Int} {gl : Nat → Nat → Option Value} {oq : Nat → Value} : ∀ {args : List AV}, args.all (argLt ad.length) = true → concs (noEnv (valL ad ds vs gl oq)) args = some (args.map (avA (atL vs)))
  | [], _ => rfl
  | x :: args, h => by
    simp only [List.all_cons, Bool.and_eq_true] at h
    refine concs_mk ?_ (args_concL h.2)
    have h1 := h.1
    cases x with
    | agg cs =>
      obtain ⟨h3, h4⟩ := leafs_concL (ds := ds) (vs := vs) (gl := gl) (oq := oq) h1
      exact conc_agg h4 h3
    | bool b => exact (leaf_concL (x := .bool b) h1).1
    | int k n => exact (leaf_concL (x := .int k n) h1).1
    | sym k s => exact (leaf_concL (x := .sym k s) h1).1
    | _ => simp [argLt, leafLt] at h1
theorem law_macG {P : Program} {bs : List Nat} {pl : Tr (Tr (List (List Nat)))} {ms : Tr (Tr (List Nat))} {sums : Tr Sum} (a : Asked P pl ms) {w : World} (hs : ∀ {σ : Val}, σ.glob = glOf w → ∀ g s, sums.get g = some s → SumOK P σ g s) {ad ds : List Def} (hw : wfDs ad ad.length ds = true) (hb : bytesB (tabD ad ds) bs = true) {args : List AV} (hargs : args.all (argLt ad.length) = true)
    {vs : List Int} (ha : argsL ad vs) {q : Kn} (hq : KnOK P (valL ad ds vs (glOf w) fun _ => undef) bs q) {n g : Nat} {o : Orc} (hr : (macF (cxW P pl .nil sums) (tabD ad ds) ⟨[], [], tabB bs, [], [], []⟩ [] n g).run o q args = true) :
    Calls P g ⟨args.map (avA (atL vs))⟩ w fun e w' => e = .returned (.bool true) ∧ RowKit.Below w.heap.size w w' :=
  law_of_mac (V := fun σ => σ = valL ad ds vs (glOf w) fun _ => undef) (fun σ hσ => by subst hσ; exact fit_of a (hs rfl) (valL_ok hw ha) hb) (fun _ _ => KnOK.nil) (fun _ h => by cases h) hr rfl hq (args_concL hargs) w (fun g j v h => glOf_ok h)
theorem law_lotG {P : Program} {bs : List Nat} {pl : Tr (Tr (List (List Nat)))} {ms : Tr (Tr (List Nat))} {sums : Tr Sum} (a : Asked P pl ms) {w : World} (hs : ∀ {σ : Val}, σ.glob = glOf w → ∀ g s, sums.get g = some s → SumOK P σ g s) {ad ds : List Def} (hw : wfDs ad ad.length ds = true) (hb : bytesB (tabD ad ds) bs = true) {args : List AV} (hargs : args.all (argLt ad.length) = true)
    {vs : List Int} (ha : argsL ad vs) {n g : Nat} {o : Orc} {l : List (Nat × Int)} (hr : lotB (cxW P pl .nil sums) (tabD ad ds) bs n g args l o = true) (hl : ∀ p ∈ l, (valD ad ds vs).num p.1 = p.2) :
    Calls P g ⟨args.map (avA (atL vs))⟩ w fun e w' => e = .returned (.bool true) ∧ RowKit.Below w.heap.size w w' := by
  obtain ⟨q, h1, h2⟩ := onK_inv hr
  exact law_macG a hs hw hb hargs ha (addVals_ok (valL_ok hw ha) h1 hl KnOK.nil) h2
theorem glOf_pow {gl : Nat} {w : World} (hT : ∀ q, q < 20 → w.cell? ⟨gl, q, none⟩ = some (.int .u64 ((10 ^ q : Nat) : Int))) {σ : Val} (hσ : σ.glob = glOf w) : ∀ g j v, powF gl g j = some v → σ.glob g j = some v := fun g j v h => by
  rw [hσ]; exact (powF_in hT g j v h).2
/-- a run without what is known, ad a summary -/
noncomputable def runSum (P : Program) (pl : Tr (Tr (List (List Nat)))) (sums : Tr Sum) (g : Nat) : Sum := callN ((cxW P pl .nil sums).put ⟨[], [], .nil, [], [], []⟩) ⟨[], [], .nil, [], [], []⟩ 61 g
theorem runSum_ok {P : Program} {σ : Val} {pl : Tr (Tr (List (List Nat)))} {ms : Tr (Tr (List Nat))} {sums : Tr Sum} (a : Asked P pl ms) (hs : ∀ g s, sums.get g = some s → SumOK P σ g s) (g : Nat) : SumOK P σ g (runSum P pl sums g) :=
  callN_ok rfl (progOK_W a all_nil all_nil bytes_nil all_nil all_nil all_nil globs_nil hs) 61 g
end Go.Abs

set_option linter.unusedVariables false
set_option linter.unusedSimpArgs false
namespace Go.Abs
open Go.RowKit Go Go.Proofs Go.Shelf Go.Lib Go.Sort
open Go.ChangeMaps (setBlock)
section
variable {F : Fence} {nF : Nat} {P : Program} (w : World) {ops : Array Oper} {rest : List Oper} {o : Oper} {a : Act} {Q : Exit → Act → World → Prop}
/-- a step over a map, within a fence -/
theorem wpListIn_next_at (hg : o.guard = none) (it : Operand) (hop : o.op = Op.next it false) (r bm since c0 : Nat) (seen : Array Nat) (es : Array MapEntry) (clock : Nat)
    (hit : a.eval it = .pointer (some ⟨r, 0, none⟩)) (hr : w.heap[r]? = some (.mapIter (some bm) since seen c0)) (hb : w.heap[bm]? = some (.map es clock)) (hold : ∀ x ∈ es.toList, x.born < since) (hsc : since ≤ c0) (hn : (es.toList.map (·.born)).Nodup) (hne : r ≠ bm)
    (hDone : (leftOf es seen).size = 0 → wpListIn F nF P ops Q rest (a.put o.dst (.tuple #[.bool false])) w)
    (hMore : ∀ e ∈ (leftOf es seen).toList, ∀ w2 : World, w2.heap[r]? = some (.mapIter (some bm) since (seen.push e.born) clock) → w.grownBy w2 (some r) → w2.heap.size = w.heap.size → (Instr.entry (.pointer (some ⟨r, 0, none⟩))).run P w2 = .ok (.tuple #[e.key, e.val]) w2 → wpListIn F nF P ops Q rest (a.put o.dst (.tuple #[.bool true, e.key, e.val])) w2) :
    wpListIn F nF P ops Q (o :: rest) a w := by
  refine wpListIn_plain hg fun K' hK' => ?_
  unfold Oper.wpIn
  refine ⟨by simp [Oper.about, hop], ?_⟩
  rw [Oper.semAt_plain F _ _ (by rw [hop]; intro c hc'; cases hc')]
  have hrl : r < w.heap.size := (Array.getElem?_eq_some_iff.1 hr).1
  rcases run_next_at (P := P) w o.type r bm since c0 seen es clock hr hb hold hsc with ⟨h0, hrun⟩ | ⟨e, he, w1, hw1, hrun⟩
  · simp [execOp, hop, hit, hrun, Result.andThen]
    exact hK' _ _ (hDone h0)
  · simp [execOp, hop, hit, hrun, Result.andThen]
    have hh : w1.heap = w.heap := by rcases hw1 with rfl | rfl <;> rfl
    have h1 : (setBlock w1 r (.mapIter (some bm) since (seen.push e.born) clock)).heap[r]? = some (.mapIter (some bm) since (seen.push e.born) clock) := by
      simp [setBlock, hh, hrl]
    have h2 : ∀ k, k ≠ r → (setBlock w1 r (.mapIter (some bm) since (seen.push e.born) clock)).heap[k]? = w.heap[k]? := fun k hk => by
      simp only [setBlock, hh]
      exact Array.getElem?_setIfInBounds_ne (Ne.symm hk)
    refine hK' _ _ (hMore e he _ h1 ⟨?_, ?_, ?_, ?_, fun k _ hk => h2 k (fun e => hk (by rw [e]))⟩ ?_ ?_)
    · rcases hw1 with rfl | rfl <;> rfl
    · rcases hw1 with rfl | rfl <;> rfl
    · rcases hw1 with rfl | rfl <;> rfl
    · simp [setBlock, hh]
    · simp [setBlock, hh]
    · exact run_entry_at _ r bm since seen es clock e h1 (by rw [h2 bm (Ne.symm hne)]; exact hb) (mem_left he).1 hn
end
/-- the values' walk, at the head -/
structure VHead (r bm clock : Nat) (es : Array MapEntry) (en : Nat → Ent) (J : List Ent → World → Prop) (X : List Nat) (c0 : Nat) (wr : World) : Prop where
  it : wr.heap[r]? = some (.mapIter (some bm) clock X.toArray c0)
  le : clock ≤ c0
  mp : wr.heap[bm]? = some (.map es clock)
  sub : ∀ b ∈ X, b ∈ es.toList.map (·.born)
  nd : X.Nodup
  kept : J (X.map en) wr
end Go.Abs
namespace Go.Abs
open Go.RowKit Go Go.Proofs Go.Shelf Go.Lib Go.Sort
/-- A slice's own row abides an iterator's step. -/
theorem own_abides {W W' : World} {row : Option Nat} {base : Nat} {e : TypeId} {size : Nat} {v : Value} {k : Nat} {xs : List Value} (h : W.ownsRow base e size v k xs) (hg : W.grownBy W' row)
    (hrow : ∀ r, row = some r → ∃ o : Obj, W.heap[r]? = some o ∧ o.isWalk = true) : W'.ownsRow base e size v k xs := by
  refine h.kept hg ?_
  rcases h.2 with ⟨rfl, _⟩ | ⟨g, cap, cur, rfl, _, hgb, _⟩
  · exact .inl rfl
  · refine .inr fun e' => ?_
    obtain ⟨o, ho, hw⟩ := hrow g (by simpa [Value.ownBlock] using e'.symm)
    rw [hgb] at ho; cases ho; cases hw
theorem grown_putObj (W : World) (l : Nat) (o : Obj) : W.grownBy (W.putObj l o) (some l) :=
  ⟨rfl, rfl, rfl, by simp, fun k _ hk => World.putObj_heap_other (fun e => hk (by rw [e]))⟩
theorem grown_setCell0 (W : World) (b : Nat) (v : Value) : W.grownBy (W.setCell ⟨b, 0, none⟩ v) (some b) :=
  ⟨rfl, rfl, rfl, (KeepsWalks.setCell W _ v).size, fun k _ hk => Below.heap_setCell _ _ _ k (fun e => hk (by rw [e]))⟩
theorem own_ne {W : World} {base : Nat} {e : TypeId} {size : Nat} {v : Value} {k : Nat} {xs : List Value} (h : W.ownsRow base e size v k xs) {j : Nat} {o : Obj} (hj : W.heap[j]? = some o) (hno : ∀ cur, o ≠ .cells cur e (0, 0)) :
    v.ownBlock = none ∨ v.ownBlock ≠ some j := by
  rcases h.2 with ⟨rfl, _⟩ | ⟨g, cap, cur, rfl, _, hgb, _⟩
  · exact .inl rfl
  · refine .inr fun e' => ?_
    have : g = j := by simpa [Value.ownBlock] using e'
    subst this; rw [hgb] at hj; cases hj; exact hno cur rfl
theorem cell_of_box' {W : World} {B : Nat} {v : Value} {t : TypeId} (h : W.heap[B]? = some (.cells #[v] t (0, 0))) : W.cell? ⟨B, 0, none⟩ = some v ∧ W.frozen? ⟨B, 0, none⟩ = false := by
  constructor <;> simp [World.cell?, World.frozen?, h]
theorem heap_setCell_box' {W : World} {B : Nat} {v : Value} {t : TypeId} (v' : Value) (h : W.heap[B]? = some (.cells #[v] t (0, 0))) : (W.setCell ⟨B, 0, none⟩ v').heap[B]? = some (.cells #[v'] t (0, 0)) := by
  obtain ⟨hlt, hk⟩ := Array.getElem?_eq_some_iff.1 h
  show (W.heap.modify B _)[B]? = _
  rw [Array.getElem?_eq_getElem (by rw [Array.size_modify]; exact hlt), Array.getElem_modify_self, hk]
  rfl
theorem own_not_walk {W : World} {base : Nat} {e : TypeId} {size : Nat} {v : Value} {k : Nat} {xs : List Value} (h : W.ownsRow base e size v k xs) : ∀ (j : Nat) (o : Obj), v.ownBlock = some j → W.heap[j]? = some o → o.isWalk = false := by
  intro j o hj ho
  rcases h.2 with ⟨rfl, _⟩ | ⟨g, cap, cur, rfl, _, hgb, _⟩
  · simp [Value.ownBlock] at hj
  · have : g = j := by simpa [Value.ownBlock] using hj
    subst this; rw [hgb] at ho; cases ho; rfl
macro "gi_round_op_e" : tactic => `(tactic| (rw [Oper.semAt_eq _ _ _ (fun c h => by cases h)]; go_simp; try go_bits))
end Go.Abs
namespace Go.Abs
open Go.RowKit Go Go.Proofs Go.Shelf Go.Lib Go.Sort
/-- P's contract -/
def PCon (P : Program) (GL g d : Nat) (te : TypeId) : Prop := ∀ (w : World) (bs os bm clock : Nat) (es : Array MapEntry) (en : Nat → Ent) (L : List Ent), w.cell? ⟨bs, os + d, none⟩ = some (.map (some bm)) → w.heap[bm]? = some (.map es clock) → (∀ x ∈ es.toList, x.born < clock) → (es.toList.map (·.born)).Nodup →
  es.size ≤ 12 → (∀ e ∈ es.toList, e.val = .agg (en e.born).row.toArray) → TabOK GL w → 0 < es.size → (es.toList.map fun e => en e.born).Perm L → (L.Pairwise fun x y => ltOf cfE x y = true) → Calls P g #[.pointer (some ⟨bs, os, none⟩)] w (QPost te w L)
end Go.Abs
namespace Go.Abs
open Go.RowKit Go Go.Proofs Go.Shelf Go.Lib Go.Sort
/-! ## P as a summary -/
/-- an entry of a map whose value is the entry -/
def entV (v : AV) : Option (Nat × List AV) := match v with
  | .agg [.int .u32 (.ofNat n), w, c, t, k, y, x] => match kindB .u32 w, kindB .u8 c, kindB .u32 t, kindB .u8 k, kindB .u8 y, kindB .u16 x with
    | true, true, true, true, true, true => some (n, [.int .u32 (.ofNat n), w, c, t, k, y, x])
    | _, _, _, _, _, _ => none
  | _ => none
def rowsV : List (AV × AV × Nat) → Option (List (Nat × List AV))
  | [] => some []
  | (_, v, _) :: es => match entV v, rowsV es with
    | some r, some rs => some (r :: rs)
    | _, _ => none
noncomputable def listV (h : AH) (es : List (AV × AV × Nat)) (clock : Nat) : Option (AV × AH) := match Nat.ble es.length 12, bornB clock es, rowsV es with
  | true, true, some rs => match riseA (sortA rs) with
    | true => some (.slice h.next 0 0 es.length none, newA h (flatA (sortA rs)) 7)
    | false => none
  | _, _, _ => none
noncomputable def pSum (d : Nat) (fb : Sum) : Sum := fun xa h => match xa with
  | [.ptr i off] => match h.objs.get i with
    | some (.cells cs _ _) => match nth cs (off + d) with
      | some (.map m) => match h.objs.get m with
        | some (.map [] _) => fb xa h
        | some (.map (e :: es) clock) => listV h (e :: es) clock
        | _ => none
      | _ => none
    | _ => none
  | _ => none
/-- the entry that a map's value is -/
def entP (e : MapEntry) : Ent := match e.val with
  | .agg ⟨[.int _ s, .int _ n, .int _ c, .int _ t, .int _ k, .int _ y, .int _ v]⟩ => ⟨s, n, c, t, k, y, v⟩
  | _ => default
theorem entV_ok {E : Env} {v : AV} {r : Nat × List AV} (h : entV v = some r) {K V : Value} (hv : conc E v = some V) (b : Nat) : RowAt E r (entP ⟨K, V, b⟩) ∧ V = .agg (entP ⟨K, V, b⟩).row.toArray := by
  unfold entV at h
  split at h
  case h_2 => cases h
  rename_i n w c t kk y x
  split at h
  case h_2 => cases h
  rename_i g1 g2 g3 g4 g5 g6
  cases h
  obtain ⟨ha, vs, hvs, rfl⟩ := conc_agg_inv hv
  obtain ⟨v1, r1, e1, k1, rfl⟩ := concs_cons hvs
  obtain ⟨v2, r2, e2, k2, rfl⟩ := concs_cons k1
  obtain ⟨v3, r3, e3, k3, rfl⟩ := concs_cons k2
  obtain ⟨v4, r4, e4, k4, rfl⟩ := concs_cons k3
  obtain ⟨v5, r5, e5, k5, rfl⟩ := concs_cons k4
  obtain ⟨v6, r6, e6, k6, rfl⟩ := concs_cons k5
  obtain ⟨v7, r7, e7, k7, rfl⟩ := concs_cons k6
  have e8 : r7 = [] := (Option.some.inj k7).symm
  subst e8
  have e1' : v1 = .int .u32 (.ofNat n) := (Option.some.inj e1).symm
  subst e1'
  obtain ⟨n2, rfl, a2⟩ := kindB_conc g1 e2
  obtain ⟨n3, rfl, a3⟩ := kindB_conc g2 e3
  obtain ⟨n4, rfl, a4⟩ := kindB_conc g3 e4
  obtain ⟨n5, rfl, a5⟩ := kindB_conc g4 e5
  obtain ⟨n6, rfl, a6⟩ := kindB_conc g5 e6
  obtain ⟨n7, rfl, a7⟩ := kindB_conc g6 e7
  refine ⟨⟨concs_mk e1 (concs_mk e2 (concs_mk e3 (concs_mk e4 (concs_mk e5 (concs_mk e6 (concs_mk e7 rfl)))))), rfl, ?_⟩, rfl⟩
  simp only [List.all_cons, a2, a3, a4, a5, a6, a7, List.all_nil, Bool.and_true]; rfl
theorem rowsV_ok {E : Env} : ∀ {es : List (AV × AV × Nat)} {rs : List (Nat × List AV)} {l : List MapEntry}, rowsV es = some rs → concE E es = some l → RowsAt E rs (l.map entP) ∧ ∀ e ∈ l, e.val = .agg (entP e).row.toArray
  | [], rs, l, h, hl => by
    simp only [rowsV, Option.some.injEq] at h; subst h
    simp only [concE, Option.some.injEq] at hl; subst hl
    exact ⟨.nil, fun _ h => by cases h⟩
  | (k, v, b) :: es, rs, l, h, hl => by
    obtain ⟨K, V, l', h1, h2, h3, rfl⟩ := concE_cons hl
    simp only [rowsV] at h
    split at h
    case h_2 => cases h
    rename_i r rs' hr hrs
    cases h
    obtain ⟨a1, a2⟩ := rowsV_ok hrs h3
    obtain ⟨b1, b2⟩ := entV_ok (K := K) hr h2 b
    exact ⟨.cons b1 a1, fun e he => by
      rcases List.mem_cons.1 he with rfl | he
      · exact b2
      · exact a2 e he⟩
theorem find_entryP {l : List MapEntry} (hn : (l.map (·.born)).Nodup) {e : MapEntry} (he : e ∈ l) : ((l.find? (·.born == e.born)).map entP).getD default = entP e := by
  rw [find_born e l hn he]; rfl
theorem listV_inv {h h' : AH} {es : List (AV × AV × Nat)} {clock : Nat} {v : AV} (hs : listV h es clock = some (v, h')) : es.length ≤ 12 ∧ bornB clock es = true ∧ ∃ rs, rowsV es = some rs ∧ riseA (sortA rs) = true ∧ v = .slice h.next 0 0 es.length none ∧ h' = newA h (flatA (sortA rs)) 7 := by
  unfold listV at hs
  split at hs
  case h_2 => cases hs
  rename_i rs h12 hborn hrs
  split at hs
  case h_2 => cases hs
  rename_i hrise
  cases hs
  exact ⟨by rw [Nat.ble_eq] at h12; exact h12, hborn, rs, hrs, hrise, rfl, rfl⟩
theorem listV_sound {P : Program} {σ : Val} {GL g d : Nat} {te : TypeId} (C : PCon P GL g d te) {h h' : AH} {e0 : AV × AV × Nat} {es : List (AV × AV × Nat)} {clock : Nat} {v : AV} (hs : listV h (e0 :: es) clock = some (v, h')) {E : Env} {B : Nat} {w0 w : World} (hσ : E.σ = σ) (hG : ∀ g j v, powF GL g j = some v → σ.glob g j = some v)
    (hr : Rel E B w0 h w) (hf : Fresh E h h') {bs os m : Nat} {q : Pl} (hm : h.objs.get m = some (.map (e0 :: es) clock)) (hq : E.φ m = some q) (hc : w.cell? ⟨bs, os + d, none⟩ = some (.map (some q.block))) :
    Calls P g #[.pointer (some ⟨bs, os, none⟩)] w fun e w' => ∃ V, e = .returned V ∧ ∃ E', conc E' v = some V ∧ Post E B w0 h w E' h' w' := by
  obtain ⟨h12, hborn, rs, hrs, hrise, rfl, rfl⟩ := listV_inv hs
  obtain ⟨hBq, l, hl, hb⟩ := hr.objs m _ q hm hq
  obtain ⟨k1, k2⟩ := rowsV_ok hrs hl
  obtain ⟨L, hp, hL⟩ := sortA_ok k1
  have hsorted := riseA_ok hL hrise
  have hlen : l.length = (e0 :: es).length := concE_length hl
  have hnd : (l.map (·.born)).Nodup := by rw [concE_born hl]; exact bornGo_nodup hborn
  obtain ⟨b1, _, _⟩ := bornGo_spec hborn
  have hold : ∀ x ∈ l, x.born < clock := fun x hx => by
    have : x.born ∈ (e0 :: es).map (·.2.2) := by rw [← concE_born hl]; exact List.mem_map_of_mem hx
    obtain ⟨e, he, hee⟩ := List.mem_map.1 this
    rw [← hee]; exact (b1 e he).2
  have hLlen : L.length = (e0 :: es).length := by rw [← hp.length_eq, List.length_map, hlen]
  have htab : TabOK GL w := fun g j v hv => globHere hσ hr g j v (hG g j v hv)
  refine (C w bs os q.block clock l.toArray (fun b => ((l.find? (·.born == b)).map entP).getD default) L hc hb (by simpa using hold) (by simpa using hnd) (by simp [hlen]; simpa using h12) (fun e he => ?_) htab (by simp [hlen]) ?_ hsorted).mono fun e w' hQ => ?_
  · have he : e ∈ l := by simpa using he
    rw [find_entryP hnd he]; exact k2 e he
  · have : (l.map fun e => ((l.find? (·.born == e.born)).map entP).getD default) = l.map entP := List.map_congr_left fun e he => find_entryP hnd he
    rw [this]; exact hp
  · obtain ⟨g', cap, he, hown, hbel⟩ := hQ
    refine ⟨_, he, E.put h.next ⟨g', 0, cap, undef⟩, ?_, ?_⟩
    · obtain ⟨_, ⟨hx, _⟩ | ⟨g2, cap2, cur, hv, _, _, hnc, _⟩⟩ := hown
      · cases hx
      · cases hv
        have := conc_slice_mk (E := E.put h.next ⟨g', 0, cap, undef⟩) (Env.put_same E h.next ⟨g', 0, cap, undef⟩) (off := 0) (eo := 0) (len := (e0 :: es).length) (cap := none) (by simp only [capOf]; omega)
        rw [this, hLlen]
        simp [capOf]
    · obtain ⟨hrl, ⟨hx, _⟩ | ⟨g2, cap2, cur, hv, hbg, hg2, hnc, hcm, hcs, htake⟩⟩ := hown
      · cases hx
      · cases hv
        have hfn : E.φ h.next = none := hf h.next (Nat.le_refl _) (by simp [newA])
        refine Post.got hr hbel hfn (.cells (flatA (sortA rs)) false 7) ⟨g', 0, cap, undef⟩ hbg ?_
        obtain ⟨f1, f2⟩ := flatA_ok hL
        have hBB : B ≤ g' := Nat.le_trans (Nat.le_trans hr.base hr.below.size) hbg
        refine ⟨f2, rowsOf L, concs_mono (Env.le_put _ hfn) _ _ f1, fun hx => (by cases hx), fun _ => ⟨hBB, cur, te, (0, 0), hg2, fun o _ hx => by omega, fun j v hv => ?_, ?_, fun _ => ⟨?_, ?_⟩⟩⟩
        · rw [← htake, List.getElem?_take] at hv
          split at hv
          · simpa using hv
          · cases hv
        · have := Nat.mul_le_mul_right 7 hnc
          simp only [rowsOf_len]; omega
        · rw [rowsOf_len]; exact Nat.mul_le_mul_right 7 hnc
        · simp only [Nat.zero_add]; omega
theorem p_sumOK {P : Program} {σ : Val} {GL g d : Nat} {te : TypeId} {fn : Func} {c : Code} (hP : P.funcs[g]? = some fn) (hname : (fn.name == "runtime.NumGoroutine") = false) (hb : fn.body = some c) (C : PCon P GL g d te) (hG : ∀ g j v, powF GL g j = some v → σ.glob g j = some v) {fb : Sum} (hfb : SumOK P σ g fb) : SumOK P σ g (pSum d fb) := by
  refine ⟨fun xa h v h' hs => ?_, fun xa h v h' hs => ?_⟩
  · unfold pSum at hs
    split at hs
    case h_2 => cases hs
    rename_i i off
    split at hs
    case h_2 => cases hs
    rename_i cs ro es0 hi
    split at hs
    case h_2 => cases hs
    rename_i m hnth
    split at hs
    · exact hfb.1 _ _ _ _ hs
    · rename_i e0 es clock hm
      have hinv := listV_inv hs
      refine ⟨by obtain ⟨_, _, rs, _, _, _, rfl⟩ := hinv; simp [newA], fun E B w0 w A hσ hA hrel hfr => .inl ⟨enter_ok hP hname hb _ _, ?_⟩⟩
      obtain ⟨X, A1, hX, hA1, rfl⟩ := concs_cons hA
      have hA1' : A1 = [] := (Option.some.inj hA1).symm
      subst hA1'
      obtain ⟨p, hp, rfl⟩ := conc_ptr hX
      obtain ⟨_, vs, hvs, hc⟩ := cells_at hrel hi hp
      obtain ⟨V, hV, hcV⟩ := concs_get hvs (off + d) (.map m) (by rw [← nth_eq]; exact hnth)
      obtain ⟨q, hq, rfl⟩ := conc_map hcV
      have hcell := hc _ _ hV
      exact listV_sound C hs hσ hG hrel hfr hm hq (by rw [Nat.add_assoc]; exact hcell)
    · cases hs
  · unfold pSum at hs
    split at hs
    case h_2 => cases hs
    split at hs
    case h_2 => cases hs
    split at hs
    case h_2 => cases hs
    split at hs
    · exact hfb.2 _ _ _ _ hs
    · obtain ⟨_, _, rs, _, _, _, rfl⟩ := listV_inv hs
      exact HExt.newA _ _ _
    · cases hs

end Go.Abs
