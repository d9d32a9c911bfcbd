/- The interpreter in the form that the kernel runs; it gives what the plain form gives. No premise of its own. -/
import Derived.Test.YtamlnmdmfcblnaaGreatDoorAbs4
set_option linter.unusedVariables false
set_option linter.unusedSimpArgs false
namespace Go.Abs
noncomputable section

/-! ## the same, made for the kernel: what is known of the text is worked out once -/
structure PF (α : Type) where
  run : O8 α → α
def p8 (α : Type) (d : Nat) : PF α := match d with
  | 0 => ⟨fun t => t.a0⟩ | 1 => ⟨fun t => t.a1⟩ | 2 => ⟨fun t => t.a2⟩ | 3 => ⟨fun t => t.a3⟩ | 4 => ⟨fun t => t.a4⟩ | 5 => ⟨fun t => t.a5⟩ | 6 => ⟨fun t => t.a6⟩ | _ => ⟨fun t => t.a7⟩
structure UF (α : Type) where
  run : (α → α) → O8 α → O8 α
def u8 (α : Type) (d : Nat) : UF α := match d with
  | 0 => ⟨fun f t => (O8.rec (motive := fun _ => O8 α) (fun b0 b1 b2 b3 b4 b5 b6 b7 => O8.mk (f b0) b1 b2 b3 b4 b5 b6 b7) (t))⟩
  | 1 => ⟨fun f t => (O8.rec (motive := fun _ => O8 α) (fun b0 b1 b2 b3 b4 b5 b6 b7 => O8.mk b0 (f b1) b2 b3 b4 b5 b6 b7) (t))⟩
  | 2 => ⟨fun f t => (O8.rec (motive := fun _ => O8 α) (fun b0 b1 b2 b3 b4 b5 b6 b7 => O8.mk b0 b1 (f b2) b3 b4 b5 b6 b7) (t))⟩
  | 3 => ⟨fun f t => (O8.rec (motive := fun _ => O8 α) (fun b0 b1 b2 b3 b4 b5 b6 b7 => O8.mk b0 b1 b2 (f b3) b4 b5 b6 b7) (t))⟩
  | 4 => ⟨fun f t => (O8.rec (motive := fun _ => O8 α) (fun b0 b1 b2 b3 b4 b5 b6 b7 => O8.mk b0 b1 b2 b3 (f b4) b5 b6 b7) (t))⟩
  | 5 => ⟨fun f t => (O8.rec (motive := fun _ => O8 α) (fun b0 b1 b2 b3 b4 b5 b6 b7 => O8.mk b0 b1 b2 b3 b4 (f b5) b6 b7) (t))⟩
  | 6 => ⟨fun f t => (O8.rec (motive := fun _ => O8 α) (fun b0 b1 b2 b3 b4 b5 b6 b7 => O8.mk b0 b1 b2 b3 b4 b5 (f b6) b7) (t))⟩
  | _ => ⟨fun f t => (O8.rec (motive := fun _ => O8 α) (fun b0 b1 b2 b3 b4 b5 b6 b7 => O8.mk b0 b1 b2 b3 b4 b5 b6 (f b7)) (t))⟩
structure VF where
  run : Tm → AV
structure SF where
  run : AV → Tm → Tm
def getF (t : Nat) : VF := match Nat.ble t 511 with
  | true => ⟨fun tm => (p8 AV (Nat.mod t 8)).run ((p8 (O8 AV) (Nat.mod (Nat.div t 8) 8)).run ((p8 (O8 (O8 AV)) (Nat.div t 64)).run tm.lo))⟩
  | false => ⟨fun tm => tm.at t⟩
def setF (t : Nat) : SF := match Nat.ble t 511 with
  | true => ⟨fun v tm => Tm.mk ((u8 (O8 (O8 AV)) (Nat.div t 64)).run ((u8 (O8 AV) (Nat.mod (Nat.div t 8) 8)).run ((u8 AV (Nat.mod t 8)).run (fun _ => v))) tm.lo) tm.hi⟩
  | false => ⟨fun v tm => tm.set t v⟩
def putF (d : Option Nat) : SF := match d with
  | none => ⟨fun _ tm => tm⟩
  | some t => setF t
def opF : Operand → Option VF
  | .tmp t => some (getF t)
  | .const v => match absV v with
    | some x => some ⟨fun _ => x⟩
    | none => none
  | .func f => some ⟨fun _ => .fn f [] []⟩
  | .global g => some ⟨fun _ => .gptr g 0⟩
def opFs : List Operand → Option (List VF)
  | [] => some []
  | x :: xs => match opF x, opFs xs with
    | some v, some vs => some (v :: vs)
    | _, _ => none
def runVs (l : List VF) (tm : Tm) : List AV := List.rec (motive := fun _ => List AV) [] (fun v _ ih => v.run tm :: ih) l

/-! ### numbers -/
def kTag (k : IntKind) : Nat := (IntKind.rec (motive := fun _ => Nat) (0) (1) (2) (3) (4) (5) (6) (7) (k))
def wrapNat (k : IntKind) (s : Nat) : Int :=
  (IntKind.rec (motive := fun _ => Int) (IntKind.i8.wrap (Int.ofNat s)) (IntKind.i16.wrap (Int.ofNat s)) (IntKind.i32.wrap (Int.ofNat s)) ((Bool.rec (motive := fun _ => Int) (IntKind.i64.wrap (Int.ofNat s)) (Int.ofNat s) (Nat.ble s 9223372036854775807))) (Int.ofNat (Nat.mod s 256)) (Int.ofNat (Nat.mod s 65536)) (Int.ofNat (Nat.mod s 4294967296)) (Int.ofNat (Nat.mod s 18446744073709551616)) (k))
def wrapF (k : IntKind) (n : Int) : Int := (Int.rec (motive := fun _ => Int) (fun m => wrapNat k m) (fun m => k.wrap (Int.negSucc m)) (n))
def addF (k : IntKind) (a b : Int) : Int := (Int.rec (motive := fun _ => Int) (fun m => (Int.rec (motive := fun _ => Int) (fun n => wrapNat k (Nat.add m n)) (fun n => k.wrap (Int.ofNat m + Int.negSucc n)) (b))) (fun m => k.wrap (Int.negSucc m + b)) (a))
def subNat (k : IntKind) (m n : Nat) : Int := (Bool.rec (motive := fun _ => Int) (k.wrap (Int.ofNat m - Int.ofNat n)) (wrapNat k (Nat.sub m n)) (Nat.ble n m))
def subF (k : IntKind) (a b : Int) : Int := (Int.rec (motive := fun _ => Int) (fun m => (Int.rec (motive := fun _ => Int) (fun n => subNat k m n) (fun n => k.wrap (Int.ofNat m - Int.negSucc n)) (b))) (fun m => k.wrap (Int.negSucc m - b)) (a))
def mulF (k : IntKind) (a b : Int) : Int := (Int.rec (motive := fun _ => Int) (fun m => (Int.rec (motive := fun _ => Int) (fun n => wrapNat k (Nat.mul m n)) (fun n => k.wrap (Int.ofNat m * Int.negSucc n)) (b))) (fun m => k.wrap (Int.negSucc m * b)) (a))
def eqIF (a b : Int) : Bool := (Int.rec (motive := fun _ => Bool) (fun m => (Int.rec (motive := fun _ => Bool) (fun n => Nat.beq m n) (fun n => false) (b))) (fun m => (Int.rec (motive := fun _ => Bool) (fun n => false) (fun n => Nat.beq m n) (b))) (a))
def ltIF (a b : Int) : Bool := (Int.rec (motive := fun _ => Bool) (fun m => (Int.rec (motive := fun _ => Bool) (fun n => Nat.ble (Nat.succ m) n) (fun n => false) (b))) (fun m => (Int.rec (motive := fun _ => Bool) (fun n => true) (fun n => Nat.ble (Nat.succ n) m) (b))) (a))
def notF (b : Bool) : Bool := (Bool.rec (motive := fun _ => Bool) (true) (false) (b))

/-! ### steps -/
abbrev K := Tm → AH → AOut
/-- what is known of symbols -/
structure Kn where
  facts : List Fact
  convs : List FConv
  bytes : Tr Bool
  lens : List FLen := []
  reads : List FRead := []
  calls : List FCall := []
def Cx.put (cx : Cx) (q : Kn) : Cx := { tt := cx.tt, funcs := cx.funcs, facts := q.facts, convs := q.convs, sums := cx.sums, globs := cx.globs, bytes := q.bytes, lens := q.lens, reads := q.reads, calls := q.calls, plan := cx.plan }
structure OpX where
  step : Kn → K → CallF → Tm → AH → AOut
def noX : OpX := ⟨fun _ _ _ _ _ => .no⟩
def resK (k : AV → AH → AOut) (r : Option (AV × AH)) : AOut := (Option.rec (motive := fun _ => AOut) (AOut.no) (fun p => k p.1 p.2) (r))
def rvK (k : AV → AOut) (r : Option AV) : AOut := (Option.rec (motive := fun _ => AOut) (AOut.no) (fun v => k v) (r))
/-- what an operation gives, handed on -/
def giveK (k : K) (cf : CallF) (s : SF) (tm : Tm) (h : AH) (r : AR) : AOut :=
  (AR.rec (motive := fun _ => AOut) (fun v h2 => k (s.run v tm) h2) (fun f as => resK (fun v h2 => k (s.run v tm) h2) (cf f as h)) (AOut.no) (r))
/-- any operation -/
def anyX (cx : Cx) (o : Op) (s : SF) : OpX := ⟨fun q k cf tm h => giveK k cf s tm h (aop (cx.put q) tm h o)⟩
def moveX (x : VF) (s : SF) : OpX := ⟨fun q k _ tm h => k (s.run (x.run tm) tm) h⟩

def load1 (rd : List FRead) (gl : Tr (List AV)) (k : AV → AOut) (p : AV) (h : AH) : AOut :=
  (AV.rec (motive_1 := fun _ => AOut) (motive_2 := fun _ => Unit) (fun _ => AOut.no) (fun _ _ => AOut.no) (fun _ _ => AOut.no) (fun _ => AOut.no) (fun _ _ => AOut.no) (fun g off => (Option.rec (motive := fun _ => AOut) (AOut.no) (fun cs => rvK k (nth cs off)) (gl.get g))) (fun i off => (Option.rec (motive := fun _ => AOut) (AOut.no) (fun o => (AO.rec (motive := fun _ => AOut) (fun cs ro es => rvK k (nth cs off)) (fun _ _ => AOut.no) (fun _ _ _ _ _ => AOut.no) (o))) (h.objs.get i))) (AOut.no) (fun _ _ _ _ _ => AOut.no) (fun _ _ _ _ _ => AOut.no) (AOut.no) (fun _ => AOut.no) (AOut.no) (fun _ _ _ _ _ => AOut.no) (AOut.no) (fun _ _ _ => AOut.no) (AOut.no) (fun _ _ => AOut.no) (fun _ _ => AOut.no) (fun _ => AOut.no) (fun _ => AOut.no) (fun j es c n off => (Option.rec (motive := fun _ => AOut) (AOut.no) (fun cs => rvK k (nth cs off)) (findRead j es c n rd))) () (fun _ _ _ _ => ()) (p))
def agK (k : AV → AOut) (r : Option (List AV)) : AOut := (Option.rec (motive := fun _ => AOut) (AOut.no) (fun l => k (AV.agg l)) (r))
def loadN (rd : List FRead) (gl : Tr (List AV)) (n : Nat) (k : AV → AOut) (p : AV) (h : AH) : AOut :=
  (AV.rec (motive_1 := fun _ => AOut) (motive_2 := fun _ => Unit) (fun _ => AOut.no) (fun _ _ => AOut.no) (fun _ _ => AOut.no) (fun _ => AOut.no) (fun _ _ => AOut.no) (fun g off => (Option.rec (motive := fun _ => AOut) (AOut.no) (fun cs => agK k (slice1 cs off n)) (gl.get g))) (fun i off => (Option.rec (motive := fun _ => AOut) (AOut.no) (fun o => (AO.rec (motive := fun _ => AOut) (fun cs ro es => agK k (slice1 cs off n)) (fun _ _ => AOut.no) (fun _ _ _ _ _ => AOut.no) (o))) (h.objs.get i))) (AOut.no) (fun _ _ _ _ _ => AOut.no) (fun _ _ _ _ _ => AOut.no) (AOut.no) (fun _ => AOut.no) (AOut.no) (fun _ _ _ _ _ => AOut.no) (AOut.no) (fun _ _ _ => AOut.no) (AOut.no) (fun _ _ => AOut.no) (fun _ _ => AOut.no) (fun _ => AOut.no) (fun _ => AOut.no) (fun j es c m off => (Option.rec (motive := fun _ => AOut) (AOut.no) (fun cs => agK k (slice1 cs off n)) (findRead j es c m rd))) () (fun _ _ _ _ => ()) (p))
def loadX (gl : Tr (List AV)) (agg : Bool) (n : Nat) (p : VF) (s : SF) : OpX := match agg with
  | true => ⟨fun q k _ tm h => loadN q.reads gl n (fun v => k (s.run v tm) h) (p.run tm) h⟩
  | false => ⟨fun q k _ tm h => load1 q.reads gl (fun v => k (s.run v tm) h) (p.run tm) h⟩

def cellsR (v : AV) : List AV := (AV.rec (motive_1 := fun _ => List AV) (motive_2 := fun _ => Unit) (fun _ => [v]) (fun _ _ => [v]) (fun _ _ => [v]) (fun _ => [v]) (fun _ _ => [v]) (fun _ _ => [v]) (fun _ _ => [v]) ([v]) (fun _ _ _ _ _ => [v]) (fun _ _ _ _ _ => [v]) ([v]) (fun _ => [v]) ([v]) (fun _ _ _ _ _ => [v]) ([v]) (fun _ _ _ => [v]) ([v]) (fun cs _ => cs) (fun _ _ => [v]) (fun _ => [v]) (fun _ => [v]) (fun _ _ _ _ _ => [v]) () (fun _ _ _ _ => ()) (v))
def isTupR (v : AV) : Bool := (AV.rec (motive_1 := fun _ => Bool) (motive_2 := fun _ => Unit) (fun _ => false) (fun _ _ => false) (fun _ _ => false) (fun _ => false) (fun _ _ => false) (fun _ _ => false) (fun _ _ => false) (false) (fun _ _ _ _ _ => false) (fun _ _ _ _ _ => false) (false) (fun _ => false) (false) (fun _ _ _ _ _ => false) (false) (fun _ _ _ => false) (false) (fun _ _ => false) (fun vs _ => true) (fun i => true) (fun _ => false) (fun _ _ _ _ _ => false) () (fun _ _ _ _ => ()) (v))
def lenR (l : List AV) : Nat := List.rec (motive := fun _ => Nat) 0 (fun _ _ ih => Nat.succ ih) l
def putCells (k : AH → AOut) (h : AH) (i es : Nat) (r : Option (List AV)) : AOut :=
  (Option.rec (motive := fun _ => AOut) (AOut.no) (fun cs => k (AH.mk (Hp.put (some (AO.cells cs false es)) h.objs i) h.next)) (r))
def storeK (n : Nat) (k : AH → AOut) (p v : AV) (h : AH) : AOut :=
  (AV.rec (motive_1 := fun _ => AOut) (motive_2 := fun _ => Unit) (fun _ => AOut.no) (fun _ _ => AOut.no) (fun _ _ => AOut.no) (fun _ => AOut.no) (fun _ _ => AOut.no) (fun _ _ => AOut.no) (fun i off => (Option.rec (motive := fun _ => AOut) (AOut.no) (fun o => (AO.rec (motive := fun _ => AOut) (fun cs ro es => (Bool.rec (motive := fun _ => AOut) ((Bool.rec (motive := fun _ => AOut) (AOut.no) ((Bool.rec (motive := fun _ => AOut) (putCells k h i es (overAt off cs (cellsR v))) (AOut.no) (isTupR v))) (Nat.beq (lenR (cellsR v)) n))) (AOut.no) (ro))) (fun _ _ => AOut.no) (fun _ _ _ _ _ => AOut.no) (o))) (h.objs.get i))) (AOut.no) (fun _ _ _ _ _ => AOut.no) (fun _ _ _ _ _ => AOut.no) (AOut.no) (fun _ => AOut.no) (AOut.no) (fun _ _ _ _ _ => AOut.no) (AOut.no) (fun _ _ _ => AOut.no) (AOut.no) (fun _ _ => AOut.no) (fun _ _ => AOut.no) (fun _ => AOut.no) (fun _ => AOut.no) (fun _ _ _ _ _ => AOut.no) () (fun _ _ _ _ => ()) (p))
def storeX (n : Nat) (p v : VF) (s : SF) : OpX := ⟨fun q k _ tm h => storeK n (fun h2 => k (s.run AV.undef tm) h2) (p.run tm) (v.run tm) h⟩

def nilK (k : AV → AOut) (x : AV) : AOut := (AV.rec (motive_1 := fun _ => AOut) (motive_2 := fun _ => Unit) (fun _ => AOut.no) (fun _ _ => AOut.no) (fun _ _ => AOut.no) (fun _ => AOut.no) (fun _ _ => AOut.no) (fun g o => k (AV.gptr g o)) (fun i o => k (AV.ptr i o)) (AOut.no) (fun _ _ _ _ _ => AOut.no) (fun _ _ _ _ _ => AOut.no) (AOut.no) (fun _ => AOut.no) (AOut.no) (fun f a b _ _ => k (AV.fn f a b)) (AOut.no) (fun _ _ _ => AOut.no) (AOut.no) (fun _ _ => AOut.no) (fun _ _ => AOut.no) (fun _ => AOut.no) (fun _ => AOut.no) (fun j es c n o => k (AV.lptr j es c n o)) () (fun _ _ _ _ => ()) (x))
def nilX (x : VF) (s : SF) : OpX := ⟨fun q k _ tm h => nilK (fun v => k (s.run v tm) h) (x.run tm)⟩
def fldK (k : AV → AOut) (o : Nat) (x : AV) : AOut := (AV.rec (motive_1 := fun _ => AOut) (motive_2 := fun _ => Unit) (fun _ => AOut.no) (fun _ _ => AOut.no) (fun _ _ => AOut.no) (fun _ => AOut.no) (fun _ _ => AOut.no) (fun g off => k (AV.gptr g (Nat.add off o))) (fun i off => k (AV.ptr i (Nat.add off o))) (AOut.no) (fun _ _ _ _ _ => AOut.no) (fun _ _ _ _ _ => AOut.no) (AOut.no) (fun _ => AOut.no) (AOut.no) (fun _ _ _ _ _ => AOut.no) (AOut.no) (fun _ _ _ => AOut.no) (AOut.no) (fun _ _ => AOut.no) (fun _ _ => AOut.no) (fun _ => AOut.no) (fun _ => AOut.no) (fun j es c n off => k (AV.lptr j es c n (Nat.add off o))) () (fun _ _ _ _ => ()) (x))
def fldX (o : Nat) (x : VF) (s : SF) : OpX := ⟨fun q k _ tm h => fldK (fun v => k (s.run v tm) h) o (x.run tm)⟩
def natK (k : Nat → AOut) (x : AV) : AOut := (AV.rec (motive_1 := fun _ => AOut) (motive_2 := fun _ => Unit) (fun _ => AOut.no) (fun j n => (Int.rec (motive := fun _ => AOut) (fun m => k m) (fun m => AOut.no) (n))) (fun _ _ => AOut.no) (fun _ => AOut.no) (fun _ _ => AOut.no) (fun _ _ => AOut.no) (fun _ _ => AOut.no) (AOut.no) (fun _ _ _ _ _ => AOut.no) (fun _ _ _ _ _ => AOut.no) (AOut.no) (fun _ => AOut.no) (AOut.no) (fun _ _ _ _ _ => AOut.no) (AOut.no) (fun _ _ _ => AOut.no) (AOut.no) (fun _ _ => AOut.no) (fun _ _ => AOut.no) (fun _ => AOut.no) (fun _ => AOut.no) (fun _ _ _ _ _ => AOut.no) () (fun _ _ _ _ => ()) (x))
def ixSlK (k : AV → AOut) (size : Nat) (x ix : AV) : AOut :=
  natK (fun m => (AV.rec (motive_1 := fun _ => AOut) (motive_2 := fun _ => Unit) (fun _ => AOut.no) (fun _ _ => AOut.no) (fun _ _ => AOut.no) (fun _ => AOut.no) (fun _ _ => AOut.no) (fun _ _ => AOut.no) (fun _ _ => AOut.no) (AOut.no) (fun i off eo len cap => (Bool.rec (motive := fun _ => AOut) (AOut.no) (k (AV.ptr i (Nat.add off (Nat.mul m size)))) (Nat.ble (Nat.succ m) len))) (fun _ _ _ _ _ => AOut.no) (AOut.no) (fun _ => AOut.no) (AOut.no) (fun _ _ _ _ _ => AOut.no) (AOut.no) (fun _ _ _ => AOut.no) (AOut.no) (fun _ _ => AOut.no) (fun _ _ => AOut.no) (fun _ => AOut.no) (fun _ => AOut.no) (fun _ _ _ _ _ => AOut.no) () (fun _ _ _ _ => ()) (x))) ix
def ixSlQ (fx : List Fact) (lens : List FLen) (k : AV → AOut) (size : Nat) (x ix : AV) : AOut := (AV.rec (motive_1 := fun _ => AOut) (motive_2 := fun _ => Unit) (fun _ => AOut.no) (fun _ _ => AOut.no) (fun _ _ => AOut.no) (fun _ => AOut.no) (fun _ _ => AOut.no) (fun _ _ => AOut.no) (fun _ _ => AOut.no) (AOut.no) (fun i off eo len cap => ixSlK k size (AV.slice i off eo len cap) ix) (fun _ _ _ _ _ => AOut.no) (AOut.no) (fun _ => AOut.no) (AOut.no) (fun _ _ _ _ _ => AOut.no) (AOut.no) (fun _ _ _ => AOut.no) (AOut.no) (fun _ _ => AOut.no) (fun _ _ => AOut.no) (fun _ => AOut.no) (fun j => rvK k (listAddr fx lens j size ix)) (fun _ _ _ _ _ => AOut.no) () (fun _ _ _ _ => ()) (x))
def ixArK (k : AV → AOut) (n size : Nat) (x ix : AV) : AOut :=
  natK (fun m => (Bool.rec (motive := fun _ => AOut) (AOut.no) ((AV.rec (motive_1 := fun _ => AOut) (motive_2 := fun _ => Unit) (fun _ => AOut.no) (fun _ _ => AOut.no) (fun _ _ => AOut.no) (fun _ => AOut.no) (fun _ _ => AOut.no) (fun g off => k (AV.gptr g (Nat.add off (Nat.mul m size)))) (fun i off => k (AV.ptr i (Nat.add off (Nat.mul m size)))) (AOut.no) (fun _ _ _ _ _ => AOut.no) (fun _ _ _ _ _ => AOut.no) (AOut.no) (fun _ => AOut.no) (AOut.no) (fun _ _ _ _ _ => AOut.no) (AOut.no) (fun _ _ _ => AOut.no) (AOut.no) (fun _ _ => AOut.no) (fun _ _ => AOut.no) (fun _ => AOut.no) (fun _ => AOut.no) (fun _ _ _ _ _ => AOut.no) () (fun _ _ _ _ => ()) (x))) (Nat.ble (Nat.succ m) n))) ix
def ixSlX (size : Nat) (x ix : VF) (s : SF) : OpX := ⟨fun q k _ tm h => ixSlQ q.facts q.lens (fun v => k (s.run v tm) h) size (x.run tm) (ix.run tm)⟩
def ixArX (n size : Nat) (x ix : VF) (s : SF) : OpX := ⟨fun q k _ tm h => ixArK (fun v => k (s.run v tm) h) n size (x.run tm) (ix.run tm)⟩
def pickK (k : AV → AOut) (c a b : AV) : AOut := (AV.rec (motive_1 := fun _ => AOut) (motive_2 := fun _ => Unit) (fun t => (Bool.rec (motive := fun _ => AOut) (k b) (k a) (t))) (fun _ _ => AOut.no) (fun _ _ => AOut.no) (fun _ => AOut.no) (fun _ _ => AOut.no) (fun _ _ => AOut.no) (fun _ _ => AOut.no) (AOut.no) (fun _ _ _ _ _ => AOut.no) (fun _ _ _ _ _ => AOut.no) (AOut.no) (fun _ => AOut.no) (AOut.no) (fun _ _ _ _ _ => AOut.no) (AOut.no) (fun _ _ _ => AOut.no) (AOut.no) (fun _ _ => AOut.no) (fun _ _ => AOut.no) (fun _ => AOut.no) (fun _ => AOut.no) (fun _ _ _ _ _ => AOut.no) () (fun _ _ _ _ => ()) (c))
def pickX (c a b : VF) (s : SF) : OpX := ⟨fun q k _ tm h => pickK (fun v => k (s.run v tm) h) (c.run tm) (a.run tm) (b.run tm)⟩
def extK (k : AV → AOut) (i : Nat) (x : AV) : AOut := (AV.rec (motive_1 := fun _ => AOut) (motive_2 := fun _ => Unit) (fun _ => AOut.no) (fun _ _ => AOut.no) (fun _ _ => AOut.no) (fun _ => AOut.no) (fun _ _ => AOut.no) (fun _ _ => AOut.no) (fun _ _ => AOut.no) (AOut.no) (fun _ _ _ _ _ => AOut.no) (fun _ _ _ _ _ => AOut.no) (AOut.no) (fun _ => AOut.no) (AOut.no) (fun _ _ _ _ _ => AOut.no) (AOut.no) (fun _ _ _ => AOut.no) (AOut.no) (fun _ _ => AOut.no) (fun vs _ => rvK k (nth vs i)) (fun _ => AOut.no) (fun _ => AOut.no) (fun _ _ _ _ _ => AOut.no) () (fun _ _ _ _ => ()) (x))
def extX (i : Nat) (x : VF) (s : SF) : OpX := ⟨fun q k _ tm h => extK (fun v => k (s.run v tm) h) i (x.run tm)⟩
def newR (h : AH) (cs : List AV) (es : Nat) : AH := AH.mk (Hp.put (some (AO.cells cs false es)) h.objs h.next) (Nat.add h.next 1)
def allocX (z : List AV) (s : SF) : OpX := ⟨fun q k _ tm h => k (s.run (AV.ptr h.next 0) tm) (newR h z 0)⟩
def boxK (k : AH → AOut) (h : AH) (v : AV) : AOut := (AV.rec (motive_1 := fun _ => AOut) (motive_2 := fun _ => Unit) (fun _ => k (newR h [v] 0)) (fun _ _ => k (newR h [v] 0)) (fun _ _ => k (newR h [v] 0)) (fun _ => k (newR h [v] 0)) (fun _ _ => k (newR h [v] 0)) (fun _ _ => k (newR h [v] 0)) (fun _ _ => k (newR h [v] 0)) (k (newR h [v] 0)) (fun _ _ _ _ _ => k (newR h [v] 0)) (fun _ _ _ _ _ => k (newR h [v] 0)) (k (newR h [v] 0)) (fun _ => k (newR h [v] 0)) (k (newR h [v] 0)) (fun _ _ _ _ _ => k (newR h [v] 0)) (k (newR h [v] 0)) (fun _ _ _ => k (newR h [v] 0)) (k (newR h [v] 0)) (fun cs _ => k (newR h cs 0)) (fun vs _ => AOut.no) (fun i => AOut.no) (fun _ => k (newR h [v] 0)) (fun _ _ _ _ _ => k (newR h [v] 0)) () (fun _ _ _ _ => ()) (v))
def boxX (x : VF) (s : SF) : OpX := ⟨fun q k _ tm h => boxK (fun h2 => k (s.run (AV.ptr h.next 0) tm) h2) h (x.run tm)⟩
def appR (a b : List AV) : List AV := List.rec (motive := fun _ => List AV) b (fun x _ ih => x :: ih) a
def app3 (a as b : List AV) : List AV := (List.rec (motive := fun _ => List AV) ((List.rec (motive := fun _ => List AV) (as) (fun x t _ => appR a as) (a))) (fun x t _ => appR a (appR as b)) (b))
def callK (k : AV → AH → AOut) (cf : CallF) (f : AV) (as : List AV) (h : AH) : AOut :=
  (AV.rec (motive_1 := fun _ => AOut) (motive_2 := fun _ => Unit) (fun _ => AOut.no) (fun _ _ => AOut.no) (fun _ _ => AOut.no) (fun _ => AOut.no) (fun _ _ => AOut.no) (fun _ _ => AOut.no) (fun _ _ => AOut.no) (AOut.no) (fun _ _ _ _ _ => AOut.no) (fun _ _ _ _ _ => AOut.no) (AOut.no) (fun _ => AOut.no) (AOut.no) (fun g a b _ _ => resK k (cf g (app3 a as b) h)) (AOut.no) (fun _ _ _ => AOut.no) (AOut.no) (fun _ _ => AOut.no) (fun _ _ => AOut.no) (fun _ => AOut.no) (fun _ => AOut.no) (fun _ _ _ _ _ => AOut.no) () (fun _ _ _ _ => ()) (f))
def callX (f : VF) (as : List VF) (s : SF) : OpX := ⟨fun q k cf tm h => callK (fun v h2 => k (s.run v tm) h2) cf (f.run tm) (runVs as tm) h⟩
def notK (k : AV → AOut) (d : AOut) (x : AV) : AOut := (AV.rec (motive_1 := fun _ => AOut) (motive_2 := fun _ => Unit) (fun b => k (AV.bool (notF b))) (fun _ _ => d) (fun _ _ => d) (fun _ => d) (fun _ _ => d) (fun _ _ => d) (fun _ _ => d) (d) (fun _ _ _ _ _ => d) (fun _ _ _ _ _ => d) (d) (fun _ => d) (d) (fun _ _ _ _ _ => d) (d) (fun _ _ _ => d) (d) (fun _ _ => d) (fun _ _ => d) (fun _ => d) (fun _ => d) (fun _ _ _ _ _ => d) () (fun _ _ _ _ => ()) (x))
def notX (x : VF) (s : SF) : OpX := ⟨fun q k _ tm h => notK (fun v => k (s.run v tm) h) (rvK (fun v => k (s.run v tm) h) (unO .not (x.run tm))) (x.run tm)⟩
def convK (k : AV → AOut) (d : AOut) (j : IntKind) (x : AV) : AOut := (AV.rec (motive_1 := fun _ => AOut) (motive_2 := fun _ => Unit) (fun _ => d) (fun i n => k (AV.int j (wrapF j n))) (fun _ _ => d) (fun _ => d) (fun _ _ => d) (fun _ _ => d) (fun _ _ => d) (d) (fun _ _ _ _ _ => d) (fun _ _ _ _ _ => d) (d) (fun _ => d) (d) (fun _ _ _ _ _ => d) (d) (fun _ _ _ => d) (d) (fun _ _ => d) (fun _ _ => d) (fun _ => d) (fun _ => d) (fun _ _ _ _ _ => d) () (fun _ _ _ _ => ()) (x))
def convX (cx : Cx) (j : IntKind) (x : VF) (s : SF) : OpX := ⟨fun q k _ tm h => convK (fun v => k (s.run v tm) h) (rvK (fun v => k (s.run v tm) h) (convI (cx.put q) j (x.run tm))) j (x.run tm)⟩
def goIR (n : Nat) : AV := AV.int .i64 (Int.ofNat n)
def lenSlK (lens : List FLen) (k : AV → AOut) (x : AV) : AOut := (AV.rec (motive_1 := fun _ => AOut) (motive_2 := fun _ => Unit) (fun _ => AOut.no) (fun _ _ => AOut.no) (fun _ _ => AOut.no) (fun _ => AOut.no) (fun _ _ => AOut.no) (fun _ _ => AOut.no) (fun _ _ => AOut.no) (AOut.no) (fun i off eo len cap => k (goIR len)) (fun i off eo len size => k (goIR 0)) (k (goIR 0)) (fun _ => AOut.no) (AOut.no) (fun _ _ _ _ _ => AOut.no) (AOut.no) (fun _ _ _ => AOut.no) (AOut.no) (fun _ _ => AOut.no) (fun _ _ => AOut.no) (fun _ => AOut.no) (fun j => rvK k (findLen j lens)) (fun _ _ _ _ _ => AOut.no) () (fun _ _ _ _ => ()) (x))
def lenSlX (x : VF) (s : SF) : OpX := ⟨fun q k _ tm h => lenSlK q.lens (fun v => k (s.run v tm) h) (x.run tm)⟩

/-! ### operations on two values -/
def intsK (f : IntKind → Int → IntKind → Int → AOut) (d : AOut) (x y : AV) : AOut := (AV.rec (motive_1 := fun _ => AOut) (motive_2 := fun _ => Unit) (fun _ => d) (fun i a => (AV.rec (motive_1 := fun _ => AOut) (motive_2 := fun _ => Unit) (fun _ => d) (fun j b => f i a j b) (fun _ _ => d) (fun _ => d) (fun _ _ => d) (fun _ _ => d) (fun _ _ => d) (d) (fun _ _ _ _ _ => d) (fun _ _ _ _ _ => d) (d) (fun _ => d) (d) (fun _ _ _ _ _ => d) (d) (fun _ _ _ => d) (d) (fun _ _ => d) (fun _ _ => d) (fun _ => d) (fun _ => d) (fun _ _ _ _ _ => d) () (fun _ _ _ _ => ()) (y))) (fun _ _ => d) (fun _ => d) (fun _ _ => d) (fun _ _ => d) (fun _ _ => d) (d) (fun _ _ _ _ _ => d) (fun _ _ _ _ _ => d) (d) (fun _ => d) (d) (fun _ _ _ _ _ => d) (d) (fun _ _ _ => d) (d) (fun _ _ => d) (fun _ _ => d) (fun _ => d) (fun _ => d) (fun _ _ _ _ _ => d) () (fun _ _ _ _ => ()) (x))
def sameK (i j : IntKind) (r : AOut) : AOut := (Bool.rec (motive := fun _ => AOut) (AOut.no) (r) (Nat.beq (kTag i) (kTag j)))
def intX (f : (AV → AOut) → IntKind → Int → IntKind → Int → AOut) (cx : Cx) (op : BinOp) (t : Nat) (x y : VF) (s : SF) : OpX :=
  ⟨fun q k _ tm h => intsK (f (fun v => k (s.run v tm) h)) (rvK (fun v => k (s.run v tm) h) (bin (cx.put q) op t (x.run tm) (y.run tm))) (x.run tm) (y.run tm)⟩
def modK (k : IntKind) : Nat := (IntKind.rec (motive := fun _ => Nat) (0) (0) (0) (0) (256) (65536) (4294967296) (18446744073709551616) (k))
def bitsR (k : IntKind) : Nat := (IntKind.rec (motive := fun _ => Nat) (8) (16) (32) (64) (8) (16) (32) (64) (k))
/-- bit by bit, unsigned -/
def bitK (f : Nat → Nat → Nat) (op : BinOp) (k : AV → AOut) (i : IntKind) (a : Int) (j : IntKind) (b : Int) : AOut :=
  sameK i j ((Int.rec (motive := fun _ => AOut) (fun m => (Int.rec (motive := fun _ => AOut) (fun n => (Bool.rec (motive := fun _ => AOut) (k (AV.int i (Int.ofNat (Nat.mod (f (Nat.mod m (modK i)) (Nat.mod n (modK i))) (modK i))))) (rvK k (binI op i (Int.ofNat m) (Int.ofNat n))) (Nat.beq (modK i) 0))) (fun n => rvK k (binI op i (Int.ofNat m) (Int.negSucc n))) (b))) (fun m => rvK k (binI op i (Int.negSucc m) b)) (a)))
def remK (k : AV → AOut) (i : IntKind) (a : Int) (j : IntKind) (b : Int) : AOut :=
  sameK i j ((Int.rec (motive := fun _ => AOut) (fun m => (Int.rec (motive := fun _ => AOut) (fun n => (Bool.rec (motive := fun _ => AOut) (k (AV.int i (Int.ofNat (Nat.mod m n)))) (AOut.no) (Nat.beq n 0))) (fun n => rvK k (binI .rem i (Int.ofNat m) (Int.negSucc n))) (b))) (fun m => rvK k (binI .rem i (Int.negSucc m) b)) (a)))
def quoK (k : AV → AOut) (i : IntKind) (a : Int) (j : IntKind) (b : Int) : AOut :=
  sameK i j ((Int.rec (motive := fun _ => AOut) (fun m => (Int.rec (motive := fun _ => AOut) (fun n => (Bool.rec (motive := fun _ => AOut) (k (AV.int i (wrapNat i (Nat.div m n)))) (AOut.no) (Nat.beq n 0))) (fun n => rvK k (binI .quo i (Int.ofNat m) (Int.negSucc n))) (b))) (fun m => rvK k (binI .quo i (Int.negSucc m) b)) (a)))
def shrK (k : AV → AOut) (i : IntKind) (a : Int) (j : IntKind) (b : Int) : AOut :=
  (Int.rec (motive := fun _ => AOut) (fun m => (Int.rec (motive := fun _ => AOut) (fun n => k (AV.int i (Int.ofNat (Nat.div m (Nat.pow 2 (Bool.rec (motive := fun _ => Nat) (bitsR i) (n) (Nat.ble n (bitsR i)))))))) (fun n => AOut.no) (b))) (fun m => rvK k (shrI i (Int.negSucc m) b)) (a))
def shlK (k : AV → AOut) (i : IntKind) (a : Int) (j : IntKind) (b : Int) : AOut :=
  (Int.rec (motive := fun _ => AOut) (fun m => (Int.rec (motive := fun _ => AOut) (fun n => k (AV.int i (wrapNat i (Nat.mul m (Nat.pow 2 (Bool.rec (motive := fun _ => Nat) (bitsR i) (n) (Nat.ble n (bitsR i)))))))) (fun n => AOut.no) (b))) (fun m => rvK k (shlI i (Int.negSucc m) b)) (a))
/-- two aggregates, cell by cell -/
def isIntL (l : Leaf) : Bool := Leaf.rec (motive := fun _ => Bool) true false false l
def isBoolL (l : Leaf) : Bool := Leaf.rec (motive := fun _ => Bool) false true false l
def boolEqR (a b : Bool) : Bool := (Bool.rec (motive := fun _ => Bool) (notF b) (b) (a))
def leafR (fx : List Fact) (l : Leaf) (a b : AV) : Option Bool :=
  (AV.rec (motive_1 := fun _ => Option Bool) (motive_2 := fun _ => Unit) (fun m => (AV.rec (motive_1 := fun _ => Option Bool) (motive_2 := fun _ => Unit) (fun n => (Bool.rec (motive := fun _ => Option Bool) (eqLeaf fx l a b) (some (boolEqR m n)) (isBoolL l))) (fun _ _ => eqLeaf fx l a b) (fun _ _ => eqLeaf fx l a b) (fun _ => eqLeaf fx l a b) (fun _ _ => eqLeaf fx l a b) (fun _ _ => eqLeaf fx l a b) (fun _ _ => eqLeaf fx l a b) (eqLeaf fx l a b) (fun _ _ _ _ _ => eqLeaf fx l a b) (fun _ _ _ _ _ => eqLeaf fx l a b) (eqLeaf fx l a b) (fun _ => eqLeaf fx l a b) (eqLeaf fx l a b) (fun _ _ _ _ _ => eqLeaf fx l a b) (eqLeaf fx l a b) (fun _ _ _ => eqLeaf fx l a b) (eqLeaf fx l a b) (fun _ _ => eqLeaf fx l a b) (fun _ _ => eqLeaf fx l a b) (fun _ => eqLeaf fx l a b) (fun _ => eqLeaf fx l a b) (fun _ _ _ _ _ => eqLeaf fx l a b) () (fun _ _ _ _ => ()) (b))) (fun i m => (AV.rec (motive_1 := fun _ => Option Bool) (motive_2 := fun _ => Unit) (fun _ => eqLeaf fx l a b) (fun j n => (Bool.rec (motive := fun _ => Option Bool) (none) ((Bool.rec (motive := fun _ => Option Bool) (none) (some (eqIF m n)) (Nat.beq (kTag i) (kTag j)))) (isIntL l))) (fun _ _ => eqLeaf fx l a b) (fun _ => eqLeaf fx l a b) (fun _ _ => eqLeaf fx l a b) (fun _ _ => eqLeaf fx l a b) (fun _ _ => eqLeaf fx l a b) (eqLeaf fx l a b) (fun _ _ _ _ _ => eqLeaf fx l a b) (fun _ _ _ _ _ => eqLeaf fx l a b) (eqLeaf fx l a b) (fun _ => eqLeaf fx l a b) (eqLeaf fx l a b) (fun _ _ _ _ _ => eqLeaf fx l a b) (eqLeaf fx l a b) (fun _ _ _ => eqLeaf fx l a b) (eqLeaf fx l a b) (fun _ _ => eqLeaf fx l a b) (fun _ _ => eqLeaf fx l a b) (fun _ => eqLeaf fx l a b) (fun _ => eqLeaf fx l a b) (fun _ _ _ _ _ => eqLeaf fx l a b) () (fun _ _ _ _ => ()) (b))) (fun _ _ => eqLeaf fx l a b) (fun _ => eqLeaf fx l a b) (fun _ _ => eqLeaf fx l a b) (fun _ _ => eqLeaf fx l a b) (fun _ _ => eqLeaf fx l a b) (eqLeaf fx l a b) (fun _ _ _ _ _ => eqLeaf fx l a b) (fun _ _ _ _ _ => eqLeaf fx l a b) (eqLeaf fx l a b) (fun _ => eqLeaf fx l a b) (eqLeaf fx l a b) (fun _ _ _ _ _ => eqLeaf fx l a b) (eqLeaf fx l a b) (fun _ _ _ => eqLeaf fx l a b) (eqLeaf fx l a b) (fun _ _ => eqLeaf fx l a b) (fun _ _ => eqLeaf fx l a b) (fun _ => eqLeaf fx l a b) (fun _ => eqLeaf fx l a b) (fun _ _ _ _ _ => eqLeaf fx l a b) () (fun _ _ _ _ => ()) (a))
def leavesR (fx : List Fact) (ls : List Leaf) : List AV → List AV → Option Bool :=
  List.rec (motive := fun _ => List AV → List AV → Option Bool)
    (fun xs ys => (List.rec (motive := fun _ => Option Bool) ((List.rec (motive := fun _ => Option Bool) (some true) (fun b y _ => none) (ys))) (fun a x _ => none) (xs)))
    (fun l _ ih xs ys => (List.rec (motive := fun _ => Option Bool) (none) (fun a x _ => (List.rec (motive := fun _ => Option Bool) (none) (fun b y _ => (Option.rec (motive := fun _ => Option Bool) (none) (fun e => (Bool.rec (motive := fun _ => Option Bool) (some false) (ih x y) (e))) (leafR fx l a b))) (ys))) (xs))) ls
def boolK (k : AV → AOut) (neg : Bool) (r : Option Bool) : AOut := (Option.rec (motive := fun _ => AOut) (AOut.no) (fun b => k (AV.bool (Bool.rec (motive := fun _ => Bool) (b) (notF b) (neg)))) (r))
def aggEqK (fx : List Fact) (ls : List Leaf) (neg : Bool) (k : AV → AOut) (d : AOut) (x y : AV) : AOut :=
  (AV.rec (motive_1 := fun _ => AOut) (motive_2 := fun _ => Unit) (fun _ => d) (fun _ _ => d) (fun _ _ => d) (fun _ => d) (fun _ _ => d) (fun _ _ => d) (fun _ _ => d) (d) (fun _ _ _ _ _ => d) (fun _ _ _ _ _ => d) (d) (fun _ => d) (d) (fun _ _ _ _ _ => d) (d) (fun _ _ _ => d) (d) (fun a _ => (AV.rec (motive_1 := fun _ => AOut) (motive_2 := fun _ => Unit) (fun _ => d) (fun _ _ => d) (fun _ _ => d) (fun _ => d) (fun _ _ => d) (fun _ _ => d) (fun _ _ => d) (d) (fun _ _ _ _ _ => d) (fun _ _ _ _ _ => d) (d) (fun _ => d) (d) (fun _ _ _ _ _ => d) (d) (fun _ _ _ => d) (d) (fun b _ => (Bool.rec (motive := fun _ => AOut) (AOut.no) ((Bool.rec (motive := fun _ => AOut) (AOut.no) (boolK k neg (leavesR fx ls a b)) (Nat.beq (lenR b) (List.length ls)))) (Nat.beq (lenR a) (List.length ls)))) (fun _ _ => d) (fun _ => d) (fun _ => d) (fun _ _ _ _ _ => d) () (fun _ _ _ _ => ()) (y))) (fun _ _ => d) (fun _ => d) (fun _ => d) (fun _ _ _ _ _ => d) () (fun _ _ _ _ => ()) (x))
def aggEqX (cx : Cx) (op : BinOp) (t : Nat) (ls : List Leaf) (neg : Bool) (x y : VF) (s : SF) : OpX :=
  ⟨fun q k _ tm h => aggEqK q.facts ls neg (fun v => k (s.run v tm) h) (rvK (fun v => k (s.run v tm) h) (bin (cx.put q) op t (x.run tm) (y.run tm))) (x.run tm) (y.run tm)⟩
def ptrEqK (neg : Bool) (k : AV → AOut) (d : AOut) (x y : AV) : AOut :=
  (AV.rec (motive_1 := fun _ => AOut) (motive_2 := fun _ => Unit) (fun _ => d) (fun _ _ => d) (fun _ _ => d) (fun _ => d) (fun _ _ => d) (fun _ _ => d) (fun i o => (AV.rec (motive_1 := fun _ => AOut) (motive_2 := fun _ => Unit) (fun _ => d) (fun _ _ => d) (fun _ _ => d) (fun _ => d) (fun _ _ => d) (fun _ _ => d) (fun _ _ => d) (k (AV.bool neg)) (fun _ _ _ _ _ => d) (fun _ _ _ _ _ => d) (d) (fun _ => d) (d) (fun _ _ _ _ _ => d) (d) (fun _ _ _ => d) (d) (fun _ _ => d) (fun _ _ => d) (fun _ => d) (fun _ => d) (fun _ _ _ _ _ => d) () (fun _ _ _ _ => ()) (y))) ((AV.rec (motive_1 := fun _ => AOut) (motive_2 := fun _ => Unit) (fun _ => d) (fun _ _ => d) (fun _ _ => d) (fun _ => d) (fun _ _ => d) (fun _ _ => d) (fun i o => k (AV.bool neg)) (k (AV.bool (notF neg))) (fun _ _ _ _ _ => d) (fun _ _ _ _ _ => d) (d) (fun _ => d) (d) (fun _ _ _ _ _ => d) (d) (fun _ _ _ => d) (d) (fun _ _ => d) (fun _ _ => d) (fun _ => d) (fun _ => d) (fun _ _ _ _ _ => d) () (fun _ _ _ _ => ()) (y))) (fun _ _ _ _ _ => d) (fun _ _ _ _ _ => d) (d) (fun _ => d) (d) (fun _ _ _ _ _ => d) (d) (fun _ _ _ => d) (d) (fun _ _ => d) (fun _ _ => d) (fun _ => d) (fun _ => d) (fun _ _ _ _ _ => d) () (fun _ _ _ _ => ()) (x))
def ptrEqX (cx : Cx) (op : BinOp) (t : Nat) (neg : Bool) (x y : VF) (s : SF) : OpX :=
  ⟨fun q k _ tm h => ptrEqK neg (fun v => k (s.run v tm) h) (rvK (fun v => k (s.run v tm) h) (bin (cx.put q) op t (x.run tm) (y.run tm))) (x.run tm) (y.run tm)⟩
def eqX (cx : Cx) (op : BinOp) (neg : Bool) (t : Nat) (x y : VF) (s : SF) : OpX :=
  match cx.tt.get t with
  | some i => match i.kind, i.leaves with
    | .ptr _, _ => ptrEqX cx op t neg x y s
    | .strct _, some ls => aggEqX cx op t ls neg x y s
    | .arr _ _, some ls => aggEqX cx op t ls neg x y s
    | _, _ => intX (fun k i a j b => sameK i j (k (AV.bool (Bool.rec (motive := fun _ => Bool) (eqIF a b) (notF (eqIF a b)) (neg))))) cx op t x y s
  | none => intX (fun k i a j b => sameK i j (k (AV.bool (Bool.rec (motive := fun _ => Bool) (eqIF a b) (notF (eqIF a b)) (neg))))) cx op t x y s
def binX (cx : Cx) (op : BinOp) (t : Nat) (x y : VF) (s : SF) : OpX := match op with
  | .add => intX (fun k i a j b => sameK i j (k (AV.int i (addF i a b)))) cx .add t x y s
  | .sub => intX (fun k i a j b => sameK i j (k (AV.int i (subF i a b)))) cx .sub t x y s
  | .mul => intX (fun k i a j b => sameK i j (k (AV.int i (mulF i a b)))) cx .mul t x y s
  | .lss => intX (fun k i a j b => sameK i j (k (AV.bool (ltIF a b)))) cx .lss t x y s
  | .leq => intX (fun k i a j b => sameK i j (k (AV.bool (notF (ltIF b a))))) cx .leq t x y s
  | .gtr => intX (fun k i a j b => sameK i j (k (AV.bool (ltIF b a)))) cx .gtr t x y s
  | .geq => intX (fun k i a j b => sameK i j (k (AV.bool (notF (ltIF a b))))) cx .geq t x y s
  | .eql => eqX cx .eql false t x y s
  | .neq => eqX cx .neq true t x y s
  | .and => intX (bitK Nat.land .and) cx .and t x y s
  | .or => intX (bitK Nat.lor .or) cx .or t x y s
  | .xor => intX (bitK Nat.xor .xor) cx .xor t x y s
  | .rem => intX remK cx .rem t x y s
  | .quo => intX quoK cx .quo t x y s
  | .shr => intX shrK cx .shr t x y s
  | .shl => intX shlK cx .shl t x y s
  | op => ⟨fun q k _ tm h => rvK (fun v => k (s.run v tm) h) (bin (cx.put q) op t (x.run tm) (y.run tm))⟩

/-! ### structs -/
structure Part where
  off : Nat
  size : Nat
  val : VF
def partsF (pl : Nat → Option (Nat × Nat)) : List (Nat × Operand) → Option (List Part)
  | [] => some []
  | (i, x) :: r => match pl i, opF x, partsF pl r with
    | some (off, size), some v, some ps => some (⟨off, size, v⟩ :: ps)
    | _, _, _ => none
def fillR (tm : Tm) (k : List AV → AOut) (ps : List Part) : List AV → AOut :=
  List.rec (motive := fun _ => List AV → AOut) k
    (fun p _ ih cells => (Bool.rec (motive := fun _ => AOut) ((Bool.rec (motive := fun _ => AOut) (AOut.no) ((Option.rec (motive := fun _ => AOut) (AOut.no) (fun cs => ih cs) (overAt p.off cells (cellsR (p.val.run tm))))) (Nat.beq (lenR (cellsR (p.val.run tm))) p.size))) (AOut.no) (isTupR (p.val.run tm)))) ps
def buildX (z : List AV) (ps : List Part) (s : SF) : OpX := ⟨fun q k _ tm h => fillR tm (fun cs => k (s.run (AV.agg cs) tm) h) ps z⟩
def buildSlX (size n : Nat) (z : List AV) (ps : List Part) (s : SF) : OpX := ⟨fun q k _ tm h => fillR tm (fun cs => k (s.run (AV.slice h.next 0 0 n (some n)) tm) (newR h cs size)) ps z⟩
def partK (k : AV → AOut) (agg : Bool) (size o : Nat) (cs : List AV) : AOut := (Bool.rec (motive := fun _ => AOut) (rvK k (nth cs o)) (agK k (slice1 cs o size)) (agg))
def fieldK (k : AV → AOut) (agg : Bool) (size o : Nat) (x : AV) : AOut := (AV.rec (motive_1 := fun _ => AOut) (motive_2 := fun _ => Unit) (fun _ => AOut.no) (fun _ _ => AOut.no) (fun _ _ => AOut.no) (fun _ => AOut.no) (fun _ _ => AOut.no) (fun _ _ => AOut.no) (fun _ _ => AOut.no) (AOut.no) (fun _ _ _ _ _ => AOut.no) (fun _ _ _ _ _ => AOut.no) (AOut.no) (fun _ => AOut.no) (AOut.no) (fun _ _ _ _ _ => AOut.no) (AOut.no) (fun _ _ _ => AOut.no) (AOut.no) (fun cs _ => partK k agg size o cs) (fun _ _ => AOut.no) (fun _ => AOut.no) (fun _ => AOut.no) (fun _ _ _ _ _ => AOut.no) () (fun _ _ _ _ => ()) (x))
def fieldX (agg : Bool) (size o : Nat) (x : VF) (s : SF) : OpX := ⟨fun q k _ tm h => fieldK (fun v => k (s.run v tm) h) agg size o (x.run tm)⟩

def opX (cx : Cx) (op : Op) (s : SF) : OpX := match op with
  | .move x | .assign x => match opF x with
    | some a => moveX a s
    | none => noX
  | .load t p => match opF p, cx.tt.get t with
    | some p, some ty => loadX cx.globs ty.agg ty.size p s
    | _, _ => noX
  | .store t p v => match opF p, opF v, cx.tt.get t with
    | some p, some v, some ty => storeX ty.size p v s
    | _, _, _ => noX
  | .nilCheck x => match opF x with
    | some x => nilX x s
    | none => noX
  | .fieldAddr t x f => match opF x, cx.tt.get t with
    | some x, some ti => match ti.kind with
      | .strct fs => match nth fs f with
        | some (o, _, n) => match n with
          | 0 => noX
          | _ => fldX o x s
        | none => noX
      | _ => noX
    | _, _ => noX
  | .indexAddr t x ix => match opF x, opF ix, cx.tt.get t with
    | some x, some ix, some ti => match ti.kind with
      | .slice e => match cx.tt.get e with
        | some ty => ixSlX ty.size x ix s
        | none => noX
      | .arr n e => match cx.tt.get e with
        | some ty => ixArX n ty.size x ix s
        | none => noX
      | _ => noX
    | _, _, _ => noX
  | .pick c a b => match opF c, opF a, opF b with
    | some c, some a, some b => pickX c a b s
    | _, _, _ => anyX cx op s
  | .extract x i => match opF x with
    | some x => extX i x s
    | none => noX
  | .alloc t => match cx.tt.get t with
    | some ty => allocX ty.zero s
    | none => noX
  | .box _ x => match opF x with
    | some x => boxX x s
    | none => noX
  | .binOp b t x y _ => match opF x, opF y with
    | some x, some y => binX cx b t x y s
    | _, _ => noX
  | .unOp .not _ x => match opF x with
    | some x => notX x s
    | none => noX
  | .convert st d x => match opF x, cx.tt.get st, cx.tt.get d with
    | some x, some _, some ti => match ti.kind with
      | .int j => convX cx j x s
      | _ => anyX cx op s
    | _, _, _ => anyX cx op s
  | .build t ps => match cx.tt.get t with
    | some ti => match ti.kind with
      | .strct fs => match partsF (placeA fs) ps.toList with
        | some ps => buildX ti.zero ps s
        | none => anyX cx op s
      | _ => anyX cx op s
    | none => noX
  | .field t x f => match opF x, cx.tt.get t with
    | some x, some ti => match ti.kind with
      | .strct fs => match nth fs f with
        | some (o, u, _) => match cx.tt.get u with
          | some ty => fieldX ty.agg ty.size o x s
          | none => noX
        | none => noX
      | _ => noX
    | _, _ => noX
  | .call c => match c.callee with
    | .value f => match opF f, opFs c.args.toList with
      | some f, some as => callX f as s
      | _, _ => noX
    | .builtin .len => match c.args.toList, c.argTypes.toList with
      | [x], t :: _ => match opF x, cx.tt.get t with
        | some x, some ti => match ti.kind with
          | .slice _ => lenSlX x s
          | _ => anyX cx op s
        | _, _ => anyX cx op s
      | _, _ => anyX cx op s
    | _ => anyX cx op s
  | op => anyX cx op s

/-! ### a region in the order of the text -/
structure WF where
  run : Tm → Option Bool
def guardK (want : Bool) (x : AV) : Option Bool := (AV.rec (motive_1 := fun _ => Option Bool) (motive_2 := fun _ => Unit) (fun b => some (boolEqR b want)) (fun _ _ => some false) (fun _ _ => some false) (fun _ => some false) (fun _ _ => some false) (fun _ _ => some false) (fun _ _ => some false) (some false) (fun _ _ _ _ _ => some false) (fun _ _ _ _ _ => some false) (some false) (fun _ => some false) (some false) (fun _ _ _ _ _ => some false) (some false) (fun _ _ _ => some false) (some false) (fun _ _ => some false) (fun _ _ => some false) (fun i => none) (fun j => none) (fun _ _ _ _ _ => some false) () (fun _ _ _ _ => ()) (x))
def wantF (all : List Oper) (o : Oper) : Option WF := match o.guard with
  | none => none
  | some (g, want) => match nth all g with
    | some oo => match oo.dst with
      | some d => some ⟨fun tm => guardK want ((getF d).run tm)⟩
      | none => some ⟨fun _ => some false⟩
    | none => some ⟨fun _ => some false⟩
def onlyX (w : WF) (x : OpX) (s : SF) : OpX := ⟨fun q k cf tm h => (Option.rec (motive := fun _ => AOut) (AOut.no) (fun b => (Bool.rec (motive := fun _ => AOut) (k (s.run AV.undef tm) h) (x.step q k cf tm h) (b))) (w.run tm))⟩
def lineX (cx : Cx) (all : List Oper) (o : Oper) : OpX := match wantF all o with
  | none => opX cx o.op (putF o.dst)
  | some w => onlyX w (opX cx o.op (putF o.dst)) (putF o.dst)
def linesX (cx : Cx) (all : List Oper) : List Oper → List OpX
  | [] => []
  | o :: os => lineX cx all o :: linesX cx all os
def runX (q : Kn) (cf : CallF) (xs : List OpX) : Tm → AH → AOut :=
  List.rec (motive := fun _ => Tm → AH → AOut) (fun tm h => AOut.norm tm h) (fun x _ ih tm h => x.step q ih cf tm h) xs
structure LX where
  l : List OpX
def regX (cx : Cx) (ops : List Oper) : LX := ⟨linesX cx ops ops⟩

def load1O (rd : List FRead) (gl : Tr (List AV)) (p : AV) (h : AH) : Option AV :=
  (AV.rec (motive_1 := fun _ => Option AV) (motive_2 := fun _ => Unit) (fun _ => none) (fun _ _ => none) (fun _ _ => none) (fun _ => none) (fun _ _ => none) (fun g off => (Option.rec (motive := fun _ => Option AV) (none) (fun cs => nth cs off) (gl.get g))) (fun i off => (Option.rec (motive := fun _ => Option AV) (none) (fun o => (AO.rec (motive := fun _ => Option AV) (fun cs ro es => nth cs off) (fun _ _ => none) (fun _ _ _ _ _ => none) (o))) (h.objs.get i))) (none) (fun _ _ _ _ _ => none) (fun _ _ _ _ _ => none) (none) (fun _ => none) (none) (fun _ _ _ _ _ => none) (none) (fun _ _ _ => none) (none) (fun _ _ => none) (fun _ _ => none) (fun _ => none) (fun _ => none) (fun j es c n off => (Option.rec (motive := fun _ => Option AV) (none) (fun cs => nth cs off) (findRead j es c n rd))) () (fun _ _ _ _ => ()) (p))
def loadNO (rd : List FRead) (gl : Tr (List AV)) (n : Nat) (p : AV) (h : AH) : Option AV :=
  (AV.rec (motive_1 := fun _ => Option AV) (motive_2 := fun _ => Unit) (fun _ => none) (fun _ _ => none) (fun _ _ => none) (fun _ => none) (fun _ _ => none) (fun g off => (Option.rec (motive := fun _ => Option AV) (none) (fun cs => (Option.rec (motive := fun _ => Option AV) (none) (fun l => some (AV.agg l)) (slice1 cs off n))) (gl.get g))) (fun i off => (Option.rec (motive := fun _ => Option AV) (none) (fun o => (AO.rec (motive := fun _ => Option AV) (fun cs ro es => (Option.rec (motive := fun _ => Option AV) (none) (fun l => some (AV.agg l)) (slice1 cs off n))) (fun _ _ => none) (fun _ _ _ _ _ => none) (o))) (h.objs.get i))) (none) (fun _ _ _ _ _ => none) (fun _ _ _ _ _ => none) (none) (fun _ => none) (none) (fun _ _ _ _ _ => none) (none) (fun _ _ _ => none) (none) (fun _ _ => none) (fun _ _ => none) (fun _ => none) (fun _ => none) (fun j es c m off => (Option.rec (motive := fun _ => Option AV) (none) (fun cs => (Option.rec (motive := fun _ => Option AV) (none) (fun l => some (AV.agg l)) (slice1 cs off n))) (findRead j es c m rd))) () (fun _ _ _ _ => ()) (p))

/-! ### a region whose order is open -/
def avEqR : AV → AV → Bool :=
  AV.rec (motive_1 := fun _ => AV → Bool) (motive_2 := fun _ => List AV → Bool)
    (fun a y => (AV.rec (motive_1 := fun _ => Bool) (motive_2 := fun _ => Unit) (fun b => boolEqR a b) (fun _ _ => false) (fun _ _ => false) (fun _ => false) (fun _ _ => false) (fun _ _ => false) (fun _ _ => false) (false) (fun _ _ _ _ _ => false) (fun _ _ _ _ _ => false) (false) (fun _ => false) (false) (fun _ _ _ _ _ => false) (false) (fun _ _ _ => false) (false) (fun _ _ => false) (fun _ _ => false) (fun _ => false) (fun _ => false) (fun _ _ _ _ _ => false) () (fun _ _ _ _ => ()) (y)))
    (fun k a y => (AV.rec (motive_1 := fun _ => Bool) (motive_2 := fun _ => Unit) (fun _ => false) (fun j b => (Bool.rec (motive := fun _ => Bool) (false) (eqIF a b) (Nat.beq (kTag k) (kTag j)))) (fun _ _ => false) (fun _ => false) (fun _ _ => false) (fun _ _ => false) (fun _ _ => false) (false) (fun _ _ _ _ _ => false) (fun _ _ _ _ _ => false) (false) (fun _ => false) (false) (fun _ _ _ _ _ => false) (false) (fun _ _ _ => false) (false) (fun _ _ => false) (fun _ _ => false) (fun _ => false) (fun _ => false) (fun _ _ _ _ _ => false) () (fun _ _ _ _ => ()) (y)))
    (fun k a y => (AV.rec (motive_1 := fun _ => Bool) (motive_2 := fun _ => Unit) (fun _ => false) (fun _ _ => false) (fun j b => (Bool.rec (motive := fun _ => Bool) (false) (Nat.beq a b) (Nat.beq (kTag k) (kTag j)))) (fun _ => false) (fun _ _ => false) (fun _ _ => false) (fun _ _ => false) (false) (fun _ _ _ _ _ => false) (fun _ _ _ _ _ => false) (false) (fun _ => false) (false) (fun _ _ _ _ _ => false) (false) (fun _ _ _ => false) (false) (fun _ _ => false) (fun _ _ => false) (fun _ => false) (fun _ => false) (fun _ _ _ _ _ => false) () (fun _ _ _ _ => ()) (y)))
    (fun a y => (AV.rec (motive_1 := fun _ => Bool) (motive_2 := fun _ => Unit) (fun _ => false) (fun _ _ => false) (fun _ _ => false) (fun b => strEq a b) (fun _ _ => false) (fun _ _ => false) (fun _ _ => false) (false) (fun _ _ _ _ _ => false) (fun _ _ _ _ _ => false) (false) (fun _ => false) (false) (fun _ _ _ _ _ => false) (false) (fun _ _ _ => false) (false) (fun _ _ => false) (fun _ _ => false) (fun _ => false) (fun _ => false) (fun _ _ _ _ _ => false) () (fun _ _ _ _ => ()) (y)))
    (fun _ ih y => (AV.rec (motive_1 := fun _ => Bool) (motive_2 := fun _ => Unit) (fun _ => false) (fun _ _ => false) (fun _ _ => false) (fun _ => false) (fun b _ => ih b) (fun _ _ => false) (fun _ _ => false) (false) (fun _ _ _ _ _ => false) (fun _ _ _ _ _ => false) (false) (fun _ => false) (false) (fun _ _ _ _ _ => false) (false) (fun _ _ _ => false) (false) (fun _ _ => false) (fun _ _ => false) (fun _ => false) (fun _ => false) (fun _ _ _ _ _ => false) () (fun _ _ _ _ => ()) (y)))
    (fun g o y => (AV.rec (motive_1 := fun _ => Bool) (motive_2 := fun _ => Unit) (fun _ => false) (fun _ _ => false) (fun _ _ => false) (fun _ => false) (fun _ _ => false) (fun j p => (Bool.rec (motive := fun _ => Bool) (false) (Nat.beq o p) (Nat.beq g j))) (fun _ _ => false) (false) (fun _ _ _ _ _ => false) (fun _ _ _ _ _ => false) (false) (fun _ => false) (false) (fun _ _ _ _ _ => false) (false) (fun _ _ _ => false) (false) (fun _ _ => false) (fun _ _ => false) (fun _ => false) (fun _ => false) (fun _ _ _ _ _ => false) () (fun _ _ _ _ => ()) (y)))
    (fun g o y => (AV.rec (motive_1 := fun _ => Bool) (motive_2 := fun _ => Unit) (fun _ => false) (fun _ _ => false) (fun _ _ => false) (fun _ => false) (fun _ _ => false) (fun _ _ => false) (fun j p => (Bool.rec (motive := fun _ => Bool) (false) (Nat.beq o p) (Nat.beq g j))) (false) (fun _ _ _ _ _ => false) (fun _ _ _ _ _ => false) (false) (fun _ => false) (false) (fun _ _ _ _ _ => false) (false) (fun _ _ _ => false) (false) (fun _ _ => false) (fun _ _ => false) (fun _ => false) (fun _ => false) (fun _ _ _ _ _ => false) () (fun _ _ _ _ => ()) (y)))
    (fun y => (AV.rec (motive_1 := fun _ => Bool) (motive_2 := fun _ => Unit) (fun _ => false) (fun _ _ => false) (fun _ _ => false) (fun _ => false) (fun _ _ => false) (fun _ _ => false) (fun _ _ => false) (true) (fun _ _ _ _ _ => false) (fun _ _ _ _ _ => false) (false) (fun _ => false) (false) (fun _ _ _ _ _ => false) (false) (fun _ _ _ => false) (false) (fun _ _ => false) (fun _ _ => false) (fun _ => false) (fun _ => false) (fun _ _ _ _ _ => false) () (fun _ _ _ _ => ()) (y)))
    (fun i o e l c y => (AV.rec (motive_1 := fun _ => Bool) (motive_2 := fun _ => Unit) (fun _ => false) (fun _ _ => false) (fun _ _ => false) (fun _ => false) (fun _ _ => false) (fun _ _ => false) (fun _ _ => false) (false) (fun j p f m d => (Bool.rec (motive := fun _ => Bool) (false) ((Bool.rec (motive := fun _ => Bool) (false) ((Bool.rec (motive := fun _ => Bool) (false) ((Bool.rec (motive := fun _ => Bool) (false) ((Option.rec (motive := fun _ => Bool) ((Option.rec (motive := fun _ => Bool) (true) (fun x => false) (d))) (fun c2 => (Option.rec (motive := fun _ => Bool) (false) (fun d2 => Nat.beq c2 d2) (d))) (c))) (Nat.beq l m))) (Nat.beq e f))) (Nat.beq o p))) (Nat.beq i j))) (fun _ _ _ _ _ => false) (false) (fun _ => false) (false) (fun _ _ _ _ _ => false) (false) (fun _ _ _ => false) (false) (fun _ _ => false) (fun _ _ => false) (fun _ => false) (fun _ => false) (fun _ _ _ _ _ => false) () (fun _ _ _ _ => ()) (y)))
    (fun _ _ _ _ _ _ => false)
    (fun y => (AV.rec (motive_1 := fun _ => Bool) (motive_2 := fun _ => Unit) (fun _ => false) (fun _ _ => false) (fun _ _ => false) (fun _ => false) (fun _ _ => false) (fun _ _ => false) (fun _ _ => false) (false) (fun _ _ _ _ _ => false) (fun _ _ _ _ _ => false) (true) (fun _ => false) (false) (fun _ _ _ _ _ => false) (false) (fun _ _ _ => false) (false) (fun _ _ => false) (fun _ _ => false) (fun _ => false) (fun _ => false) (fun _ _ _ _ _ => false) () (fun _ _ _ _ => ()) (y)))
    (fun i y => (AV.rec (motive_1 := fun _ => Bool) (motive_2 := fun _ => Unit) (fun _ => false) (fun _ _ => false) (fun _ _ => false) (fun _ => false) (fun _ _ => false) (fun _ _ => false) (fun _ _ => false) (false) (fun _ _ _ _ _ => false) (fun _ _ _ _ _ => false) (false) (fun j => Nat.beq i j) (false) (fun _ _ _ _ _ => false) (false) (fun _ _ _ => false) (false) (fun _ _ => false) (fun _ _ => false) (fun _ => false) (fun _ => false) (fun _ _ _ _ _ => false) () (fun _ _ _ _ => ()) (y)))
    (fun y => (AV.rec (motive_1 := fun _ => Bool) (motive_2 := fun _ => Unit) (fun _ => false) (fun _ _ => false) (fun _ _ => false) (fun _ => false) (fun _ _ => false) (fun _ _ => false) (fun _ _ => false) (false) (fun _ _ _ _ _ => false) (fun _ _ _ _ _ => false) (false) (fun _ => false) (true) (fun _ _ _ _ _ => false) (false) (fun _ _ _ => false) (false) (fun _ _ => false) (fun _ _ => false) (fun _ => false) (fun _ => false) (fun _ _ _ _ _ => false) () (fun _ _ _ _ => ()) (y)))
    (fun f _ _ iha ihb y => (AV.rec (motive_1 := fun _ => Bool) (motive_2 := fun _ => Unit) (fun _ => false) (fun _ _ => false) (fun _ _ => false) (fun _ => false) (fun _ _ => false) (fun _ _ => false) (fun _ _ => false) (false) (fun _ _ _ _ _ => false) (fun _ _ _ _ _ => false) (false) (fun _ => false) (false) (fun g c d _ _ => (Bool.rec (motive := fun _ => Bool) (false) ((Bool.rec (motive := fun _ => Bool) (false) (ihb d) (iha c))) (Nat.beq f g))) (false) (fun _ _ _ => false) (false) (fun _ _ => false) (fun _ _ => false) (fun _ => false) (fun _ => false) (fun _ _ _ _ _ => false) () (fun _ _ _ _ => ()) (y)))
    (fun y => (AV.rec (motive_1 := fun _ => Bool) (motive_2 := fun _ => Unit) (fun _ => false) (fun _ _ => false) (fun _ _ => false) (fun _ => false) (fun _ _ => false) (fun _ _ => false) (fun _ _ => false) (false) (fun _ _ _ _ _ => false) (fun _ _ _ _ _ => false) (false) (fun _ => false) (false) (fun _ _ _ _ _ => false) (true) (fun _ _ _ => false) (false) (fun _ _ => false) (fun _ _ => false) (fun _ => false) (fun _ => false) (fun _ _ _ _ _ => false) () (fun _ _ _ _ => ()) (y)))
    (fun _ _ _ _ => false)
    (fun y => (AV.rec (motive_1 := fun _ => Bool) (motive_2 := fun _ => Unit) (fun _ => false) (fun _ _ => false) (fun _ _ => false) (fun _ => false) (fun _ _ => false) (fun _ _ => false) (fun _ _ => false) (false) (fun _ _ _ _ _ => false) (fun _ _ _ _ _ => false) (false) (fun _ => false) (false) (fun _ _ _ _ _ => false) (false) (fun _ _ _ => false) (true) (fun _ _ => false) (fun _ _ => false) (fun _ => false) (fun _ => false) (fun _ _ _ _ _ => false) () (fun _ _ _ _ => ()) (y)))
    (fun _ ih y => (AV.rec (motive_1 := fun _ => Bool) (motive_2 := fun _ => Unit) (fun _ => false) (fun _ _ => false) (fun _ _ => false) (fun _ => false) (fun _ _ => false) (fun _ _ => false) (fun _ _ => false) (false) (fun _ _ _ _ _ => false) (fun _ _ _ _ _ => false) (false) (fun _ => false) (false) (fun _ _ _ _ _ => false) (false) (fun _ _ _ => false) (false) (fun b _ => ih b) (fun _ _ => false) (fun _ => false) (fun _ => false) (fun _ _ _ _ _ => false) () (fun _ _ _ _ => ()) (y)))
    (fun _ ih y => (AV.rec (motive_1 := fun _ => Bool) (motive_2 := fun _ => Unit) (fun _ => false) (fun _ _ => false) (fun _ _ => false) (fun _ => false) (fun _ _ => false) (fun _ _ => false) (fun _ _ => false) (false) (fun _ _ _ _ _ => false) (fun _ _ _ _ _ => false) (false) (fun _ => false) (false) (fun _ _ _ _ _ => false) (false) (fun _ _ _ => false) (false) (fun _ _ => false) (fun b _ => ih b) (fun _ => false) (fun _ => false) (fun _ _ _ _ _ => false) () (fun _ _ _ _ => ()) (y)))
    (fun _ _ => false)
    (fun i y => (AV.rec (motive_1 := fun _ => Bool) (motive_2 := fun _ => Unit) (fun _ => false) (fun _ _ => false) (fun _ _ => false) (fun _ => false) (fun _ _ => false) (fun _ _ => false) (fun _ _ => false) (false) (fun _ _ _ _ _ => false) (fun _ _ _ _ _ => false) (false) (fun _ => false) (false) (fun _ _ _ _ _ => false) (false) (fun _ _ _ => false) (false) (fun _ _ => false) (fun _ _ => false) (fun _ => false) (fun j => Nat.beq i j) (fun _ _ _ _ _ => false) () (fun _ _ _ _ => ()) (y)))
    (fun i e c n o y => (AV.rec (motive_1 := fun _ => Bool) (motive_2 := fun _ => Unit) (fun _ => false) (fun _ _ => false) (fun _ _ => false) (fun _ => false) (fun _ _ => false) (fun _ _ => false) (fun _ _ => false) (false) (fun _ _ _ _ _ => false) (fun _ _ _ _ _ => false) (false) (fun _ => false) (false) (fun _ _ _ _ _ => false) (false) (fun _ _ _ => false) (false) (fun _ _ => false) (fun _ _ => false) (fun _ => false) (fun _ => false) (fun j f d m p => (Bool.rec (motive := fun _ => Bool) (false) ((Bool.rec (motive := fun _ => Bool) (false) ((Bool.rec (motive := fun _ => Bool) (false) ((Bool.rec (motive := fun _ => Bool) (false) (Nat.beq o p) (Nat.beq n m))) (boolEqR c d))) (Nat.beq e f))) (Nat.beq i j))) () (fun _ _ _ _ => ()) (y)))
    (fun y => (List.rec (motive := fun _ => Bool) (true) (fun b t _ => false) (y)))
    (fun _ _ iha ihl y => (List.rec (motive := fun _ => Bool) (false) (fun b t _ => (Bool.rec (motive := fun _ => Bool) (false) (ihl t) (iha b))) (y)))
def avsEqR : List AV → List AV → Bool :=
  AV.rec_1 (motive_1 := fun _ => AV → Bool) (motive_2 := fun _ => List AV → Bool)
    (fun a y => (AV.rec (motive_1 := fun _ => Bool) (motive_2 := fun _ => Unit) (fun b => boolEqR a b) (fun _ _ => false) (fun _ _ => false) (fun _ => false) (fun _ _ => false) (fun _ _ => false) (fun _ _ => false) (false) (fun _ _ _ _ _ => false) (fun _ _ _ _ _ => false) (false) (fun _ => false) (false) (fun _ _ _ _ _ => false) (false) (fun _ _ _ => false) (false) (fun _ _ => false) (fun _ _ => false) (fun _ => false) (fun _ => false) (fun _ _ _ _ _ => false) () (fun _ _ _ _ => ()) (y)))
    (fun k a y => (AV.rec (motive_1 := fun _ => Bool) (motive_2 := fun _ => Unit) (fun _ => false) (fun j b => (Bool.rec (motive := fun _ => Bool) (false) (eqIF a b) (Nat.beq (kTag k) (kTag j)))) (fun _ _ => false) (fun _ => false) (fun _ _ => false) (fun _ _ => false) (fun _ _ => false) (false) (fun _ _ _ _ _ => false) (fun _ _ _ _ _ => false) (false) (fun _ => false) (false) (fun _ _ _ _ _ => false) (false) (fun _ _ _ => false) (false) (fun _ _ => false) (fun _ _ => false) (fun _ => false) (fun _ => false) (fun _ _ _ _ _ => false) () (fun _ _ _ _ => ()) (y)))
    (fun k a y => (AV.rec (motive_1 := fun _ => Bool) (motive_2 := fun _ => Unit) (fun _ => false) (fun _ _ => false) (fun j b => (Bool.rec (motive := fun _ => Bool) (false) (Nat.beq a b) (Nat.beq (kTag k) (kTag j)))) (fun _ => false) (fun _ _ => false) (fun _ _ => false) (fun _ _ => false) (false) (fun _ _ _ _ _ => false) (fun _ _ _ _ _ => false) (false) (fun _ => false) (false) (fun _ _ _ _ _ => false) (false) (fun _ _ _ => false) (false) (fun _ _ => false) (fun _ _ => false) (fun _ => false) (fun _ => false) (fun _ _ _ _ _ => false) () (fun _ _ _ _ => ()) (y)))
    (fun a y => (AV.rec (motive_1 := fun _ => Bool) (motive_2 := fun _ => Unit) (fun _ => false) (fun _ _ => false) (fun _ _ => false) (fun b => strEq a b) (fun _ _ => false) (fun _ _ => false) (fun _ _ => false) (false) (fun _ _ _ _ _ => false) (fun _ _ _ _ _ => false) (false) (fun _ => false) (false) (fun _ _ _ _ _ => false) (false) (fun _ _ _ => false) (false) (fun _ _ => false) (fun _ _ => false) (fun _ => false) (fun _ => false) (fun _ _ _ _ _ => false) () (fun _ _ _ _ => ()) (y)))
    (fun _ ih y => (AV.rec (motive_1 := fun _ => Bool) (motive_2 := fun _ => Unit) (fun _ => false) (fun _ _ => false) (fun _ _ => false) (fun _ => false) (fun b _ => ih b) (fun _ _ => false) (fun _ _ => false) (false) (fun _ _ _ _ _ => false) (fun _ _ _ _ _ => false) (false) (fun _ => false) (false) (fun _ _ _ _ _ => false) (false) (fun _ _ _ => false) (false) (fun _ _ => false) (fun _ _ => false) (fun _ => false) (fun _ => false) (fun _ _ _ _ _ => false) () (fun _ _ _ _ => ()) (y)))
    (fun g o y => (AV.rec (motive_1 := fun _ => Bool) (motive_2 := fun _ => Unit) (fun _ => false) (fun _ _ => false) (fun _ _ => false) (fun _ => false) (fun _ _ => false) (fun j p => (Bool.rec (motive := fun _ => Bool) (false) (Nat.beq o p) (Nat.beq g j))) (fun _ _ => false) (false) (fun _ _ _ _ _ => false) (fun _ _ _ _ _ => false) (false) (fun _ => false) (false) (fun _ _ _ _ _ => false) (false) (fun _ _ _ => false) (false) (fun _ _ => false) (fun _ _ => false) (fun _ => false) (fun _ => false) (fun _ _ _ _ _ => false) () (fun _ _ _ _ => ()) (y)))
    (fun g o y => (AV.rec (motive_1 := fun _ => Bool) (motive_2 := fun _ => Unit) (fun _ => false) (fun _ _ => false) (fun _ _ => false) (fun _ => false) (fun _ _ => false) (fun _ _ => false) (fun j p => (Bool.rec (motive := fun _ => Bool) (false) (Nat.beq o p) (Nat.beq g j))) (false) (fun _ _ _ _ _ => false) (fun _ _ _ _ _ => false) (false) (fun _ => false) (false) (fun _ _ _ _ _ => false) (false) (fun _ _ _ => false) (false) (fun _ _ => false) (fun _ _ => false) (fun _ => false) (fun _ => false) (fun _ _ _ _ _ => false) () (fun _ _ _ _ => ()) (y)))
    (fun y => (AV.rec (motive_1 := fun _ => Bool) (motive_2 := fun _ => Unit) (fun _ => false) (fun _ _ => false) (fun _ _ => false) (fun _ => false) (fun _ _ => false) (fun _ _ => false) (fun _ _ => false) (true) (fun _ _ _ _ _ => false) (fun _ _ _ _ _ => false) (false) (fun _ => false) (false) (fun _ _ _ _ _ => false) (false) (fun _ _ _ => false) (false) (fun _ _ => false) (fun _ _ => false) (fun _ => false) (fun _ => false) (fun _ _ _ _ _ => false) () (fun _ _ _ _ => ()) (y)))
    (fun i o e l c y => (AV.rec (motive_1 := fun _ => Bool) (motive_2 := fun _ => Unit) (fun _ => false) (fun _ _ => false) (fun _ _ => false) (fun _ => false) (fun _ _ => false) (fun _ _ => false) (fun _ _ => false) (false) (fun j p f m d => (Bool.rec (motive := fun _ => Bool) (false) ((Bool.rec (motive := fun _ => Bool) (false) ((Bool.rec (motive := fun _ => Bool) (false) ((Bool.rec (motive := fun _ => Bool) (false) ((Option.rec (motive := fun _ => Bool) ((Option.rec (motive := fun _ => Bool) (true) (fun x => false) (d))) (fun c2 => (Option.rec (motive := fun _ => Bool) (false) (fun d2 => Nat.beq c2 d2) (d))) (c))) (Nat.beq l m))) (Nat.beq e f))) (Nat.beq o p))) (Nat.beq i j))) (fun _ _ _ _ _ => false) (false) (fun _ => false) (false) (fun _ _ _ _ _ => false) (false) (fun _ _ _ => false) (false) (fun _ _ => false) (fun _ _ => false) (fun _ => false) (fun _ => false) (fun _ _ _ _ _ => false) () (fun _ _ _ _ => ()) (y)))
    (fun _ _ _ _ _ _ => false)
    (fun y => (AV.rec (motive_1 := fun _ => Bool) (motive_2 := fun _ => Unit) (fun _ => false) (fun _ _ => false) (fun _ _ => false) (fun _ => false) (fun _ _ => false) (fun _ _ => false) (fun _ _ => false) (false) (fun _ _ _ _ _ => false) (fun _ _ _ _ _ => false) (true) (fun _ => false) (false) (fun _ _ _ _ _ => false) (false) (fun _ _ _ => false) (false) (fun _ _ => false) (fun _ _ => false) (fun _ => false) (fun _ => false) (fun _ _ _ _ _ => false) () (fun _ _ _ _ => ()) (y)))
    (fun i y => (AV.rec (motive_1 := fun _ => Bool) (motive_2 := fun _ => Unit) (fun _ => false) (fun _ _ => false) (fun _ _ => false) (fun _ => false) (fun _ _ => false) (fun _ _ => false) (fun _ _ => false) (false) (fun _ _ _ _ _ => false) (fun _ _ _ _ _ => false) (false) (fun j => Nat.beq i j) (false) (fun _ _ _ _ _ => false) (false) (fun _ _ _ => false) (false) (fun _ _ => false) (fun _ _ => false) (fun _ => false) (fun _ => false) (fun _ _ _ _ _ => false) () (fun _ _ _ _ => ()) (y)))
    (fun y => (AV.rec (motive_1 := fun _ => Bool) (motive_2 := fun _ => Unit) (fun _ => false) (fun _ _ => false) (fun _ _ => false) (fun _ => false) (fun _ _ => false) (fun _ _ => false) (fun _ _ => false) (false) (fun _ _ _ _ _ => false) (fun _ _ _ _ _ => false) (false) (fun _ => false) (true) (fun _ _ _ _ _ => false) (false) (fun _ _ _ => false) (false) (fun _ _ => false) (fun _ _ => false) (fun _ => false) (fun _ => false) (fun _ _ _ _ _ => false) () (fun _ _ _ _ => ()) (y)))
    (fun f _ _ iha ihb y => (AV.rec (motive_1 := fun _ => Bool) (motive_2 := fun _ => Unit) (fun _ => false) (fun _ _ => false) (fun _ _ => false) (fun _ => false) (fun _ _ => false) (fun _ _ => false) (fun _ _ => false) (false) (fun _ _ _ _ _ => false) (fun _ _ _ _ _ => false) (false) (fun _ => false) (false) (fun g c d _ _ => (Bool.rec (motive := fun _ => Bool) (false) ((Bool.rec (motive := fun _ => Bool) (false) (ihb d) (iha c))) (Nat.beq f g))) (false) (fun _ _ _ => false) (false) (fun _ _ => false) (fun _ _ => false) (fun _ => false) (fun _ => false) (fun _ _ _ _ _ => false) () (fun _ _ _ _ => ()) (y)))
    (fun y => (AV.rec (motive_1 := fun _ => Bool) (motive_2 := fun _ => Unit) (fun _ => false) (fun _ _ => false) (fun _ _ => false) (fun _ => false) (fun _ _ => false) (fun _ _ => false) (fun _ _ => false) (false) (fun _ _ _ _ _ => false) (fun _ _ _ _ _ => false) (false) (fun _ => false) (false) (fun _ _ _ _ _ => false) (true) (fun _ _ _ => false) (false) (fun _ _ => false) (fun _ _ => false) (fun _ => false) (fun _ => false) (fun _ _ _ _ _ => false) () (fun _ _ _ _ => ()) (y)))
    (fun _ _ _ _ => false)
    (fun y => (AV.rec (motive_1 := fun _ => Bool) (motive_2 := fun _ => Unit) (fun _ => false) (fun _ _ => false) (fun _ _ => false) (fun _ => false) (fun _ _ => false) (fun _ _ => false) (fun _ _ => false) (false) (fun _ _ _ _ _ => false) (fun _ _ _ _ _ => false) (false) (fun _ => false) (false) (fun _ _ _ _ _ => false) (false) (fun _ _ _ => false) (true) (fun _ _ => false) (fun _ _ => false) (fun _ => false) (fun _ => false) (fun _ _ _ _ _ => false) () (fun _ _ _ _ => ()) (y)))
    (fun _ ih y => (AV.rec (motive_1 := fun _ => Bool) (motive_2 := fun _ => Unit) (fun _ => false) (fun _ _ => false) (fun _ _ => false) (fun _ => false) (fun _ _ => false) (fun _ _ => false) (fun _ _ => false) (false) (fun _ _ _ _ _ => false) (fun _ _ _ _ _ => false) (false) (fun _ => false) (false) (fun _ _ _ _ _ => false) (false) (fun _ _ _ => false) (false) (fun b _ => ih b) (fun _ _ => false) (fun _ => false) (fun _ => false) (fun _ _ _ _ _ => false) () (fun _ _ _ _ => ()) (y)))
    (fun _ ih y => (AV.rec (motive_1 := fun _ => Bool) (motive_2 := fun _ => Unit) (fun _ => false) (fun _ _ => false) (fun _ _ => false) (fun _ => false) (fun _ _ => false) (fun _ _ => false) (fun _ _ => false) (false) (fun _ _ _ _ _ => false) (fun _ _ _ _ _ => false) (false) (fun _ => false) (false) (fun _ _ _ _ _ => false) (false) (fun _ _ _ => false) (false) (fun _ _ => false) (fun b _ => ih b) (fun _ => false) (fun _ => false) (fun _ _ _ _ _ => false) () (fun _ _ _ _ => ()) (y)))
    (fun _ _ => false)
    (fun i y => (AV.rec (motive_1 := fun _ => Bool) (motive_2 := fun _ => Unit) (fun _ => false) (fun _ _ => false) (fun _ _ => false) (fun _ => false) (fun _ _ => false) (fun _ _ => false) (fun _ _ => false) (false) (fun _ _ _ _ _ => false) (fun _ _ _ _ _ => false) (false) (fun _ => false) (false) (fun _ _ _ _ _ => false) (false) (fun _ _ _ => false) (false) (fun _ _ => false) (fun _ _ => false) (fun _ => false) (fun j => Nat.beq i j) (fun _ _ _ _ _ => false) () (fun _ _ _ _ => ()) (y)))
    (fun i e c n o y => (AV.rec (motive_1 := fun _ => Bool) (motive_2 := fun _ => Unit) (fun _ => false) (fun _ _ => false) (fun _ _ => false) (fun _ => false) (fun _ _ => false) (fun _ _ => false) (fun _ _ => false) (false) (fun _ _ _ _ _ => false) (fun _ _ _ _ _ => false) (false) (fun _ => false) (false) (fun _ _ _ _ _ => false) (false) (fun _ _ _ => false) (false) (fun _ _ => false) (fun _ _ => false) (fun _ => false) (fun _ => false) (fun j f d m p => (Bool.rec (motive := fun _ => Bool) (false) ((Bool.rec (motive := fun _ => Bool) (false) ((Bool.rec (motive := fun _ => Bool) (false) ((Bool.rec (motive := fun _ => Bool) (false) (Nat.beq o p) (Nat.beq n m))) (boolEqR c d))) (Nat.beq e f))) (Nat.beq i j))) () (fun _ _ _ _ => ()) (y)))
    (fun y => (List.rec (motive := fun _ => Bool) (true) (fun b t _ => false) (y)))
    (fun _ _ iha ihl y => (List.rec (motive := fun _ => Bool) (false) (fun b t _ => (Bool.rec (motive := fun _ => Bool) (false) (ihl t) (iha b))) (y)))
structure RdF where
  run : Kn → Tm → AH → Option AV
def valO (r : AR) : Option AV := (AR.rec (motive := fun _ => Option AV) (fun v h => some v) (fun _ _ => none) (none) (r))
def readF (cx : Cx) (op : Op) : RdF := match op with
  | .load t p => match opF p, cx.tt.get t with
    | some p, some ty => match ty.agg with
      | true => ⟨fun q tm h => loadNO q.reads cx.globs ty.size (p.run tm) h⟩
      | false => ⟨fun q tm h => load1O q.reads cx.globs (p.run tm) h⟩
    | _, _ => ⟨fun _ _ _ => none⟩
  | op => ⟨fun q tm h => valO (aop (cx.put q) tm h op)⟩
def isSameR (v : AV) (r : Option AV) : Bool := (Option.rec (motive := fun _ => Bool) (false) (fun x => avEqR x v) (r))
def chkR (cx : Cx) (q : Kn) (sn : Tr AH) (r : Read) : List Nat → Bool :=
  List.rec (motive := fun _ => Bool) true (fun p _ ih => (Option.rec (motive := fun _ => Bool) (false) (fun h => (Bool.rec (motive := fun _ => Bool) (false) (ih) (isSameR r.v ((readF cx r.op).run q r.tm h)))) (sn.get p)))
def chksR (cx : Cx) (q : Kn) (sn : Tr AH) : List Read → Bool :=
  List.rec (motive := fun _ => Bool) true (fun r _ ih => (Bool.rec (motive := fun _ => Bool) (false) (ih) (chkR cx q sn r r.ps)))
abbrev DK := Tm → AH → Tr AH → List Read → AOut
structure DX where
  step : Kn → DK → CallF → Tm → AH → Tr AH → List Read → AOut
def noCall : CallF := fun _ _ _ => none
def headL (pl : List (List Nat)) : List Nat := match pl with
  | p :: _ => p
  | [] => []
/-- an operation that is wanted -/
def drawO (x : OpX) (k : Nat) (op : Op) (d : Option Nat) (ps : List Nat) : DX := match isE op with
  | true => match ps with
    | [] => ⟨fun q K cf tm h sn rd => x.step q (fun tm2 h2 => K tm2 h2 (Tr.setG (some h) sn k) rd) cf tm h⟩
    | _ => ⟨fun _ _ _ _ _ _ _ => .no⟩
  | false => match ps with
    | [] => ⟨fun q K _ tm h sn rd => x.step q (fun tm2 h2 => K tm2 h2 sn rd) noCall tm h⟩
    | p :: qs => match d with
      | some d => ⟨fun q K _ tm h sn rd => x.step q (fun tm2 h2 => K tm2 h2 sn (Read.mk (p :: qs) op tm ((getF d).run tm2) :: rd)) noCall tm h⟩
      | none => ⟨fun _ _ _ _ _ _ _ => .no⟩
def drawL (cx : Cx) (all : List Oper) (k : Nat) (o : Oper) (ps : List Nat) : DX := match wantF all o with
  | none => drawO (opX cx o.op (putF o.dst)) k o.op o.dst ps
  | some w => match isE o.op with
    | true => ⟨fun q K cf tm h sn rd => (Option.rec (motive := fun _ => AOut) (AOut.no) (fun b => (Bool.rec (motive := fun _ => AOut) (K ((putF o.dst).run AV.undef tm) h (Tr.setG (some h) sn k) rd) ((drawO (opX cx o.op (putF o.dst)) k o.op o.dst ps).step q K cf tm h sn rd) (b))) (w.run tm))⟩
    | false => ⟨fun q K cf tm h sn rd => (Option.rec (motive := fun _ => AOut) (AOut.no) (fun b => (Bool.rec (motive := fun _ => AOut) (K ((putF o.dst).run AV.undef tm) h sn rd) ((drawO (opX cx o.op (putF o.dst)) k o.op o.dst ps).step q K cf tm h sn rd) (b))) (w.run tm))⟩
def drawsX (cx : Cx) (all : List Oper) : Nat → List Oper → List (List Nat) → List DX
  | _, [], _ => []
  | k, o :: os, pl => drawL cx all k o (headL pl) :: drawsX cx all (k + 1) os (tl pl)
def runD (cx : Cx) (q : Kn) (n : Nat) (cf : CallF) (xs : List DX) : DK :=
  List.rec (motive := fun _ => DK) (fun tm h sn rd => (Bool.rec (motive := fun _ => AOut) (AOut.no) (AOut.norm tm h) (chksR cx q (Tr.setG (some h) sn n) rd))) (fun x _ ih tm h sn rd => x.step q ih cf tm h sn rd) xs
structure DL where
  l : List DX
def drawsL (cx : Cx) (ops : List Oper) (pl : List (List Nat)) : DL := ⟨drawsX cx ops 0 ops pl⟩

/-! ### code -/
structure CW where
  run : Kn → CallF → Tm → AH → AOut
def condK (a b : K) (tm : Tm) (h : AH) (x : AV) : AOut := (AV.rec (motive_1 := fun _ => AOut) (motive_2 := fun _ => Unit) (fun t => (Bool.rec (motive := fun _ => AOut) (b tm h) (a tm h) (t))) (fun _ _ => AOut.no) (fun _ _ => AOut.no) (fun _ => AOut.no) (fun _ _ => AOut.no) (fun _ _ => AOut.no) (fun _ _ => AOut.no) (AOut.no) (fun _ _ _ _ _ => AOut.no) (fun _ _ _ _ _ => AOut.no) (AOut.no) (fun _ => AOut.no) (AOut.no) (fun _ _ _ _ _ => AOut.no) (AOut.no) (fun _ _ _ => AOut.no) (AOut.no) (fun _ _ => AOut.no) (fun _ _ => AOut.no) (fun _ => AOut.no) (fun _ => AOut.no) (fun _ _ _ _ _ => AOut.no) () (fun _ _ _ _ => ()) (x))
def seqK (b : K) (r : AOut) : AOut := (AOut.rec (motive := fun _ => AOut) (fun tm h => b tm h) (fun i tm h => AOut.exit i tm h) (fun tm h => AOut.ret tm h) (AOut.no) (r))
def blockK (id : Nat) (r : AOut) : AOut := (AOut.rec (motive := fun _ => AOut) (fun tm h => AOut.norm tm h) (fun i tm h => (Bool.rec (motive := fun _ => AOut) (AOut.exit i tm h) (AOut.norm tm h) (Nat.beq i id))) (fun tm h => AOut.ret tm h) (AOut.no) (r))
def loopK (a : K) (n : Nat) : Tm → AH → AOut := Nat.rec (motive := fun _ => Tm → AH → AOut) (fun _ _ => AOut.no) (fun _ ih tm h => seqK ih (a tm h)) n
/-! ### loops over maps -/
def holesR (D : List Nat) : Nat → Tm → Tm := List.rec (motive := fun _ => Nat → Tm → Tm) (fun _ tm => tm) (fun t _ ih n tm => ih (Nat.succ n) ((setF t).run (AV.hole n) tm)) D
def noLog (x : Hp AO) : Hp AO := Hp.mk x.lo x.hi []
def headB (h : AH) (i m since : Nat) (seen : List Nat) (nD : Nat) : AH := AH.mk (noLog (Hp.put (some (AO.iter (some m) since since seen (some h.next))) h.objs i)) (Nat.add (Nat.succ h.next) nD)
def lenN (l : List Nat) : Nat := List.rec (motive := fun _ => Nat) 0 (fun _ _ ih => Nat.succ ih) l
/-- a round with the entry e -/
def mapRound (body : K) (S : MapSh) (i m since : Nat) (tm : Tm) (h : AH) (e : AV × AV × Nat) : AOut :=
  body ((setF S.c).run (AV.bool true) ((setF S.t).run (AV.tup [.bool true, e.1, e.2.1]) (holesR S.D (Nat.succ h.next) tm))) (headB h i m since [e.2.2] (lenN S.D))
/-- nothing is left -/
def mapOver (body : K) (S : MapSh) (i m since : Nat) (tm : Tm) (h : AH) : AOut :=
  body ((setF S.c).run (AV.bool false) ((setF S.t).run (AV.tup [.bool false]) (holesR S.D (Nat.succ h.next) tm))) (headB h i m since [] (lenN S.D))
def sameR (a b : Tm) (W : List Nat) : Bool := List.rec (motive := fun _ => Bool) true (fun t _ ih => (Bool.rec (motive := fun _ => Bool) (false) (ih) (avEqR ((getF t).run a) ((getF t).run b)))) W
def allGeR (n : Nat) (l : List Nat) : Bool := List.rec (motive := fun _ => Bool) true (fun j _ ih => (Bool.rec (motive := fun _ => Bool) (false) (ih) (Nat.ble n j))) l
def quietR (W : List Nat) (n : Nat) (tm : Tm) (o : AOut) : Bool := (AOut.rec (motive := fun _ => Bool) (fun tm2 h2 => (Bool.rec (motive := fun _ => Bool) (false) (allGeR n h2.objs.log) (sameR tm2 tm W))) (fun _ _ _ => false) (fun _ _ => false) (false) (o))
def ifQuiet (W : List Nat) (n : Nat) (tm : Tm) (e : AV × AV × Nat) (ih : List (AV × AV × Nat)) (o : AOut) : List (AV × AV × Nat) := (Bool.rec (motive := fun _ => List (AV × AV × Nat)) (e :: ih) (ih) (quietR W n tm o))
/-- the entries whose rounds change something -/
def louds (body : K) (S : MapSh) (i m since : Nat) (tm : Tm) (h : AH) (es : List (AV × AV × Nat)) : List (AV × AV × Nat) :=
  List.rec (motive := fun _ => List (AV × AV × Nat)) [] (fun e _ ih => ifQuiet S.W h.next tm e ih (mapRound body S i m since tm h e)) es
/-- all entries but b are quiet -/
def quietBut (body : K) (S : MapSh) (i m since : Nat) (tm : Tm) (h : AH) (b : Nat) (es : List (AV × AV × Nat)) : Bool :=
  List.rec (motive := fun _ => Bool) true (fun e _ ih => (Bool.rec (motive := fun _ => Bool) ((Bool.rec (motive := fun _ => Bool) (false) (ih) (quietR S.W h.next tm (mapRound body S i m since tm h e)))) (ih) (Nat.beq e.2.2 b))) es
def appN (a b : List Nat) : List Nat := List.rec (motive := fun _ => List Nat) b (fun x _ ih => x :: ih) a
def mxN (a b : Nat) : Nat := (Bool.rec (motive := fun _ => Nat) (a) (b) (Nat.ble a b))
def nextO (o : AOut) : Nat := (AOut.rec (motive := fun _ => Nat) (fun tm h => h.next) (fun id tm h => h.next) (fun tm h => h.next) (0) (o))
/-- how far the rounds' names go -/
def topN (body : K) (S : MapSh) (i m since : Nat) (tm : Tm) (h : AH) (es : List (AV × AV × Nat)) : Nat :=
  List.rec (motive := fun _ => Nat) 0 (fun e _ ih => mxN (nextO (mapRound body S i m since tm h e)) ih) es
def relogH (N : Nat) (h : AH) (i : Nat) (h2 : AH) : AH := AH.mk (Hp.mk h2.objs.lo h2.objs.hi (appN h2.objs.log (i :: h.objs.log))) (mxN N h2.next)
def relog (N : Nat) (h : AH) (i : Nat) (o : AOut) : AOut := (AOut.rec (motive := fun _ => AOut) (fun tm h2 => AOut.no) (fun id tm h2 => AOut.exit id tm (relogH N h i h2)) (fun tm h2 => AOut.ret tm (relogH N h i h2)) (AOut.no) (o))
def isOne (b : Nat) (l : List Nat) : Bool := (List.rec (motive := fun _ => Bool) (false) (fun x r _ => (Bool.rec (motive := fun _ => Bool) (false) ((List.rec (motive := fun _ => Bool) (true) (fun y s _ => false) (r))) (Nat.beq x b))) (l))
def isSome (b : Nat) (x : Option Nat) : Bool := (Option.rec (motive := fun _ => Bool) (false) (fun y => Nat.beq y b) (x))
def bornGo (since : Nat) (es : List (AV × AV × Nat)) : Nat → Bool := List.rec (motive := fun _ => Nat → Bool) (fun p => Nat.ble p since) (fun e _ ih p => (Bool.rec (motive := fun _ => Bool) (false) (ih (Nat.succ e.2.2)) (Nat.ble p e.2.2))) es
/-- the stamps rise, and are less than this -/
def bornB (since : Nat) (es : List (AV × AV × Nat)) : Bool := bornGo since es 0
/-- behind the one loud round -/
def mapAfter (body : K) (S : MapSh) (i m since n b : Nat) (tm1 : Tm) (h1 : AH) : AOut :=
  (Option.rec (motive := fun _ => AOut) (AOut.no) (fun o => (AO.rec (motive := fun _ => AOut) (fun _ _ _ => AOut.no) (fun _ _ => AOut.no) (fun mo s l seen pre => (Bool.rec (motive := fun _ => AOut) (AOut.no) ((Bool.rec (motive := fun _ => AOut) (AOut.no) ((Bool.rec (motive := fun _ => AOut) (AOut.no) ((Bool.rec (motive := fun _ => AOut) (AOut.no) ((Bool.rec (motive := fun _ => AOut) (AOut.no) ((Option.rec (motive := fun _ => AOut) (AOut.no) (fun o2 => (AO.rec (motive := fun _ => AOut) (fun _ _ _ => AOut.no) (fun es c => (Bool.rec (motive := fun _ => AOut) (AOut.no) ((Bool.rec (motive := fun _ => AOut) (AOut.no) ((Bool.rec (motive := fun _ => AOut) (AOut.no) ((Bool.rec (motive := fun _ => AOut) (AOut.no) (relog (topN body S i m since tm1 h1 es) h1 i (mapOver body S i m since tm1 h1)) (quietBut body S i m since tm1 h1 b es))) (avEqR ((getF S.it).run tm1) (AV.ptr i 0)))) (bornB since es))) (Nat.beq c since))) (fun _ _ _ _ _ => AOut.no) (o2))) (h1.objs.get m))) (isSome n pre))) (isOne b seen))) (Nat.beq l since))) (Nat.beq s since))) (isSome m mo))) (o))) (h1.objs.get i))
def mapLoud (body : K) (S : MapSh) (i m since n b : Nat) (o : AOut) : AOut :=
  (AOut.rec (motive := fun _ => AOut) (fun tm1 h1 => mapAfter body S i m since n b tm1 h1) (fun id tm1 h1 => AOut.exit id tm1 h1) (fun tm1 h1 => AOut.ret tm1 h1) (AOut.no) (o))
def many (es : List (AV × AV × Nat)) : Bool := (List.rec (motive := fun _ => Bool) (false) (fun a r _ => (List.rec (motive := fun _ => Bool) (false) (fun b s _ => true) (r))) (es))
/-! rounds that do away with their own entries -/
def memB (b : Nat) (l : List Nat) : Bool := List.rec (motive := fun _ => Bool) false (fun x _ ih => (Bool.rec (motive := fun _ => Bool) (ih) (true) (Nat.beq x b))) l
def keepE (sl : List Nat) (es : List (AV × AV × Nat)) : List (AV × AV × Nat) :=
  List.rec (motive := fun _ => List (AV × AV × Nat)) [] (fun e _ ih => (Bool.rec (motive := fun _ => List (AV × AV × Nat)) (e :: ih) (ih) (memB e.2.2 sl))) es
def stampsE (es : List (AV × AV × Nat)) : List Nat := List.rec (motive := fun _ => List Nat) [] (fun e _ ih => e.2.2 :: ih) es
def addB (L gone : List Nat) (b : Nat) : List Nat := List.rec (motive := fun _ => List Nat) [] (fun x _ ih => (Bool.rec (motive := fun _ => List Nat) ((Bool.rec (motive := fun _ => List Nat) (ih) (x :: ih) (Nat.beq x b))) (x :: ih) (memB x gone))) L
def goneH (m since : Nat) (h : AH) (es : List (AV × AV × Nat)) (gone : List Nat) : AH := AH.mk (Hp.put (some (AO.map (keepE gone es) since)) h.objs m) h.next
def onlyM (n m : Nat) (l : List Nat) : Bool := List.rec (motive := fun _ => Bool) true (fun j _ ih => (Bool.rec (motive := fun _ => Bool) ((Bool.rec (motive := fun _ => Bool) (false) (ih) (Nat.ble n j))) (ih) (Nat.beq j m))) l
def entsEqR (a : List (AV × AV × Nat)) : List (AV × AV × Nat) → Bool := List.rec (motive := fun _ => List (AV × AV × Nat) → Bool) (fun y => (List.rec (motive := fun _ => Bool) (true) (fun b t _ => false) (y))) (fun x _ ih y => (List.rec (motive := fun _ => Bool) (false) (fun b t _ => (Bool.rec (motive := fun _ => Bool) (false) ((Bool.rec (motive := fun _ => Bool) (false) ((Bool.rec (motive := fun _ => Bool) (false) (ih t) (Nat.beq x.2.2 b.2.2))) (avEqR x.2.1 b.2.1))) (avEqR x.1 b.1))) (y))) a
def isMapR (o : Option AO) (es : List (AV × AV × Nat)) (since : Nat) : Bool := (Option.rec (motive := fun _ => Bool) (false) (fun x => (AO.rec (motive := fun _ => Bool) (fun _ _ _ => false) (fun es2 c => (Bool.rec (motive := fun _ => Bool) (false) (entsEqR es2 es) (Nat.beq c since))) (fun _ _ _ _ _ => false) (x))) (o))
def delOut (W : List Nat) (n m since : Nat) (tm : Tm) (want : List (AV × AV × Nat)) (o : AOut) : Bool := (AOut.rec (motive := fun _ => Bool) (fun tm2 h2 => (Bool.rec (motive := fun _ => Bool) (false) ((Bool.rec (motive := fun _ => Bool) (false) (isMapR (h2.objs.get m) want since) (onlyM n m h2.objs.log))) (sameR tm2 tm W))) (fun _ _ _ => false) (fun _ _ => false) (false) (o))
def delOne (body : K) (S : MapSh) (i m since : Nat) (tm : Tm) (h : AH) (es : List (AV × AV × Nat)) (L gone : List Nat) (e : AV × AV × Nat) : Bool :=
  delOut S.W h.next m since tm (keepE (addB L gone e.2.2) es) (mapRound body S i m since tm (goneH m since h es gone) e)
def delAll (body : K) (S : MapSh) (i m since : Nat) (tm : Tm) (h : AH) (es : List (AV × AV × Nat)) (L gone : List Nat) : Bool :=
  List.rec (motive := fun _ => Bool) true (fun e _ ih => (Bool.rec (motive := fun _ => Bool) (false) (ih) (delOne body S i m since tm h es L gone e))) (keepE gone es)
def consL (x : Nat) (l : List (List Nat)) : List (List Nat) := List.rec (motive := fun _ => List (List Nat)) [] (fun s _ ih => (x :: s) :: ih) l
def appL (a b : List (List Nat)) : List (List Nat) := List.rec (motive := fun _ => List (List Nat)) b (fun x _ ih => x :: ih) a
def subsL (L : List Nat) : List (List Nat) := List.rec (motive := fun _ => List (List Nat)) [[]] (fun x _ ih => appL ih (consL x ih)) L
def allL (p : List Nat → Bool) (l : List (List Nat)) : Bool := List.rec (motive := fun _ => Bool) true (fun s _ ih => (Bool.rec (motive := fun _ => Bool) (false) (ih) (p s))) l
def topD (body : K) (S : MapSh) (i m since : Nat) (tm : Tm) (h : AH) (es : List (AV × AV × Nat)) (l : List (List Nat)) : Nat :=
  List.rec (motive := fun _ => Nat) 0 (fun s _ ih => mxN (topN body S i m since tm (goneH m since h es s) (keepE s es)) ih) l
def few8 (l : List Nat) : Bool := Nat.ble (List.rec (motive := fun _ => Nat) 0 (fun _ _ ih => Nat.succ ih) l) 8
def delRule (body : K) (S : MapSh) (i m since : Nat) (tm : Tm) (h : AH) (es : List (AV × AV × Nat)) (L : List Nat) : AOut :=
  (Bool.rec (motive := fun _ => AOut) (AOut.no) ((Bool.rec (motive := fun _ => AOut) (AOut.no) (relog (topD body S i m since tm h es (subsL L)) (goneH m since h es L) i (mapOver body S i m since tm (goneH m since h es L))) (allL (delAll body S i m since tm h es L) (subsL L)))) (few8 L))
def mapRule (body : K) (S : MapSh) (i m since : Nat) (tm : Tm) (h : AH) (es : List (AV × AV × Nat)) : AOut :=
  (List.rec (motive := fun _ => AOut) (relog (topN body S i m since tm h es) h i (mapOver body S i m since tm h)) (fun e r _ => (List.rec (motive := fun _ => AOut) (relog (topN body S i m since tm h es) h i (mapLoud body S i m since h.next e.2.2 (mapRound body S i m since tm h e))) (fun a b _ => delRule body S i m since tm h es (stampsE (louds body S i m since tm h es))) (r))) (louds body S i m since tm h es))
def mapLoop (body : K) (S : MapSh) (fall : AOut) (tm : Tm) (h : AH) : AOut :=
  (AV.rec (motive_1 := fun _ => AOut) (motive_2 := fun _ => Unit) (fun _ => fall) (fun _ _ => fall) (fun _ _ => fall) (fun _ => fall) (fun _ _ => fall) (fun _ _ => fall) (fun i off => (Bool.rec (motive := fun _ => AOut) (fall) ((Option.rec (motive := fun _ => AOut) (fall) (fun o => (AO.rec (motive := fun _ => AOut) (fun _ _ _ => fall) (fun _ _ => fall) (fun mo s l seen pre => (Option.rec (motive := fun _ => AOut) (fall) (fun m => (Bool.rec (motive := fun _ => AOut) (fall) ((List.rec (motive := fun _ => AOut) ((Option.rec (motive := fun _ => AOut) ((Option.rec (motive := fun _ => AOut) (fall) (fun o2 => (AO.rec (motive := fun _ => AOut) (fun _ _ _ => fall) (fun es c => (Bool.rec (motive := fun _ => AOut) (fall) ((Bool.rec (motive := fun _ => AOut) (fall) ((Bool.rec (motive := fun _ => AOut) (fall) (mapRule body S i m s tm h es) (bornB s es))) (Nat.beq c s))) (many es))) (fun _ _ _ _ _ => fall) (o2))) (h.objs.get m))) (fun y => fall) (pre))) (fun x r _ => fall) (seen))) (Nat.beq l s))) (mo))) (o))) (h.objs.get i))) (Nat.beq off 0))) (fall) (fun _ _ _ _ _ => fall) (fun _ _ _ _ _ => fall) (fall) (fun _ => fall) (fall) (fun _ _ _ _ _ => fall) (fall) (fun _ _ _ => fall) (fall) (fun _ _ => fall) (fun _ _ => fall) (fun _ => fall) (fun _ => fall) (fun _ _ _ _ _ => fall) () (fun _ _ _ _ => ()) ((getF S.it).run tm))
def loopX (S : Option MapSh) (A R : CW) : CW := match S with
  | none => ⟨fun q cf tm h => loopK (A.run q cf) 100000 tm h⟩
  | some S => ⟨fun q cf tm h => mapLoop (R.run q cf) S (loopK (A.run q cf) 100000 tm h) tm h⟩
def noCW : CW := ⟨fun _ _ _ _ => .no⟩
def den (cx : Cx) (g : Nat) : Code → CW
  | .skip => ⟨fun _ _ tm h => .norm tm h⟩
  | .label _ => ⟨fun _ _ tm h => .norm tm h⟩
  | .region id ops draw => match draw with
    | false => ⟨fun q cf tm h => runX q cf (regX cx ops.toList).l tm h⟩
    | true => match cx.plan.get g with
      | some t => match t.get id with
        | some pl => ⟨fun q cf tm h => runD cx q ops.toList.length cf (drawsL cx ops.toList pl).l tm h .nil []⟩
        | none => ⟨fun _ _ _ _ => .no⟩
      | none => ⟨fun _ _ _ _ => .no⟩
  | .seq a b => ⟨fun q cf tm h => seqK ((den cx g b).run q cf) ((den cx g a).run q cf tm h)⟩
  | .cond x a b => match opF x with
    | some x => ⟨fun q cf tm h => condK ((den cx g a).run q cf) ((den cx g b).run q cf) tm h (x.run tm)⟩
    | none => ⟨fun _ _ _ _ => .no⟩
  | .block id a => ⟨fun q cf tm h => blockK id ((den cx g a).run q cf tm h)⟩
  | .loop a => loopX (mapSh a) (den cx g a) (match a with
    | .seq _ b => den cx g b
    | _ => noCW)
  | .exit id => ⟨fun _ _ tm h => .exit id tm h⟩
  | .ret => ⟨fun _ _ tm h => .ret tm h⟩
  | .scope a => ⟨fun q cf tm h => (den cx g a).run q cf tm h⟩
  | _ => ⟨fun _ _ _ _ => .no⟩
structure ResF where
  run : Tm → AH → Option (AV × AH)
structure R1F where
  run : Tm → AH → Option AV
def res1 (cx : Cx) : ResultVar → R1F
  | .tmp t => ⟨fun tm _ => some ((getF t).run tm)⟩
  | .cell a t => match cx.tt.get t with
    | some ty => match ty.agg with
      | true => ⟨fun tm h => loadNO [] cx.globs ty.size ((getF a).run tm) h⟩
      | false => ⟨fun tm h => load1O [] cx.globs ((getF a).run tm) h⟩
    | none => ⟨fun _ _ => none⟩
def resAll (l : List R1F) (tm : Tm) (h : AH) : Option (List AV) :=
  List.rec (motive := fun _ => Option (List AV)) (some []) (fun r _ ih => (Option.rec (motive := fun _ => Option (List AV)) (none) (fun v => (Option.rec (motive := fun _ => Option (List AV)) (none) (fun vs => some (v :: vs)) (ih))) (r.run tm h))) l
def resF (cx : Cx) : List ResultVar → ResF
  | [r] => ⟨fun tm h => (Option.rec (motive := fun _ => Option (AV × AH)) (none) (fun v => some (v, h)) ((res1 cx r).run tm h))⟩
  | rs => ⟨fun tm h => (Option.rec (motive := fun _ => Option (AV × AH)) (none) (fun vs => some (AV.tup vs, h)) (resAll (rs.map (res1 cx)) tm h))⟩
def finK (r : Tm → AH → Option (AV × AH)) (o : AOut) : Option (AV × AH) := (AOut.rec (motive := fun _ => Option (AV × AH)) (fun tm h => r tm h) (fun _ _ _ => none) (fun tm h => r tm h) (none) (o))
/-! ## loops over maps whose rounds change things in several entries: every order -/
def subE (es : List (AV × AV × Nat)) (bs : List Nat) : Bool := List.rec (motive := fun _ => Bool) true (fun e _ ih => (Bool.rec (motive := fun _ => Bool) (false) (ih) (memB e.2.2 bs))) es
def appO (a b : List AOut) : List AOut := List.rec (motive := fun _ => List AOut) b (fun x _ ih => x :: ih) a
def relogs (N : Nat) (h : AH) (i : Nat) (l : List AOut) : List AOut := List.rec (motive := fun _ => List AOut) [] (fun o _ ih => relog N h i o :: ih) l
abbrev OrdK := Tm → AH → List (AV × AV × Nat) → List Nat → List Nat → List AOut
/-- behind the round of e -/
def ordAfter (S : MapSh) (i m since n b : Nat) (bs sl L : List Nat) (ih : OrdK) (tm1 : Tm) (h1 : AH) : List AOut :=
  (Option.rec (motive := fun _ => List AOut) ([AOut.no]) (fun o => (AO.rec (motive := fun _ => List AOut) (fun _ _ _ => [AOut.no]) (fun _ _ => [AOut.no]) (fun mo s l seen pre => (Bool.rec (motive := fun _ => List AOut) ([AOut.no]) ((Bool.rec (motive := fun _ => List AOut) ([AOut.no]) ((Bool.rec (motive := fun _ => List AOut) ([AOut.no]) ((Bool.rec (motive := fun _ => List AOut) ([AOut.no]) ((Bool.rec (motive := fun _ => List AOut) ([AOut.no]) ((Option.rec (motive := fun _ => List AOut) ([AOut.no]) (fun o2 => (AO.rec (motive := fun _ => List AOut) (fun _ _ _ => [AOut.no]) (fun es c => (Bool.rec (motive := fun _ => List AOut) ([AOut.no]) ((Bool.rec (motive := fun _ => List AOut) ([AOut.no]) ((Bool.rec (motive := fun _ => List AOut) ([AOut.no]) ((Bool.rec (motive := fun _ => List AOut) ([AOut.no]) (ih tm1 h1 es (b :: sl) L) (subE es bs))) (avEqR ((getF S.it).run tm1) (AV.ptr i 0)))) (bornB since es))) (Nat.beq c since))) (fun _ _ _ _ _ => [AOut.no]) (o2))) (h1.objs.get m))) (isSome n pre))) (isOne b seen))) (Nat.beq l since))) (Nat.beq s since))) (isSome m mo))) (o))) (h1.objs.get i))
def ordOne (S : MapSh) (i m since n b : Nat) (bs sl L : List Nat) (ih : OrdK) (o : AOut) : List AOut :=
  (AOut.rec (motive := fun _ => List AOut) (fun tm1 h1 => ordAfter S i m since n b bs sl L ih tm1 h1) (fun id tm1 h1 => [AOut.exit id tm1 h1]) (fun tm1 h1 => [AOut.ret tm1 h1]) ([AOut.no]) (o))
def ordEach (body : K) (S : MapSh) (i m since : Nat) (bs sl L : List Nat) (ih : OrdK) (tm : Tm) (h : AH) (new : List (AV × AV × Nat)) : List AOut :=
  List.rec (motive := fun _ => List AOut) [] (fun e _ r => appO (ordOne S i m since h.next e.2.2 bs sl L ih (mapRound body S i m since tm h e)) r) new
def few (l : List (AV × AV × Nat)) : Bool := Nat.ble (List.rec (motive := fun _ => Nat) 0 (fun _ _ ih => Nat.succ ih) l) 4
def ordNode (body : K) (S : MapSh) (i m since : Nat) (bs sl L : List Nat) (ih : OrdK) (tm : Tm) (h : AH) (es new : List (AV × AV × Nat)) : List AOut :=
  relogs (topN body S i m since tm h es) h i ((List.rec (motive := fun _ => List AOut) ([mapOver body S i m since tm h]) (fun e r _ => (Bool.rec (motive := fun _ => List AOut) ([AOut.no]) ((Bool.rec (motive := fun _ => List AOut) ([AOut.no]) (ordEach body S i m since bs sl (stampsE new) ih tm h new) (subE new L))) (few new))) (new)))
def ordR (body : K) (S : MapSh) (i m since : Nat) (bs : List Nat) (fuel : Nat) : OrdK :=
  Nat.rec (motive := fun _ => OrdK) (fun _ _ _ _ _ => [AOut.no]) (fun _ ih tm h es sl L => ordNode body S i m since bs sl L ih tm h es (louds body S i m since tm h (keepE sl es))) fuel
def ordLoop (body : K) (S : MapSh) (fall : AOut) (tm : Tm) (h : AH) : List AOut :=
  (AV.rec (motive_1 := fun _ => List AOut) (motive_2 := fun _ => Unit) (fun _ => [fall]) (fun _ _ => [fall]) (fun _ _ => [fall]) (fun _ => [fall]) (fun _ _ => [fall]) (fun _ _ => [fall]) (fun i off => (Bool.rec (motive := fun _ => List AOut) ([fall]) ((Option.rec (motive := fun _ => List AOut) ([fall]) (fun o => (AO.rec (motive := fun _ => List AOut) (fun _ _ _ => [fall]) (fun _ _ => [fall]) (fun mo s l seen pre => (Option.rec (motive := fun _ => List AOut) ([fall]) (fun m => (Bool.rec (motive := fun _ => List AOut) ([fall]) ((List.rec (motive := fun _ => List AOut) ((Option.rec (motive := fun _ => List AOut) ((Option.rec (motive := fun _ => List AOut) ([fall]) (fun o2 => (AO.rec (motive := fun _ => List AOut) (fun _ _ _ => [fall]) (fun es c => (Bool.rec (motive := fun _ => List AOut) ([fall]) ((Bool.rec (motive := fun _ => List AOut) ([fall]) ((Bool.rec (motive := fun _ => List AOut) ([fall]) (ordR body S i m s (stampsE es) 6 tm h es [] (stampsE es)) (bornB s es))) (Nat.beq c s))) (many es))) (fun _ _ _ _ _ => [fall]) (o2))) (h.objs.get m))) (fun y => [fall]) (pre))) (fun x r _ => [fall]) (seen))) (Nat.beq l s))) (mo))) (o))) (h.objs.get i))) (Nat.beq off 0))) ([fall]) (fun _ _ _ _ _ => [fall]) (fun _ _ _ _ _ => [fall]) ([fall]) (fun _ => [fall]) ([fall]) (fun _ _ _ _ _ => [fall]) ([fall]) (fun _ _ _ => [fall]) ([fall]) (fun _ _ => [fall]) (fun _ _ => [fall]) (fun _ => [fall]) (fun _ => [fall]) (fun _ _ _ _ _ => [fall]) () (fun _ _ _ _ => ()) ((getF S.it).run tm))
/-- code whose outcome may hang on the order: all outcomes -/
structure MW where
  run : Kn → CallF → Tm → AH → List AOut
def bindO (b : Tm → AH → List AOut) (l : List AOut) : List AOut :=
  List.rec (motive := fun _ => List AOut) [] (fun o _ ih => (AOut.rec (motive := fun _ => List AOut) (fun tm h => appO (b tm h) ih) (fun i tm h => AOut.exit i tm h :: ih) (fun tm h => AOut.ret tm h :: ih) (AOut.no :: ih) (o))) l
def blockO (id : Nat) (l : List AOut) : List AOut := List.rec (motive := fun _ => List AOut) [] (fun o _ ih => blockK id o :: ih) l
def mden (cx : Cx) (g : Nat) : Code → MW
  | .seq a b => ⟨fun q cf tm h => bindO ((mden cx g b).run q cf) ((mden cx g a).run q cf tm h)⟩
  | .block id a => ⟨fun q cf tm h => blockO id ((mden cx g a).run q cf tm h)⟩
  | .loop a => match mapSh a, a with
    | some S, .seq _ b => ⟨fun q cf tm h => ordLoop ((den cx g b).run q cf) S ((den cx g (.loop a)).run q cf tm h) tm h⟩
    | _, _ => ⟨fun q cf tm h => [(den cx g (.loop a)).run q cf tm h]⟩
  | c => ⟨fun q cf tm h => [(den cx g c).run q cf tm h]⟩
/-- has it a loop over a map on its way? -/
def hasMap : Code → Bool
  | .seq a b => hasMap a || hasMap b
  | .block _ a => hasMap a
  | .loop a => (mapSh a).isSome
  | _ => false
def oEqR (a b : Option AO) : Bool := (Option.rec (motive := fun _ => Bool) ((Option.rec (motive := fun _ => Bool) (true) (fun y => false) (b))) (fun x => (Option.rec (motive := fun _ => Bool) (false) (fun y => (AO.rec (motive := fun _ => Bool) (fun cs ro es => (AO.rec (motive := fun _ => Bool) (fun cs2 ro2 es2 => (Bool.rec (motive := fun _ => Bool) (false) ((Bool.rec (motive := fun _ => Bool) (false) (Nat.beq es es2) (boolEqR ro ro2))) (avsEqR cs cs2))) (fun _ _ => false) (fun _ _ _ _ _ => false) (y))) (fun _ _ => false) (fun _ _ _ _ _ => false) (x))) (b))) (a))
def dropH (h : AH) (j : Nat) : AH := AH.mk (Hp.put none h.objs j) h.next
def goneO (a : Option AO) : Bool := (Option.rec (motive := fun _ => Bool) (true) (fun x => false) (a))
/-- what two heaps have in common: what differs is forgotten, if it's from n on -/
def joinH (n : Nat) (h2 : AH) (l : List Nat) : AH → Option AH :=
  List.rec (motive := fun _ => AH → Option AH) (fun h => some h) (fun j _ ih h => (Bool.rec (motive := fun _ => Option AH) ((Bool.rec (motive := fun _ => Option AH) (none) ((Bool.rec (motive := fun _ => Option AH) (ih (dropH h j)) (ih h) (goneO (h.objs.get j)))) (Nat.ble n j))) (ih h) (oEqR (h.objs.get j) (h2.objs.get j)))) l
def join2 (n : Nat) (v : AV) (h : AH) (v2 : AV) (h2 : AH) : Option (AV × AH) :=
  (Bool.rec (motive := fun _ => Option (AV × AH)) (none) ((Option.rec (motive := fun _ => Option (AV × AH)) (none) (fun h3 => some (v, AH.mk h3.objs (mxN h.next h2.next))) (joinH n h2 (appN h.objs.log h2.objs.log) h))) (avEqR v v2))
def joinAll (r : Tm → AH → Option (AV × AH)) (n : Nat) (l : List AOut) : Option (AV × AH) :=
  (List.rec (motive := fun _ => Option (AV × AH)) (none) (fun o l2 _ => List.rec (motive := fun _ => Option (AV × AH) → Option (AV × AH)) (fun a => a) (fun o2 _ ih a => (Option.rec (motive := fun _ => Option (AV × AH)) (none) (fun p => (Option.rec (motive := fun _ => Option (AV × AH)) (none) (fun p2 => ih (join2 n p.1 p.2 p2.1 p2.2)) (finK r o2))) (a))) l2 (finK r o)) (l))
def relogF (h : AH) (r : Option (AV × AH)) : Option (AV × AH) := (Option.rec (motive := fun _ => Option (AV × AH)) (none) (fun p => some (p.1, AH.mk (Hp.mk p.2.objs.lo p.2.objs.hi (appN p.2.objs.log h.objs.log)) p.2.next)) (r))
structure FX where
  run : Kn → CallF → List AV → AH → Option (AV × AH)
def initR (as : List AV) : Nat → Tm → Tm := List.rec (motive := fun _ => Nat → Tm → Tm) (fun _ tm => tm) (fun v _ ih n tm => ih (Nat.succ n) ((setF n).run v tm)) as
def fnX (cx : Cx) (g : Nat) : FX := match cx.funcs.get g with
  | some fn => match fn.body with
    | some c => match hasMap c with
      | false => ⟨fun q cf as h => finK (resF cx fn.results.toList).run ((den cx g c).run q cf (initR as 0 Tm.nil) h)⟩
      | true => ⟨fun q cf as h => (Option.rec (motive := fun _ => Option (AV × AH)) (relogF h (joinAll (resF cx fn.results.toList).run h.next ((mden cx g c).run q cf (initR as 0 Tm.nil) (AH.mk (noLog h.objs) h.next)))) (fun p => some p) (finK (resF cx fn.results.toList).run ((den cx g c).run q cf (initR as 0 Tm.nil) h)))⟩
    | none => ⟨fun _ _ _ _ => none⟩
  | none => ⟨fun _ _ _ _ => none⟩
def callQ (g : Nat) (as : List AV) (l : List FCall) : Option AV := List.rec (motive := fun _ => Option AV) none (fun f _ ih => (Bool.rec (motive := fun _ => Option AV) (ih) ((Bool.rec (motive := fun _ => Option AV) (ih) (some f.v) (avsEqR f.args as))) (Nat.beq g f.g))) l
def callN (cx : Cx) (q : Kn) (n : Nat) : CallF :=
  Nat.rec (motive := fun _ => CallF) (fun _ _ _ => none) (fun _ ih g as h => (Option.rec (motive := fun _ => Option (AV × AH)) ((Option.rec (motive := fun _ => Option (AV × AH)) ((fnX cx g).run q ih as h) (fun s => s as h) (cx.sums.get g))) (fun v => some (v, h)) (callQ g as q.calls))) n
def goT (cx : Cx) (q : Kn) (n g : Nat) (as : List AV) (h : AH) : Option (AV × AH) := (fnX cx g).run q (callN cx q n) as h
def isTrueR (r : Option (AV × AH)) : Bool := (Option.rec (motive := fun _ => Bool) (false) (fun p => (AV.rec (motive_1 := fun _ => Bool) (motive_2 := fun _ => Unit) (fun b => b) (fun _ _ => false) (fun _ _ => false) (fun _ => false) (fun _ _ => false) (fun _ _ => false) (fun _ _ => false) (false) (fun _ _ _ _ _ => false) (fun _ _ _ _ _ => false) (false) (fun _ => false) (false) (fun _ _ _ _ _ => false) (false) (fun _ _ _ => false) (false) (fun _ _ => false) (fun _ _ => false) (fun _ => false) (fun _ => false) (fun _ _ _ _ _ => false) () (fun _ _ _ _ => ()) (p.1))) (r))
def isVR (r : Option (AV × AH)) (v : AV) : Bool := (Option.rec (motive := fun _ => Bool) (false) (fun p => avEqR p.1 v) (r))
end
end Go.Abs

namespace Go.Abs

/-! ## the fast form gives what the plain form gives -/
theorem p8_run {α : Type} (t : O8 α) : ∀ d, (p8 α d).run t = sel8 d t
  | 0 | 1 | 2 | 3 | 4 | 5 | 6 => rfl
  | d + 7 => by
    unfold sel8
    rw [ble_of_not (show ¬ d + 7 ≤ 3 by omega), ble_of_not (show ¬ d + 7 ≤ 5 by omega), ble_of_not (show ¬ d + 7 ≤ 6 by omega)]
    rfl
theorem u8_run {α : Type} (f : α → α) (t : O8 α) : ∀ d, (u8 α d).run f t = upd8 d f t
  | 0 | 1 | 2 | 3 | 4 | 5 | 6 => rfl
  | d + 7 => by
    unfold upd8
    rw [ble_of_not (show ¬ d + 7 ≤ 3 by omega), ble_of_not (show ¬ d + 7 ≤ 5 by omega), ble_of_not (show ¬ d + 7 ≤ 6 by omega)]
    rfl
theorem getF_run (t : Nat) (tm : Tm) : (getF t).run tm = tm.at t := by
  unfold getF
  by_cases ht : t ≤ 511
  · rw [ble_of ht]
    simp only [p8_run]
    rw [Tm.at_lo _ ht]; rfl
  · rw [ble_of_not ht]
theorem setF_run (t : Nat) (v : AV) (tm : Tm) : (setF t).run v tm = tm.set t v := by
  unfold setF
  by_cases ht : t ≤ 511
  · rw [ble_of ht]
    simp only
    rw [Tm.set_lo _ _ ht, u8_run]
    have h1 : ∀ t', (u8 (O8 (O8 AV)) t').run = upd8 t' := fun t' => by funext f t; exact u8_run f t t'
    have h2 : ∀ t', (u8 (O8 AV) t').run = upd8 t' := fun t' => by funext f t; exact u8_run f t t'
    have h3 : ∀ t', (u8 AV t').run = upd8 t' := fun t' => by funext f t; exact u8_run f t t'
    rw [h2, h3]; rfl
  · rw [ble_of_not ht]
theorem putF_run (d : Option Nat) (v : AV) (tm : Tm) : (putF d).run v tm = putA tm d v := by
  cases d with
  | none => rfl
  | some t => exact setF_run t v tm
theorem opF_some {x : Operand} {f : VF} (h : opF x = some f) (tm : Tm) : opnd tm x = some (f.run tm) := by
  cases x with
  | tmp t => simp only [opF, Option.some.injEq] at h; subst h; simp only [opnd, getF_run]
  | const v =>
    simp only [opF] at h
    split at h
    · rename_i x hx; cases h; simpa [opnd] using hx
    · cases h
  | func f => simp only [opF, Option.some.injEq] at h; subst h; rfl
  | global g => simp only [opF, Option.some.injEq] at h; subst h; rfl
theorem opF_none {x : Operand} (h : opF x = none) (tm : Tm) : opnd tm x = none := by
  cases x with
  | const v =>
    simp only [opF] at h
    split at h
    · cases h
    · rename_i hx; simpa [opnd] using hx
  | _ => simp [opF] at h
theorem runVs_cons (v : VF) (vs : List VF) (tm : Tm) : runVs (v :: vs) tm = v.run tm :: runVs vs tm := rfl
theorem opFs_some : ∀ {xs : List Operand} {fs : List VF}, opFs xs = some fs → ∀ tm, opnds tm xs = some (runVs fs tm)
  | [], fs, h, tm => by simp only [opFs, Option.some.injEq] at h; subst h; rfl
  | x :: xs, fs, h, tm => by
    simp only [opFs] at h
    split at h
    · rename_i v vs hv hvs
      cases h
      simp only [opnds, opF_some hv tm, opFs_some hvs tm, runVs_cons]
    · cases h
theorem opFs_none : ∀ {xs : List Operand}, opFs xs = none → ∀ tm, opnds tm xs = none
  | [], h, tm => by simp [opFs] at h
  | x :: xs, h, tm => by
    simp only [opFs] at h
    split at h
    · cases h
    · rename_i hne
      simp only [opnds]
      cases hx : opF x with
      | none => rw [opF_none hx tm]
      | some v =>
        cases hxs : opFs xs with
        | none => rw [opFs_none hxs tm, opF_some hx tm]
        | some vs => exact absurd hxs (hne v vs hx)

/-! ### numbers -/
theorem kTag_eq (i j : IntKind) : Nat.beq (kTag i) (kTag j) = kEq i j := by cases i <;> cases j <;> rfl
theorem notF_eq (b : Bool) : notF b = !b := by cases b <;> rfl
theorem boolEqR_eq (a b : Bool) : boolEqR a b = boolEq a b := by cases a <;> cases b <;> rfl
theorem eqIF_eq (a b : Int) : eqIF a b = intEq a b := by cases a <;> cases b <;> rfl
theorem ltIF_eq (a b : Int) : ltIF a b = intLt a b := by cases a <;> cases b <;> rfl
theorem wrapNat_eq (k : IntKind) (s : Nat) : wrapNat k s = k.wrap (Int.ofNat s) := by
  cases k
  case i64 =>
    unfold wrapNat
    by_cases h : s ≤ 9223372036854775807
    · show @Bool.rec (fun _ => Int) _ _ (Nat.ble s 9223372036854775807) = _
      rw [ble_of h]
      show Int.ofNat s = _
      unfold IntKind.wrap
      simp [IntKind.bits, IntKind.signed]
      split <;> omega
    · show @Bool.rec (fun _ => Int) _ _ (Nat.ble s 9223372036854775807) = _
      rw [ble_of_not h]
  all_goals first | rfl | (show Int.ofNat _ = _; unfold IntKind.wrap; simp [IntKind.bits, IntKind.signed]; done)
theorem wrapF_eq (k : IntKind) (n : Int) : wrapF k n = k.wrap n := by
  cases n with
  | ofNat m => exact wrapNat_eq k m
  | negSucc m => rfl
theorem addF_eq (k : IntKind) (a b : Int) : addF k a b = k.wrap (a + b) := by
  cases a with
  | negSucc m => rfl
  | ofNat m => cases b with
    | negSucc n => rfl
    | ofNat n => exact wrapNat_eq k (m + n)
theorem mulF_eq (k : IntKind) (a b : Int) : mulF k a b = k.wrap (a * b) := by
  cases a with
  | negSucc m => rfl
  | ofNat m => cases b with
    | negSucc n => rfl
    | ofNat n => exact wrapNat_eq k (m * n)
theorem subF_eq (k : IntKind) (a b : Int) : subF k a b = k.wrap (a - b) := by
  cases a with
  | negSucc m => rfl
  | ofNat m => cases b with
    | negSucc n => rfl
    | ofNat n =>
      show subNat k m n = _
      unfold subNat
      by_cases h : n ≤ m
      · rw [ble_of h]
        show wrapNat k (m - n) = _
        rw [wrapNat_eq]
        congr 1
        simp only [Int.ofNat_eq_natCast]; omega
      · rw [ble_of_not h]

/-! ### operations -/
theorem rvK_some {k : AV → AOut} {v : AV} : rvK k (some v) = k v := rfl
theorem rvK_none {k : AV → AOut} : rvK k none = .no := rfl
theorem give_rv (k : K) (cf : CallF) (s : SF) (tm : Tm) (h : AH) (r : Option AV) : giveK k cf s tm h (rv h r) = rvK (fun v => k (s.run v tm) h) r := by cases r <;> rfl

theorem load1_eq {cx : Cx} {t : Nat} {ty : TyI} (ht : cx.tt.get t = some ty) (ha : ty.agg = false) {rd : List FRead} (hr : rd = cx.reads) (k : AV → AOut) (p : AV) (h : AH) : load1 rd cx.globs k p h = rvK k (loadA cx h t p) := by
  subst hr
  cases p <;> try rfl
  case lptr j es c n off =>
    show @Option.rec (List AV) (fun _ => AOut) _ _ (findRead j es c n cx.reads) = rvK k (loadA cx h t (.lptr j es c n off))
    simp only [loadA, loadG, ht, ha]
    cases findRead j es c n cx.reads <;> rfl
  case gptr g off =>
    show @Option.rec (List AV) (fun _ => AOut) _ _ (cx.globs.get g) = rvK k (loadA cx h t (.gptr g off))
    simp only [loadA, loadG, ht, ha]
    cases cx.globs.get g <;> rfl
  case ptr i off =>
    show @Option.rec AO (fun _ => AOut) _ _ (h.objs.get i) = rvK k (loadA cx h t (.ptr i off))
    simp only [loadA, ht, ha]
    cases h.objs.get i with
    | none => rfl
    | some o => cases o <;> rfl
theorem agK_eq (k : AV → AOut) (r : Option (List AV)) : agK k r = rvK k (match r with | some l => some (.agg l) | none => none) := by cases r <;> rfl
theorem loadN_eq {cx : Cx} {t : Nat} {ty : TyI} (ht : cx.tt.get t = some ty) (ha : ty.agg = true) {rd : List FRead} (hr : rd = cx.reads) (k : AV → AOut) (p : AV) (h : AH) : loadN rd cx.globs ty.size k p h = rvK k (loadA cx h t p) := by
  subst hr
  cases p <;> try rfl
  case lptr j es c n off =>
    show @Option.rec (List AV) (fun _ => AOut) _ _ (findRead j es c n cx.reads) = rvK k (loadA cx h t (.lptr j es c n off))
    simp only [loadA, loadG, ht, ha]
    cases findRead j es c n cx.reads with
    | none => rfl
    | some cs => exact agK_eq k _
  case gptr g off =>
    show @Option.rec (List AV) (fun _ => AOut) _ _ (cx.globs.get g) = rvK k (loadA cx h t (.gptr g off))
    simp only [loadA, loadG, ht, ha]
    cases cx.globs.get g with
    | none => rfl
    | some cs => exact agK_eq k _
  case ptr i off =>
    show @Option.rec AO (fun _ => AOut) _ _ (h.objs.get i) = rvK k (loadA cx h t (.ptr i off))
    simp only [loadA, ht, ha]
    cases h.objs.get i with
    | none => rfl
    | some o => cases o with
      | map es c => rfl
      | iter m since last seen pre => rfl
      | cells cs ro es => exact agK_eq k _
theorem cellsR_eq (v : AV) : cellsR v = cellsOf v := by cases v <;> rfl
theorem isTupR_eq (v : AV) : isTupR v = isTup v := by cases v <;> rfl
theorem lenR_eq (l : List AV) : lenR l = l.length := by
  induction l with
  | nil => rfl
  | cons a l ih => show Nat.succ (lenR l) = _; rw [ih]; rfl
theorem storeK_eq {cx : Cx} {t : Nat} {ty : TyI} (ht : cx.tt.get t = some ty) (k : K) (cf : CallF) (s : SF) (tm : Tm) (p v : AV) (h : AH) :
    storeK ty.size (fun h2 => k (s.run AV.undef tm) h2) p v h = giveK k cf s tm h (rh (storeA cx h t p v)) := by
  cases p <;> try rfl
  case ptr i off =>
    show @Option.rec AO (fun _ => AOut) _ _ (h.objs.get i) = _
    simp only [storeA, ht]
    cases h.objs.get i with
    | none => rfl
    | some o => cases o with
      | map es c => rfl
      | iter m since last seen pre => rfl
      | cells cs ro es =>
        cases ro with
        | true => rfl
        | false =>
          show @Bool.rec _ _ _ (Nat.beq (lenR (cellsR v)) ty.size) = _
          rw [lenR_eq, cellsR_eq, isTupR_eq]
          simp only
          cases Nat.beq (cellsOf v).length ty.size with
          | false => rfl
          | true =>
            cases isTup v with
            | true => rfl
            | false =>
              show putCells _ h i es (overAt off cs (cellsOf v)) = _
              cases overAt off cs (cellsOf v) <;> rfl
theorem nilK_eq (k : AV → AOut) (x : AV) : nilK k x = rvK k (nilChk x) := by cases x <;> rfl
theorem fldK_eq {cx : Cx} {t f o u n : Nat} {ti : TyI} {fs : List (Nat × Nat × Nat)} (ht : cx.tt.get t = some ti) (hk : ti.kind = .strct fs) (hf : nth fs f = some (o, u, n + 1)) (k : AV → AOut) (x : AV) :
    fldK k o x = rvK k (fldAddr cx t f x) := by
  cases x <;> (try rfl) <;> (simp only [fldAddr, ht, hk, hf]; rfl)
theorem natK_eq (k : Nat → AOut) (x : AV) : natK k x = match nat? x with
    | some n => k n
    | none => .no := by
  cases x <;> try rfl
  case int j n => cases n <;> rfl
theorem ixSl_eq {cx : Cx} {t e : Nat} {ti ty : TyI} (ht : cx.tt.get t = some ti) (hk : ti.kind = .slice e) (he : cx.tt.get e = some ty) (k : AV → AOut) (x ix : AV) :
    ixSlQ cx.facts cx.lens k ty.size x ix = rvK k (ixAddr cx t x ix) := by
  cases x
  case opq j =>
    show rvK k (listAddr cx.facts cx.lens j ty.size ix) = _
    simp only [ixAddr, ht, hk, he]
  case slice i off eo len cap =>
    show ixSlK k ty.size (.slice i off eo len cap) ix = _
    unfold ixSlK
    rw [natK_eq]
    cases hi : nat? ix with
    | none => simp only [ixAddr, ixAddr0, hi]; rfl
    | some m =>
      simp only [ixAddr, ixAddr0, ht, hk, hi, he]
      show @Bool.rec (fun _ => AOut) _ _ (Nat.blt m len) = _
      cases Nat.blt m len <;> rfl
  all_goals
    show AOut.no = _
    simp only [ixAddr, ixAddr0]
    cases hi : nat? ix with
    | none => rfl
    | some m => simp only [ht, hk]; rfl
theorem ixAddr_none {cx : Cx} {t : Nat} {x ix : AV} (h0 : ixAddr0 cx t x ix = none) (h : (match cx.tt.get t with
    | some ti => match ti.kind with
      | .slice e => cx.tt.get e
      | _ => none
    | none => none) = none) : ixAddr cx t x ix = none := by
  unfold ixAddr
  split
  · split at h
    · rename_i ti ht
      rw [ht]
      simp only
      split at h
      · rename_i e he
        split
        · rename_i e2 he2
          rw [he] at he2; cases he2
          rw [h]
        · rfl
      · rename_i hk
        split
        · rename_i e he; exact absurd he (hk e)
        · rfl
    · rename_i ht; rw [ht]
  · exact h0
theorem ixAr_eq {cx : Cx} {t n e : Nat} {ti ty : TyI} (ht : cx.tt.get t = some ti) (hk : ti.kind = .arr n e) (he : cx.tt.get e = some ty) (k : AV → AOut) (x ix : AV) :
    ixArK k n ty.size x ix = rvK k (ixAddr cx t x ix) := by
  unfold ixArK
  rw [natK_eq]
  cases hi : nat? ix with
  | none => cases x <;> (simp only [ixAddr, ixAddr0, hi, ht, hk]; rfl)
  | some m =>
    show @Bool.rec (fun _ => AOut) _ _ (Nat.blt m n) = _
    cases hb : Nat.blt m n <;> cases x <;> (simp only [ixAddr, ixAddr0, ht, hk, hi, he, hb]; rfl)
theorem pickK_eq {tm : Tm} {c a b : Operand} {fc fa fb : VF} (hc : opF c = some fc) (ha : opF a = some fa) (hb : opF b = some fb) (k : AV → AOut) :
    pickK k (fc.run tm) (fa.run tm) (fb.run tm) = rvK k (pickA tm c a b) := by
  simp only [pickA, opF_some hc, opF_some ha, opF_some hb]
  cases fc.run tm <;> try rfl
  case bool t => cases t <;> rfl
theorem extK_eq (k : AV → AOut) (i : Nat) (x : AV) : extK k i x = rvK k (extrA i x) := by cases x <;> rfl
theorem boxK_eq (k : K) (cf : CallF) (s : SF) (tm : Tm) (h : AH) (v : AV) : boxK (fun h2 => k (s.run (AV.ptr h.next 0) tm) h2) h v = giveK k cf s tm h (boxA h v) := by cases v <;> rfl
theorem appR_eq (a b : List AV) : appR a b = a ++ b := by
  induction a with
  | nil => rfl
  | cons x a ih => show x :: appR a b = _; rw [ih]; rfl
theorem app3_eq (a as b : List AV) : app3 a as b = a ++ as ++ b := by
  cases b with
  | nil => cases a with
    | nil => simp [app3]
    | cons x a => show appR (x :: a) as = _; rw [appR_eq]; simp
  | cons y b => show appR a (appR as (y :: b)) = _; rw [appR_eq, appR_eq, List.append_assoc]
theorem callK_eq (k : K) (cf : CallF) (s : SF) (tm : Tm) (f : AV) (as : List AV) (h : AH) :
    callK (fun v h2 => k (s.run v tm) h2) cf f as h = giveK k cf s tm h (callA f (some as)) := by
  cases f <;> try rfl
  case fn g a b =>
    have e : callK (fun v h2 => k (s.run v tm) h2) cf (.fn g a b) as h = resK (fun v h2 => k (s.run v tm) h2) (cf g (app3 a as b) h) := rfl
    rw [e, app3_eq]; rfl
theorem notK_eq (k : AV → AOut) (x : AV) : notK k (rvK k (unO .not x)) x = rvK k (unO .not x) := by
  cases x <;> try rfl
  case bool b => show k (AV.bool (notF b)) = _; rw [notF_eq]; rfl
theorem convK_eq (cx : Cx) (k : AV → AOut) (j : IntKind) (x : AV) : convK k (rvK k (convI cx j x)) j x = rvK k (convI cx j x) := by
  cases x <;> try rfl
  case int i n => show k (AV.int j (wrapF j n)) = _; rw [wrapF_eq]; rfl
theorem lenSlK_eq {cx : Cx} {h : AH} {t e : Nat} {ti : TyI} (ht : cx.tt.get t = some ti) (hk : ti.kind = .slice e) (k : AV → AOut) (x : AV) : lenSlK cx.lens k x = rvK k (lenA cx h t x) := by
  simp only [lenA, ht, hk]
  cases x <;> rfl

/-! ### operations on two values -/
theorem intsK_eq {cx : Cx} {op : BinOp} {t : Nat} {k : AV → AOut} {f : IntKind → Int → IntKind → Int → AOut} (hf : ∀ i a j b, f i a j b = rvK k (binInt op i a j b)) (x y : AV) :
    intsK f (rvK k (bin cx op t x y)) x y = rvK k (bin cx op t x y) := by
  cases x <;> try rfl
  case int i a =>
    cases y <;> try rfl
    case int j b => exact hf i a j b
theorem intX_eq {cx : Cx} {q : Kn} (hq : cx.put q = cx) {op : BinOp} {t : Nat} {f : (AV → AOut) → IntKind → Int → IntKind → Int → AOut} (hf : ∀ k i a j b, f k i a j b = rvK k (binInt op i a j b)) (x y : VF) (s : SF) (k : K) (cf : CallF) (tm : Tm) (h : AH) :
    (intX f cx op t x y s).step q k cf tm h = rvK (fun v => k (s.run v tm) h) (bin cx op t (x.run tm) (y.run tm)) := by
  show intsK _ (rvK _ (bin (cx.put q) op t (x.run tm) (y.run tm))) _ _ = _
  rw [hq]; exact intsK_eq (hf _) _ _
theorem sameK_eq (i j : IntKind) (r : AOut) : sameK i j r = match kEq i j with
    | true => r
    | false => .no := by
  unfold sameK
  rw [kTag_eq]
  cases kEq i j <;> rfl
theorem same_binI {op : BinOp} {k : AV → AOut} {i : IntKind} {a : Int} {j : IntKind} {b : Int} {r : AOut} (hs : binInt op i a j b = match kEq i j with | true => binI op i a b | false => none) (hr : r = rvK k (binI op i a b)) : sameK i j r = rvK k (binInt op i a j b) := by
  rw [sameK_eq, hs]
  cases kEq i j with
  | true => exact hr
  | false => rfl
theorem bitsR_eq (k : IntKind) : bitsR k = k.bits := by cases k <;> rfl
theorem modK_eq (k : IntKind) (h : Nat.beq (modK k) 0 = false) : modK k = 2 ^ k.bits ∧ ∀ n : Nat, k.wrap (Int.ofNat n) = Int.ofNat (n % modK k) := by
  cases k <;> first | (exact absurd h (by decide)) | (refine ⟨rfl, fun n => ?_⟩; unfold IntKind.wrap; simp [IntKind.bits, IntKind.signed, modK]; done)
theorem bit_arg (k : IntKind) (h : Nat.beq (modK k) 0 = false) (n : Nat) : (Int.ofNat n % Int.ofNat (Nat.pow 2 k.bits)).toNat = n % modK k := by
  rw [(modK_eq k h).1]
  rfl
theorem bitK_eq {f : Nat → Nat → Nat} {op : BinOp} (hs : ∀ i a j b, binInt op i a j b = match kEq i j with | true => binI op i a b | false => none)
    (hf : ∀ i a b, binI op i a b = some (.int i (i.wrap (Int.ofNat (f (a % Int.ofNat (Nat.pow 2 i.bits)).toNat (b % Int.ofNat (Nat.pow 2 i.bits)).toNat))))) (k : AV → AOut) (i : IntKind) (a : Int) (j : IntKind) (b : Int) :
    bitK f op k i a j b = rvK k (binInt op i a j b) := by
  refine same_binI (hs i a j b) ?_
  cases a with
  | negSucc m => rfl
  | ofNat m => cases b with
    | negSucc n => rfl
    | ofNat n =>
      show @Bool.rec _ _ _ (Nat.beq (modK i) 0) = _
      cases hm : Nat.beq (modK i) 0 with
      | true => rfl
      | false =>
        show k (AV.int i (Int.ofNat (Nat.mod (f (Nat.mod m (modK i)) (Nat.mod n (modK i))) (modK i)))) = _
        rw [hf, bit_arg i hm, bit_arg i hm, (modK_eq i hm).2]
        rfl
theorem remK_eq (k : AV → AOut) (i : IntKind) (a : Int) (j : IntKind) (b : Int) : remK k i a j b = rvK k (binInt .rem i a j b) := by
  refine same_binI rfl ?_
  cases a with
  | negSucc m => rfl
  | ofNat m => cases b with
    | negSucc n => rfl
    | ofNat n =>
      show @Bool.rec _ _ _ (Nat.beq n 0) = _
      simp only [binI]
      show _ = rvK k (match Nat.beq n 0 with | true => none | false => some (.int i ((Int.ofNat m).tmod (Int.ofNat n))))
      cases Nat.beq n 0 <;> rfl
theorem quoK_eq (k : AV → AOut) (i : IntKind) (a : Int) (j : IntKind) (b : Int) : quoK k i a j b = rvK k (binInt .quo i a j b) := by
  refine same_binI rfl ?_
  cases a with
  | negSucc m => rfl
  | ofNat m => cases b with
    | negSucc n => rfl
    | ofNat n =>
      show @Bool.rec _ _ _ (Nat.beq n 0) = _
      simp only [binI]
      show _ = rvK k (match Nat.beq n 0 with | true => none | false => some (.int i (i.wrap ((Int.ofNat m).tdiv (Int.ofNat n)))))
      cases Nat.beq n 0 with
      | true => rfl
      | false => show k (AV.int i (wrapNat i (m / n))) = _; rw [wrapNat_eq]; rfl
theorem min_if (n m : Nat) : (@Bool.rec (fun _ => Nat) m n (Nat.ble n m)) = Nat.min n m := by
  by_cases h : n ≤ m
  · rw [ble_of h]; exact (Nat.min_eq_left h).symm
  · rw [ble_of_not h]; show m = _; exact (Nat.min_eq_right (by omega)).symm
theorem shrK_eq (k : AV → AOut) (i : IntKind) (a : Int) (j : IntKind) (b : Int) : shrK k i a j b = rvK k (binInt .shr i a j b) := by
  cases a with
  | negSucc m => rfl
  | ofNat m => cases b with
    | negSucc n => rfl
    | ofNat n =>
      show k (AV.int i (Int.ofNat (Nat.div m (Nat.pow 2 (@Bool.rec (fun _ => Nat) (bitsR i) n (Nat.ble n (bitsR i))))))) = _
      rw [min_if, bitsR_eq]
      have e : (Int.ofNat m).fdiv (Int.ofNat (Nat.pow 2 (Nat.min n i.bits))) = Int.ofNat (m / Nat.pow 2 (Nat.min n i.bits)) := by
        exact (Int.fdiv_eq_ediv_of_nonneg (Int.ofNat m) (b := Int.ofNat (Nat.pow 2 (Nat.min n i.bits))) (Int.natCast_nonneg _)).trans rfl
      have e2 : binInt .shr i (Int.ofNat m) j (Int.ofNat n) = some (.int i ((Int.ofNat m).fdiv (Int.ofNat (Nat.pow 2 (Nat.min n i.bits))))) := rfl
      rw [e2, e]; rfl
theorem shlK_eq (k : AV → AOut) (i : IntKind) (a : Int) (j : IntKind) (b : Int) : shlK k i a j b = rvK k (binInt .shl i a j b) := by
  cases a with
  | negSucc m => rfl
  | ofNat m => cases b with
    | negSucc n => rfl
    | ofNat n =>
      show k (AV.int i (wrapNat i (Nat.mul m (Nat.pow 2 (@Bool.rec (fun _ => Nat) (bitsR i) n (Nat.ble n (bitsR i))))))) = _
      rw [min_if, bitsR_eq, wrapNat_eq]
      simp only [binInt, shlI, intLt]
      rfl
theorem leafR_eq (fx : List Fact) (l : Leaf) (a b : AV) : leafR fx l a b = eqLeaf fx l a b := by
  cases a <;> try rfl
  case bool m =>
    cases b <;> try rfl
    case bool n =>
      cases l <;> try rfl
      have e : leafR fx .bool (.bool m) (.bool n) = some (boolEqR m n) := rfl
      rw [e, boolEqR_eq]; rfl
  case int i m =>
    cases b <;> try rfl
    case int j n =>
      cases l <;> try rfl
      show @Bool.rec _ _ _ (Nat.beq (kTag i) (kTag j)) = _
      rw [kTag_eq, eqIF_eq]
      simp only [eqLeaf]
      cases kEq i j <;> rfl
theorem leavesR_eq (fx : List Fact) : ∀ (ls : List Leaf) (a b : List AV), leavesR fx ls a b = eqLeaves fx ls a b
  | [], [], [] | [], [], _ :: _ | [], _ :: _, [] | [], _ :: _, _ :: _ => rfl
  | l :: ls, [], _ => rfl
  | l :: ls, a :: x, [] => rfl
  | l :: ls, a :: x, b :: y => by
    show @Option.rec Bool (fun _ => Option Bool) _ _ (leafR fx l a b) = _
    rw [leafR_eq]
    simp only [eqLeaves]
    cases eqLeaf fx l a b with
    | none => rfl
    | some e => cases e with
      | false => rfl
      | true => exact leavesR_eq fx ls x y
theorem boolK_eq (k : AV → AOut) (neg : Bool) (r : Option Bool) : boolK k neg r = rvK k (match neg with | true => notO r | false => mkO r) := by
  cases r with
  | none => cases neg <;> rfl
  | some b => cases neg with
    | false => rfl
    | true => show k (AV.bool (notF b)) = _; rw [notF_eq]; rfl
theorem bin_eq (cx : Cx) (t : Nat) (x y : AV) (neg : Bool) (hx : ∀ k a, x ≠ .int k a) (hx2 : ∀ k a, x ≠ .sym k a) (hx3 : ∀ a, x ≠ .str a) (hx4 : ∀ a, x ≠ .sstr a) (hy : ∀ k a, y ≠ .sym k a) (hx5 : ∀ j, x ≠ .opq j) (hy5 : ∀ j, y ≠ .opq j) :
    bin cx (match neg with | true => .neq | false => .eql) t x y = match neg with | true => notO (eqT cx t x y) | false => mkO (eqT cx t x y) := by
  cases x <;> first | (rename_i k a; exact absurd rfl (hx k a)) | (rename_i k a; exact absurd rfl (hx2 k a)) | (rename_i a; exact absurd rfl (hx3 a)) | (rename_i a; exact absurd rfl (hx4 a)) | (rename_i a; exact absurd rfl (hx5 a)) | skip
  all_goals (cases y <;> first | (rename_i k a; exact absurd rfl (hy k a)) | (rename_i a; exact absurd rfl (hy5 a)) | (cases neg <;> rfl))

theorem ptrEqK_eq {cx : Cx} {t e : Nat} {ti : TyI} (ht : cx.tt.get t = some ti) (hk : ti.kind = .ptr e) (neg : Bool) (k : AV → AOut) (x y : AV) :
    ptrEqK neg k (rvK k (bin cx (match neg with | true => .neq | false => .eql) t x y)) x y = rvK k (bin cx (match neg with | true => .neq | false => .eql) t x y) := by
  cases x <;> try rfl
  case nilp =>
    cases y <;> try rfl
    · rename_i i o
      have e : bin cx (match neg with | true => .neq | false => .eql) t .nilp (.ptr i o) = _ := bin_eq cx t .nilp (.ptr i o) neg (by simp) (by simp) (by simp) (by simp) (by simp) (by simp) (by simp)
      rw [e]; simp only [eqT, ht, hk, eqP]
      cases neg <;> rfl
    · have e : bin cx (match neg with | true => .neq | false => .eql) t .nilp .nilp = _ := bin_eq cx t .nilp .nilp neg (by simp) (by simp) (by simp) (by simp) (by simp) (by simp) (by simp)
      rw [e]; simp only [eqT, ht, hk, eqP]
      cases neg <;> rfl
  case ptr i o =>
    cases y <;> try rfl
    have e : bin cx (match neg with | true => .neq | false => .eql) t (.ptr i o) .nilp = _ := bin_eq cx t (.ptr i o) .nilp neg (by simp) (by simp) (by simp) (by simp) (by simp) (by simp) (by simp)
    rw [e]; simp only [eqT, ht, hk, eqP]
    cases neg <;> rfl
theorem eqT_agg {cx : Cx} {t : Nat} {ti : TyI} {ls : List Leaf} (ht : cx.tt.get t = some ti) (hk : (∃ fs, ti.kind = .strct fs) ∨ ∃ n e, ti.kind = .arr n e) (hl : ti.leaves = some ls) (x y : AV) : eqT cx t x y = eqG cx.facts (some ls) x y := by
  rcases hk with ⟨fs, hk⟩ | ⟨n, e, hk⟩ <;> simp only [eqT, ht, hk, hl]
theorem aggEqK_eq {cx : Cx} {t : Nat} {ti : TyI} {ls : List Leaf} (ht : cx.tt.get t = some ti) (hk : (∃ fs, ti.kind = .strct fs) ∨ ∃ n e, ti.kind = .arr n e) (hl : ti.leaves = some ls) (neg : Bool) (k : AV → AOut) (x y : AV) :
    aggEqK cx.facts ls neg k (rvK k (bin cx (match neg with | true => .neq | false => .eql) t x y)) x y = rvK k (bin cx (match neg with | true => .neq | false => .eql) t x y) := by
  cases x <;> try rfl
  case agg a =>
    cases y <;> try rfl
    case agg b =>
      rw [bin_eq cx t (.agg a) (.agg b) neg (by simp) (by simp) (by simp) (by simp) (by simp) (by simp) (by simp), eqT_agg ht hk hl]
      have e0 : ∀ d : AOut, aggEqK cx.facts ls neg k d (.agg a) (.agg b) = @Bool.rec (fun _ => AOut) .no (@Bool.rec (fun _ => AOut) .no (boolK k neg (leavesR cx.facts ls a b)) (Nat.beq (lenR b) ls.length)) (Nat.beq (lenR a) ls.length) := fun d => rfl
      rw [e0, lenR_eq, lenR_eq, boolK_eq, leavesR_eq]
      simp only [eqG]
      cases h1 : Nat.beq a.length ls.length with
      | false => cases neg <;> rfl
      | true =>
        cases h2 : Nat.beq b.length ls.length with
        | false => cases neg <;> rfl
        | true => rfl
theorem ptrEqX_step (cx : Cx) (op : BinOp) (t : Nat) (neg : Bool) (x y : VF) (s : SF) (q : Kn) (k : K) (cf : CallF) (tm : Tm) (h : AH) :
    (ptrEqX cx op t neg x y s).step q k cf tm h = ptrEqK neg (fun v => k (s.run v tm) h) (rvK (fun v => k (s.run v tm) h) (bin (cx.put q) op t (x.run tm) (y.run tm))) (x.run tm) (y.run tm) := rfl
theorem aggEqX_step (cx : Cx) (op : BinOp) (t : Nat) (ls : List Leaf) (neg : Bool) (x y : VF) (s : SF) (q : Kn) (k : K) (cf : CallF) (tm : Tm) (h : AH) :
    (aggEqX cx op t ls neg x y s).step q k cf tm h = aggEqK q.facts ls neg (fun v => k (s.run v tm) h) (rvK (fun v => k (s.run v tm) h) (bin (cx.put q) op t (x.run tm) (y.run tm))) (x.run tm) (y.run tm) := rfl
theorem convX_step (cx : Cx) (j : IntKind) (x : VF) (s : SF) (q : Kn) (k : K) (cf : CallF) (tm : Tm) (h : AH) :
    (convX cx j x s).step q k cf tm h = convK (fun v => k (s.run v tm) h) (rvK (fun v => k (s.run v tm) h) (convI (cx.put q) j (x.run tm))) j (x.run tm) := rfl
theorem eqX_eq {cx : Cx} {q : Kn} (hq : cx.put q = cx) (neg : Bool) (t : Nat) (x y : VF) (s : SF) (k : K) (cf : CallF) (tm : Tm) (h : AH) :
    (eqX cx (match neg with | true => .neq | false => .eql) neg t x y s).step q k cf tm h = rvK (fun v => k (s.run v tm) h) (bin cx (match neg with | true => .neq | false => .eql) t (x.run tm) (y.run tm)) := by
  have gen : (intX (fun k i a j b => sameK i j (k (AV.bool (@Bool.rec (fun _ => Bool) (eqIF a b) (notF (eqIF a b)) neg)))) cx (match neg with | true => .neq | false => .eql) t x y s).step q k cf tm h = rvK (fun v => k (s.run v tm) h) (bin cx (match neg with | true => .neq | false => .eql) t (x.run tm) (y.run tm)) := by
    refine intX_eq hq (fun k i a j b => ?_) x y s k cf tm h
    refine same_binI (by cases neg <;> rfl) ?_
    cases neg with
    | true => show k (AV.bool (notF (eqIF a b))) = _; rw [notF_eq, eqIF_eq]; rfl
    | false => show k (AV.bool (eqIF a b)) = _; rw [eqIF_eq]; rfl
  have hf : q.facts = cx.facts := by rw [← hq]; rfl
  unfold eqX
  cases ht : cx.tt.get t with
  | none => exact gen
  | some ti =>
    simp only
    split
    · rename_i hk
      rw [ptrEqX_step, hq]; exact ptrEqK_eq ht hk neg _ _ _
    · rename_i fs ls hk hl
      rw [aggEqX_step, hq, hf]; exact aggEqK_eq ht (.inl ⟨fs, hk⟩) hl neg _ _ _
    · rename_i n e ls hk hl
      rw [aggEqX_step, hq, hf]; exact aggEqK_eq ht (.inr ⟨n, e, hk⟩) hl neg _ _ _
    · exact gen
theorem intX_g {cx : Cx} {q : Kn} (hq : cx.put q = cx) {op : BinOp} {t : Nat} {g : IntKind → Int → Int → AV} (hs : ∀ i a j b, binInt op i a j b = match kEq i j with | true => binI op i a b | false => none) (hg : ∀ i a b, binI op i a b = some (g i a b))
    (x y : VF) (s : SF) (k : K) (cf : CallF) (tm : Tm) (h : AH) :
    (intX (fun k i a j b => sameK i j (k (g i a b))) cx op t x y s).step q k cf tm h = rvK (fun v => k (s.run v tm) h) (bin cx op t (x.run tm) (y.run tm)) :=
  intX_eq hq (fun k i a j b => same_binI (hs i a j b) (by rw [hg]; rfl)) x y s k cf tm h
theorem binX_eq {cx : Cx} {q : Kn} (hq : cx.put q = cx) (op : BinOp) (t : Nat) (x y : VF) (s : SF) (k : K) (cf : CallF) (tm : Tm) (h : AH) :
    (binX cx op t x y s).step q k cf tm h = rvK (fun v => k (s.run v tm) h) (bin cx op t (x.run tm) (y.run tm)) := by
  cases op
  case add => exact intX_g hq (op := .add) (g := fun i a b => .int i (addF i a b)) (fun _ _ _ _ => rfl) (fun i a b => by rw [addF_eq]; rfl) x y s k cf tm h
  case sub => exact intX_g hq (op := .sub) (g := fun i a b => .int i (subF i a b)) (fun _ _ _ _ => rfl) (fun i a b => by rw [subF_eq]; rfl) x y s k cf tm h
  case mul => exact intX_g hq (op := .mul) (g := fun i a b => .int i (mulF i a b)) (fun _ _ _ _ => rfl) (fun i a b => by rw [mulF_eq]; rfl) x y s k cf tm h
  case lss => exact intX_g hq (op := .lss) (g := fun i a b => .bool (ltIF a b)) (fun _ _ _ _ => rfl) (fun i a b => by rw [ltIF_eq]; rfl) x y s k cf tm h
  case leq => exact intX_g hq (op := .leq) (g := fun i a b => .bool (notF (ltIF b a))) (fun _ _ _ _ => rfl) (fun i a b => by rw [ltIF_eq, notF_eq]; rfl) x y s k cf tm h
  case gtr => exact intX_g hq (op := .gtr) (g := fun i a b => .bool (ltIF b a)) (fun _ _ _ _ => rfl) (fun i a b => by rw [ltIF_eq]; rfl) x y s k cf tm h
  case geq => exact intX_g hq (op := .geq) (g := fun i a b => .bool (notF (ltIF a b))) (fun _ _ _ _ => rfl) (fun i a b => by rw [ltIF_eq, notF_eq]; rfl) x y s k cf tm h
  case eql => exact eqX_eq hq false t x y s k cf tm h
  case neq => exact eqX_eq hq true t x y s k cf tm h
  case and => exact intX_eq hq (fun k i a j b => bitK_eq (fun _ _ _ _ => rfl) (fun _ _ _ => rfl) k i a j b) x y s k cf tm h
  case or => exact intX_eq hq (fun k i a j b => bitK_eq (fun _ _ _ _ => rfl) (fun _ _ _ => rfl) k i a j b) x y s k cf tm h
  case xor => exact intX_eq hq (fun k i a j b => bitK_eq (fun _ _ _ _ => rfl) (fun _ _ _ => rfl) k i a j b) x y s k cf tm h
  case rem => exact intX_eq hq (fun k i a j b => remK_eq k i a j b) x y s k cf tm h
  case quo => exact intX_eq hq (fun k i a j b => quoK_eq k i a j b) x y s k cf tm h
  case shr => exact intX_eq hq (fun k i a j b => shrK_eq k i a j b) x y s k cf tm h
  case shl => exact intX_eq hq (fun k i a j b => shlK_eq k i a j b) x y s k cf tm h
  all_goals
    show rvK _ (bin (cx.put q) _ t (x.run tm) (y.run tm)) = _
    rw [hq]

/-! ### structs -/
theorem partsF_ok {pl : Nat → Option (Nat × Nat)} {tm : Tm} : ∀ {ps : List (Nat × Operand)} {F : List Part}, partsF pl ps = some F →
    ∃ qs, partsA tm ps = some qs ∧ ∀ (k : List AV → AOut) (cells : List AV), fillR tm k F cells = match fillG pl cells qs with
      | some cs => k cs
      | none => .no
  | [], F, h => by simp only [partsF, Option.some.injEq] at h; subst h; exact ⟨[], rfl, fun k cells => rfl⟩
  | (i, x) :: r, F, h => by
    simp only [partsF] at h
    split at h
    · rename_i off size v ps hp hv hr
      cases h
      obtain ⟨qs, h1, h2⟩ := partsF_ok (tm := tm) hr
      refine ⟨(i, v.run tm) :: qs, by simp only [partsA, opF_some hv tm, h1], fun k cells => ?_⟩
      show @Bool.rec (fun _ => AOut) _ _ (isTupR (v.run tm)) = _
      rw [isTupR_eq]
      simp only [fillG, hp]
      cases isTup (v.run tm) with
      | true => rfl
      | false =>
        show @Bool.rec (fun _ => AOut) _ _ (Nat.beq (lenR (cellsR (v.run tm))) size) = _
        rw [lenR_eq, cellsR_eq]
        cases Nat.beq (cellsOf (v.run tm)).length size with
        | false => rfl
        | true =>
          cases overAt off cells (cellsOf (v.run tm)) with
          | none => rfl
          | some cs => exact h2 k cs
    · cases h
theorem partK_eq {cx : Cx} {u : Nat} {ty : TyI} (hu : cx.tt.get u = some ty) (k : AV → AOut) (cs : List AV) (o : Nat) : partK k ty.agg ty.size o cs = rvK k (partA cx u cs o) := by
  unfold partK
  simp only [partA, hu]
  cases ty.agg with
  | true => exact agK_eq k _
  | false => rfl

theorem opX_eq {cx : Cx} {q : Kn} (hq : cx.put q = cx) (op : Op) (s : SF) (k : K) (cf : CallF) (tm : Tm) (h : AH) : (opX cx op s).step q k cf tm h = giveK k cf s tm h (aop cx tm h op) := by
  have any : (anyX cx op s).step q k cf tm h = giveK k cf s tm h (aop cx tm h op) := by
    show giveK k cf s tm h (aop (cx.put q) tm h op) = _
    rw [hq]
  unfold opX
  split
  · -- move
    rename_i x
    split
    · rename_i a ha; simp only [aop, opF_some ha tm]; rfl
    · rename_i ha; simp only [aop, opF_none ha tm]; rfl
  · -- assign
    rename_i x
    split
    · rename_i a ha; simp only [aop, opF_some ha tm]; rfl
    · rename_i ha; simp only [aop, opF_none ha tm]; rfl
  · -- load
    rename_i t p
    split
    · rename_i p' ty hp ht
      simp only [aop, opF_some hp tm, bind1]
      rw [give_rv]
      cases ha : ty.agg with
      | true => simp only [loadX]; exact loadN_eq ht ha (congrArg Cx.reads hq) _ _ _
      | false => simp only [loadX]; exact load1_eq ht ha (congrArg Cx.reads hq) _ _ _
    · rename_i hne
      cases hp : opF p with
      | none => simp only [aop, opF_none hp tm, bind1]; rfl
      | some p' =>
        cases ht : cx.tt.get t with
        | some ty => exact absurd ht (hne _ _ hp)
        | none =>
          simp only [aop, opF_some hp tm, bind1]
          rw [give_rv]
          have e : loadA cx h t (p'.run tm) = none := by
            unfold loadA loadG
            simp only [ht]
            split
            · split <;> rfl
            · split <;> rfl
            · split <;> rfl
            · rfl
          rw [e]; rfl
  · -- store
    rename_i t p v
    split
    · rename_i p' v' ty hp hv ht
      simp only [aop, opF_some hp tm, opF_some hv tm, bind1]
      exact storeK_eq ht k cf s tm _ _ h
    · rename_i hne
      cases hp : opF p with
      | none => simp only [aop, opF_none hp tm, bind1]; rfl
      | some p' =>
        cases hv : opF v with
        | none => simp only [aop, opF_some hp tm, opF_none hv tm, bind1]; rfl
        | some v' =>
          cases ht : cx.tt.get t with
          | some ty => exact absurd ht (hne _ _ _ hp hv)
          | none =>
            simp only [aop, opF_some hp tm, opF_some hv tm, bind1]
            have e : storeA cx h t (p'.run tm) (v'.run tm) = none := by
              unfold storeA
              simp only [ht]
              split
              · split <;> rfl
              · rfl
            rw [e]; rfl
  · -- nilCheck
    split
    · rename_i x' hx; simp only [aop, opF_some hx tm, bind1]; rw [give_rv]; exact nilK_eq (fun v => k (s.run v tm) h) (x'.run tm)
    · rename_i hx; simp only [aop, opF_none hx tm, bind1]; rfl
  · -- fieldAddr
    rename_i t x f
    have none' : (∀ v, fldAddr cx t f v = none) → noX.step q k cf tm h = giveK k cf s tm h (aop cx tm h (.fieldAddr t x f)) := by
      intro hv
      cases hx : opnd tm x with
      | none => simp only [aop, hx, bind1]; rfl
      | some v => simp only [aop, hx, bind1, hv]; rfl
    split
    · rename_i x' ti hx ht
      split
      · rename_i fs hk
        split
        · rename_i o u n hf
          split
          · exact none' fun v => by cases v <;> first | rfl | (simp only [fldAddr, ht, hk, hf])
          · rename_i m hm
            simp only [aop, opF_some hx tm, bind1]; rw [give_rv]
            cases n with
            | zero => exact absurd rfl hm
            | succ n => exact fldK_eq ht hk hf (fun v => k (s.run v tm) h) (x'.run tm)
        · rename_i hf; exact none' fun v => by cases v <;> first | rfl | (simp only [fldAddr, ht, hk, hf])
      · rename_i hk
        exact none' fun v => by
          cases v <;> first | rfl | (simp only [fldAddr, ht]; done) | (simp only [fldAddr, ht]; split <;> first | rfl | (rename_i fs hk'; exact absurd hk' (hk fs)))
    · rename_i hne
      cases hx : opF x with
      | none => simp only [aop, opF_none hx tm, bind1]; rfl
      | some x' =>
        cases ht : cx.tt.get t with
        | some ti => exact absurd ht (hne _ _ hx)
        | none => exact none' fun v => by cases v <;> first | rfl | (simp only [fldAddr, ht])
  · -- indexAddr
    rename_i t x ix
    have none' : (∀ v w, ixAddr cx t v w = none) → noX.step q k cf tm h = giveK k cf s tm h (aop cx tm h (.indexAddr t x ix)) := by
      intro hv
      cases hx : opnd tm x with
      | none => simp only [aop, hx, bind1]; rfl
      | some v => cases hi : opnd tm ix with
        | none => simp only [aop, hx, hi, bind1]; rfl
        | some w => simp only [aop, hx, hi, bind1, hv]; rfl
    split
    · rename_i x' ix' ti hx hi ht
      split
      · rename_i e hk
        split
        · rename_i ty he
          simp only [aop, opF_some hx tm, opF_some hi tm, bind1]; rw [give_rv, ← ixSl_eq ht hk he (fun v => k (s.run v tm) h) (x'.run tm) (ix'.run tm), ← congrArg Cx.facts hq, ← congrArg Cx.lens hq]; rfl
        · rename_i he
          refine none' fun v w => ixAddr_none ?_ (by simp only [ht, hk, he])
          unfold ixAddr0
          simp only [ht]
          split
          · rename_i kk hkk _ hti
            cases hti
            simp only [hk]
            split
            · rename_i hh; cases hh; simp only [he]; split <;> simp_all
            · rename_i hh; cases hh
            · rename_i hh; cases hh
            · rfl
          · rfl
      · rename_i n e hk
        split
        · rename_i ty he
          simp only [aop, opF_some hx tm, opF_some hi tm, bind1]; rw [give_rv]; exact ixAr_eq ht hk he (fun v => k (s.run v tm) h) (x'.run tm) (ix'.run tm)
        · rename_i he
          refine none' fun v w => ixAddr_none ?_ (by simp only [ht, hk])
          unfold ixAddr0
          simp only [ht]
          split
          · rename_i kk hkk _ hti
            cases hti
            simp only [hk]
            split
            · rename_i hh; cases hh
            · rename_i hh; cases hh; simp only [he]; split <;> simp_all
            · rename_i hh; cases hh; simp only [he]; split <;> simp_all
            · rfl
          · rfl
      · rename_i h1 h2
        refine none' fun v w => ixAddr_none ?_ (by simp only [ht] <;> (split <;> first | rfl | (rename_i hh; exact absurd hh (h1 _))))
        unfold ixAddr0
        simp only [ht]
        split
        · rename_i kk hkk _ hti
          cases hti
          split
          · rename_i hh; exact absurd hh (h1 _)
          · rename_i hh; exact absurd hh (h2 _ _)
          · rename_i hh; exact absurd hh (h2 _ _)
          · rfl
        · rfl
    · rename_i hne
      cases hx : opF x with
      | none => simp only [aop, opF_none hx tm, bind1]; rfl
      | some x' =>
        cases hi : opF ix with
        | none => simp only [aop, opF_some hx tm, opF_none hi tm, bind1]; rfl
        | some ix' =>
          cases ht : cx.tt.get t with
          | some ti => exact absurd ht (hne _ _ _ hx hi)
          | none =>
            refine none' fun v w => ixAddr_none ?_ (by simp only [ht])
            unfold ixAddr0
            simp only [ht]
            split <;> simp_all
  · -- pick
    split
    · rename_i c' a' b' hc ha hb
      simp only [aop]; rw [give_rv]; exact pickK_eq (tm := tm) hc ha hb (fun v => k (s.run v tm) h)
    · exact any
  · -- extract
    split
    · rename_i x' hx; simp only [aop, aop2, opF_some hx tm, bind1]; rw [give_rv]; exact extK_eq _ _ _
    · rename_i hx; simp only [aop, aop2, opF_none hx tm, bind1]; rfl
  · -- alloc
    split
    · rename_i ty ht; simp only [aop, aop2, allocA, ht]; rfl
    · rename_i ht; simp only [aop, aop2, allocA, ht]; rfl
  · -- box
    split
    · rename_i x' hx; simp only [aop, aop2, opF_some hx tm, bind1]; exact boxK_eq k cf s tm h _
    · rename_i hx; simp only [aop, aop2, opF_none hx tm, bind1]; rfl
  · -- binOp
    rename_i b t x y _
    split
    · rename_i x' y' hx hy; simp only [aop, opF_some hx tm, opF_some hy tm, bind1]; rw [give_rv]; exact binX_eq hq b t x' y' s k cf tm h
    · rename_i hne
      cases hx : opF x with
      | none => simp only [aop, opF_none hx tm, bind1]; rfl
      | some x' => cases hy : opF y with
        | none => simp only [aop, opF_some hx tm, opF_none hy tm, bind1]; rfl
        | some y' => exact absurd hy (hne _ _ hx)
  · -- not
    split
    · rename_i x' hx; simp only [aop, aop2, opF_some hx tm, bind1]; rw [give_rv]; exact notK_eq (fun v => k (s.run v tm) h) (x'.run tm)
    · rename_i hx; simp only [aop, aop2, opF_none hx tm, bind1]; rfl
  · -- convert
    rename_i st d x
    split
    · rename_i x' si ti hx hs ht
      split
      · rename_i j hj
        simp only [aop, aop2, opF_some hx tm, bind1]; rw [give_rv]
        have e : convA cx h st d (x'.run tm) = convI cx j (x'.run tm) := by simp only [convA, hs, ht, hj]
        rw [e]
        rw [convX_step, hq]; exact convK_eq cx _ j _
      · exact any
    · exact any
  · -- build
    rename_i t ps
    split
    · rename_i ti ht
      split
      · rename_i fs hk
        split
        · rename_i F hF
          obtain ⟨qs, h1, h2⟩ := partsF_ok (tm := tm) hF
          simp only [aop, aop2]; rw [give_rv]
          simp only [buildA, ht, hk, h1]
          refine (h2 _ _).trans ?_
          cases fillG (placeA fs) ti.zero qs <;> rfl
        · exact any
      · exact any
    · rename_i ht
      simp only [aop, aop2, buildA, ht]; rfl
  · -- field
    rename_i t x f
    have none' : (∀ v, fldA cx t f v = none) → noX.step q k cf tm h = giveK k cf s tm h (aop cx tm h (.field t x f)) := by
      intro hv
      cases hx : opnd tm x with
      | none => simp only [aop, aop2, hx, bind1]; rfl
      | some v => simp only [aop, aop2, hx, bind1, hv]; rfl
    split
    · rename_i x' ti hx ht
      split
      · rename_i fs hk
        split
        · rename_i o u n hf
          split
          · rename_i ty hu
            simp only [aop, aop2, opF_some hx tm, bind1]; rw [give_rv]
            show fieldK _ ty.agg ty.size o (x'.run tm) = _
            cases x'.run tm <;> try rfl
            case agg cs =>
              simp only [fldA, ht, hk, hf]
              exact partK_eq hu _ _ _
          · rename_i hu
            exact none' fun v => by cases v <;> first | rfl | (simp only [fldA, ht, hk, hf, partA, hu])
        · rename_i hf; exact none' fun v => by cases v <;> first | rfl | (simp only [fldA, ht, hk, hf])
      · rename_i hk
        exact none' fun v => by
          cases v <;> first | rfl | (simp only [fldA, ht]; done) | (simp only [fldA, ht]; split <;> first | rfl | (rename_i fs hk'; exact absurd hk' (hk fs)))
    · rename_i hne
      cases hx : opF x with
      | none => simp only [aop, aop2, opF_none hx tm, bind1]; rfl
      | some x' =>
        cases ht : cx.tt.get t with
        | some ti => exact absurd ht (hne _ _ hx)
        | none => exact none' fun v => by cases v <;> first | rfl | (simp only [fldA, ht])
  · -- call
    rename_i c
    split
    · rename_i f hcal
      split
      · rename_i f' as hf has
        have e : aop cx tm h (.call c) = callA (f'.run tm) (some (runVs as tm)) := by
          simp only [aop, aop2, callO, hcal, opF_some hf tm, opFs_some has tm, bind1]
        rw [e]; exact callK_eq k cf s tm _ _ h
      · rename_i hne
        have e : aop cx tm h (.call c) = .no := by
          simp only [aop, aop2, callO, hcal]
          cases hf : opF f with
          | none => simp only [opF_none hf tm, bind1]
          | some f' => cases has : opFs c.args.toList with
            | some as => exact absurd has (hne _ _ hf)
            | none =>
              simp only [opF_some hf tm, opFs_none has tm, bind1, callA]
              split <;> simp_all
        rw [e]; rfl
    · rename_i hcal
      split
      · rename_i x t ts hargs htys
        split
        · rename_i x' ti hx ht
          split
          · rename_i e' hk
            have e : aop cx tm h (.call c) = rv h (lenA cx h t (x'.run tm)) := by
              simp only [aop, aop2, callO, hcal, hargs, htys, opnds, opF_some hx tm, biA]
            rw [e, give_rv, ← lenSlK_eq (h := h) ht hk (fun v => k (s.run v tm) h) (x'.run tm), ← congrArg Cx.lens hq]; rfl
          · exact any
        · exact any
      · exact any
    · exact any
  · exact any
end Go.Abs

namespace Go.Abs
variable {cx : Cx} {q : Kn}

/-! ### a region in the order of the text -/
theorem guardK_eq (want : Bool) (x : AV) : guardK want x = wantedV want x := by
  cases x <;> try rfl
  case bool b => exact congrArg some (boolEqR_eq b want)
theorem wantF_none {all : List Oper} {o : Oper} (h : wantF all o = none) (tm : Tm) : wantedA all tm o = some true := by
  unfold wantF at h
  unfold wantedA
  split at h
  · rename_i hg; rw [hg]
  · split at h
    · split at h <;> cases h
    · cases h
theorem wantF_some {all : List Oper} {o : Oper} {w : WF} (h : wantF all o = some w) (tm : Tm) : wantedA all tm o = w.run tm := by
  unfold wantF at h
  unfold wantedA
  split at h
  · cases h
  · rename_i g want hg
    simp only [hg]
    split at h
    · rename_i oo ho
      simp only [ho]
      split at h
      · rename_i d hd
        cases h
        simp only [hd]
        rw [guardK_eq, getF_run]
      · rename_i hd; cases h; simp only [hd]
    · rename_i ho; cases h; simp only [ho]
theorem lineX_eq (hq : cx.put q = cx) (all : List Oper) (o : Oper) (k : K) (cf : CallF) (tm : Tm) (h : AH) : (lineX cx all o).step q k cf tm h = match wantedA all tm o with
    | none => .no
    | some false => k (putA tm o.dst .undef) h
    | some true => giveK k cf (putF o.dst) tm h (aop cx tm h o.op) := by
  unfold lineX
  cases hw : wantF all o with
  | none => rw [wantF_none hw tm]; exact opX_eq hq o.op _ k cf tm h
  | some w =>
    rw [wantF_some hw tm]
    show @Option.rec Bool (fun _ => AOut) .no (fun b => @Bool.rec (fun _ => AOut) _ _ b) (w.run tm) = _
    rcases w.run tm with _ | _ | _
    case none => rfl
    case some.true => exact opX_eq hq o.op _ k cf tm h
    case some.false => show k ((putF o.dst).run .undef tm) h = _; rw [putF_run]
theorem runX_eq (hq : cx.put q = cx) (cf : CallF) (all : List Oper) : ∀ (os : List Oper) (tm : Tm) (h : AH), runX q cf (linesX cx all os) tm h = runOps cx cf all os tm h
  | [], tm, h => rfl
  | o :: os, tm, h => by
    show (lineX cx all o).step q (runX q cf (linesX cx all os)) cf tm h = _
    rw [lineX_eq hq]
    simp only [runOps]
    rcases wantedA all tm o with _ | _ | _
    case none => rfl
    case some.false => exact runX_eq hq cf all os _ h
    case some.true =>
      simp only
      cases aop cx tm h o.op with
      | no => rfl
      | val v h2 => show runX q cf (linesX cx all os) ((putF o.dst).run v tm) h2 = _; rw [putF_run]; exact runX_eq hq cf all os _ h2
      | call f as =>
        have e : giveK (runX q cf (linesX cx all os)) cf (putF o.dst) tm h (.call f as) = resK (fun v h2 => runX q cf (linesX cx all os) ((putF o.dst).run v tm) h2) (cf f as h) := rfl
        rw [e]
        cases hc : cf f as h with
        | none => simp only [hc]; rfl
        | some p =>
          obtain ⟨v, h2⟩ := p
          simp only [hc]
          show runX q cf (linesX cx all os) ((putF o.dst).run v tm) h2 = _
          rw [putF_run]; exact runX_eq hq cf all os _ h2

/-! ### a region whose order is open -/
mutual
theorem avEqR_ok : ∀ (x y : AV), avEqR x y = true → avEq x y = true
  | .bool a, y, h => by
    cases y <;> first | cases h | skip
    case bool b => simp only [avEq]; rw [← boolEqR_eq]; exact h
  | .int k a, y, h => by
    cases y <;> first | cases h | skip
    case int j b =>
      have h' : (@Bool.rec (fun _ => Bool) false (eqIF a b) (Nat.beq (kTag k) (kTag j))) = true := h
      rw [kTag_eq, eqIF_eq] at h'
      simp only [avEq]
      cases hk : kEq k j <;> rw [hk] at h' <;> first | cases h' | exact h'
  | .sym k a, y, h => by
    cases y <;> first | cases h | skip
    case sym j b =>
      have h' : (@Bool.rec (fun _ => Bool) false (Nat.beq a b) (Nat.beq (kTag k) (kTag j))) = true := h
      rw [kTag_eq] at h'
      simp only [avEq]
      cases hk : kEq k j <;> rw [hk] at h' <;> first | cases h' | exact h'
  | .str a, y, h => by
    cases y <;> first | cases h | exact h
  | .sstr a, y, h => by
    cases y <;> first | cases h | skip
    case sstr b => simp only [avEq]; exact avsEqR_ok a b h
  | .gptr g o, y, h => by
    cases y <;> first | cases h | skip
    case gptr j p =>
      have h' : (@Bool.rec (fun _ => Bool) false (Nat.beq o p) (Nat.beq g j)) = true := h
      simp only [avEq]
      cases hk : Nat.beq g j <;> rw [hk] at h' <;> first | cases h' | exact h'
  | .ptr g o, y, h => by
    cases y <;> first | cases h | skip
    case ptr j p =>
      have h' : (@Bool.rec (fun _ => Bool) false (Nat.beq o p) (Nat.beq g j)) = true := h
      simp only [avEq]
      cases hk : Nat.beq g j <;> rw [hk] at h' <;> first | cases h' | exact h'
  | .nilp, y, h | .nils, y, h | .nilm, y, h | .nilf, y, h | .nili, y, h => by
    cases y <;> first | rfl | cases h
  | .slice i o e l c, y, h => by
    cases y <;> first | cases h | skip
    case slice j p f m d =>
      have h' : (@Bool.rec (fun _ => Bool) false (@Bool.rec (fun _ => Bool) false (@Bool.rec (fun _ => Bool) false (@Bool.rec (fun _ => Bool) false (@Option.rec Nat (fun _ => Bool) (@Option.rec Nat (fun _ => Bool) true (fun _ => false) d) (fun c2 => @Option.rec Nat (fun _ => Bool) false (fun d2 => Nat.beq c2 d2) d) c) (Nat.beq l m)) (Nat.beq e f)) (Nat.beq o p)) (Nat.beq i j)) = true := h
      simp only [avEq]
      cases h1 : Nat.beq i j <;> rw [h1] at h' <;> first | cases h' | skip
      cases h2 : Nat.beq o p <;> rw [h2] at h' <;> first | cases h' | skip
      cases h3 : Nat.beq e f <;> rw [h3] at h' <;> first | cases h' | skip
      cases h4 : Nat.beq l m <;> rw [h4] at h' <;> first | cases h' | skip
      simp only [h1, h2, h3, h4]
      cases c <;> cases d <;> first | exact h' | rfl | cases h'
  | .tail _ _ _ _ _, y, h => by cases h
  | .map i, y, h => by
    cases y <;> first | cases h | exact h
  | .fn f a b, y, h => by
    cases y <;> first | cases h | skip
    case fn g c d =>
      have h' : (@Bool.rec (fun _ => Bool) false (@Bool.rec (fun _ => Bool) false (avsEqR b d) (avsEqR a c)) (Nat.beq f g)) = true := h
      simp only [avEq]
      cases h1 : Nat.beq f g <;> rw [h1] at h' <;> first | cases h' | skip
      cases h2 : avsEqR a c <;> rw [h2] at h' <;> first | cases h' | skip
      rw [avsEqR_ok a c h2]
      exact avsEqR_ok b d h'
  | .iface _ _, y, h => by cases h
  | .opq i, y, h => by
    cases y <;> first | cases h | exact h
  | .lptr i e c n o, y, h => by
    cases y <;> first | cases h | skip
    case lptr j f d m p =>
      have h' : (@Bool.rec (fun _ => Bool) false (@Bool.rec (fun _ => Bool) false (@Bool.rec (fun _ => Bool) false (@Bool.rec (fun _ => Bool) false (Nat.beq o p) (Nat.beq n m)) (boolEqR c d)) (Nat.beq e f)) (Nat.beq i j)) = true := h
      simp only [avEq]
      cases h1 : Nat.beq i j <;> rw [h1] at h' <;> first | cases h' | skip
      cases h2 : Nat.beq e f <;> rw [h2] at h' <;> first | cases h' | skip
      cases h3 : boolEqR c d <;> rw [h3] at h' <;> first | cases h' | skip
      cases h4 : Nat.beq n m <;> rw [h4] at h' <;> first | cases h' | skip
      rw [boolEqR_eq] at h3
      simp only [h1, h2, h3, h4]
      exact h'
  | .agg a, y, h => by
    cases y <;> first | cases h | skip
    case agg b => simp only [avEq]; exact avsEqR_ok a b h
  | .tup a, y, h => by
    cases y <;> first | cases h | skip
    case tup b => simp only [avEq]; exact avsEqR_ok a b h
theorem avsEqR_ok : ∀ (x y : List AV), avsEqR x y = true → avsEq x y = true
  | [], y, h => by cases y <;> first | rfl | cases h
  | a :: x, y, h => by
    cases y with
    | nil => cases h
    | cons b y =>
      have h' : (@Bool.rec (fun _ => Bool) false (avsEqR x y) (avEqR a b)) = true := h
      simp only [avsEq]
      cases h1 : avEqR a b <;> rw [h1] at h' <;> first | cases h' | skip
      rw [avEqR_ok a b h1]
      exact avsEqR_ok x y h'
end
theorem load1O_eq {t : Nat} {ty : TyI} (ht : cx.tt.get t = some ty) (ha : ty.agg = false) {rd : List FRead} (hrd : rd = cx.reads ∨ rd = []) {p : AV} {h : AH} {v : AV} (hv : load1O rd cx.globs p h = some v) : loadA cx h t p = some v := by
  cases p <;> first | (cases hv; done) | skip
  case lptr j es c n off =>
    have hv : @Option.rec (List AV) (fun _ => Option AV) none (fun cs => nth cs off) (findRead j es c n rd) = some v := hv
    rcases hrd with rfl | rfl
    · simp only [loadA, loadG, ht, ha]
      cases hf : findRead j es c n cx.reads with
      | none => rw [hf] at hv; cases hv
      | some cs => rw [hf] at hv; exact hv
    · cases hv
  all_goals (rw [← hv]; symm)
  case gptr g off =>
    show @Option.rec (List AV) (fun _ => Option AV) _ _ (cx.globs.get g) = loadA cx h t (.gptr g off)
    simp only [loadA, loadG, ht, ha]
    cases cx.globs.get g <;> rfl
  case ptr i off =>
    show @Option.rec AO (fun _ => Option AV) _ _ (h.objs.get i) = loadA cx h t (.ptr i off)
    simp only [loadA, ht, ha]
    cases h.objs.get i with
    | none => rfl
    | some o => cases o <;> rfl
theorem loadNO_eq {t : Nat} {ty : TyI} (ht : cx.tt.get t = some ty) (ha : ty.agg = true) {rd : List FRead} (hrd : rd = cx.reads ∨ rd = []) {p : AV} {h : AH} {v : AV} (hv : loadNO rd cx.globs ty.size p h = some v) : loadA cx h t p = some v := by
  cases p <;> first | (cases hv; done) | skip
  case lptr j es c n off =>
    have hv : @Option.rec (List AV) (fun _ => Option AV) none (fun cs => @Option.rec (List AV) (fun _ => Option AV) none (fun l => some (.agg l)) (slice1 cs off ty.size)) (findRead j es c n rd) = some v := hv
    rcases hrd with rfl | rfl
    · simp only [loadA, loadG, ht, ha]
      cases hf : findRead j es c n cx.reads with
      | none => rw [hf] at hv; cases hv
      | some cs =>
        rw [hf] at hv
        have hv : @Option.rec (List AV) (fun _ => Option AV) none (fun l => some (.agg l)) (slice1 cs off ty.size) = some v := hv
        simp only
        cases hs : slice1 cs off ty.size with
        | none => rw [hs] at hv; cases hv
        | some l => rw [hs] at hv; exact hv
    · cases hv
  all_goals (rw [← hv]; symm)
  case gptr g off =>
    show @Option.rec (List AV) (fun _ => Option AV) _ _ (cx.globs.get g) = loadA cx h t (.gptr g off)
    simp only [loadA, loadG, ht, ha]
    cases cx.globs.get g with
    | none => rfl
    | some cs =>
      show @Option.rec (List AV) (fun _ => Option AV) _ _ (slice1 cs off ty.size) = _
      simp only
      cases slice1 cs off ty.size <;> rfl
  case ptr i off =>
    show @Option.rec AO (fun _ => Option AV) _ _ (h.objs.get i) = loadA cx h t (.ptr i off)
    simp only [loadA, ht, ha]
    cases h.objs.get i with
    | none => rfl
    | some o => cases o with
      | map es c => rfl
      | iter m since last seen pre => rfl
      | cells cs ro es =>
        show @Option.rec (List AV) (fun _ => Option AV) _ _ (slice1 cs off ty.size) = _
        simp only
        cases slice1 cs off ty.size <;> rfl
theorem valO_rv (h : AH) (r : Option AV) : valO (rv h r) = r := by cases r <;> rfl
theorem readF_eq (hq : cx.put q = cx) (op : Op) (tm : Tm) (h : AH) (v : AV) (hv : (readF cx op).run q tm h = some v) : valO (aop cx tm h op) = some v := by
  unfold readF at hv
  split at hv
  · rename_i t p
    split at hv
    · rename_i p' ty hp ht
      simp only [aop, opF_some hp tm, bind1]
      rw [valO_rv]
      split at hv
      · rename_i ha; exact loadNO_eq ht ha (.inl (congrArg Cx.reads hq)) hv
      · rename_i ha; exact load1O_eq ht ha (.inl (congrArg Cx.reads hq)) hv
    · cases hv
  · have hv2 : valO (aop (cx.put q) tm h op) = some v := hv
    rw [hq] at hv2; exact hv2
theorem chkR_ok (hq : cx.put q = cx) {sn : Tr AH} {r : Read} : ∀ {ps : List Nat}, chkR cx q sn r ps = true → chkRead cx sn r ps = true
  | [], _ => rfl
  | p :: ps, h => by
    have h' : (@Option.rec AH (fun _ => Bool) false (fun h => @Bool.rec (fun _ => Bool) false (chkR cx q sn r ps) (isSameR r.v ((readF cx r.op).run q r.tm h))) (sn.get p)) = true := h
    simp only [chkRead]
    cases hs : sn.get p with
    | none => rw [hs] at h'; cases h'
    | some hh =>
      rw [hs] at h'
      have h2 : (@Bool.rec (fun _ => Bool) false (chkR cx q sn r ps) (isSameR r.v ((readF cx r.op).run q r.tm hh))) = true := h'
      cases hr : (readF cx r.op).run q r.tm hh with
      | none => rw [hr] at h2; cases h2
      | some v =>
        rw [hr] at h2
        have h3 : (@Bool.rec (fun _ => Bool) false (chkR cx q sn r ps) (avEqR v r.v)) = true := h2
        have hv := readF_eq hq _ _ _ _ hr
        simp only
        cases ha : aop cx r.tm hh r.op with
        | no => rw [ha] at hv; cases hv
        | call f as => rw [ha] at hv; cases hv
        | val u g =>
          rw [ha] at hv
          have : u = v := Option.some.inj hv
          subst this
          simp only
          cases he : avEqR u r.v with
          | false => rw [he] at h3; cases h3
          | true =>
            rw [he] at h3
            rw [avEqR_ok _ _ he]
            exact chkR_ok hq h3
theorem chksR_ok (hq : cx.put q = cx) {sn : Tr AH} : ∀ {rs : List Read}, chksR cx q sn rs = true → chkReads cx sn rs = true
  | [], _ => rfl
  | r :: rs, h => by
    have h' : (@Bool.rec (fun _ => Bool) false (chksR cx q sn rs) (chkR cx q sn r r.ps)) = true := h
    simp only [chkReads]
    cases hc : chkR cx q sn r r.ps with
    | false => rw [hc] at h'; cases h'
    | true =>
      rw [hc] at h'
      rw [chkR_ok hq hc]
      exact chksR_ok hq h'

theorem readIf_nil {pl : List (List Nat)} (hp : headL pl = []) (op : Op) (tm : Tm) (v : AV) (rd : List Read) : readIf pl op tm v rd = rd := by
  cases pl with
  | nil => rfl
  | cons p q => simp only [headL] at hp; subst hp; rfl
theorem readIf_cons {pl : List (List Nat)} {p : Nat} {qs : List Nat} (hp : headL pl = p :: qs) (op : Op) (tm : Tm) (v : AV) (rd : List Read) : readIf pl op tm v rd = ⟨p :: qs, op, tm, v⟩ :: rd := by
  cases pl with
  | nil => simp [headL] at hp
  | cons a b => simp only [headL] at hp; subst hp; rfl

/-- what the spec says of the rest -/
def Goes (cx : Cx) (cf : CallF) (all : List Oper) (k : Nat) (os : List Oper) (pl : List (List Nat)) (tm : Tm) (h : AH) (sn : Tr AH) (rd : List Read) (out : AOut) : Prop :=
  ∃ d, runDraw cx cf all k os pl tm h sn rd = some d ∧ chkReads cx d.sn d.rd = true ∧ out = .norm d.tm d.h

theorem give_cases {k : Tm → AH → AOut} {cf : CallF} {d : Option Nat} {tm : Tm} {h : AH} {r : AR} {out : AOut} (hg : giveK k cf (putF d) tm h r = out) (hno : out ≠ .no) :
    (∃ v h2, r = .val v h2 ∧ k (putA tm d v) h2 = out) ∨ (∃ f as v h2, r = .call f as ∧ cf f as h = some (v, h2) ∧ k (putA tm d v) h2 = out) := by
  cases r with
  | no => exact absurd hg.symm hno
  | val v h2 => exact .inl ⟨v, h2, rfl, by rw [← putF_run]; exact hg⟩
  | call f as =>
    refine .inr ?_
    have hg' : resK (fun v h2 => k ((putF d).run v tm) h2) (cf f as h) = out := hg
    cases hc : cf f as h with
    | none => rw [hc] at hg'; exact absurd hg'.symm hno
    | some p => rw [hc] at hg'; exact ⟨f, as, p.1, p.2, rfl, hc, by rw [← putF_run]; exact hg'⟩

theorem drawO_ok (hq : cx.put q = cx) {cf : CallF} {all : List Oper} {k : Nat} {o : Oper} {os : List Oper} {pl : List (List Nat)} {tm : Tm} {h : AH} {sn : Tr AH} {rd : List Read} {out : AOut} {D : DK}
    (hD : ∀ tm h sn rd, D tm h sn rd = out → Goes cx cf all (k + 1) os (tl pl) tm h sn rd out) (hno : out ≠ .no) (hw : wantedA all tm o = some true)
    (hr : (drawO (opX cx o.op (putF o.dst)) k o.op o.dst (headL pl)).step q D cf tm h sn rd = out) : Goes cx cf all k (o :: os) pl tm h sn rd out := by
  unfold Goes
  simp only [runDraw, hw]
  unfold drawO at hr
  cases he : isE o.op with
  | true =>
    rw [he] at hr
    simp only at hr
    cases hp : headL pl with
    | cons p qs => rw [hp] at hr; exact absurd hr.symm hno
    | nil =>
      rw [hp] at hr
      simp only [opX_eq hq] at hr
      rcases give_cases hr hno with ⟨v, h2, ha, hk⟩ | ⟨f, as, v, h2, ha, hc, hk⟩
      · simp only [ha, snapIf, readIf_nil hp]; exact hD _ _ _ _ hk
      · simp only [ha, hc]; exact hD _ _ _ _ hk
  | false =>
    rw [he] at hr
    simp only at hr
    cases hp : headL pl with
    | nil =>
      rw [hp] at hr
      simp only [opX_eq hq] at hr
      rcases give_cases hr hno with ⟨v, h2, ha, hk⟩ | ⟨f, as, v, h2, ha, hc, hk⟩
      · simp only [ha, snapIf, readIf_nil hp]; exact hD _ _ _ _ hk
      · cases hc
    | cons p qs =>
      rw [hp] at hr
      simp only at hr
      cases hd : o.dst with
      | none => rw [hd] at hr; exact absurd hr.symm hno
      | some d =>
        rw [hd] at hr
        simp only [opX_eq hq] at hr
        rcases give_cases hr hno with ⟨v, h2, ha, hk⟩ | ⟨f, as, v, h2, ha, hc, hk⟩
        · simp only [ha, snapIf, readIf_cons hp]
          have e : (getF d).run (putA tm (some d) v) = v := by rw [getF_run]; simp only [putA, Tm.at_set, if_true]
          rw [e] at hk
          exact hD _ _ _ _ hk
        · cases hc
theorem drawL_ok (hq : cx.put q = cx) {cf : CallF} {all : List Oper} {k : Nat} {o : Oper} {os : List Oper} {pl : List (List Nat)} {tm : Tm} {h : AH} {sn : Tr AH} {rd : List Read} {out : AOut} {D : DK}
    (hD : ∀ tm h sn rd, D tm h sn rd = out → Goes cx cf all (k + 1) os (tl pl) tm h sn rd out) (hno : out ≠ .no)
    (hr : (drawL cx all k o (headL pl)).step q D cf tm h sn rd = out) : Goes cx cf all k (o :: os) pl tm h sn rd out := by
  unfold drawL at hr
  cases hw : wantF all o with
  | none => rw [hw] at hr; exact drawO_ok hq hD hno (wantF_none hw tm) hr
  | some w =>
    rw [hw] at hr
    have hww := wantF_some hw tm
    simp only at hr
    cases he : isE o.op with
    | true =>
      rw [he] at hr
      have hr' : (@Option.rec Bool (fun _ => AOut) .no (fun b => @Bool.rec (fun _ => AOut) (D ((putF o.dst).run .undef tm) h (Tr.setG (some h) sn k) rd) ((drawO (opX cx o.op (putF o.dst)) k o.op o.dst (headL pl)).step q D cf tm h sn rd) b) (w.run tm)) = out := hr
      rcases hrun : w.run tm with _ | _ | _
      case none => rw [hrun] at hr'; exact absurd hr'.symm hno
      case some.true => rw [hrun] at hr'; exact drawO_ok hq hD hno (hww.trans hrun) hr'
      case some.false =>
        rw [hrun] at hr'
        have hr2 : D ((putF o.dst).run .undef tm) h (Tr.setG (some h) sn k) rd = out := hr'
        rw [putF_run] at hr2
        unfold Goes
        simp only [runDraw, hww, hrun, he, snapIf]
        exact hD _ _ _ _ hr2
    | false =>
      rw [he] at hr
      have hr' : (@Option.rec Bool (fun _ => AOut) .no (fun b => @Bool.rec (fun _ => AOut) (D ((putF o.dst).run .undef tm) h sn rd) ((drawO (opX cx o.op (putF o.dst)) k o.op o.dst (headL pl)).step q D cf tm h sn rd) b) (w.run tm)) = out := hr
      rcases hrun : w.run tm with _ | _ | _
      case none => rw [hrun] at hr'; exact absurd hr'.symm hno
      case some.true => rw [hrun] at hr'; exact drawO_ok hq hD hno (hww.trans hrun) hr'
      case some.false =>
        rw [hrun] at hr'
        have hr2 : D ((putF o.dst).run .undef tm) h sn rd = out := hr'
        rw [putF_run] at hr2
        unfold Goes
        simp only [runDraw, hww, hrun, he, snapIf]
        exact hD _ _ _ _ hr2
theorem runD_ok (hq : cx.put q = cx) {cf : CallF} {all : List Oper} {out : AOut} (hno : out ≠ .no) : ∀ (os : List Oper) (k n : Nat) (pl : List (List Nat)) (tm : Tm) (h : AH) (sn : Tr AH) (rd : List Read), n = k + os.length →
    runD cx q n cf (drawsX cx all k os pl) tm h sn rd = out → Goes cx cf all k os pl tm h sn rd out
  | [], k, n, pl, tm, h, sn, rd, hn, hr => by
    have hn' : n = k := by simpa using hn
    subst hn'
    have hr' : (@Bool.rec (fun _ => AOut) .no (.norm tm h) (chksR cx q (Tr.setG (some h) sn n) rd)) = out := hr
    cases hc : chksR cx q (Tr.setG (some h) sn n) rd with
    | false => rw [hc] at hr'; exact absurd hr'.symm hno
    | true =>
      rw [hc] at hr'
      exact ⟨⟨tm, h, sn.set n h, rd⟩, rfl, chksR_ok hq hc, hr'.symm⟩
  | o :: os, k, n, pl, tm, h, sn, rd, hn, hr => by
    refine drawL_ok hq (fun tm h sn rd hr => runD_ok hq hno os (k + 1) n (tl pl) tm h sn rd (by simp only [List.length_cons] at hn; omega) hr) hno hr
end Go.Abs
