/- The interpreter in its plain form: it runs the given program's own code over memory without addresses. No premise of its own. -/
import GoSem.Core.Program
import GoSem.Core.View
import GoSem.Op.Equal
set_option linter.unusedVariables false
set_option linter.unusedSimpArgs false
namespace Go.Abs
noncomputable section

/-! ## a trie over numbers -/
inductive Tr (α : Type) where
  | nil
  | node (l : Tr α) (v : Option α) (r : Tr α)

def Tr.get {α : Type} (t : Tr α) : Nat → Option α :=
  Tr.rec (motive := fun _ => Nat → Option α) (fun _ => none)
    (fun _ v _ gl gr n => Nat.rec (motive := fun _ => Option α) v (fun k _ => Bool.rec (motive := fun _ => Option α) (gr (Nat.div k 2)) (gl (Nat.div k 2)) (Nat.beq (Nat.mod k 2) 0)) n) t

def Tr.setN {α : Type} (v : Option α) (f : Nat) : Nat → Tr α :=
  Nat.rec (motive := fun _ => Nat → Tr α) (fun _ => .nil)
    (fun _ ih n => Nat.rec (motive := fun _ => Tr α) (.node .nil v .nil) (fun k _ => Bool.rec (motive := fun _ => Tr α) (.node .nil none (ih (Nat.div k 2))) (.node (ih (Nat.div k 2)) none .nil) (Nat.beq (Nat.mod k 2) 0)) n) f

def Tr.setG {α : Type} (v : Option α) (t : Tr α) : Nat → Tr α :=
  Tr.rec (motive := fun _ => Nat → Tr α) (fun n => Tr.setN v (n + 1) n)
    (fun l w r gl gr n => Nat.rec (motive := fun _ => Tr α) (.node l v r) (fun k _ => Bool.rec (motive := fun _ => Tr α) (.node l w (gr (Nat.div k 2))) (.node (gl (Nat.div k 2)) w r) (Nat.beq (Nat.mod k 2) 0)) n) t

def Tr.set {α : Type} (t : Tr α) (n : Nat) (v : α) : Tr α := Tr.setG (some v) t n
def Tr.del {α : Type} (t : Tr α) (n : Nat) : Tr α := Tr.setG none t n

/-! ## a store of eight by eight .. -/
structure O8 (α : Type) where
  a0 : α
  a1 : α
  a2 : α
  a3 : α
  a4 : α
  a5 : α
  a6 : α
  a7 : α
def rep8 {α : Type} (a : α) : O8 α := ⟨a, a, a, a, a, a, a, a⟩
def sel8 {α : Type} (d : Nat) (t : O8 α) : α :=
  (Bool.rec (motive := fun _ => α) ((Bool.rec (motive := fun _ => α) ((Bool.rec (motive := fun _ => α) (t.a7) (t.a6) (Nat.ble d 6))) ((Bool.rec (motive := fun _ => α) (t.a5) (t.a4) (Nat.ble d 4))) (Nat.ble d 5))) ((Bool.rec (motive := fun _ => α) ((Bool.rec (motive := fun _ => α) (t.a3) (t.a2) (Nat.ble d 2))) ((Bool.rec (motive := fun _ => α) (t.a1) (t.a0) (Nat.ble d 0))) (Nat.ble d 1))) (Nat.ble d 3))
def upd8 {α : Type} (d : Nat) (f : α → α) (t : O8 α) : O8 α :=
  (O8.rec (motive := fun _ => O8 α) (fun b0 b1 b2 b3 b4 b5 b6 b7 => (Bool.rec (motive := fun _ => O8 α) ((Bool.rec (motive := fun _ => O8 α) ((Bool.rec (motive := fun _ => O8 α) (O8.mk b0 b1 b2 b3 b4 b5 b6 (f b7)) (O8.mk b0 b1 b2 b3 b4 b5 (f b6) b7) (Nat.ble d 6))) ((Bool.rec (motive := fun _ => O8 α) (O8.mk b0 b1 b2 b3 b4 (f b5) b6 b7) (O8.mk b0 b1 b2 b3 (f b4) b5 b6 b7) (Nat.ble d 4))) (Nat.ble d 5))) ((Bool.rec (motive := fun _ => O8 α) ((Bool.rec (motive := fun _ => O8 α) (O8.mk b0 b1 b2 (f b3) b4 b5 b6 b7) (O8.mk b0 b1 (f b2) b3 b4 b5 b6 b7) (Nat.ble d 2))) ((Bool.rec (motive := fun _ => O8 α) (O8.mk b0 (f b1) b2 b3 b4 b5 b6 b7) (O8.mk (f b0) b1 b2 b3 b4 b5 b6 b7) (Nat.ble d 0))) (Nat.ble d 1))) (Nat.ble d 3))) (t))
/-- memory: 4096 places, and others; and which places were put, the last first -/
structure Hp (α : Type) where
  lo : O8 (O8 (O8 (O8 (Option α))))
  hi : Tr α
  log : List Nat
def Hp.nil {α : Type} : Hp α := ⟨rep8 (rep8 (rep8 (rep8 none))), .nil, []⟩
def Hp.get {α : Type} (h : Hp α) (n : Nat) : Option α :=
  (Bool.rec (motive := fun _ => Option α) (h.hi.get n) (sel8 (Nat.mod n 8) (sel8 (Nat.mod (Nat.div n 8) 8) (sel8 (Nat.mod (Nat.div n 64) 8) (sel8 (Nat.div n 512) h.lo)))) (Nat.ble n 4095))
def Hp.put {α : Type} (v : Option α) (h : Hp α) (n : Nat) : Hp α :=
  (Bool.rec (motive := fun _ => Hp α) (Hp.mk h.lo (Tr.setG v h.hi n) (n :: h.log)) (Hp.mk (upd8 (Nat.div n 512) (upd8 (Nat.mod (Nat.div n 64) 8) (upd8 (Nat.mod (Nat.div n 8) 8) (upd8 (Nat.mod n 8) (fun _ => v)))) h.lo) h.hi (n :: h.log)) (Nat.ble n 4095))
def Hp.set {α : Type} (h : Hp α) (n : Nat) (v : α) : Hp α := Hp.put (some v) h n
def Hp.del {α : Type} (h : Hp α) (n : Nat) : Hp α := Hp.put none h n

/-! ## values -/
inductive AV where
  | bool (b : Bool)
  | int (k : IntKind) (n : Int)
  | sym (k : IntKind) (s : Nat)
  | str (s : List UInt8)
  | sstr (cs : List AV)
  | gptr (g off : Nat)
  | ptr (i off : Nat)
  | nilp
  | slice (i off eo len : Nat) (cap : Option Nat)
  | tail (i off eo len size : Nat)
  | nils
  | map (i : Nat)
  | nilm
  | fn (f : Nat) (first captured : List AV)
  | nilf
  | iface (t : Nat) (v : AV)
  | nili
  | agg (cs : List AV)
  | tup (vs : List AV)
  | hole (i : Nat)
  | opq (j : Nat)
  | lptr (j es : Nat) (c : Bool) (n off : Nat)
  deriving Inhabited

def AV.undef : AV := .tup []
/-- temporaries: 512, and others -/
structure Tm where
  lo : O8 (O8 (O8 AV))
  hi : Tr AV
def Tm.nil : Tm := ⟨rep8 (rep8 (rep8 AV.undef)), .nil⟩
def orU (x : Option AV) : AV := (Option.rec (motive := fun _ => AV) (AV.undef) (fun v => v) (x))
def Tm.at (t : Tm) (n : Nat) : AV :=
  (Bool.rec (motive := fun _ => AV) (orU (t.hi.get n)) (sel8 (Nat.mod n 8) (sel8 (Nat.mod (Nat.div n 8) 8) (sel8 (Nat.div n 64) t.lo))) (Nat.ble n 511))
def Tm.set (t : Tm) (n : Nat) (v : AV) : Tm :=
  (Bool.rec (motive := fun _ => Tm) (Tm.mk t.lo (Tr.setG (some v) t.hi n)) (Tm.mk (upd8 (Nat.div n 64) (upd8 (Nat.mod (Nat.div n 8) 8) (upd8 (Nat.mod n 8) (fun _ => v))) t.lo) t.hi) (Nat.ble n 511))
def isTup : AV → Bool
  | .tup _ => true
  | .hole _ => true
  | _ => false
def AV.atom : AV → Bool
  | .agg _ | .tup _ | .hole _ => false
  | _ => true

/-- a leaf of a type whose values can be compared cell by cell -/
inductive Leaf where
  | int
  | bool
  | str

inductive TyK where
  | int (k : IntKind)
  | bool
  | str
  | ptr (e : Nat)
  | slice (e : Nat)
  | arr (n e : Nat)
  | map (k e : Nat)
  | strct (fs : List (Nat × Nat × Nat))
  | func
  | other

structure TyI where
  kind : TyK
  agg : Bool
  size : Nat
  bytes : Nat
  zero : List AV
  leaves : Option (List Leaf)

mutual
def absV : Value → Option AV
  | .bool b => some (.bool b)
  | .int k n => some (.int k n)
  | .string s => some (.str s.data.toList)
  | .pointer none => some .nilp
  | .slice none 0 0 => some .nils
  | .map none => some .nilm
  | .func (.func f) ⟨a⟩ ⟨b⟩ => match absVs a, absVs b with
    | some a, some b => some (.fn f a b)
    | _, _ => none
  | .nilFunc => some .nilf
  | .nilIface => some .nili
  | .agg ⟨cs⟩ => match absVs cs with
    | some cs => match cs.all AV.atom with
      | true => some (.agg cs)
      | false => none
    | none => none
  | .tuple ⟨cs⟩ => match absVs cs with
    | some cs => some (.tup cs)
    | none => none
  | _ => none
def absVs : List Value → Option (List AV)
  | [] => some []
  | v :: vs => match absV v, absVs vs with
    | some v, some vs => some (v :: vs)
    | _, _ => none
end

def repl {α : Type} : Nat → List α → List α
  | 0, _ => []
  | n + 1, l => l ++ repl n l

mutual
/-- the leaves of a type that is compared cell by cell -/
def leavesT (P : Program) : Nat → Nat → Option (List Leaf)
  | 0, _ => none
  | d + 1, t => match P.underlying t with
    | some (.int _) => some [.int]
    | some .bool => some [.bool]
    | some .string => some [.str]
    | some (.struct fs) => match P.stoodInHeld t with
      | true => none
      | false => leavesF P d 0 fs.toList
    | some (.array n e) => match leavesT P d e with
      | some l => match Nat.beq l.length (P.cellsOf e) with
        | true => some (repl n l)
        | false => none
      | none => none
    | _ => none
def leavesF (P : Program) : Nat → Nat → List Field → Option (List Leaf)
  | _, _, [] => some []
  | 0, _, _ => none
  | d + 1, off, f :: fs => match leavesT P d f.type with
    | none => none
    | some l => match leavesF P d (off + l.length) fs with
      | none => none
      | some r => match f.name == "_", Nat.beq f.offset off, Nat.beq l.length (P.cellsOf f.type) with
        | false, true, true => some (l ++ r)
        | _, _, _ => none
end

def cellsOf : AV → List AV
  | .agg cs => cs
  | v => [v]

def tyK (P : Program) (d : Option TypeDesc) : TyK :=
  match d with
  | some (.int k) => .int k
  | some .bool => .bool
  | some .string => .str
  | some (.pointer e) => .ptr e
  | some (.slice e) => .slice e
  | some (.array n e) => .arr n e
  | some (.map k e) => .map k e
  | some (.struct fs) => .strct (fs.toList.map fun f => (f.offset, f.type, P.cellsOf f.type))
  | some (.func _ _ _) => .func
  | _ => .other

def aggK : TyK → Bool
  | .arr _ _ | .strct _ => true
  | _ => false

def leavesOf (P : Program) (t n : Nat) : Option (List Leaf) :=
  match P.eqGuardType P.depth t with
  | true => none
  | false => match leavesT P 40 t with
    | some l => match Nat.beq l.length n with
      | true => some l
      | false => none
    | none => none

/-- a value of an aggregate type, or of another one -/
def fitsAgg : Bool → AV → Bool
  | true, .agg _ => true
  | false, v => v.atom
  | _, _ => false

def fieldsIn (P : Program) : TypeDesc → Bool
  | .struct fs => fs.toList.all fun f => (P.info? f.type).isSome
  | _ => true

def tyI (P : Program) (t : Nat) : Option TyI :=
  match P.info? t, P.underlying t with
  | some i, some d => match i.zero with
    | none => none
    | some z => match absV z with
      | none => none
      | some v => match Nat.beq (cellsOf v).length i.size, fitsAgg (aggK (tyK P (some d))) v, fieldsIn P d with
        | false, _, _ => none
        | true, false, _ => none
        | true, true, false => none
        | true, true, true => some { kind := tyK P (some d), agg := aggK (tyK P (some d)), size := i.size, bytes := i.bytes, zero := cellsOf v, leaves := leavesOf P t i.size }
  | _, _ => none

/-! ## memory -/
inductive AO where
  | cells (cs : List AV) (ro : Bool) (es : Nat)
  | map (es : List (AV × AV × Nat)) (clock : Nat)
  /-- a range over a map: the map, its clock when the range began, when it last stepped, the entries seen (behind those that `pre` stands for) -/
  | iter (m : Option Nat) (since last : Nat) (seen : List Nat) (pre : Option Nat)

structure AH where
  objs : Hp AO
  next : Nat

/-! ## what is known of symbols: a table -/
structure Fact where
  op : BinOp
  x : AV
  y : AV
  r : AV
structure FConv where
  k : IntKind
  x : AV
  r : AV
/-- what a list that came in holds at a place -/
structure FRead where
  j : Nat
  es : Nat
  c : Bool
  n : Nat
  cells : List AV
structure FLen where
  j : Nat
  r : AV
/-- a call that is known, and touches nothing -/
structure FCall where
  g : Nat
  args : List AV
  v : AV

abbrev Sum := List AV → AH → Option (AV × AH)

structure Cx where
  tt : Tr TyI
  funcs : Tr Func
  facts : List Fact
  convs : List FConv
  sums : Tr Sum
  globs : Tr (List AV)
  bytes : Tr Bool
  lens : List FLen
  reads : List FRead
  calls : List FCall
  plan : Tr (Tr (List (List Nat)))

/-! ## pure operations -/
def kEq : IntKind → IntKind → Bool
  | .i8, .i8 | .i16, .i16 | .i32, .i32 | .i64, .i64 | .u8, .u8 | .u16, .u16 | .u32, .u32 | .u64, .u64 => true
  | _, _ => false

def intEq : Int → Int → Bool
  | .ofNat a, .ofNat b => Nat.beq a b
  | .negSucc a, .negSucc b => Nat.beq a b
  | _, _ => false
def intLt : Int → Int → Bool
  | .ofNat a, .ofNat b => Nat.blt a b
  | .negSucc a, .negSucc b => Nat.blt b a
  | .negSucc _, .ofNat _ => true
  | .ofNat _, .negSucc _ => false

def boolEq : Bool → Bool → Bool
  | true, b => b
  | false, true => false
  | false, false => true

def strEq : List UInt8 → List UInt8 → Bool
  | [], [] => true
  | a :: x, b :: y => match Nat.beq a.toNat b.toNat with
    | true => strEq x y
    | false => false
  | _, _ => false

def strLess : List UInt8 → List UInt8 → Bool
  | _, [] => false
  | [], _ :: _ => true
  | a :: x, b :: y => match Nat.beq a.toNat b.toNat with
    | true => strLess x y
    | false => Nat.blt a.toNat b.toNat

def opTag : BinOp → Nat
  | .add => 0 | .sub => 1 | .mul => 2 | .quo => 3 | .rem => 4 | .and => 5 | .or => 6 | .xor => 7 | .shl => 8 | .shr => 9 | .andNot => 10
  | .eql => 11 | .neq => 12 | .lss => 13 | .leq => 14 | .gtr => 15 | .geq => 16

def sameSym : AV → AV → Bool
  | .int k a, .int j b => match kEq k j with
    | true => intEq a b
    | false => false
  | .sym k a, .sym j b => match kEq k j with
    | true => Nat.beq a b
    | false => false
  | .opq a, .opq b => Nat.beq a b
  | _, _ => false

def findF (op : BinOp) (x y : AV) : List Fact → Option AV
  | [] => none
  | f :: fs => match Nat.beq (opTag op) (opTag f.op), sameSym x f.x, sameSym y f.y with
    | true, true, true => some f.r
    | _, _, _ => findF op x y fs
def findC (k : IntKind) (x : AV) : List FConv → Option AV
  | [] => none
  | f :: fs => match kEq k f.k, sameSym x f.x with
    | true, true => some f.r
    | _, _ => findC k x fs

def numAV : AV → Bool
  | .int _ _ | .sym _ _ => true
  | _ => false
def findNm (op : BinOp) (x y : AV) (fx : List Fact) : Option AV := match numAV x, numAV y with
  | true, true => findF op x y fx
  | _, _ => none
def findLen (j : Nat) : List FLen → Option AV
  | [] => none
  | f :: fs => match Nat.beq j f.j with
    | true => some f.r
    | false => findLen j fs
def findRead (j es : Nat) (c : Bool) (n : Nat) : List FRead → Option (List AV)
  | [] => none
  | f :: fs => match Nat.beq j f.j, Nat.beq es f.es, boolEq c f.c, Nat.beq n f.n with
    | true, true, true, true => some f.cells
    | _, _, _, _ => findRead j es c n fs
def isT : Option AV → Bool
  | some (.bool b) => b
  | _ => false
/-- within a list: known, or by the facts -/
def inList (fx : List Fact) (ix len : AV) : Bool := match ix with
  | .int _ (.ofNat n) => match len with
    | .int _ (.ofNat m) => Nat.blt n m
    | len => isT (findF .lss ix len fx)
  | .sym _ _ => match isT (findF .geq ix (.int .i64 0) fx) with
    | true => isT (findF .lss ix len fx)
    | false => false
  | _ => false
/-- the address of an element of a list that came in -/
def listAddr (fx : List Fact) (lens : List FLen) (j es : Nat) (ix : AV) : Option AV := match findLen j lens with
  | some len => match inList fx ix len with
    | true => match ix with
      | .int _ (.ofNat n) => some (.lptr j es true n 0)
      | .sym .i64 s => some (.lptr j es false s 0)
      | _ => none
    | false => none
  | none => none
def eqIntL (fx : List Fact) (a b : AV) : Option Bool :=
  match a, b with
  | .int k a, .int j b => match kEq k j with
    | true => some (intEq a b)
    | false => none
  | x, y => match findNm .eql x y fx with
    | some (.bool b) => some b
    | _ => none
/-- two strings' bytes -/
def eqBytes (fx : List Fact) : List AV → List AV → Option Bool
  | [], [] => some true
  | a :: x, b :: y => match eqIntL fx a b with
    | some true => eqBytes fx x y
    | some false => some false
    | none => none
  | _, _ => none
def eqStrL (fx : List Fact) (a b : List AV) : Option Bool := match Nat.beq a.length b.length with
  | true => eqBytes fx a b
  | false => some false
def byteAs (s : List UInt8) : List AV := s.map fun b => .int .u8 (Int.ofNat b.toNat)

def eqLeaf (fx : List Fact) : Leaf → AV → AV → Option Bool
  | .int, .int k a, .int j b => match kEq k j with
    | true => some (intEq a b)
    | false => none
  | .bool, .bool a, .bool b => some (boolEq a b)
  | .str, .str a, .str b => some (strEq a b)
  | .str, .sstr a, .sstr b => eqStrL fx a b
  | .str, .sstr a, .str b => eqStrL fx a (byteAs b)
  | .str, .str a, .sstr b => eqStrL fx (byteAs a) b
  | .int, x, y => match findNm .eql x y fx with
    | some (.bool b) => some b
    | _ => none
  | _, _, _ => none
def eqLeaves (fx : List Fact) : List Leaf → List AV → List AV → Option Bool
  | [], [], [] => some true
  | l :: ls, a :: x, b :: y => match eqLeaf fx l a b with
    | some true => eqLeaves fx ls x y
    | some false => some false
    | none => none
  | _, _, _ => none

def binI (op : BinOp) (k : IntKind) (a b : Int) : Option AV :=
  match op with
  | .add => some (.int k (k.wrap (a + b)))
  | .sub => some (.int k (k.wrap (a - b)))
  | .mul => some (.int k (k.wrap (a * b)))
  | .quo => match intEq b 0 with
    | true => none
    | false => some (.int k (k.wrap (a.tdiv b)))
  | .rem => match intEq b 0 with
    | true => none
    | false => some (.int k (a.tmod b))
  | .eql => some (.bool (intEq a b))
  | .neq => some (.bool (!intEq a b))
  | .lss => some (.bool (intLt a b))
  | .leq => some (.bool (!intLt b a))
  | .gtr => some (.bool (intLt b a))
  | .geq => some (.bool (!intLt a b))
  | .and => some (.int k (k.wrap (Int.ofNat (Nat.land (a % Int.ofNat (Nat.pow 2 k.bits)).toNat (b % Int.ofNat (Nat.pow 2 k.bits)).toNat))))
  | .or => some (.int k (k.wrap (Int.ofNat (Nat.lor (a % Int.ofNat (Nat.pow 2 k.bits)).toNat (b % Int.ofNat (Nat.pow 2 k.bits)).toNat))))
  | .xor => some (.int k (k.wrap (Int.ofNat (Nat.xor (a % Int.ofNat (Nat.pow 2 k.bits)).toNat (b % Int.ofNat (Nat.pow 2 k.bits)).toNat))))
  | _ => none

/-- nil or not -/
def eqP : AV → AV → Option Bool
  | .nilp, .nilp => some true
  | .ptr _ _, .nilp | .nilp, .ptr _ _ => some false
  | _, _ => none
def eqS : AV → AV → Option Bool
  | .nils, .nils => some true
  | .slice _ _ _ _ _, .nils | .nils, .slice _ _ _ _ _ | .tail _ _ _ _ _, .nils | .nils, .tail _ _ _ _ _ => some false
  | _, _ => none
def eqM : AV → AV → Option Bool
  | .nilm, .nilm => some true
  | .map _, .nilm | .nilm, .map _ => some false
  | _, _ => none
def eqF : AV → AV → Option Bool
  | .nilf, .nilf => some true
  | .fn _ _ _, .nilf | .nilf, .fn _ _ _ => some false
  | _, _ => none
def eqB : AV → AV → Option Bool
  | .bool a, .bool b => some (boolEq a b)
  | _, _ => none
def eqG (fx : List Fact) (ls : Option (List Leaf)) : AV → AV → Option Bool
  | .agg a, .agg b => match ls with
    | some l => match Nat.beq a.length l.length, Nat.beq b.length l.length with
      | true, true => eqLeaves fx l a b
      | _, _ => none
    | none => none
  | _, _ => none

def eqT (cx : Cx) (t : Nat) (x y : AV) : Option Bool :=
  match cx.tt.get t with
  | some i => match i.kind with
    | .bool => eqB x y
    | .ptr _ => eqP x y
    | .slice _ => eqS x y
    | .map _ _ => eqM x y
    | .func => eqF x y
    | .strct _ => eqG cx.facts i.leaves x y
    | .arr _ _ => eqG cx.facts i.leaves x y
    | _ => none
  | none => none

def notO : Option Bool → Option AV
  | some b => some (.bool (!b))
  | none => none
def mkO : Option Bool → Option AV
  | some b => some (.bool b)
  | none => none

def shlI (k : IntKind) (a b : Int) : Option AV :=
  match intLt b 0 with
  | true => none
  | false => some (.int k (k.wrap (a * Int.ofNat (Nat.pow 2 (Nat.min b.toNat k.bits)))))
def shrI (k : IntKind) (a b : Int) : Option AV :=
  match intLt b 0 with
  | true => none
  | false => some (.int k (Int.fdiv a (Int.ofNat (Nat.pow 2 (Nat.min b.toNat k.bits)))))

def binInt (op : BinOp) (k : IntKind) (a : Int) (j : IntKind) (b : Int) : Option AV :=
  match op with
  | .shl => shlI k a b
  | .shr => shrI k a b
  | op => match kEq k j with
    | true => binI op k a b
    | false => none

def binStr (op : BinOp) (a b : List UInt8) : Option AV :=
  match op with
  | .add => match Nat.ble (a.length + b.length) 9223372036854775807 with
    | true => some (.str (a ++ b))
    | false => none
  | .eql => some (.bool (strEq a b))
  | .neq => some (.bool (!strEq a b))
  | .lss => some (.bool (strLess a b))
  | .leq => some (.bool (strLess a b || strEq a b))
  | .gtr => some (.bool (!(strLess a b || strEq a b)))
  | .geq => some (.bool (!strLess a b))
  | _ => none

def binSS (fx : List Fact) (op : BinOp) (a b : List AV) : Option AV := match op with
  | .eql => match eqStrL fx a b with
    | some r => some (.bool r)
    | none => none
  | .neq => match eqStrL fx a b with
    | some r => some (.bool (!r))
    | none => none
  | _ => none

def bin (cx : Cx) (op : BinOp) (t : Nat) (x y : AV) : Option AV :=
  match x, y with
  | .int k a, .int j b => binInt op k a j b
  | .str a, .str b => binStr op a b
  | .sstr a, .sstr b => binSS cx.facts op a b
  | .sstr a, .str b => binSS cx.facts op a (byteAs b)
  | .str a, .sstr b => binSS cx.facts op (byteAs a) b
  | .sym k a, y => findF op (.sym k a) y cx.facts
  | x, .sym k b => findF op x (.sym k b) cx.facts
  | .opq a, y => findF op (.opq a) y cx.facts
  | x, .opq b => findF op x (.opq b) cx.facts
  | x, y => match op with
    | .eql => mkO (eqT cx t x y)
    | .neq => notO (eqT cx t x y)
    | _ => none

def unO (op : UnOp) (x : AV) : Option AV :=
  match op, x with
  | .not, .bool b => some (.bool (!b))
  | .neg, .int k n => some (.int k (k.wrap (0 - n)))
  | _, _ => none

def opnd (tm : Tm) : Operand → Option AV
  | .tmp t => some (tm.at t)
  | .const v => absV v
  | .func f => some (.fn f [] [])
  | .global g => some (.gptr g 0)

def opnds (tm : Tm) : List Operand → Option (List AV)
  | [] => some []
  | x :: xs => match opnd tm x, opnds tm xs with
    | some v, some vs => some (v :: vs)
    | _, _ => none

def nth {α : Type} (l : List α) : Nat → Option α :=
  List.rec (motive := fun _ => Nat → Option α) (fun _ => none) (fun a _ ih n => Nat.rec (motive := fun _ => Option α) (some a) (fun k _ => ih k) n) l
def dropN {α : Type} (n : Nat) : List α → Option (List α) :=
  Nat.rec (motive := fun _ => List α → Option (List α)) (fun l => some l) (fun _ ih l => List.rec (motive := fun _ => Option (List α)) none (fun _ t _ => ih t) l) n
def takeN {α : Type} (n : Nat) : List α → Option (List α) :=
  Nat.rec (motive := fun _ => List α → Option (List α)) (fun _ => some []) (fun _ ih l => List.rec (motive := fun _ => Option (List α)) none (fun a t _ => Option.rec (motive := fun _ => Option (List α)) none (fun r => some (a :: r)) (ih t)) l) n
def over {α : Type} (l vs : List α) : Option (List α) :=
  List.rec (motive := fun _ => List α → Option (List α)) (fun l => some l) (fun v _ ih l => List.rec (motive := fun _ => Option (List α)) none (fun _ t _ => Option.rec (motive := fun _ => Option (List α)) none (fun r => some (v :: r)) (ih t)) l) vs l
def overAt {α : Type} (n : Nat) (l vs : List α) : Option (List α) :=
  Nat.rec (motive := fun _ => List α → Option (List α)) (fun l => over l vs) (fun _ ih l => List.rec (motive := fun _ => Option (List α)) none (fun a t _ => Option.rec (motive := fun _ => Option (List α)) none (fun r => some (a :: r)) (ih t)) l) n l
def slice1 {α : Type} (cs : List α) (off n : Nat) : Option (List α) :=
  (Option.rec (motive := fun _ => Option (List α)) (none) (fun l => takeN n l) (dropN off cs))

def ofCells (agg : Bool) (cs : List AV) : Option AV :=
  match agg, cs with
  | true, cs => some (.agg cs)
  | false, [v] => some v
  | _, _ => none

def loadG (cx : Cx) (t : Nat) (cs : List AV) (off : Nat) : Option AV :=
  match cx.tt.get t with
  | some ty => match ty.agg with
    | true => match slice1 cs off ty.size with
      | some l => some (.agg l)
      | none => none
    | false => nth cs off
  | none => none
def loadA (cx : Cx) (h : AH) (t : Nat) (p : AV) : Option AV :=
  match p with
  | .lptr j es c n off => match findRead j es c n cx.reads with
    | some cs => loadG cx t cs off
    | none => none
  | .gptr g off => match cx.globs.get g with
    | some cs => loadG cx t cs off
    | none => none
  | .ptr i off => match h.objs.get i with
    | some (.cells cs _ _) => match cx.tt.get t with
      | some ty => match ty.agg with
        | true => match slice1 cs off ty.size with
          | some l => some (.agg l)
          | none => none
        | false => nth cs off
      | none => none
    | _ => none
  | _ => none

def storeA (cx : Cx) (h : AH) (t : Nat) (p v : AV) : Option AH :=
  match p with
  | .ptr i off => match h.objs.get i with
    | some (.cells cs false es) => match cx.tt.get t with
      | some ty => match Nat.beq (cellsOf v).length ty.size, isTup v with
        | true, false => match overAt off cs (cellsOf v) with
          | some cs => some ⟨h.objs.set i (.cells cs false es), h.next⟩
          | none => none
        | _, _ => none
      | none => none
    | _ => none
  | _ => none

def newA (h : AH) (cs : List AV) (es : Nat) : AH := ⟨h.objs.set h.next (.cells cs false es), h.next + 1⟩

def fillG (pl : Nat → Option (Nat × Nat)) (cells : List AV) : List (Nat × AV) → Option (List AV)
  | [] => some cells
  | (i, v) :: rest => match pl i with
    | some (off, size) => match isTup v, Nat.beq (cellsOf v).length size, overAt off cells (cellsOf v) with
      | false, true, some cells => fillG pl cells rest
      | _, _, _ => none
    | none => none

def placeA (places : List (Nat × Nat × Nat)) (i : Nat) : Option (Nat × Nat) :=
  match nth places i with
  | some (off, _, size) => some (off, size)
  | none => none
def placeS (size i : Nat) : Option (Nat × Nat) := some (i * size, size)

def partsA (tm : Tm) : List (Nat × Operand) → Option (List (Nat × AV))
  | [] => some []
  | (i, x) :: r => match opnd tm x, partsA tm r with
    | some v, some vs => some ((i, v) :: vs)
    | _, _ => none

/-- two keys of one map: ls is the key type's leaves -/
def keyEq (fx : List Fact) (ls : List Leaf) (a b : AV) : Option Bool :=
  match a with
  | .agg x => match b with
    | .agg y => match Nat.beq y.length ls.length with
      | true => eqLeaves fx ls x y
      | false => none
    | _ => none
  | a => match b with
    | .agg _ => none
    | b => eqLeaves fx ls [a] [b]

/-- where a key stands -/
def findI (fx : List Fact) (ls : List Leaf) (k : AV) : List (AV × AV × Nat) → Option (Option Nat)
  | [] => some none
  | (k', _, _) :: r => match keyEq fx ls k k' with
    | some true => some (some 0)
    | some false => match findI fx ls k r with
      | some (some i) => some (some (i + 1))
      | some none => some none
      | none => none
    | none => none
def setI (k v : AV) : Nat → List (AV × AV × Nat) → List (AV × AV × Nat)
  | _, [] => []
  | 0, (_, _, b) :: r => (k, v, b) :: r
  | n + 1, e :: r => e :: setI k v n r
def delI : Nat → List (AV × AV × Nat) → List (AV × AV × Nat)
  | _, [] => []
  | 0, _ :: r => r
  | n + 1, e :: r => e :: delI n r

def nat? : AV → Option Nat
  | .int _ (.ofNat n) => some n
  | _ => none

def goI (n : Nat) : AV := .int .i64 (Int.ofNat n)

/-- the first n elements of a slice or string -/
def firstA (h : AH) (size : Nat) : AV → Nat → Option (List AV)
  | .nils, 0 => some []
  | .tail _ _ _ _ _, 0 => some []
  | .slice i off _ _ _, n => match h.objs.get i with
    | some (.cells cs _ _) => slice1 cs off (n * size)
    | _ => none
  | .str s, n => match Nat.beq size 1 with
    | true => takeN n (s.map fun b => .int .u8 (Int.ofNat b.toNat))
    | false => none
  | _, _ => none
def lenOfA : AV → Option Nat
  | .nils => some 0
  | .tail _ _ _ _ _ => some 0
  | .slice _ _ _ n _ => some n
  | .str s => some s.length
  | _ => none

/-- within 2^47 bytes -/
def roomy (n bytes : Nat) : Bool := Nat.ble (n * bytes) 140737488355328

def growA (h : AH) (ty : TyI) (off len n : Nat) (new : List AV) (cs : List AV) : Option (AV × AH) :=
  match roomy (len + n) ty.bytes, slice1 cs off (len * ty.size) with
  | true, some old => some (.slice h.next 0 0 (len + n) none, newA h (old ++ new) ty.size)
  | _, _ => none

def inPlaceA (h : AH) (i off eo len n size : Nat) (cap : Option Nat) (new cs : List AV) (es : Nat) : Option (AV × AH) :=
  match overAt (off + len * size) cs new with
  | some cs => some (.slice i off eo (len + n) cap, ⟨h.objs.set i (.cells cs false es), h.next⟩)
  | none => none

def appendSl (h : AH) (ty : TyI) (i off eo len : Nat) (cap : Option Nat) (n : Nat) (new : List AV) : Option (AV × AH) :=
  match h.objs.get i with
  | some (.cells cs ro es) => match cap with
    | some c => match Nat.ble (len + n) c with
      | true => match ro with
        | true => none
        | false => inPlaceA h i off eo len n ty.size (some c) new cs es
      | false => growA h ty off len n new cs
    | none => match ro, Nat.beq es ty.size, Nat.beq off (eo * es), Nat.beq es 0 with
      | false, true, true, false => match Nat.ble (off + (len + n) * ty.size) cs.length with
        | true => inPlaceA h i off eo len n ty.size none new cs es
        | false => match Nat.beq (off + len * ty.size) cs.length, roomy (len + n) ty.bytes, dropN off cs with
          | true, true, some old => some (.slice h.next 0 0 (len + n) none, newA ⟨h.objs.del i, h.next⟩ (old ++ new) es)
          | _, _, _ => none
      | _, _, _, _ => none
  | _ => none

def appendE (h : AH) (ty : TyI) (s x : AV) : Option (AV × AH) :=
  match lenOfA x with
  | some n => match firstA h ty.size x n with
    | some new => match s with
      | .nils => match n with
        | 0 => some (.nils, h)
        | _ => match roomy n ty.bytes, Nat.beq ty.bytes 0 with
          | true, false => some (.slice h.next 0 0 n none, newA h new ty.size)
          | _, _ => none
      | .slice i off eo len cap => match Nat.beq ty.bytes 0 with
        | false => match n with
          | 0 => some (s, h)
          | _ => appendSl h ty i off eo len cap n new
        | true => none
      | _ => none
    | none => none
  | none => none

def isSeq (cx : Cx) (u : Nat) : Bool :=
  match cx.tt.get u with
  | some i => match i.kind with
    | .slice _ | .str => true
    | _ => false
  | none => false

def appendA (cx : Cx) (h : AH) (t u : Nat) (s x : AV) : Option (AV × AH) :=
  match cx.tt.get t with
  | some ti => match ti.kind with
    | .slice e => match cx.tt.get e, isSeq cx u with
      | some ty, true => appendE h ty s x
      | _, _ => none
    | _ => none
  | none => none

def orN (d : Nat) : Option AV → Option Nat
  | none => some d
  | some v => nat? v

def sliceCap (ty : TyI) (i off eo l h m : Nat) : AV :=
  match Nat.beq m l with
  | true => .slice i off eo (h - l) (some 0)
  | false => .slice i (off + l * ty.size) (eo + l) (h - l) (some (m - l))

def knownCap (len : Nat) : Option Nat → Nat
  | some c => c
  | none => len

def sliceSl (ty : TyI) (i off eo len : Nat) (cap : Option Nat) (lo hi mx : Option AV) : Option AV :=
  match orN 0 lo, orN len hi with
  | some l, some h => match mx with
    | some m => match nat? m with
      | some m => match Nat.ble l h, Nat.ble h m, Nat.ble m (knownCap len cap), hi with
        | true, true, true, some _ => some (sliceCap ty i off eo l h m)
        | _, _, _, _ => none
      | none => none
    | none => match Nat.ble l h, Nat.ble h (knownCap len cap) with
      | true, true => match cap with
        | some c => some (sliceCap ty i off eo l h c)
        | none => match Nat.blt l len with
          | true => some (.slice i (off + l * ty.size) (eo + l) (h - l) none)
          | false => match Nat.beq l 0 with
            | true => some (.slice i off eo h none)
            | false => match Nat.beq h l, Nat.beq l len with
              | true, true => some (.tail i off eo len ty.size)
              | _, _ => none
      | _, _ => none
  | _, _ => none

def sliceStr (s : List UInt8) (lo hi mx : Option AV) : Option AV :=
  match orN 0 lo, orN s.length hi, mx with
  | some l, some h, none => match Nat.ble l h, Nat.ble h s.length, slice1 s l (h - l) with
    | true, true, some r => some (.str r)
    | _, _, _ => none
  | _, _, _ => none

def sliceNil (lo hi mx : Option AV) : Option AV :=
  match orN 0 lo, orN 0 hi, mx with
  | some 0, some 0, none => some .nils
  | _, _, _ => none
def slicePtr (ty : TyI) (i off n : Nat) (lo hi mx : Option AV) : Option AV :=
  match orN 0 lo, orN n hi, mx with
  | some l, some h, none => match Nat.ble l h, Nat.ble h n with
    | true, true => some (sliceCap ty i off 0 l h n)
    | _, _ => none
  | _, _, _ => none
def sliceE (ty : TyI) (x : AV) (lo hi mx : Option AV) : Option AV :=
  match x with
  | .nils => sliceNil lo hi mx
  | .slice i off eo len cap => sliceSl ty i off eo len cap lo hi mx
  | _ => none
def sliceP (ty : TyI) (n : Nat) (x : AV) (lo hi mx : Option AV) : Option AV :=
  match x with
  | .ptr i off => slicePtr ty i off n lo hi mx
  | _ => none
def sliceT (x : AV) (lo hi mx : Option AV) : Option AV :=
  match x with
  | .str s => sliceStr s lo hi mx
  | _ => none
def sliceA (cx : Cx) (t : Nat) (x : AV) (lo hi mx : Option AV) : Option AV :=
  match cx.tt.get t with
  | some ti => match ti.kind with
    | .str => sliceT x lo hi mx
    | .slice e => match cx.tt.get e with
      | some ty => sliceE ty x lo hi mx
      | none => none
    | .arr n e => match cx.tt.get e with
      | some ty => sliceP ty n x lo hi mx
      | none => none
    | _ => none
  | none => none

/-- what an operation gives -/
inductive AR where
  | val (v : AV) (h : AH)
  | call (f : Nat) (args : List AV)
  | no

def optO (tm : Tm) : Option Operand → Option (Option AV)
  | none => some none
  | some x => match opnd tm x with
    | some v => some (some v)
    | none => none

def rv (h : AH) : Option AV → AR
  | some v => .val v h
  | none => .no
def rop : Option (AV × AH) → AR
  | some (v, h) => .val v h
  | none => .no
def rh : Option AH → AR
  | some h => .val .undef h
  | none => .no
def bind1 {β : Type} (x : Option AV) (n : β) (k : AV → β) : β := match x with
  | some v => k v
  | none => n

def pickA (tm : Tm) (c a b : Operand) : Option AV :=
  match opnd tm c with
  | some (.bool true) => opnd tm a
  | some (.bool false) => opnd tm b
  | _ => none
def allocA (cx : Cx) (h : AH) (t : Nat) : AR :=
  match cx.tt.get t with
  | some ty => .val (.ptr h.next 0) (newA h ty.zero 0)
  | none => .no
def boxA (h : AH) (v : AV) : AR := match isTup v with
  | false => .val (.ptr h.next 0) (newA h (cellsOf v) 0)
  | true => .no

def buildA (cx : Cx) (t : Nat) (ps : Option (List (Nat × AV))) : Option AV :=
  match cx.tt.get t, ps with
  | some ti, some ps => match ti.kind with
    | .strct fs => match fillG (placeA fs) ti.zero ps with
      | some cs => some (.agg cs)
      | none => none
    | .arr _ e => match cx.tt.get e with
      | some ty => match fillG (placeS ty.size) ti.zero ps with
        | some cs => some (.agg cs)
        | none => none
      | none => none
    | _ => none
  | _, _ => none
def buildSl (cx : Cx) (h : AH) (t n : Nat) (ps : Option (List (Nat × AV))) : AR :=
  match cx.tt.get t, ps with
  | some ti, some ps => match ti.kind with
    | .slice e => match cx.tt.get e with
      | some ty => match Nat.ble (n * ty.size) 16777216, fillG (placeS ty.size) (repl n ty.zero) ps with
        | true, some cs => .val (.slice h.next 0 0 n (some n)) (newA h cs ty.size)
        | _, _ => .no
      | none => .no
    | _ => .no
  | _, _ => .no
def nilChk : AV → Option AV
  | .ptr i o => some (.ptr i o)
  | .gptr g o => some (.gptr g o)
  | .fn f a b => some (.fn f a b)
  | .lptr j es c n o => some (.lptr j es c n o)
  | _ => none
def bytesStr : List AV → Option (List UInt8)
  | [] => some []
  | .int .u8 (.ofNat n) :: r => match bytesStr r with
    | some l => some (UInt8.ofNat n :: l)
    | none => none
  | _ => none
def isBytes (cx : Cx) (si : TyI) : Bool :=
  match si.kind with
  | .slice e => match cx.tt.get e with
    | some ei => match ei.kind with
      | .int .u8 => true
      | _ => false
    | none => false
  | _ => false
def bytesOf (h : AH) : AV → Option (List UInt8)
  | .nils => some []
  | .slice i off _ len _ => match h.objs.get i with
    | some (.cells cs _ _) => match slice1 cs off len with
      | some l => bytesStr l
      | none => none
    | _ => none
  | _ => none
def convI (cx : Cx) (k : IntKind) : AV → Option AV
  | .int _ n => some (.int k (k.wrap n))
  | .sym j a => findC k (.sym j a) cx.convs
  | _ => none
/-- a byte whose value is one -/
def isByte (bs : Tr Bool) : AV → Bool
  | .int .u8 (.ofNat n) => Nat.blt n 256
  | .sym .u8 s => match bs.get s with
    | some true => true
    | _ => false
  | _ => false
def allBytes (bs : Tr Bool) : List AV → Bool
  | [] => true
  | c :: cs => match isByte bs c with
    | true => allBytes bs cs
    | false => false
def symBytes (cx : Cx) (h : AH) (x : AV) : Option AV :=
  match x with
  | .slice i off _ len _ => match h.objs.get i with
    | some (.cells cs _ _) => match slice1 cs off len with
      | some l => match allBytes cx.bytes l with
        | true => some (.sstr l)
        | false => none
      | none => none
    | _ => none
  | _ => none
def convS (cx : Cx) (h : AH) (si : TyI) (x : AV) : Option AV :=
  match x with
  | .str s => some (.str s)
  | .sstr s => some (.sstr s)
  | x => match isBytes cx si with
    | true => match bytesOf h x with
      | some s => some (.str s)
      | none => symBytes cx h x
    | false => none
def convA (cx : Cx) (h : AH) (s d : Nat) (x : AV) : Option AV :=
  match cx.tt.get s, cx.tt.get d with
  | some si, some ti => match ti.kind with
    | .int k => convI cx k x
    | .str => convS cx h si x
    | _ => none
  | _, _ => none
def mkFunA (f : Fn) : Option (List AV) → Option (List AV) → Option AV
  | some a, some c => match f with
    | .func f => some (.fn f a c)
    | _ => none
  | _, _ => none
def mkSlA (cx : Cx) (h : AH) (t : Nat) (n c : AV) : AR :=
  match cx.tt.get t, nat? n, nat? c with
  | some ti, some n, some c => match ti.kind with
    | .slice e => match cx.tt.get e with
      | some ty => match Nat.ble n c, Nat.ble (ty.bytes * c) 281474976710656, Nat.ble c 9223372036854775807 with
        | true, true, true => .val (.slice h.next 0 0 n (some c)) (newA h (repl c ty.zero) ty.size)
        | _, _, _ => .no
      | none => .no
    | _ => .no
  | _, _, _ => .no
def fldAddr (cx : Cx) (t f : Nat) (x : AV) : Option AV :=
  match x, cx.tt.get t with
  | .ptr i off, some ti => match ti.kind with
    | .strct fs => match nth fs f with
      | some (o, _, n) => match n with
        | 0 => none
        | _ => some (.ptr i (off + o))
      | none => none
    | _ => none
  | .gptr g off, some ti => match ti.kind with
    | .strct fs => match nth fs f with
      | some (o, _, n) => match n with
        | 0 => none
        | _ => some (.gptr g (off + o))
      | none => none
    | _ => none
  | .lptr j es c m off, some ti => match ti.kind with
    | .strct fs => match nth fs f with
      | some (o, _, n) => match n with
        | 0 => none
        | _ => some (.lptr j es c m (off + o))
      | none => none
    | _ => none
  | _, _ => none
def partA (cx : Cx) (u : Nat) (cs : List AV) (o : Nat) : Option AV :=
  match cx.tt.get u with
  | some ty => match ty.agg with
    | true => match slice1 cs o ty.size with
      | some l => some (.agg l)
      | none => none
    | false => nth cs o
  | none => none
def fldA (cx : Cx) (t f : Nat) (x : AV) : Option AV :=
  match x, cx.tt.get t with
  | .agg cs, some ti => match ti.kind with
    | .strct fs => match nth fs f with
      | some (o, u, _) => partA cx u cs o
      | none => none
    | _ => none
  | _, _ => none
def ixAddr0 (cx : Cx) (t : Nat) (x ix : AV) : Option AV :=
  match nat? ix, cx.tt.get t with
  | some k, some ti => match x, ti.kind with
    | .slice i off _ len _, .slice e => match Nat.blt k len, cx.tt.get e with
      | true, some ty => some (.ptr i (off + k * ty.size))
      | _, _ => none
    | .ptr i off, .arr n e => match Nat.blt k n, cx.tt.get e with
      | true, some ty => some (.ptr i (off + k * ty.size))
      | _, _ => none
    | .gptr g off, .arr n e => match Nat.blt k n, cx.tt.get e with
      | true, some ty => some (.gptr g (off + k * ty.size))
      | _, _ => none
    | _, _ => none
  | _, _ => none
def ixAddr (cx : Cx) (t : Nat) (x ix : AV) : Option AV := match x with
  | .opq j => match cx.tt.get t with
    | some ti => match ti.kind with
      | .slice e => match cx.tt.get e with
        | some ty => listAddr cx.facts cx.lens j ty.size ix
        | none => none
      | _ => none
    | none => none
  | x => ixAddr0 cx t x ix
def ixA (cx : Cx) (t : Nat) (x ix : AV) : Option AV :=
  match nat? ix, cx.tt.get t with
  | some k, some ti => match x, ti.kind with
    | .agg cs, .arr n e => match Nat.blt k n, cx.tt.get e with
      | true, some ty => partA cx e cs (k * ty.size)
      | _, _ => none
    | .str s, .str => match nth s k with
      | some b => some (.int .u8 (Int.ofNat b.toNat))
      | none => none
    | _, _ => none
  | _, _ => none
def mapTy (cx : Cx) (t : Nat) : Option (Bool × List Leaf × TyI) :=
  match cx.tt.get t with
  | some ti => match ti.kind with
    | .map k e => match cx.tt.get k, cx.tt.get e with
      | some ki, some ei => match ki.leaves with
        | some ls => some (ki.agg, ls, ei)
        | none => none
      | _, _ => none
    | _ => none
  | none => none
def lookM (fx : List Fact) (ls : List Leaf) (h : AH) (m k : AV) : Option (Option AV) :=
  match m with
  | .nilm => some none
  | .map i => match h.objs.get i with
    | some (.map es _) => match findI fx ls k es with
      | some (some n) => match nth es n with
        | some (_, v, _) => some (some v)
        | none => none
      | some none => some none
      | none => none
    | _ => none
  | _ => none
def keyOk (agg : Bool) (ls : List Leaf) (k : AV) : Bool := match k with
  | .agg cs => match agg with
    | true => Nat.beq cs.length ls.length
    | false => false
  | .tup _ => false
  | _ => match agg, ls with
    | false, [_] => true
    | _, _ => false
def okTup (ok : Bool) (v : AV) (b : Bool) : AV := match ok with
  | true => .tup [v, .bool b]
  | false => v
def lookA (cx : Cx) (h : AH) (t : Nat) (ok : Bool) (m k : AV) : Option AV :=
  match mapTy cx t with
  | some (ag, ls, ei) => match keyOk ag ls k, lookM cx.facts ls h m k with
    | true, some (some v) => some (okTup ok v true)
    | true, some none => match ofCells ei.agg ei.zero with
      | some v => some (okTup ok v false)
      | none => none
    | _, _ => none
  | none => none
def mapUpdA (cx : Cx) (h : AH) (t : Nat) (m k v : AV) : Option AH :=
  match m, mapTy cx t with
  | .map i, some (ag, ls, _) => match h.objs.get i with
    | some (.map es c) => match keyOk ag ls k, findI cx.facts ls k es with
      | true, some none => some ⟨h.objs.set i (.map (es ++ [(k, v, c)]) (c + 1)), h.next⟩
      | true, some (some n) => some ⟨h.objs.set i (.map (setI k v n es) c), h.next⟩
      | _, _ => none
    | _ => none
  | _, _ => none
def extrA (i : Nat) : AV → Option AV
  | .tup vs => nth vs i
  | _ => none
def callA (f : AV) (as : Option (List AV)) : AR :=
  match f, as with
  | .fn f first captured, some as => .call f (first ++ as ++ captured)
  | _, _ => .no
def lenA (cx : Cx) (h : AH) (t : Nat) (v : AV) : Option AV :=
  match cx.tt.get t with
  | some ti => match ti.kind, v with
    | .slice _, .nils => some (goI 0)
    | .slice _, .tail _ _ _ _ _ => some (goI 0)
    | .slice _, .slice _ _ _ n _ => some (goI n)
    | .slice _, .opq j => findLen j cx.lens
    | .str, .str s => some (goI s.length)
    | .str, .sstr s => some (goI s.length)
    | .map _ _, .nilm => some (goI 0)
    | .map _ _, .map i => match h.objs.get i with
      | some (.map es _) => some (goI es.length)
      | _ => none
    | _, _ => none
  | none => none
def capA (cx : Cx) (t : Nat) (v : AV) : Option AV :=
  match cx.tt.get t with
  | some ti => match ti.kind, v with
    | .slice _, .nils => some (goI 0)
    | .slice _, .slice _ _ _ _ (some c) => some (goI c)
    | _, _ => none
  | none => none
def delM (cx : Cx) (h : AH) (t : Nat) (m k : AV) : AR :=
  match m, mapTy cx t with
  | .map i, some (ag, ls, _) => match h.objs.get i with
    | some (.map es c) => match keyOk ag ls k, findI cx.facts ls k es with
      | true, some none => .val .undef ⟨h.objs.set i (.map es c), h.next⟩
      | true, some (some n) => .val .undef ⟨h.objs.set i (.map (delI n es) c), h.next⟩
      | _, _ => .no
    | _ => .no
  | _, _ => .no
def selI (c : Bool) (x y : Int) : Int := match c with
  | true => x
  | false => y
/-- two numbers of one kind -/
def kindE : AV → AV → Bool
  | .int k _, .int j _ => kEq k j
  | .int k _, .sym j _ => kEq k j
  | .sym k _, .int j _ => kEq k j
  | .sym k _, .sym j _ => kEq k j
  | _, _ => false
/-- y if it is less (more) than x, x if not -/
def lessS (fx : List Fact) (x y a b : AV) : Option AV := match kindE x y with
  | true => match findF .lss a b fx with
    | some (.bool true) => some y
    | some (.bool false) => some x
    | _ => none
  | false => none
def minA (fx : List Fact) : AV → AV → Option AV
  | .int k a, .int _ b => some (.int k (selI (intLt b a) b a))
  | x, y => lessS fx x y y x
def maxA (fx : List Fact) : AV → AV → Option AV
  | .int k a, .int _ b => some (.int k (selI (intLt a b) b a))
  | x, y => lessS fx x y x y
/-- copy: n elements -/
def copyTo (h : AH) (d : AV) (n : Nat) (new : List AV) : Option (AV × AH) :=
  match d with
  | .nils => some (goI n, h)
  | .slice i off _ _ _ => match h.objs.get i with
    | some (.cells cs false es) => match overAt off cs new with
      | some cs => some (goI n, ⟨h.objs.set i (.cells cs false es), h.next⟩)
      | none => none
    | _ => none
  | _ => none
def copyA (cx : Cx) (h : AH) (t : Nat) (d s : AV) : Option (AV × AH) :=
  match cx.tt.get t with
  | some ti => match ti.kind with
    | .slice e => match cx.tt.get e, lenOfA s, lenOfA d with
      | some ty, some a, some b => match firstA h ty.size s (Nat.min a b) with
        | some new => copyTo h d (Nat.min a b) new
        | none => none
      | _, _, _ => none
    | _ => none
  | none => none
def clearA (cx : Cx) (h : AH) (t : Nat) (d : AV) : Option (AV × AH) :=
  match cx.tt.get t with
  | some ti => match ti.kind, d with
    | .slice _, .nils => some (.undef, h)
    | .slice e, .slice i off _ n _ => match Nat.beq n 0 with
      | true => some (.undef, h)
      | false => match cx.tt.get e with
        | some ty => match h.objs.get i with
          | some (.cells cs false es) => match overAt off cs (repl n ty.zero) with
            | some cs => some (.undef, ⟨h.objs.set i (.cells cs false es), h.next⟩)
            | none => none
          | _ => none
        | none => none
    | _, _ => none
  | none => none
def biA (cx : Cx) (h : AH) (b : Builtin) (as : Option (List AV)) (ts : List Nat) : AR :=
  match as with
  | some [v] => match b, ts with
    | .len, t :: _ => rv h (lenA cx h t v)
    | .clear, t :: _ => rop (clearA cx h t v)
    | .cap, t :: _ => rv h (capA cx t v)
    | _, _ => .no
  | some [x, y] => match b, ts with
    | .append, t :: u :: _ => rop (appendA cx h t u x y)
    | .copy, t :: _ => rop (copyA cx h t x y)
    | .delete, t :: _ => delM cx h t x y
    | .min, _ => rv h (minA cx.facts x y)
    | .max, _ => rv h (maxA cx.facts x y)
    | _, _ => .no
  | _ => .no
def slA (cx : Cx) (t : Nat) (x : AV) (lo hi mx : Option (Option AV)) : Option AV :=
  match lo, hi, mx with
  | some lo, some hi, some mx => sliceA cx t x lo hi mx
  | _, _, _ => none
def callO (cx : Cx) (tm : Tm) (h : AH) (c : Call) : AR :=
  match c.callee with
  | .value f => bind1 (opnd tm f) .no fun f => callA f (opnds tm c.args.toList)
  | .builtin b => biA cx h b (opnds tm c.args.toList) c.argTypes.toList
  | _ => .no
def mkMapA (h : AH) (r : Option Operand) : AR := match r with
  | none => .val (.map h.next) ⟨h.objs.set h.next (.map [] 0), h.next + 1⟩
  | some _ => .no

/-! ## ranges over maps -/
def rangeA (cx : Cx) (h : AH) (t : Nat) (m : AV) : AR := match cx.tt.get t with
  | some ty => match ty.kind with
    | .map _ _ => match m with
      | .nilm => .val (.ptr h.next 0) ⟨h.objs.set h.next (.iter none 0 0 [] none), h.next + 1⟩
      | .map i => match h.objs.get i with
        | some (.map _ c) => .val (.ptr h.next 0) ⟨h.objs.set h.next (.iter (some i) c c [] none), h.next + 1⟩
        | _ => .no
      | _ => .no
    | _ => .no
  | none => .no
def memNat (n : Nat) : List Nat → Bool
  | [] => false
  | m :: l => match Nat.beq n m with
    | true => true
    | false => memNat n l
/-- the entries that are left -/
def leftE (seen : List Nat) : List (AV × AV × Nat) → List (AV × AV × Nat)
  | [] => []
  | (k, v, b) :: r => match memNat b seen with
    | true => leftE seen r
    | false => (k, v, b) :: leftE seen r
def anyOld (last : Nat) : List (AV × AV × Nat) → Bool
  | [] => false
  | (_, _, b) :: r => match Nat.blt b last with
    | true => true
    | false => anyOld last r
def stepOK (seen : List Nat) (last : Nat) (es : List (AV × AV × Nat)) : Bool := match seen with
  | [] => true
  | _ => match es with
    | [] => true
    | es => anyOld last es
def nextA (h : AH) (s : Bool) (it : AV) : AR := match s with
  | true => .no
  | false => match it with
    | .ptr i 0 => match h.objs.get i with
      | some (.iter none _ _ _ _) => .val (.tup [.bool false]) h
      | some (.iter (some m) since last seen none) => match h.objs.get m with
        | some (.map es clock) => match stepOK seen last es with
          | true => match leftE seen es with
            | [] => .val (.tup [.bool false]) h
            | [(k, v, b)] => match Nat.blt b since with
              | true => .val (.tup [.bool true, k, v]) ⟨h.objs.set i (.iter (some m) since clock (seen ++ [b]) none), h.next⟩
              | false => .no
            | _ => .no
          | false => .no
        | _ => .no
      | _ => .no
    | _ => .no
def lastN : List Nat → Option Nat
  | [] => none
  | b :: l => match l with
    | [] => some b
    | l => lastN l
def findB (n : Nat) : List (AV × AV × Nat) → Option AV
  | [] => none
  | (k, v, b) :: r => match Nat.beq b n with
    | true => some (.tup [k, v])
    | false => findB n r
def entryA (h : AH) (it : AV) : Option AV := match it with
  | .ptr i 0 => match h.objs.get i with
    | some (.iter (some m) _ last seen _) => match lastN seen with
      | some b => match h.objs.get m with
        | some (.map es clock) => match Nat.beq clock last with
          | true => findB b es
          | false => none
        | _ => none
      | none => none
    | _ => none
  | _ => none

def aop2 (cx : Cx) (tm : Tm) (h : AH) (o : Op) : AR :=
  match o with
  | .build t ps => rv h (buildA cx t (partsA tm ps.toList))
  | .buildSlice t n ps => buildSl cx h t n (partsA tm ps.toList)
  | .makeFunc f a c => rv h (mkFunA f (opnds tm a.toList) (opnds tm c.toList))
  | .makeMap _ r => mkMapA h r
  | .makeSlice t n c => bind1 (opnd tm n) .no fun n => bind1 (opnd tm c) .no fun c => mkSlA cx h t n c
  | .slice t x lo hi mx => bind1 (opnd tm x) .no fun x => rv h (slA cx t x (optO tm lo) (optO tm hi) (optO tm mx))
  | .lookup t m k ok => bind1 (opnd tm m) .no fun m => bind1 (opnd tm k) .no fun k => rv h (lookA cx h t ok m k)
  | .mapUpdate t m k x => bind1 (opnd tm m) .no fun m => bind1 (opnd tm k) .no fun k => bind1 (opnd tm x) .no fun v => rh (mapUpdA cx h t m k v)
  | .extract x i => bind1 (opnd tm x) .no fun x => rv h (extrA i x)
  | .field t x f => bind1 (opnd tm x) .no fun x => rv h (fldA cx t f x)
  | .index t x ix => bind1 (opnd tm x) .no fun x => bind1 (opnd tm ix) .no fun ix => rv h (ixA cx t x ix)
  | .alloc t => allocA cx h t
  | .box _ x => bind1 (opnd tm x) .no (boxA h)
  | .unOp op _ x => bind1 (opnd tm x) .no fun x => rv h (unO op x)
  | .convert s d x => bind1 (opnd tm x) .no fun x => rv h (convA cx h s d x)
  | .call c => callO cx tm h c
  | .range t x => bind1 (opnd tm x) .no (rangeA cx h t)
  | .next x s => bind1 (opnd tm x) .no (nextA h s)
  | .entry x => bind1 (opnd tm x) .no fun x => rv h (entryA h x)
  | _ => .no

def aop (cx : Cx) (tm : Tm) (h : AH) (o : Op) : AR :=
  match o with
  | .move x => rv h (opnd tm x)
  | .assign x => rv h (opnd tm x)
  | .pick c a b => rv h (pickA tm c a b)
  | .load t p => bind1 (opnd tm p) .no fun p => rv h (loadA cx h t p)
  | .store t p x => bind1 (opnd tm p) .no fun p => bind1 (opnd tm x) .no fun v => rh (storeA cx h t p v)
  | .nilCheck x => bind1 (opnd tm x) .no fun x => rv h (nilChk x)
  | .binOp op t x y _ => bind1 (opnd tm x) .no fun x => bind1 (opnd tm y) .no fun y => rv h (bin cx op t x y)
  | .fieldAddr t x f => bind1 (opnd tm x) .no fun x => rv h (fldAddr cx t f x)
  | .indexAddr t x ix => bind1 (opnd tm x) .no fun x => bind1 (opnd tm ix) .no fun ix => rv h (ixAddr cx t x ix)
  | o => aop2 cx tm h o

inductive AOut where
  | norm (tm : Tm) (h : AH)
  | exit (id : Nat) (tm : Tm) (h : AH)
  | ret (tm : Tm) (h : AH)
  | no

/-- is an operation under a guard wanted? A hole does not tell. -/
def wantedV (want : Bool) (x : AV) : Option Bool :=
  match x with
  | .bool b => some (boolEq b want)
  | .hole _ => none
  | .opq _ => none
  | _ => some false

def wantedA (all : List Oper) (tm : Tm) (o : Oper) : Option Bool :=
  match o.guard with
  | none => some true
  | some (g, want) => match nth all g with
    | some oo => match oo.dst with
      | some d => wantedV want (tm.at d)
      | none => some false
    | none => some false

def putA (tm : Tm) (d : Option Nat) (v : AV) : Tm :=
  match d with
  | some d => tm.set d v
  | none => tm

abbrev CallF := Nat → List AV → AH → Option (AV × AH)

/-- what was read in a region whose order is open: the places at which the reading may happen, the operation, the temporaries, what it gave -/
structure Read where
  ps : List Nat
  op : Op
  tm : Tm
  v : AV

mutual
def avEq : AV → AV → Bool
  | .bool a, .bool b => boolEq a b
  | .int k a, .int j b => match kEq k j with
    | true => intEq a b
    | false => false
  | .sym k a, .sym j b => match kEq k j with
    | true => Nat.beq a b
    | false => false
  | .str a, .str b => strEq a b
  | .sstr a, .sstr b => avsEq a b
  | .gptr g o, .gptr j p => match Nat.beq g j with
    | true => Nat.beq o p
    | false => false
  | .ptr i o, .ptr j p => match Nat.beq i j with
    | true => Nat.beq o p
    | false => false
  | .opq i, .opq j => Nat.beq i j
  | .lptr i e c n o, .lptr j f d m p => match Nat.beq i j with
    | true => match Nat.beq e f with
      | true => match boolEq c d with
        | true => match Nat.beq n m with
          | true => Nat.beq o p
          | false => false
        | false => false
      | false => false
    | false => false
  | .nilp, .nilp => true
  | .slice i o e l c, .slice j p f m d => match Nat.beq i j with
    | true => match Nat.beq o p with
      | true => match Nat.beq e f with
        | true => match Nat.beq l m with
          | true => match c, d with
            | none, none => true
            | some c, some d => Nat.beq c d
            | _, _ => false
          | false => false
        | false => false
      | false => false
    | false => false
  | .nils, .nils => true
  | .map i, .map j => Nat.beq i j
  | .nilm, .nilm => true
  | .fn f a b, .fn g c d => match Nat.beq f g with
    | true => match avsEq a c with
      | true => avsEq b d
      | false => false
    | false => false
  | .nilf, .nilf => true
  | .nili, .nili => true
  | .agg a, .agg b => avsEq a b
  | .tup a, .tup b => avsEq a b
  | _, _ => false
def avsEq : List AV → List AV → Bool
  | [], [] => true
  | a :: as, b :: bs => match avEq a b with
    | true => avsEq as bs
    | false => false
  | _, _ => false
end

/-- does this operation write? -/
def isE : Op → Bool
  | .store _ _ _ | .mapUpdate _ _ _ _ | .range _ _ | .next _ _ | .entry _ => true
  | .call c => match c.callee with
    | .value _ => true
    | .builtin b => match b with
      | .len | .min | .max => false
      | _ => true
    | _ => true
  | _ => false
/-- does this operation read memory? -/
def isL : Op → Bool
  | .load _ _ | .lookup _ _ _ _ | .convert _ _ _ => true
  | .call c => match c.callee with
    | .builtin .len => true
    | _ => false
  | _ => false

def runOps (cx : Cx) (callf : CallF) (all : List Oper) : List Oper → Tm → AH → AOut
  | [], tm, h => .norm tm h
  | o :: os, tm, h => match wantedA all tm o with
    | none => .no
    | some false => runOps cx callf all os (putA tm o.dst .undef) h
    | some true => match aop cx tm h o.op with
      | .val v h => runOps cx callf all os (putA tm o.dst v) h
      | .call f args => match callf f args h with
        | some (v, h) => runOps cx callf all os (putA tm o.dst v) h
        | none => .no
      | .no => .no

structure DOut where
  tm : Tm
  h : AH
  sn : Tr AH
  rd : List Read

def snapIf (b : Bool) (k : Nat) (h : AH) (sn : Tr AH) : Tr AH := match b with
  | true => sn.set k h
  | false => sn
def readIf (pl : List (List Nat)) (op : Op) (tm : Tm) (v : AV) (rd : List Read) : List Read := match pl with
  | (p :: ps) :: _ => ⟨p :: ps, op, tm, v⟩ :: rd
  | _ => rd
def tl {α : Type} : List α → List α
  | [] => []
  | _ :: l => l

def runDraw (cx : Cx) (callf : CallF) (all : List Oper) : Nat → List Oper → List (List Nat) → Tm → AH → Tr AH → List Read → Option DOut
  | k, [], _, tm, h, sn, rd => some ⟨tm, h, sn.set k h, rd⟩
  | k, o :: os, pl, tm, h, sn, rd => match wantedA all tm o with
    | none => none
    | some false => runDraw cx callf all (k + 1) os (tl pl) (putA tm o.dst .undef) h (snapIf (isE o.op) k h sn) rd
    | some true => match aop cx tm h o.op with
      | .val v h' => runDraw cx callf all (k + 1) os (tl pl) (putA tm o.dst v) h' (snapIf (isE o.op) k h sn) (readIf pl o.op tm v rd)
      | .call f args => match isE o.op with
        | true => match callf f args h with
          | some (v, h') => runDraw cx callf all (k + 1) os (tl pl) (putA tm o.dst v) h' (sn.set k h) rd
          | none => none
        | false => none
      | .no => none

def chkRead (cx : Cx) (sn : Tr AH) (r : Read) : List Nat → Bool
  | [] => true
  | p :: ps => match sn.get p with
    | some h => match aop cx r.tm h r.op with
      | .val v _ => match avEq v r.v with
        | true => chkRead cx sn r ps
        | false => false
      | _ => false
    | none => false
def chkReads (cx : Cx) (sn : Tr AH) : List Read → Bool
  | [] => true
  | r :: rs => match chkRead cx sn r r.ps with
    | true => chkReads cx sn rs
    | false => false

def runReg (cx : Cx) (callf : CallF) (g id : Nat) (ops : List Oper) (draw : Bool) (tm : Tm) (h : AH) : AOut :=
  match draw with
  | false => runOps cx callf ops ops tm h
  | true => match cx.plan.get g with
    | some t => match t.get id with
      | some pl => match runDraw cx callf ops 0 ops pl tm h .nil [] with
        | some ⟨tm, h, sn, rd⟩ => match chkReads cx sn rd with
          | true => .norm tm h
          | false => .no
        | none => .no
      | none => .no
    | none => .no

def initTm : Nat → List AV → Tm → Tm
  | _, [], tm => tm
  | n, v :: vs, tm => initTm (n + 1) vs (tm.set n v)

def resA (cx : Cx) (tm : Tm) (h : AH) : ResultVar → Option AV
  | .tmp t => some (tm.at t)
  | .cell a t => loadA cx h t (tm.at a)
def resAs (cx : Cx) (tm : Tm) (h : AH) : List ResultVar → Option (List AV)
  | [] => some []
  | r :: rs => match resA cx tm h r, resAs cx tm h rs with
    | some v, some vs => some (v :: vs)
    | _, _ => none
def tup1 : List AV → AV
  | [v] => v
  | vs => .tup vs

def finA (cx : Cx) (fn : Func) (o : AOut) : Option (AV × AH) :=
  match o with
  | .norm tm h | .ret tm h => match resAs cx tm h fn.results.toList with
    | some vs => some (tup1 vs, h)
    | none => none
  | _ => none

def runC (cx : Cx) : Nat → Nat → Code → Tm → AH → AOut
  | 0, _, _, _, _ => .no
  | f + 1, g, c, tm, h => match c with
    | .skip => .norm tm h
    | .label _ => .norm tm h
    | .region id ops draw => runReg cx (fun g args h => match cx.sums.get g with
        | some s => s args h
        | none => match cx.funcs.get g with
          | some fn => match fn.body with
            | some c => finA cx fn (runC cx f g c (initTm 0 args Tm.nil) h)
            | none => none
          | none => none) g id ops.toList draw tm h
    | .seq a b => match runC cx f g a tm h with
      | .norm tm h => runC cx f g b tm h
      | r => r
    | .cond x a b => match opnd tm x with
      | some (.bool true) => runC cx f g a tm h
      | some (.bool false) => runC cx f g b tm h
      | _ => .no
    | .block id a => match runC cx f g a tm h with
      | .exit j tm h => match Nat.beq j id with
        | true => .norm tm h
        | false => .exit j tm h
      | r => r
    | .loop a => match runC cx f g a tm h with
      | .norm tm h => runC cx f g (.loop a) tm h
      | r => r
    | .exit id => .exit id tm h
    | .ret => .ret tm h
    | .scope a => runC cx f g a tm h
    | _ => .no

def runF (cx : Cx) (fuel : Nat) (g : Nat) (args : List AV) (h : AH) : Option (AV × AH) :=
  match cx.funcs.get g with
  | some fn => match fn.body with
    | some c => finA cx fn (runC cx fuel g c (initTm 0 args Tm.nil) h)
    | none => none
  | none => none

/-! ## loops over maps: what the text tells -/
/-- the temporaries that a code assigns -/
def asg : Code → List Nat
  | .region _ ops _ => ops.toList.filterMap (·.dst)
  | .seq a b => asg a ++ asg b
  | .cond _ a b => asg a ++ asg b
  | .block _ a => asg a
  | .loop a => asg a
  | .scope a => asg a
  | _ => []
def tmpsOf : List Operand → List (Nat × Bool)
  | [] => []
  | .tmp t :: r => (t, false) :: tmpsOf r
  | _ :: r => tmpsOf r
def mensO : List Oper → List (Nat × Bool)
  | [] => []
  | o :: os => match o.dst with
    | some d => tmpsOf o.op.operands.toList ++ (d, true) :: mensO os
    | none => tmpsOf o.op.operands.toList ++ mensO os
/-- the temporaries that a code names, in the text's order: read, or written -/
def mens : Code → List (Nat × Bool)
  | .region _ ops _ => mensO ops.toList
  | .seq a b => mens a ++ mens b
  | .cond x a b => tmpsOf [x] ++ mens a ++ mens b
  | .block _ a => mens a
  | .loop a => mens a
  | .scope a => mens a
  | _ => []
def firstW (t : Nat) : List (Nat × Bool) → Bool
  | [] => true
  | (s, w) :: r => match Nat.beq s t with
    | true => w
    | false => firstW t r
def nubN : List Nat → List Nat
  | [] => []
  | n :: l => match memNat n l with
    | true => nubN l
    | false => n :: nubN l
/-- a loop over a map: the iterator, what next gives, whether it gave something; the rest; the temporaries that each round writes ahead of reading, the others that it writes -/
structure MapSh where
  it : Nat
  t : Nat
  c : Nat
  rest : Code
  D : List Nat
  W : List Nat
def mkMapSh (it t t2 c : Nat) (rest : Code) (l D W : List Nat) : Option MapSh := match Nat.beq t t2, Nat.beq t c, memNat t D, memNat c D, memNat it D with
  | true, false, true, true, false => some ⟨it, t, c, rest, D, W⟩
  | _, _, _, _, _ => none
def mapSh2 (o1 o2 : Oper) (rest : Code) : Option MapSh := match o1.guard, o2.guard, o1.dst, o2.dst with
  | none, none, some t, some c => match o1.op, o2.op with
    | .next (.tmp it) false, .extract (.tmp t2) 0 => mkMapSh it t t2 c rest (nubN (t :: c :: asg rest)) ((nubN (t :: c :: asg rest)).filter fun x => firstW x ((t, true) :: (c, true) :: mens rest)) ((nubN (t :: c :: asg rest)).filter fun x => !firstW x ((t, true) :: (c, true) :: mens rest))
    | _, _ => none
  | _, _, _, _ => none
def mapSh : Code → Option MapSh
  | .seq (.region _ ops false) rest => match ops.toList with
    | [o1, o2] => mapSh2 o1 o2 rest
    | _ => none
  | _ => none

def trOf {α : Type} : Nat → List α → Tr α → Tr α
  | _, [], t => t
  | n, a :: l, t => trOf (n + 1) l (t.set n a)

def ttGo (P : Program) : Nat → List TypeInfo → Tr TyI → Tr TyI
  | _, [], t => t
  | n, _ :: l, t => ttGo P (n + 1) l (Tr.setG (tyI P n) t n)
def ttOf (P : Program) : Tr TyI := ttGo P 0 P.types.toList .nil

def cxOf (P : Program) : Cx := { tt := ttOf P, funcs := trOf 0 P.funcs.toList .nil, facts := [], convs := [], sums := .nil, globs := .nil, bytes := .nil, lens := [], reads := [], calls := [], plan := .nil }

def isTrue : Option (AV × AH) → Bool
  | some (.bool true, _) => true
  | _ => false
end
end Go.Abs
