/- What the interpreter of the translated code says of the code itself: part 1. No conditions. -/
import GoSem.Step
import Derived.Laws.Sem
import Derived.Laws.World
import Derived.Laws.Entries
import Derived.Laws.Cells
import Derived.Laws.Strings
/-! An abstract interpreter of the translated code: immutable data by value, mutable objects by number. -/
namespace Go.Ax

/-- Abstract values. -/
inductive AV where
  | any
  | sc (v : Value)
  | int (k : IntKind) (n : Int)
  | bool (b : Bool)
  | str (s : List UInt8)
  | agg (cs : List AV)
  | tup (vs : List AV)
  | ptr (id i k : Nat)
  | ref (id : Nat)
  | sl (id i n : Nat)
  | isl (es : List (List AV)) (clip : Bool)
  | ipt (cs : List AV)
  | fn (f : Fn) (first cap : List AV)
  | ifc (t : TypeId) (v : AV)
  deriving Inhabited

/-- What branches on the order in which a map is gone through. -/
inductive CT (α : Type) where
  | ret (a : α)
  | fail
  | ch (n : Nat) (k : Nat → CT α)

namespace CT
def bindSlow {α β : Type} (f : α → CT β) : CT α → CT β
  | .ret a => f a
  | .fail => .fail
  | .ch n k => .ch n fun i => bindSlow f (k i)
/-- (the way that is gone nearly always ahead, without recursion) -/
def bind {α β : Type} (x : CT α) (f : α → CT β) : CT β :=
  match x with
  | .ret a => f a
  | .fail => .fail
  | .ch n k => bindSlow f (.ch n k)
def ofOpt {α : Type} : Option α → CT α
  | some a => .ret a
  | none => .fail
end CT

inductive AObj where
  | arr (t : TypeId) (es : List (List AV)) (fz : Bool)
  | map (es : List (AV × AV))
  | sit (rest : List UInt8) (pos : Nat)
  | loop (fn : FuncId) (tm : List (Nat × AV)) (params : List Nat) (assign body : Code) (st : LoopState) (pend : Option Code) (dfr : Nat)
  | dfr
  deriving Inhabited

structure Heap where
  objs : List (Option AObj)
  wr : List Nat
  deriving Inhabited

def getO {α : Type} : List (Option α) → Nat → Option α
  | [], _ => none
  | o :: r, n => match n with
    | 0 => o
    | n + 1 => getO r n

def memN (n : Nat) : List Nat → Bool
  | [] => false
  | m :: r => cond (Nat.beq m n) true (memN n r)

def addN (n : Nat) (l : List Nat) : List Nat := cond (memN n l) l (n :: l)

def Heap.get (h : Heap) (id : Nat) : Option AObj := getO h.objs id
def Heap.set (h : Heap) (id : Nat) (o : Option AObj) : Heap := { objs := h.objs.set id o, wr := addN id h.wr }
/-- A new object: at its slot, if it has one; else behind all. -/
def Heap.new (h : Heap) (slot : Option Nat) (o : AObj) : Nat × Heap :=
  match slot with
  | none => (h.objs.length, { h with objs := h.objs ++ [some o] })
  | some s => (s, h.set s (some o))

/-- What is known of a type. -/
structure TI where
  desc : TypeDesc
  size : Nat
  bytes : Nat
  zero : Value

structure FI where
  fn : Func
  code : Code
  /-- are its arguments, its results data? -/
  dataArgs : Bool
  dataRes : Bool
  /-- are its results data alone, if its arguments are? -/
  iso : Bool
  /-- of a loop, by its first region: the temporaries that are of use at its head -/
  live : List (Nat × List Nat)
  /-- are objects numbered anew at loops' heads? -/
  canon : Bool

inductive Tr (α : Type) where
  | leaf
  | node (l : Tr α) (k : Nat) (v : α) (r : Tr α)

def Tr.find {α : Type} : Tr α → Nat → Option α
  | .leaf, _ => none
  | .node l k v r, n => cond (Nat.beq n k) (some v) (cond (Nat.ble n k) (l.find n) (r.find n))

abbrev Sum := List AV → Heap → Option (AV × Heap)

/-- A map's keys: of one kind, or structs of some. -/
inductive KT where
  | one (d : TypeDesc)
  | flat (ds : List TypeDesc)

structure Env where
  P : Program
  fs : Tr FI
  ty : Tr TI
  ext : Tr Sum
  glob : Tr AV
  /-- (t, k, u): in a variable of type t, k cells in, lies one of type u -/
  casts : List (Nat × Nat × Nat)
  /-- the types of maps' keys -/
  keyts : Tr KT

def absSl : Option Addr → Nat → Nat → AV
  | none, 0, 0 => .isl [] true
  | a, n, m => .sc (.slice a n m)

def oneV : Value → Bool
  | .agg _ => false
  | .tuple _ => false
  | _ => true

mutual
/-- A constant, or what memory begins with. -/
def absV : Value → AV
  | .int k n => .int k n
  | .bool b => .bool b
  | .string s => .str s.data.toList
  | .slice a n m => absSl a n m
  | .agg cs => cond (cs.toList.all oneV) (.agg (absL cs.toList)) .any
  | .tuple cs => .tup (absL cs.toList)
  | v => .sc v
def absL : List Value → List AV
  | [] => []
  | v :: r => absV v :: absL r
end

/-- Is it surely one cell of memory? -/
def AV.one : AV → Bool
  | .any => false
  | .agg _ => false
  | .tup _ => false
  | .sc (.agg _) => false
  | .sc (.tuple _) => false
  | _ => true

/-- The cells of a value (none: it may be no variable's). -/
def AV.cells? : AV → Option (List AV)
  | .agg cs => some cs
  | v => cond v.one (some [v]) none

/-- The cells that a type's variable begins with. -/
def zeroC (v : Value) : List AV := match absV v with
  | .agg cs => cs
  | v => [v]

def sizedC (n : Nat) (v : AV) : Option (List AV) := match v.cells? with
  | some cs => cond (Nat.beq cs.length n) (some cs) none
  | none => none

def inR (lo hi n : Int) : Bool := match Int.decLe lo n with
  | .isTrue _ => match Int.decLe n hi with
    | .isTrue _ => true
    | .isFalse _ => false
  | .isFalse _ => false

def wrapF (k : IntKind) (n : Int) : Int :=
  match k with
  | .i64 => cond (inR (-9223372036854775808) 9223372036854775807 n) n (k.wrap n)
  | .u8 => cond (inR 0 255 n) n (k.wrap n)
  | .i32 => cond (inR (-2147483648) 2147483647 n) n (k.wrap n)
  | .u32 => cond (inR 0 4294967295 n) n (k.wrap n)
  | .u64 => cond (inR 0 18446744073709551615 n) n (k.wrap n)
  | k => k.wrap n

/-- A Sem that asks nothing of memory. -/
def pureRun {α : Type} (P : Program) : Sem α → Option α
  | .pure a => some a
  | .program k => pureRun P (k P)
  | .mark _ k => pureRun P k
  | _ => none

def kindEq : IntKind → IntKind → Bool
  | .i8, .i8 | .i16, .i16 | .i32, .i32 | .i64, .i64 | .u8, .u8 | .u16, .u16 | .u32, .u32 | .u64, .u64 => true
  | _, _ => false

def absO (x : Option Value) : Option AV := match x with
  | some v => some (absV v)
  | none => none

def ltI (a b : Int) : Bool := match Int.decLt a b with
  | .isTrue _ => true
  | .isFalse _ => false
def eqI (a b : Int) : Bool := match Int.decEq a b with
  | .isTrue _ => true
  | .isFalse _ => false

def intBin (P : Program) (op : BinOp) (k : IntKind) (a b : Int) : Option AV :=
  match op with
  | .add => some (.int k (wrapF k (a + b)))
  | .sub => some (.int k (wrapF k (a - b)))
  | .mul => some (.int k (wrapF k (a * b)))
  | .eql => some (.bool (eqI a b))
  | .neq => some (.bool (not (eqI a b)))
  | .lss => some (.bool (ltI a b))
  | .leq => some (.bool (not (ltI b a)))
  | .gtr => some (.bool (ltI b a))
  | .geq => some (.bool (not (ltI a b)))
  | op => absO (pureRun P (binOp op 0 (.int k a) (.int k b)))

def eqB : List UInt8 → List UInt8 → Bool
  | [], [] => true
  | a :: x, b :: y => cond (Nat.beq a.toNat b.toNat) (eqB x y) false
  | _, _ => false

def strBin (op : BinOp) (a b : List UInt8) : Option AV :=
  match op with
  | .add => cond (Nat.blt (a.length + b.length) 1099511627776) (some (.str (a ++ b))) none
  | .eql => some (.bool (eqB a b))
  | .neq => some (.bool (not (eqB a b)))
  | .lss => some (.bool (Op.bytesLess a b))
  | .leq => some (.bool (or (Op.bytesLess a b) (eqB a b)))
  | .gtr => some (.bool (not (or (Op.bytesLess a b) (eqB a b))))
  | .geq => some (.bool (not (Op.bytesLess a b)))
  | _ => none

mutual
/-- Are two values the same? (of those that may be a map's keys) -/
def AV.eq? : AV → AV → Option Bool
  | .int k a, .int k' b => cond (kindEq k k') (some (eqI a b)) none
  | .bool a, .bool b => some (a == b)
  | .str a, .str b => some (eqB a b)
  | .agg a, .agg b => AV.eqs? a b
  | _, _ => none
def AV.eqs? : List AV → List AV → Option Bool
  | [], [] => some true
  | x :: xs, y :: ys => match x.eq? y with
    | some true => AV.eqs? xs ys
    | r => r
  | _, _ => none
end

def eqBool (a b : Bool) : Bool := match a with
  | true => b
  | false => not b

/-- '==' (z: is the right one a constant?) -/
def eqA (E : Env) (d : TypeDesc) (z : Bool) (x y : AV) : Option Bool :=
  match d with
  | .bool => match x, y with
    | .bool a, .bool b => some (eqBool a b)
    | _, _ => none
  | .pointer e => match x, y with
    | .sc (.pointer none), .sc (.pointer none) => some true
    | .sc (.pointer none), .ptr .. => some false
    | .ptr .., .sc (.pointer none) => some false
    | .ptr a i k, .ptr b j l => match E.ty.find e with
      | some ie => cond (and (Nat.beq a b) (Nat.ble 1 ie.size)) (cond (Nat.beq i j) (some (Nat.beq k l)) none) none
      | none => none
    | _, _ => none
  | .func .. => match x, y with
    | .sc .nilFunc, .sc .nilFunc => some true
    | .sc .nilFunc, .fn .. => some false
    | .fn .., .sc .nilFunc => some false
    | _, _ => none
  | .interface _ => match x, y with
    | .sc .nilIface, .sc .nilIface => cond z (some true) none
    | .sc .nilIface, .ifc .. => some false
    | .ifc .., .sc .nilIface => some false
    | _, _ => none
  | .map .. => match x, y with
    | .sc (.map none), .sc (.map none) => some true
    | .sc (.map none), .ref _ => some false
    | .ref _, .sc (.map none) => some false
    | _, _ => none
  | .slice _ => match x, y with
    | .isl (_ :: _) _, .sc (.slice none _ _) => some false
    | .sl .., .sc (.slice none _ _) => some false
    | _, _ => none
  | _ => none

def boolO (neg : Bool) (x : Option Bool) : Option AV := match x with
  | some b => some (.bool (cond neg (not b) b))
  | none => none

def isEq : BinOp → Bool
  | .eql => true
  | .neq => true
  | _ => false

def isNeq : BinOp → Bool
  | .neq => true
  | _ => false

def eqT (E : Env) (op : BinOp) (t : TypeId) (z : Bool) (x y : AV) : Option AV :=
  match E.ty.find t with
  | some i => cond (isEq op) (boolO (isNeq op) (eqA E i.desc z x y)) none
  | none => none

def binA (E : Env) (op : BinOp) (t : TypeId) (z : Bool) (x y : AV) : Option AV :=
  match x, y with
  | .int k a, .int k' b =>
    match op with
    | .shl => absO (pureRun E.P (binOp .shl 0 (.int k a) (.int k' b)))
    | .shr => absO (pureRun E.P (binOp .shr 0 (.int k a) (.int k' b)))
    | op => cond (kindEq k k') (intBin E.P op k a b) none
  | .str a, .str b => strBin op a b
  | x, y => eqT E op t z x y

def isConst : Operand → Bool
  | .const _ => true
  | _ => false

/-- the right operand: a nil slice that is a constant is known to be nil -/
def rightA (y : Operand) (v : Option AV) : Option AV := match y with
  | .const (.slice none n m) => some (.sc (.slice none n m))
  | _ => v

def binOpA (E : Env) (op : BinOp) (t : TypeId) (z : Bool) (x y : Option AV) : Option AV :=
  match x with
  | some x => match y with
    | some y => binA E op t z x y
    | none => none
  | none => none

def setRange (l : List AV) (off : Nat) (vs : List AV) : List AV := l.take off ++ vs ++ l.drop (off + vs.length)

/-- so many cells -/
def takeN (cs : List AV) (n : Nat) : Option (List AV) := cond (Nat.ble n cs.length) (some (cs.take n)) none

def isAggD : TypeDesc → Bool
  | .struct _ | .array .. => true
  | _ => false

def aggO (x : Option (List AV)) : Option AV :=
  match x with
  | some cs => some (.agg cs)
  | none => none

def partA (E : Env) (t : TypeId) (cs : List AV) (off : Nat) : Option AV :=
  match E.ty.find t with
  | some i => cond (isAggD i.desc) (aggO (takeN (cs.drop off) i.size)) (cs[off]?)
  | none => none

def fillA (place : Nat → Option (Nat × Nat)) : List AV → List (Nat × AV) → Option (List AV)
  | cs, [] => some cs
  | cs, (i, v) :: r => match place i with
    | some (off, size) => match sizedC size v with
      | some vs => cond (Nat.ble (off + size) cs.length) (fillA place (setRange cs off vs) r) none
      | none => none
    | none => none

def asNat : AV → Option Nat
  | .int _ (.ofNat n) => some n
  | _ => none

def headO : List AV → Option AV
  | [v] => some v
  | _ => none

/-- cells read as a value of a type -/
def valueOf (i : TI) (cs : Option (List AV)) : Option AV :=
  match cs with
  | some cs => cond (isAggD i.desc) (some (.agg cs)) (headO cs)
  | none => none

/-- so many cells at a place -/
def cellsAt (es : List (List AV)) (j k n : Nat) : Option (List AV) :=
  match es[j]? with
  | some e => cond (Nat.ble (k + n) e.length) (some ((e.drop k).take n)) (cond (Nat.beq k 0) (takeN (es.drop j).flatten n) none)
  | none => none

def readA (E : Env) (t : TypeId) (a : AV) (h : Heap) : Option AV :=
  match E.ty.find t with
  | some i => match a with
    | .ptr id j k => match h.get id with
      | some (.arr _ es _) => valueOf i (cellsAt es j k i.size)
      | _ => none
    | .ipt cs => valueOf i (takeN cs i.size)
    | _ => none
  | none => none

def chunk (size : Nat) : Nat → List AV → List (List AV)
  | 0, _ => []
  | n + 1, l => l.take size :: chunk size n (l.drop size)

/-- a variable's cells: an array's, element by element -/
def rowsOf (E : Env) (i : TI) (cs : List AV) : List (List AV) :=
  match i.desc with
  | .array n e => match E.ty.find e with
    | some ie => cond (and (Nat.ble 1 ie.size) (Nat.beq (n * ie.size) cs.length)) (chunk ie.size n cs) [cs]
    | none => [cs]
  | _ => [cs]

def elemOf (E : Env) (t : TypeId) : Option (TypeId × TI) :=
  match E.ty.find t with
  | some i => match i.desc with
    | .slice e => match E.ty.find e with
      | some ie => some (e, ie)
      | none => none
    | _ => none
  | none => none

/-- a slice's elements -/
def elems (h : Heap) : AV → Option (List (List AV))
  | .isl es _ => some es
  | .sl id i n => match h.get id with
    | some (.arr _ es _) => cond (Nat.ble (i + n) es.length) (some ((es.drop i).take n)) none
    | _ => none
  | _ => none

/-- have elements so many cells? (all have as many as the first one) -/
def fitsR (size : Nat) : List (List AV) → Bool
  | [] => true
  | e :: _ => Nat.beq e.length size

/-- have elements so many cells? (and are there any?) -/
def fits1 (size : Nat) : List (List AV) → Bool
  | [] => false
  | e :: _ => Nat.beq e.length size

def newSl (n : Nat) (p : Nat × Heap) : AV × Heap := (.sl p.1 0 n, p.2)
def newPtr (p : Nat × Heap) : AV × Heap := (.ptr p.1 0 0, p.2)

def roomFor (ti : TI) (n : Nat) : Bool := and (and (Nat.ble 1 ti.size) (Nat.ble 1 ti.bytes)) (Nat.ble ((2 * n + 1024) * ti.bytes) 281474976710656)

def appendA (E : Env) (slot : Option Nat) (t : TypeId) (x : AV) (new : List (List AV)) (h : Heap) : Option (AV × Heap) :=
  match elemOf E t, x with
  | some (e, ti), .isl es clip => match new with
    | [] => some (x, h)
    | _ => cond (and (and clip (fitsR ti.size new)) (and (fitsR ti.size es) (roomFor ti (es.length + new.length))))
      (some (newSl (es.length + new.length) (h.new slot (.arr e (es ++ new) false)))) none
  | some (e, ti), .sl id i n => match new with
    | [] => some (x, h)
    | _ => match h.get id with
      | some (.arr e' es false) =>
        cond (and (and (Nat.beq (i + n) es.length) (Nat.beq e' e)) (and (and (fitsR ti.size new) (fits1 ti.size es)) (roomFor ti (n + new.length))))
          (some (newSl (n + new.length) ((h.set id none).new slot (.arr e (es.drop i ++ new) false)))) none
      | _ => none
  | _, _ => none

def boundO (d : Nat) : Option AV → Option Nat
  | none => some d
  | some v => asNat v

def bounds3 (cap : Nat) (l h m : Option Nat) : Option (Nat × Nat × Nat) :=
  match l, h, m with
  | some l, some h, some m => cond (and (and (Nat.ble m cap) (Nat.ble h m)) (Nat.ble l h)) (some (l, h, m)) none
  | _, _, _ => none

def sliceBoundsA (len cap : Nat) (lo hi mx : Option AV) : Option (Nat × Nat × Nat) :=
  match mx with
  | some _ => match hi with
    | some _ => bounds3 cap (boundO 0 lo) (boundO len hi) (boundO cap mx)
    | none => none
  | none => bounds3 cap (boundO 0 lo) (boundO len hi) (some cap)

def isStrT (E : Env) (t : TypeId) : Bool :=
  match E.ty.find t with
  | some i => match i.desc with
    | .string => true
    | _ => false
  | none => false

def slMid (id i l hh size : Nat) (es : List (List AV)) : Option AV :=
  cond (Nat.beq l 0) (some (.sl id i hh)) (cond (Nat.blt l hh) (cond (fits1 size es) (some (.sl id (i + l) (hh - l))) none) (some (.isl [] false)))

def clipTo (clip : Bool) (hh m len : Nat) : Option AV → Bool
  | some _ => Nat.beq m hh
  | none => and clip (Nat.beq hh len)

def sliceA (E : Env) (t : TypeId) (x : AV) (lo hi mx : Option AV) (h : Heap) : Option AV :=
  match x with
  | .str s => match mx with
    | none => match sliceBoundsA s.length s.length lo hi none with
      | some (l, hh, _) => cond (isStrT E t) (some (.str ((s.take hh).drop l))) none
      | none => none
    | some _ => none
  | .isl es clip => match elemOf E t with
    | some (_, ti) => match sliceBoundsA es.length es.length lo hi mx with
      | some (l, hh, m) => cond (fitsR ti.size es) (some (.isl ((es.take hh).drop l) (clipTo clip hh m es.length mx))) none
      | none => none
    | none => none
  | .sl id i n => match elemOf E t with
    | some (_, ti) => match h.get id with
      | some (.arr _ es _) => match sliceBoundsA n n lo hi mx with
        | some (l, hh, m) => match mx with
          | some _ => cond (and (Nat.beq l hh) (Nat.beq m hh)) (some (.isl [] true)) none
          | none => slMid id i l hh ti.size es
        | none => none
      | _ => none
    | none => none
  | .ptr id i 0 => match E.ty.find t with
    | some ti => match h.get id with
      | some (.arr _ es false) => match mx with
        | none => match ti.desc with
          | .array n e => match E.ty.find e with
            | some ie => match sliceBoundsA n n lo hi none with
              | some (l, hh, _) => cond (Nat.ble (i + n) es.length) (slMid id i l hh ie.size es) none
              | none => none
            | none => none
          | _ => none
        | some _ => none
      | _ => none
    | none => none
  | _ => none

/-- Are two keys the same? -/
def keyEq1 (d : TypeDesc) (a b : AV) : Option Bool :=
  match d with
  | .string => match a with
    | .str a => match b with
      | .str b => some (eqB a b)
      | _ => none
    | _ => none
  | .int _ => match a with
    | .int k a => match b with
      | .int k' b => cond (kindEq k k') (some (eqI a b)) none
      | _ => none
    | _ => none
  | .bool => match a with
    | .bool a => match b with
      | .bool b => some (eqBool a b)
      | _ => none
    | _ => none
  | _ => none

def keyEqs : List TypeDesc → List AV → List AV → Option Bool
  | [], [], [] => some true
  | d :: ds, x :: xs, y :: ys => match keyEq1 d x y with
    | some true => keyEqs ds xs ys
    | some false => some false
    | none => none
  | _, _, _ => none

def keyEq (t : KT) (a b : AV) : Option Bool :=
  match t with
  | .one d => keyEq1 d a b
  | .flat ds => match a with
    | .agg xs => match b with
      | .agg ys => keyEqs ds xs ys
      | _ => none
    | _ => none

/-- Is it a key of such a type? -/
def isKey1 (d : TypeDesc) (a : AV) : Bool :=
  match d with
  | .string => match a with
    | .str _ => true
    | _ => false
  | .int k => match a with
    | .int k' _ => kindEq k k'
    | _ => false
  | .bool => match a with
    | .bool _ => true
    | _ => false
  | _ => false

def areKeys : List TypeDesc → List AV → Bool
  | [], [] => true
  | d :: ds, x :: xs => and (isKey1 d x) (areKeys ds xs)
  | _, _ => false

def isKeyA (t : KT) (a : AV) : Bool :=
  match t with
  | .one d => isKey1 d a
  | .flat ds => match a with
    | .agg xs => areKeys ds xs
    | _ => false

def isOneD : TypeDesc → Bool
  | .string => true
  | .int _ => true
  | .bool => true
  | _ => false

def findKey (t : KT) (k : AV) : List (AV × AV) → Nat → Option (Option (Nat × AV))
  | [], _ => some none
  | (k', v) :: r, i => match keyEq t k k' with
    | some true => some (some (i, v))
    | some false => findKey t k r (i + 1)
    | none => none

/-- the rune at a text's head, and how many bytes it has -/
def decodeA (s : List UInt8) : Nat × Nat :=
  match s with
  | [] => (0, 1)
  | b :: r => cond (Nat.blt b.toNat 128) (b.toNat, 1)
    (let at' (k : Nat) : Nat := ((b :: r).getD k 0).toNat
    let cont (k : Nat) : Bool := k < (b :: r).length && at' k / 64 == 2
    let b0 := b.toNat
    if b0 / 32 == 6 && cont 1 then
      let c := (b0 % 32) * 64 + at' 1 % 64
      if c ≥ 0x80 then (c, 2) else (Utf8.runeError, 1)
    else if b0 / 16 == 14 && cont 1 && cont 2 then
      let c := (b0 % 16) * 4096 + (at' 1 % 64) * 64 + at' 2 % 64
      if c ≥ 0x800 && Utf8.valid c then (c, 3) else (Utf8.runeError, 1)
    else if b0 / 8 == 30 && cont 1 && cont 2 && cont 3 then
      let c := (b0 % 8) * 262144 + (at' 1 % 64) * 4096 + (at' 2 % 64) * 64 + at' 3 % 64
      if c ≥ 0x10000 && Utf8.valid c then (c, 4) else (Utf8.runeError, 1)
    else (Utf8.runeError, 1))

def fnBel (n : Nat) : Fn → Bool
  | .yield l => Nat.blt l n
  | _ => true

mutual
/-- Does a value speak of no object from n on? -/
def AV.bel (n : Nat) : AV → Bool
  | .ptr id _ _ | .ref id | .sl id _ _ => Nat.blt id n
  | .agg cs | .tup cs => belL n cs
  | .fn f a b => and (fnBel n f) (and (belL n a) (belL n b))
  | .ifc _ v => v.bel n
  | _ => true
def belL (n : Nat) : List AV → Bool
  | [] => true
  | v :: r => and (v.bel n) (belL n r)
end

def belE (n : Nat) : List (List AV) → Bool
  | [] => true
  | e :: r => and (belL n e) (belE n r)

def belP (n : Nat) : List (AV × AV) → Bool
  | [] => true
  | (a, b) :: r => and (and (a.bel n) (b.bel n)) (belP n r)

def belT (n : Nat) : List (Nat × AV) → Bool
  | [] => true
  | (_, b) :: r => and (b.bel n) (belT n r)

def AObj.bel (n : Nat) : AObj → Bool
  | .arr _ es _ => belE n es
  | .map es => belP n es
  | .sit .. => true
  | .loop _ tm _ _ _ _ _ d => and (belT n tm) (Nat.blt d n)
  | .dfr => true

def dataSl (id i n : Nat) (v : AV) (p : List (List AV) × Heap) : AV × Heap := match p with
  | (es, h) => match h.get id with
    | some (.arr t _ false) => cond (and (belE 0 es) (Nat.ble (i + n) es.length)) (.isl ((es.drop i).take n) false, h.set id (some (.arr t es true))) (v, h)
    | _ => (v, h)

def pairW {α β γ : Type} (f : α → β → γ) (p : α × Heap) (q : Heap → β × Heap) : γ × Heap := match p with
  | (a, h) => match q h with
    | (b, h) => (f a b, h)

def mapW {α β : Type} (f : α → β) (p : α × Heap) : β × Heap := match p with
  | (a, h) => (f a, h)

mutual
/-- A value as data: slices whose elements speak of no object become immutable (their objects, too). -/
def toData (h : Heap) : (fuel : Nat) → AV → AV × Heap
  | 0, v => (v, h)
  | f + 1, v => match v with
    | .sl id i n => match h.get id with
      | some (.arr _ es true) => cond (Nat.ble (i + n) es.length) (.isl ((es.drop i).take n) false, h) (v, h)
      | some (.arr _ es false) => dataSl id i n v (toDataE h f es)
      | _ => (v, h)
    | .agg cs => mapW .agg (toDataL h f cs)
    | .tup cs => mapW .tup (toDataL h f cs)
    | .isl es _ => (.isl es false, h)
    | v => (v, h)
def toDataL (h : Heap) : (fuel : Nat) → List AV → List AV × Heap
  | 0, l => (l, h)
  | f + 1, l => match l with
    | [] => ([], h)
    | v :: r => pairW List.cons (toData h f v) fun h => toDataL h f r
def toDataE (h : Heap) : (fuel : Nat) → List (List AV) → List (List AV) × Heap
  | 0, l => (l, h)
  | f + 1, l => match l with
    | [] => ([], h)
    | v :: r => pairW List.cons (toDataL h f v) fun h => toDataE h f r
end

structure St where
  tm : List (Nat × AV)
  h : Heap
  dfs : List Nat

def lookT (t : Nat) : List (Nat × AV) → Option AV
  | [] => none
  | (u, v) :: r => cond (Nat.beq u t) (some v) (lookT t r)

def evA (E : Env) (tm : List (Nat × AV)) : Operand → Option AV
  | .tmp t => lookT t tm
  | .const v => some (absV v)
  | .global g => E.glob.find g
  | .func f => some (.fn (.func f) [] [])

def evList (ev : Operand → Option AV) : List Operand → Option (List AV)
  | [] => some []
  | x :: r => match ev x with
    | some v => match evList ev r with
      | some l => some (v :: l)
      | none => none
    | none => none

abbrev CallT := Fn → List AV → Heap → CT (AV × Heap)

def minA (k : IntKind) (a : Int) : List AV → Option AV
  | [] => some (.int k a)
  | .int _ b :: r => minA k (cond (ltI b a) b a) r
  | _ => none
def maxA (k : IntKind) (a : Int) : List AV → Option AV
  | [] => some (.int k a)
  | .int _ b :: r => maxA k (cond (ltI a b) b a) r
  | _ => none

def retH (h : Heap) (x : Option AV) : Option (AV × Heap) :=
  match x with
  | some v => some (v, h)
  | none => none

def bindO {α β : Type} (x : Option α) (f : α → Option β) : Option β :=
  match x with
  | some a => f a
  | none => none

def two {α : Type} (x y : Option AV) (f : AV → AV → Option α) : Option α :=
  match x with
  | some a => match y with
    | some b => f a b
    | none => none
  | none => none

def unitH (x : Option Heap) : Option (AV × Heap) :=
  match x with
  | some h => some (.tup [], h)
  | none => none

def arrLen (E : Env) (e : TypeId) : Option Nat :=
  match E.ty.find e with
  | some ie => match ie.desc with
    | .array n _ => some n
    | _ => none
  | none => none

def i64A (n : Nat) : AV := .int .i64 (.ofNat n)

def natO (x : Option Nat) : Option AV := match x with
  | some n => some (i64A n)
  | none => none

def lenA (E : Env) (t : TypeId) (x : AV) (h : Heap) : Option AV :=
  match E.ty.find t with
  | some i => match i.desc with
    | .string => match x with
      | .str s => some (i64A s.length)
      | _ => none
    | .slice _ => match x with
      | .isl es _ => some (i64A es.length)
      | .sl _ _ n => some (i64A n)
      | _ => none
    | .map _ _ => match x with
      | .sc (.map none) => some (i64A 0)
      | .ref id => match h.get id with
        | some (.map es) => some (i64A es.length)
        | _ => none
      | _ => none
    | .array n _ => some (i64A n)
    | .pointer e => natO (arrLen E e)
    | _ => none
  | none => none

def bytesA : List UInt8 → List (List AV)
  | [] => []
  | b :: r => [.int .u8 (.ofNat b.toNat)] :: bytesA r

def srcA (h : Heap) (y : AV) : Option (List (List AV)) :=
  match y with
  | .str s => some (bytesA s)
  | y => elems h y

def copyA (E : Env) (t : TypeId) (x : AV) (src : List (List AV)) (h : Heap) : Option (AV × Heap) :=
  match elemOf E t, x with
  | some (_, ti), .sl id i n => match h.get id with
    | some (.arr t es false) =>
      cond (and (Nat.ble (i + n) es.length) (and (fitsR ti.size es) (fitsR ti.size src)))
        (some (i64A (Nat.min src.length n), h.set id (some (.arr t (es.take i ++ src.take (Nat.min src.length n) ++ es.drop (i + Nat.min src.length n)) false)))) none
    | _ => none
  | some (_, ti), .isl [] _ => cond (fitsR ti.size src) (some (i64A 0, h)) none
  | _, _ => none

def clearA (E : Env) (t : TypeId) (x : AV) (h : Heap) : Option (AV × Heap) :=
  match elemOf E t, x with
  | some (_, ti), .sl id i n => match h.get id with
    | some (.arr t es false) =>
      cond (and (Nat.ble (i + n) es.length) (fitsR ti.size es))
        (some (.tup [], h.set id (some (.arr t (es.take i ++ List.replicate n (zeroC ti.zero) ++ es.drop (i + n)) false)))) none
    | _ => none
  | some _, .isl [] _ => some (.tup [], h)
  | _, _ => none

def bytesOfA : List (List AV) → Option (List UInt8)
  | [] => some []
  | e :: r => match e with
    | [.int .u8 (.ofNat b)] => match bytesOfA r with
      | some l => some (UInt8.ofNat b :: l)
      | none => none
    | _ => none

def strO (x : Option (List UInt8)) : Option AV :=
  match x with
  | some s => some (.str s)
  | none => none

def isU8 (E : Env) (e : TypeId) : Bool :=
  match E.ty.find e with
  | some i => match i.desc with
    | .int .u8 => Nat.beq i.size 1
    | _ => false
  | none => false

/-- unsafe.String: the bytes' object is given up -/
def unsafeStrA (E : Env) (pt : TypeId) (p : AV) (n : Option Nat) (h : Heap) : Option (AV × Heap) :=
  match n with
  | some 0 => match p with
    | .ptr .. => some (.str [], h)
    | _ => none
  | some n => match p with
    | .ptr id i 0 => match h.get id, E.ty.find pt with
      | some (.arr t es false), some pi => match pi.desc with
        | .pointer e => cond (and (and (isU8 E t) (isU8 E e)) (and (Nat.ble (i + n) es.length) (Nat.ble n 4611686018427387904))) (retH (h.set id none) (strO (bytesOfA ((es.drop i).take n)))) none
        | _ => none
      | _, _ => none
    | _ => none
  | none => none

def argT (argTypes : Array TypeId) : Option TypeId := match argTypes.toList with
  | t :: _ => some t
  | [] => none

/-- is the second argument a slice or a text? -/
def listT (E : Env) (argTypes : Array TypeId) : Bool := match argTypes.toList with
  | _ :: t :: _ => match E.ty.find t with
    | some i => match i.desc with
      | .slice _ => true
      | .string => true
      | _ => false
    | none => false
  | _ => false

def minmaxA (mx : Bool) : List AV → Option AV
  | .int k a :: r => match mx with
    | true => maxA k a r
    | false => minA k a r
  | _ => none

def capA (E : Env) (t : TypeId) (x : AV) : Option AV :=
  match elemOf E t with
  | some _ => match x with
    | .isl es true => some (i64A es.length)
    | _ => none
  | none => none

def sliceDataA : AV → Option AV
  | .sl id i (_ + 1) => some (.ptr id i 0)
  | _ => none

def builtin1 (E : Env) (b : Builtin) (t : TypeId) (x : AV) (h : Heap) : Option (AV × Heap) :=
  match b with
  | .len => retH h (lenA E t x h)
  | .cap => retH h (capA E t x)
  | .clear => clearA E t x h
  | .unsafeSliceData => retH h (sliceDataA x)
  | _ => none

def builtin2 (E : Env) (slot : Option Nat) (b : Builtin) (argTypes : Array TypeId) (t : TypeId) (x y : AV) (h : Heap) : Option (AV × Heap) :=
  match b with
  | .append => cond (listT E argTypes) (bindO (srcA h y) fun new => appendA E slot t x new h) none
  | .copy => bindO (srcA h y) fun src => copyA E t x src h
  | .unsafeString => unsafeStrA E t x (asNat y) h
  | _ => none

def builtinA (E : Env) (slot : Option Nat) (b : Builtin) (argTypes : Array TypeId) (args : List AV) (h : Heap) : Option (AV × Heap) :=
  match b with
  | .min => retH h (minmaxA false args)
  | .max => retH h (minmaxA true args)
  | b => match args with
    | [x] => bindO (argT argTypes) fun t => builtin1 E b t x h
    | [x, y] => bindO (argT argTypes) fun t => builtin2 E slot b argTypes t x y h
    | _ => none

def pickA (c a b : Option AV) (h : Heap) : Option (AV × Heap) :=
  match c with
  | some (.bool true) => retH h a
  | some (.bool false) => retH h b
  | _ => none

def allocA (E : Env) (slot : Option Nat) (t : TypeId) (h : Heap) : Option (AV × Heap) :=
  match E.ty.find t with
  | some i => some (newPtr (h.new slot (.arr t (rowsOf E i (zeroC i.zero)) false)))
  | none => none

def boxA (E : Env) (slot : Option Nat) (t : TypeId) (v : AV) (h : Heap) : Option (AV × Heap) :=
  match E.ty.find t with
  | some i => match sizedC i.size v with
    | some cs => some (newPtr (h.new slot (.arr t (rowsOf E i cs) false)))
    | none => none
  | none => none

def evParts (ev : Operand → Option AV) : List (Nat × Operand) → Option (List (Nat × AV))
  | [] => some []
  | (j, x) :: r => match ev x with
    | some v => match evParts ev r with
      | some l => some ((j, v) :: l)
      | none => none
    | none => none

def fieldPl (E : Env) (fields : Array Field) (j : Nat) : Option (Nat × Nat) :=
  match fields[j]? with
  | some f => match E.ty.find f.type with
    | some i => some (f.offset, i.size)
    | none => none
  | none => none

def buildA (E : Env) (t : TypeId) (ps : List (Nat × AV)) : Option AV :=
  match E.ty.find t with
  | some i => match i.desc with
    | .struct fields => aggO (fillA (fieldPl E fields) (zeroC i.zero) ps)
    | .array _ e => match E.ty.find e with
      | some ie => aggO (fillA (fun j => some (j * ie.size, ie.size)) (zeroC i.zero) ps)
      | none => none
    | _ => none
  | none => none

def fillRows (size : Nat) : List (List AV) → List (Nat × AV) → Option (List (List AV))
  | es, [] => some es
  | es, (j, v) :: r => match sizedC size v with
    | some cs => cond (Nat.blt j es.length) (fillRows size (es.set j cs) r) none
    | none => none

/-- a new slice: of no elements at all, it is as good as immutable -/
def slNew (slot : Option Nat) (e : TypeId) (len : Nat) (h : Heap) (es : List (List AV)) : AV × Heap :=
  match len with
  | 0 => (.isl [] true, h)
  | n => newSl n (h.new slot (.arr e es false))

def slRows (slot : Option Nat) (e : TypeId) (len : Nat) (h : Heap) (es : Option (List (List AV))) : Option (AV × Heap) :=
  match es with
  | some es => some (slNew slot e len h es)
  | none => none

def buildSliceA (E : Env) (slot : Option Nat) (t : TypeId) (len : Nat) (ps : List (Nat × AV)) (h : Heap) : Option (AV × Heap) :=
  match elemOf E t with
  | some (e, ti) => cond (and (Nat.ble 1 ti.size) (Nat.ble (len * ti.size) 16777216))
      (slRows slot e len h (fillRows ti.size (List.replicate len (zeroC ti.zero)) ps)) none
  | none => none

def storeRows (es : List (List AV)) (j k : Nat) (cs : List AV) : Option (List (List AV)) :=
  match es[j]? with
  | some e => cond (Nat.ble (k + cs.length) e.length) (some (es.set j (setRange e k cs)))
      (cond (and (and (Nat.beq k 0) (Nat.ble 1 e.length)) (and (Nat.beq (cs.length % e.length) 0) (Nat.ble (j + cs.length / e.length) es.length)))
        (some (es.take j ++ chunk e.length (cs.length / e.length) cs ++ es.drop (j + cs.length / e.length))) none)
  | none => none

def setRows (h : Heap) (id : Nat) (t : TypeId) (es : Option (List (List AV))) : Option Heap :=
  match es with
  | some es => some (h.set id (some (.arr t es false)))
  | none => none

def storeSized (h : Heap) (id : Nat) (t : TypeId) (es : List (List AV)) (j k : Nat) (cs : Option (List AV)) : Option Heap :=
  match cs with
  | some cs => setRows h id t (storeRows es j k cs)
  | none => none

def storeA (E : Env) (t : TypeId) (a v : AV) (h : Heap) : Option Heap :=
  match E.ty.find t, a with
  | some i, .ptr id j k => match h.get id with
    | some (.arr t' es false) => storeSized h id t' es j k (sizedC i.size v)
    | _ => none
  | _, _ => none

def nilCheckA : AV → Option AV
  | .ptr id i k => some (.ptr id i k)
  | .ipt cs => some (.ipt cs)
  | .fn (.func f) a b => some (.fn (.func f) a b)
  | _ => none

def unA (op : UnOp) (v : AV) : Option AV :=
  match op, v with
  | .not, .bool b => some (.bool (not b))
  | .neg, .int k n => some (.int k (wrapF k (0 - n)))
  | _, _ => none

def nilP : AV → Bool
  | .sc (.pointer none) => true
  | _ => false

def memC (t k u : Nat) : List (Nat × Nat × Nat) → Bool
  | [] => false
  | (a, b, c) :: r => cond (and (Nat.beq a t) (and (Nat.beq b k) (Nat.beq c u))) true (memC t k u r)

/-- a pointer seen as one to whatever -/
def toUnsafeA (ti : TI) (v : AV) (h : Heap) : Option AV :=
  match v with
  | .ptr id j k => match h.get id with
    | some (.arr _ es _) => match es[j]? with
      | some e => cond (and (Nat.blt k e.length) (Nat.ble 1 ti.size)) (some v) none
      | none => none
    | _ => none
  | v => cond (nilP v) (some v) none

/-- so many cells, at the least -/
def rowsSize : List (List AV) → Nat
  | [] => 0
  | e :: r => (r.length + 1) * e.length

def ofUnsafeA (E : Env) (u : TypeId) (v : AV) (h : Heap) : Option AV :=
  match v with
  | .ptr id 0 k => match h.get id with
    | some (.arr t es false) => match E.ty.find t with
      | some ti => match E.ty.find u with
        | some ui => cond (and (and (memC t k u E.casts) (Nat.blt k ti.size)) (and (Nat.ble ti.size (rowsSize es)) (Nat.ble 1 ui.size))) (some v) none
        | none => none
      | none => none
    | _ => none
  | v => cond (nilP v) (some v) none

def strToBytes (E : Env) (slot : Option Nat) (e : TypeId) (s : List UInt8) (h : Heap) : Option (AV × Heap) :=
  cond (isU8 E e) (some (newSl s.length (h.new slot (.arr e (bytesA s) false)))) none

def bytesToStr (es : Option (List (List AV))) (h : Heap) : Option (AV × Heap) :=
  match es with
  | some es => retH h (strO (bytesOfA es))
  | none => none

/-- text, or bytes, as what it is converted to -/
def convStr (E : Env) (slot : Option Nat) (d : TypeDesc) (s : List UInt8) (h : Heap) : Option (AV × Heap) :=
  match d with
  | .string => some (.str s, h)
  | .slice e => strToBytes E slot e s h
  | _ => none

def convOther (E : Env) (s : TypeDesc) (_ : TypeId) (d : TypeDesc) (v : AV) (h : Heap) : Option (AV × Heap) :=
  match s with
  | .slice e => match d with
    | .string => cond (isU8 E e) (bytesToStr (elems h v) h) none
    | _ => none
  | .pointer t => match d with
    | .unsafePointer => match E.ty.find t with
      | some ti => retH h (toUnsafeA ti v h)
      | none => none
    | _ => none
  | .unsafePointer => match d with
    | .pointer u => retH h (ofUnsafeA E u v h)
    | _ => none
  | _ => none

def convertA (E : Env) (slot : Option Nat) (src dst : TypeId) (v : AV) (h : Heap) : Option (AV × Heap) :=
  match E.ty.find src with
  | some s => match E.ty.find dst with
    | some d => match v with
      | .int _ n => match d.desc with
        | .int k => some (.int k (wrapF k n), h)
        | _ => none
      | .str x => convStr E slot d.desc x h
      | v => convOther E s.desc dst d.desc v h
    | none => none
  | none => none

def makeSliceA (E : Env) (slot : Option Nat) (t : TypeId) (l c : Option Nat) (h : Heap) : Option (AV × Heap) :=
  match elemOf E t, l, c with
  | some (e, ti), some l, some c => cond (and (Nat.beq l c) (roomFor ti c)) (some (slNew slot e l h (List.replicate c (zeroC ti.zero)))) none
  | _, _, _ => none

def shiftP (v : AV) (off : Nat) : Option AV := match v with
  | .ptr id j k => some (.ptr id j (k + off))
  | .ipt cs => some (.ipt (cs.drop off))
  | _ => none

def fieldAddrA (E : Env) (s : TypeId) (v : AV) (f : Nat) : Option AV :=
  match E.ty.find s with
  | some i => match i.desc with
    | .struct fields => match fieldPl E fields f with
      | some (off, size) => cond (Nat.ble 1 size) (shiftP v off) none
      | none => none
    | _ => none
  | none => none

def fieldA (E : Env) (t : TypeId) (v : AV) (f : Nat) : Option AV :=
  match E.ty.find t with
  | some i => match i.desc, v with
    | .struct fields, .agg cs => match fields[f]? with
      | some fl => partA E fl.type cs fl.offset
      | none => none
    | _, _ => none
  | none => none

def indexAddrA (E : Env) (t : TypeId) (x : AV) (n : Nat) (h : Heap) : Option AV :=
  match E.ty.find t with
  | some i => match i.desc, x with
    | .slice e, .isl es _ => match E.ty.find e, es[n]? with
      | some ti, some c => cond (and (Nat.ble 1 ti.size) (Nat.beq c.length ti.size)) (some (.ipt c)) none
      | _, _ => none
    | .slice e, .sl id j m => match E.ty.find e, h.get id with
      | some ti, some (.arr _ es _) => cond (and (Nat.blt n m) (and (Nat.ble (j + m) es.length) (fitsR ti.size es))) (some (.ptr id (j + n) 0)) none
      | _, _ => none
    | .array len e, .ptr id j k => match E.ty.find e, h.get id with
      | some ti, some (.arr _ es _) => match es[j]? with
        | some c => cond (Nat.blt n len) (some (cond (and (Nat.beq k 0) (Nat.beq c.length ti.size)) (.ptr id (j + n) 0) (.ptr id j (k + n * ti.size)))) none
        | none => none
      | _, _ => none
    | .array len e, .ipt cs => match E.ty.find e with
      | some ti => cond (Nat.blt n len) (some (.ipt (cs.drop (n * ti.size)))) none
      | none => none
    | _, _ => none
  | none => none

def byteO (x : Option UInt8) : Option AV := match x with
  | some b => some (.int .u8 (.ofNat b.toNat))
  | none => none

def indexA (E : Env) (t : TypeId) (x : AV) (n : Nat) : Option AV :=
  match E.ty.find t with
  | some i => match i.desc, x with
    | .string, .str s => byteO s[n]?
    | .array len e, .agg cs => match E.ty.find e with
      | some ti => cond (Nat.blt n len) (partA E e cs (n * ti.size)) none
      | none => none
    | _, _ => none
  | none => none

def entriesA (x : AV) (h : Heap) : Option (List (AV × AV)) :=
  match x with
  | .sc (.map none) => some []
  | .ref id => match h.get id with
    | some (.map es) => some es
    | _ => none
  | _ => none

def foundA (ok : Bool) (z : AV) (r : Option (Option (Nat × AV))) : Option AV := match r with
  | some (some (_, v)) => some (cond ok (.tup [v, .bool true]) v)
  | some none => some (cond ok (.tup [z, .bool false]) z)
  | none => none

def mapT (E : Env) (t : TypeId) : Option (KT × TI) :=
  match E.ty.find t with
  | some i => match i.desc with
    | .map k e => match E.keyts.find k with
      | some kt => match E.ty.find e with
        | some ti => some (kt, ti)
        | none => none
      | none => none
    | _ => none
  | none => none

def lookupA (E : Env) (t : TypeId) (x k : AV) (ok : Bool) (h : Heap) : Option AV :=
  match mapT E t with
  | some (d, ti) => match entriesA x h with
    | some es => cond (isKeyA d k) (foundA ok (absV ti.zero) (findKey d k es 0)) none
    | none => none
  | none => none

def mapPut (d : KT) (id : Nat) (es : List (AV × AV)) (k v : AV) (h : Heap) : Option Heap :=
  match findKey d k es 0 with
  | some (some (i, _)) => some (h.set id (some (.map (es.set i (k, v)))))
  | some none => some (h.set id (some (.map (es ++ [(k, v)]))))
  | none => none

def mapUpdateA (E : Env) (t : TypeId) (m k v : AV) (h : Heap) : Option Heap :=
  match m with
  | .ref id => match h.get id with
    | some (.map es) => match mapT E t with
      | some (d, _) => cond (isKeyA d k) (mapPut d id es k v h) none
      | none => none
    | _ => none
  | _ => none

def rangeA (E : Env) (slot : Option Nat) (t : TypeId) (x : AV) (h : Heap) : Option (AV × Heap) :=
  match E.ty.find t with
  | some i => match i.desc, x with
    | .string, .str s => some (newPtr (h.new slot (.sit s 0)))
    | _, _ => none
  | none => none

def nextS (id : Nat) (rest : List UInt8) (pos : Nat) (h : Heap) (p : Nat × Nat) : AV × Heap := match p with
  | (c, w) => (.tup [.bool true, i64A pos, .int .i32 (.ofNat c)], h.set id (some (.sit (rest.drop w) (pos + w))))

def nextA (it : AV) (h : Heap) : Option (AV × Heap) :=
  match it with
  | .ptr id 0 0 => match h.get id with
    | some (.sit [] _) => some (.tup [.bool false], h)
    | some (.sit (b :: r) pos) => some (nextS id (b :: r) pos h (decodeA (b :: r)))
    | _ => none
  | _ => none

def extractA (t : AV) (i : Nat) : Option AV :=
  match t with
  | .tup vs => vs[i]?
  | _ => none

def optOp (ev : Operand → Option AV) : Option Operand → Option (Option AV)
  | none => some none
  | some x => match ev x with
    | some v => some (some v)
    | none => none

def sliceOp (E : Env) (t : TypeId) (x : Option AV) (lo hi mx : Option (Option AV)) (h : Heap) : Option AV :=
  match x, lo, hi, mx with
  | some x, some lo, some hi, some mx => sliceA E t x lo hi mx h
  | _, _, _, _ => none

def asNatO (v : Option AV) : Option Nat :=
  match v with
  | some v => asNat v
  | none => none

def makeFuncA (f : Fn) (a b : Option (List AV)) : Option AV :=
  match f with
  | .func f => match a with
    | some a => match b with
      | some b => some (.fn (.func f) a b)
      | none => none
    | none => none
  | _ => none

def ifaceA (E : Env) (t : TypeId) (v : AV) : Option AV :=
  match E.ty.find t with
  | some i => match i.desc with
    | .interface _ => none
    | _ => some (.ifc t v)
  | none => none

def newRef (p : Nat × Heap) : AV × Heap := (.ref p.1, p.2)

def simpleA (E : Env) (slot : Option Nat) (o : Op) (ev : Operand → Option AV) (h : Heap) : Option (AV × Heap) :=
  match o with
  | .move x => retH h (ev x)
  | .assign x => retH h (ev x)
  | .pick c a b => pickA (ev c) (ev a) (ev b) h
  | .alloc t => allocA E slot t h
  | .box t x => bindO (ev x) fun v => boxA E slot t v h
  | .build t parts => bindO (evParts ev parts.toList) fun ps => retH h (buildA E t ps)
  | .buildSlice t len parts => bindO (evParts ev parts.toList) fun ps => buildSliceA E slot t len ps h
  | .load t a => bindO (ev a) fun a => retH h (readA E t a h)
  | .store t a x => two (ev a) (ev x) fun a v => unitH (storeA E t a v h)
  | .nilCheck x => bindO (ev x) fun v => retH h (nilCheckA v)
  | .binOp op t x y _ => retH h (binOpA E op t (isConst y) (ev x) (rightA y (ev y)))
  | .unOp op _ x => bindO (ev x) fun v => retH h (unA op v)
  | .convert src dst x => bindO (ev x) fun v => convertA E slot src dst v h
  | .makeInterface t x => bindO (ev x) fun v => retH h (ifaceA E t v)
  | .makeFunc f a b => retH h (makeFuncA f (evList ev a.toList) (evList ev b.toList))
  | .makeMap _ none => some (newRef (h.new slot (.map [])))
  | .makeSlice t l c => makeSliceA E slot t (asNatO (ev l)) (asNatO (ev c)) h
  | .slice t x lo hi mx => retH h (sliceOp E t (ev x) (optOp ev lo) (optOp ev hi) (optOp ev mx) h)
  | .fieldAddr s x f => bindO (ev x) fun v => retH h (fieldAddrA E s v f)
  | .field t x f => bindO (ev x) fun v => retH h (fieldA E t v f)
  | .indexAddr t x ix => bindO (asNatO (ev ix)) fun n => bindO (ev x) fun v => retH h (indexAddrA E t v n h)
  | .index t x ix => bindO (asNatO (ev ix)) fun n => bindO (ev x) fun v => retH h (indexA E t v n)
  | .lookup t x ix ok => two (ev x) (ev ix) fun x k => retH h (lookupA E t x k ok h)
  | .mapUpdate t m k x => two (ev m) (ev k) fun m k => bindO (ev x) fun v => unitH (mapUpdateA E t m k v h)
  | .range t x => bindO (ev x) fun v => rangeA E slot t v h
  | .next it true => bindO (ev it) fun v => nextA v h
  | .extract t i => bindO (ev t) fun v => retH h (extractA v i)
  | _ => none

def callFn (call : CallT) (g : Fn) (first cap args : List AV) (h : Heap) : CT (AV × Heap) :=
  match g with
  | .func f => call (.func f) (first ++ args ++ cap) h
  | .yield l => match cap with
    | [] => call (.yield l) (first ++ args) h
    | _ => .fail
  | _ => .fail

def callA (call : CallT) (f : Option AV) (args : Option (List AV)) (h : Heap) : CT (AV × Heap) :=
  match f with
  | some (.fn g first cap) => match args with
    | some args => callFn call g first cap args h
    | none => .fail
  | _ => .fail

def calleeA (E : Env) (call : CallT) (slot : Option Nat) (c : Call) (tm : List (Nat × AV)) (h : Heap) : CT (AV × Heap) :=
  match c.callee with
  | .builtin b => CT.ofOpt (bindO (evList (evA E tm) c.args.toList) fun args => builtinA E slot b c.argTypes args h)
  | .value f => callA call (evA E tm f) (evList (evA E tm) c.args.toList) h
  | .invoke .. => .fail

/-- One operation. -/
def opA (E : Env) (call : CallT) (slot : Option Nat) (o : Op) (tm : List (Nat × AV)) (h : Heap) : CT (AV × Heap) :=
  match o with
  | .call c => calleeA E call slot c tm h
  | o => CT.ofOpt (simpleA E slot o (evA E tm) h)

def putT (dst : Option Nat) (v : AV) (tm : List (Nat × AV)) : List (Nat × AV) :=
  match dst with
  | some d => (d, v) :: tm
  | none => tm

def guardV (want : Bool) (v : Option AV) : Option Bool := match v with
  | some (.bool b) => some (b == want)
  | some (.tup _) => some false
  | _ => none

def dstOf (ops : Array Oper) (j : Nat) : Option Nat := match ops[j]? with
  | some o => o.dst
  | none => none

/-- Is an operation to be carried out? -/
def wantedA (ops : Array Oper) (tm : List (Nat × AV)) (o : Oper) : Option Bool :=
  match o.guard with
  | none => some true
  | some (j, want) => match dstOf ops j with
    | some d => guardV want (lookT d tm)
    | none => none

def doneA (dst : Option Nat) (st : St) (p : AV × Heap) : St := match p with
  | (v, h) => { tm := putT dst v st.tm, h, dfs := st.dfs }

def opsA (E : Env) (call : CallT) (all : Array Oper) : List Oper → St → CT St
  | [], st => .ret st
  | o :: r, st =>
    match wantedA all st.tm o with
    | some true => (opA E call none o.op st.tm st.h).bind fun p => opsA E call all r (doneA o.dst st p)
    | some false => opsA E call all r { tm := putT o.dst (.tup []) st.tm, h := st.h, dfs := st.dfs }
    | none => .fail

/-- Are all temporaries that are written below n? -/
def dstOk (n : Nat) : Option Nat → Bool
  | none => true
  | some d => Nat.blt d n
def opsFit (n : Nat) : List Oper → Bool
  | [] => true
  | o :: r => and (dstOk n o.dst) (opsFit n r)
def allLt (n : Nat) : List Nat → Bool
  | [] => true
  | t :: r => and (Nat.blt t n) (allLt n r)
def fits (n : Nat) : Code → Bool
  | .region _ ops _ => opsFit n ops.toList
  | .seq a b => and (fits n a) (fits n b)
  | .cond _ a b => and (fits n a) (fits n b)
  | .block _ a => fits n a
  | .loop a => fits n a
  | .scope a => fits n a
  | .rangeFunc _ ps a b => and (allLt n ps.toList) (and (fits n a) (fits n b))
  | _ => true

/-! Regions that draw their order -/

def keepT (tm : List (Nat × AV)) : List Nat → List (Nat × AV)
  | [] => []
  | t :: r => match lookT t tm with
    | some v => (t, v) :: keepT tm r
    | none => keepT tm r


def AV.id1 : AV → List Nat
  | .ptr id _ _ => [id]
  | .ref id => [id]
  | .sl id _ _ => [id]
  | _ => []

def ids1 (x : Option AV) : List Nat := match x with
  | some v => v.id1
  | none => []

def idsL : List AV → List Nat
  | [] => []
  | v :: r => v.id1 ++ idsL r

/-- The objects that an operation looks into. -/
def usesA (ev : Operand → Option AV) : Op → List Nat
  | .load _ a => ids1 (ev a)
  | .store _ a _ => ids1 (ev a)
  | .lookup _ x _ _ => ids1 (ev x)
  | .mapUpdate _ m _ _ => ids1 (ev m)
  | .next it _ => ids1 (ev it)
  | .indexAddr _ x _ => ids1 (ev x)
  | .slice _ x _ _ _ => ids1 (ev x)
  | .convert _ _ x => ids1 (ev x)
  | .call c => match evList ev c.args.toList with
    | some l => idsL l
    | none => []
  | _ => []

/-- A call of a function: is what it is handed all data? -/
def callData (ev : Operand → Option AV) : Op → Option Bool
  | .call c => match c.callee with
    | .builtin _ => none
    | .value f => match ev f with
      | some f => match evList ev c.args.toList with
        | some l => some (and (f.bel 0) (belL 0 l))
        | none => some false
      | none => some false
    | .invoke .. => some false
  | _ => none

/-- those slots alone (in: true), or all but those (in: false); k: the first one's number -/
def keepS (l : List Nat) (inn : Bool) : Nat → List (Option AObj) → List (Option AObj)
  | _, [] => []
  | k, o :: r => cond (Bool.xor inn (memN k l)) none o :: keepS l inn (k + 1) r

/-- a, but at those slots, and behind a's end: b -/
def mergeO (l : List Nat) : Nat → List (Option AObj) → List (Option AObj) → List (Option AObj)
  | _, [], b => b
  | _, a, [] => a
  | k, x :: a, y :: b => cond (memN k l) y x :: mergeO l (k + 1) a b

def presentS : Nat → List (Option AObj) → List Nat
  | _, [] => []
  | k, o :: r => match o with
    | some _ => k :: presentS (k + 1) r
    | none => presentS (k + 1) r

structure Rec where
  idx : Nat
  dst : Option Nat
  reads : List Nat
  used : List Nat
  changed : List Nat

def disj : List Nat → List Nat → Bool
  | [], _ => true
  | a :: r, l => cond (memN a l) false (disj r l)

def optN : Option Nat → List Nat
  | some n => [n]
  | none => []

def indep (a b : Rec) : Bool :=
  and (and (disj a.changed b.used) (disj b.changed a.used)) (and (disj (optN a.dst) (optN b.dst ++ b.reads)) (disj (optN b.dst) a.reads))

def tmpsOf : List Operand → List Nat
  | [] => []
  | x :: r => match x with
    | .tmp t => t :: tmpsOf r
    | _ => tmpsOf r

def readsOf (ops : Array Oper) (o : Oper) : List Nat :=
  match o.guard with
  | some (j, _) => optN (dstOf ops j) ++ tmpsOf o.op.operands.toList
  | none => tmpsOf o.op.operands.toList

/-- what stands before an operation, as a set of bits -/
def beforeOf (befs : List Nat) : List Edge → Nat
  | [] => 0
  | e :: r => cond (Region.binds .any e) (Nat.lor (Nat.lor (Nat.shiftLeft 1 e.on) (befs.getD e.on 0)) (beforeOf befs r)) (beforeOf befs r)

/-- do all edges that bind lead back? -/
def backOk (i : Nat) : List Edge → Bool
  | [] => true
  | e :: r => and (or (not (Region.binds .any e)) (Nat.blt e.on i)) (backOk i r)

def unord (bef : Nat) : List Rec → List Rec
  | [] => []
  | r :: l => cond (Nat.testBit bef r.idx) (unord bef l) (r :: unord bef l)

def changedL : List Rec → List Nat
  | [] => []
  | r :: l => r.changed ++ changedL l

def allIndep (a : Rec) : List Rec → Bool
  | [] => true
  | r :: l => cond (indep a r) (allIndep a l) false

structure DSt where
  st : St
  recs : List Rec
  befs : List Nat

/-- the objects that are shown to an operation -/
def subH (ev : Operand → Option AV) (o : Op) (bef : Nat) (recs : List Rec) (objs : List (Option AObj)) : List (Option AObj) :=
  match callData ev o with
  | none => keepS (usesA ev o) true 0 objs
  | some true => keepS [] true 0 objs
  | some false => keepS (changedL (unord bef recs)) false 0 objs

def drawRec (a : Rec) (bef : Nat) (recs : List Rec) (befs : List Nat) (st : St) : CT DSt :=
  cond (allIndep a (unord bef recs)) (.ret { st, recs := a :: recs, befs := befs ++ [bef] }) .fail

def addAll (a : List Nat) : List Nat → List Nat
  | [] => a
  | s :: r => addAll (addN s a) r

def drawCh (d : DSt) (h : Heap) : List Nat := h.wr ++ List.range' d.st.h.objs.length (h.objs.length - d.st.h.objs.length)

def drawDone (i : Nat) (o : Oper) (reads : List Nat) (bef : Nat) (d : DSt) (sub : List (Option AObj)) (p : AV × Heap) : CT DSt := match p with
  | (v, h) => cond (Nat.ble d.st.h.objs.length h.objs.length)
    (drawRec { idx := i, dst := o.dst, reads, used := drawCh d h ++ presentS 0 sub, changed := drawCh d h } bef d.recs d.befs
      { tm := putT o.dst v d.st.tm, h := { objs := mergeO h.wr 0 d.st.h.objs h.objs, wr := addAll d.st.h.wr h.wr }, dfs := d.st.dfs }) .fail

def drawRun (i : Nat) (o : Oper) (reads : List Nat) (bef : Nat) (d : DSt) (sub : List (Option AObj)) (c : CT (AV × Heap)) : CT DSt :=
  match c with
  | .ret p => drawDone i o reads bef d sub p
  | _ => .fail

/-- an operation of a region that draws: over the temporaries that it reads and the objects that it looks into alone -/
def drawOp (E : Env) (call : CallT) (all : Array Oper) (i : Nat) (o : Oper) (bef : Nat) (d : DSt) : CT DSt :=
  let reads := readsOf all o
  let tm := keepT d.st.tm reads
  match wantedA all tm o with
  | some true =>
    let sub := subH (evA E tm) o.op bef d.recs d.st.h.objs
    drawRun i o reads bef d sub (opA E call none o.op tm ⟨sub, []⟩)
  | some false => drawRec { idx := i, dst := o.dst, reads, used := [], changed := [] } bef d.recs d.befs { tm := putT o.dst (.tup []) d.st.tm, h := d.st.h, dfs := d.st.dfs }
  | none => .fail

def drawOps (E : Env) (call : CallT) (all : Array Oper) : Nat → List Oper → DSt → CT DSt
  | _, [], d => .ret d
  | i, o :: r, d => match backOk i o.after.toList with
    | true => (drawOp E call all i o (beforeOf d.befs o.after.toList) d).bind fun d => drawOps E call all (i + 1) r d
    | false => .fail

def drawEnd (d : DSt) : CT St := .ret d.st

def drawA (E : Env) (call : CallT) (ops : Array Oper) (st : St) : CT St :=
  (drawOps E call ops 0 ops.toList { st, recs := [], befs := [] }).bind drawEnd

inductive Ex where
  | normal
  | exit (id : Nat)
  | goto (l : Nat)
  | ret
  deriving Inhabited

def firstRegion : Code → Option Nat
  | .region id _ _ => some id
  | .seq a _ => firstRegion a
  | .block _ a => firstRegion a
  | _ => none

def findL (id : Nat) : List (Nat × List Nat) → Option (List Nat)
  | [] => none
  | (k, l) :: r => cond (Nat.beq k id) (some l) (findL id r)

/-! At a loop's head: what is of no use any more is forgotten, and the objects that the call has made are numbered anew -/

def fnIds : Fn → List Nat
  | .yield l => [l]
  | _ => []

mutual
def AV.ids : AV → List Nat
  | .ptr id _ _ => [id]
  | .ref id => [id]
  | .sl id _ _ => [id]
  | .agg cs => idsAll cs
  | .tup cs => idsAll cs
  | .fn f a c => fnIds f ++ (idsAll a ++ idsAll c)
  | .ifc _ v => v.ids
  | _ => []
def idsAll : List AV → List Nat
  | [] => []
  | v :: r => v.ids ++ idsAll r
end

def idsRows : List (List AV) → List Nat
  | [] => []
  | e :: r => idsAll e ++ idsRows r

def idsPairs : List (AV × AV) → List Nat
  | [] => []
  | p :: r => p.1.ids ++ (p.2.ids ++ idsPairs r)

def idsTm : List (Nat × AV) → List Nat
  | [] => []
  | p :: r => p.2.ids ++ idsTm r

def obIds : Option AObj → List Nat
  | some (.arr _ es _) => cond (belE 0 es) [] (idsRows es)
  | some (.map es) => cond (belP 0 es) [] (idsPairs es)
  | some (.loop _ tm _ _ _ _ _ d) => d :: idsTm tm
  | _ => []

/-- the objects from n0 on that one comes to, each once -/
def visit (n0 : Nat) (h : Heap) : Nat → List Nat → List Nat → List Nat
  | 0, _, acc => acc
  | f + 1, todo, acc => match todo with
    | [] => acc
    | id :: r => cond (or (Nat.blt id n0) (memN id acc)) (visit n0 h f r acc) (visit n0 h f (obIds (h.get id) ++ r) (acc ++ [id]))

def idxOf (id : Nat) : Nat → List Nat → Option Nat
  | _, [] => none
  | k, x :: r => cond (Nat.beq x id) (some k) (idxOf id (k + 1) r)

def renN (n0 : Nat) (o : List Nat) (id : Nat) : Option Nat := cond (Nat.blt id n0) (some id) (idxOf id n0 o)

def renFn (n0 : Nat) (o : List Nat) : Fn → Option Fn
  | .yield l => match renN n0 o l with
    | some l => some (.yield l)
    | none => none
  | f => some f

def mapO {α β : Type} (f : α → β) : Option α → Option β
  | some a => some (f a)
  | none => none

def map2O {α β γ : Type} (f : α → β → γ) (x : Option α) (y : Option β) : Option γ :=
  match x with
  | some a => match y with
    | some b => some (f a b)
    | none => none
  | none => none

def fnO (f : Option Fn) (a c : Option (List AV)) : Option AV :=
  match f with
  | some f => map2O (fun a c => .fn f a c) a c
  | none => none

mutual
def renV (n0 : Nat) (o : List Nat) : AV → Option AV
  | .ptr id i k => mapO (fun id => .ptr id i k) (renN n0 o id)
  | .ref id => mapO .ref (renN n0 o id)
  | .sl id i n => mapO (fun id => .sl id i n) (renN n0 o id)
  | .agg cs => mapO .agg (renL n0 o cs)
  | .tup cs => mapO .tup (renL n0 o cs)
  | .fn f a c => fnO (renFn n0 o f) (renL n0 o a) (renL n0 o c)
  | .ifc t v => mapO (.ifc t) (renV n0 o v)
  | v => some v
def renL (n0 : Nat) (o : List Nat) : List AV → Option (List AV)
  | [] => some []
  | v :: r => map2O List.cons (renV n0 o v) (renL n0 o r)
end

def renE (n0 : Nat) (o : List Nat) : List (List AV) → Option (List (List AV))
  | [] => some []
  | e :: r => map2O List.cons (renL n0 o e) (renE n0 o r)

def renP (n0 : Nat) (o : List Nat) : List (AV × AV) → Option (List (AV × AV))
  | [] => some []
  | p :: r => map2O List.cons (map2O Prod.mk (renV n0 o p.1) (renV n0 o p.2)) (renP n0 o r)

def renT (n0 : Nat) (o : List Nat) : List (Nat × AV) → Option (List (Nat × AV))
  | [] => some []
  | p :: r => map2O List.cons (mapO (Prod.mk p.1) (renV n0 o p.2)) (renT n0 o r)

def renNs (n0 : Nat) (o : List Nat) : List Nat → Option (List Nat)
  | [] => some []
  | p :: r => map2O List.cons (renN n0 o p) (renNs n0 o r)

def renOb (n0 : Nat) (o : List Nat) : AObj → Option AObj
  | .arr t es fz => cond (belE 0 es) (some (.arr t es fz)) (mapO (fun es => .arr t es fz) (renE n0 o es))
  | .map es => cond (belP 0 es) (some (.map es)) (mapO .map (renP n0 o es))
  | .loop fid tm ps as bo st pend d => map2O (fun tm d => .loop fid tm ps as bo st pend d) (renT n0 o tm) (renN n0 o d)
  | ob => some ob

def renObO (n0 : Nat) (o : List Nat) : Option AObj → Option (Option AObj)
  | some ob => mapO some (renOb n0 o ob)
  | none => some none

def renObs (n0 : Nat) (o : List Nat) (h : Heap) : List Nat → Option (List (Option AObj))
  | [] => some []
  | id :: r => map2O List.cons (renObO n0 o (h.get id)) (renObs n0 o h r)

def belW (n0 : Nat) (h : Heap) : List Nat → Bool
  | [] => true
  | s :: r => cond (Nat.blt s n0) (match h.get s with
      | some o => cond (o.bel n0) (belW n0 h r) false
      | none => belW n0 h r) (belW n0 h r)

def lowW (n0 : Nat) : List Nat → List Nat
  | [] => []
  | s :: r => cond (Nat.blt s n0) (s :: lowW n0 r) (lowW n0 r)

/-- the state anew; st: what there is if that may not be -/
def canonEnd (n0 : Nat) (st : St) (tm : Option (List (Nat × AV))) (dfs : Option (List Nat)) (obs : Option (List (Option AObj))) : St :=
  match tm with
  | some tm => match dfs with
    | some dfs => match obs with
      | some obs => { tm, h := { objs := st.h.objs.take n0 ++ obs, wr := lowW n0 st.h.wr }, dfs }
      | none => st
    | none => st
  | none => st

def canonGo (n0 : Nat) (st : St) (o : List Nat) : St := canonEnd n0 st (renT n0 o st.tm) (renNs n0 o st.dfs) (renObs n0 o st.h o)

def canonSt (n0 : Nat) (st : St) : St := cond (belW n0 st.h st.h.wr) (canonGo n0 st (visit n0 st.h 1000000 (idsTm st.tm ++ st.dfs) [])) st

/-- what is known at loops' heads: the temporaries that are of use; how many objects the caller knows -/
structure LH where
  sets : List (Nat × List Nat)
  base : Nat
  canon : Bool

def atHead (live : LH) (c : Code) (st : St) : St :=
  match firstRegion c with
  | some id => match findL id live.sets with
    | some ts => cond live.canon (canonSt live.base { tm := keepT st.tm ts, h := st.h, dfs := st.dfs }) { tm := keepT st.tm ts, h := st.h, dfs := st.dfs }
    | none => st
  | none => st

def normalSt (st : St) : CT (Ex × St) := .ret (.normal, st)

def thenA (k : St → CT (Ex × St)) (p : Ex × St) : CT (Ex × St) := match p with
  | (.normal, st) => k st
  | p => .ret p

def blockEnd (id : Nat) (p : Ex × St) : CT (Ex × St) := match p with
  | (.exit id', st) => cond (Nat.beq id' id) (.ret (.normal, st)) (.ret (.exit id', st))
  | p => .ret p

def condA (v : Option AV) (a b : Unit → CT (Ex × St)) : CT (Ex × St) := match v with
  | some (.bool true) => a ()
  | some (.bool false) => b ()
  | _ => .fail

def exCode : Ex → Option Code
  | .normal => none
  | .exit id => some (.exit id)
  | .goto l => some (.goto l)
  | .ret => some .ret

def isJump : Code → Bool
  | .ret => true
  | .exit _ => true
  | .goto _ => true
  | _ => false

/-- behind a range over a function -/
def rangeEnd (run : Code → St → CT (Ex × St)) (l : Nat) (st : St) (p : AV × Heap) : CT (Ex × St) := match p with
  | (_, h) => match h.get l with
    | some (.loop fid tm ps as bo s pend d') => match s with
      | .busy => .fail
      | _ =>
        let st := { tm := st.tm, h := h.set l (some (.loop fid tm ps as bo .exhausted pend d')), dfs := st.dfs }
        match pend with
        | none => .ret (.normal, st)
        | some j => cond (isJump j) (run j st) .fail
    | _ => .fail

/-- the block of the rounds' deferred calls: within a round, the one that there is -/
def dfrOf (ro : Option Nat) (h : Heap) : Option (Nat × Heap) :=
  match ro with
  | none => some (h.new none .dfr)
  | some l => match h.get l with
    | some (.loop _ _ _ _ _ _ _ d) => some (d, h)
    | _ => none

/-- (at an outermost loop it is among the calls that are deferred) -/
def markOf (ro : Option Nat) (d : Nat) (dfs : List Nat) : List Nat :=
  match ro with
  | none => d :: dfs
  | some _ => dfs

def rangeCallA (call : CallT) (run : Code → St → CT (Ex × St)) (ro : Option Nat) (st : St) (d : Nat) (g : Fn) (first cap : List AV) (p : Nat × Heap) : CT (Ex × St) := match p with
  | (l, h) => (callFn call g first cap [.fn (.yield l) [] []] h).bind (rangeEnd run l { tm := st.tm, h := st.h, dfs := markOf ro d st.dfs })

/-- is it a function with a body that we know? -/
def known (E : Env) : Fn → Bool
  | .func f => match E.fs.find f with
    | some _ => true
    | none => false
  | _ => false

def rangeStart (E : Env) (call : CallT) (run : Code → St → CT (Ex × St)) (ro : Option Nat) (fid : FuncId) (f : Option AV) (ps : List Nat) (assign body : Code) (st : St) : CT (Ex × St) :=
  match f with
  | some (.fn g first cap) => match known E g with
    | true => match dfrOf ro st.h with
      | some (d, h) => rangeCallA call run ro st d g first cap (h.new none (.loop fid st.tm ps assign body .ready none d))
      | none => .fail
    | false => .fail
  | _ => .fail

mutual
def runCode (E : Env) (live : LH) (ro : Option Nat) (fid : FuncId) (call : CallT) : Nat → Code → St → CT (Ex × St)
  | 0, _, _ => .fail
  | n + 1, c, st =>
    match c with
    | .region _ ops draw => match draw with
      | false => (opsA E call ops ops.toList st).bind normalSt
      | true => (drawA E call ops st).bind normalSt
    | .seq a b => (runCode E live ro fid call n a st).bind (thenA (runCode E live ro fid call n b))
    | .cond x a b => condA (evA E st.tm x) (fun _ => runCode E live ro fid call n a st) (fun _ => runCode E live ro fid call n b st)
    | .block id a => (runCode E live ro fid call n a st).bind (blockEnd id)
    | .loop a => (runCode E live ro fid call n a (atHead live a st)).bind (thenA (runCode E live ro fid call n (.loop a)))
    | .scope a => runScope E live ro fid call n a a st
    | .skip => .ret (.normal, st)
    | .label _ => .ret (.normal, st)
    | .ret => .ret (.ret, st)
    | .exit id => .ret (.exit id, st)
    | .goto l => .ret (.goto l, st)
    | .rangeFunc f ps assign body => rangeStart E call (runCode E live ro fid call n) ro fid (evA E st.tm f) ps.toList assign body st
    | .refuse _ => .fail
/-- The code c, within a scope. -/
def runScope (E : Env) (live : LH) (ro : Option Nat) (fid : FuncId) (call : CallT) : Nat → Code → Code → St → CT (Ex × St)
  | 0, _, _, _ => .fail
  | n + 1, a, c, st => (runCode E live ro fid call n c st).bind fun p => match p with
    | (.goto l, st) => match findLabel a l with
      | some rest => runScope E live ro fid call n a rest st
      | none => .ret (.goto l, st)
    | p => .ret p
end

def resultA (E : Env) (st : St) : ResultVar → Option AV
  | .tmp t => lookT t st.tm
  | .cell a t => match lookT a st.tm with
    | some p => readA E t p st.h
    | none => none

def resultsA (E : Env) (st : St) : List ResultVar → Option (List AV)
  | [] => some []
  | x :: r => match resultA E st x with
    | some v => match resultsA E st r with
      | some l => some (v :: l)
      | none => none
    | none => none

def zipT : Nat → List AV → List (Nat × AV)
  | _, [] => []
  | n, v :: r => (n, v) :: zipT (n + 1) r

def Ex.ends : Ex → Bool
  | .normal => true
  | .ret => true
  | _ => false

def oneOf : List AV → AV
  | [v] => v
  | vs => .tup vs

/-- At a return: what the call made is forgotten, if nothing speaks of it any more. -/
def leaveA (n0 : Nat) (wr0 : List Nat) (p : AV × Heap) : CT (AV × Heap) := match p with
  | (v, h) => cond (and (v.bel n0) (belW n0 h h.wr)) (.ret (v, { objs := h.objs.take n0, wr := addAll wr0 (lowW n0 h.wr) })) (.ret (v, { objs := h.objs, wr := addAll wr0 h.wr }))

def dataIf (b : Bool) (v : AV) (h : Heap) : AV × Heap := match b with
  | true => toData h 1000000 v
  | false => (v, h)

/-- the blocks of rounds' deferred calls are taken: they are empty -/
def takeDfs : List Nat → Heap → Option Heap
  | [], h => some h
  | d :: r, h => match h.get d with
    | some .dfr => takeDfs r (h.set d none)
    | _ => none

def endHeap (E : Env) (fi : FI) (n0 : Nat) (wr0 : List Nat) (tm : List (Nat × AV)) (h : Option Heap) : CT (AV × Heap) :=
  match h with
  | some h => match resultsA E { tm, h, dfs := [] } fi.fn.results.toList with
    | some vs => leaveA n0 wr0 (dataIf fi.dataRes (oneOf vs) h)
    | none => .fail
  | none => .fail

def endCall (E : Env) (fi : FI) (n0 : Nat) (wr0 : List Nat) (p : Ex × St) : CT (AV × Heap) := match p with
  | (e, st) => match e.ends with
    | true => endHeap E fi n0 wr0 st.tm (takeDfs st.dfs st.h)
    | false => .fail

def argsData (b : Bool) (args : List AV) (h : Heap) : List AV × Heap :=
  match b with
  | true => toDataL h 1000000 args
  | false => (args, h)

def enterA (E : Env) (call : CallT) (n : Nat) (f : FuncId) (fi : FI) (n0 : Nat) (wr0 : List Nat) (p : List AV × Heap) : CT (AV × Heap) := match p with
  | (args, h) => (runCode E ⟨fi.live, n0, fi.canon⟩ none f call n fi.code { tm := zipT 0 args, h, dfs := [] }).bind (endCall E fi n0 wr0)

def roundEnd (l n0 : Nat) (wr0 : List Nat) (p : Ex × St) : CT (AV × Heap) := match p with
  | (e, st) => match st.h.get l with
    | some (.loop fid tm ps assign body _ _ d) => match exCode e with
      | none => leaveA n0 wr0 (.bool true, st.h.set l (some (.loop fid tm ps assign body .ready none d)))
      | some j => leaveA n0 wr0 (.bool false, st.h.set l (some (.loop fid tm ps assign body .done (some j) d)))
    | _ => .fail

def zipR : List Nat → List AV → List (Nat × AV) → List (Nat × AV)
  | p :: ps, v :: vs, tm => zipR ps vs ((p, v) :: tm)
  | _, _, tm => tm

/-- the assignments to the loop's left sides are done -/
def roundBody (E : Env) (call : CallT) (n : Nat) (l : Nat) (fid : FuncId) (fi : FI) (body : Code) (n0 : Nat) (wr0 : List Nat) (p : Ex × St) : CT (AV × Heap) := match p with
  | (.normal, st) => match st.h.get l with
    | some (.loop fid' tm' ps' as' bo' .ready pend' d') =>
      (runCode E ⟨fi.live, n0, fi.canon⟩ (some l) fid call n body { tm := st.tm, h := st.h.set l (some (.loop fid' tm' ps' as' bo' .busy pend' d')), dfs := st.dfs }).bind (roundEnd l n0 wr0)
    | _ => .fail
  | _ => .fail

def roundA (E : Env) (call : CallT) (n : Nat) (l : Nat) (fid : FuncId) (fi : FI) (tm : List (Nat × AV)) (ps : List Nat) (assign body : Code) (args : List AV) (h : Heap) : CT (AV × Heap) :=
  (runCode E ⟨fi.live, h.objs.length, fi.canon⟩ (some l) fid call n assign { tm := zipR ps args tm, h := ⟨h.objs, []⟩, dfs := [] }).bind (roundBody E call n l fid fi body h.objs.length h.wr)

def yieldA (E : Env) (call : CallT) (n : Nat) (l : Nat) (args : List AV) (h : Heap) : CT (AV × Heap) :=
  match h.get l with
  | some (.loop fid tm ps assign body .ready none _) => match E.fs.find fid with
    | some fi => cond (Nat.beq args.length ps.length) (roundA E call n l fid fi tm ps assign body args h) .fail
    | none => .fail
  | _ => .fail

/-- A call that is handed data alone, and answers data alone: it knows nothing of the caller's objects. -/
def isoEnd (h0 : Heap) (p : AV × Heap) : CT (AV × Heap) := match p with
  | (v, _) => cond (v.bel 0) (.ret (v, h0)) .fail

def startA (E : Env) (call : CallT) (n : Nat) (f : FuncId) (fi : FI) (h0 : Heap) (p : List AV × Heap) : CT (AV × Heap) := match p with
  | (args, h) => cond (and fi.iso (belL 0 args)) ((enterA E call n f fi 0 [] (args, ⟨[], []⟩)).bind (isoEnd ⟨h.objs, addAll h0.wr h.wr⟩))
      (enterA E call n f fi h0.objs.length h0.wr (args, h))

def funcA (E : Env) (call : CallT) (n : Nat) (f : FuncId) (args : List AV) (h : Heap) : CT (AV × Heap) :=
  match E.ext.find f with
  | some s => CT.ofOpt (s args h)
  | none => match E.fs.find f with
    | none => .fail
    | some fi => startA E call n f fi h (argsData fi.dataArgs args ⟨h.objs, []⟩)

def callN (E : Env) : Nat → CallT
  | 0 => fun _ _ _ => .fail
  | n + 1 => fun f args h =>
    match f with
    | .func f => funcA E (callN E n) n f args h
    | .yield l => yieldA E (callN E n) n l args h
    | _ => .fail

end Go.Ax
/-! What abstract values and heaps say of the model's. -/
namespace Go.Ax

/-- Where abstract objects lie; and what is known to stay as it is. -/
structure Gh where
  G : Nat → Option (List Value)
  ok : Nat → Prop
  blk : Nat → Nat
  off : Nat → Nat
  sz : Nat → Nat
  room : Nat → Nat
  /-- the cells of a type's variable -/
  cst : TypeId → Nat

def Gh.addr (g : Gh) (id i k : Nat) : Addr := ⟨g.blk id, g.off id + i * g.sz id + k, none⟩
/-- The same, but of the objects below n alone. -/
def Gh.shut (g : Gh) (n : Nat) : Gh := { g with ok := fun id => g.ok id ∧ id < n }

/-- Which function: a loop's yield bears the number of its block. -/
def FnRep (g : Gh) : Fn → Fn → Prop
  | .yield l, f => g.ok l ∧ f = .yield (g.blk l)
  | f, f' => f' = f

theorem FnRep.le {g g' : Gh} (h : ∀ id, g.ok id → g'.ok id ∧ g'.blk id = g.blk id) : ∀ {f f' : Fn}, FnRep g f f' → FnRep g' f f' := by
  intro f f' hf
  cases f with
  | yield l =>
    simp only [FnRep] at hf ⊢
    have := h l hf.1
    exact ⟨this.1, by rw [this.2]; exact hf.2⟩
  | _ => exact hf

mutual
def RepV : AV → Gh → Value → Prop
  | .any, _, _ => True
  | .sc x, _, v => v = x
  | .int k n, _, v => v = .int k n
  | .bool b, _, v => v = .bool b
  | .str s, _, v => v = .string ⟨s.toArray⟩
  | .agg cs, g, v => ∃ vs : List Value, v = .agg vs.toArray ∧ RepC cs g vs
  | .tup cs, g, v => ∃ vs : List Value, v = .tuple vs.toArray ∧ RepL cs g vs
  | .ptr id i k, g, v => g.ok id ∧ v = .pointer (some (g.addr id i k))
  | .ref id, g, v => g.ok id ∧ v = .map (some (g.blk id))
  | .sl id i n, g, v => g.ok id ∧ ∃ cap, v = .slice (some (g.addr id i 0)) n cap ∧ n ≤ cap ∧ (i + cap) * g.sz id ≤ g.room id
  | .isl es clip, g, v => (es = [] ∧ v = .slice none 0 0) ∨ ∃ b o cap sz l, v = .slice (some ⟨b, o, none⟩) es.length cap ∧ es.length ≤ cap ∧
      (clip = true → cap = es.length) ∧ (es ≠ [] → g.G b = some l) ∧ RepE es (g.shut 0) sz (l.drop o)
  | .ipt cs, g, v => ∃ b o l, v = .pointer (some ⟨b, o, none⟩) ∧ g.G b = some l ∧ RepP cs (g.shut 0) (l.drop o)
  | .fn f a c, g, v => ∃ (f' : Fn) (a' c' : List Value), v = .func f' a'.toArray c'.toArray ∧ FnRep g f f' ∧ RepL a g a' ∧ RepL c g c'
  | .ifc t x, g, v => ∃ y, v = .iface t y ∧ RepV x g y
/-- values, one by one -/
def RepL : List AV → Gh → List Value → Prop
  | [], _, l => l = []
  | a :: r, g, l => ∃ v l', l = v :: l' ∧ RepV a g v ∧ RepL r g l'
/-- cells, one by one -/
def RepC : List AV → Gh → List Value → Prop
  | [], _, l => l = []
  | a :: r, g, l => ∃ v l', l = v :: l' ∧ (RepV a g v ∧ v.oneCell' = true) ∧ RepC r g l'
/-- cells, with others behind them -/
def RepP : List AV → Gh → List Value → Prop
  | [], _, _ => True
  | a :: r, g, l => ∃ v l', l = v :: l' ∧ (RepV a g v ∧ v.oneCell' = true) ∧ RepP r g l'
/-- rows of so many cells, with others behind them -/
def RepE : List (List AV) → Gh → Nat → List Value → Prop
  | [], _, _, _ => True
  | e :: r, g, sz, l => e.length = sz ∧ RepP e g l ∧ RepE r g sz (l.drop sz)
end

def RepPairs (g : Gh) : List (AV × AV) → List MapEntry → Prop
  | [], l => l = []
  | (k, v) :: r, l => ∃ e l', l = e :: l' ∧ RepV k g e.key ∧ RepV v g e.val ∧ RepPairs g r l'

/-- Temporaries. -/
def RepT (g : Gh) (tm : List (Nat × AV)) (tmps : Array Value) : Prop := ∀ t v, lookT t tm = some v → RepV v g (tmps.getD t undef)

def ObjOk (g : Gh) (w : World) (id : Nat) : AObj → Prop
  | .arr t es false => g.G (g.blk id) = none ∧ ∃ c lo hi, w.heap[g.blk id]? = some (.cells c t (lo, hi)) ∧ (∀ k, k < c.size → ¬ (lo ≤ k ∧ k < hi)) ∧
      g.off id + g.room id ≤ c.size ∧ (es.length * g.sz id ≤ g.room id ∧ ∃ q, g.off id = q * g.cst t) ∧ RepE es g (g.sz id) (c.toList.drop (g.off id))
  | .arr _ es true => ∃ l, g.G (g.blk id) = some l ∧ RepE es (g.shut 0) (g.sz id) (l.drop (g.off id))
  | .map es => g.G (g.blk id) = none ∧ ∃ ents clock, w.heap[g.blk id]? = some (.map ents clock) ∧ RepPairs g es ents.toList
  | .sit rest pos => g.G (g.blk id) = none ∧ g.off id = 0 ∧ ∃ s : ByteArray, w.heap[g.blk id]? = some (.stringIter s pos) ∧ s.data.toList.drop pos = rest
  | .loop _ tm ps assign body st pend d => g.G (g.blk id) = none ∧ g.ok d ∧ ∃ tmps fn, w.heap[g.blk id]? = some (.loop { state := st, pending := pend, fn, tmps, params := ps.toArray, assign, body, defers := g.blk d }) ∧ RepT g tm tmps ∧ allLt tmps.size ps = true ∧ fits tmps.size assign = true ∧ fits tmps.size body = true
  | .dfr => g.G (g.blk id) = none ∧ w.heap[g.blk id]? = some (.deferred (some []))

structure HeapOk (g : Gh) (h : Heap) (w : World) : Prop where
  gok : ∀ b l, g.G b = some l → ∃ c t fr, w.heap[b]? = some (.cells c t fr) ∧ l <+: c.toList
  obj : ∀ id o, h.get id = some o → g.ok id ∧ ObjOk g w id o
  inj : ∀ id id', h.get id ≠ none → h.get id' ≠ none → id ≠ id' → g.blk id ≠ g.blk id'
  bnd : ∀ id, g.ok id → id < h.objs.length

/-- More is known. -/
structure Gh.le (g g' : Gh) : Prop where
  G : ∀ b l, g.G b = some l → g'.G b = some l
  ok : ∀ id, g.ok id → g'.ok id ∧ g'.blk id = g.blk id ∧ g'.off id = g.off id ∧ g'.sz id = g.sz id ∧ g'.room id = g.room id
  cst : g'.cst = g.cst

structure ExtW (g : Gh) (h : Heap) (w : World) (g' : Gh) (h' : Heap) (w' : World) : Prop where
  le : g.le g'
  fresh : ∀ id, h'.get id ≠ none → h.get id ≠ none ∨ (¬ g.ok id ∧ (w.heap.size ≤ g'.blk id ∨ ∃ j, h.get j ≠ none ∧ g'.blk id = g.blk j))
  size : w.heap.size ≤ w'.heap.size
  os : w'.os = w.os
  output : w'.output = w.output
  tape : w'.tape = w.tape
  frame : ∀ b, b < w.heap.size → (∀ id, h.get id ≠ none → g.blk id ≠ b) → w'.heap[b]? = w.heap[b]?
  log : ∀ s, s ∈ h.wr → s ∈ h'.wr
  same : ∀ id, id < h.objs.length → id ∉ h'.wr → h'.get id = h.get id
  len : h.objs.length ≤ h'.objs.length
  newG : ∀ b l, g'.G b = some l → g.G b = some l ∨ w.heap.size ≤ b ∨ ∃ j, h.get j ≠ none ∧ g.blk j = b

/-- The same; and what is known of anew lies behind all that there was. -/
structure Ext (g : Gh) (h : Heap) (w : World) (g' : Gh) (h' : Heap) (w' : World) : Prop extends ExtW g h w g' h' w' where
  nok : ∀ id, g'.ok id → g.ok id ∨ h.objs.length ≤ id

theorem Gh.le.refl (g : Gh) : g.le g := ⟨fun _ _ h => h, fun _ h => ⟨h, rfl, rfl, rfl, rfl⟩, rfl⟩
theorem Gh.le.trans {a b c : Gh} (h : a.le b) (k : b.le c) : a.le c :=
  ⟨fun x l hx => k.G x l (h.G x l hx), fun id hi => by
    obtain ⟨h1, h2, h3, h4, h5⟩ := h.ok id hi
    obtain ⟨k1, k2, k3, k4, k5⟩ := k.ok id h1
    exact ⟨k1, k2.trans h2, k3.trans h3, k4.trans h4, k5.trans h5⟩, k.cst.trans h.cst⟩
theorem Gh.le.shut {g g' : Gh} (h : g.le g') (n : Nat) : (g.shut n).le (g'.shut n) :=
  ⟨h.G, fun id hi => by
    obtain ⟨h1, h2⟩ := h.ok id hi.1
    exact ⟨⟨h1, hi.2⟩, h2⟩, h.cst⟩
theorem Gh.shut_le (g : Gh) (n : Nat) : (g.shut n).le g := ⟨fun _ _ h => h, fun _ h => ⟨h.1, rfl, rfl, rfl, rfl⟩, rfl⟩

theorem Gh.addr_eq {g g' : Gh} {id : Nat} (h : g'.blk id = g.blk id ∧ g'.off id = g.off id ∧ g'.sz id = g.sz id ∧ g'.room id = g.room id) (i k : Nat) : g'.addr id i k = g.addr id i k := by
  simp [Gh.addr, h.1, h.2.1, h.2.2.1]

mutual
theorem RepV.le : ∀ (a : AV) {g g' : Gh} {v : Value}, RepV a g v → g.le g' → RepV a g' v
  | .any, _, _, _, _, _ => by simp [RepV]
  | .sc _, _, _, _, h, _ => by simpa [RepV] using h
  | .int _ _, _, _, _, h, _ => by simpa [RepV] using h
  | .bool _, _, _, _, h, _ => by simpa [RepV] using h
  | .str _, _, _, _, h, _ => by simpa [RepV] using h
  | .agg cs, _, _, _, h, hl => by
    simp only [RepV] at h ⊢
    obtain ⟨vs, e, hc⟩ := h
    exact ⟨vs, e, RepC.le cs hc hl⟩
  | .tup cs, _, _, _, h, hl => by
    simp only [RepV] at h ⊢
    obtain ⟨vs, e, hc⟩ := h
    exact ⟨vs, e, RepL.le cs hc hl⟩
  | .ptr id i k, _, _, _, h, hl => by
    simp only [RepV] at h ⊢
    have := hl.ok id h.1
    exact ⟨this.1, by rw [h.2, Gh.addr_eq this.2]⟩
  | .ref id, _, _, _, h, hl => by
    simp only [RepV] at h ⊢
    have := hl.ok id h.1
    exact ⟨this.1, by rw [h.2, this.2.1]⟩
  | .sl id i n, _, _, _, h, hl => by
    simp only [RepV] at h ⊢
    obtain ⟨h1, cap, h2, h3, h4⟩ := h
    have := hl.ok id h1
    exact ⟨this.1, cap, by rw [h2, Gh.addr_eq this.2], h3, by rw [this.2.2.2.1, this.2.2.2.2]; exact h4⟩
  | .isl es clip, _, _, _, h, hl => by
    simp only [RepV] at h ⊢
    rcases h with h | ⟨b, o, cap, sz, l, h1, h2, h3, h4, h5⟩
    · exact .inl h
    · exact .inr ⟨b, o, cap, sz, l, h1, h2, h3, fun hn => hl.G b l (h4 hn), RepE.le es h5 (hl.shut 0)⟩
  | .ipt cs, _, _, _, h, hl => by
    simp only [RepV] at h ⊢
    obtain ⟨b, o, l, h1, h2, h3⟩ := h
    exact ⟨b, o, l, h1, hl.G b l h2, RepP.le cs h3 (hl.shut 0)⟩
  | .fn f a c, _, _, _, h, hl => by
    simp only [RepV] at h ⊢
    obtain ⟨f', a', c', h1, h0, h2, h3⟩ := h
    exact ⟨f', a', c', h1, h0.le (fun id hi => ⟨(hl.ok id hi).1, (hl.ok id hi).2.1⟩), RepL.le a h2 hl, RepL.le c h3 hl⟩
  | .ifc t x, _, _, _, h, hl => by
    simp only [RepV] at h ⊢
    obtain ⟨y, h1, h2⟩ := h
    exact ⟨y, h1, RepV.le x h2 hl⟩
theorem RepL.le : ∀ (cs : List AV) {g g' : Gh} {l : List Value}, RepL cs g l → g.le g' → RepL cs g' l
  | [], _, _, _, h, _ => by simpa [RepL] using h
  | a :: r, _, _, _, h, hl => by
    simp only [RepL] at h ⊢
    obtain ⟨v, l', e, h1, h2⟩ := h
    exact ⟨v, l', e, RepV.le a h1 hl, RepL.le r h2 hl⟩
theorem RepC.le : ∀ (cs : List AV) {g g' : Gh} {l : List Value}, RepC cs g l → g.le g' → RepC cs g' l
  | [], _, _, _, h, _ => by simpa [RepC] using h
  | a :: r, _, _, _, h, hl => by
    simp only [RepC] at h ⊢
    obtain ⟨v, l', e, h1, h2⟩ := h
    exact ⟨v, l', e, ⟨RepV.le a h1.1 hl, h1.2⟩, RepC.le r h2 hl⟩
theorem RepP.le : ∀ (cs : List AV) {g g' : Gh} {l : List Value}, RepP cs g l → g.le g' → RepP cs g' l
  | [], _, _, _, _, _ => by simp [RepP]
  | a :: r, _, _, _, h, hl => by
    simp only [RepP] at h ⊢
    obtain ⟨v, l', e, h1, h2⟩ := h
    exact ⟨v, l', e, ⟨RepV.le a h1.1 hl, h1.2⟩, RepP.le r h2 hl⟩
theorem RepE.le : ∀ (es : List (List AV)) {g g' : Gh} {sz : Nat} {l : List Value}, RepE es g sz l → g.le g' → RepE es g' sz l
  | [], _, _, _, _, _, _ => by simp [RepE]
  | e :: r, _, _, _, _, h, hl => by
    simp only [RepE] at h ⊢
    exact ⟨h.1, RepP.le e h.2.1 hl, RepE.le r h.2.2 hl⟩
end

theorem RepT.le {g g' : Gh} {tm : List (Nat × AV)} {tmps : Array Value} (h : RepT g tm tmps) (hl : g.le g') : RepT g' tm tmps := fun t v ht => (h t v ht).le _ hl

theorem RepPairs.le : ∀ {es : List (AV × AV)} {g g' : Gh} {l : List MapEntry}, RepPairs g es l → g.le g' → RepPairs g' es l
  | [], _, _, _, h, _ => by simpa [RepPairs] using h
  | (k, v) :: r, _, _, _, h, hl => by
    simp only [RepPairs] at h ⊢
    obtain ⟨e, l', e', h1, h2, h3⟩ := h
    exact ⟨e, l', e', h1.le _ hl, h2.le _ hl, h3.le hl⟩

theorem FnRep.shut {g : Gh} {n : Nat} : ∀ {f f' : Fn}, FnRep g f f' → fnBel n f = true → FnRep (g.shut n) f f' := by
  intro f f' hf hb
  cases f with
  | yield l =>
    simp only [FnRep] at hf ⊢
    simp only [fnBel, Nat.blt_eq] at hb
    exact ⟨⟨hf.1, hb⟩, hf.2⟩
  | _ => exact hf

mutual
theorem RepV.shut : ∀ (a : AV) {g : Gh} {v : Value} {n : Nat}, RepV a g v → a.bel n = true → RepV a (g.shut n) v
  | .any, _, _, _, _, _ => by simp [RepV]
  | .sc _, _, _, _, h, _ => by simpa [RepV] using h
  | .int _ _, _, _, _, h, _ => by simpa [RepV] using h
  | .bool _, _, _, _, h, _ => by simpa [RepV] using h
  | .str _, _, _, _, h, _ => by simpa [RepV] using h
  | .agg cs, _, _, _, h, hb => by
    simp only [RepV] at h ⊢
    simp only [AV.bel] at hb
    obtain ⟨vs, e, hc⟩ := h
    exact ⟨vs, e, RepC.shut cs hc hb⟩
  | .tup cs, _, _, _, h, hb => by
    simp only [RepV] at h ⊢
    simp only [AV.bel] at hb
    obtain ⟨vs, e, hc⟩ := h
    exact ⟨vs, e, RepL.shut cs hc hb⟩
  | .ptr id i k, _, _, _, h, hb => by
    simp only [RepV] at h ⊢
    simp only [AV.bel, Nat.blt_eq] at hb
    exact ⟨⟨h.1, hb⟩, h.2⟩
  | .ref id, _, _, _, h, hb => by
    simp only [RepV] at h ⊢
    simp only [AV.bel, Nat.blt_eq] at hb
    exact ⟨⟨h.1, hb⟩, h.2⟩
  | .sl id i n, _, _, _, h, hb => by
    simp only [RepV] at h ⊢
    simp only [AV.bel, Nat.blt_eq] at hb
    exact ⟨⟨h.1, hb⟩, h.2⟩
  | .isl es clip, g, _, n, h, _ => by
    simp only [RepV] at h ⊢
    rcases h with h | ⟨b, o, cap, sz, l, h1, h2, h3, h4, h5⟩
    · exact .inl h
    · exact .inr ⟨b, o, cap, sz, l, h1, h2, h3, h4, h5.le _ ⟨fun _ _ h => h, fun _ hi => absurd hi.2 (Nat.not_lt_zero _), rfl⟩⟩
  | .ipt cs, g, _, n, h, _ => by
    simp only [RepV] at h ⊢
    obtain ⟨b, o, l, h1, h2, h3⟩ := h
    exact ⟨b, o, l, h1, h2, h3.le _ ⟨fun _ _ h => h, fun _ hi => absurd hi.2 (Nat.not_lt_zero _), rfl⟩⟩
  | .fn f a c, _, _, _, h, hb => by
    simp only [RepV] at h ⊢
    simp only [AV.bel, Bool.and_eq_true] at hb
    obtain ⟨f', a', c', h1, h0, h2, h3⟩ := h
    exact ⟨f', a', c', h1, h0.shut hb.1, RepL.shut a h2 hb.2.1, RepL.shut c h3 hb.2.2⟩
  | .ifc t x, _, _, _, h, hb => by
    simp only [RepV] at h ⊢
    simp only [AV.bel] at hb
    obtain ⟨y, h1, h2⟩ := h
    exact ⟨y, h1, RepV.shut x h2 hb⟩
theorem RepL.shut : ∀ (cs : List AV) {g : Gh} {l : List Value} {n : Nat}, RepL cs g l → belL n cs = true → RepL cs (g.shut n) l
  | [], _, _, _, h, _ => by simpa [RepL] using h
  | a :: r, _, _, _, h, hb => by
    simp only [RepL] at h ⊢
    simp only [belL, Bool.and_eq_true] at hb
    obtain ⟨v, l', e, h1, h2⟩ := h
    exact ⟨v, l', e, RepV.shut a h1 hb.1, RepL.shut r h2 hb.2⟩
theorem RepC.shut : ∀ (cs : List AV) {g : Gh} {l : List Value} {n : Nat}, RepC cs g l → belL n cs = true → RepC cs (g.shut n) l
  | [], _, _, _, h, _ => by simpa [RepC] using h
  | a :: r, _, _, _, h, hb => by
    simp only [RepC] at h ⊢
    simp only [belL, Bool.and_eq_true] at hb
    obtain ⟨v, l', e, h1, h2⟩ := h
    exact ⟨v, l', e, ⟨RepV.shut a h1.1 hb.1, h1.2⟩, RepC.shut r h2 hb.2⟩
theorem RepP.shut : ∀ (cs : List AV) {g : Gh} {l : List Value} {n : Nat}, RepP cs g l → belL n cs = true → RepP cs (g.shut n) l
  | [], _, _, _, _, _ => by simp [RepP]
  | a :: r, _, _, _, h, hb => by
    simp only [RepP] at h ⊢
    simp only [belL, Bool.and_eq_true] at hb
    obtain ⟨v, l', e, h1, h2⟩ := h
    exact ⟨v, l', e, ⟨RepV.shut a h1.1 hb.1, h1.2⟩, RepP.shut r h2 hb.2⟩
theorem RepE.shut : ∀ (es : List (List AV)) {g : Gh} {sz : Nat} {l : List Value} {n : Nat}, RepE es g sz l → belE n es = true → RepE es (g.shut n) sz l
  | [], _, _, _, _, _, _ => by simp [RepE]
  | e :: r, _, _, _, _, h, hb => by
    simp only [RepE] at h ⊢
    simp only [belE, Bool.and_eq_true] at hb
    exact ⟨h.1, RepP.shut e h.2.1 hb.1, RepE.shut r h.2.2 hb.2⟩
end

/-! Lists of cells and of rows -/

theorem RepC.length : ∀ {cs : List AV} {g : Gh} {l : List Value}, RepC cs g l → l.length = cs.length
  | [], _, _, h => by simp only [RepC] at h; simp [h]
  | a :: r, _, _, h => by
    simp only [RepC] at h
    obtain ⟨v, l', rfl, _, h2⟩ := h
    simp [h2.length]
theorem RepL.length : ∀ {cs : List AV} {g : Gh} {l : List Value}, RepL cs g l → l.length = cs.length
  | [], _, _, h => by simp only [RepL] at h; simp [h]
  | a :: r, _, _, h => by
    simp only [RepL] at h
    obtain ⟨v, l', rfl, _, h2⟩ := h
    simp [h2.length]
theorem RepP.length : ∀ {cs : List AV} {g : Gh} {l : List Value}, RepP cs g l → cs.length ≤ l.length
  | [], _, _, _ => by simp
  | a :: r, _, _, h => by
    simp only [RepP] at h
    obtain ⟨v, l', rfl, _, h2⟩ := h
    have := h2.length
    simp; omega
theorem RepC.one : ∀ {cs : List AV} {g : Gh} {l : List Value}, RepC cs g l → ∀ v ∈ l, v.oneCell' = true
  | [], _, _, h => by simp only [RepC] at h; simp [h]
  | a :: r, _, _, h => by
    simp only [RepC] at h
    obtain ⟨v, l', rfl, h1, h2⟩ := h
    intro u hu
    rcases List.mem_cons.1 hu with rfl | hu
    · exact h1.2
    · exact h2.one u hu
/-- cells at the head of others are these, so many of them -/
theorem RepP.toC : ∀ {cs : List AV} {g : Gh} {l : List Value}, RepP cs g l → RepC cs g (l.take cs.length)
  | [], _, _, _ => by simp [RepC]
  | a :: r, _, _, h => by
    simp only [RepP] at h
    obtain ⟨v, l', rfl, h1, h2⟩ := h
    simp only [RepC, List.length_cons, List.take_succ_cons]
    exact ⟨v, _, rfl, h1, h2.toC⟩
theorem RepC.toP : ∀ {cs : List AV} {g : Gh} {l : List Value} (m : List Value), RepC cs g l → RepP cs g (l ++ m)
  | [], _, _, _, _ => by simp [RepP]
  | a :: r, _, _, m, h => by
    simp only [RepC] at h
    obtain ⟨v, l', rfl, h1, h2⟩ := h
    simp only [RepP, List.cons_append]
    exact ⟨v, _, rfl, h1, h2.toP m⟩
theorem RepP.append : ∀ {cs ds : List AV} {g : Gh} {l : List Value}, RepP cs g l → RepP ds g (l.drop cs.length) → RepP (cs ++ ds) g l
  | [], _, _, _, _, k => by simpa using k
  | a :: r, _, _, _, h, k => by
    simp only [RepP] at h
    obtain ⟨v, l', rfl, h1, h2⟩ := h
    simp only [RepP, List.cons_append]
    exact ⟨v, l', rfl, h1, h2.append (by simpa using k)⟩
theorem RepP.drop : ∀ {cs : List AV} {g : Gh} {l : List Value} (n : Nat), RepP cs g l → RepP (cs.drop n) g (l.drop n)
  | _, _, _, 0, h => by simpa using h
  | [], _, _, n + 1, _ => by simp [RepP]
  | a :: r, _, _, n + 1, h => by
    simp only [RepP] at h
    obtain ⟨v, l', rfl, h1, h2⟩ := h
    simpa using h2.drop n
theorem RepP.take : ∀ {cs : List AV} {g : Gh} {l : List Value} (n : Nat), RepP cs g l → RepP (cs.take n) g l
  | _, _, _, 0, _ => by simp [RepP]
  | [], _, _, n + 1, _ => by simp [RepP]
  | a :: r, _, _, n + 1, h => by
    simp only [RepP] at h
    obtain ⟨v, l', rfl, h1, h2⟩ := h
    simp only [List.take_succ_cons, RepP]
    exact ⟨v, l', rfl, h1, h2.take n⟩
/-- as long as the cells themselves are the same -/
theorem RepP.congr {cs : List AV} {g : Gh} {l m : List Value} (h : RepP cs g l) (e : l.take cs.length = m.take cs.length) (_ : True := trivial) : RepP cs g m := by
  have h1 := h.toC
  rw [e] at h1
  have := h1.toP (m.drop cs.length)
  rwa [List.take_append_drop] at this
theorem RepC.append : ∀ {cs ds : List AV} {g : Gh} {l m : List Value}, RepC cs g l → RepC ds g m → RepC (cs ++ ds) g (l ++ m)
  | [], _, _, _, _, h, k => by simp only [RepC] at h; simpa [h] using k
  | a :: r, _, _, _, _, h, k => by
    simp only [RepC] at h
    obtain ⟨v, l', rfl, h1, h2⟩ := h
    simp only [RepC, List.cons_append]
    exact ⟨v, _, rfl, h1, h2.append k⟩
theorem RepC.take : ∀ {cs : List AV} {g : Gh} {l : List Value} (n : Nat), RepC cs g l → RepC (cs.take n) g (l.take n)
  | _, _, _, 0, _ => by simp [RepC]
  | [], _, _, n + 1, h => by simp only [RepC] at h; simp [RepC, h]
  | a :: r, _, _, n + 1, h => by
    simp only [RepC] at h
    obtain ⟨v, l', rfl, h1, h2⟩ := h
    simp only [List.take_succ_cons, RepC]
    exact ⟨v, _, rfl, h1, h2.take n⟩
theorem RepC.drop : ∀ {cs : List AV} {g : Gh} {l : List Value} (n : Nat), RepC cs g l → RepC (cs.drop n) g (l.drop n)
  | _, _, _, 0, h => by simpa using h
  | [], _, _, n + 1, h => by simp only [RepC] at h; simp [RepC, h]
  | a :: r, _, _, n + 1, h => by
    simp only [RepC] at h
    obtain ⟨v, l', rfl, h1, h2⟩ := h
    simpa using h2.drop n
theorem RepC.get : ∀ {cs : List AV} {g : Gh} {l : List Value} {n : Nat} {a : AV}, RepC cs g l → cs[n]? = some a → ∃ v, l[n]? = some v ∧ RepV a g v ∧ v.oneCell' = true
  | [], _, _, _, _, _, h => by simp at h
  | a :: r, _, _, 0, b, h, e => by
    simp only [RepC] at h
    obtain ⟨v, l', rfl, h1, h2⟩ := h
    simp at e
    subst e
    exact ⟨v, by simp, h1⟩
  | a :: r, _, _, n + 1, b, h, e => by
    simp only [RepC] at h
    obtain ⟨v, l', rfl, h1, h2⟩ := h
    simpa using h2.get (by simpa using e)
theorem RepL.get : ∀ {cs : List AV} {g : Gh} {l : List Value} {n : Nat} {a : AV}, RepL cs g l → cs[n]? = some a → ∃ v, l[n]? = some v ∧ RepV a g v
  | [], _, _, _, _, _, h => by simp at h
  | a :: r, _, _, 0, b, h, e => by
    simp only [RepL] at h
    obtain ⟨v, l', rfl, h1, h2⟩ := h
    simp at e
    subst e
    exact ⟨v, by simp, h1⟩
  | a :: r, _, _, n + 1, b, h, e => by
    simp only [RepL] at h
    obtain ⟨v, l', rfl, h1, h2⟩ := h
    simpa using h2.get (by simpa using e)
theorem RepL.append : ∀ {cs ds : List AV} {g : Gh} {l m : List Value}, RepL cs g l → RepL ds g m → RepL (cs ++ ds) g (l ++ m)
  | [], _, _, _, _, h, k => by simp only [RepL] at h; simpa [h] using k
  | a :: r, _, _, _, _, h, k => by
    simp only [RepL] at h
    obtain ⟨v, l', rfl, h1, h2⟩ := h
    simp only [RepL, List.cons_append]
    exact ⟨v, _, rfl, h1, h2.append k⟩

/-- rows: of each one its cells -/
theorem RepE.get : ∀ {es : List (List AV)} {g : Gh} {sz : Nat} {l : List Value} {i : Nat} {e : List AV}, RepE es g sz l → es[i]? = some e → e.length = sz ∧ RepP e g (l.drop (i * sz))
  | [], _, _, _, _, _, _, h => by simp at h
  | x :: r, _, sz, _, 0, e, h, he => by
    simp only [RepE] at h
    simp at he
    subst he
    simpa using ⟨h.1, h.2.1⟩
  | x :: r, _, sz, l, i + 1, e, h, he => by
    simp only [RepE] at h
    have := h.2.2.get (i := i) (e := e) (by simpa using he)
    rw [List.drop_drop] at this
    rw [show (i + 1) * sz = sz + i * sz by rw [Nat.succ_mul, Nat.add_comm]]
    exact this
theorem RepE.drop : ∀ {es : List (List AV)} {g : Gh} {sz : Nat} {l : List Value} (n : Nat), RepE es g sz l → RepE (es.drop n) g sz (l.drop (n * sz))
  | _, _, _, _, 0, h => by simpa using h
  | [], _, _, _, n + 1, _ => by simp [RepE]
  | x :: r, _, sz, l, n + 1, h => by
    simp only [RepE] at h
    have := h.2.2.drop n
    rw [List.drop_drop] at this
    rw [show (n + 1) * sz = sz + n * sz by rw [Nat.succ_mul, Nat.add_comm]]
    simpa using this
theorem RepE.take : ∀ {es : List (List AV)} {g : Gh} {sz : Nat} {l : List Value} (n : Nat), RepE es g sz l → RepE (es.take n) g sz l
  | _, _, _, _, 0, _ => by simp [RepE]
  | [], _, _, _, n + 1, _ => by simp [RepE]
  | x :: r, _, sz, l, n + 1, h => by
    simp only [RepE] at h
    simp only [List.take_succ_cons, RepE]
    exact ⟨h.1, h.2.1, h.2.2.take n⟩
theorem RepE.length : ∀ {es : List (List AV)} {g : Gh} {sz : Nat} {l : List Value}, RepE es g sz l → es.length * sz ≤ l.length
  | [], _, _, _, _ => by simp
  | x :: r, _, sz, l, h => by
    simp only [RepE] at h
    have h1 := h.2.1.length
    have h2 := h.2.2.length
    rw [List.length_drop] at h2
    rw [List.length_cons, Nat.succ_mul]
    omega
theorem RepE.append : ∀ {es fs : List (List AV)} {g : Gh} {sz : Nat} {l : List Value}, RepE es g sz l → RepE fs g sz (l.drop (es.length * sz)) → RepE (es ++ fs) g sz l
  | [], _, _, _, _, _, k => by simpa using k
  | x :: r, _, _, sz, l, h, k => by
    simp only [RepE] at h
    simp only [List.cons_append, RepE]
    refine ⟨h.1, h.2.1, h.2.2.append ?_⟩
    rw [List.drop_drop]
    rw [List.length_cons, Nat.succ_mul, Nat.add_comm] at k
    exact k
theorem RepE.flatten : ∀ {es : List (List AV)} {g : Gh} {sz : Nat} {l : List Value}, RepE es g sz l → RepP es.flatten g l
  | [], _, _, _, _ => by simp [RepP]
  | x :: r, _, sz, l, h => by
    simp only [RepE] at h
    simp only [List.flatten_cons]
    exact h.2.1.append (by rw [h.1]; exact h.2.2.flatten)
theorem RepE.congr : ∀ {es : List (List AV)} {g : Gh} {sz : Nat} {l m : List Value}, RepE es g sz l → l.take (es.length * sz) = m.take (es.length * sz) → RepE es g sz m
  | [], _, _, _, _, _, _ => by simp [RepE]
  | x :: r, _, sz, l, m, h, e => by
    simp only [RepE] at h ⊢
    rw [List.length_cons, Nat.succ_mul] at e
    refine ⟨h.1, h.2.1.congr ?_, h.2.2.congr ?_⟩
    · rw [h.1]
      have := congrArg (List.take sz) e
      rwa [List.take_take, List.take_take, Nat.min_eq_left (by omega)] at this
    · have := congrArg (List.drop sz) e
      rw [List.drop_take, List.drop_take] at this
      simpa using this
/-- rows out of cells -/
theorem RepC.toE : ∀ (n sz : Nat) {cs : List AV} {g : Gh} {l : List Value} (m : List Value), RepC cs g l → cs.length = n * sz → RepE (chunk sz n cs) g sz (l ++ m)
  | 0, _, _, _, _, _, _, _ => by simp [chunk, RepE]
  | n + 1, sz, cs, g, l, m, h, hn => by
    rw [Nat.succ_mul] at hn
    have hl := h.length
    simp only [chunk, RepE]
    refine ⟨by rw [List.length_take]; omega, ?_, ?_⟩
    · have := (h.take sz).toP (l.drop sz ++ m)
      rwa [← List.append_assoc, List.take_append_drop] at this
    · rw [List.drop_append_of_le_length (by omega)]
      exact RepC.toE n sz m (h.drop sz) (by rw [List.length_drop]; omega)

end Go.Ax
/-! Memory's primitives at abstract heaps. -/
namespace Go.Ax

def TyOk (P : Program) (t : TypeId) (i : TI) : Prop :=
  ∃ info, P.info? t = some info ∧ P.underlying t = some i.desc ∧ info.size = i.size ∧ info.bytes = i.bytes ∧ info.zero = some i.zero ∧
    i.zero.cells.size = i.size ∧ (∀ c ∈ i.zero.cells.toList, c.oneCell' = true)

def FlatOk (P : Program) : Nat → List Field → List TypeDesc → Prop
  | _, [], [] => True
  | n, f :: r, d :: ds => f.offset = n ∧ f.name ≠ "_" ∧ isOneD d = true ∧ P.underlying f.type = some d ∧ FlatOk P (n + 1) r ds
  | _, _, _ => False

def KeyTOk (P : Program) (t : TypeId) : KT → Prop
  | .one d => P.underlying t = some d ∧ isOneD d = true
  | .flat ds => ∃ fields, P.underlying t = some (.struct fields) ∧ P.stoodInHeld t = false ∧ FlatOk P 0 fields.toList ds

structure EnvOk (E : Env) : Prop where
  ty : ∀ t i, E.ty.find t = some i → TyOk E.P t i
  casts : ∀ t k u, (t, k, u) ∈ E.casts → rowAt E.P (sameLayout E.P E.P.depth · u) E.P.depth t 1 k 1 = true
  keyts : ∀ t kt, E.keyts.find t = some kt → KeyTOk E.P t kt

theorem oneV_eq (v : Value) : oneV v = v.oneCell' := by cases v <;> rfl

theorem run_und {P : Program} {t : TypeId} {i : TI} (h : TyOk P t i) (w : World) : (underlying t).run P w = .ok i.desc w := by
  obtain ⟨info, _, h2, _⟩ := h
  exact run_underlying h2 w
theorem run_info {P : Program} {t : TypeId} {info : TypeInfo} (h : P.info? t = some info) (w : World) : (typeInfo t).run P w = .ok info w := by
  simp [typeInfo, h]
theorem run_size {P : Program} {t : TypeId} {i : TI} (h : TyOk P t i) (w : World) : (sizeOf t).run P w = .ok i.size w := by
  obtain ⟨info, h1, _, h3, _⟩ := h
  simp [sizeOf, run_info h1, h3]
theorem run_zero {P : Program} {t : TypeId} {i : TI} (h : TyOk P t i) (w : World) : (zeroValue t).run P w = .ok i.zero w := by
  obtain ⟨info, h1, _, _, _, h5, _⟩ := h
  simp [zeroValue, run_info h1, h5]
theorem run_agg {P : Program} {t : TypeId} {i : TI} (h : TyOk P t i) (w : World) : (isAgg t).run P w = .ok (isAggD i.desc) w := by
  simp only [isAgg, Sem.run_bind, run_und h, Result.andThen_ok]
  cases i.desc <;> rfl

mutual
theorem repV_abs : ∀ (v : Value) (g : Gh), RepV (absV v) g v
  | .int _ _, _ => by simp [absV, RepV]
  | .bool _, _ => by simp [absV, RepV]
  | .string s, _ => by simp [absV, RepV]
  | .slice a n m, g => by
    simp only [absV]
    unfold absSl
    split <;> simp [RepV]
  | .agg cs, g => by
    simp only [absV]
    cases h : cs.toList.all oneV with
    | false => simp [RepV]
    | true =>
      simp only [cond_true, RepV]
      exact ⟨cs.toList, by simp, repC_abs cs.toList g (fun v hv => List.all_eq_true.1 h v hv)⟩
  | .tuple cs, g => by
    simp only [absV, RepV]
    exact ⟨cs.toList, by simp, repL_abs cs.toList g⟩
  | .float _ _, _ => by simp [absV, RepV]
  | .complex _ _ _, _ => by simp [absV, RepV]
  | .pointer _, _ => by simp [absV, RepV]
  | .map _, _ => by simp [absV, RepV]
  | .chan _, _ => by simp [absV, RepV]
  | .func _ _ _, _ => by simp [absV, RepV]
  | .nilFunc, _ => by simp [absV, RepV]
  | .iface _ _, _ => by simp [absV, RepV]
  | .nilIface, _ => by simp [absV, RepV]
theorem repC_abs : ∀ (l : List Value) (g : Gh), (∀ v ∈ l, oneV v = true) → RepC (absL l) g l
  | [], _, _ => by simp [absL, RepC]
  | v :: r, g, h => by
    simp only [absL, RepC]
    exact ⟨v, r, rfl, ⟨repV_abs v g, by rw [← oneV_eq]; exact h v (by simp)⟩, repC_abs r g (fun u hu => h u (by simp [hu]))⟩
theorem repL_abs : ∀ (l : List Value) (g : Gh), RepL (absL l) g l
  | [], _ => by simp [absL, RepL]
  | v :: r, g => by
    simp only [absL, RepL]
    exact ⟨v, r, rfl, repV_abs v g, repL_abs r g⟩
end

/-! ### Heaps -/

theorem getO_eq {α : Type} : ∀ (l : List (Option α)) (n : Nat), getO l n = (l[n]?).join
  | [], n => by simp [getO]
  | o :: r, 0 => by simp [getO]
  | o :: r, n + 1 => by simp [getO, getO_eq r n]
theorem getO_set {α : Type} (l : List (Option α)) (i j : Nat) (o : Option α) : getO (l.set i o) j = if i = j ∧ i < l.length then o else getO l j := by
  rw [getO_eq, getO_eq, List.getElem?_set]
  by_cases h : i = j
  · subst h
    by_cases h2 : i < l.length
    · simp [h2]
    · simp [h2]
  · simp [h]
theorem getO_append {α : Type} (l : List (Option α)) (o : α) (j : Nat) : getO (l ++ [some o]) j = if j = l.length then some o else getO l j := by
  rw [getO_eq, getO_eq]
  by_cases h : j = l.length
  · subst h; simp
  · rw [if_neg h]
    rcases Nat.lt_or_ge j l.length with h2 | h2
    · rw [List.getElem?_append_left h2]
    · rw [List.getElem?_eq_none (by simp; omega), List.getElem?_eq_none (by omega)]
theorem getO_lt {α : Type} {l : List (Option α)} {n : Nat} {o : α} (h : getO l n = some o) : n < l.length := by
  rw [getO_eq] at h
  rcases Nat.lt_or_ge n l.length with h2 | h2
  · exact h2
  · rw [List.getElem?_eq_none h2] at h; simp at h
theorem mem_addN {x n : Nat} {l : List Nat} : x ∈ addN n l ↔ x = n ∨ x ∈ l := by
  have hm : ∀ l : List Nat, memN n l = true ↔ n ∈ l := by
    intro l
    induction l with
    | nil => simp [memN]
    | cons a r ih =>
      simp only [memN]
      cases h : Nat.beq a n with
      | true => have := Nat.eq_of_beq_eq_true h; simp [this]
      | false =>
        have := Nat.ne_of_beq_eq_false h
        simp only [cond_false, ih, List.mem_cons]
        exact ⟨.inr, fun h => h.resolve_left (fun e => this e.symm)⟩
  unfold addN
  cases h : memN n l with
  | true =>
    simp only [cond_true]
    exact ⟨.inr, fun h' => h'.elim (fun e => e ▸ (hm l).1 h) id⟩
  | false => simp

theorem Heap.get_set (h : Heap) (i j : Nat) (o : Option AObj) : (h.set i o).get j = if i = j ∧ i < h.objs.length then o else h.get j := getO_set _ _ _ _
theorem Heap.set_len (h : Heap) (i : Nat) (o : Option AObj) : (h.set i o).objs.length = h.objs.length := by simp [Heap.set]
theorem Heap.get_lt {h : Heap} {id : Nat} {o : AObj} (e : h.get id = some o) : id < h.objs.length := getO_lt e
theorem Heap.get_lt' {h : Heap} {id : Nat} (e : h.get id ≠ none) : id < h.objs.length := by
  cases ho : h.get id with
  | none => exact absurd ho e
  | some o => exact Heap.get_lt ho

/-- A slot may be filled: none (behind all), or one that has never been. -/
def SlotOk (g : Gh) (h : Heap) (slot : Option Nat) : Prop := ∀ s, slot = some s → s < h.objs.length ∧ ¬ g.ok s ∧ h.get s = none ∧ False

def slotId (h : Heap) : Option Nat → Nat
  | none => h.objs.length
  | some s => s

theorem Heap.new_id (h : Heap) (slot : Option Nat) (o : AObj) : (h.new slot o).1 = slotId h slot := by cases slot <;> rfl
theorem Heap.new_get (h : Heap) {slot : Option Nat} (o : AObj) (hs : ∀ s, slot = some s → s < h.objs.length) (j : Nat) :
    (h.new slot o).2.get j = if j = slotId h slot then some o else h.get j := by
  cases slot with
  | none => exact getO_append _ _ _
  | some s =>
    show (h.set s (some o)).get j = _
    rw [Heap.get_set]
    have := hs s rfl
    simp only [slotId]
    by_cases e : s = j
    · subst e; simp [this]
    · have e' : ¬ j = s := fun x => e x.symm
      simp [e, e']
theorem Heap.new_len (h : Heap) (slot : Option Nat) (o : AObj) : h.objs.length ≤ (h.new slot o).2.objs.length := by
  cases slot with
  | none => simp [Heap.new]
  | some s => show h.objs.length ≤ (h.set s (some o)).objs.length; rw [Heap.set_len]; exact Nat.le_refl _
theorem Heap.new_lt (h : Heap) {slot : Option Nat} (o : AObj) (hs : ∀ s, slot = some s → s < h.objs.length) : slotId h slot < (h.new slot o).2.objs.length := by
  cases slot with
  | none => simp [Heap.new, slotId]
  | some s => show s < (h.set s (some o)).objs.length; rw [Heap.set_len]; exact hs s rfl
theorem Heap.new_wr (h : Heap) (slot : Option Nat) (o : AObj) (s : Nat) : s ∈ (h.new slot o).2.wr ↔ s ∈ h.wr ∨ slot = some s := by
  cases slot with
  | none => simp [Heap.new]
  | some t =>
    show s ∈ addN t h.wr ↔ _
    rw [mem_addN]
    constructor
    · rintro (rfl | h) <;> simp_all
    · rintro (h | h)
      · exact .inr h
      · exact .inl (by cases h; rfl)

def Gh.put (g : Gh) (id b o s r : Nat) : Gh :=
  { G := g.G, ok := fun i => g.ok i ∨ i = id, blk := fun i => if i = id then b else g.blk i, off := fun i => if i = id then o else g.off i,
    sz := fun i => if i = id then s else g.sz i, room := fun i => if i = id then r else g.room i, cst := g.cst }

theorem Gh.le_put {g : Gh} {id : Nat} (h : ¬ g.ok id) (b o s r : Nat) : g.le (g.put id b o s r) :=
  ⟨fun _ _ h => h, fun i hi => by
    have : i ≠ id := fun e => h (e ▸ hi)
    simp [Gh.put, this, hi], rfl⟩

theorem RepT.keep {g g' : Gh} {tm : List (Nat × AV)} {tmps : Array Value} (h : RepT g tm tmps) (hl : g.le g') : RepT g' tm tmps := h.le hl

/-- An object stays what it is, where its block does. -/
theorem ObjOk.keep {g g' : Gh} {w w' : World} {id : Nat} {o : AObj} (h : ObjOk g w id o) (hok : g.ok id) (hl : g.le g')
    (hw : w'.heap[g.blk id]? = w.heap[g.blk id]?) (hG : g.G (g.blk id) = none → g'.G (g.blk id) = none) : ObjOk g' w' id o := by
  obtain ⟨h1, h2, h3, h4, h5⟩ := hl.ok id hok
  cases o with
  | arr t es fz =>
    cases fz with
    | false =>
      simp only [ObjOk, h2, h3, h4, h5, hl.cst] at h ⊢
      obtain ⟨a, c, lo, hi, b1, b2, b3, b3', b4⟩ := h
      exact ⟨hG a, c, lo, hi, hw.trans b1, b2, b3, b3', b4.le _ hl⟩
    | true =>
      simp only [ObjOk, h2, h3, h4] at h ⊢
      obtain ⟨l, a, b⟩ := h
      exact ⟨l, hl.G _ _ a, b.le _ (hl.shut 0)⟩
  | map es =>
    simp only [ObjOk, h2] at h ⊢
    obtain ⟨a, ents, clock, b1, b2⟩ := h
    exact ⟨hG a, ents, clock, hw.trans b1, b2.le hl⟩
  | sit rest pos =>
    simp only [ObjOk, h2, h3] at h ⊢
    obtain ⟨a, b, s, b1, b2⟩ := h
    exact ⟨hG a, b, s, hw.trans b1, b2⟩
  | loop fid tm ps assign body st pend d =>
    simp only [ObjOk, h2] at h ⊢
    obtain ⟨a, b, tmps, fn, b1, b2⟩ := h
    have hd := hl.ok d b
    refine ⟨hG a, hd.1, tmps, fn, hw.trans ?_, b2.1.le hl, b2.2⟩
    rw [hd.2.1]
    exact b1
  | dfr =>
    simp only [ObjOk, h2] at h ⊢
    exact ⟨hG h.1, hw.trans h.2⟩

theorem ObjOk.lt {g : Gh} {h : Heap} {w : World} {id : Nat} {o : AObj} (hh : HeapOk g h w) (h1 : h.get id = some o) : g.blk id < w.heap.size := by
  have h2 := (hh.obj id o h1).2
  have key : ∀ O, w.heap[g.blk id]? = some O → g.blk id < w.heap.size := fun O e => (Array.getElem?_eq_some_iff.1 e).1
  cases o with
  | arr t es fz =>
    cases fz with
    | false => obtain ⟨_, c, lo, hi, e, _⟩ := h2; exact key _ e
    | true =>
      obtain ⟨l, a, _⟩ := h2
      obtain ⟨c, t, fr, e, _⟩ := hh.gok _ _ a
      exact key _ e
  | map es => obtain ⟨_, ents, clock, e, _⟩ := h2; exact key _ e
  | sit rest pos => obtain ⟨_, _, s, e, _⟩ := h2; exact key _ e
  | loop fid tm ps assign body st pend d => obtain ⟨_, _, tmps, fn, e, _⟩ := h2; exact key _ e
  | dfr => exact key _ h2.2

theorem HeapOk.lt {g : Gh} {h : Heap} {w : World} (hh : HeapOk g h w) {id : Nat} (e : h.get id ≠ none) : g.blk id < w.heap.size := by
  cases ho : h.get id with
  | none => exact absurd ho e
  | some o => exact ObjOk.lt hh ho

theorem alloc_get (w : World) (O : Obj) (b : Nat) : (w.alloc O).heap[b]? = if b = w.heap.size then some O else w.heap[b]? := by
  simp only [World.alloc, Array.getElem?_push]

/-- A new block for a new object. -/
theorem new_ok {g : Gh} {h : Heap} {w w0 : World} {slot : Option Nat} (hh : HeapOk g h w) (hs : SlotOk g h slot) (o : AObj) (O : Obj) (s r : Nat)
    (hw : w0.heap = (w.alloc O).heap ∧ w0.os = w.os ∧ w0.output = w.output ∧ w0.tape = w.tape)
    (ho : ObjOk (g.put (slotId h slot) w.heap.size 0 s r) w0 (slotId h slot) o) :
    let g' := g.put (slotId h slot) w.heap.size 0 s r
    HeapOk g' (h.new slot o).2 w0 ∧ Ext g h w g' (h.new slot o).2 w0 := by
  obtain ⟨hw, hos, hout, htape⟩ := hw
  have hsl : ∀ s, slot = some s → s < h.objs.length := fun s e => (hs s e).1
  have hnok : ¬ g.ok (slotId h slot) := by
    cases slot with
    | none => exact fun hk => Nat.lt_irrefl _ (hh.bnd _ hk)
    | some s => exact (hs s rfl).2.1
  have hl := Gh.le_put hnok w.heap.size 0 s r
  have hbig : ∀ b l, g.G b = some l → b ≠ w.heap.size := by
    intro b l e
    obtain ⟨c, t, fr, e, _⟩ := hh.gok b l e
    have := (Array.getElem?_eq_some_iff.1 e).1
    omega
  have hold : ∀ b, b ≠ w.heap.size → w0.heap[b]? = w.heap[b]? := fun b hb => by rw [hw, alloc_get, if_neg hb]
  refine ⟨⟨?_, ?_, ?_, ?_⟩, ⟨⟨hl, ?_, ?_, hos, hout, htape, ?_, ?_, ?_, Heap.new_len _ _ _, fun b l e => .inl e⟩, ?_⟩⟩
  · intro b l e
    obtain ⟨c, t, fr, e1, e2⟩ := hh.gok b l e
    exact ⟨c, t, fr, (hold b (hbig b l e)).trans e1, e2⟩
  · intro id o' e
    rw [Heap.new_get h o hsl] at e
    by_cases hid : id = slotId h slot
    · rw [if_pos hid] at e
      injection e with e
      subst e; subst hid
      exact ⟨.inr rfl, ho⟩
    · rw [if_neg hid] at e
      have hob := hh.obj id o' e
      have hlt := ObjOk.lt hh e
      exact ⟨(hl.ok id hob.1).1, hob.2.keep hob.1 hl (hold _ (by omega)) (fun x => x)⟩
  · intro id id' h1 h2 hne
    rw [Heap.new_get h o hsl] at h1 h2
    simp only [Gh.put]
    by_cases e1 : id = slotId h slot
    · by_cases e2 : id' = slotId h slot
      · exact absurd (e1.trans e2.symm) hne
      · rw [if_neg e2] at h2
        have := hh.lt h2
        rw [if_pos e1, if_neg e2]; omega
    · rw [if_neg e1] at h1
      by_cases e2 : id' = slotId h slot
      · have := hh.lt h1
        rw [if_neg e1, if_pos e2]; omega
      · rw [if_neg e2] at h2
        rw [if_neg e1, if_neg e2]
        exact hh.inj id id' h1 h2 hne
  · rintro id (hk | rfl)
    · exact Nat.lt_of_lt_of_le (hh.bnd id hk) (Heap.new_len _ _ _)
    · exact Heap.new_lt h o hsl
  · intro id h1
    rw [Heap.new_get h o hsl] at h1
    by_cases e1 : id = slotId h slot
    · subst e1
      exact .inr ⟨hnok, .inl (by simp [Gh.put])⟩
    · rw [if_neg e1] at h1
      exact .inl h1
  · rw [hw, World.size_alloc]; omega
  · intro b hb _
    exact hold b (by omega)
  · intro s hs'
    rw [Heap.new_wr]
    exact .inl hs'
  · intro id _ h2
    rw [Heap.new_wr] at h2
    rw [Heap.new_get h o hsl]
    have : id ≠ slotId h slot := by
      intro e
      cases slot with
      | none => simp only [slotId] at e; omega
      | some t => exact h2 (.inr (by rw [e]; rfl))
    rw [if_neg this]
  · rintro id (hk | rfl)
    · exact .inl hk
    · cases slot with
      | none => exact .inr (Nat.le_refl _)
      | some s => exact (hs s rfl).2.2.2.elim

/-- An object is written. -/
theorem set_ok {g : Gh} {h : Heap} {w w0 : World} {id : Nat} {o0 o : AObj} (hh : HeapOk g h w) (hid : h.get id = some o0) (hG : g.G (g.blk id) = none)
    (hw : w0.heap.size = w.heap.size ∧ (∀ b, b ≠ g.blk id → w0.heap[b]? = w.heap[b]?) ∧ w0.os = w.os ∧ w0.output = w.output ∧ w0.tape = w.tape)
    (ho : ObjOk g w0 id o) : HeapOk g (h.set id (some o)) w0 ∧ Ext g h w g (h.set id (some o)) w0 := by
  obtain ⟨hsz, hold, hos, hout, htape⟩ := hw
  have hlt := Heap.get_lt hid
  have hget : ∀ j, (h.set id (some o)).get j = if j = id then some o else h.get j := by
    intro j
    rw [Heap.get_set]
    by_cases e : id = j
    · subst e; simp [hlt]
    · have : ¬ j = id := fun x => e x.symm
      simp [e, this]
  have hpres : ∀ j, (h.set id (some o)).get j ≠ none ↔ h.get j ≠ none := by
    intro j
    rw [hget]
    by_cases e : j = id
    · subst e; simp [hid]
    · simp [e]
  refine ⟨⟨?_, ?_, ?_, ?_⟩, ⟨⟨Gh.le.refl g, ?_, by omega, hos, hout, htape, ?_, ?_, ?_, by rw [Heap.set_len]; exact Nat.le_refl _, fun b l e => .inl e⟩, fun _ h => .inl h⟩⟩
  · intro b l e
    obtain ⟨c, t, fr, e1, e2⟩ := hh.gok b l e
    refine ⟨c, t, fr, (hold b ?_).trans e1, e2⟩
    rintro rfl
    rw [hG] at e
    cases e
  · intro j o' e
    rw [hget] at e
    by_cases hj : j = id
    · rw [if_pos hj] at e
      injection e with e
      subst e; subst hj
      exact ⟨(hh.obj j o0 hid).1, ho⟩
    · rw [if_neg hj] at e
      have hob := hh.obj j o' e
      refine ⟨hob.1, hob.2.keep hob.1 (Gh.le.refl g) (hold _ ?_) (fun x => x)⟩
      exact hh.inj j id (by rw [e]; simp) (by rw [hid]; simp) hj
  · intro a b h1 h2 hne
    exact hh.inj a b ((hpres a).1 h1) ((hpres b).1 h2) hne
  · intro j hj
    rw [Heap.set_len]
    exact hh.bnd j hj
  · intro j h1
    exact .inl ((hpres j).1 h1)
  · intro b _ hb
    exact hold b (fun e => hb id (by rw [hid]; simp) e.symm)
  · intro s hs
    exact mem_addN.2 (.inr hs)
  · intro j _ hj
    rw [hget, if_neg]
    rintro rfl
    exact hj (mem_addN.2 (.inl rfl))

theorem Ext.refl (g : Gh) (h : Heap) (w : World) : Ext g h w g h w :=
  ⟨⟨Gh.le.refl g, fun _ h => .inl h, Nat.le_refl _, rfl, rfl, rfl, fun _ _ _ => rfl, fun _ h => h, fun _ _ _ => rfl, Nat.le_refl _, fun _ _ e => .inl e⟩, fun _ h => .inl h⟩

theorem ExtW.trans {g1 g2 g3 : Gh} {h1 h2 h3 : Heap} {w1 w2 w3 : World} (hh1 : HeapOk g1 h1 w1) (hh2 : HeapOk g2 h2 w2) (a : ExtW g1 h1 w1 g2 h2 w2) (b : ExtW g2 h2 w2 g3 h3 w3) : ExtW g1 h1 w1 g3 h3 w3 where
  le := a.le.trans b.le
  fresh := by
    intro id hid
    rcases b.fresh id hid with h | ⟨h, hb⟩
    · rcases a.fresh id h with h' | ⟨h', hb'⟩
      · exact .inl h'
      · have hok := (hh2.obj id _ (Option.ne_none_iff_exists'.1 h).choose_spec).1
        exact .inr ⟨h', by rw [(b.le.ok id hok).2.1]; exact hb'⟩
    · refine .inr ⟨fun hk => h (a.le.ok id hk).1, ?_⟩
      rcases hb with hb | ⟨j, hj, hb⟩
      · exact .inl (Nat.le_trans a.size hb)
      · rcases a.fresh j hj with h' | ⟨_, h' | ⟨j', hj', h'⟩⟩
        · exact .inr ⟨j, h', hb.trans (a.le.ok j (hh1.obj j _ (Option.ne_none_iff_exists'.1 h').choose_spec).1).2.1⟩
        · exact .inl (hb ▸ h')
        · exact .inr ⟨j', hj', hb.trans h'⟩
  size := Nat.le_trans a.size b.size
  os := b.os.trans a.os
  output := b.output.trans a.output
  tape := b.tape.trans a.tape
  frame := by
    intro x hx hn
    refine (b.frame x (Nat.lt_of_lt_of_le hx a.size) ?_).trans (a.frame x hx hn)
    intro id hid e
    rcases a.fresh id hid with h | ⟨_, h | ⟨j, hj, h⟩⟩
    · exact hn id h ((a.le.ok id (hh1.obj id _ (Option.ne_none_iff_exists'.1 h).choose_spec).1).2.1.symm.trans e)
    · omega
    · exact hn j hj (h.symm.trans e)
  log := fun s hs => b.log s (a.log s hs)
  same := by
    intro id hid hn
    rw [b.same id (Nat.lt_of_lt_of_le hid a.len) hn]
    exact a.same id hid (fun h => hn (b.log id h))
  len := Nat.le_trans a.len b.len
  newG := by
    intro x l e
    rcases b.newG x l e with h | h | ⟨j, hj, h⟩
    · exact a.newG x l h
    · exact .inr (.inl (Nat.le_trans a.size h))
    · rcases a.fresh j hj with h' | ⟨_, h' | ⟨j', hj', h'⟩⟩
      · exact .inr (.inr ⟨j, h', (a.le.ok j (hh1.obj j _ (Option.ne_none_iff_exists'.1 h').choose_spec).1).2.1.symm.trans h⟩)
      · exact .inr (.inl (h ▸ h'))
      · exact .inr (.inr ⟨j', hj', h'.symm.trans h⟩)

theorem Ext.trans {g1 g2 g3 : Gh} {h1 h2 h3 : Heap} {w1 w2 w3 : World} (hh1 : HeapOk g1 h1 w1) (hh2 : HeapOk g2 h2 w2) (a : Ext g1 h1 w1 g2 h2 w2) (b : Ext g2 h2 w2 g3 h3 w3) : Ext g1 h1 w1 g3 h3 w3 :=
  ⟨a.toExtW.trans hh1 hh2 b.toExtW, fun id hi => by
    rcases b.nok id hi with h | h
    · exact a.nok id h
    · exact .inr (Nat.le_trans a.len h)⟩

end Go.Ax
/-! Loads and stores. -/
namespace Go.Ax

theorem RepP.pre : ∀ {cs : List AV} {g : Gh} {l m : List Value}, RepP cs g l → l <+: m → RepP cs g m
  | [], _, _, _, _, _ => by simp [RepP]
  | a :: r, _, _, _, h, ⟨t, e⟩ => by
    simp only [RepP] at h ⊢
    obtain ⟨v, l', rfl, h1, h2⟩ := h
    subst e
    exact ⟨v, l' ++ t, rfl, h1, h2.pre ⟨t, rfl⟩⟩

theorem drop_prefix {α : Type} {l m : List α} (n : Nat) (h : l <+: m) : l.drop n <+: m.drop n := by
  obtain ⟨t, rfl⟩ := h
  rcases Nat.lt_or_ge n l.length with h | h
  · exact ⟨t, by rw [List.drop_append_of_le_length (Nat.le_of_lt h)]⟩
  · rw [List.drop_eq_nil_of_le h]; exact List.nil_prefix

theorem cell_of {w : World} {b : Nat} {c : Array Value} {t : TypeId} {fr : Nat × Nat} (h : w.heap[b]? = some (.cells c t fr)) (o : Nat) :
    w.cell? ⟨b, o, none⟩ = c.toList[o]? := by
  simp [World.cell?, h]

theorem frozen_of {w : World} {b : Nat} {c : Array Value} {t : TypeId} {lo hi : Nat} (h : w.heap[b]? = some (.cells c t (lo, hi))) (o : Nat) :
    w.frozen? ⟨b, o, none⟩ = (decide (lo ≤ o) && decide (o < hi)) := by
  simp [World.frozen?, h]

theorem load_ok {P : Program} {t : TypeId} {i : TI} (ht : TyOk P t i) {g : Gh} {w : World} {b o : Nat} {c : Array Value} {t' : TypeId} {fr : Nat × Nat}
    (hb : w.heap[b]? = some (.cells c t' fr)) {cs : List AV} (hr : RepP cs g (c.toList.drop o)) (hn : cs.length = i.size) {v : AV} (hv : valueOf i (some cs) = some v) :
    ∃ val, (loadVar t ⟨b, o, none⟩).run P w = .ok val w ∧ RepV v g val := by
  have hC := hr.toC
  have hlen := hC.length
  have hcell : ∀ j u, ((c.toList.drop o).take cs.length)[j]? = some u → w.cell? ((⟨b, o, none⟩ : Addr).add j) = some u := by
    intro j u hu
    rw [Addr.add_lit, cell_of hb]
    rw [List.getElem?_take] at hu
    split at hu
    · rw [List.getElem?_drop] at hu; exact hu
    · cases hu
  simp only [valueOf] at hv
  simp only [loadVar, Sem.run_bind, run_agg ht, Result.andThen_ok]
  cases ha : isAggD i.desc with
  | true =>
    rw [ha] at hv
    simp only [cond_true, Option.some.injEq] at hv
    subst hv
    have := run_loadCells_list (P := P) w ⟨b, o, none⟩ _ hcell
    rw [hlen, hn] at this
    simp only [if_true, Sem.run_bind, run_size ht, Result.andThen_ok, this, Sem.run_pure]
    exact ⟨_, rfl, by rw [hn] at hC; simp only [RepV]; exact ⟨_, rfl, hC⟩⟩
  | false =>
    rw [ha] at hv
    simp only [cond_false] at hv
    cases cs with
    | nil => simp [headO] at hv
    | cons x r =>
      cases r with
      | cons _ _ => simp [headO] at hv
      | nil =>
        simp only [headO, Option.some.injEq] at hv
        subst hv
        simp only [RepP] at hr
        obtain ⟨u, l', e, h1, _⟩ := hr
        have hu : w.cell? ⟨b, o, none⟩ = some u := by
          have := hcell 0 u (by rw [e]; simp)
          simpa [Addr.add] using this
        simp only [Bool.false_eq_true, if_false, run_load, hu]
        exact ⟨u, rfl, h1.1⟩

theorem RepE.cellsAt {es : List (List AV)} {g : Gh} {sz : Nat} {l : List Value} (h : RepE es g sz l) {j k n : Nat} {cs : List AV} (e : cellsAt es j k n = some cs) :
    RepP cs g (l.drop (j * sz + k)) ∧ cs.length = n := by
  unfold Ax.cellsAt at e
  cases hj : es[j]? with
  | none => simp [hj] at e
  | some x =>
    rw [hj] at e
    simp only at e
    obtain ⟨h1, h2⟩ := h.get hj
    cases hb : Nat.ble (k + n) x.length with
    | true =>
      rw [hb] at e
      simp only [cond_true, Option.some.injEq] at e
      subst e
      have hle : k + n ≤ x.length := Nat.le_of_ble_eq_true hb
      refine ⟨?_, by rw [List.length_take, List.length_drop]; omega⟩
      have := (h2.drop k).take n
      rwa [List.drop_drop] at this
    | false =>
      rw [hb] at e
      simp only [cond_false] at e
      cases hk : Nat.beq k 0 with
      | false => simp [hk] at e
      | true =>
        rw [hk] at e
        have hk0 : k = 0 := Nat.eq_of_beq_eq_true hk
        subst hk0
        simp only [cond_true, takeN] at e
        cases hl : Nat.ble n (es.drop j).flatten.length with
        | false => rw [hl] at e; cases e
        | true =>
          rw [hl] at e
          simp only [cond_true, Option.some.injEq] at e
          subst e
          have hle := Nat.le_of_ble_eq_true hl
          exact ⟨by simpa using (h.drop j).flatten.take n, by rw [List.length_take]; omega⟩

theorem RepE.pre : ∀ {es : List (List AV)} {g : Gh} {sz : Nat} {l m : List Value}, RepE es g sz l → l <+: m → RepE es g sz m
  | [], _, _, _, _, _, _ => by simp [RepE]
  | x :: r, _, sz, l, m, h, e => by
    simp only [RepE] at h ⊢
    exact ⟨h.1, h.2.1.pre e, h.2.2.pre (drop_prefix sz e)⟩

/-- The block of an object of cells. -/
theorem arr_block {g : Gh} {h : Heap} {w : World} (hh : HeapOk g h w) {id : Nat} {t : TypeId} {es : List (List AV)} {fz : Bool} (e : h.get id = some (.arr t es fz)) :
    ∃ c t' fr, w.heap[g.blk id]? = some (.cells c t' fr) ∧ RepE es g (g.sz id) (c.toList.drop (g.off id)) := by
  have ho := (hh.obj id _ e).2
  cases fz with
  | false =>
    obtain ⟨_, c, lo, hi, b1, _, _, _, b4⟩ := ho
    exact ⟨c, t, (lo, hi), b1, b4⟩
  | true =>
    obtain ⟨l, a, b⟩ := ho
    obtain ⟨c, t', fr, e1, e2⟩ := hh.gok _ _ a
    exact ⟨c, t', fr, e1, (b.le _ (Gh.shut_le g 0)).pre (drop_prefix _ e2)⟩

theorem read_ok {E : Env} (hE : EnvOk E) {g : Gh} {h : Heap} {w : World} (hh : HeapOk g h w) {t : TypeId} {a v : AV} {x : Value} (ha : RepV a g x)
    (e : readA E t a h = some v) : ∃ ad val, x = .pointer (some ad) ∧ (loadVar t ad).run E.P w = .ok val w ∧ RepV v g val := by
  unfold readA at e
  cases ht : E.ty.find t with
  | none => simp [ht] at e
  | some i =>
    rw [ht] at e
    have hty := hE.ty t i ht
    cases a with
    | ptr id j k =>
      simp only at e
      simp only [RepV] at ha
      cases hg : h.get id with
      | none => simp [hg] at e
      | some o =>
        rw [hg] at e
        cases o with
        | arr t' es fz =>
          simp only at e
          cases hc : cellsAt es j k i.size with
          | none => rw [hc] at e; simp [valueOf] at e
          | some cs =>
            rw [hc] at e
            obtain ⟨c, t'', fr, hb, hr⟩ := arr_block hh hg
            obtain ⟨h1, h2⟩ := hr.cellsAt hc
            rw [List.drop_drop, ← Nat.add_assoc] at h1
            obtain ⟨val, hl, hv⟩ := load_ok hty hb h1 h2 e
            exact ⟨_, val, ha.2, hl, hv⟩
        | _ => simp at e
    | ipt cs =>
      simp only [takeN] at e
      simp only [RepV] at ha
      obtain ⟨b, o, l, h1, h2, h3⟩ := ha
      cases hl : Nat.ble i.size cs.length with
      | false => rw [hl] at e; simp [valueOf] at e
      | true =>
        rw [hl] at e
        have hle := Nat.le_of_ble_eq_true hl
        obtain ⟨c, t', fr, e1, e2⟩ := hh.gok _ _ h2
        have h4 := ((h3.le _ (Gh.shut_le g 0)).pre (drop_prefix o e2)).take i.size
        obtain ⟨val, hl', hv⟩ := load_ok hty e1 h4 (by rw [List.length_take]; omega) e
        exact ⟨_, val, h1, hl', hv⟩
    | _ => simp at e

/-! ### Stores -/

/-- The world behind a row of stores. -/
def putC (w : World) (b o : Nat) (vs : List Value) : World :=
  { w with heap := w.heap.modify b fun
      | .cells c t fr => .cells (c.toList.take o ++ vs ++ c.toList.drop (o + vs.length)).toArray t fr
      | x => x }

theorem putC_same {w : World} {b o : Nat} {vs : List Value} {c : Array Value} {t : TypeId} {fr : Nat × Nat} (h : w.heap[b]? = some (.cells c t fr)) :
    (putC w b o vs).heap[b]? = some (.cells (c.toList.take o ++ vs ++ c.toList.drop (o + vs.length)).toArray t fr) := by
  simp [putC, Array.getElem?_modify, h]
theorem putC_other (w : World) {b o : Nat} (vs : List Value) {b' : Nat} (h : b' ≠ b) : (putC w b o vs).heap[b']? = w.heap[b']? := by
  have : ¬ b = b' := fun e => h e.symm
  simp [putC, Array.getElem?_modify, this]
theorem putC_size (w : World) (b o : Nat) (vs : List Value) : (putC w b o vs).heap.size = w.heap.size := by simp [putC]

theorem World.ext_heap {w w' : World} (h : w.heap = w'.heap) (h1 : w.tape = w'.tape) (h2 : w.drawn = w'.drawn) (h3 : w.os = w'.os) (h4 : w.output = w'.output) : w = w' := by
  cases w; cases w'; simp_all

theorem put_step {α : Type} (A B r : List α) (x v : α) :
    ((A ++ x :: B).set A.length v).take (A.length + 1) ++ r ++ ((A ++ x :: B).set A.length v).drop (A.length + 1 + r.length) =
      (A ++ x :: B).take A.length ++ (v :: r) ++ (A ++ x :: B).drop (A.length + (r.length + 1)) := by
  have h1 : (A ++ x :: B).set A.length v = A ++ v :: B := by simp
  rw [h1]
  have h2 : (A ++ v :: B).take (A.length + 1) = A ++ [v] := by
    rw [List.take_append, List.take_of_length_le (by omega)]
    simp
  have h3 : (A ++ v :: B).drop (A.length + 1 + r.length) = B.drop r.length := by
    rw [← List.drop_drop]
    have : (A ++ v :: B).drop (A.length + 1) = B := by
      rw [List.drop_append, List.drop_eq_nil_of_le (Nat.le_succ _)]; simp
    rw [this]
  have h4 : (A ++ x :: B).drop (A.length + (r.length + 1)) = B.drop r.length := by
    rw [show A.length + (r.length + 1) = A.length + 1 + r.length by omega, ← List.drop_drop]
    have : (A ++ x :: B).drop (A.length + 1) = B := by
      rw [List.drop_append, List.drop_eq_nil_of_le (Nat.le_succ _)]; simp
    rw [this]
  rw [h2, h3, h4]
  simp

theorem run_putC (P : Program) {b : Nat} {t : TypeId} {lo hi : Nat} : ∀ (vs : List Value) (o i : Nat) (w : World) (c : Array Value), w.heap[b]? = some (.cells c t (lo, hi)) →
    (∀ k, k < c.size → ¬ (lo ≤ k ∧ k < hi)) → o + i + vs.length ≤ c.size → (∀ v ∈ vs, v.oneCell' = true) →
    (storeCells ⟨b, o, none⟩ vs i).run P w = .ok () (putC w b (o + i) vs)
  | [], o, i, w, c, h, _, _, _ => by
    simp only [storeCells, Sem.run_pure]
    congr 1
    refine World.ext_heap ?_ rfl rfl rfl rfl
    apply Array.ext_getElem?
    intro j
    by_cases hj : j = b
    · subst hj
      rw [putC_same h, h]
      simp
    · rw [putC_other w [] hj]
  | v :: r, o, i, w, c, h, hz, hs, h1 => by
    have hadd : (⟨b, o, none⟩ : Addr).add i = ⟨b, o + i, none⟩ := Addr.add_lit _ _ _
    have hlt : o + i < c.size := by simp at hs; omega
    have hcell : w.cell? ⟨b, o + i, none⟩ = some c[o + i] := by
      rw [cell_of h]; simp [hlt]
    have hfr : w.frozen? ⟨b, o + i, none⟩ = false := by
      rw [frozen_of h]
      have := hz _ hlt
      simp only [Bool.and_eq_false_iff, decide_eq_false_iff_not]
      omega
    have hst : (store ((⟨b, o, none⟩ : Addr).add i) v).run P w = .ok () (w.setCell ⟨b, o + i, none⟩ v) := by
      rw [hadd, run_store P w _ v _ (h1 v (by simp))]
      simp [hcell, hfr]
    have hsame : (w.setCell ⟨b, o + i, none⟩ v).heap[b]? = some (.cells (c.setIfInBounds (o + i) v) t (lo, hi)) := by
      simp [World.setCell, Array.getElem?_modify, h]
    have ih := run_putC P r o (i + 1) (w.setCell ⟨b, o + i, none⟩ v) (c.setIfInBounds (o + i) v) hsame (by simpa using hz) (by simp at hs ⊢; omega) (fun x hx => h1 x (by simp [hx]))
    simp only [storeCells, Sem.run_bind, hst, Result.andThen_ok, ih]
    congr 1
    refine World.ext_heap ?_ rfl rfl rfl rfl
    apply Array.ext_getElem?
    intro j
    by_cases hj : j = b
    · subst hj
      rw [putC_same h, putC_same hsame]
      congr 3
      have hl : c.toList.length = c.size := by simp
      have hL : c.toList = c.toList.take (o + i) ++ c[o + i] :: c.toList.drop (o + i + 1) := by
        conv => lhs; rw [← List.take_append_drop (o + i) c.toList, List.drop_eq_getElem_cons (by omega)]
        simp
      have hA : (c.toList.take (o + i)).length = o + i := by rw [List.length_take]; omega
      rw [Array.toList_setIfInBounds, hL]
      have := put_step (c.toList.take (o + i)) (c.toList.drop (o + i + 1)) r c[o + i] v
      rw [hA] at this
      rw [List.length_cons]
      exact this
    · rw [putC_other w (v :: r) hj, putC_other _ r hj]
      have : ¬ b = j := fun e => hj e.symm
      simp [World.setCell, Array.getElem?_modify, this]

end Go.Ax
namespace Go.Ax

theorem one_cell : ∀ {v : AV} {g : Gh} {x : Value}, v.one = true → RepV v g x → x.oneCell' = true := by
  intro v g x h1 h2
  cases v with
  | any => simp [AV.one] at h1
  | agg _ => simp [AV.one] at h1
  | tup _ => simp [AV.one] at h1
  | sc y =>
    simp only [RepV] at h2
    subst h2
    cases x <;> simp_all [AV.one, Value.oneCell']
  | int _ _ => simp only [RepV] at h2; subst h2; rfl
  | bool _ => simp only [RepV] at h2; subst h2; rfl
  | str _ => simp only [RepV] at h2; subst h2; rfl
  | ptr _ _ _ => simp only [RepV] at h2; rw [h2.2]; rfl
  | ref _ => simp only [RepV] at h2; rw [h2.2]; rfl
  | sl _ _ _ =>
    simp only [RepV] at h2
    obtain ⟨_, cap, h, _⟩ := h2
    rw [h]; rfl
  | isl _ _ =>
    simp only [RepV] at h2
    rcases h2 with h2 | ⟨_, _, _, _, _, h, _⟩
    · rw [h2.2]; rfl
    · rw [h]; rfl
  | ipt _ =>
    simp only [RepV] at h2
    obtain ⟨_, _, _, h, _⟩ := h2
    rw [h]; rfl
  | fn _ _ _ =>
    simp only [RepV] at h2
    obtain ⟨_, _, _, h, _⟩ := h2
    rw [h]; rfl
  | ifc _ _ =>
    simp only [RepV] at h2
    obtain ⟨_, h, _⟩ := h2
    rw [h]; rfl

theorem cells_of_one {x : Value} (h : x.oneCell' = true) : x.cells = #[x] := by
  cases x <;> first | rfl | simp [Value.oneCell'] at h

theorem cellsO_ok {v : AV} {g : Gh} {x : Value} {cs : List AV} (e : v.cells? = some cs) (h : RepV v g x) : RepC cs g x.cells.toList := by
  have key : ∀ {v : AV}, v.one = true → RepV v g x → RepC [v] g x.cells.toList := by
    intro v h1 h2
    have := one_cell h1 h2
    rw [cells_of_one this]
    simp only [RepC]
    exact ⟨x, [], rfl, ⟨h2, this⟩, rfl⟩
  cases v with
  | agg ds =>
    simp only [AV.cells?, Option.some.injEq] at e
    subst e
    simp only [RepV] at h
    obtain ⟨vs, rfl, hc⟩ := h
    exact hc
  | _ =>
    simp only [AV.cells?] at e
    first
      | (rename_i y
         cases hy : (AV.sc y).one with
         | false => rw [hy] at e; cases e
         | true => rw [hy] at e; injection e with e; subst e; exact key hy h)
      | (injection e with e; subst e; exact key rfl h)
      | (cases e)

theorem sizedC_ok {n : Nat} {v : AV} {g : Gh} {x : Value} {cs : List AV} (e : sizedC n v = some cs) (h : RepV v g x) : RepC cs g x.cells.toList ∧ cs.length = n := by
  unfold sizedC at e
  cases hc : v.cells? with
  | none => rw [hc] at e; cases e
  | some ds =>
    rw [hc] at e
    simp only at e
    cases hb : Nat.beq ds.length n with
    | false => rw [hb] at e; cases e
    | true =>
      rw [hb] at e
      injection e with e
      subst e
      exact ⟨cellsO_ok hc h, Nat.eq_of_beq_eq_true hb⟩

/-- A list in which a piece is replaced. -/
def splice {α : Type} (L : List α) (p : Nat) (vs : List α) : List α := L.take p ++ vs ++ L.drop (p + vs.length)

theorem splice_len {α : Type} (L : List α) (p : Nat) (vs : List α) (h : p + vs.length ≤ L.length) : (splice L p vs).length = L.length := by
  simp only [splice, List.length_append, List.length_take, List.length_drop]
  omega
theorem splice_take {α : Type} (L : List α) (p n : Nat) (vs : List α) (h : n ≤ p) (h2 : p ≤ L.length) : (splice L p vs).take n = L.take n := by
  simp only [splice, List.append_assoc]
  rw [List.take_append_of_le_length (by rw [List.length_take]; omega), List.take_take, Nat.min_eq_left h]
theorem splice_drop {α : Type} (L : List α) (p n : Nat) (vs : List α) (h : p + vs.length ≤ n) (h2 : p ≤ L.length) : (splice L p vs).drop n = L.drop n := by
  simp only [splice]
  rw [List.drop_append, List.drop_eq_nil_of_le (by simp only [List.length_append, List.length_take]; omega), List.nil_append, List.drop_drop]
  congr 1
  simp only [List.length_append, List.length_take]
  omega
theorem splice_mid {α : Type} (L : List α) (p : Nat) (vs : List α) (h2 : p ≤ L.length) : (splice L p vs).drop p = vs ++ L.drop (p + vs.length) := by
  simp only [splice, List.append_assoc]
  rw [List.drop_append, List.drop_eq_nil_of_le (by rw [List.length_take]; omega), List.nil_append]
  have : p - (L.take p).length = 0 := by rw [List.length_take]; omega
  rw [this, List.drop_zero]
theorem splice_shift {α : Type} (L : List α) (o p : Nat) (vs : List α) (h : o + p ≤ L.length) : (splice L (o + p) vs).drop o = splice (L.drop o) p vs := by
  simp only [splice, List.append_assoc]
  rw [List.drop_append_of_le_length (by rw [List.length_take]; omega), List.drop_take, List.drop_drop]
  rw [show o + p - o = p by omega, show o + p + vs.length = o + (p + vs.length) by omega]

theorem RepP.splice {cs : List AV} {g : Gh} {L : List Value} {k : Nat} {ds : List AV} {vs : List Value} (h : RepP cs g L) (hd : RepC ds g vs) (hk : k + ds.length ≤ cs.length) :
    RepP (setRange cs k ds) g (splice L k vs) := by
  have hl := h.length
  have hdl := hd.length
  unfold setRange
  rw [List.append_assoc]
  refine RepP.append ((h.take k).congr ?_) ?_
  · rw [splice_take _ _ _ _ (by rw [List.length_take]; omega) (by omega)]
  · rw [show (cs.take k).length = k by rw [List.length_take]; omega, splice_mid _ _ _ (by omega)]
    refine RepP.append (hd.toP _) ?_
    rw [← hdl, List.drop_left, hdl]
    exact h.drop _

theorem RepE.splice1 : ∀ {es : List (List AV)} {g : Gh} {sz : Nat} {L : List Value} {j k : Nat} {e cs : List AV} {vs : List Value}, RepE es g sz L → es[j]? = some e → RepC cs g vs →
    k + cs.length ≤ e.length → RepE (es.set j (setRange e k cs)) g sz (Ax.splice L (j * sz + k) vs)
  | [], _, _, _, _, _, _, _, _, _, he, _, _ => by simp at he
  | x :: r, g, sz, L, 0, k, e, cs, vs, h, he, hc, hk => by
    simp only [RepE] at h
    simp at he
    subst he
    have hl := hc.length
    have h2 := h.2.1.length
    simp only [List.set_cons_zero, RepE, Nat.zero_mul, Nat.zero_add]
    refine ⟨?_, h.2.1.splice hc hk, ?_⟩
    · unfold setRange
      simp only [List.length_append, List.length_take, List.length_drop]
      omega
    · rw [splice_drop _ _ _ _ (by omega) (by omega)]
      exact h.2.2
  | x :: r, g, sz, L, j + 1, k, e, cs, vs, h, he, hc, hk => by
    simp only [RepE] at h
    have he' : r[j]? = some e := by simpa using he
    have hr := h.2.2
    obtain ⟨e1, e2⟩ := hr.get he'
    have hl := hc.length
    have h3 := e2.length
    rw [List.length_drop, List.length_drop] at h3
    have h2 := h.2.1.length
    simp only [List.set_cons_succ, RepE]
    have hpos : (j + 1) * sz + k = sz + (j * sz + k) := by rw [Nat.succ_mul]; omega
    by_cases hne : cs.length = 0
    · -- nothing is written
      have hcs : cs = [] := List.eq_nil_of_length_eq_zero hne
      subst hcs
      simp only [RepC] at hc
      subst hc
      have hs : ∀ p, Ax.splice L p [] = L := by intro p; simp [Ax.splice]
      rw [hs]
      have := RepE.splice1 hr he' (cs := []) (vs := []) (by simp [RepC]) hk
      have hs' : ∀ p, Ax.splice (L.drop sz) p [] = L.drop sz := by
        intro p
        simp only [Ax.splice, List.append_nil, List.length_nil, Nat.add_zero, List.take_append_drop]
      rw [hs'] at this
      exact ⟨h.1, h.2.1, this⟩
    · refine ⟨h.1, h.2.1.congr ?_, ?_⟩
      · rw [splice_take _ _ _ _ (by rw [h.1, hpos]; omega) (by rw [hpos]; omega)]
      · rw [hpos, splice_shift _ _ _ _ (by omega)]
        exact RepE.splice1 hr he' hc hk

theorem RepE.spliceN {es : List (List AV)} {g : Gh} {sz : Nat} {L : List Value} {j m : Nat} {fs : List (List AV)} {vs : List Value} (h : RepE es g sz L) (hf : RepE fs g sz vs)
    (hfl : fs.length = m) (hv : vs.length = m * sz) (hj : j + m ≤ es.length) : RepE (es.take j ++ fs ++ es.drop (j + m)) g sz (Ax.splice L (j * sz) vs) := by
  have hl := h.length
  have hle : (j + m) * sz ≤ es.length * sz := Nat.mul_le_mul_right _ hj
  rw [Nat.add_mul] at hle
  rw [List.append_assoc]
  refine RepE.append ((h.take j).congr ?_) ?_
  · have : (es.take j).length = j := by rw [List.length_take]; omega
    rw [this, splice_take _ _ _ _ (Nat.le_refl _) (by omega)]
  · have : (es.take j).length = j := by rw [List.length_take]; omega
    rw [this, splice_mid _ _ _ (by omega)]
    refine RepE.append (hf.pre (List.prefix_append _ _)) ?_
    rw [hfl, ← hv, List.drop_left, hv, ← Nat.add_mul]
    exact h.drop _

theorem chunk_len (size : Nat) : ∀ (n : Nat) (l : List AV), (chunk size n l).length = n
  | 0, _ => rfl
  | n + 1, l => by simp [chunk, chunk_len size n]

theorem storeRows_ok {es es' : List (List AV)} {g : Gh} {sz : Nat} {L : List Value} {j k : Nat} {cs : List AV} {vs : List Value} (h : RepE es g sz L)
    (e : storeRows es j k cs = some es') (hc : RepC cs g vs) : j * sz + k + vs.length ≤ L.length ∧ RepE es' g sz (splice L (j * sz + k) vs) := by
  unfold storeRows at e
  have hl := hc.length
  cases hj : es[j]? with
  | none => rw [hj] at e; cases e
  | some x =>
    rw [hj] at e
    simp only at e
    obtain ⟨h1, h2⟩ := h.get hj
    have h3 := h2.length
    rw [List.length_drop] at h3
    have hjl : j < es.length := (List.getElem?_eq_some_iff.1 hj).1
    have h4 := h.length
    have h5 : (j + 1) * sz ≤ es.length * sz := Nat.mul_le_mul_right _ hjl
    rw [Nat.succ_mul] at h5
    cases hb : Nat.ble (k + cs.length) x.length with
    | true =>
      rw [hb] at e
      simp only [cond_true, Option.some.injEq] at e
      subst e
      have hle := Nat.le_of_ble_eq_true hb
      exact ⟨by omega, h.splice1 hj hc hle⟩
    | false =>
      rw [hb] at e
      simp only [cond_false] at e
      cases hq : (and (and (Nat.beq k 0) (Nat.ble 1 x.length)) (and (Nat.beq (cs.length % x.length) 0) (Nat.ble (j + cs.length / x.length) es.length))) with
      | false => rw [hq] at e; cases e
      | true =>
        rw [hq] at e
        simp only [cond_true, Option.some.injEq] at e
        subst e
        simp only [Bool.and_eq_true] at hq
        obtain ⟨⟨q1, q2⟩, q3, q4⟩ := hq
        have k0 : k = 0 := Nat.eq_of_beq_eq_true q1
        have l1 := Nat.le_of_ble_eq_true q2
        have m0 := Nat.eq_of_beq_eq_true q3
        have l2 := Nat.le_of_ble_eq_true q4
        subst k0
        rw [h1] at m0 l2 l1 ⊢
        have hdiv : cs.length = cs.length / sz * sz := by
          have := Nat.div_add_mod cs.length sz
          rw [m0, Nat.add_zero, Nat.mul_comm] at this
          exact this.symm
        have h6 : (j + cs.length / sz) * sz ≤ es.length * sz := Nat.mul_le_mul_right _ l2
        rw [Nat.add_mul, ← hdiv] at h6
        have hE := RepC.toE (cs.length / sz) sz [] hc hdiv
        rw [List.append_nil] at hE
        exact ⟨by omega, h.spliceN hE (chunk_len _ _ _) (by omega) l2⟩

theorem storeRows_len {es es' : List (List AV)} {j k : Nat} {cs : List AV} (e : storeRows es j k cs = some es') : es'.length = es.length := by
  unfold storeRows at e
  split at e
  · rename_i x hj
    cases hb : Nat.ble (k + cs.length) x.length with
    | true => rw [hb] at e; simp only [cond_true, Option.some.injEq] at e; subst e; simp
    | false =>
      rw [hb] at e
      simp only [cond_false] at e
      cases hq : (and (and (Nat.beq k 0) (Nat.ble 1 x.length)) (and (Nat.beq (cs.length % x.length) 0) (Nat.ble (j + cs.length / x.length) es.length))) with
      | false => rw [hq] at e; cases e
      | true =>
        rw [hq] at e
        simp only [cond_true, Option.some.injEq] at e
        subst e
        simp only [Bool.and_eq_true] at hq
        have l2 := Nat.le_of_ble_eq_true hq.2.2
        simp only [List.length_append, List.length_take, List.length_drop, chunk_len]
        generalize cs.length / x.length = m at *
        omega
  · cases e

theorem store_ok {E : Env} (hE : EnvOk E) {g : Gh} {h h' : Heap} {w : World} (hh : HeapOk g h w) {t : TypeId} {a v : AV} {xa xv : Value} (ha : RepV a g xa) (hv : RepV v g xv)
    (e : storeA E t a v h = some h') : ∃ w', (Instr.storeAt t xa xv).run E.P w = .ok () w' ∧ HeapOk g h' w' ∧ Ext g h w g h' w' := by
  unfold storeA at e
  cases ht : E.ty.find t with
  | none => rw [ht] at e; cases e
  | some i =>
    rw [ht] at e
    have hty := hE.ty t i ht
    cases a with
    | ptr id j k =>
      simp only at e
      simp only [RepV] at ha
      cases hg : h.get id with
      | none => rw [hg] at e; cases e
      | some o =>
        rw [hg] at e
        cases o with
        | arr t' es fz =>
          cases fz with
          | true => cases e
          | false =>
            simp only at e
            cases hs : sizedC i.size v with
            | none => rw [hs] at e; cases e
            | some cs =>
              rw [hs] at e
              simp only [storeSized] at e
              cases hr : storeRows es j k cs with
              | none => rw [hr] at e; cases e
              | some es' =>
                rw [hr] at e
                simp only [setRows, Option.some.injEq] at e
                subst e
                obtain ⟨hc, hn⟩ := sizedC_ok hs hv
                obtain ⟨hG, c, lo, hi, b1, b2, b3, b3', b4⟩ := (hh.obj id _ hg).2
                obtain ⟨h1, h2⟩ := storeRows_ok b4 hr hc
                rw [List.length_drop] at h1
                have hcl : c.toList.length = c.size := by simp
                have hlen := hc.length
                have hsz : xv.cells.size = i.size := by rw [← hn, ← hlen]; simp
                have hrun := run_putC E.P xv.cells.toList (g.off id + j * g.sz id + k) 0 w c b1 b2 (by
                  rw [Nat.add_zero]
                  by_cases h0 : g.off id ≤ c.size
                  · omega
                  · omega) hc.one
                have hpos : g.off id + j * g.sz id + k ≤ c.toList.length := by omega
                refine ⟨putC w (g.blk id) (g.off id + j * g.sz id + k) xv.cells.toList, ?_, ?_⟩
                · simp only [Instr.storeAt, ha.2, Instr.sureAddr, Gh.addr, storeVar, Sem.run_bind, Sem.run_pure, Result.andThen_ok, run_size hty, hsz]
                  simpa using hrun
                · refine set_ok hh hg hG ⟨putC_size _ _ _ _, fun b hb => putC_other _ _ hb, rfl, rfl, rfl⟩ ?_
                  refine ⟨hG, _, lo, hi, putC_same b1, ?_, ?_, by rw [storeRows_len hr]; exact b3', ?_⟩
                  · intro q hq
                    refine b2 q ?_
                    simp only [List.size_toArray, List.length_append, List.length_take, List.length_drop] at hq
                    omega
                  · simp only [List.size_toArray, List.length_append, List.length_take, List.length_drop]
                    omega
                  · have := splice_shift c.toList (g.off id) (j * g.sz id + k) xv.cells.toList (by omega)
                    rw [← Nat.add_assoc] at this
                    simp only [splice] at this h2 ⊢
                    rw [this]
                    exact h2
        | _ => cases e
    | _ => cases e

end Go.Ax
/-! Operations that reckon with values alone. -/
namespace Go.Ax

theorem pureRun_ok {α : Type} {P : Program} : ∀ {s : Sem α} {a : α}, pureRun P s = some a → ∀ w, s.run P w = .ok a w
  | .pure _, _, h, _ => by simp only [pureRun, Option.some.injEq] at h; subst h; rfl
  | .program k, _, h, w => by
    simp only [pureRun] at h
    simp only [Sem.run]
    exact pureRun_ok h w
  | .mark _ k, _, h, w => by
    simp only [pureRun] at h
    simp only [Sem.run]
    exact pureRun_ok h w
  | .load .., _, h, _ => by simp [pureRun] at h
  | .store .., _, h, _ => by simp [pureRun] at h
  | .new .., _, h, _ => by simp [pureRun] at h
  | .shape .., _, h, _ => by simp [pureRun] at h
  | .freeze .., _, h, _ => by simp [pureRun] at h
  | .frozen .., _, h, _ => by simp [pureRun] at h
  | .getObj .., _, h, _ => by simp [pureRun] at h
  | .setObj .., _, h, _ => by simp [pureRun] at h
  | .choose .., _, h, _ => by simp [pureRun] at h
  | .sys .., _, h, _ => by simp [pureRun] at h
  | .halt .., _, h, _ => by simp [pureRun] at h

theorem inR_ok {lo hi n : Int} (h : inR lo hi n = true) : lo ≤ n ∧ n ≤ hi := by
  unfold inR at h
  cases h1 : Int.decLe lo n with
  | isFalse _ => rw [h1] at h; cases h
  | isTrue p =>
    rw [h1] at h
    cases h2 : Int.decLe n hi with
    | isFalse _ => rw [h2] at h; cases h
    | isTrue q => exact ⟨p, q⟩

theorem wrapF_eq (k : IntKind) (n : Int) : wrapF k n = k.wrap n := by
  cases k with
  | i64 =>
    simp only [wrapF]
    cases h : inR (-9223372036854775808) 9223372036854775807 n with
    | false => rfl
    | true =>
      obtain ⟨a, b⟩ := inR_ok h
      simp only [cond_true, IntKind.wrap, IntKind.bits, IntKind.signed, Bool.true_and]
      show n = if decide (n % 18446744073709551616 ≥ 9223372036854775808) = true then n % 18446744073709551616 - 18446744073709551616 else n % 18446744073709551616
      simp only [ge_iff_le, decide_eq_true_eq]
      split <;> omega
  | u8 =>
    simp only [wrapF]
    cases h : inR 0 255 n with
    | false => rfl
    | true =>
      obtain ⟨a, b⟩ := inR_ok h
      simp only [cond_true, IntKind.wrap, IntKind.bits, IntKind.signed, Bool.false_and, Bool.false_eq_true, if_false]
      rw [show (2 : Int) ^ 8 = 256 from rfl]
      omega
  | i32 =>
    simp only [wrapF]
    cases h : inR (-2147483648) 2147483647 n with
    | false => rfl
    | true =>
      obtain ⟨a, b⟩ := inR_ok h
      simp only [cond_true, IntKind.wrap, IntKind.bits, IntKind.signed, Bool.true_and]
      show n = if decide (n % 4294967296 ≥ 2147483648) = true then n % 4294967296 - 4294967296 else n % 4294967296
      simp only [ge_iff_le, decide_eq_true_eq]
      split <;> omega
  | u32 =>
    simp only [wrapF]
    cases h : inR 0 4294967295 n with
    | false => rfl
    | true =>
      obtain ⟨a, b⟩ := inR_ok h
      simp only [cond_true, IntKind.wrap, IntKind.bits, IntKind.signed, Bool.false_and, Bool.false_eq_true, if_false]
      rw [show (2 : Int) ^ 32 = 4294967296 from rfl]
      omega
  | u64 =>
    simp only [wrapF]
    cases h : inR 0 18446744073709551615 n with
    | false => rfl
    | true =>
      obtain ⟨a, b⟩ := inR_ok h
      simp only [cond_true, IntKind.wrap, IntKind.bits, IntKind.signed, Bool.false_and, Bool.false_eq_true, if_false]
      rw [show (2 : Int) ^ 64 = 18446744073709551616 from rfl]
      omega
  | _ => rfl

theorem kindEq_ok {a b : IntKind} (h : kindEq a b = true) : a = b := by cases a <;> cases b <;> first | rfl | cases h

theorem ltI_eq (a b : Int) : ltI a b = decide (a < b) := by
  unfold ltI
  cases h : Int.decLt a b with
  | isTrue p => simp [p]
  | isFalse p => simp [p]
theorem eqI_eq (a b : Int) : eqI a b = (a == b) := by
  unfold eqI
  cases h : Int.decEq a b with
  | isTrue p => simp [p]
  | isFalse p => simp [p]

theorem u8_beq (a b : UInt8) : Nat.beq a.toNat b.toNat = (a == b) := by
  cases h : Nat.beq a.toNat b.toNat with
  | true =>
    have := UInt8.toNat_inj.1 (Nat.eq_of_beq_eq_true h)
    simp [this]
  | false =>
    have h1 := Nat.ne_of_beq_eq_false h
    have : ¬ a = b := fun e => h1 (e ▸ rfl)
    simp [this]
theorem eqB_eq : ∀ (a b : List UInt8), eqB a b = (a == b)
  | [], [] => rfl
  | [], _ :: _ => rfl
  | _ :: _, [] => rfl
  | a :: x, b :: y => by
    simp only [eqB, u8_beq, eqB_eq x y]
    show _ = ((a == b) && (x == y))
    cases a == b <;> rfl

theorem toList_mk (l : List UInt8) : (ByteArray.mk l.toArray).toList = l := by
  have : ∀ b : ByteArray, b.toList = b.data.toList := by
    intro b
    exact ByteArray.toList_eq b
  rw [this]

theorem dec_le (a b : Int) : decide (a ≤ b) = !decide (b < a) := by
  by_cases h : a ≤ b
  · have : ¬ b < a := by omega
    simp [h, this]
  · have : b < a := by omega
    simp [h, this]

theorem intBin_ok {P : Program} {op : BinOp} {k : IntKind} {a b : Int} {v : AV} (e : intBin P op k a b = some v) (hsh : op ≠ .shl ∧ op ≠ .shr) (t : TypeId) (g : Gh) (w : World) :
    ∃ val, (binOp op t (.int k a) (.int k b)).run P w = .ok val w ∧ RepV v g val := by
  have hp : ∀ {op : BinOp}, op ≠ .shl → op ≠ .shr → absO (pureRun P (binOp op 0 (.int k a) (.int k b))) = some v → ∃ val, (binOp op t (.int k a) (.int k b)).run P w = .ok val w ∧ RepV v g val := by
    intro op h1 h2 h
    cases hr : pureRun P (binOp op 0 (.int k a) (.int k b)) with
    | none => rw [hr] at h; cases h
    | some x =>
      rw [hr] at h
      simp only [absO, Option.some.injEq] at h
      subst h
      have e : binOp op t (.int k a) (.int k b) = binOp op 0 (.int k a) (.int k b) := by cases op <;> rfl
      exact ⟨x, by rw [e]; exact pureRun_ok hr w, repV_abs x g⟩
  cases op with
  | add => simp only [intBin, Option.some.injEq] at e; subst e; exact ⟨_, by simp [go_sem, Op.intArith]; rfl, by simp [RepV, wrapF_eq]⟩
  | sub => simp only [intBin, Option.some.injEq] at e; subst e; exact ⟨_, by simp [go_sem, Op.intArith]; rfl, by simp [RepV, wrapF_eq]⟩
  | mul => simp only [intBin, Option.some.injEq] at e; subst e; exact ⟨_, by simp [go_sem, Op.intArith]; rfl, by simp [RepV, wrapF_eq]⟩
  | eql => simp only [intBin, Option.some.injEq] at e; subst e; exact ⟨_, by rw [binOp_eql]; rfl, by simp [RepV, eqI_eq]⟩
  | neq => simp only [intBin, Option.some.injEq] at e; subst e; exact ⟨_, by rw [binOp_neq]; rfl, by simp [RepV, eqI_eq, bne]⟩
  | lss => simp only [intBin, Option.some.injEq] at e; subst e; exact ⟨_, by rw [binOp_lss]; rfl, by simp [RepV, ltI_eq]⟩
  | leq => simp only [intBin, Option.some.injEq] at e; subst e; exact ⟨_, by rw [binOp_leq]; rfl, by simp only [RepV, ltI_eq, dec_le]⟩
  | gtr => simp only [intBin, Option.some.injEq] at e; subst e; exact ⟨_, by rw [binOp_gtr]; rfl, by simp [RepV, ltI_eq]⟩
  | geq => simp only [intBin, Option.some.injEq] at e; subst e; exact ⟨_, by rw [binOp_geq]; rfl, by simp only [RepV, ltI_eq, ge_iff_le, dec_le]⟩
  | shl => exact absurd rfl hsh.1
  | shr => exact absurd rfl hsh.2
  | quo => exact hp (by simp) (by simp) e
  | rem => exact hp (by simp) (by simp) e
  | and => exact hp (by simp) (by simp) e
  | or => exact hp (by simp) (by simp) e
  | xor => exact hp (by simp) (by simp) e
  | andNot => exact hp (by simp) (by simp) e

theorem strBin_ok {P : Program} {op : BinOp} {a b : List UInt8} {v : AV} (e : strBin op a b = some v) (t : TypeId) (g : Gh) (w : World) :
    ∃ val, (binOp op t (.string ⟨a.toArray⟩) (.string ⟨b.toArray⟩)).run P w = .ok val w ∧ RepV v g val := by
  have hop : binOp op t (.string ⟨a.toArray⟩) (.string ⟨b.toArray⟩) = Op.stringOp op ⟨a.toArray⟩ ⟨b.toArray⟩ := by cases op <;> rfl
  rw [hop]
  have hA : (ByteArray.mk a.toArray).toList = a := by rw [ByteArray.toList_eq]
  have hB : (ByteArray.mk b.toArray).toList = b := by rw [ByteArray.toList_eq]
  cases op with
  | add =>
    simp only [strBin] at e
    cases hl : Nat.blt (a.length + b.length) 1099511627776 with
    | false => rw [hl] at e; cases e
    | true =>
      rw [hl] at e
      simp only [cond_true, Option.some.injEq] at e
      subst e
      have hlt : a.length + b.length < 1099511627776 := by simpa using hl
      refine ⟨.string (⟨a.toArray⟩ ++ ⟨b.toArray⟩), ?_, ?_⟩
      · simp only [Op.stringOp]
        rw [if_neg]
        · rfl
        · simp only [ByteArray.size, List.size_toArray, IntKind.max_i64]
          omega
      · simp only [RepV]
        congr 1
  | eql => simp only [strBin, Option.some.injEq] at e; subst e; exact ⟨_, rfl, by simp only [RepV, hA, hB, eqB_eq]⟩
  | neq => simp only [strBin, Option.some.injEq] at e; subst e; exact ⟨_, rfl, by simp only [RepV, hA, hB, eqB_eq]⟩
  | lss => simp only [strBin, Option.some.injEq] at e; subst e; exact ⟨_, rfl, by simp only [RepV, hA, hB]⟩
  | leq => simp only [strBin, Option.some.injEq] at e; subst e; exact ⟨_, rfl, by simp only [RepV, hA, hB, eqB_eq]⟩
  | gtr => simp only [strBin, Option.some.injEq] at e; subst e; exact ⟨_, rfl, by simp only [RepV, hA, hB, eqB_eq]⟩
  | geq => simp only [strBin, Option.some.injEq] at e; subst e; exact ⟨_, rfl, by simp only [RepV, hA, hB]⟩
  | _ => simp [strBin] at e

theorem eqBool_eq (a b : Bool) : eqBool a b = (a == b) := by cases a <;> cases b <;> rfl

theorem eqA_ok {E : Env} (hE : EnvOk E) {t : TypeId} {i : TI} (ht : TyOk E.P t i) {z : Bool} {x y : AV} {r : Bool} (e : eqA E i.desc z x y = some r) {g : Gh} {w : World}
    {xv yv : Value} (hx : RepV x g xv) (hy : RepV y g yv) (n : Nat) : (Op.equalIn (n + 1) t xv yv).run E.P w = .ok r w := by
  have hu : ∀ w, (underlying t).run E.P w = .ok i.desc w := fun w => run_und ht w
  unfold eqA at e
  split at e
  · rename_i hd
    rw [hd] at hu
    split at e
    · simp only [RepV] at hx hy
      subst hx; subst hy
      simp only [Option.some.injEq] at e
      simp [Op.equalIn, hu, ← e, eqBool_eq]
    · cases e
  · rename_i el hd
    rw [hd] at hu
    split at e
    · simp only [RepV] at hx hy
      subst hx; subst hy
      simp only [Option.some.injEq] at e
      simp [Op.equalIn, hu, ← e]
    · simp only [RepV] at hx hy
      subst hx
      simp only [Option.some.injEq] at e
      simp [Op.equalIn, hu, ← e, hy.2]
    · simp only [RepV] at hx hy
      subst hy
      simp only [Option.some.injEq] at e
      simp [Op.equalIn, hu, ← e, hx.2]
    · rename_i a j k b j' k'
      simp only [RepV] at hx hy
      cases hie : E.ty.find el with
      | none => rw [hie] at e; cases e
      | some ie =>
        rw [hie] at e
        simp only at e
        cases hq : and (Nat.beq a b) (Nat.ble 1 ie.size) with
        | false => rw [hq] at e; cases e
        | true =>
          rw [hq] at e
          simp only [cond_true] at e
          simp only [Bool.and_eq_true] at hq
          have hab := Nat.eq_of_beq_eq_true hq.1
          have h1 := Nat.le_of_ble_eq_true hq.2
          subst hab
          cases hj : Nat.beq j j' with
          | false => rw [hj] at e; cases e
          | true =>
            rw [hj] at e
            simp only [cond_true, Option.some.injEq] at e
            have hjj := Nat.eq_of_beq_eq_true hj
            subst hjj
            have hsz := run_size (hE.ty _ _ hie) w
            have hne : ie.size ≠ 0 := by omega
            have hk : (g.addr a j k == g.addr a j k') = r := by
              rw [← e]
              cases hk : Nat.beq k k' with
              | true => have := Nat.eq_of_beq_eq_true hk; subst this; simp
              | false =>
                have := Nat.ne_of_beq_eq_false hk
                simp only [beq_eq_false_iff_ne, Gh.addr, ne_eq, Addr.mk.injEq, and_true, true_and]
                omega
            simp only [Op.equalIn, Sem.run_bind, hu, Result.andThen_ok, hx.2, hy.2, hsz, ne_eq, hne, not_false_eq_true, if_true, sameAddr, Sem.run_ite]
            have hb : ((g.addr a j k).block == (g.addr a j k').block) = true := by simp [Gh.addr]
            simp only [hb, if_true, Sem.run_pure, hk]
    · cases e
  · rename_i hd
    rw [hd] at hu
    split at e
    · simp only [RepV] at hx hy
      subst hx; subst hy
      simp only [Option.some.injEq] at e
      simp [Op.equalIn, hu, ← e]
    · simp only [RepV] at hx hy
      subst hx
      obtain ⟨_, _, _, rfl, _⟩ := hy
      simp only [Option.some.injEq] at e
      simp [Op.equalIn, hu, ← e]
    · simp only [RepV] at hx hy
      subst hy
      obtain ⟨_, _, _, rfl, _⟩ := hx
      simp only [Option.some.injEq] at e
      simp [Op.equalIn, hu, ← e]
    · cases e
  · rename_i hd
    rw [hd] at hu
    split at e
    · simp only [RepV] at hx hy
      subst hx; subst hy
      have : r = true := by cases z <;> simp_all
      simp [Op.equalIn, hu, this]
    · simp only [RepV] at hx hy
      subst hx
      obtain ⟨_, rfl, _⟩ := hy
      simp only [Option.some.injEq] at e
      simp [Op.equalIn, hu, ← e]
    · simp only [RepV] at hx hy
      subst hy
      obtain ⟨_, rfl, _⟩ := hx
      simp only [Option.some.injEq] at e
      simp [Op.equalIn, hu, ← e]
    · cases e
  · rename_i hd
    rw [hd] at hu
    split at e
    · simp only [RepV] at hx hy
      subst hx; subst hy
      simp only [Option.some.injEq] at e
      simp [Op.equalIn, hu, ← e]
    · simp only [RepV] at hx hy
      subst hx
      obtain ⟨_, rfl⟩ := hy
      simp only [Option.some.injEq] at e
      simp [Op.equalIn, hu, ← e]
    · simp only [RepV] at hx hy
      subst hy
      obtain ⟨_, rfl⟩ := hx
      simp only [Option.some.injEq] at e
      simp [Op.equalIn, hu, ← e]
    · cases e
  · rename_i hd
    rw [hd] at hu
    split at e
    · simp only [RepV] at hx hy
      subst hy
      simp only [Option.some.injEq] at e
      rcases hx with ⟨h, _⟩ | ⟨b, o, cap, sz, l, rfl, _⟩
      · cases h
      · simp [Op.equalIn, hu, ← e]
    · simp only [RepV] at hx hy
      subst hy
      simp only [Option.some.injEq] at e
      obtain ⟨_, cap, rfl, _⟩ := hx
      simp [Op.equalIn, hu, ← e]
    · cases e
  · cases e

/-- what '==' and '!=' ask first, of a nil interface value alone -/
theorem eqGuard_ok {E : Env} {op : BinOp} {t : TypeId} {d : TypeDesc} {ox oy : Operand} {x y : AV} {r : Bool} {g : Gh} {xv yv : Value} (e : eqA E d (isConst oy) x y = some r)
    (hx : RepV x g xv) (hy : RepV y g yv) (P : Program) (w : World) : (eqGuard op t ox oy xv yv).run P w = .ok () w := by
  unfold eqA at e
  split at e <;> try split at e
  all_goals first
    | (cases e; done)
    | (simp only [RepV] at hx; subst hx; (cases op <;> rfl); done)
    | (simp only [RepV] at hx; rw [hx.2]; (cases op <;> rfl); done)
    | (simp only [RepV] at hx; obtain ⟨_, _, _, rfl, _⟩ := hx; (cases op <;> rfl); done)
    | (simp only [RepV] at hx; obtain ⟨_, rfl, _⟩ := hx; (cases op <;> rfl); done)
    | (simp only [RepV] at hx; obtain ⟨_, _, rfl, _⟩ := hx; (cases op <;> rfl); done)
    | (simp only [RepV] at hx hy; subst hx; subst hy
       cases oy <;> first | (simp [isConst] at e; done) | (cases op <;> first | rfl | simp [eqGuard]))
    | (simp only [RepV] at hx hy; subst hx; obtain ⟨_, rfl, _⟩ := hy; (cases op <;> rfl); done)
    | (simp only [RepV] at hx
       rcases hx with ⟨h, _⟩ | ⟨b, o, cap, sz, l, rfl, _⟩
       · cases h
       · cases op <;> rfl)

def plainV : Value → Bool
  | .int _ _ => false
  | .float _ _ => false
  | .complex _ _ _ => false
  | .string _ => false
  | _ => true

theorem eqA_plain {E : Env} {d : TypeDesc} {z : Bool} {x y : AV} {r : Bool} {g : Gh} {xv : Value} (e : eqA E d z x y = some r) (hx : RepV x g xv) : plainV xv = true := by
  unfold eqA at e
  split at e <;> try split at e
  all_goals first
    | (cases e; done)
    | (simp only [RepV] at hx; subst hx; rfl)
    | (simp only [RepV] at hx; rw [hx.2]; rfl)
    | (simp only [RepV] at hx; obtain ⟨_, rfl, _⟩ := hx; rfl; done)
    | (simp only [RepV] at hx; obtain ⟨_, _, rfl, _⟩ := hx; rfl; done)
    | (simp only [RepV] at hx; obtain ⟨_, _, _, rfl, _⟩ := hx; rfl; done)
    | (simp only [RepV] at hx
       rcases hx with ⟨h, _⟩ | ⟨b, o, cap, sz, l, rfl, _⟩
       · cases h
       · rfl)

theorem binOp_eql_plain {t : TypeId} {x y : Value} (h : plainV x = true) : binOp .eql t x y = (do pure (.bool (← Op.equal t x y))) := by
  cases x <;> first | (simp [plainV] at h; done) | rfl
theorem binOp_neq_plain {t : TypeId} {x y : Value} (h : plainV x = true) : binOp .neq t x y = (do pure (.bool (!(← Op.equal t x y)))) := by
  cases x <;> first | (simp [plainV] at h; done) | rfl

theorem boolO_ok {neg : Bool} {x : Option Bool} {v : AV} (e : boolO neg x = some v) : ∃ b, x = some b ∧ v = .bool (if neg = true then !b else b) := by
  cases x with
  | none => cases e
  | some b => simp only [boolO, Option.some.injEq] at e; exact ⟨b, rfl, by rw [← e]; cases neg <;> rfl⟩

theorem eqT_ok {E : Env} (hE : EnvOk E) {op : BinOp} {t : TypeId} {ox oy : Operand} {x y v : AV} (e : eqT E op t (isConst oy) x y = some v) {g : Gh} {w : World}
    {xv yv : Value} (hx : RepV x g xv) (hy : RepV y g yv) : ∃ val, (do eqGuard op t ox oy xv yv; binOp op t xv yv).run E.P w = .ok val w ∧ RepV v g val := by
  unfold eqT at e
  cases ht : E.ty.find t with
  | none => rw [ht] at e; cases e
  | some i =>
    rw [ht] at e
    simp only at e
    cases hq : isEq op with
    | false => rw [hq] at e; cases e
    | true =>
      rw [hq] at e
      simp only [cond_true] at e
      obtain ⟨b, hb, rfl⟩ := boolO_ok e
      have h1 := eqGuard_ok (ox := ox) (op := op) (t := t) hb hx hy E.P w
      have h2 := eqA_ok hE (hE.ty t i ht) hb hx hy (w := w) 9999
      have h3 : (Op.equal t xv yv).run E.P w = .ok b w := h2
      have hp := eqA_plain hb hx
      refine ⟨.bool (if isNeq op = true then !b else b), ?_, rfl⟩
      rw [Sem.run_bind, h1, Result.andThen_ok]
      cases op with
      | eql => rw [binOp_eql_plain hp]; simp [h3, isNeq]
      | neq => rw [binOp_neq_plain hp]; simp [h3, isNeq]
      | _ => simp [isEq] at hq

theorem eqGuard_int (op : BinOp) (t : TypeId) (ox oy : Operand) (k : IntKind) (n : Int) (v : Value) : eqGuard op t ox oy (.int k n) v = pure () := eqGuard_at_int ..
theorem eqGuard_str (op : BinOp) (t : TypeId) (ox oy : Operand) (s : ByteArray) (v : Value) : eqGuard op t ox oy (.string s) v = pure () := eqGuard_at_string ..

theorem binA_ok {E : Env} (hE : EnvOk E) {op : BinOp} {t : TypeId} {ox oy : Operand} {x y v : AV} (e : binA E op t (isConst oy) x y = some v) {g : Gh} {w : World}
    {xv yv : Value} (hx : RepV x g xv) (hy : RepV y g yv) : ∃ val, (do eqGuard op t ox oy xv yv; binOp op t xv yv).run E.P w = .ok val w ∧ RepV v g val := by
  have hsh : ∀ {op : BinOp} {k k' : IntKind} {a b : Int}, op = .shl ∨ op = .shr → absO (pureRun E.P (binOp op 0 (.int k a) (.int k' b))) = some v →
      ∃ val, (binOp op t (.int k a) (.int k' b)).run E.P w = .ok val w ∧ RepV v g val := by
    intro op k k' a b h h2
    cases hr : pureRun E.P (binOp op 0 (.int k a) (.int k' b)) with
    | none => rw [hr] at h2; cases h2
    | some x =>
      rw [hr] at h2
      simp only [absO, Option.some.injEq] at h2
      subst h2
      have e : binOp op t (.int k a) (.int k' b) = binOp op 0 (.int k a) (.int k' b) := by rcases h with rfl | rfl <;> rfl
      exact ⟨x, by rw [e]; exact pureRun_ok hr w, repV_abs x g⟩
  unfold binA at e
  split at e
  · rename_i k a k' b
    simp only [RepV] at hx hy
    subst hx; subst hy
    simp only [eqGuard_int, Sem.run_bind, Sem.run_pure, Result.andThen_ok]
    split at e
    · exact hsh (.inl rfl) e
    · exact hsh (.inr rfl) e
    · rename_i h1 h2
      cases hk : kindEq k k' with
      | false => rw [hk] at e; cases e
      | true =>
        rw [hk] at e
        have := kindEq_ok hk
        subst this
        exact intBin_ok e ⟨h1, h2⟩ t g w
  · simp only [RepV] at hx hy
    subst hx; subst hy
    simp only [eqGuard_str, Sem.run_bind, Sem.run_pure, Result.andThen_ok]
    exact strBin_ok e t g w
  · exact eqT_ok hE e hx hy

theorem un_ok {P : Program} {op : UnOp} {x v : AV} (e : unA op x = some v) {g : Gh} {w : World} {xv : Value} (hx : RepV x g xv) :
    ∃ val, (Op.unary op xv).run P w = .ok val w ∧ RepV v g val := by
  unfold unA at e
  split at e
  · simp only [RepV] at hx
    subst hx
    simp only [Option.some.injEq] at e
    subst e
    exact ⟨_, rfl, by simp [RepV]⟩
  · simp only [RepV] at hx
    subst hx
    simp only [Option.some.injEq] at e
    subst e
    exact ⟨_, rfl, by simp [RepV, wrapF_eq]⟩
  · cases e

end Go.Ax
/-! Parts, places. -/
namespace Go.Ax

theorem repC_of_list {cs : List AV} {g : Gh} {l m : List Value} (h : RepC cs g l) (e : l = m) : RepC cs g m := e ▸ h

theorem takeN_ok {cs ds : List AV} {n : Nat} (e : takeN cs n = some ds) : ds = cs.take n ∧ n ≤ cs.length := by
  unfold takeN at e
  cases h : Nat.ble n cs.length with
  | false => rw [h] at e; cases e
  | true => rw [h] at e; simp only [cond_true, Option.some.injEq] at e; exact ⟨e.symm, Nat.le_of_ble_eq_true h⟩

theorem part_ok {E : Env} (hE : EnvOk E) {t : TypeId} {cs : List AV} {off : Nat} {v : AV} (e : partA E t cs off = some v) {g : Gh} {l : List Value} (hc : RepC cs g l) (w : World) :
    ∃ val, (part t l.toArray off).run E.P w = .ok val w ∧ RepV v g val := by
  unfold partA at e
  cases ht : E.ty.find t with
  | none => rw [ht] at e; cases e
  | some i =>
    rw [ht] at e
    have hty := hE.ty t i ht
    simp only at e
    simp only [part, Sem.run_bind, run_agg hty, Result.andThen_ok]
    cases ha : isAggD i.desc with
    | true =>
      rw [ha] at e
      simp only [cond_true] at e
      cases hk : takeN (cs.drop off) i.size with
      | none => rw [hk] at e; cases e
      | some ds =>
        rw [hk] at e
        simp only [aggO, Option.some.injEq] at e
        subst e
        obtain ⟨rfl, _⟩ := takeN_ok hk
        simp only [if_true, Sem.run_bind, run_size hty, Result.andThen_ok, Sem.run_pure]
        refine ⟨_, rfl, ?_⟩
        simp only [RepV]
        refine ⟨(l.drop off).take i.size, ?_, (hc.drop off).take i.size⟩
        congr 1
        apply Array.ext'
        simp [List.take_drop]
    | false =>
      rw [ha] at e
      simp only [cond_false] at e
      obtain ⟨u, h1, h2⟩ := hc.get e
      simp only [Bool.false_eq_true, if_false]
      refine ⟨u, ?_, h2.1⟩
      have : l.toArray[off]? = some u := by simpa using h1
      simp [this]

theorem asNat_ok {v : AV} {n : Nat} (e : asNat v = some n) {g : Gh} {x : Value} (h : RepV v g x) : ∃ k, x = .int k (n : Int) := by
  unfold asNat at e
  split at e
  · rename_i k m
    simp only [Option.some.injEq] at e
    subst e
    simp only [RepV] at h
    exact ⟨k, h⟩
  · cases e

theorem field_ok {E : Env} (hE : EnvOk E) {t : TypeId} {v r : AV} {f : Nat} (e : fieldA E t v f = some r) {g : Gh} {x : Value} (h : RepV v g x) (w : World) :
    ∃ val, (Instr.field t x f).run E.P w = .ok val w ∧ RepV r g val := by
  unfold fieldA at e
  cases ht : E.ty.find t with
  | none => rw [ht] at e; cases e
  | some i =>
    rw [ht] at e
    have hty := hE.ty t i ht
    simp only at e
    split at e
    · rename_i fields cs hd
      cases hf : fields[f]? with
      | none => rw [hf] at e; cases e
      | some fl =>
        rw [hf] at e
        simp only [RepV] at h
        obtain ⟨vs, rfl, hc⟩ := h
        have hu := run_und hty w
        rw [hd] at hu
        obtain ⟨val, h1, h2⟩ := part_ok hE e hc w
        exact ⟨val, by simp [Instr.field, hu, hf, asAgg, h1], h2⟩
    · cases e

theorem index_ok {E : Env} (hE : EnvOk E) {t : TypeId} {v ix r : AV} {n : Nat} (hix : asNat ix = some n) (e : indexA E t v n = some r) {g : Gh} {x xi : Value} (h : RepV v g x) (hi : RepV ix g xi) (w : World) :
    ∃ val, (Instr.index t x xi).run E.P w = .ok val w ∧ RepV r g val := by
  obtain ⟨k, rfl⟩ := asNat_ok hix hi
  unfold indexA at e
  cases ht : E.ty.find t with
  | none => rw [ht] at e; cases e
  | some i =>
    rw [ht] at e
    have hty := hE.ty t i ht
    have hu := run_und hty w
    simp only at e
    split at e
    · rename_i s hd
      rw [hd] at hu
      simp only [RepV] at h
      subst h
      cases hb : s[n]? with
      | none => rw [hb] at e; cases e
      | some b =>
        rw [hb] at e
        simp only [byteO, Option.some.injEq] at e
        subst e
        refine ⟨.int .u8 b.toNat, ?_, by simp [RepV]⟩
        have hn : n < s.length := (List.getElem?_eq_some_iff.1 hb).1
        have hb' : (ByteArray.mk s.toArray)[n]? = some b := by
          have e1 : (ByteArray.mk s.toArray).size = s.length := by simp [ByteArray.size]
          rw [getElem?_pos (ByteArray.mk s.toArray) n (by rw [e1]; exact hn)]
          have := (List.getElem?_eq_some_iff.1 hb).2
          congr 1
        simp [Instr.index, asIntOf, hu, hb']
    · rename_i len el cs hd
      rw [hd] at hu
      simp only [RepV] at h
      obtain ⟨vs, rfl, hc⟩ := h
      cases hie : E.ty.find el with
      | none => rw [hie] at e; cases e
      | some ie =>
        rw [hie] at e
        simp only at e
        cases hl : Nat.blt n len with
        | false => rw [hl] at e; cases e
        | true =>
          rw [hl] at e
          simp only [cond_true] at e
          have hlt : n < len := by simpa using hl
          obtain ⟨val, h1, h2⟩ := part_ok hE e hc w
          refine ⟨val, ?_, h2⟩
          have hsz := run_size (hE.ty _ _ hie) w
          simp [Instr.index, asIntOf, hu, hsz, h1, hlt]
    · cases e

theorem extract_ok {P : Program} {t r : AV} {n : Nat} (e : extractA t n = some r) {g : Gh} {x : Value} (h : RepV t g x) (w : World) :
    ∃ val, (Instr.extract x n).run P w = .ok val w ∧ RepV r g val := by
  unfold extractA at e
  split at e
  · simp only [RepV] at h
    obtain ⟨vs, rfl, hc⟩ := h
    obtain ⟨u, h1, h2⟩ := hc.get e
    refine ⟨u, ?_, h2⟩
    have : vs.toArray[n]? = some u := by simpa using h1
    simp [Instr.extract, this]
  · cases e

theorem addr_add (a : Addr) (n : Nat) (h : a.spot = none) : a.add n = { a with off := a.off + n } := by
  unfold Addr.add
  split
  · rename_i h0; subst h0; simp
  · cases a; simp_all

theorem shiftP_ok {v r : AV} {off : Nat} (e : shiftP v off = some r) {g : Gh} {x : Value} (h : RepV v g x) : ∃ a, x = .pointer (some a) ∧ RepV r g (.pointer (some (a.add off))) := by
  unfold shiftP at e
  split at e
  · simp only [Option.some.injEq] at e
    subst e
    simp only [RepV] at h ⊢
    exact ⟨_, h.2, h.1, by rw [addr_add _ _ rfl]; simp [Gh.addr, Nat.add_assoc]⟩
  · simp only [Option.some.injEq] at e
    subst e
    simp only [RepV] at h ⊢
    obtain ⟨b, o, l, rfl, h2, h3⟩ := h
    refine ⟨_, rfl, b, o + off, l, by rw [addr_add _ _ rfl], h2, ?_⟩
    rw [← List.drop_drop]
    exact h3.drop off
  · cases e

theorem fieldPl_ok {E : Env} (hE : EnvOk E) {fields : Array Field} {f off size : Nat} (e : fieldPl E fields f = some (off, size)) :
    ∃ fl i, fields[f]? = some fl ∧ off = fl.offset ∧ TyOk E.P fl.type i ∧ size = i.size := by
  unfold fieldPl at e
  cases hf : fields[f]? with
  | none => rw [hf] at e; cases e
  | some fl =>
    rw [hf] at e
    simp only at e
    cases hi : E.ty.find fl.type with
    | none => rw [hi] at e; cases e
    | some i =>
      rw [hi] at e
      simp only [Option.some.injEq, Prod.mk.injEq] at e
      exact ⟨fl, i, rfl, e.1.symm, hE.ty _ _ hi, e.2.symm⟩

theorem fieldAddr_ok {E : Env} (hE : EnvOk E) {t : TypeId} {v r : AV} {f : Nat} (e : fieldAddrA E t v f = some r) {g : Gh} {x : Value} (h : RepV v g x) (w : World) :
    ∃ val, (Instr.fieldAt t x f).run E.P w = .ok val w ∧ RepV r g val := by
  unfold fieldAddrA at e
  cases ht : E.ty.find t with
  | none => rw [ht] at e; cases e
  | some i =>
    rw [ht] at e
    have hty := hE.ty t i ht
    have hu := run_und hty w
    simp only at e
    split at e
    · rename_i fields hd
      rw [hd] at hu
      cases hp : fieldPl E fields f with
      | none => rw [hp] at e; cases e
      | some p =>
        obtain ⟨off, size⟩ := p
        rw [hp] at e
        simp only at e
        cases hb : Nat.ble 1 size with
        | false => rw [hb] at e; cases e
        | true =>
          rw [hb] at e
          simp only [cond_true] at e
          have h1 := Nat.le_of_ble_eq_true hb
          obtain ⟨fl, fi, hf, rfl, hft, rfl⟩ := fieldPl_ok hE hp
          obtain ⟨a, rfl, hr⟩ := shiftP_ok e h
          refine ⟨_, ?_, hr⟩
          have hne : fi.size ≠ 0 := by omega
          simp [Instr.fieldAt, hu, hf, Instr.sureAddr, fieldPlace, run_size hft, hne]
    · cases e

theorem fitsR_ok {size : Nat} {es : List (List AV)} {g : Gh} {sz : Nat} {l : List Value} (h : fitsR size es = true) (hr : RepE es g sz l) (hne : es ≠ []) : sz = size := by
  cases es with
  | nil => exact absurd rfl hne
  | cons e r =>
    simp only [fitsR] at h
    simp only [RepE] at hr
    have := Nat.eq_of_beq_eq_true h
    omega

theorem indexAddr_ok {E : Env} (hE : EnvOk E) {t : TypeId} {v ix r : AV} {n : Nat} {h : Heap} (hix : asNat ix = some n) (e : indexAddrA E t v n h = some r) {g : Gh} {w : World} (hh : HeapOk g h w)
    {x xi : Value} (hx : RepV v g x) (hi : RepV ix g xi) : ∃ val, (Instr.indexAt t x xi).run E.P w = .ok val w ∧ RepV r g val := by
  obtain ⟨k, rfl⟩ := asNat_ok hix hi
  unfold indexAddrA at e
  cases ht : E.ty.find t with
  | none => rw [ht] at e; cases e
  | some i =>
    rw [ht] at e
    have hty := hE.ty t i ht
    have hu := run_und hty w
    simp only at e
    split at e
    · -- an immutable slice
      rename_i el es clip hd
      rw [hd] at hu
      cases hie : E.ty.find el with
      | none => rw [hie] at e; cases e
      | some ie =>
        rw [hie] at e
        cases hn : es[n]? with
        | none => rw [hn] at e; cases e
        | some c =>
          rw [hn] at e
          simp only at e
          cases hq : and (Nat.ble 1 ie.size) (Nat.beq c.length ie.size) with
          | false => rw [hq] at e; cases e
          | true =>
            rw [hq] at e
            simp only [cond_true, Option.some.injEq] at e
            subst e
            simp only [Bool.and_eq_true] at hq
            have hc := Nat.eq_of_beq_eq_true hq.2
            have hlt : n < es.length := (List.getElem?_eq_some_iff.1 hn).1
            have hne : es ≠ [] := by rintro rfl; simp at hlt
            simp only [RepV] at hx
            rcases hx with ⟨h0, _⟩ | ⟨b, o, cap, sz, l, rfl, _, _, hG, hr⟩
            · exact absurd h0 hne
            · obtain ⟨h1, h2⟩ := hr.get hn
              have hsz := run_size (hE.ty _ _ hie) w
              refine ⟨.pointer (some ((⟨b, o, none⟩ : Addr).add (n * ie.size))), ?_, ?_⟩
              · simp [Instr.indexAt, asIntOf, hu, hsz, hlt]
              · simp only [RepV]
                refine ⟨b, o + n * ie.size, l, by rw [addr_add _ _ rfl], hG hne, ?_⟩
                rw [← hc, h1, ← List.drop_drop]
                exact h2
    · -- a slice of an object
      rename_i el id j m hd
      rw [hd] at hu
      cases hie : E.ty.find el with
      | none => rw [hie] at e; cases e
      | some ie =>
        rw [hie] at e
        cases hg : h.get id with
        | none => rw [hg] at e; cases e
        | some ob =>
          rw [hg] at e
          cases ob with
          | arr t' es fz =>
            simp only at e
            cases hq : and (Nat.blt n m) (and (Nat.ble (j + m) es.length) (fitsR ie.size es)) with
            | false => rw [hq] at e; cases e
            | true =>
              rw [hq] at e
              simp only [cond_true, Option.some.injEq] at e
              subst e
              simp only [Bool.and_eq_true, Nat.blt_eq] at hq
              obtain ⟨hlt, hle, hf⟩ := hq
              have hle' := Nat.le_of_ble_eq_true hle
              obtain ⟨c, t'', fr, hb, hr⟩ := arr_block hh hg
              have hne : es ≠ [] := by rintro rfl; simp at hle'; omega
              have hsz' := fitsR_ok hf hr hne
              have hsz := run_size (hE.ty _ _ hie) w
              simp only [RepV] at hx
              obtain ⟨hok, cap, rfl, hcap, _⟩ := hx
              refine ⟨.pointer (some ((g.addr id j 0).add (n * ie.size))), ?_, ?_⟩
              · simp [Instr.indexAt, asIntOf, hu, hsz, hlt]
              · simp only [RepV]
                refine ⟨hok, ?_⟩
                rw [addr_add _ _ rfl]
                simp only [Gh.addr, hsz', Nat.add_mul, Nat.add_zero, Nat.add_assoc]
          | _ => cases e
    · -- an array's variable
      rename_i len el id j k' hd
      rw [hd] at hu
      cases hie : E.ty.find el with
      | none => rw [hie] at e; cases e
      | some ie =>
        rw [hie] at e
        cases hg : h.get id with
        | none => rw [hg] at e; cases e
        | some ob =>
          rw [hg] at e
          cases ob with
          | arr t' es fz =>
            simp only at e
            cases hj : es[j]? with
            | none => rw [hj] at e; cases e
            | some c =>
              rw [hj] at e
              simp only at e
              cases hl : Nat.blt n len with
              | false => rw [hl] at e; cases e
              | true =>
                rw [hl] at e
                simp only [cond_true, Option.some.injEq] at e
                have hlt : n < len := by simpa using hl
                have hsz := run_size (hE.ty _ _ hie) w
                simp only [RepV] at hx
                obtain ⟨hok, rfl⟩ := hx
                refine ⟨.pointer (some ((g.addr id j k').add (n * ie.size))), ?_, ?_⟩
                · simp [Instr.indexAt, asIntOf, hu, hsz, hlt, Instr.sureAddr]
                · cases hq : and (Nat.beq k' 0) (Nat.beq c.length ie.size) with
                  | true =>
                    rw [hq] at e
                    simp only [cond_true] at e
                    subst e
                    simp only [Bool.and_eq_true] at hq
                    have hk0 := Nat.eq_of_beq_eq_true hq.1
                    have hc := Nat.eq_of_beq_eq_true hq.2
                    obtain ⟨c', t'', fr, hb, hr⟩ := arr_block hh hg
                    have h1 := (hr.get hj).1
                    simp only [RepV]
                    refine ⟨hok, ?_⟩
                    rw [addr_add _ _ rfl]
                    subst hk0
                    simp only [Gh.addr, ← h1, hc, Nat.add_mul, Nat.add_zero, Nat.add_assoc]
                  | false =>
                    rw [hq] at e
                    simp only [cond_false] at e
                    subst e
                    simp only [RepV]
                    refine ⟨hok, ?_⟩
                    rw [addr_add _ _ rfl]
                    simp only [Gh.addr, Nat.add_assoc]
          | _ => cases e
    · -- an array that stays as it is
      rename_i len el cs hd
      rw [hd] at hu
      cases hie : E.ty.find el with
      | none => rw [hie] at e; cases e
      | some ie =>
        rw [hie] at e
        simp only at e
        cases hl : Nat.blt n len with
        | false => rw [hl] at e; cases e
        | true =>
          rw [hl] at e
          simp only [cond_true, Option.some.injEq] at e
          subst e
          have hlt : n < len := by simpa using hl
          have hsz := run_size (hE.ty _ _ hie) w
          obtain ⟨a, rfl, hr⟩ := shiftP_ok (v := .ipt cs) (off := n * ie.size) rfl hx
          exact ⟨_, by simp [Instr.indexAt, asIntOf, hu, hsz, hlt, Instr.sureAddr], hr⟩
    · cases e

end Go.Ax
/-! What is made. -/
namespace Go.Ax

/-- New cells, as rows. -/
theorem new_arr {g : Gh} {h : Heap} {w w0 : World} {slot : Option Nat} (hh : HeapOk g h w) (hs : SlotOk g h slot) {t : TypeId} {es : List (List AV)} {sz room : Nat} {vs : List Value} {lo hi : Nat}
    (hw : w0.heap = (w.alloc (.cells vs.toArray t (lo, hi))).heap ∧ w0.os = w.os ∧ w0.output = w.output ∧ w0.tape = w.tape)
    (hz : ∀ k, k < vs.length → ¬ (lo ≤ k ∧ k < hi)) (hr : RepE es g sz vs) (hroom : room ≤ vs.length) (hrow : es.length * sz ≤ room) :
    let g' := g.put (slotId h slot) w.heap.size 0 sz room
    HeapOk g' (h.new slot (.arr t es false)).2 w0 ∧ Ext g h w g' (h.new slot (.arr t es false)).2 w0 := by
  have hnok : ¬ g.ok (slotId h slot) := by
    cases slot with
    | none => exact fun hk => Nat.lt_irrefl _ (hh.bnd _ hk)
    | some s => exact (hs s rfl).2.1
  have hG : g.G w.heap.size = none := by
    cases e : g.G w.heap.size with
    | none => rfl
    | some l =>
      obtain ⟨c, t, fr, e, _⟩ := hh.gok _ _ e
      have := (Array.getElem?_eq_some_iff.1 e).1
      omega
  refine new_ok hh hs (.arr t es false) (.cells vs.toArray t (lo, hi)) sz room hw ?_
  simp only [ObjOk]
  refine ⟨by simpa [Gh.put] using hG, vs.toArray, lo, hi, ?_, by simpa using hz, by simp [Gh.put]; exact hroom, ⟨by simp [Gh.put]; exact hrow, 0, by simp [Gh.put]⟩, ?_⟩
  · rw [hw.1, alloc_get]; simp [Gh.put]
  · simp only [Gh.put, if_true, List.drop_zero]
    exact hr.le _ (Gh.le_put hnok _ _ _ _)

theorem put_ok (g : Gh) (id b o s r : Nat) : (g.put id b o s r).ok id := .inr rfl
theorem put_addr (g : Gh) (id b s r i k : Nat) : (g.put id b 0 s r).addr id i k = ⟨b, i * s + k, none⟩ := by simp [Gh.addr, Gh.put]

theorem zeroC_ok {P : Program} {t : TypeId} {i : TI} (ht : TyOk P t i) (g : Gh) : RepC (zeroC i.zero) g i.zero.cells.toList ∧ (zeroC i.zero).length = i.size := by
  obtain ⟨info, _, _, _, _, _, h6, h7⟩ := ht
  have key : RepC (zeroC i.zero) g i.zero.cells.toList := by
    unfold zeroC
    generalize hz : i.zero = z at *
    cases z with
    | agg cs =>
      simp only [absV]
      have : cs.toList.all oneV = true := List.all_eq_true.2 fun c hc => by rw [oneV_eq]; exact h7 c hc
      rw [this]
      exact repC_abs cs.toList g (fun v hv => by rw [oneV_eq]; exact h7 v hv)
    | tuple cs => exact absurd (h7 (.tuple cs) (by simp [Value.cells])) (by simp [Value.oneCell'])
    | slice a n m =>
      have : absV (.slice a n m) = .isl [] true ∨ absV (.slice a n m) = .sc (.slice a n m) := by
        simp only [absV]; unfold absSl; split <;> simp
      have hv := repV_abs (.slice a n m) g
      rcases this with e | e <;> rw [e] at hv ⊢ <;> exact ⟨_, [], rfl, ⟨hv, rfl⟩, rfl⟩
    | _ => exact ⟨_, [], rfl, ⟨repV_abs _ g, rfl⟩, rfl⟩
  exact ⟨key, by have := key.length; rw [← h6]; simpa using this.symm⟩

theorem rowsOf_ok {E : Env} {i : TI} {cs : List AV} {g : Gh} {l : List Value} (hc : RepC cs g l) : ∃ sz, RepE (rowsOf E i cs) g sz l := by
  have one : RepE [cs] g cs.length l := by
    simp only [RepE, and_true, true_and]
    have := hc.toP []
    simpa using this
  unfold rowsOf
  split
  · split
    · rename_i n e _ _ ie _
      cases hq : and (Nat.ble 1 ie.size) (Nat.beq (n * ie.size) cs.length) with
      | false => rw [cond_false]; exact ⟨_, one⟩
      | true =>
        rw [cond_true]
        simp only [Bool.and_eq_true] at hq
        have := Nat.eq_of_beq_eq_true hq.2
        have h2 := RepC.toE n ie.size [] hc this.symm
        rw [List.append_nil] at h2
        exact ⟨_, h2⟩
    · exact ⟨_, one⟩
  · exact ⟨_, one⟩

/-- What an operation that gives a value comes to. -/
def Gives (P : Program) (s : Sem Value) (g : Gh) (h : Heap) (w : World) (r : AV × Heap) : Prop :=
  ∃ g' w' val, s.run P w = .ok val w' ∧ RepV r.1 g' val ∧ HeapOk g' r.2 w' ∧ Ext g h w g' r.2 w'

theorem Gives.pure {P : Program} {s : Sem Value} {g : Gh} {h : Heap} {w : World} {v : AV} (hh : HeapOk g h w) (e : ∃ val, s.run P w = .ok val w ∧ RepV v g val) : Gives P s g h w (v, h) := by
  obtain ⟨val, h1, h2⟩ := e
  exact ⟨g, w, val, h1, h2, hh, Ext.refl g h w⟩

/-- A block that no object has. -/
theorem garbage_ok {g : Gh} {h : Heap} {w w0 : World} (hh : HeapOk g h w) {O : Obj} (hw : w0.heap = (w.alloc O).heap ∧ w0.os = w.os ∧ w0.output = w.output ∧ w0.tape = w.tape) : HeapOk g h w0 ∧ Ext g h w g h w0 := by
  obtain ⟨hw, hos, hout, htape⟩ := hw
  have hold : ∀ b, b < w.heap.size → w0.heap[b]? = w.heap[b]? := fun b hb => by rw [hw, alloc_get, if_neg (by omega)]
  refine ⟨⟨?_, ?_, hh.inj, hh.bnd⟩, ⟨⟨Gh.le.refl g, fun j e => .inl e, ?_, hos, hout, htape, fun b hb _ => hold b hb, fun s hs => hs, fun j _ _ => rfl, Nat.le_refl _, fun _ _ e => .inl e⟩, fun _ h => .inl h⟩⟩
  · intro b l e
    obtain ⟨c, t, fr, e1, e2⟩ := hh.gok b l e
    exact ⟨c, t, fr, (hold b (Array.getElem?_eq_some_iff.1 e1).1).trans e1, e2⟩
  · intro j o e
    have := hh.obj j o e
    exact ⟨this.1, this.2.keep this.1 (Gh.le.refl g) (hold _ (ObjOk.lt hh e)) (fun x => x)⟩
  · rw [hw, World.size_alloc]; omega

theorem slNil_ok {P : Program} {s : Sem Value} {g : Gh} {h : Heap} {w w0 : World} (hh : HeapOk g h w) {O : Obj} (hw : w0.heap = (w.alloc O).heap ∧ w0.os = w.os ∧ w0.output = w.output ∧ w0.tape = w.tape)
    {a : Nat × Nat} (e : s.run P w = .ok (.slice (some ⟨a.1, a.2, none⟩) 0 0) w0) : Gives P s g h w (.isl [] true, h) := by
  obtain ⟨h1, h2⟩ := garbage_ok hh hw
  refine ⟨_, _, _, e, ?_, h1, h2⟩
  simp only [RepV]
  exact .inr ⟨a.1, a.2, 0, 0, [], by simp, by simp, by simp, by simp, by simp [RepE]⟩

theorem newPtr_ok {P : Program} {s : Sem Value} {g : Gh} {h : Heap} {w : World} {slot : Option Nat} (hh : HeapOk g h w) (hs : SlotOk g h slot) {t : TypeId} {E : Env} {i : TI} {cs : List AV} {vs : List Value}
    (hc : RepC cs g vs) (e : s.run P w = .ok (.pointer (some ⟨w.heap.size, 0, none⟩)) (w.alloc (.cells vs.toArray t))) :
    Gives P s g h w (newPtr (h.new slot (.arr t (rowsOf E i cs) false))) := by
  obtain ⟨sz, hr⟩ := rowsOf_ok (E := E) (i := i) hc
  obtain ⟨h1, h2⟩ := new_arr hh hs (w0 := w.alloc (.cells vs.toArray t)) (t := t) (room := vs.length) (lo := 0) (hi := 0) ⟨rfl, rfl, rfl, rfl⟩ (by omega) hr (Nat.le_refl _) hr.length
  refine ⟨_, _, _, e, ?_, h1, h2⟩
  simp only [newPtr, Heap.new_id, RepV]
  exact ⟨put_ok _ _ _ _ _ _, by rw [put_addr]; simp⟩

theorem alloc_ok {E : Env} (hE : EnvOk E) {g : Gh} {h : Heap} {w : World} {slot : Option Nat} (hh : HeapOk g h w) (hs : SlotOk g h slot) {t : TypeId} {r : AV × Heap} (e : allocA E slot t h = some r) (old : Value) :
    Gives E.P (Instr.alloc t true old) g h w r := by
  unfold allocA at e
  cases ht : E.ty.find t with
  | none => rw [ht] at e; cases e
  | some i =>
    rw [ht] at e
    simp only [Option.some.injEq] at e
    subst e
    have hty := hE.ty t i ht
    refine newPtr_ok hh hs (zeroC_ok hty g).1 ?_
    simp [Instr.alloc, run_zero hty, newVar, newRow]

theorem box_ok {E : Env} {g : Gh} {h : Heap} {w : World} {slot : Option Nat} (hh : HeapOk g h w) (hs : SlotOk g h slot) {t : TypeId} {v : AV} {x : Value} (hx : RepV v g x) {r : AV × Heap}
    (e : boxA E slot t v h = some r) : Gives E.P (Instr.box t x) g h w r := by
  unfold boxA at e
  cases ht : E.ty.find t with
  | none => rw [ht] at e; cases e
  | some i =>
    rw [ht] at e
    simp only at e
    cases hc : sizedC i.size v with
    | none => rw [hc] at e; cases e
    | some cs =>
      rw [hc] at e
      simp only [Option.some.injEq] at e
      subst e
      refine newPtr_ok hh hs (sizedC_ok hc hx).1 ?_
      simp [Instr.box, newVar, newRow]

/-! ### Parts put together -/

theorem fold_set (off : Nat) : ∀ (vs : List Value) (k : Nat) (c : Array Value), off + k + vs.length ≤ c.size →
    ((vs.zipIdx k).foldl (fun (cs : Array Value) (p : Value × Nat) => cs.setIfInBounds (off + p.2) p.1) c).toList = splice c.toList (off + k) vs
  | [], k, c, _ => by simp [splice]
  | v :: r, k, c, h => by
    simp only [List.zipIdx_cons, List.foldl_cons]
    rw [fold_set off r (k + 1) (c.setIfInBounds (off + k) v) (by simp at h ⊢; omega)]
    have hlt : off + k < c.size := by simp at h; omega
    have hl : c.toList.length = c.size := by simp
    have hL : c.toList = c.toList.take (off + k) ++ c[off + k] :: c.toList.drop (off + k + 1) := by
      conv => lhs; rw [← List.take_append_drop (off + k) c.toList, List.drop_eq_getElem_cons (by omega)]
      simp
    have hA : (c.toList.take (off + k)).length = off + k := by rw [List.length_take]; omega
    rw [Array.toList_setIfInBounds, hL]
    have := put_step (c.toList.take (off + k)) (c.toList.drop (off + k + 1)) r c[off + k] v
    rw [hA] at this
    simp only [splice, List.length_cons]
    rw [show off + (k + 1) = off + k + 1 by omega]
    exact this

theorem RepC.splice {cs : List AV} {g : Gh} {L : List Value} {k : Nat} {ds : List AV} {vs : List Value} (h : RepC cs g L) (hd : RepC ds g vs) :
    RepC (setRange cs k ds) g (Ax.splice L k vs) := by
  have hl := h.length
  have hdl := hd.length
  unfold setRange Ax.splice
  rw [hdl]
  exact ((h.take k).append hd).append (h.drop _)

inductive All2 {α β : Type} (R : α → β → Prop) : List α → List β → Prop where
  | nil : All2 R [] []
  | cons {a : α} {b : β} {l : List α} {m : List β} : R a b → All2 R l m → All2 R (a :: l) (b :: m)

theorem evParts_ok {g : Gh} {ev : Operand → Option AV} {ρ : Operand → Value} (hev : ∀ x v, ev x = some v → RepV v g (ρ x)) : ∀ {l : List (Nat × Operand)} {ps : List (Nat × AV)}, evParts ev l = some ps →
    ∃ xs : List (Nat × Value), xs = l.map (fun p => (p.1, ρ p.2)) ∧ All2 (fun (p : Nat × AV) (x : Nat × Value) => p.1 = x.1 ∧ RepV p.2 g x.2) ps xs
  | [], ps, e => by simp only [evParts, Option.some.injEq] at e; subst e; exact ⟨[], rfl, .nil⟩
  | (j, o) :: r, ps, e => by
    simp only [evParts] at e
    cases h1 : ev o with
    | none => rw [h1] at e; cases e
    | some v =>
      rw [h1] at e
      simp only at e
      cases h2 : evParts ev r with
      | none => rw [h2] at e; cases e
      | some ps' =>
        rw [h2] at e
        simp only [Option.some.injEq] at e
        subst e
        obtain ⟨xs, rfl, hf⟩ := evParts_ok hev h2
        exact ⟨_, rfl, .cons ⟨rfl, hev o v h1⟩ hf⟩

theorem fill_ok {g : Gh} {place : Nat → Option (Nat × Nat)} {place' : Nat → Option (Nat × Nat)} (hp : ∀ j p, place j = some p → place' j = some p) :
    ∀ {ps : List (Nat × AV)} {xs : List (Nat × Value)} {cs cs' : List AV} {l : Array Value}, All2 (fun (p : Nat × AV) (x : Nat × Value) => p.1 = x.1 ∧ RepV p.2 g x.2) ps xs → RepC cs g l.toList →
      fillA place cs ps = some cs' → ∃ l' : Array Value, Instr.fill place' l xs = some l' ∧ RepC cs' g l'.toList
  | [], _, cs, cs', l, .nil, hc, e => by
    simp only [fillA, Option.some.injEq] at e
    subst e
    exact ⟨l, rfl, hc⟩
  | (j, v) :: r, (j', x) :: xr, cs, cs', l, .cons hd htl, hc, e => by
    obtain ⟨h1, h2⟩ := hd
    simp only at h1 h2
    subst h1
    simp only [fillA] at e
    cases hj : place j with
    | none => rw [hj] at e; cases e
    | some p =>
      obtain ⟨off, size⟩ := p
      rw [hj] at e
      simp only at e
      cases hv : sizedC size v with
      | none => rw [hv] at e; cases e
      | some vs =>
        rw [hv] at e
        simp only at e
        cases hb : Nat.ble (off + size) cs.length with
        | false => rw [hb] at e; cases e
        | true =>
          rw [hb] at e
          simp only [cond_true] at e
          have hle := Nat.le_of_ble_eq_true hb
          obtain ⟨q1, q2⟩ := sizedC_ok hv h2
          have hl := hc.length
          have hl2 := q1.length
          simp only [Array.length_toList] at hl hl2
          have hfold := fold_set off x.cells.toList 0 l (by simp; omega)
          have hcs : RepC (setRange cs off vs) g (splice l.toList off x.cells.toList) := hc.splice q1
          rw [Nat.add_zero] at hfold
          have harr : ∃ l1 : Array Value, (x.cells.zipIdx.foldl (fun (cs : Array Value) (p : Value × Nat) => cs.setIfInBounds (off + p.2) p.1) l) = l1 ∧ l1.toList = splice l.toList off x.cells.toList := by
            refine ⟨_, rfl, ?_⟩
            rw [← Array.foldl_toList, Array.toList_zipIdx]
            exact hfold
          obtain ⟨l1, e1, e2⟩ := harr
          rw [← e2] at hcs
          obtain ⟨l', f1, f2⟩ := fill_ok hp htl hcs e
          refine ⟨l', ?_, f2⟩
          simp only [Instr.fill, hp j _ hj]
          rw [if_neg (by simp only [Bool.or_eq_true, decide_eq_true_eq, ne_eq]; omega)]
          exact (congrArg (fun a => Instr.fill place' a xr) e1).trans f1

theorem aggO_ok {x : Option (List AV)} {v : AV} (e : aggO x = some v) : ∃ cs, x = some cs ∧ v = .agg cs := by
  cases x with
  | none => cases e
  | some cs => simp only [aggO, Option.some.injEq] at e; exact ⟨cs, rfl, e.symm⟩

/-- of a struct's fields all types are known -/
def FldOk (E : Env) : Prop := ∀ t i fields, E.ty.find t = some i → i.desc = .struct fields → ∀ f : Field, f ∈ fields.toList → ∃ fi, E.ty.find f.type = some fi

def plOf (E : Env) (x : Option Field) : Option (Nat × Nat) :=
  match x with
  | some f => match E.ty.find f.type with
    | some i => some (f.offset, i.size)
    | none => none
  | none => none

theorem mapM_sizes {E : Env} (hE : EnvOk E) (w : World) : ∀ (l : List Field), (∀ f : Field, f ∈ l → ∃ fi, E.ty.find f.type = some fi) →
    ∃ ps : List (Nat × Nat), (l.mapM (fun (f : Field) => do pure (f.offset, ← sizeOf f.type)) : Sem (List (Nat × Nat))).run E.P w = .ok ps w ∧
      ∀ (j off size : Nat), plOf E (l[j]?) = some (off, size) → ps[j]? = some (off, size)
  | [], _ => ⟨[], by simp, by simp [plOf]⟩
  | f :: r, h => by
    obtain ⟨fi, hfi⟩ := h f (by simp)
    obtain ⟨ps, h1, h2⟩ := mapM_sizes hE w r (fun f hf => h f (by simp [hf]))
    refine ⟨(f.offset, fi.size) :: ps, ?_, ?_⟩
    · rw [List.mapM_cons]
      simp only [Sem.run_bind, run_size (hE.ty _ _ hfi), Result.andThen_ok, Sem.run_pure, h1]
    · intro j off size e
      cases j with
      | zero => simpa [hfi, plOf] using e
      | succ j => simpa using h2 j off size (by simpa using e)

theorem build_ok {E : Env} (hE : EnvOk E) (hF : FldOk E) {t : TypeId} {ps : List (Nat × AV)} {xs : Array (Nat × Value)} {r : AV} {g : Gh} (w : World)
    (hp : All2 (fun (p : Nat × AV) (x : Nat × Value) => p.1 = x.1 ∧ RepV p.2 g x.2) ps xs.toList) (e : buildA E t ps = some r) :
    ∃ val, (Instr.build t xs).run E.P w = .ok val w ∧ RepV r g val := by
  unfold buildA at e
  cases ht : E.ty.find t with
  | none => rw [ht] at e; cases e
  | some i =>
    rw [ht] at e
    have hty := hE.ty t i ht
    have hu := run_und hty w
    have hz := run_zero hty w
    obtain ⟨z1, z2⟩ := zeroC_ok hty g
    simp only at e
    split at e
    · rename_i fields hd
      rw [hd] at hu
      obtain ⟨cs, hcs, rfl⟩ := aggO_ok e
      obtain ⟨pl, h1, h2⟩ := mapM_sizes hE w fields.toList (hF t i fields ht hd)
      have hpl : ∀ j p, fieldPl E fields j = some p → pl.toArray[j]? = some p := by
        intro j p hj
        obtain ⟨off, size⟩ := p
        have := h2 j off size (by unfold plOf; unfold fieldPl at hj; rw [Array.getElem?_toList]; exact hj)
        simpa using this
      obtain ⟨l', f1, f2⟩ := fill_ok (place' := fun j => pl.toArray[j]?) hpl hp z1 hcs
      have hm : (fields.mapM (fun (f : Field) => do pure (f.offset, ← sizeOf f.type)) : Sem (Array (Nat × Nat))).run E.P w = .ok pl.toArray w := by
        rw [Array.mapM_eq_mapM_toList]
        simp only [Sem.run_map, h1, Result.andThen_ok]
      refine ⟨.agg l', ?_, ?_⟩
      · simp only [Instr.build, Sem.run_bind, hz, Result.andThen_ok, hu, hm]
        simp only [f1, Sem.run_pure]
      · simp only [RepV]
        exact ⟨l'.toList, by simp, f2⟩
    · rename_i n el hd
      rw [hd] at hu
      cases hie : E.ty.find el with
      | none => rw [hie] at e; cases e
      | some ie =>
        rw [hie] at e
        obtain ⟨cs, hcs, rfl⟩ := aggO_ok e
        obtain ⟨l', f1, f2⟩ := fill_ok (place' := fun j => some (j * ie.size, ie.size)) (fun _ _ h => h) hp z1 hcs
        have hsz := run_size (hE.ty _ _ hie) w
        refine ⟨.agg l', ?_, ?_⟩
        · simp only [Instr.build, Sem.run_bind, hz, Result.andThen_ok, hu, hsz]
          simp only [f1, Sem.run_pure]
        · simp only [RepV]
          exact ⟨l'.toList, by simp, f2⟩
    · cases e

theorem RepE.set {es : List (List AV)} {g : Gh} {sz : Nat} {L : List Value} {j : Nat} {cs : List AV} {vs : List Value} (h : RepE es g sz L) (hj : j < es.length) (hc : RepC cs g vs) (hl : cs.length = sz) :
    RepE (es.set j cs) g sz (Ax.splice L (j * sz) vs) := by
  have hj' : es[j]? = some es[j] := List.getElem?_eq_getElem hj
  have h1 := h.get hj'
  have := h.splice1 (k := 0) hj' hc (by omega)
  rw [Nat.add_zero] at this
  have e : setRange es[j] 0 cs = cs := by
    simp only [setRange, List.take_zero, List.nil_append, Nat.zero_add]
    rw [List.drop_eq_nil_of_le (by omega), List.append_nil]
  rwa [e] at this

theorem rows_ok {g : Gh} {size : Nat} : ∀ {ps : List (Nat × AV)} {xs : List (Nat × Value)} {es es' : List (List AV)} {l : Array Value}, All2 (fun (p : Nat × AV) (x : Nat × Value) => p.1 = x.1 ∧ RepV p.2 g x.2) ps xs →
      RepE es g size l.toList → l.size = es.length * size → fillRows size es ps = some es' →
      ∃ l' : Array Value, Instr.fill (fun j => some (j * size, size)) l xs = some l' ∧ RepE es' g size l'.toList ∧ l'.size = l.size
  | [], _, es, es', l, .nil, hr, hl, e => by
    simp only [fillRows, Option.some.injEq] at e
    subst e
    exact ⟨l, rfl, hr, rfl⟩
  | (j, v) :: r, (j', x) :: xr, es, es', l, .cons hd htl, hr, hl, e => by
    obtain ⟨h1, h2⟩ := hd
    simp only at h1 h2
    subst h1
    simp only [fillRows] at e
    cases hv : sizedC size v with
    | none => rw [hv] at e; cases e
    | some vs =>
      rw [hv] at e
      simp only at e
      cases hb : Nat.blt j es.length with
      | false => rw [hb] at e; cases e
      | true =>
        rw [hb] at e
        simp only [cond_true] at e
        have hlt : j < es.length := by simpa using hb
        obtain ⟨q1, q2⟩ := sizedC_ok hv h2
        have hl2 := q1.length
        simp only [Array.length_toList] at hl2
        have hle : (j + 1) * size ≤ es.length * size := Nat.mul_le_mul_right _ hlt
        rw [Nat.succ_mul] at hle
        have hfold := fold_set (j * size) x.cells.toList 0 l (by simp; omega)
        rw [Nat.add_zero] at hfold
        have harr : ∃ l1 : Array Value, (x.cells.zipIdx.foldl (fun (cs : Array Value) (p : Value × Nat) => cs.setIfInBounds (j * size + p.2) p.1) l) = l1 ∧ l1.toList = splice l.toList (j * size) x.cells.toList := by
          refine ⟨_, rfl, ?_⟩
          rw [← Array.foldl_toList, Array.toList_zipIdx]
          exact hfold
        obtain ⟨l1, e1, e2⟩ := harr
        have hs1 : l1.size = l.size := by
          have := splice_len l.toList (j * size) x.cells.toList (by simp; omega)
          rw [← e2] at this
          simpa using this
        have hr1 := hr.set hlt q1 q2
        rw [← e2] at hr1
        obtain ⟨l', f1, f2, f3⟩ := rows_ok htl hr1 (by rw [hs1, hl]; simp) e
        refine ⟨l', ?_, f2, f3.trans hs1⟩
        simp only [Instr.fill]
        rw [if_neg (by simp only [Bool.or_eq_true, decide_eq_true_eq, ne_eq]; omega)]
        exact (congrArg (fun a => Instr.fill (fun j => some (j * size, size)) a xr) e1).trans f1

theorem RepE.replicate {cs : List AV} {g : Gh} {vs : List Value} (hc : RepC cs g vs) : ∀ (n : Nat), RepE (List.replicate n cs) g cs.length (List.replicate n vs).flatten
  | 0 => by simp [RepE]
  | n + 1 => by
    simp only [List.replicate_succ, RepE, List.flatten_cons, true_and]
    refine ⟨hc.toP _, ?_⟩
    rw [← hc.length, List.drop_left, hc.length]
    exact RepE.replicate hc n

theorem range_zero (z : List Value) (n : Nat) (hz : 0 < z.length) :
    ((Array.range (n * z.length)).map fun i => z.toArray[i % z.toArray.size]!).toList = (List.replicate n z).flatten := by
  apply List.ext_getElem?
  intro j
  simp only [Array.toList_map, Array.toList_range, List.getElem?_map, List.size_toArray]
  by_cases hj : j < n * z.length
  · rw [List.getElem?_range hj]
    simp only [Option.map_some]
    have hmod : j % z.length < z.length := Nat.mod_lt _ hz
    have hdiv : j / z.length < n := by rwa [Nat.div_lt_iff_lt_mul hz]
    have key : ∀ (n j : Nat), j / z.length < n → (List.replicate n z).flatten[j]? = z[j % z.length]? := by
      intro n
      induction n with
      | zero => intro j h; exact absurd h (Nat.not_lt_zero _)
      | succ n ih =>
        intro j h
        simp only [List.replicate_succ, List.flatten_cons]
        by_cases hlt : j < z.length
        · rw [List.getElem?_append_left hlt, Nat.mod_eq_of_lt hlt]
        · have h3 : j < (n + 1) * z.length := (Nat.div_lt_iff_lt_mul hz).1 h
          rw [Nat.succ_mul] at h3
          have h4 : (j - z.length) / z.length < n := (Nat.div_lt_iff_lt_mul hz).2 (by omega)
          have e : j % z.length = (j - z.length) % z.length := Nat.mod_eq_sub_mod (by omega)
          rw [List.getElem?_append_right (by omega), ih (j - z.length) h4, e]
    rw [key n j hdiv, List.getElem?_eq_getElem hmod]
    simp [hmod]
  · rw [List.getElem?_eq_none (by simp; omega), List.getElem?_eq_none]
    · rfl
    · simp; omega

theorem newSl_ok {P : Program} {s : Sem Value} {g : Gh} {h : Heap} {w w0 : World} {slot : Option Nat} (hh : HeapOk g h w) (hs : SlotOk g h slot) {t : TypeId} {es : List (List AV)} {sz n cap : Nat}
    {vs : List Value} {lo hi : Nat} (hw : w0.heap = (w.alloc (.cells vs.toArray t (lo, hi))).heap ∧ w0.os = w.os ∧ w0.output = w.output ∧ w0.tape = w.tape)
    (hz : ∀ k, k < vs.length → ¬ (lo ≤ k ∧ k < hi)) (hr : RepE es g sz vs) (hcap : cap * sz ≤ vs.length) (hn : n ≤ cap) (hes : es.length ≤ cap)
    (e : s.run P w = .ok (.slice (some ⟨w.heap.size, 0, none⟩) n cap) w0) : Gives P s g h w (newSl n (h.new slot (.arr t es false))) := by
  obtain ⟨h1, h2⟩ := new_arr hh hs hw hz hr (room := cap * sz) hcap (Nat.mul_le_mul_right _ hes)
  refine ⟨_, _, _, e, ?_, h1, h2⟩
  simp only [newSl, Heap.new_id, RepV]
  refine ⟨put_ok _ _ _ _ _ _, cap, by rw [put_addr]; simp, hn, ?_⟩
  simp [Gh.put]

theorem elemOf_ok {E : Env} (hE : EnvOk E) {t e : TypeId} {ti : TI} (h : elemOf E t = some (e, ti)) : E.P.underlying t = some (.slice e) ∧ TyOk E.P e ti ∧ ∀ w, (underlying t).run E.P w = .ok (.slice e) w := by
  unfold elemOf at h
  cases ht : E.ty.find t with
  | none => rw [ht] at h; cases h
  | some i =>
    rw [ht] at h
    simp only at h
    split at h
    · rename_i e' hd
      cases hie : E.ty.find e' with
      | none => rw [hie] at h; cases h
      | some ie =>
        rw [hie] at h
        simp only [Option.some.injEq, Prod.mk.injEq] at h
        obtain ⟨rfl, rfl⟩ := h
        have hty := hE.ty t i ht
        obtain ⟨info, _, h2, _⟩ := hty
        exact ⟨h2.trans (by rw [hd]), hE.ty _ _ hie, fun w => by have := run_und (hE.ty t i ht) w; rwa [hd] at this⟩
    · cases h

theorem fillRows_len {size : Nat} : ∀ {ps : List (Nat × AV)} {es es' : List (List AV)}, fillRows size es ps = some es' → es'.length = es.length
  | [], es, es', e => by simp only [fillRows, Option.some.injEq] at e; rw [e]
  | (j, v) :: r, es, es', e => by
    simp only [fillRows] at e
    split at e
    · cases hb : Nat.blt j es.length with
      | false => rw [hb] at e; cases e
      | true =>
        rw [hb] at e
        have := fillRows_len (ps := r) e
        simpa using this
    · cases e

theorem buildSlice_ok {E : Env} (hE : EnvOk E) {g : Gh} {h : Heap} {w : World} {slot : Option Nat} (hh : HeapOk g h w) (hs : SlotOk g h slot) {t : TypeId} {len : Nat} {ps : List (Nat × AV)} {xs : Array (Nat × Value)} {r : AV × Heap}
    (hp : All2 (fun (p : Nat × AV) (x : Nat × Value) => p.1 = x.1 ∧ RepV p.2 g x.2) ps xs.toList) (e : buildSliceA E slot t len ps h = some r) : Gives E.P (Instr.buildSlice t len xs) g h w r := by
  unfold buildSliceA at e
  cases hel : elemOf E t with
  | none => rw [hel] at e; cases e
  | some p =>
    obtain ⟨el, ti⟩ := p
    rw [hel] at e
    obtain ⟨_, hti, hu⟩ := elemOf_ok hE hel
    simp only at e
    cases hq : and (Nat.ble 1 ti.size) (Nat.ble (len * ti.size) 16777216) with
    | false => rw [hq] at e; cases e
    | true =>
      rw [hq] at e
      simp only [cond_true] at e
      simp only [Bool.and_eq_true] at hq
      have h1 := Nat.le_of_ble_eq_true hq.1
      have h2 := Nat.le_of_ble_eq_true hq.2
      cases hf : fillRows ti.size (List.replicate len (zeroC ti.zero)) ps with
      | none => rw [hf] at e; cases e
      | some es =>
        rw [hf] at e
        simp only [slRows, Option.some.injEq] at e
        subst e
        obtain ⟨z1, z2⟩ := zeroC_ok hti g
        have zl := z1.length
        rw [z2] at zl
        have hzr := RepE.replicate z1 len
        rw [z2] at hzr
        have hrun : ∀ n, n = len → ((if n * ti.size = 0 then (pure #[] : Sem (Array Value)) else do pure (← zeroValue el).cells)).run E.P w = .ok (if n * ti.size = 0 then #[] else ti.zero.cells) w := by
          intro n _
          split
          · rfl
          · simp [run_zero hti]
        by_cases h0 : len = 0
        · subst h0
          simp only [List.replicate_zero, List.flatten_nil] at hzr hf
          have hps : es = [] ∧ Instr.fill (fun j => some (j * ti.size, ti.size)) #[] xs.toList = some #[] := by
            cases ps with
            | nil =>
              simp only [fillRows, Option.some.injEq] at hf
              generalize hx : xs.toList = xl at hp
              cases hp
              exact ⟨hf.symm, rfl⟩
            | cons p r =>
              obtain ⟨j, v⟩ := p
              simp only [fillRows] at hf
              split at hf
              · exact nomatch (show (none : Option (List (List AV))) = some es from hf)
              · cases hf
          obtain ⟨rfl, hfill⟩ := hps
          refine slNil_ok (a := (w.heap.size, 0)) (w0 := w.alloc (.cells #[] el)) hh ⟨rfl, rfl, rfl, rfl⟩ ?_
          have hr0 : ∀ f : Nat → Value, Array.map f (Array.range 0) = #[] := fun f => by rw [Array.range_zero']; simp
          simp [Instr.buildSlice, hu, run_size hti, hr0, hfill, newRow]
        · have hpos : 0 < len * ti.size := Nat.mul_pos (Nat.pos_of_ne_zero h0) h1
          have hzc : ti.zero.cells = ti.zero.cells.toList.toArray := by simp
          have hrz := range_zero ti.zero.cells.toList len (by omega)
          rw [zl] at hrz
          have hlen : ((List.replicate len ti.zero.cells.toList).flatten).length = len * ti.size := by simp [zl]
          obtain ⟨l', f1, f2, f3⟩ := rows_ok (l := (Array.range (len * ti.size)).map fun i => ti.zero.cells.toList.toArray[i % ti.zero.cells.toList.toArray.size]!) hp (by rw [hrz]; exact hzr) (by simp) hf
          have f4 : l'.size = len * ti.size := by rw [f3]; simp
          have hsn : slNew slot el len h es = newSl len (h.new slot (.arr el es false)) := by
            cases len with
            | zero => exact absurd rfl h0
            | succ n => rfl
          rw [hsn]
          refine newSl_ok (cap := len) (sz := ti.size) (vs := l'.toList) (lo := 0) (hi := 0) (w0 := w.alloc (.cells l' el)) hh hs ⟨by simp, rfl, rfl, rfl⟩ (by omega) f2 (by simp [f4]) (Nat.le_refl _) (by rw [fillRows_len hf]; simp) ?_
          have hne : ¬ len * ti.size = 0 := by omega
          have hng : ¬ len * ti.size > 2 ^ 24 := by
            have : (2 : Nat) ^ 24 = 16777216 := by decide
            omega
          simp only [Array.toArray_toList] at f1
          simp only [Instr.buildSlice, Sem.run_bind, hu, Result.andThen_ok, run_size hti, if_neg hng, Sem.run_pure, if_neg hne, run_zero hti, f1, newRow, run_newObj]
          rfl

end Go.Ax
/-! Lengths, slices, appends, copies. -/
namespace Go.Ax

theorem argT_ok {a : Array TypeId} {t : TypeId} (e : argT a = some t) : a[0]? = some t := by
  unfold argT at e
  split at e
  · rename_i u r h
    simp only [Option.some.injEq] at e
    subst e
    rw [← Array.getElem?_toList, h]
    rfl
  · cases e

theorem len_ok {E : Env} (hE : EnvOk E) {a : Array TypeId} {t ty : TypeId} (ha : argT a = some t) {x v : AV} {h : Heap} (e : lenA E t x h = some v) {g : Gh} {w : World} (hh : HeapOk g h w) {xv : Value} (hx : RepV x g xv) :
    ∃ val, (Builtin.len_ a ty #[xv]).run E.P w = .ok val w ∧ RepV v g val := by
  have h0 := argT_ok ha
  unfold lenA at e
  cases ht : E.ty.find t with
  | none => rw [ht] at e; cases e
  | some i =>
    rw [ht] at e
    have hu := run_und (hE.ty t i ht) w
    simp only at e
    split at e
    · rename_i hd
      rw [hd] at hu
      split at e
      · simp only [Option.some.injEq] at e
        subst e
        simp only [RepV] at hx
        subst hx
        exact ⟨_, by simp [Builtin.len_, h0, hu]; rfl, by simp [RepV, i64A, goInt, ByteArray.size]⟩
      · cases e
    · rename_i hd
      rw [hd] at hu
      split at e
      · simp only [Option.some.injEq] at e
        subst e
        simp only [RepV] at hx
        rcases hx with ⟨rfl, rfl⟩ | ⟨b, o, cap, sz, l, rfl, _⟩
        · exact ⟨_, by simp [Builtin.len_, h0, hu]; rfl, by simp [RepV, i64A, goInt]⟩
        · exact ⟨_, by simp [Builtin.len_, h0, hu]; rfl, by simp [RepV, i64A, goInt]⟩
      · simp only [Option.some.injEq] at e
        subst e
        simp only [RepV] at hx
        obtain ⟨_, cap, rfl, _⟩ := hx
        exact ⟨_, by simp [Builtin.len_, h0, hu]; rfl, by simp [RepV, i64A, goInt]⟩
      · cases e
    · rename_i hd
      rw [hd] at hu
      split at e
      · simp only [Option.some.injEq] at e
        subst e
        simp only [RepV] at hx
        subst hx
        exact ⟨_, by simp [Builtin.len_, h0, hu]; rfl, by simp [RepV, i64A, goInt]⟩
      · rename_i id
        simp only [RepV] at hx
        obtain ⟨_, rfl⟩ := hx
        split at e
        · rename_i es hg
          simp only [Option.some.injEq] at e
          subst e
          obtain ⟨_, ents, clock, b1, b2⟩ := (hh.obj id _ hg).2
          have hl : ∀ {es : List (AV × AV)} {l : List MapEntry}, RepPairs g es l → l.length = es.length := by
            intro es
            induction es with
            | nil => intro l h; simp only [RepPairs] at h; simp [h]
            | cons p r ih =>
              intro l h
              obtain ⟨k, v⟩ := p
              simp only [RepPairs] at h
              obtain ⟨e, l', rfl, _, _, h3⟩ := h
              simp [ih h3]
          have := hl b2
          refine ⟨.int .i64 ents.size, ?_, by simp only [RepV, i64A]; simp at this; rw [this]; rfl⟩
          simp [Builtin.len_, h0, hu, getObj, Sem.run, b1, goInt]
        · cases e
      · cases e
    · rename_i n el hd
      rw [hd] at hu
      simp only [Option.some.injEq] at e
      subst e
      exact ⟨_, by simp [Builtin.len_, h0, hu]; rfl, by simp [RepV, i64A, goInt]⟩
    · rename_i el hd
      rw [hd] at hu
      unfold arrLen at e
      cases hie : E.ty.find el with
      | none => rw [hie] at e; cases e
      | some ie =>
        rw [hie] at e
        have hu2 := run_und (hE.ty _ _ hie) w
        simp only at e
        split at e
        · rename_i n el' hd'
          rw [hd'] at hu2
          simp only [natO, Option.some.injEq] at e
          subst e
          exact ⟨_, by simp [Builtin.len_, h0, hu, hu2]; rfl, by simp [RepV, i64A, goInt]⟩
        · cases e
    · cases e

theorem cap_ok {E : Env} (hE : EnvOk E) {a : Array TypeId} {t ty : TypeId} (ha : argT a = some t) {x v : AV} (e : capA E t x = some v) {g : Gh} {w : World} {xv : Value} (hx : RepV x g xv) :
    ∃ val, (Builtin.cap_ a ty #[xv]).run E.P w = .ok val w ∧ RepV v g val := by
  have h0 := argT_ok ha
  unfold capA at e
  cases hel : elemOf E t with
  | none => rw [hel] at e; cases e
  | some p =>
    obtain ⟨el, ti⟩ := p
    rw [hel] at e
    obtain ⟨_, _, hu⟩ := elemOf_ok hE hel
    simp only at e
    split at e
    · simp only [Option.some.injEq] at e
      subst e
      simp only [RepV] at hx
      rcases hx with ⟨rfl, rfl⟩ | ⟨b, o, cap, sz, l, rfl, _, hc, _⟩
      · exact ⟨_, by simp [Builtin.cap_, h0, hu]; rfl, by simp [RepV, i64A, goInt]⟩
      · exact ⟨_, by simp [Builtin.cap_, h0, hu]; rfl, by rw [hc trivial]; simp [RepV, i64A, goInt]⟩
    · cases e

theorem minA_ok {P : Program} {g : Gh} (w : World) {k : IntKind} : ∀ {r : List AV} {a : Int} {v : AV} {l : List Value}, minA k a r = some v → RepL r g l → ∃ val, (l.foldlM Builtin.min2 (.int k a)).run P w = .ok val w ∧ RepV v g val
  | [], a, v, l, e, h => by
    simp only [minA, Option.some.injEq] at e
    simp only [RepL] at h
    subst e; subst h
    exact ⟨_, rfl, by simp [RepV]⟩
  | x :: r, a, v, l, e, h => by
    simp only [RepL] at h
    obtain ⟨y, l', rfl, h1, h2⟩ := h
    cases x with
    | int k' b =>
      simp only [minA] at e
      simp only [RepV] at h1
      subst h1
      obtain ⟨val, q1, q2⟩ := minA_ok w e h2
      refine ⟨val, ?_, q2⟩
      rw [List.foldlM_cons]
      have : Builtin.min2 (.int k a) (.int k' b) = pure (.int k (bif ltI b a then b else a)) := by
        simp only [Builtin.min2, ltI_eq]
        by_cases h : b < a <;> simp [h]
      rw [this]
      exact q1
    | _ => simp [minA] at e

theorem maxA_ok {P : Program} {g : Gh} (w : World) {k : IntKind} : ∀ {r : List AV} {a : Int} {v : AV} {l : List Value}, maxA k a r = some v → RepL r g l → ∃ val, (l.foldlM Builtin.max2 (.int k a)).run P w = .ok val w ∧ RepV v g val
  | [], a, v, l, e, h => by
    simp only [maxA, Option.some.injEq] at e
    simp only [RepL] at h
    subst e; subst h
    exact ⟨_, rfl, by simp [RepV]⟩
  | x :: r, a, v, l, e, h => by
    simp only [RepL] at h
    obtain ⟨y, l', rfl, h1, h2⟩ := h
    cases x with
    | int k' b =>
      simp only [maxA] at e
      simp only [RepV] at h1
      subst h1
      obtain ⟨val, q1, q2⟩ := maxA_ok w e h2
      refine ⟨val, ?_, q2⟩
      rw [List.foldlM_cons]
      have : Builtin.max2 (.int k a) (.int k' b) = pure (.int k (bif ltI a b then b else a)) := by
        simp only [Builtin.max2, ltI_eq]
        by_cases h : a < b <;> simp [h]
      rw [this]
      exact q1
    | _ => simp [maxA] at e

theorem minmax_ok {P : Program} {g : Gh} (w : World) {mx : Bool} {r : List AV} {v : AV} {l : List Value} (a : Array TypeId) (ty : TypeId) (e : minmaxA mx r = some v) (h : RepL r g l) :
    ∃ val, ((if mx = true then Builtin.max_ a ty l.toArray else Builtin.min_ a ty l.toArray) : Sem Value).run P w = .ok val w ∧ RepV v g val := by
  cases r with
  | nil => simp [minmaxA] at e
  | cons x r =>
    cases x with
    | int k n =>
      simp only [RepL] at h
      obtain ⟨y, l', rfl, h1, h2⟩ := h
      simp only [RepV] at h1
      subst h1
      cases mx with
      | true =>
        simp only [minmaxA] at e
        obtain ⟨val, q1, q2⟩ := maxA_ok (P := P) w e h2
        exact ⟨val, by simpa [Builtin.max_] using q1, q2⟩
      | false =>
        simp only [minmaxA] at e
        obtain ⟨val, q1, q2⟩ := minA_ok (P := P) w e h2
        exact ⟨val, by simpa [Builtin.min_] using q1, q2⟩
    | _ => simp [minmaxA] at e

/-! ### Slicing -/

/-- an operand that may be left out -/
def RepO (g : Gh) (x : Option AV) (v : Option Value) : Prop := match x with
  | none => v = none
  | some a => ∃ b, v = some b ∧ RepV a g b

theorem asNat_range {P : Program} {g : Gh} (w : World) {v : AV} {u : Value} {k y : Nat} (e : asNat v = some k) (h : RepV v g u) (hle : k ≤ y) (code : BoundsCode) : (Instr.sliceBound u y code).run P w = .ok k w := by
  obtain ⟨kk, rfl⟩ := asNat_ok e h
  have : (0 : Int) ≤ k ∧ (k : Int) ≤ y := by omega
  simp [Instr.sliceBound, asIntOf, this]

theorem bounds3_ok {cap : Nat} {x y z : Option Nat} {l h m : Nat} (e : bounds3 cap x y z = some (l, h, m)) : x = some l ∧ y = some h ∧ z = some m ∧ l ≤ h ∧ h ≤ m ∧ m ≤ cap := by
  unfold bounds3 at e
  split at e
  · rename_i a b c
    cases hq : and (and (Nat.ble c cap) (Nat.ble b c)) (Nat.ble a b) with
    | false => rw [hq] at e; cases e
    | true =>
      rw [hq] at e
      simp only [cond_true, Option.some.injEq, Prod.mk.injEq] at e
      obtain ⟨rfl, rfl, rfl⟩ := e
      simp only [Bool.and_eq_true] at hq
      exact ⟨rfl, rfl, rfl, Nat.le_of_ble_eq_true hq.2, Nat.le_of_ble_eq_true hq.1.2, Nat.le_of_ble_eq_true hq.1.1⟩
  · cases e

def capTo (cap m : Nat) : Option AV → Nat
  | none => cap
  | some _ => m

theorem sliceBounds_ok {P : Program} {g : Gh} (w : World) {n cap : Nat} (hc : n ≤ cap) {lo hi mx : Option AV} {l h m : Nat} (e : sliceBoundsA n n lo hi mx = some (l, h, m))
    {lv hv mv : Option Value} (hl : RepO g lo lv) (hh : RepO g hi hv) (hm : RepO g mx mv) (isSl : Bool) :
    (Instr.sliceBounds isSl n cap lv hv mv).run P w = .ok (l, h, capTo cap m mx) w ∧ l ≤ h ∧ h ≤ n ∧ h ≤ m ∧ m ≤ n := by
  unfold sliceBoundsA at e
  have low : ∀ y code, boundO 0 lo = some l → l ≤ y → (lv = none ∧ l = 0) ∨ ∃ u, lv = some u ∧ (Instr.sliceBound u y code).run P w = .ok l w := by
    intro y code h1 h2
    cases lo with
    | none => exact .inl ⟨hl, by simpa [boundO] using h1.symm⟩
    | some v =>
      obtain ⟨u, rfl, hu⟩ := hl
      exact .inr ⟨u, rfl, asNat_range w h1 hu h2 code⟩
  cases mx with
  | none =>
    simp only at e
    simp only [RepO] at hm
    subst hm
    obtain ⟨h1, h2, h3, q1, q2, q3⟩ := bounds3_ok e
    simp only [Option.some.injEq] at h3
    subst h3
    refine ⟨?_, q1, q2, q2, q3⟩
    cases hi with
    | none =>
      simp only [RepO] at hh
      subst hh
      simp only [boundO, Option.some.injEq] at h2
      subst h2
      rcases low n .sliceB h1 q1 with ⟨rfl, rfl⟩ | ⟨u, rfl, hu⟩
      · simp [Instr.sliceBounds, capTo]
      · simp [Instr.sliceBounds, capTo, hu]
    | some v =>
      obtain ⟨uh, rfl, huh⟩ := hh
      have hH := asNat_range (P := P) w h2 huh (y := cap) (by omega) (if isSl then .sliceAcap else .sliceAlen)
      rcases low h .sliceB h1 q1 with ⟨rfl, rfl⟩ | ⟨u, rfl, hu⟩
      · simp [Instr.sliceBounds, capTo, hH]
      · simp [Instr.sliceBounds, capTo, hH, hu]
  | some v =>
    simp only at e
    obtain ⟨um, rfl, hum⟩ := hm
    cases hi with
    | none => cases e
    | some vh =>
      obtain ⟨uh, rfl, huh⟩ := hh
      simp only at e
      obtain ⟨h1, h2, h3, q1, q2, q3⟩ := bounds3_ok e
      refine ⟨?_, q1, by omega, q2, q3⟩
      have hM := asNat_range (P := P) w h3 hum (y := cap) (by omega) (if isSl then .slice3Acap else .slice3Alen)
      have hH := asNat_range (P := P) w h2 huh (y := m) q2 .slice3B
      rcases low h .slice3C h1 q1 with ⟨rfl, rfl⟩ | ⟨u, rfl, hu⟩
      · simp [Instr.sliceBounds, capTo, hM, hH]
      · simp [Instr.sliceBounds, capTo, hM, hH, hu]

theorem isStrT_ok {E : Env} (hE : EnvOk E) {t : TypeId} (e : isStrT E t = true) (w : World) : (underlying t).run E.P w = .ok .string w := by
  unfold isStrT at e
  cases ht : E.ty.find t with
  | none => rw [ht] at e; cases e
  | some i =>
    rw [ht] at e
    have hu := run_und (hE.ty t i ht) w
    simp only at e
    split at e
    · rename_i hd; rw [hd] at hu; exact hu
    · cases e

theorem fits1_ok {size : Nat} {es : List (List AV)} {g : Gh} {sz : Nat} {l : List Value} (h : fits1 size es = true) (hr : RepE es g sz l) : sz = size := by
  cases es with
  | nil => cases h
  | cons e r => exact fitsR_ok (es := e :: r) h hr (by simp)

/-- a part of an object's elements -/
theorem slMid_ok {g : Gh} {id i l hh n size cap : Nat} {es : List (List AV)} {v : AV} {L : List Value} (hr : RepE es g (g.sz id) L) (hok : g.ok id) (e : slMid id i l hh size es = some v)
    (hroom : (i + cap) * g.sz id ≤ g.room id) (h1 : l ≤ hh) (h2 : hh ≤ n) (h3 : n ≤ cap) :
    RepV v g (.slice (some (if cap = l then g.addr id i 0 else (g.addr id i 0).add (l * size))) (hh - l) (cap - l)) := by
  unfold slMid at e
  cases hl : Nat.beq l 0 with
  | true =>
    rw [hl] at e
    simp only [cond_true, Option.some.injEq] at e
    subst e
    have := Nat.eq_of_beq_eq_true hl
    subst this
    simp only [RepV]
    refine ⟨hok, cap, ?_, by omega, hroom⟩
    rw [addr_add _ _ rfl]
    simp [Gh.addr]
  | false =>
    rw [hl] at e
    have hl0 := Nat.ne_of_beq_eq_false hl
    simp only [cond_false] at e
    cases hb : Nat.blt l hh with
    | false =>
      rw [hb] at e
      simp only [cond_false, Option.some.injEq] at e
      subst e
      have : ¬ l < hh := by
        intro hc
        have h' : Nat.blt l hh = true := by simpa using hc
        rw [hb] at h'
        cases h'
      have hlh : l = hh := by omega
      subst hlh
      simp only [RepV]
      refine .inr ?_
      by_cases hc : cap = l
      · exact ⟨g.blk id, (g.addr id i 0).off, cap - l, 0, [], by simp [hc, Gh.addr], by simp, by simp, by simp, by simp [RepE]⟩
      · exact ⟨g.blk id, (g.addr id i 0).off + l * size, cap - l, 0, [], by simp [hc, Gh.addr, addr_add], by simp, by simp, by simp, by simp [RepE]⟩
    | true =>
      rw [hb] at e
      simp only [cond_true] at e
      have hlt : l < hh := by simpa using hb
      cases hf : fits1 size es with
      | false => rw [hf] at e; cases e
      | true =>
        rw [hf] at e
        simp only [cond_true, Option.some.injEq] at e
        subst e
        have hsz := fits1_ok hf hr
        simp only [RepV]
        refine ⟨hok, cap - l, ?_, by omega, ?_⟩
        · rw [if_neg (by omega), addr_add _ _ rfl]
          simp only [Gh.addr, Nat.add_zero, ← hsz, Nat.add_mul, Nat.add_assoc]
        · rw [show i + l + (cap - l) = i + cap by omega]
          exact hroom

theorem slice_ok {E : Env} (hE : EnvOk E) {t : TypeId} {x v : AV} {lo hi mx : Option AV} {h : Heap} (e : sliceA E t x lo hi mx h = some v) {g : Gh} {w : World} (hh : HeapOk g h w) {xv : Value} (hx : RepV x g xv)
    {lv hv mv : Option Value} (hl : RepO g lo lv) (hhi : RepO g hi hv) (hm : RepO g mx mv) : ∃ val, (Instr.sliceAt t xv lv hv mv).run E.P w = .ok val w ∧ RepV v g val := by
  unfold sliceA at e
  split at e
  · -- a text
    rename_i s
    split at e
    · split at e
      · rename_i l hh' m hb
        cases hs : isStrT E t with
        | false => rw [hs] at e; cases e
        | true =>
          rw [hs] at e
          simp only [cond_true, Option.some.injEq] at e
          subst e
          have hu := isStrT_ok hE hs w
          simp only [RepV] at hx
          subst hx
          simp only [RepO] at hm
          subst hm
          obtain ⟨q1, q2, q3, _⟩ := sliceBounds_ok (P := E.P) w (Nat.le_refl _) hb hl hhi (mv := none) rfl false
          refine ⟨.string ((⟨s.toArray⟩ : ByteArray).extract l hh'), ?_, ?_⟩
          · have hsz : (⟨s.toArray⟩ : ByteArray).size = s.length := by simp [ByteArray.size]
            simp [Instr.sliceAt, Instr.slice, hu, hsz, q1]
          · simp only [RepV]
            congr 1
            apply ByteArray.ext
            apply Array.ext'
            rw [ByteArray.data_extract, Array.toList_extract]
            simp [List.extract_eq_take_drop, List.drop_take]
      · cases e
    · cases e
  · -- an immutable slice
    rename_i es clip
    split at e
    · rename_i el ti hel
      split at e
      · rename_i l hh' m hb
        obtain ⟨_, hty, hu⟩ := elemOf_ok hE hel
        have hu := hu w
        have hsz := run_size hty w
        cases hf : fitsR ti.size es with
        | false => rw [hf] at e; cases e
        | true =>
          rw [hf] at e
          simp only [cond_true, Option.some.injEq] at e
          simp only [RepV] at hx
          rcases hx with ⟨rfl, rfl⟩ | ⟨b, o, cap, sz, L, rfl, hcap, hclip, hG, hr⟩
          · obtain ⟨q1, q2, q3, q4, q5⟩ := sliceBounds_ok (P := E.P) w (Nat.le_refl _) hb hl hhi hm true
            simp only [List.length_nil, Nat.le_zero] at q3 q5
            subst q3
            have q2 : l = 0 := by omega
            subst q2
            have : m = 0 := by omega
            subst this
            refine ⟨.slice none 0 0, ?_, ?_⟩
            · cases mx <;> simp only [List.length_nil, capTo] at q1 <;> simp [Instr.sliceAt, Instr.slice, hu, q1, hsz]
            · subst e; simp [RepV]
          · obtain ⟨q1, q2, q3, q4, q5⟩ := sliceBounds_ok (P := E.P) w hcap hb hl hhi hm true
            have hm' : hh' ≤ (capTo cap m mx) ∧ (capTo cap m mx) ≤ cap := by
              unfold capTo
              split
              · exact ⟨by omega, Nat.le_refl _⟩
              · exact ⟨q4, by omega⟩
            have hclip' : (clipTo clip hh' m es.length mx) = true → (capTo cap m mx) = hh' := by
              rcases mx with _ | _
              · intro hq
                simp only [clipTo, Bool.and_eq_true] at hq
                simp only [capTo]
                rw [hclip hq.1, Nat.eq_of_beq_eq_true hq.2]
              · exact fun hq => Nat.eq_of_beq_eq_true hq
            generalize capTo cap m mx = m' at q1 hm' hclip'
            generalize clipTo clip hh' m es.length mx = clip' at e hclip'
            subst e
            refine ⟨.slice (some (if m' = l then ⟨b, o, none⟩ else (⟨b, o, none⟩ : Addr).add (l * ti.size))) (hh' - l) (m' - l), ?_, ?_⟩
            · simp only [Instr.sliceAt, Sem.run_bind, hu, Result.andThen_ok, Instr.slice, q1, hsz, Sem.run_pure]
              split <;> rfl
            · have hlen : ((es.take hh').drop l).length = hh' - l := by simp; omega
              simp only [RepV]
              refine .inr ?_
              by_cases hlh : l = hh'
              · subst hlh
                have hnil : (es.take l).drop l = [] := by simp
                rw [hnil]
                by_cases hc : m' = l
                · exact ⟨b, o, m' - l, 0, [], by simp [hc], by simp, fun hq => by rw [hclip' hq]; simp, by simp, by simp [RepE]⟩
                · exact ⟨b, o + l * ti.size, m' - l, 0, [], by simp [hc, addr_add], by simp, fun hq => by rw [hclip' hq]; simp, by simp, by simp [RepE]⟩
              · have hne : es ≠ [] := by rintro rfl; simp at q3; omega
                have hsz' := fitsR_ok hf hr hne
                refine ⟨b, o + l * ti.size, m' - l, sz, L, ?_, by rw [hlen]; omega, fun hq => by rw [hclip' hq, hlen], fun _ => hG hne, ?_⟩
                · rw [if_neg (by omega), addr_add _ _ rfl, hlen]
                · rw [← List.drop_drop, ← hsz']
                  exact (hr.take hh').drop l
      · cases e
    · cases e
  · -- a slice of an object
    rename_i id i n
    split at e
    · rename_i el ti hel
      split at e
      · rename_i t' es fz hg
        split at e
        · rename_i l hh' m hb
          obtain ⟨_, hty, hu⟩ := elemOf_ok hE hel
          have hu := hu w
          have hsz := run_size hty w
          simp only [RepV] at hx
          obtain ⟨hok, cap, rfl, hcap, hroom⟩ := hx
          obtain ⟨q1, q2, q3, q4, q5⟩ := sliceBounds_ok (P := E.P) w hcap hb hl hhi hm true
          obtain ⟨c, t'', fr, hb', hr⟩ := arr_block hh hg
          split at e
          · cases hq : and (Nat.beq l hh') (Nat.beq m hh') with
            | false => rw [hq] at e; cases e
            | true =>
              rw [hq] at e
              simp only [cond_true, Option.some.injEq] at e
              subst e
              simp only [Bool.and_eq_true] at hq
              have e1 := Nat.eq_of_beq_eq_true hq.1
              have e2 := Nat.eq_of_beq_eq_true hq.2
              subst e1; subst e2
              refine ⟨.slice (some (g.addr id i 0)) 0 0, ?_, ?_⟩
              · simp [Instr.sliceAt, hu, Instr.slice, q1, hsz, capTo]
              · simp only [RepV]
                exact .inr ⟨g.blk id, (g.addr id i 0).off, 0, 0, [], by simp [Gh.addr], by simp, by simp, by simp, by simp [RepE]⟩
          · refine ⟨_, ?_, slMid_ok hr hok e hroom q2 q3 hcap⟩
            simp only [Instr.sliceAt, Sem.run_bind, hu, Result.andThen_ok, Instr.slice, q1, hsz, Sem.run_pure, capTo]
            split <;> rfl
        · cases e
      · cases e
    · cases e
  · -- an array's variable
    rename_i id i
    split at e
    · rename_i ti ht
      split at e
      · rename_i t' es hg
        split at e
        · split at e
          · rename_i n el hd
            split at e
            · rename_i ie hie
              split at e
              · rename_i l hh' m hb
                cases hq : Nat.ble (i + n) es.length with
                | false => rw [hq] at e; cases e
                | true =>
                  rw [hq] at e
                  simp only [cond_true] at e
                  have hle := Nat.le_of_ble_eq_true hq
                  have hu := run_und (hE.ty _ _ ht) w
                  rw [hd] at hu
                  have hsz := run_size (hE.ty _ _ hie) w
                  simp only [RepV] at hx
                  obtain ⟨hok, rfl⟩ := hx
                  simp only [RepO] at hm
                  subst hm
                  obtain ⟨q1, q2, q3, q4, q5⟩ := sliceBounds_ok (P := E.P) w (Nat.le_refl _) hb hl hhi (mv := none) rfl false
                  obtain ⟨_, c, lo', hi', _, _, _, ⟨b3, _⟩, hr⟩ := (hh.obj id _ hg).2
                  have hroom : (i + n) * g.sz id ≤ g.room id := Nat.le_trans (Nat.mul_le_mul_right _ hle) b3
                  refine ⟨_, ?_, slMid_ok hr hok e hroom q2 q3 (Nat.le_refl _)⟩
                  simp only [Instr.sliceAt, Sem.run_bind, hu, Result.andThen_ok, Instr.sureAddr, q1, hsz, Sem.run_pure, capTo]
              · cases e
            · cases e
          · cases e
        · cases e
      · cases e
    · cases e
  · cases e

end Go.Ax
