/- Part of the proof: the evaluator, its soundness, its runs. -/
import GoSem.Dispatch
import Derived.Below
import Derived.Laws.IdiomCopy
import Derived.RangeFuncRecord
import Derived.Deep.Upon
import Derived.Lib.LazyBuf
import Derived.Laws.StructEq
import Derived.Laws.Entries
import Derived.ChangeKeysEq

/- An evaluator of the model's code that draws nothing: values, memory, single operations. Definitions alone. -/
namespace Go.Kn

/-- The evaluator's values: a slice lies inline ('vec': it is never written) or in the evaluator's memory ('msl': block, first cell, length, cells of an element). -/
inductive NV where
  | bool (b : Bool)
  | int (k : IntKind) (n : Int)
  | str (s : List UInt8)
  | nilp
  | ptr (b off : Nat)
  | cptr (cells : List NV) (off : Nat)
  | vec (isNil : Bool) (len : Nat) (cells : List NV)
  | msl (b off len sz : Nat)
  | map (b : Option Nat)
  | fn (f : Fn) (first captured : List NV)
  | nilf
  | iface (t : TypeId) (v : NV)
  | nili
  | rterr
  | unk
  | agg (cells : List NV)
  | tup (vs : List NV)
  deriving Inhabited

def NV.cells : NV → List NV
  | .agg l => l
  | v => [v]

abbrev Env := List (Nat × NV)

inductive MB where
  | dead
  | cells (l : List NV)
  | mobj (es : List (NV × NV))
  | siter (s : List UInt8) (pos : Nat)
  | loop (env : Env) (ps : List Nat) (assign body : Code) (pend : Option Code)
  deriving Inhabited

/-- Memory: the blocks, the newest one first; how many there are; which blocks hold a number of a later one. -/
structure Mem where
  bs : List MB
  n : Nat
  esc : List (Nat × Nat)
  deriving Inhabited

/-- A box: what hangs on the text alone is reckoned once, and stands in a box. -/
structure Bx (α : Type) where
  f : α

inductive CallRes where
  | ret (v : NV) (m : Mem)
  | pan (v : NV) (m : Mem)
  deriving Inhabited

/-- What is known of the program, at hand. -/
structure Tab where
  und : TypeId → Option TypeDesc
  size : TypeId → Option Nat
  zero : TypeId → Option (List NV)
  meth : TypeId → String → Option (FuncId × Bool)
  fn : FuncId → Option Func
  glob : Nat → Option (List NV)
  intr : FuncId → Option (List NV → Mem → Option CallRes)
  keep : FuncId → Nat
  comp : TypeId → Bool
  eqs : TypeId → Bool

def ofScal : Value → Option NV
  | .bool b => some (.bool b)
  | .int k n => some (.int k n)
  | .string s => some (.str s.data.toList)
  | .pointer none => some .nilp
  | .slice none 0 0 => some (.vec true 0 [])
  | .map none => some (.map none)
  | .nilFunc => some .nilf
  | .nilIface => some .nili
  | _ => none

def ofScals : List Value → Option (List NV)
  | [] => some []
  | v :: l => match ofScal v with
    | some x => match ofScals l with
      | some r => some (x :: r)
      | none => none
    | none => none

def ofValue : Value → Option NV
  | .agg cs => (ofScals cs.toList).map .agg
  | .tuple vs => match vs.toList with
    | [] => some (.tup [])
    | _ => none
  | v => ofScal v

def mx (a b : Nat) : Nat := Nat.add a (Nat.sub b a)

mutual
/-- All numbers of blocks in a value lie below this. -/
def maxId : NV → Nat
  | .ptr b _ => b + 1
  | .msl b _ _ _ => b + 1
  | .map b => match b with
    | some b => b + 1
    | none => 0
  | .fn f a c => match f with
    | .yield l => mx (l + 1) (mx (maxIds a) (maxIds c))
    | _ => mx (maxIds a) (maxIds c)
  | .iface _ v => maxId v
  | .agg l => maxIds l
  | .tup l => maxIds l
  | _ => 0
def maxIds : List NV → Nat
  | [] => 0
  | v :: l => mx (maxId v) (maxIds l)
end

/-- Is it a value of one cell? -/
def isCell : NV → Bool
  | .agg _ => false
  | .tup _ => false
  | .unk => false
  | _ => true

def allCells : List NV → Bool
  | [] => true
  | v :: l => match isCell v with
    | true => allCells l
    | false => false

def lookupE : Env → Nat → Option NV
  | [], _ => none
  | (k, v) :: e, t => match Nat.beq k t with
    | true => some v
    | false => lookupE e t

/-- Of an environment the values of the numbers in a mask, each once. -/
def cleanE : Env → Nat → Env
  | [], _ => []
  | (t, v) :: e, live => match live.testBit t with
    | true => (t, v) :: cleanE e (live - 2 ^ t)
    | false => cleanE e live

/-- An operand's value: what hangs on the text alone stands first. -/
def rho (T : Tab) : Operand → Bx (Env → Option NV)
  | .tmp t => .mk fun e => lookupE e t
  | .const v => match ofValue v with
    | some v => .mk fun _ => some v
    | none => .mk fun _ => none
  | .global g => match T.glob g with
    | some l => .mk fun _ => some (.cptr l 0)
    | none => .mk fun _ => none
  | .func f => .mk fun _ => some (.fn (.func f) [] [])

def rhoL (T : Tab) : List Operand → Bx (Env → Option (List NV))
  | [] => .mk fun _ => some []
  | x :: l => .mk fun e => match (rho T x).f e with
    | some v => match (rhoL T l).f e with
      | some r => some (v :: r)
      | none => none
    | none => none

def rhoO (T : Tab) : Option Operand → Bx (Env → Option (Option NV))
  | none => .mk fun _ => some none
  | some x => .mk fun e => match (rho T x).f e with
    | some v => some (some v)
    | none => none

def rhoP (T : Tab) : List (Nat × Operand) → Bx (Env → Option (List (Nat × NV)))
  | [] => .mk fun _ => some []
  | (i, x) :: l => .mk fun e => match (rho T x).f e with
    | some v => match (rhoP T l).f e with
      | some r => some ((i, v) :: r)
      | none => none
    | none => none

def nth {α : Type} : List α → Nat → Option α
  | [], _ => none
  | x :: _, 0 => some x
  | _ :: l, n + 1 => nth l n

def setNth {α : Type} : List α → Nat → α → List α
  | [], _, _ => []
  | _ :: l, 0, y => y :: l
  | x :: l, n + 1, y => x :: setNth l n y

def Mem.get (m : Mem) (b : Nat) : Option MB := match Nat.blt b m.n with
  | true => nth m.bs (m.n - 1 - b)
  | false => none

def Mem.cells (m : Mem) (b : Nat) : Option (List NV) := match m.get b with
  | some (.cells l) => some l
  | _ => none

def Mem.push (m : Mem) (o : MB) : Mem := { m with bs := o :: m.bs, n := m.n + 1 }
def Mem.put (m : Mem) (b : Nat) (o : MB) : Mem := { m with bs := setNth m.bs (m.n - 1 - b) o }

def escAdd (b j : Nat) : List (Nat × Nat) → List (Nat × Nat)
  | [] => [(b, j)]
  | (b', j') :: l => match Nat.beq b b' with
    | true => (b, max j j') :: l
    | false => (b', j') :: escAdd b j l

/-- A value whose numbers lie below j has been stored into block b. -/
def Mem.note (m : Mem) (b j : Nat) : Mem := match Nat.ble j (b + 1) with
  | true => m
  | false => { m with esc := escAdd b j m.esc }

/-- The cells vs in the place of those from off on; none, if there aren't so many. -/
def setAt : List NV → Nat → List NV → Option (List NV)
  | l, 0, [] => some l
  | x :: l, n + 1, vs => match setAt l n vs with
    | some r => some (x :: r)
    | none => none
  | _ :: l, 0, v :: vs => match setAt l 0 vs with
    | some r => some (v :: r)
    | none => none
  | [], _, _ => none

/-- n cells from off on. -/
def readAt : List NV → Nat → Nat → Option (List NV)
  | _, 0, 0 => some []
  | v :: l, 0, n + 1 => match readAt l 0 n with
    | some r => some (v :: r)
    | none => none
  | _ :: l, off + 1, n => readAt l off n
  | [], _, _ => none

def Mem.write (m : Mem) (b off : Nat) (vs : List NV) : Option Mem := match m.cells b with
  | some l => match allCells vs with
    | true => match setAt l off vs with
      | some l' => some ((m.put b (.cells l')).note b (maxIds vs))
      | none => none
    | false => none
  | none => none

def isAggD : TypeDesc → Bool
  | .struct _ => true
  | .array _ _ => true
  | _ => false

def readN (m : Mem) (p : NV) (n : Nat) : Option (List NV) :=
  match p with
  | .ptr b off => match m.cells b with
    | some l => readAt l off n
    | none => none
  | .cptr l off => readAt l off n
  | _ => none

def one : List NV → Option NV
  | [v] => some v
  | _ => none

/-- Cells as a value of a type. -/
def packN (d : TypeDesc) (cs : List NV) : Option NV := match isAggD d with
  | true => some (.agg cs)
  | false => one cs

def loadN (T : Tab) (t : TypeId) : Bx (Mem → NV → Option NV) :=
  match T.und t, T.size t with
  | some d, some n => match isAggD d with
    | true => .mk fun m p => match readN m p n with
      | some cs => some (.agg cs)
      | none => none
    | false => .mk fun m p => match readN m p 1 with
      | some cs => one cs
      | none => none
  | _, _ => .mk fun _ _ => none

def storeN (T : Tab) (t : TypeId) : Bx (Mem → NV → NV → Option Mem) :=
  match T.size t with
  | some n => .mk fun m p v => match p with
    | .ptr b off => match Nat.beq v.cells.length n with
      | true => m.write b off v.cells
      | false => none
    | _ => none
  | none => .mk fun _ _ _ => none

def addOff (p : NV) (n : Nat) : Option NV :=
  match p with
  | .ptr b off => some (.ptr b (off + n))
  | .cptr l off => some (.cptr l (off + n))
  | _ => none

/-- The first n elements of a slice, or of a string, as cells. -/
def elemsN (m : Mem) (size : Nat) (v : NV) (n : Nat) : Option (List NV) :=
  match v with
  | .vec _ _ l => readAt l 0 (n * size)
  | .msl b off _ sz => match Nat.beq sz size with
    | true => match m.cells b with
      | some l => readAt l off (n * size)
      | none => none
    | false => none
  | .str s => match Nat.beq size 1 with
    | true => some ((s.take n).map fun b => .int .u8 b.toNat)
    | false => none
  | _ => none

def lenN : NV → Option Nat
  | .vec _ n _ => some n
  | .msl _ _ n _ => some n
  | .str s => some s.length
  | _ => none

def slen : NV → Option Nat
  | .vec _ n _ => some n
  | .msl _ _ n _ => some n
  | _ => none

inductive OpRes where
  | val (v : NV) (m : Mem)
  | pan (v : NV) (m : Mem)
  | defer (f : NV) (args : List NV) (m : Mem)
  | recover (m : Mem)

/-- No row grows beyond some bound. -/
def few (s : NV) (n : Nat) : Bool := match slen s with
  | some k => Nat.ble (k + n) 1000000
  | none => false

def appendTo (m : Mem) (size : Nat) (s : NV) (n : Nat) (new : List NV) : Option (NV × Mem) := match s with
  | .vec true _ _ => some (.msl m.n 0 n size, m.push (.cells new))
  | .msl b off len sz => match Nat.beq sz size with
    | false => none
    | true => match m.cells b with
      | none => none
      | some l => match Nat.ble (off + (len + n) * size) l.length with
        | true => match m.write b (off + len * size) new with
          | some m' => some (.msl b off (len + n) size, m')
          | none => none
        | false => match allCells new with
          | true => match readAt l off (len * size) with
            | some old => some (.msl m.n 0 (len + n) size, (m.put b .dead).push (.cells (old ++ new)))
            | none => none
          | false => none
  | _ => none

/-- The new elements behind a slice: into its own block, where that is known to have room; else into a new one, and the old one is dead. -/
def appendN (m : Mem) (size : Nat) (s x : NV) : Option (NV × Mem) := match lenN x with
  | none => none
  | some n => match Nat.beq n 0 with
    | true => match slen s with
      | some _ => some (s, m)
      | none => none
    | false => match elemsN m size x n with
      | none => none
      | some new => match few s n with
        | false => none
        | true => appendTo m size s n new

def beqS : NV → NV → Option Bool
  | .bool a, .bool b => some (a == b)
  | .int k a, .int k' b => if k = k' then some (a == b) else none
  | .str a, .str b => some (a == b)
  | _, _ => none

def isNilV : NV → Bool
  | .nilp => true
  | .nili => true
  | .vec n _ _ => n
  | .map b => match b with
    | none => true
    | some _ => false
  | .nilf => true
  | _ => false

/-- Two of which one is nil. -/
def nilEq (x y : NV) : Option Bool := match isNilV x with
  | true => some (isNilV y)
  | false => match isNilV y with
    | true => some false
    | false => none

/-- Is it a value of a type of which some values are nil? -/
def nilKind : TypeDesc → NV → Bool
  | .pointer _, .nilp => true
  | .pointer _, .ptr _ _ => true
  | .pointer _, .cptr _ _ => true
  | .interface _, .nili => true
  | .interface _, .iface _ _ => true
  | .interface _, .rterr => true
  | .slice _, .vec _ _ _ => true
  | .slice _, .msl _ _ _ _ => true
  | .map _ _, .map _ => true
  | .func _ _ _, .nilf => true
  | .func _ _ _, .fn _ _ _ => true
  | _, _ => false

def eqN (T : Tab) (t : TypeId) : Bx (NV → NV → Option Bool) :=
  match T.und t with
  | some .bool => .mk fun x y => match x, y with
    | .bool a, .bool b => some (a == b)
    | _, _ => none
  | some d => .mk fun x y => match nilKind d x && nilKind d y with
    | true => nilEq x y
    | false => none
  | none => .mk fun _ _ => none

def bytesLt : List UInt8 → List UInt8 → Bool
  | _, [] => false
  | [], _ :: _ => true
  | a :: x, b :: y => a < b || (a == b && bytesLt x y)

inductive Scal where
  | val (v : NV)
  | pan

def intBits (op : BinOp) (k : IntKind) (a b : Int) : Option Scal :=
  match op with
  | .and => some (.val (.int k (k.wrap (BitVec.ofInt k.bits a &&& BitVec.ofInt k.bits b).toNat)))
  | .or => some (.val (.int k (k.wrap (BitVec.ofInt k.bits a ||| BitVec.ofInt k.bits b).toNat)))
  | .xor => some (.val (.int k (k.wrap (BitVec.ofInt k.bits a ^^^ BitVec.ofInt k.bits b).toNat)))
  | .andNot => some (.val (.int k (k.wrap (BitVec.ofInt k.bits a &&& ~~~ BitVec.ofInt k.bits b).toNat)))
  | _ => none

def intDiv (op : BinOp) (k : IntKind) (a b : Int) : Option Scal :=
  if b = 0 then some .pan else
  match op with
  | .quo => some (.val (.int k (k.wrap (a.tdiv b))))
  | .rem => some (.val (.int k (a.tmod b)))
  | _ => none

def intBin : BinOp → Bx (IntKind → Int → Int → Option Scal)
  | .add => .mk fun k a b => some (.val (.int k (k.wrap (a + b))))
  | .sub => .mk fun k a b => some (.val (.int k (k.wrap (a - b))))
  | .mul => .mk fun k a b => some (.val (.int k (k.wrap (a * b))))
  | .quo => .mk (intDiv .quo)
  | .rem => .mk (intDiv .rem)
  | .and => .mk (intBits .and)
  | .or => .mk (intBits .or)
  | .xor => .mk (intBits .xor)
  | .andNot => .mk (intBits .andNot)
  | .eql => .mk fun _ a b => some (.val (.bool (a == b)))
  | .neq => .mk fun _ a b => some (.val (.bool (a != b)))
  | .lss => .mk fun _ a b => some (.val (.bool (a < b)))
  | .leq => .mk fun _ a b => some (.val (.bool (a ≤ b)))
  | .gtr => .mk fun _ a b => some (.val (.bool (a > b)))
  | .geq => .mk fun _ a b => some (.val (.bool (a ≥ b)))
  | _ => .mk fun _ _ _ => none

def shiftN (op : BinOp) (k : IntKind) (x y : Int) : Option Scal :=
  if y < 0 then some .pan
  else
    match op with
    | .shl => some (.val (.int k (k.wrap (x * 2 ^ (min y.toNat k.bits)))))
    | .shr => some (.val (.int k (x.fdiv (2 ^ (min y.toNat k.bits)))))
    | _ => none

def isShift : BinOp → Bool
  | .shl => true
  | .shr => true
  | _ => false

def strBin : BinOp → Bx (List UInt8 → List UInt8 → Option Scal)
  | .add => .mk fun a b => match Nat.ble (a.length + b.length) 1000000000 with
    | true => some (.val (.str (a ++ b)))
    | false => none
  | .eql => .mk fun a b => some (.val (.bool (a == b)))
  | .neq => .mk fun a b => some (.val (.bool !(a == b)))
  | .lss => .mk fun a b => some (.val (.bool (bytesLt a b)))
  | .leq => .mk fun a b => some (.val (.bool (bytesLt a b || a == b)))
  | .gtr => .mk fun a b => some (.val (.bool !(bytesLt a b || a == b)))
  | .geq => .mk fun a b => some (.val (.bool !(bytesLt a b)))
  | _ => .mk fun _ _ => none

def isConstO : Operand → Bool
  | .const _ => true
  | _ => false

/-- Two nil values of an interface type: only where one operand is written as nil. -/
def nilNil (c : Bool) (b : Bool) : Option Scal := match c with
  | true => some (.val (.bool b))
  | false => none

def ifaceT (T : Tab) (t : TypeId) : Bool := match T.und t with
  | some (.interface _) => true
  | _ => false

def isNili : NV → Bool
  | .nili => true
  | _ => false

/-- Two values of a type of numbers, texts or truth values. -/
def eqScal (d : TypeDesc) (x y : NV) : Option Bool := match d, x, y with
  | .bool, .bool a, .bool b => some (a == b)
  | .int _, .int k a, .int k' b => if k = k' then some (a == b) else none
  | .string, .str a, .str b => some (a == b)
  | _, _, _ => none

def eqFs (T : Tab) (xs ys : List NV) : List Field → Option Bool
  | [] => some true
  | f :: fs => match T.und f.type, xs[f.offset]?, ys[f.offset]? with
    | some d, some a, some b => match eqScal d a b with
      | some true => eqFs T xs ys fs
      | some false => some false
      | none => none
    | _, _, _ => none

/-- Two values of an interface type, or of a struct's. -/
def eqX (T : Tab) (t : TypeId) : Bx (NV → NV → Option Bool) := match T.und t with
  | some (.interface _) => .mk fun x y => match x, y with
    | .iface tx vx, .iface ty vy => match Nat.beq tx ty with
      | false => some false
      | true => match T.comp tx, T.und tx with
        | true, some d => eqScal d vx vy
        | _, _ => none
    | _, _ => none
  | some (.struct fs) => match T.eqs t with
    | true => .mk fun x y => match x, y with
      | .agg xs, .agg ys => eqFs T xs ys fs.toList
      | _, _ => none
    | false => .mk fun _ _ => none
  | _ => .mk fun _ _ => none

def eqV (T : Tab) (t : TypeId) (x y : NV) : Option Bool := match (eqN T t).f x y with
  | some b => some b
  | none => (eqX T t).f x y

def eqBin (T : Tab) (op : BinOp) (t : TypeId) (c : Bool) : Bx (NV → NV → Option Scal) :=
  match op with
  | .eql => .mk fun x y => match isNili x && isNili y with
    | true => nilNil (c && ifaceT T t) true
    | false => match eqV T t x y with
      | some b => some (.val (.bool b))
      | none => none
  | .neq => .mk fun x y => match isNili x && isNili y with
    | true => nilNil (c && ifaceT T t) false
    | false => match eqV T t x y with
      | some b => some (.val (.bool !b))
      | none => none
  | _ => .mk fun _ _ => none

def sameKind (k k' : IntKind) : Bool := match k, k' with
  | .i8, .i8 => true
  | .i16, .i16 => true
  | .i32, .i32 => true
  | .i64, .i64 => true
  | .u8, .u8 => true
  | .u16, .u16 => true
  | .u32, .u32 => true
  | .u64, .u64 => true
  | _, _ => false

def binN (T : Tab) (op : BinOp) (t : TypeId) (c : Bool) : Bx (NV → NV → Option Scal) :=
  match isShift op with
  | true => .mk fun x y => match x, y with
    | .int k a, .int _ b => shiftN op k a b
    | _, _ => none
  | false => .mk fun x y => match x, y with
    | .int k a, .int k' b => match sameKind k k' with
      | true => (intBin op).f k a b
      | false => none
    | .str a, .str b => (strBin op).f a b
    | x, y => (eqBin T op t c).f x y

def unN (op : UnOp) : Bx (NV → Option Scal) :=
  match op with
  | .neg => .mk fun x => match x with
    | .int k n => (intBin .sub).f k 0 n
    | _ => none
  | .xor => .mk fun x => match x with
    | .int k n => intBits .xor k (if k.signed then -1 else k.max) n
    | _ => none
  | .not => .mk fun x => match x with
    | .bool b => some (.val (.bool !b))
    | _ => none
  | _ => .mk fun _ => none

def fillN (place : Nat → Option (Nat × Nat)) (cells : List NV) : List (Nat × NV) → Option (List NV)
  | [] => some cells
  | (i, v) :: rest => match place i with
    | some p => match Nat.beq v.cells.length p.2 with
      | false => none
      | true => match setAt cells p.1 v.cells with
        | some cs => fillN place cs rest
        | none => none
    | none => none

def repl (z : List NV) : Nat → List NV
  | 0 => []
  | n + 1 => z ++ repl z n

/-- A bound of a slice expression: none: it is no number; 'some none': it is out of range. -/
def boundN (x : Option NV) (other y : Nat) : Option (Option Nat) :=
  match x with
  | none => some (some other)
  | some (.int _ i) => some (if 0 ≤ i ∧ i ≤ y then some i.toNat else none)
  | _ => none

def mapFind (k : NV) : List (NV × NV) → Option (Option NV)
  | [] => some none
  | (k', v) :: l => match beqS k k' with
    | some true => some (some v)
    | some false => mapFind k l
    | none => none

def mapSet (k v : NV) : List (NV × NV) → Option (List (NV × NV))
  | [] => some [(k, v)]
  | (k', v') :: l => match beqS k k' with
    | some true => some ((k, v) :: l)
    | some false => match mapSet k v l with
      | some r => some ((k', v') :: r)
      | none => none
    | none => none

def partN (T : Tab) (t : TypeId) : Bx (List NV → Nat → Option NV) :=
  match T.und t, T.size t with
  | some d, some n => match isAggD d with
    | true => .mk fun cs off => match readAt cs off n with
      | some r => some (.agg r)
      | none => none
    | false => .mk fun cs off => match readAt cs off 1 with
      | some r => one r
      | none => none
  | _, _ => .mk fun _ _ => none

def oPick (c : NV) (a b : Option NV) : Option NV := match c with
  | .bool true => a
  | .bool false => b
  | _ => none

/-- The place of a struct's field, or of an array's element: from which cell on, how many cells. -/
def placeN (T : Tab) (d : TypeDesc) (i : Nat) : Option (Nat × Nat) := match d with
  | .struct fs => match fs[i]? with
    | some f => match T.size f.type with
      | some s => some (f.offset, s)
      | none => none
    | none => none
  | .array _ el => match T.size el with
    | some s => some (i * s, s)
    | none => none
  | _ => none

def oBuild (T : Tab) (t : TypeId) : Bx (List (Nat × NV) → Option NV) :=
  match T.und t, T.zero t with
  | some d, some z => match isAggD d with
    | true => .mk fun ps => match fillN (placeN T d) z ps with
      | some cs => some (.agg cs)
      | none => none
    | false => .mk fun _ => none
  | _, _ => .mk fun _ => none

def elemOf (T : Tab) (t : TypeId) : Option (TypeId × Nat) := match T.und t with
  | some (.slice el) => match T.size el with
    | some s => some (el, s)
    | none => none
  | _ => none

def oBuildSlice (T : Tab) (t : TypeId) (len : Nat) : Bx (Mem → List (Nat × NV) → Option OpRes) :=
  match elemOf T t with
  | some (el, size) => match T.zero el with
    | some z => match Nat.beq z.length size && Nat.ble (len * size) 1000000 with
      | true => .mk fun m ps => match fillN (fun i => some (i * size, size)) (repl z len) ps with
        | some cs => some (.val (.msl m.n 0 len size) (m.push (.cells cs)))
        | none => none
      | false => .mk fun _ _ => none
    | none => .mk fun _ _ => none
  | none => .mk fun _ _ => none

def oNilCheck (m : Mem) (v : NV) : Option OpRes := match v with
  | .ptr _ _ => some (.val v m)
  | .cptr _ _ => some (.val v m)
  | .nilp => some (.pan .rterr m)
  | .nili => some (.pan .rterr m)
  | .nilf => some (.pan .rterr m)
  | .iface _ _ => some (.val v m)
  | .fn (.func _) _ _ => some (.val v m)
  | _ => none

def scalRes (m : Mem) : Option Scal → Option OpRes
  | some (.val v) => some (.val v m)
  | some .pan => some (.pan .rterr m)
  | none => none

def bytesOf : List NV → Option (List UInt8)
  | [] => some []
  | .int .u8 n :: l => match bytesOf l with
    | some r => some (UInt8.ofNat n.toNat :: r)
    | none => none
  | _ => none

def isU8 (d : TypeDesc) : Bool := match d with
  | .int .u8 => true
  | _ => false

def u8Slice (T : Tab) (d : TypeDesc) : Bool := match d with
  | .slice el => match T.und el with
    | some e => isU8 e
    | none => false
  | _ => false

def isSliceD : TypeDesc → Bool
  | .slice _ => true
  | _ => false

def toStr (m : Mem) (x : NV) : Option OpRes := match slen x with
  | some n => match elemsN m 1 x n with
    | some cs => match bytesOf cs with
      | some bs => some (.val (.str bs) m)
      | none => none
    | none => none
  | none => none

def oConvert (T : Tab) (s d : TypeId) : Bx (Mem → NV → Option OpRes) :=
  match T.und s, T.und d with
  | some sd, some dd => match dd with
    | .int k => .mk fun m x => match x with
      | .int _ n => some (.val (.int k (k.wrap n)) m)
      | _ => none
    | .string => match u8Slice T sd with
      | true => .mk toStr
      | false => match isSliceD sd with
        | true => .mk fun _ _ => none
        | false => .mk fun m x => match x with
          | .str l => some (.val (.str l) m)
          | .int _ n => some (.val (.str (Utf8.encode n).data.toList) m)
          | _ => none
    | dd => match u8Slice T dd with
      | true => .mk fun m x => match x with
        | .str s => some (.val (.msl m.n 0 s.length 1) (m.push (.cells (s.map fun b => .int .u8 b.toNat))))
        | .msl b off len sz => match Nat.beq s d with
          | true => match m.cells b with
            | some _ => some (.val (.msl b off len sz) m)
            | none => none
          | false => none
        | _ => none
      | false => match sd, dd with
        | .pointer t, .unsafePointer => match T.size t with
          | some n => match Nat.beq n 0 with
            | true => .mk fun _ _ => none
            | false => .mk fun m x => match x with
              | .ptr b off => match m.cells b with
                | some l => match Nat.blt off l.length with
                  | true => some (.val (.ptr b off) m)
                  | false => none
                | none => none
              | _ => none
          | none => .mk fun _ _ => none
        | _, _ => .mk fun _ _ => none
  | _, _ => .mk fun _ _ => none

def isIfaceD : TypeDesc → Bool
  | .interface _ => true
  | _ => false

def oMakeInterface (T : Tab) (t : TypeId) : Bx (Mem → NV → Option OpRes) :=
  match T.und t with
  | some d => match isIfaceD d with
    | true => .mk fun _ _ => none
    | false => .mk fun m x => some (.val (.iface t x) m)
  | none => .mk fun _ _ => none

def oMakeSlice (T : Tab) (t : TypeId) : Bx (Mem → NV → NV → Option OpRes) :=
  match elemOf T t with
  | some (el, size) => match T.zero el with
    | some z => match Nat.beq z.length size && Nat.blt 0 size with
      | true => .mk fun m l c => match l, c with
        | .int .i64 l, .int .i64 c => if 0 ≤ l ∧ l ≤ c ∧ c ≤ 100000 then some (.val (.msl m.n 0 l.toNat size) (m.push (.cells (repl z c.toNat)))) else none
        | _, _ => none
      | false => .mk fun _ _ _ => none
    | none => .mk fun _ _ _ => none
  | none => .mk fun _ _ _ => none

/-- Both bounds of a slice expression whose upper bound may be y at most: none: it can't be told; 'some none': out of range. -/
def boundsN (lo hi : Option NV) (len y : Nat) : Option (Option (Nat × Nat)) :=
  match boundN hi len y with
  | none => none
  | some none => some none
  | some (some h) => match boundN lo 0 h with
    | none => none
    | some none => some none
    | some (some l) => some (some (l, h))

def oSliceStr (m : Mem) (s : List UInt8) (lo hi : Option NV) : Option OpRes :=
  match boundsN lo hi s.length s.length with
  | none => none
  | some none => some (.pan .rterr m)
  | some (some (l, h)) => some (.val (.str ((s.drop l).take (h - l))) m)

def oSliceVec (m : Mem) (size : Nat) (n : Bool) (len : Nat) (cs : List NV) (lo hi : Option NV) : Option OpRes :=
  match boundsN lo hi len len with
  | some (some (l, h)) => match readAt cs (l * size) ((h - l) * size) with
    | some r => some (.val (.vec n (h - l) r) m)
    | none => none
  | _ => none

def oSliceMsl (m : Mem) (size b off len sz : Nat) (lo hi : Option NV) : Option OpRes :=
  match m.cells b with
  | some cl => match Nat.beq sz size && Nat.blt 0 size && Nat.ble off cl.length with
    | true => match boundsN lo hi len ((cl.length - off) / size) with
      | some (some (l, h)) => some (.val (.msl b (off + l * size) (h - l) size) m)
      | _ => none
    | false => none
  | none => none

/-- A slice of an array that ends its block. -/
def oSliceArr (m : Mem) (n size b off : Nat) (lo hi : Option NV) : Option OpRes :=
  match m.cells b with
  | some cl => match Nat.beq (off + n * size) cl.length && Nat.blt 0 size with
    | true => match boundsN lo hi n n with
      | some (some (l, h)) => some (.val (.msl b (off + l * size) (h - l) size) m)
      | _ => none
    | false => none
  | none => none

def oSlice (T : Tab) (t : TypeId) : Bx (Mem → NV → Option NV → Option NV → Option OpRes) :=
  match T.und t with
  | some .string => .mk fun m x lo hi => match x with
    | .str s => oSliceStr m s lo hi
    | _ => none
  | some (.slice el) => match T.size el with
    | some size => .mk fun m x lo hi => match x with
      | .vec n len cs => oSliceVec m size n len cs lo hi
      | .msl b off len sz => oSliceMsl m size b off len sz lo hi
      | _ => none
    | none => .mk fun _ _ _ _ => none
  | some (.array n el) => match T.size el with
    | some size => .mk fun m x lo hi => match x with
      | .ptr b off => oSliceArr m n size b off lo hi
      | _ => none
    | none => .mk fun _ _ _ _ => none
  | _ => .mk fun _ _ _ _ => none

/-- A slice with three bounds: they are looked at, and nothing is known of the result. -/
def oSlice3 (T : Tab) (t : TypeId) : Bx (Mem → NV → Option NV → Option NV → NV → Option OpRes) :=
  match T.und t with
  | some (.slice el) => match T.size el with
    | some _ => .mk fun m x lo hi mx => match x, hi with
      | .msl _ _ len _, some hi => match boundN (some mx) 0 len with
        | some (some c) => match boundsN lo (some hi) 0 c with
          | some (some _) => some (.val .unk m)
          | _ => none
        | _ => none
      | _, _ => none
    | none => .mk fun _ _ _ _ _ => none
  | _ => .mk fun _ _ _ _ _ => none

def fieldOf (T : Tab) (t : TypeId) (i : Nat) : Option Field := match T.und t with
  | some (.struct fs) => fs[i]?
  | _ => none

def oFieldAddr (T : Tab) (s : TypeId) (f : Nat) : Bx (NV → Option NV) :=
  match fieldOf T s f with
  | some fd => match T.size fd.type with
    | some size => match Nat.beq size 0 with
      | true => .mk fun _ => none
      | false => .mk fun x => addOff x fd.offset
    | none => .mk fun _ => none
  | none => .mk fun _ => none

def oField (T : Tab) (s : TypeId) (f : Nat) : Bx (NV → Option NV) :=
  match fieldOf T s f with
  | some fd => .mk fun x => match x with
    | .agg cs => (partN T fd.type).f cs fd.offset
    | _ => none
  | none => .mk fun _ => none

def oIndexAddr (T : Tab) (t : TypeId) : Bx (Mem → NV → NV → Option OpRes) :=
  match T.und t with
  | some (.array n el) => match T.size el with
    | some size => .mk fun m x i => match i with
      | .int _ i => if 0 ≤ i ∧ i < n then (match addOff x (i.toNat * size) with
          | some p => some (.val p m)
          | none => none) else none
      | _ => none
    | none => .mk fun _ _ _ => none
  | some (.slice el) => match T.size el with
    | some size => .mk fun m x i => match i with
      | .int _ i => match x with
        | .vec _ len cs => if 0 ≤ i ∧ i < len then some (.val (.cptr cs (i.toNat * size)) m) else some (.pan .rterr m)
        | .msl b off len sz => match Nat.beq sz size with
          | true => if 0 ≤ i ∧ i < len then some (.val (.ptr b (off + i.toNat * size)) m) else some (.pan .rterr m)
          | false => none
        | _ => none
      | _ => none
    | none => .mk fun _ _ _ => none
  | _ => .mk fun _ _ _ => none

def oIndex (T : Tab) (t : TypeId) : Bx (Mem → NV → NV → Option OpRes) :=
  match T.und t with
  | some .string => .mk fun m x i => match x, i with
    | .str s, .int _ i => match (if 0 ≤ i then nth s i.toNat else none) with
      | some b => some (.val (.int .u8 b.toNat) m)
      | none => some (.pan .rterr m)
    | _, _ => none
  | some (.array n el) => match T.size el with
    | some size => .mk fun m x i => match x, i with
      | .agg cs, .int _ i => if 0 ≤ i ∧ i < n then (match (partN T el).f cs (i.toNat * size) with
          | some p => some (.val p m)
          | none => none) else none
      | _, _ => none
    | none => .mk fun _ _ _ => none
  | _ => .mk fun _ _ _ => none

def keyKind (d : TypeDesc) (k : NV) : Bool := match d, k with
  | .int _, .int _ _ => true
  | .string, .str _ => true
  | _, _ => false

def zeroV (T : Tab) (t : TypeId) : Option NV := match T.und t, T.zero t with
  | some d, some z => packN d z
  | _, _ => none

def mapOf (m : Mem) (x : NV) : Option (List (NV × NV)) := match x with
  | .map none => some []
  | .map (some b) => match m.get b with
    | some (.mobj es) => some es
    | _ => none
  | _ => none

def okV (ok : Bool) (v : NV) (is : Bool) : NV := match ok with
  | true => .tup [v, .bool is]
  | false => v

def oLookup (T : Tab) (t : TypeId) (ok : Bool) : Bx (Mem → NV → NV → Option OpRes) :=
  match T.und t with
  | some (.map kt el) => match T.und kt, zeroV T el with
    | some kd, some z => .mk fun m x k => match keyKind kd k with
      | true => match mapOf m x with
        | some es => match mapFind k es with
          | some (some v) => some (.val (okV ok v true) m)
          | some none => some (.val (okV ok z false) m)
          | none => none
        | none => none
      | false => none
    | _, _ => .mk fun _ _ _ => none
  | _ => .mk fun _ _ _ => none

def oMapUpdate (T : Tab) (t : TypeId) : Bx (Mem → NV → NV → NV → Option OpRes) :=
  match T.und t with
  | some (.map kt _) => match T.und kt with
    | some kd => .mk fun m x k v => match keyKind kd k, x with
      | true, .map (some b) => match m.get b with
        | some (.mobj es) => match mapSet k v es with
          | some es' => some (.val (.tup []) ((m.put b (.mobj es')).note b (maxId v)))
          | none => none
        | _ => none
      | _, _ => none
    | none => .mk fun _ _ _ _ => none
  | _ => .mk fun _ _ _ _ => none

def oTypeAssert (T : Tab) (t : TypeId) (ok : Bool) : Bx (Mem → NV → Option OpRes) :=
  match T.und t with
  | some d => match isIfaceD d with
    | true => .mk fun _ _ => none
    | false => .mk fun m x => match x with
      | .iface t' v => match Nat.beq t' t with
        | true => some (.val (okV ok v true) m)
        | false => match ok, zeroV T t with
          | true, some z => some (.val (.tup [z, .bool false]) m)
          | _, _ => none
      | _ => none
  | none => .mk fun _ _ => none

def oExtract (x : NV) (i : Nat) : Option NV := match x with
  | .tup vs => nth vs i
  | _ => none

def oPanic (m : Mem) (x : NV) : Option OpRes := match x with
  | .iface _ _ => some (.pan x m)
  | .rterr => some (.pan x m)
  | _ => none

def oRange (T : Tab) (t : TypeId) : Bx (Mem → NV → Option OpRes) :=
  match T.und t with
  | some .string => .mk fun m x => match x with
    | .str s => some (.val (.ptr m.n 0) (m.push (.siter s 0)))
    | _ => none
  | _ => .mk fun _ _ => none

def oNext (m : Mem) (x : NV) : Option OpRes := match x with
  | .ptr b 0 => match m.get b with
    | some (.siter s pos) => match Nat.blt pos s.length with
      | true => some (.val (.tup [.bool true, .int .i64 pos, .int .i32 (Utf8.decode ⟨⟨s⟩⟩ pos).1]) (m.put b (.siter s (pos + (Utf8.decode ⟨⟨s⟩⟩ pos).2))))
      | false => some (.val (.tup [.bool false]) m)
    | _ => none
  | _ => none

def intV (n : Nat) : NV := .int .i64 n

def oLen (T : Tab) (t : TypeId) : Bx (Mem → NV → Option OpRes) :=
  match T.und t with
  | some .string => .mk fun m x => match x with
    | .str s => some (.val (intV s.length) m)
    | _ => none
  | some (.slice _) => .mk fun m x => match slen x with
    | some n => some (.val (intV n) m)
    | none => none
  | some (.array n _) => .mk fun m _ => some (.val (intV n) m)
  | some (.map _ _) => .mk fun m x => match mapOf m x with
    | some es => some (.val (intV es.length) m)
    | none => none
  | _ => .mk fun _ _ => none

def oAppend (T : Tab) (t : TypeId) : Bx (Mem → NV → NV → Option OpRes) :=
  match elemOf T t with
  | some (el, size) => match T.zero el with
    | some z => match Nat.beq z.length size && Nat.blt 0 size with
      | true => .mk fun m s x => match appendN m size s x with
        | some r => some (.val r.1 r.2)
        | none => none
      | false => .mk fun _ _ _ => none
    | none => .mk fun _ _ _ => none
  | none => .mk fun _ _ _ => none

def oCopy (T : Tab) (t : TypeId) : Bx (Mem → NV → NV → Option OpRes) :=
  match elemOf T t with
  | some (_, size) => .mk fun m d s => match lenN s, slen d with
    | some ls, some ld => match elemsN m size s (min ls ld) with
      | some cs => match d with
        | .msl b off _ sz => match Nat.beq sz size with
          | true => match m.write b off cs with
            | some m' => some (.val (intV (min ls ld)) m')
            | none => none
          | false => none
        | .vec _ _ _ => match Nat.beq (min ls ld) 0 with
          | true => some (.val (intV 0) m)
          | false => none
        | _ => none
      | none => none
    | _, _ => none
  | none => .mk fun _ _ _ => none

def oClear (T : Tab) (t : TypeId) : Bx (Mem → NV → Option OpRes) :=
  match elemOf T t with
  | some (el, size) => match T.zero el with
    | some z => match Nat.beq z.length size with
      | true => .mk fun m x => match x with
        | .msl b off n sz => match Nat.beq sz size with
          | true => match m.write b off (repl z n) with
            | some m' => some (.val (.tup []) m')
            | none => none
          | false => none
        | .vec _ n _ => match Nat.beq n 0 with
          | true => some (.val (.tup []) m)
          | false => none
        | _ => none
      | false => .mk fun _ _ => none
    | none => .mk fun _ _ => none
  | none => .mk fun _ _ => none

def minF : Int → List NV → Option Int
  | x, [] => some x
  | x, .int .i64 y :: l => minF (if y < x then y else x) l
  | _, _ => none
def maxF : Int → List NV → Option Int
  | x, [] => some x
  | x, .int .i64 y :: l => maxF (if y > x then y else x) l
  | _, _ => none
def oMin (m : Mem) (l : List NV) : Option OpRes := match l with
  | .int .i64 x :: l => (minF x l).map fun x => .val (.int .i64 x) m
  | _ => none
def oMax (m : Mem) (l : List NV) : Option OpRes := match l with
  | .int .i64 x :: l => (maxF x l).map fun x => .val (.int .i64 x) m
  | _ => none

def hd2 : List NV → Option (NV × NV)
  | [x, y] => some (x, y)
  | _ => none

def at1 (k : NV → Option OpRes) (args : List NV) : Option OpRes := match args with
  | [x] => k x
  | _ => none
def at2 (k : NV → NV → Option OpRes) (args : List NV) : Option OpRes := match args with
  | [x, y] => k x y
  | _ => none

/-- The forms of append whose second argument is no slice and no string are left out. -/
def sliceLike (T : Tab) (t : TypeId) : Bool := match T.und t with
  | some (.slice _) => true
  | some .string => true
  | _ => false

def builtinN (T : Tab) (b : Builtin) (ats : List TypeId) : Bx (Mem → List NV → Option OpRes) :=
  match b with
  | .len => match nth ats 0 with
    | some t => .mk fun m => at1 ((oLen T t).f m)
    | none => .mk fun _ _ => none
  | .append => match nth ats 0, nth ats 1 with
    | some t, some u => match sliceLike T u with
      | true => .mk fun m => at2 ((oAppend T t).f m)
      | false => .mk fun _ _ => none
    | _, _ => .mk fun _ _ => none
  | .copy => match nth ats 0 with
    | some t => .mk fun m => at2 ((oCopy T t).f m)
    | none => .mk fun _ _ => none
  | .clear => match nth ats 0 with
    | some t => .mk fun m => at1 ((oClear T t).f m)
    | none => .mk fun _ _ => none
  | .min => .mk oMin
  | .max => .mk oMax
  | .recover => .mk fun m args => match args with
    | [] => some (.recover m)
    | _ => none
  | .panic => .mk fun m => at1 (oPanic m)
  | _ => .mk fun _ _ => none

def valOf (m : Mem) (v : Option NV) : Option OpRes := match v with
  | some v => some (.val v m)
  | none => none

def o1 (T : Tab) (x : Operand) (k : Mem → NV → Option OpRes) (e : Env) (m : Mem) : Option OpRes := match (rho T x).f e with
  | some v => k m v
  | none => none
def o2 (T : Tab) (x y : Operand) (k : Mem → NV → NV → Option OpRes) (e : Env) (m : Mem) : Option OpRes := match (rho T x).f e with
  | some v => match (rho T y).f e with
    | some u => k m v u
    | none => none
  | none => none
def o3 (T : Tab) (x y z : Operand) (k : Mem → NV → NV → NV → Option OpRes) (e : Env) (m : Mem) : Option OpRes := match (rho T x).f e with
  | some v => match (rho T y).f e with
    | some u => match (rho T z).f e with
      | some w => k m v u w
      | none => none
    | none => none
  | none => none
def oP (T : Tab) (ps : List (Nat × Operand)) (k : Mem → List (Nat × NV) → Option OpRes) (e : Env) (m : Mem) : Option OpRes := match (rhoP T ps).f e with
  | some l => k m l
  | none => none
def oL (T : Tab) (xs : List Operand) (k : Mem → List NV → Option OpRes) (e : Env) (m : Mem) : Option OpRes := match (rhoL T xs).f e with
  | some l => k m l
  | none => none

def oStore (T : Tab) (t : TypeId) (m : Mem) (p v : NV) : Option OpRes := match (storeN T t).f m p v with
  | some m' => some (.val (.tup []) m')
  | none => none

def oAlloc (T : Tab) (t : TypeId) : Bx (Env → Mem → Option OpRes) := match T.zero t with
  | some z => .mk fun _ m => some (.val (.ptr m.n 0) (m.push (.cells z)))
  | none => .mk fun _ _ => none

def isUnk : NV → Bool
  | .unk => true
  | _ => false

def oBox (m : Mem) (v : NV) : Option OpRes := match isUnk v with
  | true => none
  | false => some (.val (.ptr m.n 0) (m.push (.cells v.cells)))

def oPickO (T : Tab) (a b : Operand) (e : Env) (m : Mem) (c : NV) : Option OpRes := valOf m (oPick c ((rho T a).f e) ((rho T b).f e))

def oDefer (T : Tab) (c : Call) : Bx (Env → Mem → Option OpRes) := match c.callee with
  | .value f => .mk fun e m => match (rho T f).f e with
    | some (.fn (.func g) first cap) => match (rhoL T c.args.toList).f e with
      | some args => some (.defer (.fn (.func g) first cap) args m)
      | none => none
    | _ => none
  | _ => .mk fun _ _ => none

def oMakeFunc (T : Tab) (f : Fn) (a b : List Operand) : Bx (Env → Mem → Option OpRes) := match f with
  | .func _ => .mk fun e m => match (rhoL T a).f e with
    | some x => match (rhoL T b).f e with
      | some y => some (.val (.fn f x y) m)
      | none => none
    | none => none
  | _ => .mk fun _ _ => none

def oSliceO (T : Tab) (t : TypeId) (x : Operand) (lo hi mx : Option Operand) (e : Env) (m : Mem) : Option OpRes :=
  match (rho T x).f e, (rhoO T lo).f e, (rhoO T hi).f e, (rhoO T mx).f e with
  | some v, some l, some h, some none => (oSlice T t).f m v l h
  | some v, some l, some h, some (some x) => (oSlice3 T t).f m v l h x
  | _, _, _, _ => none

def oPickX (T : Tab) (c a b : Operand) (e : Env) : Mem → Option OpRes := o1 T c (oPickO T a b e) e

def oMove (m : Mem) (v : NV) : Option OpRes := some (.val v m)

/-- An operation that calls no function: what hangs on the text alone stands first. -/
def opN (T : Tab) (o : Op) : Bx (Env → Mem → Option OpRes) :=
  match o with
  | .move x => .mk (o1 T x oMove)
  | .assign x => .mk (o1 T x oMove)
  | .pick c a b => .mk (oPickX T c a b)
  | .alloc t => oAlloc T t
  | .box _ x => .mk (o1 T x oBox)
  | .build t ps => .mk (oP T ps.toList fun m l => valOf m ((oBuild T t).f l))
  | .buildSlice t len ps => .mk (oP T ps.toList (oBuildSlice T t len).f)
  | .load t a => .mk (o1 T a fun m p => valOf m ((loadN T t).f m p))
  | .store t a v => .mk (o2 T a v (oStore T t))
  | .nilCheck x => .mk (o1 T x oNilCheck)
  | .binOp op t x y _ => .mk (o2 T x y fun m v u => scalRes m ((binN T op t (isConstO x || isConstO y)).f v u))
  | .unOp op _ x => .mk (o1 T x fun m v => scalRes m ((unN op).f v))
  | .convert s d x => .mk (o1 T x (oConvert T s d).f)
  | .makeInterface t x => .mk (o1 T x (oMakeInterface T t).f)
  | .makeFunc f a b => oMakeFunc T f a.toList b.toList
  | .makeMap _ none => .mk fun _ m => some (.val (.map (some m.n)) (m.push (.mobj [])))
  | .makeSlice t l c => .mk (o2 T l c (oMakeSlice T t).f)
  | .slice t x lo hi mx => .mk (oSliceO T t x lo hi mx)
  | .fieldAddr s x f => .mk (o1 T x fun m v => valOf m ((oFieldAddr T s f).f v))
  | .field s x f => .mk (o1 T x fun m v => valOf m ((oField T s f).f v))
  | .indexAddr t x i => .mk (o2 T x i (oIndexAddr T t).f)
  | .index t x i => .mk (o2 T x i (oIndex T t).f)
  | .lookup t x i ok => .mk (o2 T x i (oLookup T t ok).f)
  | .mapUpdate t x k v => .mk (o3 T x k v (oMapUpdate T t).f)
  | .insert t x k v => .mk (o3 T x k v (oMapUpdate T t).f)
  | .typeAssert x _ t ok => .mk (o1 T x (oTypeAssert T t ok).f)
  | .extract x i => .mk (o1 T x fun m v => valOf m (oExtract v i))
  | .panic x => .mk (o1 T x oPanic)
  | .range t x => .mk (o1 T x (oRange T t).f)
  | .next x true => .mk (o1 T x oNext)
  | .defer c => oDefer T c
  | .call c => match c.callee with
    | .builtin b => .mk (oL T c.args.toList (builtinN T b c.argTypes.toList).f)
    | _ => .mk fun _ _ => none
  | _ => .mk fun _ _ => none

end Go.Kn

namespace Go.Kn

mutual
def beqV : NV → NV → Bool
  | .bool a, .bool b => a == b
  | .int k a, .int k' b => decide (k = k') && a == b
  | .str a, .str b => a == b
  | .nilp, .nilp => true
  | .ptr b o, .ptr b' o' => Nat.beq b b' && Nat.beq o o'
  | .cptr l o, .cptr l' o' => beqVs l l' && Nat.beq o o'
  | .vec n k l, .vec n' k' l' => (n == n') && Nat.beq k k' && beqVs l l'
  | .msl b o n z, .msl b' o' n' z' => Nat.beq b b' && Nat.beq o o' && Nat.beq n n' && Nat.beq z z'
  | .map none, .map none => true
  | .map (some b), .map (some b') => Nat.beq b b'
  | .nilf, .nilf => true
  | .iface t v, .iface t' v' => Nat.beq t t' && beqV v v'
  | .nili, .nili => true
  | .agg l, .agg l' => beqVs l l'
  | .tup l, .tup l' => beqVs l l'
  | _, _ => false
def beqVs : List NV → List NV → Bool
  | [], [] => true
  | x :: l, y :: r => beqV x y && beqVs l r
  | _, _ => false
end

abbrev Caller := FuncId → List NV → Mem → Option CallRes
abbrev Yielder := Nat → List NV → Mem → Option CallRes

/-- What a frame has beside its variables: its deferred calls; in a deferred call, what may be recovered, and whether it was. -/
structure Fr where
  ds : List (NV × List NV)
  rc : Option (Option NV)
  took : Bool

def callFn (T : Tab) (C : Caller) (f : FuncId) (args : List NV) (m : Mem) : Option CallRes :=
  match T.intr f with
  | some g => g args m
  | none => C f args m

def callV (T : Tab) (C : Caller) (Y : Yielder) (f : NV) (args : List NV) (m : Mem) : Option CallRes :=
  match f with
  | .fn (.func f) first cap => callFn T C f (first ++ args ++ cap) m
  | .fn (.yield l) [] [] => Y l args m
  | .nilf => some (.pan .rterr m)
  | _ => none

def isPtrD : TypeDesc → Bool
  | .pointer _ => true
  | _ => false

def callI (T : Tab) (C : Caller) (x : NV) (name : String) (args : List NV) (m : Mem) : Option CallRes :=
  match x with
  | .iface t v => match T.meth t name, T.und t with
    | some (f, p), some d => match p == isPtrD d with
      | true => callFn T C f (v :: args) m
      | false => none
    | _, _ => none
  | _ => none

/-- What an operation is done with: the functions, the loops over functions. -/
structure Ctx where
  C : Caller
  Y : Yielder

def noCtx : Ctx := ⟨fun _ _ _ => none, fun _ _ _ => none⟩

def resOf : Option CallRes → Option OpRes
  | some (.ret v m) => some (.val v m)
  | some (.pan v m) => some (.pan v m)
  | none => none

def isCall : Op → Bool
  | .call c => match c.callee with
    | .builtin _ => false
    | _ => true
  | _ => false

def callB (T : Tab) (c : Call) : Bx (Ctx → Env → Mem → Option OpRes) := match c.callee with
  | .value f => .mk fun x e m => match (rhoL T c.args.toList).f e, (rho T f).f e with
    | some args, some f => resOf (callV T x.C x.Y f args m)
    | _, _ => none
  | .invoke r name => .mk fun x e m => match (rhoL T c.args.toList).f e, (rho T r).f e with
    | some args, some r => resOf (callI T x.C r name args m)
    | _, _ => none
  | .builtin _ => .mk fun _ _ _ => none

def stepB (T : Tab) (o : Op) : Bx (Ctx → Env → Mem → Option OpRes) := match o with
  | .call c => match isCall (.call c) with
    | true => callB T c
    | false => .mk fun _ => (opN T (.call c)).f
  | o => .mk fun _ => (opN T o).f

def putE (e : Env) (d : Option Nat) (v : NV) : Env := match d with
  | some d => (d, v) :: e
  | none => e

def boolIs (w : Bool) : Option NV → Option Bool
  | some (.bool b) => some (b == w)
  | some (.tup _) => some false
  | _ => none

/-- Is an operation to be done? -/
def wantsB (ops : List Oper) (g : Option (Nat × Bool)) : Bx (Env → Option Bool) := match g with
  | none => .mk fun _ => some true
  | some (j, w) => match nth ops j with
    | some o => match o.dst with
      | some d => .mk fun e => boolIs w (lookupE e d)
      | none => .mk fun _ => none
    | none => .mk fun _ => none

inductive Ex where
  | norm
  | exit (id : Nat)
  | ret
  | pan (v : NV)

structure Out where
  ex : Ex
  env : Env
  mem : Mem
  fr : Fr

abbrev Run := Ctx → Env → Mem → Fr → Option Out

def recN (d : Option Nat) (next : Run) (x : Ctx) (e : Env) (m : Mem) (fr : Fr) : Option Out := match fr.rc with
  | some (some v) => next x (putE e d v) m { fr with rc := some none, took := true }
  | some none => next x (putE e d .nili) m fr
  | none => none

def goOn (d : Option Nat) (next : Run) (x : Ctx) (e : Env) (fr : Fr) (r : Option OpRes) : Option Out := match r with
  | some (.val v m) => next x (putE e d v) m fr
  | some (.pan v m) => some ⟨.pan v, e, m, fr⟩
  | some (.defer f args m) => next x (putE e d (.tup [])) m { fr with ds := (f, args) :: fr.ds }
  | some (.recover m) => recN d next x e m fr
  | none => none

def opsB (T : Tab) (ops : List Oper) : List Oper → Bx Run
  | [] => .mk fun _ e m fr => some ⟨.norm, e, m, fr⟩
  | o :: rest => .mk fun x e m fr => match (wantsB ops o.guard).f e with
    | some true => goOn o.dst (opsB T ops rest).f x e fr ((stepB T o.op).f x e m)
    | some false => (opsB T ops rest).f x (putE e o.dst (.tup [])) m fr
    | none => none

def notIn (p : Nat) : List Nat → Bool
  | [] => true
  | q :: l => !Nat.beq p q && notIn p l

/-- A region whose order is open. The kinds of its operations: 0: the memory stays as it is; 2: a new block alone; 1: all else. -/
def kindB (T : Tab) : Op → Nat
  | .alloc t => match T.zero t with
    | some _ => 2
    | none => 1
  | .move _ => 0
  | .assign _ => 0
  | .pick _ _ _ => 0
  | .build _ _ => 0
  | .load _ _ => 0
  | .nilCheck _ => 0
  | .binOp _ _ _ _ _ => 0
  | .unOp _ _ _ => 0
  | .makeInterface _ _ => 0
  | .makeFunc _ _ _ => 0
  | .fieldAddr _ _ _ => 0
  | .field _ _ _ => 0
  | .indexAddr _ _ _ => 0
  | .index _ _ _ => 0
  | .lookup _ _ _ _ => 0
  | .typeAssert _ _ _ _ => 0
  | .extract _ _ => 0
  | .slice _ _ _ _ _ => 0
  | .convert _ d _ => match T.und d with
    | some (.int _) => 0
    | some .string => 0
    | _ => 1
  | .call c => match c.callee with
    | .builtin b => match b with
      | .len => 0
      | .min => 0
      | .max => 0
      | _ => 1
    | _ => 1
  | _ => 1

/-- An operation of such a region: its number, its text, its kind, which ones it stands behind, whether it makes a row that is never written. -/
structure DO where
  i : Nat
  o : Oper
  k : Nat
  b : Nat
  v : Bool

def tmpsOf : List Operand → List Nat
  | [] => []
  | .tmp t :: l => t :: tmpsOf l
  | _ :: l => tmpsOf l

/-- The variables that an operation looks at. -/
def looksL (ops : List Oper) (o : Oper) : List Nat := match o.guard with
  | some (g, _) => match nth ops g with
    | some o' => match o'.dst with
      | some d => d :: tmpsOf o.op.operands.toList
      | none => tmpsOf o.op.operands.toList
    | none => tmpsOf o.op.operands.toList
  | none => tmpsOf o.op.operands.toList

def subB (a b : Nat) : Bool := Nat.beq (Nat.land a b) a

def maskD : List DO → Nat
  | [] => 0
  | d :: l => Nat.lor (Nat.pow 2 d.i) (maskD l)

/-- Is a row read alone? -/
def rowUse (x : Nat) : List Oper → Bool
  | [] => false
  | o :: l => (match o.op with
    | .convert _ _ (.tmp y) => Nat.beq x y
    | .call c => match c.callee, c.args.toList with
      | .builtin .append, [_, .tmp y] => Nat.beq x y
      | _, _ => false
    | _ => false) || rowUse x l

def isRow (ops : List Oper) (o : Oper) : Bool := match o.op, o.dst with
  | .buildSlice _ _ _, some x => rowUse x ops
  | _, _ => false

/-- A row that is never written. -/
def oBuildVec (T : Tab) (t : TypeId) (len : Nat) : Bx (Mem → List (Nat × NV) → Option OpRes) :=
  match elemOf T t with
  | some (el, size) => match T.zero el with
    | some z => match Nat.beq z.length size && Nat.ble (len * size) 1000000 with
      | true => .mk fun m ps => match fillN (fun i => some (i * size, size)) (repl z len) ps with
        | some cs => match Nat.beq (maxIds cs) 0 with
          | true => some (.val (.vec false len cs) m)
          | false => none
        | none => none
      | false => .mk fun _ _ => none
    | none => .mk fun _ _ => none
  | none => .mk fun _ _ => none

def opV (T : Tab) (o : Op) : Bx (Env → Mem → Option OpRes) := match o with
  | .buildSlice t len ps => .mk (oP T ps.toList (oBuildVec T t len).f)
  | _ => .mk fun _ _ => none

def opD (T : Tab) (d : DO) : Bx (Env → Mem → Option OpRes) := match d.v with
  | true => opV T d.o.op
  | false => opN T d.o.op

def dosL (T : Tab) (rw : Bool) (ops : List Oper) (b : Array Nat) : Nat → List Oper → List DO
  | _, [] => []
  | i, o :: l => ⟨i, o, match rw && isRow ops o with
    | true => 0
    | false => kindB T o.op, b.getD i 0, rw && isRow ops o⟩ :: dosL T rw ops b (i + 1) l

/-- The first that is ready, of this kind; and the others. -/
def firstD (k done : Nat) : List DO → Option (DO × List DO)
  | [] => none
  | d :: l => match Nat.beq d.k k && subB d.b done with
    | true => some (d, l)
    | false => match firstD k done l with
      | some (c, r) => some (c, d :: r)
      | none => none

/-- An order: first what leaves the memory as it is, then the other operations, last new blocks. -/
def orderD : Nat → Nat → List DO → List DO
  | 0, _, _ => []
  | n + 1, done, l => match firstD 0 done l with
    | some (d, r) => d :: orderD n (Nat.lor (Nat.pow 2 d.i) done) r
    | none => match firstD 1 done l with
      | some (d, r) => d :: orderD n (Nat.lor (Nat.pow 2 d.i) done) r
      | none => match firstD 2 done l with
        | some (d, r) => d :: orderD n (Nat.lor (Nat.pow 2 d.i) done) r
        | none => []

def edgesIn (done : Nat) : List Edge → Bool
  | [] => true
  | e :: l => (!Region.binds .any e || done.testBit e.on) && edgesIn done l

/-- Is d free to have c's result written at any time, or is it ordered? -/
def dstOk (ls : List Nat) (dst : Option Nat) (ord : Bool) : Bool := match dst with
  | some x => notIn x ls || ord
  | none => true

def dstNe (x y : Option Nat) : Bool := match x, y with
  | some x, some y => !Nat.beq x y
  | _, _ => true

/-- A store, done in any case. -/
def isSt (d : DO) : Bool := match d.o.op, d.o.dst, d.o.guard with
  | .store _ _ _, none, none => Nat.beq d.k 1
  | _, _, _ => false

/-- Two stores that aren't ordered. -/
def isPair (c d : DO) : Bool := isSt c && isSt d && !d.b.testBit c.i && !c.b.testBit d.i

/-- d against one that comes ahead of it in the order. -/
def pairOk (ops : List Oper) (d c : DO) : Bool :=
  !Nat.beq d.i c.i && dstNe d.o.dst c.o.dst && dstOk (looksL ops d.o) c.o.dst (d.b.testBit c.i) && dstOk (looksL ops c.o) d.o.dst (d.b.testBit c.i) &&
  (Nat.beq d.k 2 || Nat.beq c.k 0 || d.b.testBit c.i || (isSt c && isSt d))

def pairsOk (ops : List Oper) (d : DO) : List DO → Bool
  | [] => true
  | c :: l => pairOk ops d c && pairsOk ops d l

def pushOk (d : DO) : Bool := match Nat.beq d.k 2 with
  | true => d.o.dst.isSome && d.o.guard.isNone
  | false => true

def checkD (ops : List Oper) (seen : List DO) : List DO → Bool
  | [] => true
  | d :: l => pairsOk ops d seen && subB d.b (maskD seen) && edgesIn (maskD seen) d.o.after.toList && pushOk d && checkD ops (d :: seen) l

def sameRes (v : NV) : Option OpRes → Bool
  | some (.val v' _) => beqV v v'
  | _ => false

/-- What was read ahead; the variables that are there when something is panicked with. -/
structure Seen where
  rs : List (Nat × (Mem → Option OpRes) × NV)
  pe : Env

/-- Operations that were done: do they do the same in this memory, if they may come later? -/
def okAfter (bs : Nat) (m : Mem) : List (Nat × (Mem → Option OpRes) × NV) → Bool
  | [] => true
  | (i, f, v) :: l => (bs.testBit i || sameRes v (f m)) && okAfter bs m l

abbrev DRun := Ctx → Seen → Env → Mem → Option (Ex × Env × Mem)

def afterMain (d : DO) (next : DRun) (x : Ctx) (s : Seen) (e : Env) (r : Option OpRes) : Option (Ex × Env × Mem) :=
  match r with
  | some (.val v m') => match okAfter d.b m' s.rs with
    | true => next x s (putE e d.o.dst v) m'
    | false => none
  | some (.pan v m') => some (.pan v, s.pe, m')
  | _ => none

def afterRead (d : DO) (f : Mem → Option OpRes) (next : DRun) (x : Ctx) (s : Seen) (e : Env) (m : Mem) : Option (Ex × Env × Mem) :=
  match f m with
  | some (.val v _) => next x ⟨(d.i, f, v) :: s.rs, s.pe⟩ (putE e d.o.dst v) m
  | _ => none

/-- One operation of a region whose order is open. -/
def drawnOp (T : Tab) (d : DO) (next : DRun) : Bx DRun := match Nat.beq d.k 0 with
  | true => .mk fun x s e m => afterRead d ((opD T d).f e) next x s e m
  | false => .mk fun x s e m => afterMain d next x s e ((stepB T d.o.op).f x e m)

def nilB : DRun := fun _ _ e m => some (.norm, e, m)

def plainB (T : Tab) (ops : List Oper) (d : DO) (next : DRun) : Bx DRun := .mk fun x s e m => match (wantsB ops d.o.guard).f e with
  | some true => (drawnOp T d next).f x s e m
  | some false => next x s (putE e d.o.dst (.tup [])) m
  | none => none

/-- The block that a store goes to. -/
def addrB (T : Tab) (e : Env) (o : Op) : Option Nat := match o with
  | .store _ a _ => match (rho T a).f e with
    | some (.ptr b _) => some b
    | _ => none
  | _ => none

def pairRes (a b : Option Nat) (r r' : Option (Ex × Env × Mem)) : Option (Ex × Env × Mem) := match a, b with
  | some a, some b => match Nat.beq a b with
    | true => none
    | false => match r' with
      | some _ => r
      | none => none
  | _, _ => none

/-- The last two may be stores that aren't ordered: into blocks that are apart. -/
def drawnB (T : Tab) (ops : List Oper) : List DO → Bx DRun
  | [] => .mk nilB
  | d :: rest => match rest with
    | [c] => match isPair d c with
      | true => .mk fun x s e m => pairRes (addrB T e d.o.op) (addrB T e c.o.op) ((plainB T ops d (plainB T ops c nilB).f).f x s e m) ((plainB T ops c (plainB T ops d nilB).f).f x s e m)
      | false => plainB T ops d (plainB T ops c nilB).f
    | _ => plainB T ops d (drawnB T ops rest).f

def isDst (x : Nat) : List Oper → Bool
  | [] => false
  | o :: l => match o.dst with
    | some d => Nat.beq d x || isDst x l
    | none => isDst x l

def dropE (ops : List Oper) : Env → Env
  | [] => []
  | (k, v) :: l => match isDst k ops with
    | true => dropE ops l
    | false => (k, v) :: dropE ops l

/-- The order, without rows that are never written, or with them. -/
def ordOf (T : Tab) (rw : Bool) (ops : Array Oper) : List DO := orderD ops.toList.length 0 (dosL T rw ops.toList (Region.before ops) 0 ops.toList)

def ordAll (c : DO) : List DO → Bool
  | [] => true
  | d :: l => (Nat.beq d.k 2 || Nat.beq c.k 0 || d.b.testBit c.i) && ordAll c l

/-- Stores that aren't ordered: the last two alone. -/
def stsOk : List DO → Bool
  | [] => true
  | c :: l => (match l with
    | [_] => true
    | _ => ordAll c l) && stsOk l

def ordOk1 (ops : Array Oper) (l : List DO) : Bool := checkD ops.toList [] l && Nat.beq (maskD l) (Nat.pow 2 ops.toList.length - 1) && stsOk l

/-- The order with the last two the other way round, where these are two such stores. -/
def swapD : List DO → List DO
  | [] => []
  | c :: l => match l with
    | [d] => match isPair c d with
      | true => [d, c]
      | false => [c, d]
    | _ => c :: swapD l

def ordOk (ops : Array Oper) (l : List DO) : Bool := ordOk1 ops l && ordOk1 ops (swapD l)

def drawB (T : Tab) (ops : Array Oper) : Bx (Ctx → Env → Mem → Option (Ex × Env × Mem)) := match ordOk ops (ordOf T false ops) with
  | true => .mk fun x e m => (drawnB T ops.toList (ordOf T false ops)).f x ⟨[], dropE ops.toList e⟩ e m
  | false => match ordOk ops (ordOf T true ops) with
    | true => .mk fun x e m => (drawnB T ops.toList (ordOf T true ops)).f x ⟨[], dropE ops.toList e⟩ e m
    | false => .mk fun _ _ _ => none

def outOf (fr : Fr) : Option (Ex × Env × Mem) → Option Out
  | some (ex, e, m) => some ⟨ex, e, m, fr⟩
  | none => none

def regionB (T : Tab) (keep : Nat) (ao : Array Oper) (draw : Bool) : Bx Run :=
  match draw with
  | false => .mk fun x e => (opsB T ao.toList ao.toList).f x (cleanE e keep)
  | true => .mk fun x e m fr => outOf fr ((drawB T ao).f x (cleanE e keep) m)

def endLoopN (l : Nat) (e : Env) (m : Mem) (fr : Fr) : Option Out := match m.get l with
  | some (.loop _ _ _ _ pend) => match pend with
    | none => some ⟨.norm, e, m.put l .dead, fr⟩
    | some (.exit id) => some ⟨.exit id, e, m.put l .dead, fr⟩
    | some .ret => some ⟨.ret, e, m.put l .dead, fr⟩
    | some _ => none
  | _ => none

def rangeN (ps : List Nat) (assign body : Code) (f : NV) (x : Ctx) (e : Env) (m : Mem) (fr : Fr) : Option Out :=
  match f with
  | .fn (.func g) first cap => match x.C g (first ++ [.fn (.yield m.n) [] []] ++ cap) (m.push (.loop e ps assign body none)) with
    | some (.ret _ m') => endLoopN m.n e m' fr
    | some (.pan v m') => some ⟨.pan v, e, m', fr⟩
    | none => none
  | _ => none

def inBlock (id : Nat) : Option Out → Option Out
  | some ⟨.exit id', e, m, fr⟩ => match Nat.beq id' id with
    | true => some ⟨.norm, e, m, fr⟩
    | false => some ⟨.exit id', e, m, fr⟩
  | o => o

def thenN (next : Run) (x : Ctx) : Option Out → Option Out
  | some ⟨.norm, e, m, fr⟩ => next x e m fr
  | o => o

def loopN (body : Run) : Nat → Run
  | 0, _, _, _, _ => none
  | n + 1, x, e, m, fr => thenN (loopN body n) x (body x e m fr)

def condN (a b : Run) (v : Option NV) (x : Ctx) (e : Env) (m : Mem) (fr : Fr) : Option Out := match v with
  | some (.bool true) => a x e m fr
  | some (.bool false) => b x e m fr
  | _ => none

def fuelL : Nat := 1000000

def execB (T : Tab) (keep : Nat) : Code → Bx Run
  | .skip => .mk fun _ e m fr => some ⟨.norm, e, m, fr⟩
  | .label _ => .mk fun _ e m fr => some ⟨.norm, e, m, fr⟩
  | .region _ ops draw => regionB T keep ops draw
  | .seq a b => .mk fun x e m fr => thenN (execB T keep b).f x ((execB T keep a).f x e m fr)
  | .cond c a b => .mk fun x e m fr => condN (execB T keep a).f (execB T keep b).f ((rho T c).f e) x e m fr
  | .block id a => .mk fun x e m fr => inBlock id ((execB T keep a).f x e m fr)
  | .loop a => .mk (loopN (execB T keep a).f fuelL)
  | .exit id => .mk fun _ e m fr => some ⟨.exit id, e, m, fr⟩
  | .ret => .mk fun _ e m fr => some ⟨.ret, e, m, fr⟩
  | .rangeFunc f ps assign body => .mk fun x e m fr => match (rho T f).f e with
    | some f => rangeN ps.toList assign body f x e m fr
    | none => none
  | _ => .mk fun _ _ _ _ => none

/-- All numbers of blocks in an environment lie below this. -/
def maxE : Env → Nat
  | [] => 0
  | (_, v) :: l => mx (maxId v) (maxE l)

def escOk (n : Nat) : List (Nat × Nat) → Bool
  | [] => true
  | (b, j) :: l => (Nat.ble n b || Nat.ble j n) && escOk n l

def escCut (n : Nat) : List (Nat × Nat) → List (Nat × Nat)
  | [] => []
  | (b, j) :: l => match Nat.ble n b with
    | true => escCut n l
    | false => (b, j) :: escCut n l

/-- The blocks that a call made, and that nothing refers to, go. -/
def Mem.drop (m : Mem) (n : Nat) (v : NV) : Mem := match Nat.ble (maxId v) n && escOk n m.esc && Nat.ble n m.n with
  | true => { bs := m.bs.drop (m.n - n), n := n, esc := escCut n m.esc }
  | false => m

def consO (v : Option NV) (r : Option (List NV)) : Option (List NV) := match v, r with
  | some v, some r => some (v :: r)
  | _, _ => none

def cellO (T : Tab) (m : Mem) (t : TypeId) (p : Option NV) : Option NV := match p with
  | some p => (loadN T t).f m p
  | none => none

def resultsL (T : Tab) (m : Mem) (e : Env) : List ResultVar → Option (List NV)
  | [] => some []
  | .tmp t :: l => consO (lookupE e t) (resultsL T m e l)
  | .cell a t :: l => consO (cellO T m t (lookupE e a)) (resultsL T m e l)

def resultsN (T : Tab) (m : Mem) (e : Env) (rs : List ResultVar) : Option NV :=
  match resultsL T m e rs with
  | some [v] => some v
  | some vs => some (.tup vs)
  | none => none

abbrev CallerD := Option (Option NV) → FuncId → List NV → Mem → Option (CallRes × Bool)

/-- The deferred calls, and how the call ends. -/
def leaveN (T : Tab) (D : CallerD) (rs : List ResultVar) (e : Env) : List (NV × List NV) → Option NV → Mem → Option CallRes
  | [], none, m => match resultsN T m e rs with
    | some v => some (.ret v m)
    | none => none
  | [], some v, m => some (.pan v m)
  | (f, args) :: ds, p, m => match f with
    | .fn (.func f) first cap => match D (some p) f (first ++ args ++ cap) m with
      | some (.ret _ m', true) => leaveN T D rs e ds none m'
      | some (.ret _ m', false) => leaveN T D rs e ds p m'
      | _ => none
    | _ => none

def envOf : Nat → List NV → Env
  | _, [] => []
  | n, v :: l => (n, v) :: envOf (n + 1) l

def zipE : List Nat → List NV → Env → Option Env
  | [], [], e => some e
  | p :: ps, v :: vs, e => match zipE ps vs e with
    | some r => some ((p, v) :: r)
    | none => none
  | _, _, _ => none

def dropR (n : Nat) (took : Bool) : Option CallRes → Option (CallRes × Bool)
  | some (.ret v m) => some (.ret v (m.drop n v), took)
  | some (.pan v m) => some (.pan v (m.drop n v), took)
  | none => none

def leaveO (T : Tab) (D : CallerD) (rs : List ResultVar) (n : Nat) : Option Out → Option (CallRes × Bool)
  | some ⟨.norm, e, m, fr⟩ => dropR n fr.took (leaveN T D rs e fr.ds none m)
  | some ⟨.ret, e, m, fr⟩ => dropR n fr.took (leaveN T D rs e fr.ds none m)
  | some ⟨.pan v, e, m, fr⟩ => dropR n fr.took (leaveN T D rs e fr.ds (some v) m)
  | _ => none

/-- A round is over: the loop's block is put back. -/
def roundO (l : Nat) (e0 : Env) (ps : List Nat) (as bd : Code) : Option Out → Option CallRes
  | some ⟨ex, _, m, fr⟩ => match fr.ds with
    | [] => match ex with
      | .norm => some (.ret (.bool true) ((m.put l (.loop e0 ps as bd none)).note l (maxE e0)))
      | .exit id => some (.ret (.bool false) ((m.put l (.loop e0 ps as bd (some (.exit id)))).note l (maxE e0)))
      | .ret => some (.ret (.bool false) ((m.put l (.loop e0 ps as bd (some .ret))).note l (maxE e0)))
      | .pan _ => none
    | _ => none
  | none => none

def fstR : Option (CallRes × Bool) → Option CallRes
  | some (r, _) => some r
  | none => none

def isDefer : Op → Bool
  | .defer _ => true
  | _ => false

/-- Are the numbers of results below n; and, in a round, is no call deferred? -/
def opsOk (n : Nat) (round : Bool) : List Oper → Bool
  | [] => true
  | o :: l => (match o.dst with
    | none => true
    | some d => Nat.blt d n) && (!round || !isDefer o.op) && opsOk n round l

def psOk (n : Nat) : List Nat → Bool
  | [] => true
  | p :: l => Nat.blt p n && notIn p l && psOk n l

def codeOk (n : Nat) (round : Bool) : Code → Bool
  | .region _ ops _ => opsOk n round ops.toList
  | .seq a b => codeOk n round a && codeOk n round b
  | .cond _ a b => codeOk n round a && codeOk n round b
  | .block _ a => codeOk n round a
  | .loop a => codeOk n round a
  | .rangeFunc _ ps a b => !round && (psOk n ps.toList && codeOk n true a && codeOk n true b)
  | _ => true

def isRec : Op → Bool
  | .call c => match c.callee with
    | .builtin .recover => true
    | _ => false
  | _ => false

def anyRec : List Oper → Bool
  | [] => false
  | o :: l => isRec o.op || anyRec l

def anyCall : List Oper → Bool
  | [] => false
  | o :: l => isCall o.op || isDefer o.op || anyCall l

/-- Does code recover? -/
def recC : Code → Bool
  | .region _ ops _ => anyRec ops.toList
  | .seq a b => recC a || recC b
  | .cond _ a b => recC a || recC b
  | .block _ a => recC a
  | .loop a => recC a
  | .rangeFunc _ _ a b => recC a || recC b
  | _ => false

/-- No call is deferred, and no function ranged over. -/
def flatC : Code → Bool
  | .region _ ops _ => opsOk 0 true (ops.toList.map fun o => { o with dst := none })
  | .seq a b => flatC a && flatC b
  | .cond _ a b => flatC a && flatC b
  | .block _ a => flatC a
  | .loop a => flatC a
  | .rangeFunc _ _ _ _ => false
  | _ => true

/-- How a deferred function's code goes on: with what may still be recovered, and whether something was. -/
structure OutS where
  ex : Ex
  env : Env
  mem : Mem
  p : Option NV
  took : Bool

abbrev RunS := Ctx → Env → Mem → Option NV → Bool → Option OutS

def goS (d : Option Nat) (next : RunS) (x : Ctx) (e : Env) (p : Option NV) (t : Bool) (r : Option OpRes) : Option OutS := match r with
  | some (.val v m) => next x (putE e d v) m p t
  | some (.pan v m) => some ⟨.pan v, e, m, p, t⟩
  | some (.recover m) => match p with
    | some v => next x (putE e d v) m none true
    | none => next x (putE e d .nili) m none t
  | _ => none

def opsS (T : Tab) (ops : List Oper) : List Oper → Bx RunS
  | [] => .mk fun _ e m p t => some ⟨.norm, e, m, p, t⟩
  | o :: rest => .mk fun x e m p t => match (wantsB ops o.guard).f e with
    | some true => goS o.dst (opsS T ops rest).f x e p t ((opN T o.op).f e m)
    | some false => (opsS T ops rest).f x (putE e o.dst (.tup [])) m p t
    | none => none

def liftS (r : Run) : RunS := fun x e m p t => match r x e m ⟨[], none, false⟩ with
  | some ⟨ex, e', m', fr⟩ => match fr.ds with
    | [] => some ⟨ex, e', m', p, t⟩
    | _ => none
  | none => none

def thenS (next : RunS) (x : Ctx) : Option OutS → Option OutS
  | some ⟨.norm, e, m, p, t⟩ => next x e m p t
  | o => o

/-- A deferred function's code. -/
def execS (T : Tab) (keep : Nat) : Code → Bx RunS
  | .region id ops draw => match recC (.region id ops draw) with
    | false => .mk (liftS (execB T keep (.region id ops draw)).f)
    | true => match draw, anyCall ops.toList with
      | false, false => .mk fun x e => (opsS T ops.toList ops.toList).f x (cleanE e keep)
      | _, _ => .mk fun _ _ _ _ _ => none
  | .seq a b => match recC (.seq a b) with
    | false => .mk (liftS (execB T keep (.seq a b)).f)
    | true => .mk fun x e m p t => thenS (execS T keep b).f x ((execS T keep a).f x e m p t)
  | c => match recC c with
    | false => .mk (liftS (execB T keep c).f)
    | true => .mk fun _ _ _ _ _ => none

/-- A function's text, ready to run. -/
structure FB where
  run : Run
  rs : List ResultVar
  runS : RunS
  flat : Bool

def funB (T : Tab) (f : FuncId) : Bx (Option FB) := match T.fn f with
  | some fn => match fn.body with
    | some c => match codeOk fn.ntmps false c with
      | true => .mk (some ⟨(execB T (T.keep f) c).f, fn.results.toList, (execS T (T.keep f) c).f, flatC c⟩)
      | false => .mk none
    | none => .mk none
  | none => .mk none

def allOnes : Nat := 2 ^ 2000 - 1

/-- The functions, and the loops over functions, with so many calls within each other. -/
structure Lv where
  F : CallerD
  Y : Yielder

def Lv.ctx (L : Lv) : Ctx := ⟨fun f args m => fstR (L.F none f args m), L.Y⟩

/-- A deferred function's end. -/
def leaveS (T : Tab) (rs : List ResultVar) (n : Nat) : Option OutS → Option (CallRes × Bool)
  | some ⟨.norm, e, m, _, t⟩ => match resultsN T m e rs with
    | some v => some (.ret v (m.drop n v), t)
    | none => none
  | some ⟨.ret, e, m, _, t⟩ => match resultsN T m e rs with
    | some v => some (.ret v (m.drop n v), t)
    | none => none
  | _ => none

def stepF (T : Tab) (L : Lv) (rc : Option (Option NV)) (f : FuncId) (args : List NV) (m : Mem) : Option (CallRes × Bool) :=
  match (funB T f).f with
  | some fb => match rc with
    | none => leaveO T L.F fb.rs m.n (fb.run L.ctx (envOf 0 args) m ⟨[], none, false⟩)
    | some p => match fb.flat with
      | true => leaveS T fb.rs m.n (fb.runS L.ctx (envOf 0 args) m p false)
      | false => none
  | none => none

/-- What a round's body runs in: the loop's block is busy. -/
def bodyY (T : Tab) (L : Lv) (l : Nat) (body : Code) : Option Out → Option CallRes
  | some ⟨.norm, e, m, fr⟩ => match m.get l with
    | some (.loop e0 ps as bd none) => roundO l e0 ps as bd ((execB T allOnes body).f L.ctx e (m.put l .dead) fr)
    | _ => none
  | _ => none

def stepY (T : Tab) (L : Lv) (l : Nat) (args : List NV) (m : Mem) : Option CallRes :=
  match m.get l with
  | some (.loop e ps assign body none) => match zipE ps args e with
    | some e' => bodyY T L l body ((execB T allOnes assign).f L.ctx e' m ⟨[], none, false⟩)
    | none => none
  | _ => none

def level (T : Tab) : Nat → Lv
  | 0 => ⟨fun _ _ _ _ => none, fun _ _ _ => none⟩
  | n + 1 => ⟨stepF T (level T n), stepY T (level T n)⟩

def runF (T : Tab) (n : Nat) : CallerD := (level T n).F

end Go.Kn

namespace Go.Kn

/-- Where a block lies: the model's block, its first cell there, how many cells from there on are its own, how many the evaluator knows of. -/
structure Loc where
  cb : Nat
  co : Nat
  cap : Nat
  n : Nat
  deriving Inhabited

abbrev Iota := Nat → Loc
/-- Cells that are never written. -/
abbrev Imm := Nat → Nat → Option Value

def fnI (ι : Iota) : Fn → Fn
  | .yield l => .yield (ι l).cb
  | f => f

mutual
/-- A value of the evaluator stands for one of the model's. -/
def V (ι : Iota) (I : Imm) : NV → Value → Prop
  | .bool b, x => x = .bool b
  | .int k n, x => x = .int k n
  | .str s, x => x = .string ⟨⟨s⟩⟩
  | .nilp, x => x = .pointer none
  | .ptr b off, x => x = .pointer (some ⟨(ι b).cb, (ι b).co + off, none⟩)
  | .cptr l off, x => maxIds l = 0 ∧ ∃ cb co, x = .pointer (some ⟨cb, co + off, none⟩) ∧ VI ι I l cb co
  | .vec true len l, x => len = 0 ∧ l = [] ∧ x = .slice none 0 0
  | .vec false len l, x => maxIds l = 0 ∧ ∃ cb co cap, x = .slice (some ⟨cb, co, none⟩) len cap ∧ len ≤ cap ∧ VI ι I l cb co
  | .msl b off len sz, x => ∃ o cap, x = .slice (some ⟨(ι b).cb, o, none⟩) len cap ∧ len ≤ cap ∧ (0 < cap → o = (ι b).co + off) ∧ off + cap * sz ≤ (ι b).cap ∧ (ι b).n ≤ off + cap * sz
  | .map none, x => x = .map none
  | .map (some b), x => x = .map (some (ι b).cb)
  | .fn f first cap, x => ∃ a c, x = .func (fnI ι f) a c ∧ VL ι I first a.toList ∧ VL ι I cap c.toList
  | .nilf, x => x = .nilFunc
  | .iface t v, x => ∃ y, x = .iface t y ∧ V ι I v y
  | .nili, x => x = .nilIface
  | .rterr, x => ∃ t y, x = .iface t y
  | .unk, x => x.oneCell' = true
  | .agg l, x => ∃ a, x = .agg a ∧ VL ι I l a.toList
  | .tup l, x => ∃ a, x = .tuple a ∧ VL ι I l a.toList
/-- Value by value. -/
def VL (ι : Iota) (I : Imm) : List NV → List Value → Prop
  | [], r => r = []
  | v :: l, r => ∃ x s, r = x :: s ∧ V ι I v x ∧ VL ι I l s
/-- Cells that are never written, from a place on. -/
def VI (ι : Iota) (I : Imm) : List NV → Nat → Nat → Prop
  | [], _, _ => True
  | v :: l, cb, co => (∃ x, I cb co = some x ∧ V ι I v x) ∧ VI ι I l cb (co + 1)
end

theorem VL_nil {ι : Iota} {I : Imm} {r : List Value} : VL ι I [] r ↔ r = [] := by simp [VL]
theorem VL_cons {ι : Iota} {I : Imm} {v : NV} {l : List NV} {x : Value} {r : List Value} : VL ι I (v :: l) (x :: r) ↔ V ι I v x ∧ VL ι I l r := by
  constructor
  · intro h
    simp only [VL] at h
    obtain ⟨y, s, e, hv, hl⟩ := h
    injection e with e1 e2
    subst e1 e2
    exact ⟨hv, hl⟩
  · rintro ⟨hv, hl⟩
    exact ⟨x, r, rfl, hv, hl⟩
theorem VL_length {ι : Iota} {I : Imm} : ∀ {l : List NV} {r : List Value}, VL ι I l r → l.length = r.length
  | [], r, h => by simp [VL] at h; simp [h]
  | v :: l, r, h => by
    simp only [VL] at h
    obtain ⟨x, s, rfl, _, h⟩ := h
    simp [VL_length h]
theorem VL_append {ι : Iota} {I : Imm} : ∀ {l l' : List NV} {r r' : List Value}, VL ι I l r → VL ι I l' r' → VL ι I (l ++ l') (r ++ r')
  | [], l', r, r', h, h' => by simp [VL] at h; subst h; simpa using h'
  | v :: l, l', r, r', h, h' => by
    simp only [VL] at h
    obtain ⟨x, s, rfl, hv, h⟩ := h
    exact ⟨x, s ++ r', by simp, hv, VL_append h h'⟩
theorem VL_get {ι : Iota} {I : Imm} : ∀ {l : List NV} {r : List Value} {i : Nat} {v : NV}, VL ι I l r → l[i]? = some v → ∃ x, r[i]? = some x ∧ V ι I v x
  | [], r, i, v, h, hi => by simp at hi
  | u :: l, r, i, v, h, hi => by
    simp only [VL] at h
    obtain ⟨x, s, rfl, hv, h⟩ := h
    cases i with
    | zero => simp at hi; subst hi; exact ⟨x, by simp, hv⟩
    | succ i => simp at hi; obtain ⟨y, hy, hvy⟩ := VL_get h hi; exact ⟨y, by simpa using hy, hvy⟩
theorem VL_of_get {ι : Iota} {I : Imm} : ∀ {l : List NV} {r : List Value}, l.length = r.length → (∀ (i : Nat) (v : NV) (x : Value), l[i]? = some v → r[i]? = some x → V ι I v x) → VL ι I l r
  | [], r, hl, _ => by cases r with
    | nil => simp [VL]
    | cons => simp at hl
  | v :: l, r, hl, h => by
    cases r with
    | nil => simp at hl
    | cons x r =>
      refine ⟨x, r, rfl, h 0 v x (by simp) (by simp), VL_of_get (by simpa using hl) fun i u y hu hy => h (i + 1) u y (by simpa using hu) (by simpa using hy)⟩
theorem VL_take {ι : Iota} {I : Imm} : ∀ {l : List NV} {r : List Value} (n : Nat), VL ι I l r → VL ι I (l.take n) (r.take n)
  | [], r, n, h => by simp [VL] at h; simp [h, VL]
  | v :: l, r, 0, h => by simp [VL]
  | v :: l, r, n + 1, h => by
    simp only [VL] at h
    obtain ⟨x, s, rfl, hv, h⟩ := h
    exact ⟨x, s.take n, by simp, hv, VL_take n h⟩
theorem VL_drop {ι : Iota} {I : Imm} : ∀ {l : List NV} {r : List Value} (n : Nat), VL ι I l r → VL ι I (l.drop n) (r.drop n)
  | [], r, n, h => by simp [VL] at h; simp [h, VL]
  | v :: l, r, 0, h => by simpa using h
  | v :: l, r, n + 1, h => by
    simp only [VL] at h
    obtain ⟨x, s, rfl, hv, h⟩ := h
    simpa using VL_drop n h

theorem mx_eq (a b : Nat) : mx a b = max a b := by
  show a + (b - a) = max a b
  omega

mutual
/-- V hangs on the places of the blocks alone that a value names. -/
theorem V_congr {ι ι' : Iota} {I I' : Imm} (hI : ∀ cb o x, I cb o = some x → I' cb o = some x) : ∀ {v : NV} {x : Value}, (∀ b, b < maxId v → ι' b = ι b) → V ι I v x → V ι' I' v x
  | .bool _, _, _, h => by simpa [V] using h
  | .int _ _, _, _, h => by simpa [V] using h
  | .str _, _, _, h => by simpa [V] using h
  | .nilp, _, _, h => by simpa [V] using h
  | .ptr b off, _, hb, h => by
    simp only [maxId] at hb; simp only [V] at h ⊢; rw [hb b (by omega)]; exact h
  | .cptr l off, _, hb, h => by
    simp only [V] at h ⊢
    obtain ⟨h0, cb, co, hx, hl⟩ := h
    exact ⟨h0, cb, co, hx, VI_congr hI (by intro b hb; omega) hl⟩
  | .vec true _ _, _, _, h => by simpa [V] using h
  | .vec false _ l, _, hb, h => by
    simp only [V] at h ⊢
    obtain ⟨h0, cb, co, cap, hx, hc, hl⟩ := h
    exact ⟨h0, cb, co, cap, hx, hc, VI_congr hI (by intro b hb; omega) hl⟩
  | .msl b off len sz, _, hb, h => by
    simp only [maxId] at hb; simp only [V] at h ⊢; rw [hb b (by omega)]; exact h
  | .map none, _, _, h => by simpa [V] using h
  | .map (some b), _, hb, h => by
    simp only [maxId] at hb; simp only [V] at h ⊢; rw [hb b (by omega)]; exact h
  | .fn f first cap, _, hb, h => by
    simp only [V] at h ⊢
    obtain ⟨a, c, hx, h1, h2⟩ := h
    refine ⟨a, c, ?_, VL_congr hI (fun b h => hb b ?_) h1, VL_congr hI (fun b h => hb b ?_) h2⟩
    · rw [hx]
      cases f with
      | yield l => simp only [fnI]; rw [hb l (by simp only [maxId, mx_eq]; omega)]
      | _ => rfl
    · cases f <;> simp only [maxId, mx_eq] <;> omega
    · cases f <;> simp only [maxId, mx_eq] <;> omega
  | .nilf, _, _, h => by simpa [V] using h
  | .iface t v, _, hb, h => by
    simp only [V] at h ⊢
    obtain ⟨y, hx, hv⟩ := h
    exact ⟨y, hx, V_congr hI (fun b h => hb b (by simpa [maxId] using h)) hv⟩
  | .nili, _, _, h => by simpa [V] using h
  | .rterr, _, _, h => by simpa [V] using h
  | .unk, _, _, h => by simpa [V] using h
  | .agg l, _, hb, h => by
    simp only [V] at h ⊢
    obtain ⟨a, hx, hl⟩ := h
    exact ⟨a, hx, VL_congr hI (fun b h => hb b (by simpa [maxId] using h)) hl⟩
  | .tup l, _, hb, h => by
    simp only [V] at h ⊢
    obtain ⟨a, hx, hl⟩ := h
    exact ⟨a, hx, VL_congr hI (fun b h => hb b (by simpa [maxId] using h)) hl⟩
theorem VL_congr {ι ι' : Iota} {I I' : Imm} (hI : ∀ cb o x, I cb o = some x → I' cb o = some x) : ∀ {l : List NV} {r : List Value}, (∀ b, b < maxIds l → ι' b = ι b) → VL ι I l r → VL ι' I' l r
  | [], _, _, h => by simpa [VL] using h
  | v :: l, r, hb, h => by
    simp only [VL] at h ⊢
    obtain ⟨x, s, hr, hv, hl⟩ := h
    refine ⟨x, s, hr, V_congr hI (fun b h => hb b ?_) hv, VL_congr hI (fun b h => hb b ?_) hl⟩ <;> simp only [maxIds, mx_eq] <;> omega
theorem VI_congr {ι ι' : Iota} {I I' : Imm} (hI : ∀ cb o x, I cb o = some x → I' cb o = some x) : ∀ {l : List NV} {cb co : Nat}, (∀ b, b < maxIds l → ι' b = ι b) → VI ι I l cb co → VI ι' I' l cb co
  | [], _, _, _, h => by simp [VI]
  | v :: l, cb, co, hb, h => by
    simp only [VI] at h ⊢
    obtain ⟨⟨x, hx, hv⟩, hl⟩ := h
    refine ⟨⟨x, hI _ _ _ hx, V_congr hI (fun b h => hb b ?_) hv⟩, VI_congr hI (fun b h => hb b ?_) hl⟩ <;> simp only [maxIds, mx_eq] <;> omega
end

end Go.Kn

namespace Go.Kn

def MB.live : MB → Bool
  | .dead => false
  | _ => true

def maxIdsP : List (NV × NV) → Nat
  | [] => 0
  | (k, v) :: l => max (max (maxId k) (maxId v)) (maxIdsP l)

def maxIdE : Env → Nat
  | [] => 0
  | (_, v) :: l => max (maxId v) (maxIdE l)

def mbMax : MB → Nat
  | .cells l => maxIds l
  | .mobj es => maxIdsP es
  | .loop e _ _ _ _ => maxIdE e
  | _ => 0

def escMax (b : Nat) : List (Nat × Nat) → Nat
  | [] => 0
  | (b', j) :: l => if b = b' then max j (escMax b l) else escMax b l

/-- A cell that no string shares, nor one of the cells behind the frozen ones. -/
def Unfro (w : World) (cb o : Nat) : Prop := ∃ arr e lo hi, w.heap[cb]? = some (.cells arr e (lo, hi)) ∧ (lo = hi ∨ o < lo)

theorem Unfro.frozen {w : World} {cb o : Nat} (h : Unfro w cb o) : w.frozen? ⟨cb, o, none⟩ = false := by
  obtain ⟨arr, e, lo, hi, h1, h2⟩ := h
  unfold World.frozen?
  simp only [h1]
  rw [Bool.and_eq_false_iff]
  simp only [decide_eq_false_iff_not]
  omega

theorem Unfro.of_block {w w' : World} {cb o : Nat} (hk : w'.heap[cb]? = w.heap[cb]?) (h : Unfro w cb o) : Unfro w' cb o := by
  obtain ⟨arr, e, lo, hi, h1, h2⟩ := h
  exact ⟨arr, e, lo, hi, hk.trans h1, h2⟩

theorem Unfro.setCell {w : World} {cb o : Nat} (h : Unfro w cb o) (a : Addr) (v : Value) : Unfro (w.setCell a v) cb o := by
  obtain ⟨arr, e, lo, hi, h1, h2⟩ := h
  unfold World.setCell Unfro
  simp only [Array.getElem?_modify]
  by_cases ha : a.block = cb
  · rw [if_pos ha, h1]
    exact ⟨_, e, lo, hi, rfl, h2⟩
  · rw [if_neg ha]
    exact ⟨arr, e, lo, hi, h1, h2⟩

theorem Unfro.setCells {cb o : Nat} (b : Nat) : ∀ (vs : List Value) (k : Nat) {w : World}, Unfro w cb o → Unfro (w.setCells b k vs) cb o
  | [], _, _, h => h
  | v :: r, k, _, h => Unfro.setCells b r (k + 1) (h.setCell _ v)

/-- Entries of a map, in their order. -/
def VE (ι : Iota) (I : Imm) : List (NV × NV) → List MapEntry → Prop
  | [], r => r = []
  | (k, v) :: l, r => ∃ e s, r = e :: s ∧ V ι I k e.key ∧ V ι I v e.val ∧ VE ι I l s

/-- Variables by their numbers. -/
def EnvR (ι : Iota) (I : Imm) (e : Env) (tmps : Array Value) : Prop := ∀ t v, lookupE e t = some v → ∃ x, tmps[t]? = some x ∧ V ι I v x

/-- A block of the evaluator stands for what lies at its place. -/
def BR (ι : Iota) (I : Imm) (w : World) (p : Loc) : MB → Prop
  | .dead => True
  | .cells l => l.length = p.n ∧ p.n ≤ p.cap ∧ p.cb < w.heap.size ∧
      (∀ i, i < p.cap → (w.cell? ⟨p.cb, p.co + i, none⟩).isSome = true ∧ Unfro w p.cb (p.co + i)) ∧
      (∀ (i : Nat) (v : NV), l[i]? = some v → ∃ x, w.cell? ⟨p.cb, p.co + i, none⟩ = some x ∧ V ι I v x)
  | .mobj es => ∃ arr clock, w.heap[p.cb]? = some (.map arr clock) ∧ VE ι I es arr.toList
  | .siter s pos => p.co = 0 ∧ w.heap[p.cb]? = some (.stringIter ⟨⟨s⟩⟩ pos)
  | .loop e ps assign body pend => ∃ f tmps d, w.heap[p.cb]? = some (.loop { state := if pend.isNone then .ready else .done, pending := pend, fn := f, tmps := tmps, params := ps.toArray, assign := assign, body := body, defers := d }) ∧ EnvR ι I e tmps ∧ psOk tmps.size ps = true ∧ codeOk tmps.size true assign = true ∧ codeOk tmps.size true body = true

/-- The evaluator's memory stands for the world's. -/
structure R (ι : Iota) (I : Imm) (m : Mem) (w : World) : Prop where
  len : m.bs.length = m.n
  imm : ∀ cb o x, I cb o = some x → w.cell? ⟨cb, o, none⟩ = some x
  blk : ∀ b o, m.get b = some o → BR ι I w (ι b) o
  inj : ∀ b b' o o', m.get b = some o → m.get b' = some o' → o.live = true → o'.live = true → (ι b).cb = (ι b').cb → b = b'
  apart : ∀ b o, m.get b = some o → o.live = true → ∀ k, I (ι b).cb k = none
  bnd : ∀ b o, m.get b = some o → mbMax o ≤ m.n ∧ mbMax o ≤ max (b + 1) (escMax b m.esc)

/-- How one memory, and its world, goes on to another. -/
structure Ext (ι : Iota) (I : Imm) (m : Mem) (w : World) (ι' : Iota) (I' : Imm) (m' : Mem) (w' : World) : Prop where
  iota : ∀ b, b < m.n → ι' b = ι b
  n : m.n ≤ m'.n
  imm : ∀ cb o x, I cb o = some x → I' cb o = some x
  size : w.heap.size ≤ w'.heap.size
  frame : ∀ k, k < w.heap.size → (∀ b o, m.get b = some o → o.live = true → (ι b).cb ≠ k) → w'.heap[k]? = w.heap[k]?
  foot : ∀ b o, m'.get b = some o → o.live = true → w.heap.size ≤ (ι' b).cb ∨ ∃ b0 o0, m.get b0 = some o0 ∧ o0.live = true ∧ (ι b0).cb = (ι' b).cb
  os : w'.os = w.os
  output : w'.output = w.output
  tape : w'.tape = w.tape
  ifoot : ∀ cb o x, I' cb o = some x → w.heap.size ≤ cb ∨ (∃ o1 x1, I cb o1 = some x1) ∨ ∃ b0 o0, m.get b0 = some o0 ∧ o0.live = true ∧ (ι b0).cb = cb

theorem Ext.refl (ι : Iota) (I : Imm) (m : Mem) (w : World) : Ext ι I m w ι I m w where
  iota := fun _ _ => rfl
  n := Nat.le_refl _
  imm := fun _ _ _ h => h
  size := Nat.le_refl _
  frame := fun _ _ _ => rfl
  foot := fun b o h hl => .inr ⟨b, o, h, hl, rfl⟩
  os := rfl
  output := rfl
  tape := rfl
  ifoot := fun _ o x h => .inr (.inl ⟨o, x, h⟩)

theorem Ext.trans {ι ι' ι'' : Iota} {I I' I'' : Imm} {m m' m'' : Mem} {w w' w'' : World} (h : Ext ι I m w ι' I' m' w') (k : Ext ι' I' m' w' ι'' I'' m'' w'') : Ext ι I m w ι'' I'' m'' w'' where
  iota := fun b hb => (k.iota b (Nat.lt_of_lt_of_le hb h.n)).trans (h.iota b hb)
  n := Nat.le_trans h.n k.n
  imm := fun cb o x hx => k.imm cb o x (h.imm cb o x hx)
  size := Nat.le_trans h.size k.size
  frame := fun j hj hf => by
    rw [k.frame j (Nat.lt_of_lt_of_le hj h.size) fun b o hb hl => ?_, h.frame j hj hf]
    intro e
    rcases h.foot b o hb hl with h1 | ⟨b0, o0, h1, h2, h3⟩
    · omega
    · exact hf b0 o0 h1 h2 (h3.trans e)
  foot := fun b o hb hl => by
    rcases k.foot b o hb hl with h1 | ⟨b0, o0, h1, h2, h3⟩
    · exact .inl (Nat.le_trans h.size h1)
    · rcases h.foot b0 o0 h1 h2 with h4 | ⟨b1, o1, h5, h6, h7⟩
      · exact .inl (h3 ▸ h4)
      · exact .inr ⟨b1, o1, h5, h6, h7.trans h3⟩
  os := k.os.trans h.os
  output := k.output.trans h.output
  tape := k.tape.trans h.tape
  ifoot := fun cb o x hx => by
    rcases k.ifoot cb o x hx with h1 | ⟨o1, x1, h1⟩ | ⟨b0, o0, h1, h2, h3⟩
    · exact .inl (Nat.le_trans h.size h1)
    · exact h.ifoot cb o1 x1 h1
    · rcases h.foot b0 o0 h1 h2 with h4 | ⟨b1, o1, h5, h6, h7⟩
      · exact .inl (h3 ▸ h4)
      · exact .inr (.inr ⟨b1, o1, h5, h6, h7.trans h3⟩)

/-- A draw changes nothing. -/
theorem Ext.drew {ι ι' : Iota} {I I' : Imm} {m m' : Mem} {w w' : World} (h : Ext ι I m w ι' I' m' w') : Ext ι I m w ι' I' m' w'.drew :=
  ⟨h.iota, h.n, h.imm, h.size, h.frame, h.foot, h.os, h.output, h.tape, h.ifoot⟩
theorem Ext.drew_left {ι ι' : Iota} {I I' : Imm} {m m' : Mem} {w w' : World} (h : Ext ι I m w.drew ι' I' m' w') : Ext ι I m w ι' I' m' w' :=
  ⟨h.iota, h.n, h.imm, h.size, h.frame, h.foot, h.os, h.output, h.tape, h.ifoot⟩
theorem BR.drew {ι : Iota} {I : Imm} {w : World} {p : Loc} {o : MB} (h : BR ι I w p o) : BR ι I w.drew p o := by
  cases o <;> exact h
theorem R.drew {ι : Iota} {I : Imm} {m : Mem} {w : World} (h : R ι I m w) : R ι I m w.drew :=
  ⟨h.len, h.imm, fun b o hb => (h.blk b o hb).drew, h.inj, h.apart, h.bnd⟩

/-- V stays, where memory goes on. -/
theorem Ext.V {ι ι' : Iota} {I I' : Imm} {m m' : Mem} {w w' : World} (h : Ext ι I m w ι' I' m' w') {v : NV} {x : Value} (hb : maxId v ≤ m.n) (hv : V ι I v x) : V ι' I' v x :=
  V_congr h.imm (fun b hlt => h.iota b (Nat.lt_of_lt_of_le hlt hb)) hv
theorem Ext.VL {ι ι' : Iota} {I I' : Imm} {m m' : Mem} {w w' : World} (h : Ext ι I m w ι' I' m' w') {v : List NV} {x : List Value} (hb : maxIds v ≤ m.n) (hv : VL ι I v x) : VL ι' I' v x :=
  VL_congr h.imm (fun b hlt => h.iota b (Nat.lt_of_lt_of_le hlt hb)) hv

/- nth, setNth, get, push, put, note. -/
theorem nth_eq {α : Type} : ∀ (l : List α) (i : Nat), nth l i = l[i]?
  | [], i => by simp [nth]
  | x :: l, 0 => by simp [nth]
  | x :: l, i + 1 => by simp [nth, nth_eq l i]
theorem setNth_eq {α : Type} : ∀ (l : List α) (i : Nat) (y : α), setNth l i y = l.set i y
  | [], i, y => by simp [setNth]
  | x :: l, 0, y => by simp [setNth]
  | x :: l, i + 1, y => by simp [setNth, setNth_eq l i y]

theorem Mem.get_eq (m : Mem) (b : Nat) : m.get b = if b < m.n then m.bs[m.n - 1 - b]? else none := by
  unfold Mem.get
  by_cases h : b < m.n
  · rw [if_pos h]
    have : Nat.blt b m.n = true := Nat.ble_eq_true_of_le h
    rw [this, nth_eq]
  · rw [if_neg h]
    have : Nat.blt b m.n = false := by
      cases hh : Nat.blt b m.n with
      | false => rfl
      | true => exact absurd (Nat.le_of_ble_eq_true hh) h
    rw [this]

theorem Mem.get_lt {m : Mem} {b : Nat} {o : MB} (h : m.get b = some o) : b < m.n := by
  rw [Mem.get_eq] at h
  split at h
  · assumption
  · cases h

theorem Mem.get_push (m : Mem) (o : MB) (b : Nat) : (m.push o).get b = if b = m.n then some o else m.get b := by
  have e : (m.push o).get b = if b < m.n + 1 then (o :: m.bs)[m.n + 1 - 1 - b]? else none := Mem.get_eq _ _
  rw [e, Mem.get_eq]
  by_cases h : b = m.n
  · simp [h]
  · rw [if_neg h]
    by_cases h' : b < m.n
    · rw [if_pos (by omega), if_pos h']
      have : m.n + 1 - 1 - b = (m.n - 1 - b) + 1 := by omega
      rw [this, List.getElem?_cons_succ]
    · rw [if_neg (by omega), if_neg h']

theorem Mem.get_put {m : Mem} (hl : m.bs.length = m.n) {b : Nat} (hb : b < m.n) (o : MB) (b' : Nat) : (m.put b o).get b' = if b' = b then some o else m.get b' := by
  have e : (m.put b o).get b' = if b' < m.n then (m.bs.set (m.n - 1 - b) o)[m.n - 1 - b']? else none := by
    rw [Mem.get_eq]; simp only [Mem.put, setNth_eq]
  rw [e, Mem.get_eq]
  by_cases h : b' = b
  · subst h
    rw [if_pos hb, if_pos rfl, List.getElem?_set, if_pos rfl, if_pos (by omega)]
  · rw [if_neg h]
    by_cases h' : b' < m.n
    · rw [if_pos h', if_pos h', List.getElem?_set, if_neg (by omega)]
    · rw [if_neg h', if_neg h']

theorem Mem.get_note (m : Mem) (b j b' : Nat) : (m.note b j).get b' = m.get b' := by
  unfold Mem.note
  split <;> rfl
theorem Mem.n_note (m : Mem) (b j : Nat) : (m.note b j).n = m.n := by unfold Mem.note; split <;> rfl
theorem Mem.bs_note (m : Mem) (b j : Nat) : (m.note b j).bs = m.bs := by unfold Mem.note; split <;> rfl

theorem escMax_add (b j b' : Nat) : ∀ l, escMax b' (escAdd b j l) = if b' = b then max j (escMax b l) else escMax b' l
  | [] => by simp only [escAdd, escMax]
  | (c, k) :: l => by
    simp only [escAdd]
    split
    · rename_i h
      have : b = c := Nat.eq_of_beq_eq_true h
      subst this
      simp only [escMax]
      by_cases e : b' = b
      · subst e; simp
      · simp [e]
    · rename_i h
      have hne : b ≠ c := fun e => by subst e; simp at h
      simp only [escMax, escMax_add b j b' l]
      by_cases e : b' = b
      · subst e; simp [hne]
      · simp [e]

theorem Mem.escMax_note (m : Mem) (b j b' : Nat) : escMax b' m.esc ≤ escMax b' (m.note b j).esc := by
  unfold Mem.note
  split
  · exact Nat.le_refl _
  · simp only [escMax_add]
    split
    · rename_i e; subst e; omega
    · exact Nat.le_refl _
theorem Mem.note_le (m : Mem) (b j : Nat) : j ≤ max (b + 1) (escMax b (m.note b j).esc) := by
  unfold Mem.note
  split
  · rename_i h; have := Nat.le_of_ble_eq_true h; omega
  · simp only [escMax_add, if_pos]; omega

end Go.Kn

namespace Go.Kn

theorem VE_congr {ι ι' : Iota} {I I' : Imm} (hI : ∀ cb o x, I cb o = some x → I' cb o = some x) : ∀ {l : List (NV × NV)} {r : List MapEntry}, (∀ b, b < maxIdsP l → ι' b = ι b) → VE ι I l r → VE ι' I' l r
  | [], _, _, h => by simpa [VE] using h
  | (k, v) :: l, r, hb, h => by
    simp only [VE] at h ⊢
    obtain ⟨e, s, hr, h1, h2, h3⟩ := h
    refine ⟨e, s, hr, V_congr hI (fun b h => hb b ?_) h1, V_congr hI (fun b h => hb b ?_) h2, VE_congr hI (fun b h => hb b ?_) h3⟩ <;> simp only [maxIdsP] <;> omega

theorem lookupE_max : ∀ {e : Env} {t : Nat} {v : NV}, lookupE e t = some v → maxId v ≤ maxIdE e
  | [], _, _, h => by simp [lookupE] at h
  | (k, u) :: e, t, v, h => by
    simp only [lookupE] at h
    simp only [maxIdE]
    split at h
    · cases h; omega
    · have := lookupE_max h; omega

theorem EnvR_congr {ι ι' : Iota} {I I' : Imm} (hI : ∀ cb o x, I cb o = some x → I' cb o = some x) {e : Env} {tmps : Array Value} (hb : ∀ b, b < maxIdE e → ι' b = ι b) (h : EnvR ι I e tmps) : EnvR ι' I' e tmps := by
  intro t v hv
  obtain ⟨x, hx, hvx⟩ := h t v hv
  exact ⟨x, hx, V_congr hI (fun b h => hb b (Nat.lt_of_lt_of_le h (lookupE_max hv))) hvx⟩

theorem maxIds_get : ∀ {l : List NV} {i : Nat} {v : NV}, l[i]? = some v → maxId v ≤ maxIds l
  | [], i, v, h => by simp at h
  | u :: l, 0, v, h => by simp at h; subst h; simp only [maxIds, mx_eq]; omega
  | u :: l, i + 1, v, h => by
    simp at h
    have := maxIds_get h
    simp only [maxIds, mx_eq]; omega

theorem BR_congr {ι ι' : Iota} {I I' : Imm} (hI : ∀ cb o x, I cb o = some x → I' cb o = some x) {w : World} {p : Loc} {o : MB} (hb : ∀ b, b < mbMax o → ι' b = ι b) (h : BR ι I w p o) : BR ι' I' w p o := by
  cases o with
  | dead => trivial
  | cells l =>
    obtain ⟨h1, h2, h3, h4, h5⟩ := h
    refine ⟨h1, h2, h3, h4, fun i v hv => ?_⟩
    obtain ⟨x, hx, hvx⟩ := h5 i v hv
    exact ⟨x, hx, V_congr hI (fun b h => hb b (Nat.lt_of_lt_of_le h (maxIds_get hv))) hvx⟩
  | mobj es =>
    obtain ⟨arr, c, h1, h2⟩ := h
    exact ⟨arr, c, h1, VE_congr hI hb h2⟩
  | siter s pos => exact h
  | loop e ps a b p =>
    obtain ⟨f, tmps, d, h1, h2⟩ := h
    exact ⟨f, tmps, d, h1, EnvR_congr hI hb h2.1, h2.2⟩

/-- A block stands for what it stood for, where its place is as it was. -/
theorem BR_world {ι : Iota} {I : Imm} {w w' : World} {p : Loc} {o : MB} (hs : w.heap.size ≤ w'.heap.size) (hk : w'.heap[p.cb]? = w.heap[p.cb]?) (h : BR ι I w p o) : BR ι I w' p o := by
  cases o with
  | dead => trivial
  | cells l =>
    obtain ⟨h1, h2, h3, h4, h5⟩ := h
    refine ⟨h1, h2, Nat.lt_of_lt_of_le h3 hs, fun i hi => ?_, fun i v hv => ?_⟩
    · rw [World.cell?_of_block (w := w) (w' := w') (a := ⟨p.cb, p.co + i, none⟩) hk]
      exact ⟨(h4 i hi).1, (h4 i hi).2.of_block hk⟩
    · obtain ⟨x, hx, hvx⟩ := h5 i v hv
      exact ⟨x, by rw [World.cell?_of_block (w := w) (w' := w') (a := ⟨p.cb, p.co + i, none⟩) hk]; exact hx, hvx⟩
  | mobj es =>
    obtain ⟨arr, c, h1, h2⟩ := h
    exact ⟨arr, c, hk.trans h1, h2⟩
  | siter s pos => exact ⟨h.1, hk.trans h.2⟩
  | loop e ps a b q =>
    obtain ⟨f, tmps, d, h1, h2⟩ := h
    exact ⟨f, tmps, d, hk.trans h1, h2⟩

theorem BR_lt {ι : Iota} {I : Imm} {w : World} {p : Loc} {o : MB} (hl : o.live = true) (h : BR ι I w p o) : p.cb < w.heap.size := by
  cases o with
  | dead => cases hl
  | cells l => exact h.2.2.1
  | mobj es =>
    obtain ⟨arr, c, h1, _⟩ := h
    exact (Array.getElem?_eq_some_iff.1 h1).1
  | siter s pos => exact (Array.getElem?_eq_some_iff.1 h.2).1
  | loop e ps a b q =>
    obtain ⟨f, tmps, d, h1, _⟩ := h
    exact (Array.getElem?_eq_some_iff.1 h1).1

def upd (ι : Iota) (b : Nat) (p : Loc) : Iota := fun k => if k = b then p else ι k
theorem upd_same (ι : Iota) (b : Nat) (p : Loc) : upd ι b p b = p := by simp [upd]
theorem upd_lt (ι : Iota) {b k : Nat} (p : Loc) (h : k < b) : upd ι b p k = ι k := by simp [upd]; omega

theorem imm_lt {w : World} {cb o : Nat} {x : Value} (h : w.cell? ⟨cb, o, none⟩ = some x) : cb < w.heap.size := by
  unfold World.cell? at h
  cases hb : w.heap[cb]? with
  | none => simp [hb] at h
  | some v => exact (Array.getElem?_eq_some_iff.1 hb).1

theorem World.heap_alloc_lt (w : World) (o : Obj) {k : Nat} (h : k < w.heap.size) : (w.alloc o).heap[k]? = w.heap[k]? := Go.RowKit.Below.heap_alloc w o k h

/-- A new block. -/
theorem R.push {ι : Iota} {I : Imm} {m : Mem} {w : World} (h : R ι I m w) (o : MB) (ob : Obj) (p : Loc) (hp : p.cb = w.heap.size) (hl : o.live = true) (hb : mbMax o ≤ m.n)
    (hB : BR (upd ι m.n p) I (w.alloc ob) p o) : R (upd ι m.n p) I (m.push o) (w.alloc ob) ∧ Ext ι I m w (upd ι m.n p) I (m.push o) (w.alloc ob) := by
  have hold : ∀ b o', m.get b = some o' → upd ι m.n p b = ι b := fun b o' hg => upd_lt _ _ (Mem.get_lt hg)
  have hlt : ∀ b o', m.get b = some o' → o'.live = true → (ι b).cb < w.heap.size := fun b o' hg hl' => BR_lt hl' (h.blk b o' hg)
  constructor
  · refine ⟨by simp [Mem.push, h.len], fun cb k x hx => ?_, fun b o' hg => ?_, fun b b' o1 o2 h1 h2 l1 l2 e => ?_, fun b o' hg hl' k => ?_, fun b o' hg => ?_⟩
    · have := h.imm cb k x hx
      rw [World.cell?_of_block (w := w) (w' := w.alloc ob) (a := ⟨cb, k, none⟩) (World.heap_alloc_lt w ob (imm_lt this))]
      exact this
    · rw [Mem.get_push] at hg
      split at hg
      · rename_i e; subst e; cases hg; rw [upd_same]; exact hB
      · rename_i e
        rw [hold b o' hg]
        by_cases hl' : o'.live = true
        · refine BR_congr (fun _ _ _ h => h) (fun k hk => upd_lt _ _ (Nat.lt_of_lt_of_le hk (h.bnd b o' hg).1)) (BR_world (by simp) (World.heap_alloc_lt w ob (hlt b o' hg hl')) (h.blk b o' hg))
        · cases o' <;> first | trivial | exact absurd rfl hl'
    · rw [Mem.get_push] at h1 h2
      split at h1 <;> split at h2
      · rename_i e1 e2; rw [e1, e2]
      · rename_i e1 e2; subst e1; rw [upd_same, hold b' o2 h2] at e; have := hlt b' o2 h2 l2; omega
      · rename_i e1 e2; subst e2; rw [upd_same, hold b o1 h1] at e; have := hlt b o1 h1 l1; omega
      · rw [hold b o1 h1, hold b' o2 h2] at e; exact h.inj b b' o1 o2 h1 h2 l1 l2 e
    · rw [Mem.get_push] at hg
      split at hg
      · rename_i e; subst e; rw [upd_same, hp]
        cases hI : I w.heap.size k with
        | none => rfl
        | some x => exact absurd (imm_lt (h.imm _ _ _ hI)) (Nat.lt_irrefl _)
      · rw [hold b o' hg]; exact h.apart b o' hg hl' k
    · rw [Mem.get_push] at hg
      split at hg
      · rename_i e; subst e; cases hg; simp only [Mem.push]; omega
      · have := h.bnd b o' hg; simp only [Mem.push]; omega
  · refine ⟨fun b hb => upd_lt _ _ hb, by simp [Mem.push], fun _ _ _ h => h, by simp, fun k hk _ => World.heap_alloc_lt w ob hk, fun b o' hg hl' => ?_, rfl, rfl, rfl, fun _ o x h => .inr (.inl ⟨o, x, h⟩)⟩
    rw [Mem.get_push] at hg
    split at hg
    · rename_i e; subst e; rw [upd_same]; omega
    · exact .inr ⟨b, o', hg, hl', by rw [hold b o' hg]⟩

/-- A block that is turned, or dies: all other places are as they were. -/
theorem R.turn {ι : Iota} {I : Imm} {m : Mem} {w w' : World} (h : R ι I m w) {b : Nat} {o0 : MB} (hg : m.get b = some o0) (hl0 : o0.live = true) (o : MB) (j : Nat)
    (hs : w'.heap.size = w.heap.size) (hk : ∀ k, k < w.heap.size → k ≠ (ι b).cb → w'.heap[k]? = w.heap[k]?) (hos : w'.os = w.os) (hout : w'.output = w.output) (htape : w'.tape = w.tape)
    (hB : BR ι I w' (ι b) o) (hb : mbMax o ≤ max (mbMax o0) j) (hj : j ≤ m.n) :
    R ι I ((m.put b o).note b j) w' ∧ Ext ι I m w ι I ((m.put b o).note b j) w' := by
  have hlen := h.len
  have hbn := Mem.get_lt hg
  have hget : ∀ b', ((m.put b o).note b j).get b' = if b' = b then some o else m.get b' := fun b' => by rw [Mem.get_note, Mem.get_put hlen hbn]
  have hnn : ((m.put b o).note b j).n = m.n := by rw [Mem.n_note]; rfl
  have hother : ∀ b' o', b' ≠ b → m.get b' = some o' → o'.live = true → (ι b').cb ≠ (ι b).cb := fun b' o' hne hg' hl' e => hne (h.inj b' b o' o0 hg' hg hl' hl0 e)
  constructor
  · refine ⟨?_, fun cb k x hx => ?_, fun b' o' hg' => ?_, fun b1 b2 o1 o2 h1 h2 l1 l2 e => ?_, fun b' o' hg' hl' k => ?_, fun b' o' hg' => ?_⟩
    · rw [Mem.bs_note, Mem.n_note]; simp [Mem.put, setNth_eq, hlen]
    · have hx' := h.imm cb k x hx
      have hne : cb ≠ (ι b).cb := fun e => by rw [e, h.apart b o0 hg hl0 k] at hx; cases hx
      rw [World.cell?_of_block (w := w) (w' := w') (a := ⟨cb, k, none⟩) (hk cb (imm_lt hx') hne)]
      exact hx'
    · rw [hget] at hg'
      split at hg'
      · rename_i e; subst e; cases hg'; exact hB
      · rename_i hne
        by_cases hl' : o'.live = true
        · exact BR_world (by omega) (hk _ (BR_lt hl' (h.blk b' o' hg')) (hother b' o' hne hg' hl')) (h.blk b' o' hg')
        · cases o' <;> first | trivial | exact absurd rfl hl'
    · rw [hget] at h1 h2
      split at h1 <;> split at h2
      · rename_i e1 e2; rw [e1, e2]
      · rename_i e1 e2; subst e1; exact absurd e.symm (hother b2 o2 e2 h2 l2)
      · rename_i e1 e2; subst e2; exact absurd e (hother b1 o1 e1 h1 l1)
      · exact h.inj b1 b2 o1 o2 h1 h2 l1 l2 e
    · rw [hget] at hg'
      split at hg'
      · rename_i e; subst e; exact h.apart b' o0 hg hl0 k
      · exact h.apart b' o' hg' hl' k
    · rw [hnn]
      rw [hget] at hg'
      split at hg'
      · rename_i e; subst e; cases hg'
        have h1 := h.bnd b' o0 hg
        have h2 := Mem.note_le (m.put b' o) b' j
        have h3 := Mem.escMax_note (m.put b' o) b' j b'
        have h4 : (m.put b' o).esc = m.esc := rfl
        rw [h4] at h3
        omega
      · have h1 := h.bnd b' o' hg'
        have h3 := Mem.escMax_note (m.put b o) b j b'
        have h4 : (m.put b o).esc = m.esc := rfl
        rw [h4] at h3
        omega
  · refine ⟨fun _ _ => rfl, by rw [hnn]; exact Nat.le_refl _, fun _ _ _ h => h, by omega, fun k hk1 hk2 => hk k hk1 fun e => hk2 b o0 hg hl0 e.symm, fun b' o' hg' hl' => ?_, hos, hout, htape, fun _ o x h => .inr (.inl ⟨o, x, h⟩)⟩
    rw [hget] at hg'
    split at hg'
    · rename_i e; subst e; exact .inr ⟨b', o0, hg, hl0, rfl⟩
    · exact .inr ⟨b', o', hg', hl', rfl⟩

/-- A block that dies. -/
theorem R.kill {ι : Iota} {I : Imm} {m : Mem} {w : World} (h : R ι I m w) {b : Nat} {o0 : MB} (hg : m.get b = some o0) (hl0 : o0.live = true) :
    R ι I (m.put b .dead) w ∧ Ext ι I m w ι I (m.put b .dead) w := by
  have := h.turn hg hl0 .dead 0 rfl (fun _ _ _ => rfl) rfl rfl rfl trivial (by simp [mbMax]) (Nat.zero_le _)
  have e : (m.put b .dead).note b 0 = m.put b .dead := by
    unfold Mem.note
    have : Nat.ble 0 (b + 1) = true := Nat.ble_eq_true_of_le (Nat.zero_le _)
    rw [this]
  rw [e] at this
  exact this

end Go.Kn

namespace Go.Kn

def isAggV : Value → Bool
  | .agg _ => true
  | _ => false

/-- What the table says is so of the program. -/
structure TabOk (T : Tab) (P : Program) : Prop where
  und : ∀ t d, T.und t = some d → P.underlying t = some d
  size : ∀ t n, T.size t = some n → ∃ i, P.info? t = some i ∧ i.size = n
  bytes : ∀ t n i, T.size t = some n → P.info? t = some i → i.bytes ≤ 1048576
  zero : ∀ t z, T.zero t = some z → ∃ i v x, P.info? t = some i ∧ i.zero = some v ∧ ofValue v = some x ∧ z = x.cells ∧ ((∃ cs, v = .agg cs) ∨ v.oneCell' = true) ∧ ∀ d, T.und t = some d → isAggV v = isAggD d
  flds : ∀ t fs, T.und t = some (.struct fs) → ∃ pl, fs.toList.mapM (fun f => (P.info? f.type).map fun i => (f.offset, i.size)) = some pl
  arr : ∀ t n el, T.und t = some (.array n el) → ∃ i, P.info? el = some i
  meth : ∀ t name f p, T.meth t name = some (f, p) → ∃ i mm, P.info? t = some i ∧ i.methods.find? (fun m => m.name == name) = some mm ∧ mm.path = #[] ∧ mm.func = some (f, p)
  fn : ∀ f fn, T.fn f = some fn → P.funcs[f]? = some fn ∧ fn.name ≠ "runtime.NumGoroutine"
  comp : ∀ t, T.comp t = true → ∃ i, P.info? t = some i ∧ i.comparable = true
  eqs : ∀ t, T.eqs t = true → P.stoodInHeld t = false ∧ P.eqGuardType P.depth t = false ∧ ∀ f ∈ (P.fieldsOf t).toList, f.name ≠ "_"

/-- The package's variables at hand hold what the table says. -/
def GlobOk (T : Tab) (I : Imm) : Prop := ∀ g l, T.glob g = some l → maxIds l = 0 ∧ ∀ ι, VI ι I l g 0

theorem GlobOk.mono {T : Tab} {I I' : Imm} (hI : ∀ cb o x, I cb o = some x → I' cb o = some x) (h : GlobOk T I) : GlobOk T I' := fun g l hg =>
  ⟨(h g l hg).1, fun ι => VI_congr hI (fun _ _ => rfl) ((h g l hg).2 ι)⟩

theorem V_ofScal {ι : Iota} {I : Imm} {v : Value} {x : NV} (h : ofScal v = some x) : V ι I x v ∧ maxId x = 0 := by
  unfold ofScal at h
  split at h <;> first | (cases h; simp [V, maxId]) | cases h

theorem ofScal_cells {v : Value} {x : NV} (h : ofScal v = some x) : x.cells = [x] ∧ v.cells = #[v] := by
  unfold ofScal at h
  split at h <;> first | (cases h; simp [NV.cells, Value.cells]) | cases h

theorem V_ofScals {ι : Iota} {I : Imm} : ∀ {l : List Value} {r : List NV}, ofScals l = some r → VL ι I r l ∧ maxIds r = 0
  | [], r, h => by simp [ofScals] at h; subst h; simp [VL, maxIds]
  | v :: l, r, h => by
    simp only [ofScals] at h
    split at h
    case h_2 => cases h
    · rename_i x hx
      split at h
      case h_2 => cases h
      · rename_i s hs
        simp at h; subst h
        have h1 := V_ofScal (ι := ι) (I := I) hx
        have h2 := V_ofScals (ι := ι) (I := I) hs
        exact ⟨VL_cons.2 ⟨h1.1, h2.1⟩, by simp [maxIds, mx_eq, h1.2, h2.2]⟩

theorem V_ofValue {ι : Iota} {I : Imm} {v : Value} {x : NV} (h : ofValue v = some x) : V ι I x v ∧ maxId x = 0 := by
  unfold ofValue at h
  split at h
  · rename_i cs
    cases hs : ofScals cs.toList with
    | none => simp [hs] at h
    | some l =>
      simp [hs] at h; subst h
      have := V_ofScals (ι := ι) (I := I) hs
      exact ⟨by simp only [V]; exact ⟨cs, rfl, this.1⟩, by simp [maxId, this.2]⟩
  · rename_i vs
    split at h
    · rename_i hn
      cases h
      refine ⟨?_, by simp [maxId, maxIds]⟩
      simp only [V]
      exact ⟨vs, rfl, by rw [hn]; simp [VL]⟩
    · cases h
  · exact V_ofScal h

theorem ofValue_cells {ι : Iota} {I : Imm} {v : Value} {x : NV} (h : ofValue v = some x) (hv : (∃ cs, v = .agg cs) ∨ v.oneCell' = true) : VL ι I x.cells v.cells.toList ∧ maxIds x.cells = 0 := by
  have h0 := V_ofValue (ι := ι) (I := I) h
  rcases hv with ⟨cs, rfl⟩ | hv
  · unfold ofValue at h
    simp only at h
    cases hs : ofScals cs.toList with
    | none => simp [hs] at h
    | some l =>
      simp [hs] at h; subst h
      simpa [NV.cells, Value.cells] using V_ofScals (ι := ι) (I := I) hs
  · have hs : ofScal v = some x := by
      cases v <;> first | exact h | simp [Value.oneCell'] at hv
    have hc := ofScal_cells hs
    rw [hc.1, hc.2]
    exact ⟨VL_cons.2 ⟨h0.1, by simp [VL]⟩, by simp [maxIds, mx_eq, h0.2]⟩

/-- A frame's variables. -/
structure ER (ι : Iota) (I : Imm) (m : Mem) (e : Env) (tmps : Array Value) : Prop where
  rel : EnvR ι I e tmps
  bnd : maxIdE e ≤ m.n

theorem ER.ext {ι ι' : Iota} {I I' : Imm} {m m' : Mem} {w w' : World} {e : Env} {tmps : Array Value} (h : ER ι I m e tmps) (x : Ext ι I m w ι' I' m' w') : ER ι' I' m' e tmps :=
  ⟨EnvR_congr x.imm (fun b hb => x.iota b (Nat.lt_of_lt_of_le hb h.bnd)) h.rel, Nat.le_trans h.bnd x.n⟩

variable {T : Tab} {P : Program} {ι : Iota} {I : Imm} {m : Mem} {w : World} {e : Env} {a : Go.Act}

theorem rho_sound (hg : GlobOk T I) (hE : ER ι I m e a.tmps) {x : Operand} {v : NV} (h : (rho T x).f e = some v) : V ι I v (a.eval x) ∧ maxId v ≤ m.n := by
  unfold rho at h
  split at h
  · rename_i t
    obtain ⟨y, hy, hv⟩ := hE.rel t v h
    refine ⟨?_, Nat.le_trans (lookupE_max h) hE.bnd⟩
    simp only [Act.eval, Array.getD_eq_getD_getElem?, hy, Option.getD_some]
    exact hv
  · rename_i c
    split at h
    · rename_i u hu
      simp only [Option.some.injEq] at h; subst h
      have := V_ofValue (ι := ι) (I := I) hu
      exact ⟨this.1, by omega⟩
    · cases h
  · rename_i g
    split at h
    · rename_i l hl
      simp only [Option.some.injEq] at h; subst h
      have := hg g l hl
      refine ⟨?_, by simp [maxId]⟩
      simp only [V, Act.eval]
      exact ⟨this.1, g, 0, by simp, this.2 ι⟩
    · cases h
  · simp only [Option.some.injEq] at h; subst h
    refine ⟨?_, by simp [maxId, maxIds, mx_eq]⟩
    simp only [V, Act.eval]
    exact ⟨#[], #[], rfl, by simp [VL], by simp [VL]⟩

theorem rhoL_sound (hg : GlobOk T I) (hE : ER ι I m e a.tmps) : ∀ {xs : List Operand} {l : List NV}, (rhoL T xs).f e = some l → VL ι I l (xs.map a.eval) ∧ maxIds l ≤ m.n
  | [], l, h => by simp [rhoL] at h; subst h; simp [VL, maxIds]
  | x :: xs, l, h => by
    simp only [rhoL] at h
    split at h
    · rename_i v hv
      split at h
      · rename_i r hr
        simp only [Option.some.injEq] at h; subst h
        have h1 := rho_sound hg hE hv
        have h2 := rhoL_sound hg hE hr
        exact ⟨VL_cons.2 ⟨h1.1, h2.1⟩, by simp only [maxIds, mx_eq]; omega⟩
      · cases h
    · cases h

/- readAt, setAt. -/
theorem readAt_eq : ∀ {l : List NV} {off n : Nat} {r : List NV}, readAt l off n = some r → off + n ≤ l.length ∧ r = (l.drop off).take n
  | l, 0, 0, r, h => by simp [readAt] at h; subst h; simp
  | v :: l, 0, n + 1, r, h => by
    simp only [readAt] at h
    split at h
    case h_2 => cases h
    · rename_i s hs
      simp at h; subst h
      have := readAt_eq hs
      simp at this
      exact ⟨by simp; omega, by simp [this.2]⟩
  | v :: l, off + 1, n, r, h => by
    simp only [readAt] at h
    have := readAt_eq h
    exact ⟨by simp; omega, by simpa using this.2⟩
  | [], 0, n + 1, r, h => by simp [readAt] at h
  | [], off + 1, n, r, h => by simp [readAt] at h

theorem setAt_eq : ∀ {l : List NV} {off : Nat} {vs l' : List NV}, setAt l off vs = some l' → off + vs.length ≤ l.length ∧ l' = l.take off ++ vs ++ l.drop (off + vs.length)
  | l, 0, [], l', h => by simp [setAt] at h; subst h; simp
  | x :: l, n + 1, vs, l', h => by
    simp only [setAt] at h
    split at h
    case h_2 => cases h
    · rename_i s hs
      simp at h; subst h
      have := setAt_eq hs
      refine ⟨by simp; omega, ?_⟩
      rw [this.2]
      have e : n + 1 + vs.length = (n + vs.length) + 1 := by omega
      simp [e]
  | x :: l, 0, v :: vs, l', h => by
    simp only [setAt] at h
    split at h
    case h_2 => cases h
    · rename_i s hs
      simp at h; subst h
      have := setAt_eq hs
      refine ⟨by simp; simp at this; omega, ?_⟩
      rw [this.2]
      simp
  | [], n + 1, vs, l', h => by simp [setAt] at h
  | [], 0, v :: vs, l', h => by simp [setAt] at h

theorem maxIds_append : ∀ {l r : List NV}, maxIds (l ++ r) = max (maxIds l) (maxIds r)
  | [], r => by simp [maxIds]
  | v :: l, r => by simp only [List.cons_append, maxIds, mx_eq, maxIds_append (l := l) (r := r)]; omega
theorem maxIds_take : ∀ {l : List NV} {n : Nat}, maxIds (l.take n) ≤ maxIds l
  | [], n => by simp [maxIds]
  | v :: l, 0 => by simp [maxIds]
  | v :: l, n + 1 => by
    have := maxIds_take (l := l) (n := n)
    simp only [List.take_succ_cons, maxIds, mx_eq]; omega
theorem maxIds_drop : ∀ {l : List NV} {n : Nat}, maxIds (l.drop n) ≤ maxIds l
  | [], n => by simp [maxIds]
  | v :: l, 0 => by simp
  | v :: l, n + 1 => by
    have := maxIds_drop (l := l) (n := n)
    simp only [List.drop_succ_cons, maxIds, mx_eq]; omega
theorem maxIds_readAt {l : List NV} {off n : Nat} {r : List NV} (h : readAt l off n = some r) : maxIds r ≤ maxIds l := by
  rw [(readAt_eq h).2]; exact Nat.le_trans maxIds_take maxIds_drop

theorem Mem.cells_get {m : Mem} {b : Nat} {l : List NV} (h : m.cells b = some l) : m.get b = some (.cells l) := by
  unfold Mem.cells at h
  split at h
  · rename_i l' hl; cases h; exact hl
  · cases h

/-- Cells in memory that stand for a list. -/
def CellsAt (ι : Iota) (I : Imm) (w : World) (cb co : Nat) (l : List NV) : Prop := ∀ (i : Nat) (v : NV), l[i]? = some v → ∃ x, w.cell? ⟨cb, co + i, none⟩ = some x ∧ V ι I v x

theorem VI_cells {w : World} (hi : ∀ cb o x, I cb o = some x → w.cell? ⟨cb, o, none⟩ = some x) : ∀ {l : List NV} {cb co : Nat}, VI ι I l cb co → CellsAt ι I w cb co l
  | [], _, _, _, i, v, h => by simp at h
  | u :: l, cb, co, h, 0, v, hv => by
    simp at hv; subst hv
    obtain ⟨⟨x, hx, hvx⟩, _⟩ := h
    exact ⟨x, hi _ _ _ hx, hvx⟩
  | u :: l, cb, co, h, i + 1, v, hv => by
    obtain ⟨_, h⟩ := h
    obtain ⟨x, hx, hvx⟩ := VI_cells hi h i v (by simpa using hv)
    exact ⟨x, by rw [show co + (i + 1) = co + 1 + i by omega]; exact hx, hvx⟩

theorem VI_drop : ∀ {l : List NV} {cb co : Nat} (n : Nat), VI ι I l cb co → VI ι I (l.drop n) cb (co + n)
  | [], _, _, n, _ => by simp [VI]
  | u :: l, cb, co, 0, h => by simpa using h
  | u :: l, cb, co, n + 1, h => by
    obtain ⟨_, h⟩ := h
    have := VI_drop n h
    simpa [show co + (n + 1) = co + 1 + n by omega] using this
theorem VI_take : ∀ {l : List NV} {cb co : Nat} (n : Nat), VI ι I l cb co → VI ι I (l.take n) cb co
  | [], _, _, n, _ => by simp [VI]
  | u :: l, cb, co, 0, h => by simp [VI]
  | u :: l, cb, co, n + 1, h => by
    obtain ⟨h1, h⟩ := h
    exact ⟨h1, VI_take n h⟩

theorem CellsAt.sub {w : World} {cb co : Nat} {l : List NV} (h : CellsAt ι I w cb co l) {off n : Nat} {r : List NV} (hr : readAt l off n = some r) : CellsAt ι I w cb (co + off) r := by
  intro i v hv
  obtain ⟨_, rfl⟩ := readAt_eq hr
  rw [List.getElem?_take] at hv
  split at hv
  · rw [List.getElem?_drop] at hv
    obtain ⟨x, hx, hvx⟩ := h (off + i) v hv
    exact ⟨x, by rw [show co + off + i = co + (off + i) by omega]; exact hx, hvx⟩
  · cases hv

/-- A list of cells, as the model loads it. -/
theorem CellsAt.list {w : World} {cb co : Nat} : ∀ {l : List NV}, CellsAt ι I w cb co l → ∃ xs : List Value, xs.length = l.length ∧ VL ι I l xs ∧ ∀ (j : Nat) x, xs[j]? = some x → w.cell? ⟨cb, co + j, none⟩ = some x
  | [], _ => ⟨[], rfl, by simp [VL], by simp⟩
  | v :: l, h => by
    obtain ⟨x, hx, hv⟩ := h 0 v (by simp)
    have h' : CellsAt ι I w cb (co + 1) l := fun i u hu => by
      obtain ⟨y, hy, huy⟩ := h (i + 1) u (by simpa using hu)
      exact ⟨y, by rw [show co + 1 + i = co + (i + 1) by omega]; exact hy, huy⟩
    obtain ⟨xs, h1, h2, h3⟩ := CellsAt.list h'
    refine ⟨x :: xs, by simp [h1], VL_cons.2 ⟨hv, h2⟩, fun j y hy => ?_⟩
    cases j with
    | zero => simp at hy; subst hy; exact hx
    | succ j => rw [show co + (j + 1) = co + 1 + j by omega]; exact h3 j y (by simpa using hy)

theorem addr_add (cb co n : Nat) : (⟨cb, co, none⟩ : Addr).add n = ⟨cb, co + n, none⟩ := by
  unfold Addr.add; split <;> simp_all

theorem run_loadCells_at {w : World} {cb co : Nat} {xs : List Value} {n : Nat} (hn : n = xs.length) (h : ∀ (j : Nat) x, xs[j]? = some x → w.cell? ⟨cb, co + j, none⟩ = some x) :
    (loadCells ⟨cb, co, none⟩ n).run P w = .ok xs.toArray w := by
  subst hn
  exact run_loadCells_list w ⟨cb, co, none⟩ xs fun j v hv => by rw [addr_add]; exact h j v hv

/-- What lies behind an address. -/
theorem readN_sound (hR : R ι I m w) {p : NV} {x : Value} {n : Nat} {cs : List NV} (hv : V ι I p x) (h : readN m p n = some cs) :
    ∃ cb co, x = .pointer (some ⟨cb, co, none⟩) ∧ CellsAt ι I w cb co cs ∧ cs.length = n ∧ maxIds cs ≤ m.n := by
  unfold readN at h
  split at h
  · rename_i b off
    split at h
    case h_2 => cases h
    · rename_i l hl
      have hg := Mem.cells_get hl
      obtain ⟨h1, h2, h3, h4, h5⟩ := hR.blk b _ hg
      simp only [V] at hv
      have hb := (hR.bnd b _ hg).1
      refine ⟨_, _, hv, CellsAt.sub (l := l) h5 h, ?_, Nat.le_trans (maxIds_readAt h) hb⟩
      obtain ⟨e1, e2⟩ := readAt_eq h
      rw [e2]; simp; omega
  · rename_i l off
    simp only [V] at hv
    obtain ⟨h0, cb, co, hx, hl⟩ := hv
    refine ⟨cb, co + off, hx, CellsAt.sub (VI_cells hR.imm hl) h, ?_, Nat.le_trans (maxIds_readAt h) (by omega)⟩
    obtain ⟨e1, e2⟩ := readAt_eq h
    rw [e2]; simp; omega
  · cases h

end Go.Kn

namespace Go.Kn

variable {T : Tab} {P : Program} {ι : Iota} {I : Imm} {m : Mem} {w : World}

/-- What an operation's run in the model comes to, where the evaluator has a result. -/
def SV (P : Program) (S : Sem Value) (w : World) (ι : Iota) (I : Imm) (m : Mem) : OpRes → Prop
  | .val v m' => ∃ x w' ι' I', S.run P w = .ok x w' ∧ V ι' I' v x ∧ maxId v ≤ m'.n ∧ R ι' I' m' w' ∧ Ext ι I m w ι' I' m' w'
  | .pan v m' => ∃ x w', S.run P w = .halt (.panic x) w' ∧ V ι I v x ∧ maxId v ≤ m.n ∧ m' = m ∧ R ι I m w' ∧ Ext ι I m w ι I m w'
  | _ => False

theorem SV.val_same {S : Sem Value} {v : NV} {x : Value} (hR : R ι I m w) (h : S.run P w = .ok x w) (hv : V ι I v x) (hb : maxId v ≤ m.n) : SV P S w ι I m (.val v m) :=
  ⟨x, w, ι, I, h, hv, hb, hR, Ext.refl _ _ _ _⟩

theorem SV.pan_same {S : Sem Value} {t : TypeId} {y : Value} (hR : R ι I m w) (h : S.run P w = .halt (.panic (.iface t y)) w) : SV P S w ι I m (.pan .rterr m) :=
  ⟨.iface t y, w, h, by simp only [V]; exact ⟨t, y, rfl⟩, by simp [maxId], rfl, hR, Ext.refl _ _ _ _⟩

theorem SV.congr {S S' : Sem Value} {r : OpRes} (h : S'.run P w = S.run P w) (hs : SV P S w ι I m r) : SV P S' w ι I m r := by
  cases r <;> simp only [SV, h] at hs ⊢ <;> exact hs

theorem run_program (P : Program) (w : World) : (program).run P w = .ok P w := rfl

theorem run_runtimePanic_error (msg : String) : (runtimePanic (α := Value) (.error msg)).run P w = .halt (.panic (.iface P.rt.errorString (strVal msg))) w := by
  simp [runtimePanic, run_program, goPanic]
theorem run_runtimePanic_nil : (runtimePanic (α := Value) .nilDeref).run P w = .halt (.panic (.iface P.rt.errorString (strVal "invalid memory address or nil pointer dereference"))) w := by
  simp [runtimePanic, run_program, goPanic]

theorem run_choose2 (s : String) (w : World) : (choose (.extern s 2)).run P w = .ok (Question.cut (.extern s 2) (w.tape w.drawn (.extern s 2))) w.drew := rfl

/-- A panic of an index, or of a bound: perhaps with a draw. -/
theorem run_boundsPanic_any {α : Type} (k : IntKind) (x y : Int) (c : BoundsCode) (w : World) : ∃ z, (boundsPanic (α := α) k x y c).run P w = .halt (.panic (.iface P.rt.boundsError z)) w ∨ (boundsPanic (α := α) k x y c).run P w = .halt (.panic (.iface P.rt.boundsError z)) w.drew := by
  obtain ⟨s, w', h⟩ : ∃ s, ∃ w', (w' = w ∨ w' = w.drew) ∧ (boundsPanic (α := α) k x y c).run P w = (runtimePanic (α := α) (.bounds (IntKind.i64.wrap x) y s c)).run P w' := by
    unfold boundsPanic
    by_cases h : (k != .u64 && 0 ≤ x && x ≤ 31) = true
    · simp only [h, if_true]
      simp only [Sem.run_bind, Sem.run_map, run_choose2, Result.andThen_ok]
      exact ⟨_, w.drew, .inr rfl, rfl⟩
    · simp only [h]
      exact ⟨_, w, .inl rfl, rfl⟩
  have h2 : (runtimePanic (α := α) (.bounds (IntKind.i64.wrap x) y s c)).run P w' = .halt (.panic (.iface P.rt.boundsError (.agg #[.int .i64 (IntKind.i64.wrap x), .int .i64 y, .bool s, .int .u8 c.toNat]))) w' := by
    simp [runtimePanic, goPanic]
  rw [h2] at h
  rcases h with ⟨rfl | rfl, h⟩
  · exact ⟨_, .inl h⟩
  · exact ⟨_, .inr h⟩

theorem SV.pan_bounds {S : Sem Value} {k : IntKind} {x y : Int} {c : BoundsCode} (hR : R ι I m w) (h : S.run P w = (boundsPanic (α := Value) k x y c).run P w) : SV P S w ι I m (.pan .rterr m) := by
  obtain ⟨z, hz | hz⟩ := run_boundsPanic_any (P := P) (α := Value) k x y c w
  · exact SV.pan_same hR (h.trans hz)
  · exact ⟨_, w.drew, h.trans hz, by simp only [V]; exact ⟨_, _, rfl⟩, by simp [maxId], rfl, hR.drew, (Ext.refl _ _ _ _).drew⟩

/-- What an operation on numbers or texts comes to. -/
def ScalOk (P : Program) (S : Sem Value) (w : World) : Scal → Prop
  | .val v => ∃ x, S.run P w = .ok x w ∧ (∀ ι I, V ι I v x) ∧ maxId v = 0
  | .pan => ∃ t y, S.run P w = .halt (.panic (.iface t y)) w

theorem ScalOk.sv {S : Sem Value} {o : Option Scal} {r : OpRes} (hR : R ι I m w) (h : ∀ s, o = some s → ScalOk P S w s) (hr : scalRes m o = some r) : SV P S w ι I m r := by
  unfold scalRes at hr
  split at hr
  · cases hr
    obtain ⟨x, h1, h2, h3⟩ := h _ rfl
    exact SV.val_same hR h1 (h2 _ _) (by omega)
  · cases hr
    obtain ⟨t, y, h1⟩ := h _ rfl
    exact SV.pan_same hR h1
  · cases hr

theorem intBits_ok {op : BinOp} {k : IntKind} {a b : Int} {s : Scal} (h : intBits op k a b = some s) : ScalOk P (Op.intBits op k a b) w s := by
  unfold intBits at h
  split at h <;> first | (cases h; exact ⟨_, rfl, fun _ _ => by simp [V], by simp [maxId]⟩) | cases h

theorem intDiv_ok {op : BinOp} {k : IntKind} {a b : Int} {s : Scal} (h : intDiv op k a b = some s) : ScalOk P (Op.intDiv op k a b) w s := by
  unfold intDiv at h
  unfold Op.intDiv
  split at h
  · rename_i hb; rw [if_pos hb]; cases h
    exact ⟨_, _, run_runtimePanic_error _⟩
  · rename_i hb; rw [if_neg hb]
    split at h <;> first | (cases h; exact ⟨_, rfl, fun _ _ => by simp [V], by simp [maxId]⟩) | cases h

theorem shiftN_ok {op : BinOp} {k yk : IntKind} {a b : Int} {s : Scal} (h : shiftN op k a b = some s) : ScalOk P (Op.shift op k a yk b) w s := by
  unfold shiftN at h
  unfold Op.shift
  split at h
  · rename_i hb; rw [if_pos hb]; cases h
    exact ⟨_, _, run_runtimePanic_error _⟩
  · rename_i hb; rw [if_neg hb]
    split at h <;> first | (cases h; exact ⟨_, rfl, fun _ _ => by simp [V], by simp [maxId]⟩) | cases h

theorem sameKind_eq {k k' : IntKind} (h : sameKind k k' = true) : k = k' := by
  cases k <;> cases k' <;> first | rfl | (simp [sameKind] at h)

theorem intBin_ok {op : BinOp} (hs : isShift op = false) {k : IntKind} {a b : Int} {s : Scal} (h : (intBin op).f k a b = some s) (t : TypeId) : ScalOk P (binOp op t (.int k a) (.int k b)) w s := by
  cases op <;> simp only [intBin, isShift] at h hs <;> simp only [binOp, ne_eq, not_true_eq_false, if_false] <;>
    first
    | (cases h; exact ⟨_, rfl, fun _ _ => by simp [V], by simp [maxId]⟩)
    | exact intDiv_ok h
    | exact intBits_ok h
    | cases hs
    | cases h

theorem bytesLt_eq : ∀ x y : List UInt8, bytesLt x y = Op.bytesLess x y
  | _, [] => by simp [bytesLt, Op.bytesLess]
  | [], _ :: _ => by simp [bytesLt, Op.bytesLess]
  | a :: x, b :: y => by simp [bytesLt, Op.bytesLess, bytesLt_eq x y]

theorem ba_toList (l : List UInt8) : (ByteArray.mk ⟨l⟩).toList = l := ByteArray.toList_eq _
theorem ba_size (l : List UInt8) : (ByteArray.mk ⟨l⟩).size = l.length := rfl
theorem ba_append (a b : List UInt8) : (ByteArray.mk ⟨a⟩ ++ ByteArray.mk ⟨b⟩) = ByteArray.mk ⟨a ++ b⟩ := by
  have : ∀ x y : ByteArray, x.data = y.data → x = y := fun x y h => by cases x; cases y; simp_all
  apply this
  simp [ByteArray.data_append]

theorem strBin_ok {op : BinOp} {a b : List UInt8} {s : Scal} (h : (strBin op).f a b = some s) : ScalOk P (Op.stringOp op ⟨⟨a⟩⟩ ⟨⟨b⟩⟩) w s := by
  cases op <;> simp only [strBin] at h <;> simp only [Op.stringOp, ba_toList, ba_size, bytesLt_eq] at h ⊢ <;>
    first
    | (cases h; exact ⟨_, rfl, fun _ _ => by simp [V], by simp [maxId]⟩)
    | (split at h
       · rename_i hb
         cases h
         have hb' := Nat.le_of_ble_eq_true hb
         refine ⟨.string ⟨⟨a ++ b⟩⟩, ?_, fun _ _ => by simp [V], by simp [maxId]⟩
         rw [if_neg (by simp [IntKind.max, IntKind.signed, IntKind.bits]; omega), ba_append]
         rfl
       · cases h)
    | cases h

theorem run_underlying_pure {t : TypeId} {d : TypeDesc} (h : P.underlying t = some d) (w : World) : (underlying t).run P w = .ok d w := run_underlying h w

/-- The model's value of one that may be nil: whether it is. -/
theorem nil_forms {d : TypeDesc} {x : NV} {xv : Value} (hk : nilKind d x = true) (hx : V ι I x xv) :
    (isNilV x = true ∧ match d with
      | .pointer _ => xv = .pointer none
      | .interface _ => xv = .nilIface
      | .slice _ => xv = .slice none 0 0
      | .map _ _ => xv = .map none
      | .func _ _ _ => xv = .nilFunc
      | _ => False) ∨
    (isNilV x = false ∧ match d with
      | .pointer _ => ∃ a, xv = .pointer (some a)
      | .interface _ => ∃ t y, xv = .iface t y
      | .slice _ => ∃ a n c, xv = .slice (some a) n c
      | .map _ _ => ∃ r, xv = .map (some r)
      | .func _ _ _ => ∃ f a c, xv = .func f a c
      | _ => False) := by
  unfold nilKind at hk
  split at hk
  · simp only [V] at hx; exact .inl ⟨rfl, hx⟩
  · simp only [V] at hx; exact .inr ⟨rfl, _, hx⟩
  · simp only [V] at hx; obtain ⟨_, _, _, h, _⟩ := hx; exact .inr ⟨rfl, _, h⟩
  · simp only [V] at hx; exact .inl ⟨rfl, hx⟩
  · simp only [V] at hx; obtain ⟨_, h, _⟩ := hx; exact .inr ⟨rfl, _, _, h⟩
  · simp only [V] at hx; obtain ⟨_, _, h⟩ := hx; exact .inr ⟨rfl, _, _, h⟩
  · rename_i b _ _
    cases b
    · simp only [V] at hx; obtain ⟨_, _, _, _, h, _⟩ := hx; exact .inr ⟨rfl, _, _, _, h⟩
    · simp only [V] at hx; exact .inl ⟨rfl, hx.2.2⟩
  · simp only [V] at hx; obtain ⟨_, _, h, _⟩ := hx; exact .inr ⟨rfl, _, _, _, h⟩
  · rename_i b
    cases b
    · simp only [V] at hx; exact .inl ⟨rfl, hx⟩
    · simp only [V] at hx; exact .inr ⟨rfl, _, hx⟩
  · simp only [V] at hx; exact .inl ⟨rfl, hx⟩
  · simp only [V] at hx; obtain ⟨_, _, h, _⟩ := hx; exact .inr ⟨rfl, _, _, _, h⟩
  · cases hk

theorem equalIn_nil {t : TypeId} {d : TypeDesc} {x y : NV} {xv yv : Value} {b : Bool} (hu : P.underlying t = some d) (hkx : nilKind d x = true) (hky : nilKind d y = true) (hx : V ι I x xv) (hy : V ι I y yv)
    (h : nilEq x y = some b) (n : Nat) : (Op.equalIn (n + 1) t xv yv).run P w = .ok b w := by
  have hr := run_underlying (P := P) hu w
  unfold nilEq at h
  rcases nil_forms hkx hx with ⟨ex, fx⟩ | ⟨ex, fx⟩ <;> rcases nil_forms hky hy with ⟨ey, fy⟩ | ⟨ey, fy⟩ <;> rw [ex, ey] at h <;> cases h <;> cases d <;> (try exact fx.elim) <;> simp only at fx fy
  all_goals first
    | (subst fx fy; simp [Op.equalIn, hr]; done)
    | (subst fx; obtain ⟨_, rfl⟩ := fy; simp [Op.equalIn, hr]; done)
    | (subst fx; obtain ⟨_, _, rfl⟩ := fy; simp [Op.equalIn, hr]; done)
    | (subst fx; obtain ⟨_, _, _, rfl⟩ := fy; simp [Op.equalIn, hr]; done)
    | (subst fy; obtain ⟨_, rfl⟩ := fx; simp [Op.equalIn, hr]; done)
    | (subst fy; obtain ⟨_, _, rfl⟩ := fx; simp [Op.equalIn, hr]; done)
    | (subst fy; obtain ⟨_, _, _, rfl⟩ := fx; simp [Op.equalIn, hr]; done)

theorem equalIn_bool {t : TypeId} {a b : Bool} (hu : P.underlying t = some .bool) (n : Nat) : (Op.equalIn (n + 1) t (.bool a) (.bool b)).run P w = .ok (a == b) w := by
  have hr := run_underlying (P := P) hu w
  simp [Op.equalIn, hr]

theorem eqN_sound (hT : TabOk T P) {t : TypeId} {x y : NV} {xv yv : Value} {b : Bool} (hx : V ι I x xv) (hy : V ι I y yv) (h : (eqN T t).f x y = some b) : (Op.equal t xv yv).run P w = .ok b w := by
  unfold eqN at h
  split at h
  · rename_i hu
    have hr := run_underlying (P := P) (hT.und _ _ hu) w
    simp only at h
    split at h
    · simp only [V] at hx hy; subst hx hy
      cases h
      exact equalIn_bool (hT.und _ _ hu) 9999
    · cases h
  · rename_i d hne hu
    simp only at h
    split at h
    · rename_i hk
      simp only [Bool.and_eq_true] at hk
      exact equalIn_nil (hT.und _ _ hu) hk.1 hk.2 hx hy h 9999
    · cases h
  · cases h

/-- Neither two nil values of an interface type nor two structs: nothing is guarded. -/
theorem eqGuard_quiet {op : BinOp} {t : TypeId} {x y : Operand} {a b : Value} (h1 : ¬ (a = .nilIface ∧ b = .nilIface)) (h2 : ∀ p q, ¬ (a = .agg p ∧ b = .agg q)) : (eqGuard op t x y a b).run P w = .ok () w := by
  unfold eqGuard
  cases op <;> dsimp only [Bool.not_true, Bool.not_false, if_true, Bool.false_eq_true, if_false] <;> (try rfl)
  all_goals
    split
    · rename_i h; exact absurd h (by decide)
    · split
      · exact absurd ⟨rfl, rfl⟩ h1
      · exact absurd ⟨rfl, rfl⟩ (h2 _ _)
      · rfl

theorem eqGuard_const {op : BinOp} {t : TypeId} {x y : Operand} (h : (isConstO x || isConstO y) = true) : (eqGuard op t x y .nilIface .nilIface).run P w = .ok () w := by
  unfold eqGuard
  cases op <;> dsimp only [Bool.not_true, Bool.not_false, if_true, Bool.false_eq_true, if_false] <;> (try rfl)
  all_goals
    cases x <;> cases y <;> simp [isConstO] at h <;> rfl

theorem ScalOk.guard {op : BinOp} {t : TypeId} {x y : Operand} {a b : Value} {s : Scal} (hg : (eqGuard op t x y a b).run P w = .ok () w) (h : ScalOk P (binOp op t a b) w s) : ScalOk P (do eqGuard op t x y a b; binOp op t a b) w s := by
  cases s <;> simp only [ScalOk, Sem.run_bind, hg, Result.andThen_ok] at h ⊢ <;> exact h

theorem binOp_str {op : BinOp} {t : TypeId} {a b : ByteArray} : binOp op t (.string a) (.string b) = Op.stringOp op a b := by
  cases op <;> rfl

theorem nilKind_agg {d : TypeDesc} {l : List NV} : nilKind d (.agg l) = false := by cases d <;> rfl

theorem not_agg {d : TypeDesc} {x : NV} {xv : Value} (hk : nilKind d x = true) (hx : V ι I x xv) (p : Array Value) : xv ≠ .agg p := by
  rintro rfl
  rcases nil_forms hk hx with ⟨_, f⟩ | ⟨_, f⟩ <;> cases d <;> simp at f

theorem eqN_not_agg {t : TypeId} {x y : NV} {xv : Value} {b : Bool} (hx : V ι I x xv) (h : (eqN T t).f x y = some b) (p : Array Value) : xv ≠ .agg p := by
  unfold eqN at h
  split at h
  · simp only at h
    split at h
    · simp only [V] at hx; subst hx; simp
    · cases h
  · simp only at h
    split at h
    · rename_i hk
      simp only [Bool.and_eq_true] at hk
      exact not_agg hk.1 hx p
    · cases h
  · cases h

theorem V_nili_of {x : NV} {d : TypeDesc} (hk : nilKind d x = true) (hx : V ι I x .nilIface) : isNili x = true := by
  rcases nil_forms hk hx with ⟨h, f⟩ | ⟨h, f⟩
  · cases d <;> simp only at f <;> first | exact f.elim | cases f | skip
    cases x <;> simp [nilKind] at hk <;> first | rfl | simp [isNilV] at h
  · cases d <;> simp only at f <;> first | exact f.elim | (obtain ⟨_, f⟩ := f; cases f; done) | (obtain ⟨_, _, f⟩ := f; cases f; done) | (obtain ⟨_, _, _, f⟩ := f; cases f; done)

theorem eqN_nili {t : TypeId} {x y : NV} {b : Bool} (hx : V ι I x .nilIface) (h : (eqN T t).f x y = some b) : isNili x = true := by
  unfold eqN at h
  split at h
  · simp only at h
    split at h
    · simp only [V] at hx; cases hx
    · cases h
  · simp only at h
    split at h
    · rename_i hk
      simp only [Bool.and_eq_true] at hk
      exact V_nili_of hk.1 hx
    · cases h
  · cases h

theorem eqN_nili' {t : TypeId} {x y : NV} {b : Bool} (hy : V ι I y .nilIface) (h : (eqN T t).f x y = some b) : isNili y = true := by
  unfold eqN at h
  split at h
  · simp only at h
    split at h
    · simp only [V] at hy; cases hy
    · cases h
  · simp only at h
    split at h
    · rename_i hk
      simp only [Bool.and_eq_true] at hk
      exact V_nili_of hk.2 hy
    · cases h
  · cases h

/-- The operator's own meaning, where it compares. -/
theorem binOp_eql {t : TypeId} {a b : Value} {r : Bool} (hi : ∀ k n k' n', ¬ (a = .int k n ∧ b = .int k' n')) (hs : ∀ s s', ¬ (a = .string s ∧ b = .string s')) (hf : ∀ k n k' n', ¬ (a = .float k n ∧ b = .float k' n'))
    (hc : ∀ k n p k' n' q, ¬ (a = .complex k n p ∧ b = .complex k' n' q)) (h : (Op.equal t a b).run P w = .ok r w) :
    (binOp .eql t a b).run P w = .ok (.bool r) w ∧ (binOp .neq t a b).run P w = .ok (.bool !r) w := by
  constructor
  · unfold binOp
    split <;> first
      | exact absurd ⟨rfl, rfl⟩ (hi _ _ _ _)
      | exact absurd ⟨rfl, rfl⟩ (hs _ _)
      | exact absurd ⟨rfl, rfl⟩ (hf _ _ _ _)
      | exact absurd ⟨rfl, rfl⟩ (hc _ _ _ _ _ _)
      | (simp [h]; done)
      | contradiction
  · unfold binOp
    split <;> first
      | exact absurd ⟨rfl, rfl⟩ (hi _ _ _ _)
      | exact absurd ⟨rfl, rfl⟩ (hs _ _)
      | exact absurd ⟨rfl, rfl⟩ (hf _ _ _ _)
      | exact absurd ⟨rfl, rfl⟩ (hc _ _ _ _ _ _)
      | (simp [h]; done)
      | contradiction


theorem eqN_forms {t : TypeId} {x y : NV} {xv yv : Value} {b : Bool} (hx : V ι I x xv) (hy : V ι I y yv) (h : (eqN T t).f x y = some b) :
    (∀ k n k' n', ¬ (xv = .int k n ∧ yv = .int k' n')) ∧ (∀ s s', ¬ (xv = .string s ∧ yv = .string s')) ∧ (∀ k n k' n', ¬ (xv = .float k n ∧ yv = .float k' n')) ∧ (∀ k n p k' n' q, ¬ (xv = .complex k n p ∧ yv = .complex k' n' q)) := by
  unfold eqN at h
  split at h
  · simp only at h
    split at h
    · simp only [V] at hx; subst hx; simp
    · cases h
  · rename_i d _ _
    simp only at h
    split at h
    · rename_i hk
      simp only [Bool.and_eq_true] at hk
      rcases nil_forms hk.1 hx with ⟨_, f⟩ | ⟨_, f⟩ <;> cases d <;> simp only at f <;> first
        | exact f.elim
        | (subst f; simp; done)
        | (obtain ⟨_, rfl⟩ := f; simp; done)
        | (obtain ⟨_, _, rfl⟩ := f; simp; done)
        | (obtain ⟨_, _, _, rfl⟩ := f; simp; done)
    · cases h
  · cases h

theorem eqScal_sound {t : TypeId} {d : TypeDesc} {x y : NV} {xv yv : Value} {b : Bool} (hu : P.underlying t = some d) (hx : V ι I x xv) (hy : V ι I y yv) (h : eqScal d x y = some b) (n : Nat) : (Op.equalIn (n + 1) t xv yv).run P w = .ok b w := by
  unfold eqScal at h
  split at h
  · simp only [V] at hx hy; subst hx hy
    cases h
    exact equalIn_bool hu n
  · simp only [V] at hx hy; subst hx hy
    split at h
    · rename_i hk; subst hk
      cases h
      exact run_equalIn_int w n t _ _ _ _ hu
    · cases h
  · simp only [V] at hx hy; subst hx hy
    cases h
    rw [run_equalIn_string w n t _ _ hu, ByteArray.toList_eq, ByteArray.toList_eq]
  · cases h

theorem part_scal (hT : TabOk T P) {t : TypeId} {d : TypeDesc} {x : NV} {cs : List NV} {arr : Array Value} {off : Nat} (hu : T.und t = some d) (ha : isAggD d = false) (hv : VL ι I cs arr.toList) (hx : cs[off]? = some x) (w : World) :
    ∃ xv, (part t arr off).run P w = .ok xv w ∧ V ι I x xv := by
  obtain ⟨xv, h1, h2⟩ := VL_get hv hx
  refine ⟨xv, ?_, h2⟩
  have hr := run_underlying (P := P) (hT.und _ _ hu) w
  have hag : (isAgg t).run P w = .ok false w := by
    unfold isAgg
    simp only [Sem.run_bind, hr, Result.andThen_ok]
    cases d <;> simp [isAggD] at ha <;> rfl
  rw [Array.getElem?_toList] at h1
  simp [part, hag, h1]

theorem eqFs_sound (hT : TabOk T P) {cs ds : List NV} {xs ys : Array Value} (hx : VL ι I cs xs.toList) (hy : VL ι I ds ys.toList) (n : Nat) : ∀ {fs : List Field} {b : Bool}, (∀ f ∈ fs, f.name ≠ "_") → eqFs T cs ds fs = some b → (Op.eqFields (n + 1) xs ys fs).run P w = .ok b w
  | [], b, _, h => by simp only [eqFs, Option.some.injEq] at h; subst h; rfl
  | f :: fs, b, hn, h => by
    simp only [eqFs] at h
    split at h
    case h_2 => cases h
    rename_i d a c hu ha hc
    cases hs : eqScal d a c with
    | none => rw [hs] at h; cases h
    | some r =>
      rw [hs] at h
      have hagg : isAggD d = false := by
        unfold eqScal at hs
        split at hs <;> first | rfl | cases hs
      obtain ⟨av, p1, p2⟩ := part_scal (ι := ι) (I := I) (P := P) hT hu hagg hx ha w
      obtain ⟨cv, q1, q2⟩ := part_scal (ι := ι) (I := I) (P := P) hT hu hagg hy hc w
      have heq := eqScal_sound (w := w) (hT.und _ _ hu) p2 q2 hs n
      have hname : f.name ≠ "_" := hn f List.mem_cons_self
      simp only [Op.eqFields, hname, ne_eq, not_false_eq_true, if_true, Sem.run_bind, p1, q1, heq, Result.andThen_ok]
      cases r with
      | true => simpa using eqFs_sound hT hx hy n (fun f hf => hn f (List.mem_cons_of_mem _ hf)) h
      | false => cases h; simp

theorem eqX_sound (hT : TabOk T P) {op : BinOp} {t : TypeId} {xo yo : Operand} {x y : NV} {xv yv : Value} {b : Bool} (hx : V ι I x xv) (hy : V ι I y yv) (h : (eqX T t).f x y = some b) :
    (eqGuard op t xo yo xv yv).run P w = .ok () w ∧ (binOp .eql t xv yv).run P w = .ok (.bool b) w ∧ (binOp .neq t xv yv).run P w = .ok (.bool !b) w := by
  unfold eqX at h
  split at h
  · rename_i ms hu
    simp only at h
    split at h
    case h_2 => cases h
    rename_i tx vx ty vy
    simp only [V] at hx hy
    obtain ⟨xw, rfl, hvx⟩ := hx
    obtain ⟨yw, rfl, hvy⟩ := hy
    have heq : (Op.equal t (.iface tx xw) (.iface ty yw)).run P w = .ok b w := by
      have hr := run_underlying (P := P) (hT.und _ _ hu) w
      show (Op.equalIn (9998 + 1 + 1) t (.iface tx xw) (.iface ty yw)).run P w = _
      generalize 9998 = n
      split at h
      · rename_i hb
        cases h
        have hne : tx ≠ ty := fun e => by rw [e] at hb; simp at hb
        simp [Op.equalIn, hr, hne]
      · rename_i hb
        have he := Nat.eq_of_beq_eq_true hb
        subst he
        split at h
        case h_2 => cases h
        rename_i d hc hd
        obtain ⟨i, hi1, hi2⟩ := hT.comp _ hc
        have := eqScal_sound (w := w) (hT.und _ _ hd) hvx hvy h n
        rw [Op.equalIn]
        simp only [Sem.run_bind, hr, Result.andThen_ok, ne_eq, not_true_eq_false, if_false, run_typeInfo w hi1, hi2, Bool.not_true, Bool.false_eq_true, this]
    exact ⟨eqGuard_quiet (by simp) (by simp), binOp_eql (by simp) (by simp) (by simp) (by simp) heq⟩
  · rename_i fs hu
    split at h
    case h_2 => cases h
    rename_i hq
    simp only at h
    split at h
    case h_2 => cases h
    rename_i xs ys
    simp only [V] at hx hy
    obtain ⟨xa, rfl, hvx⟩ := hx
    obtain ⟨ya, rfl, hvy⟩ := hy
    obtain ⟨g1, g2, g3⟩ := hT.eqs t hq
    have hf : P.fieldsOf t = fs := by unfold Program.fieldsOf; rw [hT.und _ _ hu]
    have heq : (Op.equal t (.agg xa) (.agg ya)).run P w = .ok b w := by
      show (Op.equalIn (9998 + 1 + 1) t (.agg xa) (.agg ya)).run P w = _
      rw [run_equalIn_struct w (9998 + 1) t xa ya (by rw [hf]; exact hT.und _ _ hu) g1, hf]
      exact eqFs_sound hT hvx hvy 9998 (by rw [← hf]; exact g3) h
    refine ⟨?_, binOp_eql (by simp) (by simp) (by simp) (by simp) heq⟩
    unfold eqGuard
    cases op <;> simp [g2]
  · cases h

theorem eqBin_sound (hT : TabOk T P) {op : BinOp} {t : TypeId} {xo yo : Operand} {x y : NV} {xv yv : Value} {s : Scal} (hx : V ι I x xv) (hy : V ι I y yv)
    (h : (eqBin T op t (isConstO xo || isConstO yo)).f x y = some s) : ScalOk P (do eqGuard op t xo yo xv yv; binOp op t xv yv) w s := by
  have key : ∀ b, eqV T t x y = some b → ¬ (isNili x && isNili y) = true → (eqGuard op t xo yo xv yv).run P w = .ok () w ∧ (binOp .eql t xv yv).run P w = .ok (.bool b) w ∧ (binOp .neq t xv yv).run P w = .ok (.bool !b) w := by
    intro b hb hn
    unfold eqV at hb
    split at hb
    · rename_i r hr
      cases hb
      obtain ⟨f1, f2, f3, f4⟩ := eqN_forms hx hy hr
      refine ⟨eqGuard_quiet (fun ⟨h1, h2⟩ => hn ?_) (fun p q ⟨h1, _⟩ => eqN_not_agg hx hr p h1), binOp_eql f1 f2 f3 f4 (eqN_sound hT hx hy hr)⟩
      subst h1 h2
      rw [eqN_nili hx hr, eqN_nili' hy hr]; rfl
    · exact eqX_sound hT hx hy hb
  have nn : (isNili x && isNili y) = true → xv = .nilIface ∧ yv = .nilIface := by
    intro hn
    simp only [Bool.and_eq_true] at hn
    constructor
    · cases x <;> simp [isNili] at hn; simp only [V] at hx; exact hx
    · cases y <;> simp [isNili] at hn; simp only [V] at hy; exact hy
  have ifc : ∀ b, nilNil ((isConstO xo || isConstO yo) && ifaceT T t) b = some s → (isConstO xo || isConstO yo) = true ∧ s = .val (.bool b) ∧ ∃ ms, P.underlying t = some (.interface ms) := by
    intro b hb
    unfold nilNil at hb
    split at hb
    · rename_i hc; cases hb
      simp only [Bool.and_eq_true] at hc
      refine ⟨hc.1, rfl, ?_⟩
      have := hc.2
      unfold ifaceT at this
      split at this
      · rename_i ms hms; exact ⟨ms, hT.und _ _ hms⟩
      · cases this
    · cases hb
  have eqn : ∀ ms, P.underlying t = some (.interface ms) → (Op.equal t .nilIface .nilIface).run P w = .ok true w := by
    intro ms hms
    have hr := run_underlying (P := P) hms w
    show (Op.equalIn (9999 + 1) t .nilIface .nilIface).run P w = _
    generalize 9999 = n
    simp [Op.equalIn, hr]
  unfold eqBin at h
  split at h
  · simp only at h
    split at h
    · rename_i hn
      obtain ⟨hc, rfl, ms, hms⟩ := ifc _ h
      obtain ⟨rfl, rfl⟩ := nn hn
      refine ScalOk.guard (eqGuard_const hc) ⟨_, (binOp_eql (by simp) (by simp) (by simp) (by simp) (eqn ms hms)).1, fun _ _ => by simp [V], by simp [maxId]⟩
    · rename_i hn
      split at h
      · rename_i b hb
        cases h
        obtain ⟨k1, k2, k3⟩ := key b hb (by simp [hn])
        exact ScalOk.guard k1 ⟨_, k2, fun _ _ => by simp [V], by simp [maxId]⟩
      · cases h
  · simp only at h
    split at h
    · rename_i hn
      obtain ⟨hc, rfl, ms, hms⟩ := ifc _ h
      obtain ⟨rfl, rfl⟩ := nn hn
      refine ScalOk.guard (eqGuard_const hc) ⟨_, (binOp_eql (by simp) (by simp) (by simp) (by simp) (eqn ms hms)).2, fun _ _ => by simp [V], by simp [maxId]⟩
    · rename_i hn
      split at h
      · rename_i b hb
        cases h
        obtain ⟨k1, k2, k3⟩ := key b hb (by simp [hn])
        exact ScalOk.guard k1 ⟨_, k3, fun _ _ => by simp [V], by simp [maxId]⟩
      · cases h
  · cases h

theorem binN_sound (hT : TabOk T P) {op : BinOp} {t : TypeId} {xo yo : Operand} {x y : NV} {xv yv : Value} {s : Scal} (hx : V ι I x xv) (hy : V ι I y yv)
    (h : (binN T op t (isConstO xo || isConstO yo)).f x y = some s) : ScalOk P (do eqGuard op t xo yo xv yv; binOp op t xv yv) w s := by
  unfold binN at h
  split at h
  · rename_i hs
    simp only at h
    split at h
    · simp only [V] at hx hy; subst hx hy
      refine ScalOk.guard (eqGuard_quiet (by simp) (by simp)) ?_
      cases op <;> simp [isShift] at hs <;> exact shiftN_ok (yk := IntKind.i64) h
    · cases h
  · rename_i hs
    simp only at h
    split at h
    · simp only [V] at hx hy; subst hx hy
      split at h
      · rename_i hk
        have := sameKind_eq hk; subst this
        exact ScalOk.guard (eqGuard_quiet (by simp) (by simp)) (intBin_ok hs h t)
      · cases h
    · simp only [V] at hx hy; subst hx hy
      refine ScalOk.guard (eqGuard_quiet (by simp) (by simp)) ?_
      rw [binOp_str]
      exact strBin_ok h
    · exact eqBin_sound hT hx hy h

theorem unN_sound {op : UnOp} {x : NV} {xv : Value} {s : Scal} (hx : V ι I x xv) (h : (unN op).f x = some s) : ScalOk P (Op.unary op xv) w s := by
  unfold unN at h
  split at h
  · simp only at h
    split at h
    · simp only [V] at hx; subst hx
      simp only [intBin] at h; cases h
      exact ⟨_, rfl, fun _ _ => by simp [V], by simp [maxId]⟩
    · cases h
  · simp only at h
    split at h
    · simp only [V] at hx; subst hx
      exact intBits_ok h
    · cases h
  · simp only at h
    split at h
    · simp only [V] at hx; subst hx
      cases h
      exact ⟨_, rfl, fun _ _ => by simp [V], by simp [maxId]⟩
    · cases h
  · cases h

end Go.Kn

namespace Go.Kn

variable {T : Tab} {P : Program} {ι : Iota} {I : Imm} {m : Mem} {w : World}

/-- A new row of cells, perhaps with more behind what the evaluator knows of. -/
theorem R.new (hR : R ι I m w) {l : List NV} {arr : Array Value} {el : TypeId} (hl : VL ι I l (arr.toList.take l.length)) (hlen : l.length ≤ arr.size) (hb : maxIds l ≤ m.n) :
    R (upd ι m.n ⟨w.heap.size, 0, arr.size, l.length⟩) I (m.push (.cells l)) (w.alloc (.cells arr el)) ∧
      Ext ι I m w (upd ι m.n ⟨w.heap.size, 0, arr.size, l.length⟩) I (m.push (.cells l)) (w.alloc (.cells arr el)) := by
  refine R.push hR (.cells l) (.cells arr el) ⟨w.heap.size, 0, arr.size, l.length⟩ rfl rfl hb ?_
  refine ⟨rfl, hlen, by simp, fun i hi => ?_, fun i v hv => ?_⟩
  · simp only at hi
    constructor
    · show ((w.alloc (.cells arr el)).cell? ⟨w.heap.size, 0 + i, none⟩).isSome = true
      rw [Nat.zero_add, World.cell?_alloc_new, Array.getElem?_eq_getElem hi]; rfl
    · exact ⟨arr, el, 0, 0, World.alloc_heap_new w _, .inl rfl⟩
  · have hlt : i < l.length := by
      rcases Nat.lt_or_ge i l.length with h | h
      · exact h
      · rw [List.getElem?_eq_none h] at hv; cases hv
    obtain ⟨x, hx, hvx⟩ := VL_get hl hv
    rw [List.getElem?_take, if_pos hlt] at hx
    refine ⟨x, ?_, V_congr (fun _ _ _ h => h) (fun b hb' => upd_lt _ _ (Nat.lt_of_lt_of_le hb' (Nat.le_trans (maxIds_get hv) hb))) hvx⟩
    show (w.alloc (.cells arr el)).cell? ⟨w.heap.size, 0 + i, none⟩ = some x
    rw [Nat.zero_add, World.cell?_alloc_new]
    simpa using hx

theorem V_cells {v : NV} {x : Value} (h : V ι I v x) : VL ι I v.cells x.cells.toList ∧ maxIds v.cells = maxId v := by
  have one : ∀ (v : NV) (x : Value), V ι I v x → v.cells = [v] → x.cells = #[x] → VL ι I v.cells x.cells.toList ∧ maxIds v.cells = maxId v := by
    intro v x h e1 e2
    rw [e1, e2]
    exact ⟨VL_cons.2 ⟨h, by simp [VL]⟩, by simp [maxIds, mx_eq]⟩
  cases v with
  | agg l =>
    simp only [V] at h
    obtain ⟨a, rfl, h⟩ := h
    exact ⟨h, by simp [NV.cells, maxId]⟩
  | unk => refine one _ _ h rfl ?_; simp only [V] at h; cases x <;> first | rfl | (simp [Value.oneCell'] at h)
  | vec b n l =>
    refine one _ _ h rfl ?_
    cases b
    · simp only [V] at h; obtain ⟨_, _, _, _, h, _⟩ := h; subst h; rfl
    · simp only [V] at h; rw [h.2.2]; rfl
  | map b => refine one _ _ h rfl ?_; cases b <;> simp only [V] at h <;> subst h <;> rfl
  | cptr l off => refine one _ _ h rfl ?_; simp only [V] at h; obtain ⟨_, _, _, h, _⟩ := h; subst h; rfl
  | msl b off n sz => refine one _ _ h rfl ?_; simp only [V] at h; obtain ⟨_, _, h, _⟩ := h; subst h; rfl
  | fn f a c => refine one _ _ h rfl ?_; simp only [V] at h; obtain ⟨_, _, h, _⟩ := h; subst h; rfl
  | iface t v => refine one _ _ h rfl ?_; simp only [V] at h; obtain ⟨_, h, _⟩ := h; subst h; rfl
  | rterr => refine one _ _ h rfl ?_; simp only [V] at h; obtain ⟨_, _, h⟩ := h; subst h; rfl
  | tup l => refine one _ _ h rfl ?_; simp only [V] at h; obtain ⟨_, h, _⟩ := h; subst h; rfl
  | _ => refine one _ _ h rfl ?_; simp only [V] at h; subst h; rfl

theorem V_oneCell {v : NV} {x : Value} (hc : isCell v = true) (h : V ι I v x) : x.oneCell' = true := by
  cases v with
  | agg l => cases hc
  | tup l => cases hc
  | unk => cases hc
  | vec b n l =>
    cases b
    · simp only [V] at h; obtain ⟨_, _, _, _, h, _⟩ := h; subst h; rfl
    · simp only [V] at h; rw [h.2.2]; rfl
  | map b => cases b <;> simp only [V] at h <;> subst h <;> rfl
  | cptr l off => simp only [V] at h; obtain ⟨_, _, _, h, _⟩ := h; subst h; rfl
  | msl b off n sz => simp only [V] at h; obtain ⟨_, _, h, _⟩ := h; subst h; rfl
  | fn f a c => simp only [V] at h; obtain ⟨_, _, h, _⟩ := h; subst h; rfl
  | iface t v => simp only [V] at h; obtain ⟨_, h, _⟩ := h; subst h; rfl
  | rterr => simp only [V] at h; obtain ⟨_, _, h⟩ := h; subst h; rfl
  | _ => simp only [V] at h; subst h; rfl

theorem VL_oneCell : ∀ {l : List NV} {r : List Value}, allCells l = true → VL ι I l r → ∀ v ∈ r, v.oneCell' = true
  | [], r, _, h => by simp [VL] at h; subst h; simp
  | v :: l, r, hc, h => by
    simp only [VL] at h
    obtain ⟨x, s, rfl, hv, hl⟩ := h
    simp only [allCells] at hc
    split at hc
    · rename_i hcv
      intro y hy
      rcases List.mem_cons.1 hy with rfl | hy
      · exact V_oneCell hcv hv
      · exact VL_oneCell hc hl y hy
    · cases hc

theorem tape_setCells (b : Nat) : ∀ (vs : List Value) (o : Nat) (w : World), (w.setCells b o vs).tape = w.tape
  | [], _, _ => rfl
  | _ :: r, o, _ => (tape_setCells b r (o + 1) _).trans rfl

theorem sz_setCells (b : Nat) : ∀ (vs : List Value) (o : Nat) (w : World), (w.setCells b o vs).heap.size = w.heap.size
  | [], _, _ => rfl
  | v :: r, o, w => (sz_setCells b r (o + 1) _).trans (World.size_setCell w _ v)

theorem some_setCells {w : World} {b o : Nat} {vs : List Value} (hc : ∀ j, j < vs.length → (w.cell? ⟨b, o + j, none⟩).isSome = true) (k : Nat) (h : (w.cell? ⟨b, k, none⟩).isSome = true) : ((w.setCells b o vs).cell? ⟨b, k, none⟩).isSome = true := by
  by_cases hin : o ≤ k ∧ k < o + vs.length
  · have := World.cell?_setCells_in b vs o w hc (k - o) (by omega)
    rw [show o + (k - o) = k by omega] at this
    rw [this]; rfl
  · rw [World.cell?_setCells_out _ _ _ _ _ (fun _ _ => by simp only; omega)]
    exact h

/-- A write into a block. -/
theorem write_sound (hR : R ι I m w) {b off : Nat} {vs : List NV} {m' : Mem} {xs : List Value} (h : m.write b off vs = some m') (hv : VL ι I vs xs) (hb : maxIds vs ≤ m.n) :
    (storeCells ⟨(ι b).cb, (ι b).co + off, none⟩ xs).run P w = .ok () (w.setCells (ι b).cb ((ι b).co + off) xs) ∧
      R ι I m' (w.setCells (ι b).cb ((ι b).co + off) xs) ∧ Ext ι I m w ι I m' (w.setCells (ι b).cb ((ι b).co + off) xs) := by
  unfold Mem.write at h
  split at h
  case h_2 => cases h
  rename_i l hl
  split at h
  case h_2 => cases h
  rename_i hc
  split at h
  case h_2 => cases h
  rename_i l' hs
  cases h
  have hg := Mem.cells_get hl
  obtain ⟨h1, h2, h3, h4, h5⟩ := hR.blk b _ hg
  obtain ⟨e1, e2⟩ := setAt_eq hs
  have hlen := VL_length hv
  have hcell : ∀ j, j < xs.length → (w.cell? ⟨(ι b).cb, (ι b).co + off + j, none⟩).isSome = true ∧ Unfro w (ι b).cb ((ι b).co + off + j) := fun j hj => by
    have := h4 (off + j) (by omega)
    rw [show (ι b).co + (off + j) = (ι b).co + off + j by omega] at this
    exact this
  have hrun := run_storeCells_cells (P := P) (ι b).cb ((ι b).co + off) xs 0 w (fun j hj => by simpa using (hcell j hj).1) (fun j hj => by simpa using (hcell j hj).2.frozen) (VL_oneCell hc hv)
  refine ⟨by simpa using hrun, ?_⟩
  have hl' : l'.length = l.length := by rw [e2]; simp; omega
  refine R.turn hR hg rfl (.cells l') (maxIds vs) (sz_setCells _ _ _ _) (fun k hk hne => World.heap_setCells_other w _ _ _ hk hne) (World.os_setCells _ _ _ _) (World.output_setCells _ _ _ _) ?_ ?_ ?_ hb
  · exact tape_setCells _ _ _ _
  · refine ⟨hl'.trans h1, h2, by rw [sz_setCells]; exact h3, fun i hi => ?_, fun i v hv' => ?_⟩
    · constructor
      · exact some_setCells (fun j hj => (hcell j hj).1) _ (h4 i hi).1
      · exact (h4 i hi).2.setCells _ _ _
    · by_cases hin : off ≤ i ∧ i < off + vs.length
      · obtain ⟨hi1, hi2⟩ := hin
        have hj : i - off < xs.length := by omega
        have hvi : vs[i - off]? = some v := by
          rw [e2] at hv'
          rw [List.append_assoc, List.getElem?_append_right (by simp; omega)] at hv'
          rw [List.getElem?_append_left (by simp; omega)] at hv'
          simpa [show min off l.length = off by omega] using hv'
        obtain ⟨x, hx, hvx⟩ := VL_get hv hvi
        refine ⟨x, ?_, hvx⟩
        have := World.cell?_setCells_in (ι b).cb xs ((ι b).co + off) w (fun j hj => (hcell j hj).1) (i - off) hj
        rw [show (ι b).co + off + (i - off) = (ι b).co + i by omega] at this
        rw [this]
        rw [List.getElem?_eq_getElem hj] at hx
        exact hx
      · have hvi : l[i]? = some v := by
          rw [e2] at hv'
          by_cases hi1 : i < off
          · rw [List.append_assoc, List.getElem?_append_left (by simp; omega)] at hv'
            rw [List.getElem?_take, if_pos hi1] at hv'
            exact hv'
          · rw [List.getElem?_append_right (by simp; omega)] at hv'
            rw [List.getElem?_drop] at hv'
            simp only [List.length_append, List.length_take] at hv'
            rw [show off + vs.length + (i - (min off l.length + vs.length)) = i by omega] at hv'
            exact hv'
        obtain ⟨x, hx, hvx⟩ := h5 i v hvi
        refine ⟨x, ?_, hvx⟩
        rw [World.cell?_setCells_out _ _ _ _ _ (fun _ _ => by simp only; omega)]
        exact hx
  · simp only [mbMax]
    rw [e2]
    have a1 := maxIds_append (l := l.take off ++ vs) (r := l.drop (off + vs.length))
    have a2 := maxIds_append (l := l.take off) (r := vs)
    have a3 := maxIds_take (l := l) (n := off)
    have a4 := maxIds_drop (l := l) (n := off + vs.length)
    omega

end Go.Kn

namespace Go.Kn

variable {T : Tab} {P : Program} {ι : Iota} {I : Imm} {m : Mem} {w : World}

theorem TabOk.cellsOf (hT : TabOk T P) {t : TypeId} {n : Nat} (h : T.size t = some n) (w : World) : (sizeOf t).run P w = .ok n w := by
  obtain ⟨i, hi, hn⟩ := hT.size t n h
  simp [sizeOf, run_typeInfo w hi, hn]

theorem isAgg_run {t : TypeId} {d : TypeDesc} (h : P.underlying t = some d) (w : World) : (isAgg t).run P w = .ok (isAggD d) w := by
  unfold isAgg
  simp only [Sem.run_bind, run_underlying h, Result.andThen_ok]
  cases d <;> rfl

theorem ptr_sound (p : Loc) : V (upd ι m.n p) I (.ptr m.n 0) (.pointer (some ⟨p.cb, p.co, none⟩)) := by
  simp only [V, upd_same, Nat.add_zero]

theorem zero_run (hT : TabOk T P) {t : TypeId} {z : List NV} (h : T.zero t = some z) (w : World) : ∃ v, (zeroValue t).run P w = .ok v w ∧ VL ι I z v.cells.toList ∧ maxIds z = 0 := by
  obtain ⟨i, v, x, h1, h2, h3, h4, h5, _⟩ := hT.zero t z h
  refine ⟨v, by simp [zeroValue, run_typeInfo w h1, h2], ?_⟩
  subst h4
  exact ofValue_cells h3 h5

theorem run_newRow (t : TypeId) (cs : Array Value) (w : World) : (newRow t cs).run P w = .ok ⟨w.heap.size, 0, none⟩ (w.alloc (.cells cs t)) := rfl

theorem oAlloc_sound (hT : TabOk T P) (hR : R ι I m w) {t : TypeId} {e : Env} {r : OpRes} (h : (oAlloc T t).f e m = some r) : SV P (Instr.alloc t true (.tuple #[])) w ι I m r := by
  unfold oAlloc at h
  split at h
  case h_2 => cases h
  rename_i z hz
  cases h
  obtain ⟨v, h1, h2, h3⟩ := zero_run (ι := ι) (I := I) hT hz w
  have hl := VL_length h2
  have := R.new hR (l := z) (arr := v.cells) (el := t) (by rw [hl, List.take_length]; exact h2) (by simp [hl]) (by omega)
  refine ⟨.pointer (some ⟨w.heap.size, 0, none⟩), _, _, _, ?_, ptr_sound _, by simp [maxId, Mem.push], this.1, this.2⟩
  simp [Instr.alloc, h1, newVar, run_newRow]

theorem oBox_sound (hR : R ι I m w) {t : TypeId} {v : NV} {x : Value} {r : OpRes} (hv : V ι I v x) (hb : maxId v ≤ m.n) (h : oBox m v = some r) : SV P (Instr.box t x) w ι I m r := by
  unfold oBox at h
  split at h
  · cases h
  cases h
  obtain ⟨h2, h3⟩ := V_cells hv
  have hl := VL_length h2
  have := R.new hR (l := v.cells) (arr := x.cells) (el := t) (by rw [hl, List.take_length]; exact h2) (by simp [hl]) (by omega)
  refine ⟨.pointer (some ⟨w.heap.size, 0, none⟩), _, _, _, ?_, ptr_sound _, by simp [maxId, Mem.push], this.1, this.2⟩
  simp [Instr.box, newVar, run_newRow]

theorem packV {d : TypeDesc} {cs : List NV} {xs : List Value} (h : VL ι I cs xs) (ha : isAggD d = true) : V ι I (.agg cs) (.agg xs.toArray) := by
  simp only [V]; exact ⟨_, rfl, by simpa using h⟩

theorem loadN_sound (hT : TabOk T P) (hR : R ι I m w) {t : TypeId} {p v : NV} {x : Value} (hp : V ι I p x) (h : (loadN T t).f m p = some v) : SV P (Instr.loadAt t x) w ι I m (.val v m) := by
  unfold loadN at h
  split at h
  case h_2 => cases h
  rename_i d n hd hn
  split at h
  · rename_i ha
    simp only at h
    split at h
    case h_2 => cases h
    rename_i cs hcs
    cases h
    obtain ⟨cb, co, rfl, hc, hlen, hb⟩ := readN_sound hR hp hcs
    obtain ⟨xs, h1, h2, h3⟩ := hc.list
    refine SV.val_same hR (x := .agg xs.toArray) ?_ (packV h2 ha) (by simpa [maxId] using hb)
    have hl := run_loadCells_at (P := P) (n := n) (by omega) h3
    simp [Instr.loadAt, Instr.sureAddr, loadVar, isAgg_run (hT.und _ _ hd), ha, hT.cellsOf hn, hl]
  · rename_i ha
    simp only at h
    split at h
    case h_2 => cases h
    rename_i cs hcs
    obtain ⟨cb, co, rfl, hc, hlen, hb⟩ := readN_sound hR hp hcs
    match cs, hlen, h with
    | [u], _, h =>
      simp only [one, Option.some.injEq] at h; subst h
      obtain ⟨y, hy, hvy⟩ := hc 0 u (by simp)
      refine SV.val_same hR (x := y) ?_ hvy (by simpa [maxIds, mx_eq] using hb)
      simp only [Nat.add_zero] at hy
      simp [Instr.loadAt, Instr.sureAddr, loadVar, isAgg_run (hT.und _ _ hd), ha, hy]

/-- A store's run: no value comes of it. -/
def SU (P : Program) (S : Sem Unit) (w : World) (ι : Iota) (I : Imm) (m : Mem) : OpRes → Prop
  | .val v m' => v = .tup [] ∧ ∃ w', S.run P w = .ok () w' ∧ R ι I m' w' ∧ Ext ι I m w ι I m' w'
  | _ => False

theorem V_cells_size {v : NV} {x : Value} (h : V ι I v x) : x.cells.size = v.cells.length := by
  have := VL_length (V_cells h).1
  simp at this; omega

theorem allCells_unk {v : NV} (h : allCells v.cells = true) : v ≠ .unk := by rintro rfl; simp [NV.cells, allCells, isCell] at h

theorem write_allCells {b off : Nat} {vs : List NV} {m' : Mem} (h : m.write b off vs = some m') : allCells vs = true := by
  unfold Mem.write at h
  split at h
  case h_2 => cases h
  split at h
  case h_2 => cases h
  assumption

theorem oStore_sound (hT : TabOk T P) (hR : R ι I m w) {t : TypeId} {p v : NV} {x y : Value} {r : OpRes} (hp : V ι I p x) (hv : V ι I v y) (hb : maxId v ≤ m.n) (h : oStore T t m p v = some r) : SU P (Instr.storeAt t x y) w ι I m r := by
  unfold oStore at h
  split at h
  case h_2 => cases h
  rename_i m' hm
  cases h
  unfold storeN at hm
  split at hm
  case h_2 => cases hm
  rename_i n hn
  simp only at hm
  split at hm
  case h_2 => cases hm
  rename_i b off
  split at hm
  case h_2 => cases hm
  rename_i hsz
  have hsz' := Nat.eq_of_beq_eq_true hsz
  obtain ⟨h2, h3⟩ := V_cells hv
  simp only [V] at hp; subst hp
  obtain ⟨k1, k2, k3⟩ := write_sound (P := P) hR hm h2 (by omega)
  refine ⟨rfl, _, ?_, k2, k3⟩
  have hs := V_cells_size hv
  simp [Instr.storeAt, Instr.sureAddr, storeVar, hT.cellsOf hn, hs, hsz', k1]

theorem fieldPlace_run (hT : TabOk T P) {f : Field} {n : Nat} (hn : T.size f.type = some n) (h0 : n ≠ 0) (cb co : Nat) (w : World) : (fieldPlace ⟨cb, co, none⟩ f).run P w = .ok ⟨cb, co + f.offset, none⟩ w := by
  simp [fieldPlace, hT.cellsOf hn, h0, addr_add]

theorem fieldOf_und (hT : TabOk T P) {t : TypeId} {i : Nat} {f : Field} (h : fieldOf T t i = some f) : ∃ fs, P.underlying t = some (.struct fs) ∧ fs[i]? = some f := by
  unfold fieldOf at h
  split at h
  · rename_i fs hfs; exact ⟨fs, hT.und _ _ hfs, h⟩
  · cases h

theorem addOff_sound {p q : NV} {x : Value} {n : Nat} (hp : V ι I p x) (h : addOff p n = some q) : ∃ cb co, x = .pointer (some ⟨cb, co, none⟩) ∧ V ι I q (.pointer (some ⟨cb, co + n, none⟩)) ∧ maxId q = maxId p := by
  unfold addOff at h
  split at h
  · cases h
    simp only [V] at hp ⊢
    exact ⟨_, _, hp, by rw [Nat.add_assoc], by simp [maxId]⟩
  · cases h
    simp only [V] at hp ⊢
    obtain ⟨h0, cb, co, hx, hl⟩ := hp
    exact ⟨_, _, hx, ⟨h0, cb, co, by rw [Nat.add_assoc], hl⟩, by simp [maxId]⟩
  · cases h

theorem oFieldAddr_sound (hT : TabOk T P) (hR : R ι I m w) {s : TypeId} {f : Nat} {v q : NV} {x : Value} (hv : V ι I v x) (hb : maxId v ≤ m.n) (h : (oFieldAddr T s f).f v = some q) : SV P (Instr.fieldAt s x f) w ι I m (.val q m) := by
  unfold oFieldAddr at h
  split at h
  case h_2 => cases h
  rename_i fd hfd
  split at h
  case h_2 => cases h
  rename_i n hn
  split at h
  · cases h
  rename_i h0
  have h0' : n ≠ 0 := fun e => by subst e; simp at h0
  obtain ⟨fs, hu, hf⟩ := fieldOf_und hT hfd
  obtain ⟨cb, co, rfl, hq, hm⟩ := addOff_sound hv h
  refine SV.val_same hR ?_ hq (by omega)
  simp [Instr.fieldAt, run_underlying hu, hf, Instr.sureAddr, fieldPlace_run hT hn h0']

end Go.Kn

namespace Go.Kn

variable {T : Tab} {P : Program} {ι : Iota} {I : Imm} {m : Mem} {w : World}

theorem VL_readAt {l r : List NV} {xs : List Value} {off n : Nat} (hv : VL ι I l xs) (h : readAt l off n = some r) : VL ι I r ((xs.drop off).take n) ∧ maxIds r ≤ maxIds l ∧ off + n ≤ xs.length := by
  obtain ⟨h1, h2⟩ := readAt_eq h
  refine ⟨?_, maxIds_readAt h, by rw [← VL_length hv]; exact h1⟩
  rw [h2]; exact VL_take _ (VL_drop _ hv)

theorem partN_sound (hT : TabOk T P) {t : TypeId} {cs : List NV} {off : Nat} {v : NV} {a : Array Value} (hv : VL ι I cs a.toList) (h : (partN T t).f cs off = some v) (w : World) :
    ∃ x, (part t a off).run P w = .ok x w ∧ V ι I v x ∧ maxId v ≤ maxIds cs := by
  unfold partN at h
  split at h
  case h_2 => cases h
  rename_i d n hd hn
  split at h
  · rename_i ha
    simp only at h
    split at h
    case h_2 => cases h
    rename_i r hr
    cases h
    obtain ⟨h1, h2, h3⟩ := VL_readAt hv hr
    refine ⟨.agg (a.extract off (off + n)), ?_, ?_, by simpa [maxId] using h2⟩
    · simp [part, isAgg_run (hT.und _ _ hd), ha, hT.cellsOf hn]
    · simp only [V]
      refine ⟨_, rfl, ?_⟩
      simpa [Array.toList_extract, List.extract_eq_take_drop] using h1
  · rename_i ha
    simp only at h
    split at h
    case h_2 => cases h
    rename_i r hr
    obtain ⟨h1, h2, h3⟩ := VL_readAt hv hr
    match r, h1, h, h2 with
    | [u], h1, h, h2 =>
      simp only [one, Option.some.injEq] at h; subst h
      have hl := VL_length h1
      have hlt : off < a.toList.length := by omega
      have he : (a.toList.drop off).take 1 = [a.toList[off]] := by
        rw [List.drop_eq_getElem_cons hlt]; simp
      rw [he] at h1
      have hx := (VL_cons.1 h1).1
      refine ⟨a.toList[off], ?_, hx, by simpa [maxIds, mx_eq] using h2⟩
      have : a[off]? = some a.toList[off] := by
        rw [← Array.getElem?_toList, List.getElem?_eq_getElem hlt]
      simp [part, isAgg_run (hT.und _ _ hd), ha, this]

theorem oField_sound (hT : TabOk T P) (hR : R ι I m w) {s : TypeId} {f : Nat} {v q : NV} {x : Value} (hv : V ι I v x) (hb : maxId v ≤ m.n) (h : (oField T s f).f v = some q) : SV P (Instr.field s x f) w ι I m (.val q m) := by
  unfold oField at h
  split at h
  case h_2 => cases h
  rename_i fd hfd
  obtain ⟨fs, hu, hf⟩ := fieldOf_und hT hfd
  simp only at h
  split at h
  case h_2 => cases h
  rename_i cs
  simp only [V] at hv
  obtain ⟨a, rfl, hv⟩ := hv
  obtain ⟨y, h1, h2, h3⟩ := partN_sound hT hv h w
  simp only [maxId] at hb
  refine SV.val_same hR (x := y) ?_ h2 (by omega)
  simp [Instr.field, run_underlying hu, hf, asAgg, h1]

theorem pan_of {S S' : Sem Value} {k : IntKind} {i j : Int} {c : BoundsCode} (hR : R ι I m w) (h : S.run P w = (boundsPanic (α := Value) k i j c).run P w) : SV P S w ι I m (.pan .rterr m) := SV.pan_bounds hR h

theorem oIndexAddr_sound (hT : TabOk T P) (hR : R ι I m w) {t : TypeId} {v i : NV} {x y : Value} {r : OpRes} (hv : V ι I v x) (hi : V ι I i y) (hb : maxId v ≤ m.n) (h : (oIndexAddr T t).f m v i = some r) : SV P (Instr.indexAt t x y) w ι I m r := by
  unfold oIndexAddr at h
  split at h
  · rename_i n el hu
    have hu := hT.und _ _ hu
    split at h
    case h_2 => cases h
    rename_i size hs
    simp only at h
    split at h
    case h_2 => cases h
    rename_i k j
    simp only [V] at hi; subst hi
    split at h
    case isFalse => cases h
    rename_i hj
    split at h
    case h_2 => cases h
    rename_i p hp
    cases h
    obtain ⟨cb, co, rfl, hq, hm⟩ := addOff_sound hv hp
    refine SV.val_same hR ?_ hq (by omega)
    simp [Instr.indexAt, asIntOf, run_underlying hu, Instr.sureAddr, hj, hT.cellsOf hs, addr_add]
  · rename_i el hu
    have hu := hT.und _ _ hu
    split at h
    case h_2 => cases h
    rename_i size hs
    simp only at h
    split at h
    case h_2 => cases h
    rename_i k j
    simp only [V] at hi; subst hi
    split at h
    · rename_i nl len cs
      cases nl
      · simp only [V] at hv
        obtain ⟨h0, cb, co, cap, rfl, hc, hl⟩ := hv
        split at h
        · rename_i hj
          cases h
          refine SV.val_same hR (x := .pointer (some ⟨cb, co + j.toNat * size, none⟩)) ?_ ?_ (by simp [maxId])
          · simp [Instr.indexAt, asIntOf, run_underlying hu, hj, hT.cellsOf hs, addr_add]
          · simp only [V]; exact ⟨h0, cb, co, rfl, hl⟩
        · rename_i hj
          cases h
          refine SV.pan_bounds (k := k) (x := j) (y := len) (c := .index) hR ?_
          simp [Instr.indexAt, asIntOf, run_underlying hu, hj]
      · simp only [V] at hv
        obtain ⟨rfl, rfl, rfl⟩ := hv
        split at h
        · rename_i hj; omega
        · cases h
          refine SV.pan_bounds (k := k) (x := j) (y := 0) (c := .index) hR ?_
          simp [Instr.indexAt, asIntOf, run_underlying hu]
    · rename_i b off len sz
      simp only [V] at hv
      obtain ⟨o, cap, rfl, hc, ho, h3, h4⟩ := hv
      split at h
      case h_2 => cases h
      rename_i hsz
      have hsz := Nat.eq_of_beq_eq_true hsz
      split at h
      · rename_i hj
        cases h
        have : o = (ι b).co + off := ho (by omega)
        subst this
        refine SV.val_same hR (x := .pointer (some ⟨(ι b).cb, (ι b).co + off + j.toNat * size, none⟩)) ?_ ?_ (by simpa [maxId] using hb)
        · simp [Instr.indexAt, asIntOf, run_underlying hu, hj, hT.cellsOf hs, addr_add]
        · simp only [V, Nat.add_assoc]
      · rename_i hj
        cases h
        refine SV.pan_bounds (k := k) (x := j) (y := len) (c := .index) hR ?_
        simp [Instr.indexAt, asIntOf, run_underlying hu, hj]
    · cases h
  · cases h

theorem ba_getElem? (s : List UInt8) (k : Nat) : (ByteArray.mk ⟨s⟩)[k]? = s[k]? := by
  by_cases h : k < s.length
  · rw [List.getElem?_eq_getElem h, getElem?_pos (ByteArray.mk ⟨s⟩) k h]; rfl
  · rw [List.getElem?_eq_none (by omega), getElem?_neg (ByteArray.mk ⟨s⟩) k h]

theorem oIndex_sound (hT : TabOk T P) (hR : R ι I m w) {t : TypeId} {v i : NV} {x y : Value} {r : OpRes} (hv : V ι I v x) (hi : V ι I i y) (hb : maxId v ≤ m.n) (h : (oIndex T t).f m v i = some r) : SV P (Instr.index t x y) w ι I m r := by
  unfold oIndex at h
  split at h
  · rename_i hu
    have hu := hT.und _ _ hu
    simp only at h
    split at h
    case h_2 => cases h
    rename_i s k j
    simp only [V] at hi hv; subst hi hv
    have hnth : (if 0 ≤ j then nth s j.toNat else none) = (if 0 ≤ j then (⟨⟨s⟩⟩ : ByteArray)[j.toNat]? else none) := by
      split
      · rw [nth_eq, ba_getElem?]
      · rfl
    rw [hnth] at h
    split at h
    · rename_i b hb'
      cases h
      refine SV.val_same hR (x := .int .u8 b.toNat) ?_ (by simp [V]) (by simp [maxId])
      simp only [Instr.index, asIntOf, Sem.run_bind, Sem.run_pure, Result.andThen_ok, run_underlying hu, hb']
    · rename_i hb'
      cases h
      refine SV.pan_bounds (k := k) (x := j) (y := s.length) (c := .index) hR ?_
      simp only [Instr.index, asIntOf, Sem.run_bind, Sem.run_pure, Result.andThen_ok, run_underlying hu, hb']
      rfl
  · rename_i n el hu
    have hu := hT.und _ _ hu
    split at h
    case h_2 => cases h
    rename_i size hs
    simp only at h
    split at h
    case h_2 => cases h
    rename_i cs k j
    simp only [V] at hi hv; subst hi
    obtain ⟨a, rfl, hv⟩ := hv
    split at h
    case isFalse => cases h
    rename_i hj
    split at h
    case h_2 => cases h
    rename_i p hp
    cases h
    obtain ⟨z, h1, h2, h3⟩ := partN_sound hT hv hp w
    simp only [maxId] at hb
    refine SV.val_same hR (x := z) ?_ h2 (by omega)
    simp [Instr.index, asIntOf, run_underlying hu, hj, hT.cellsOf hs, h1]
  · cases h

theorem oExtract_sound (hR : R ι I m w) {v q : NV} {x : Value} {i : Nat} (hv : V ι I v x) (hb : maxId v ≤ m.n) (h : oExtract v i = some q) : SV P (Instr.extract x i) w ι I m (.val q m) := by
  unfold oExtract at h
  split at h
  case h_2 => cases h
  rename_i vs
  simp only [V] at hv
  obtain ⟨a, rfl, hv⟩ := hv
  rw [nth_eq] at h
  obtain ⟨y, hy, hvy⟩ := VL_get hv h
  have := maxIds_get h
  simp only [maxId] at hb
  refine SV.val_same hR (x := y) ?_ hvy (by omega)
  rw [Array.getElem?_toList] at hy
  simp [Instr.extract, hy]

theorem oPanic_sound (hR : R ι I m w) {v : NV} {x : Value} {r : OpRes} (hv : V ι I v x) (hb : maxId v ≤ m.n) (h : oPanic m v = some r) : SV P (Instr.panic x) w ι I m r := by
  unfold oPanic at h
  split at h
  · cases h
    have hv' := hv
    simp only [V] at hv
    obtain ⟨y, rfl, _⟩ := hv
    exact ⟨_, w, rfl, hv', hb, rfl, hR, Ext.refl _ _ _ _⟩
  · cases h
    simp only [V] at hv
    obtain ⟨t, y, rfl⟩ := hv
    exact SV.pan_same hR rfl
  · cases h

theorem isIfaceD_not {d : TypeDesc} (h : isIfaceD d = false) (ms) : d ≠ .interface ms := by rintro rfl; cases h

theorem oMakeInterface_sound (hT : TabOk T P) (hR : R ι I m w) {t : TypeId} {v : NV} {x : Value} {r : OpRes} (hv : V ι I v x) (hb : maxId v ≤ m.n) (h : (oMakeInterface T t).f m v = some r) : SV P (Instr.makeInterface t x) w ι I m r := by
  unfold oMakeInterface at h
  split at h
  case h_2 => cases h
  rename_i d hd
  have hd := hT.und _ _ hd
  split at h
  · cases h
  rename_i hi
  cases h
  refine SV.val_same hR (x := .iface t x) ?_ (by simp only [V]; exact ⟨x, rfl, hv⟩) (by simpa [maxId] using hb)
  unfold Instr.makeInterface
  simp only [Sem.run_bind, run_underlying hd, Result.andThen_ok]
  split
  · exact absurd rfl (isIfaceD_not hi _)
  · rfl

theorem packOk {d : TypeDesc} {z : List NV} {v : NV} {x : Value} (h : packN d z = some v) (hz : VL ι I z x.cells.toList) (ha : isAggV x = isAggD d) (ho : (∃ cs, x = .agg cs) ∨ x.oneCell' = true) : V ι I v x ∧ maxId v = maxIds z := by
  unfold packN at h
  split at h
  · rename_i hd
    rw [hd] at ha
    cases h
    cases x <;> simp [isAggV] at ha
    exact ⟨by simp only [V]; exact ⟨_, rfl, hz⟩, by simp [maxId]⟩
  · rename_i hd
    rw [hd] at ha
    match z, h with
    | [u], h =>
      simp only [one, Option.some.injEq] at h; subst h
      rcases ho with ⟨cs, rfl⟩ | ho
      · simp [isAggV] at ha
      · have : x.cells = #[x] := by cases x <;> first | rfl | (simp [Value.oneCell'] at ho)
        rw [this] at hz
        exact ⟨(VL_cons.1 hz).1, by simp [maxIds, mx_eq]⟩

theorem zeroV_sound (hT : TabOk T P) {t : TypeId} {v : NV} (h : zeroV T t = some v) (w : World) : ∃ x, (zeroValue t).run P w = .ok x w ∧ V ι I v x ∧ maxId v = 0 := by
  unfold zeroV at h
  split at h
  case h_2 => cases h
  rename_i d z hd hz
  obtain ⟨i, x, y, h1, h2, h3, h4, h5, h6⟩ := hT.zero t z hz
  have h7 := ofValue_cells (ι := ι) (I := I) h3 h5
  rw [← h4] at h7
  obtain ⟨h8, h9⟩ := packOk h h7.1 (h6 d hd) h5
  exact ⟨x, by simp [zeroValue, run_typeInfo w h1, h2], h8, by omega⟩

theorem okV_sound {ok is : Bool} {v : NV} {x : Value} (hv : V ι I v x) : V ι I (okV ok v is) (if ok then .tuple #[x, .bool is] else x) ∧ maxId (okV ok v is) = maxId v := by
  cases ok
  · exact ⟨by simpa [okV] using hv, rfl⟩
  · refine ⟨?_, by simp [okV, maxId, maxIds, mx_eq]⟩
    simp only [okV, V, if_true]
    exact ⟨_, rfl, VL_cons.2 ⟨hv, VL_cons.2 ⟨by simp [V], by simp [VL]⟩⟩⟩

theorem oTypeAssert_sound (hT : TabOk T P) (hR : R ι I m w) {t xt : TypeId} {ok : Bool} {v : NV} {x : Value} {r : OpRes} (hv : V ι I v x) (hb : maxId v ≤ m.n) (h : (oTypeAssert T t ok).f m v = some r) : SV P (Instr.typeAssert x xt t ok) w ι I m r := by
  unfold oTypeAssert at h
  split at h
  case h_2 => cases h
  rename_i d hd
  have hd := hT.und _ _ hd
  split at h
  · cases h
  rename_i hi
  simp only at h
  split at h
  case h_2 => cases h
  rename_i t' u
  simp only [V] at hv
  obtain ⟨y, rfl, hv⟩ := hv
  simp only [maxId] at hb
  split at h
  · rename_i he
    have he := Nat.eq_of_beq_eq_true he
    cases h
    obtain ⟨h1, h2⟩ := okV_sound (ok := ok) (is := true) hv
    refine SV.val_same hR ?_ h1 (by omega)
    subst he
    cases d <;> first | (simp [isIfaceD] at hi; done) | (simp [Instr.typeAssert, run_underlying hd]; done)
  · rename_i he
    have he : t' ≠ t := fun e => by subst e; simp at he
    split at h
    case h_2 => cases h
    rename_i z hz
    cases h
    obtain ⟨zx, h1, h2, h3⟩ := zeroV_sound (ι := ι) (I := I) hT hz w
    refine SV.val_same hR (x := .tuple #[zx, .bool false]) ?_ (by simp only [V]; exact ⟨_, rfl, VL_cons.2 ⟨h2, VL_cons.2 ⟨by simp [V], by simp [VL]⟩⟩⟩) (by simp [maxId, maxIds, mx_eq, h3])
    cases d <;> first | (simp [isIfaceD] at hi; done) | (simp [Instr.typeAssert, run_underlying hd, he, h1]; done)

theorem oRange_sound (hT : TabOk T P) (hR : R ι I m w) {t : TypeId} {v : NV} {x : Value} {r : OpRes} (hv : V ι I v x) (h : (oRange T t).f m v = some r) : SV P (Instr.range t x) w ι I m r := by
  unfold oRange at h
  split at h
  case h_2 => cases h
  rename_i hu
  have hu := hT.und _ _ hu
  simp only at h
  split at h
  case h_2 => cases h
  rename_i s
  simp only [V] at hv; subst hv
  cases h
  have := R.push hR (.siter s 0) (.stringIter ⟨⟨s⟩⟩ 0) ⟨w.heap.size, 0, 0, 0⟩ rfl rfl (by simp [mbMax]) ⟨by simp only [upd_same], World.alloc_heap_new w _⟩
  refine ⟨.pointer (some ⟨w.heap.size, 0, none⟩), _, _, _, ?_, ptr_sound _, by simp [maxId, Mem.push], this.1, this.2⟩
  simp only [Instr.range, Sem.run_bind, run_underlying hu, Result.andThen_ok, Sem.run_pure, run_newObj_alloc]

theorem oMakeMap_sound (hR : R ι I m w) (t : TypeId) : SV P (Instr.makeMap t none) w ι I m (.val (.map (some m.n)) (m.push (.mobj []))) := by
  have := R.push hR (.mobj []) (.map #[] 0) ⟨w.heap.size, 0, 0, 0⟩ rfl rfl (by simp [mbMax, maxIdsP]) ⟨#[], 0, World.alloc_heap_new w _, by simp [VE]⟩
  refine ⟨.map (some w.heap.size), _, _, _, ?_, by simp [V, upd_same], by simp [maxId, Mem.push], this.1, this.2⟩
  simp [Instr.makeMap]

theorem oMakeFunc_sound (hR : R ι I m w) {f : FuncId} {a b : List NV} {xs ys : Array Value} (ha : VL ι I a xs.toList) (hb : VL ι I b ys.toList) (h1 : maxIds a ≤ m.n) (h2 : maxIds b ≤ m.n) : SV P (Instr.makeFunc (.func f) xs ys) w ι I m (.val (.fn (.func f) a b) m) :=
  SV.val_same hR rfl (by simp only [V]; exact ⟨xs, ys, rfl, ha, hb⟩) (by simp only [maxId, mx_eq]; omega)

end Go.Kn
