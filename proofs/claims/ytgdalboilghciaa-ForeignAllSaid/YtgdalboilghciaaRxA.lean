/- An abstract evaluator of the model's code, and its soundness, operation by operation. No condition. -/
import Derived.Calls
import Derived.Laws.Cells
import Derived.Laws.World
import Derived.Laws.StructEq
import Derived.Laws.IdiomCopy
import Derived.Laws.Rows
import Derived.Laws.BytesArg
import Derived.Laws.MakeOwn
import Derived.Lib.ConvBytes
import Derived.MapKept
set_option linter.unusedSimpArgs false
set_option linter.unusedVariables false
set_option linter.unnecessarySimpa false
set_option linter.unusedSectionVars false
namespace Go.Rx

inductive V where
  | any
  | tru
  | fls
  | bool (b : Bool)
  | int (k : IntKind) (n : Int)
  | str (s : ByteArray)
  | nilp
  | ptr (b i sz o : Nat)
  | nils
  | sl (b i o es len : Nat) (cap : Option Nat)
  | nilf
  | fn (f : Fn) (first captured : List V)
  | nili
  | ifc (t : TypeId) (v : V)
  | agg (cs : List V)
  | tup (vs : List V)
  /-- A map that is not nil. -/
  | mapr (b : Nat)
  deriving Inhabited

inductive K where
  | int (k : IntKind)
  | bool
  | str
  | oth
  deriving DecidableEq, Inhabited

inductive Body where
  | cells (cs : List V)
  | ints (k : IntKind) (xs : List Int)
  | rows (sch : List K) (rs : List (List V))
  /-- Rows that are read only: another such block may lie in the same memory. -/
  | look (sch : List K) (rs : List (List V))
  /-- A map's keys, and what stands at them. -/
  | kv (ks vs : List V)
  deriving Inhabited

abbrev Blk := Body
def isLook : Blk → Bool
  | .look _ _ => true
  | _ => false
def isKv : Blk → Bool
  | .kv _ _ => true
  | _ => false
def lookO : Option Blk → Bool
  | some bl => isLook bl
  | none => false

inductive Tree (α : Type) where
  | leaf (a : α)
  | ite (b : Bool) (t e : Tree α)
  | fail

namespace Tree
def bind {α β : Type} : Tree α → (α → Tree β) → Tree β
  | .leaf a, f => f a
  | .ite b t e, f => .ite b (bind t f) (bind e f)
  | .fail, _ => .fail
instance : Monad Tree where
  pure := .leaf
  bind := bind
def den {α : Type} : Tree α → Option α
  | .leaf a => some a
  | .ite b t e => match b with | true => den t | false => den e
  | .fail => none
def need {α : Type} (b : Bool) (t : Tree α) : Tree α := .ite b t .fail
/-- A test that reckons to a literal. -/
def lit {α : Type} (b : Bool) (t : Tree α) : Tree α := match b with | true => t | false => .fail
end Tree

def kindV : Value → K
  | .int k _ => .int k
  | .bool _ => .bool
  | .string _ => .str
  | _ => .oth

def V.toInt : V → Int
  | .int _ n => n
  | _ => 0
def V.toBool : V → Bool
  | .bool b => b
  | .tru => true
  | _ => false
def V.lit (b : Bool) : V := match b with | true => .tru | false => .fls
/-- What is known to be a bool. -/
def V.asBool : V → Option Bool
  | .bool b => some b
  | .tru => some true
  | .fls => some false
  | _ => none
def V.toStr : V → ByteArray
  | .str s => s
  | _ => .empty

def ofScalar : Value → V
  | .bool b => .lit b
  | .int k n => .int k n
  | .string s => .str s
  | .pointer none => .nilp
  | .slice none 0 0 => .nils
  | .nilFunc => .nilf
  | .nilIface => .nili
  | _ => .any

def ofValue : Value → V
  | .agg cs => .agg (cs.toList.map ofScalar)
  | .tuple cs => .tup (cs.toList.map ofScalar)
  | v => ofScalar v

def V.known : V → Bool
  | .any => false
  | _ => true
/-- The value of one cell. -/
def V.one : V → Bool
  | .any | .agg _ | .tup _ => false
  | _ => true
def V.cells : V → List V
  | .agg cs => cs
  | v => [v]

/-- What a cell of a kind holds. -/
def proj : K → V → V
  | .int k, v => .int k v.toInt
  | .bool, v => .bool v.toBool
  | .str, v => .str v.toStr
  | .oth, _ => .any

/-! ### Types -/
def aggT (P : Program) (t : TypeId) : Option Bool :=
  match P.underlying t with
  | some (.struct _) | some (.array _ _) => some true
  | some _ => some false
  | none => none
def sizeT (P : Program) (t : TypeId) : Option Nat := (P.info? t).map (·.size)
def zeroT (P : Program) (t : TypeId) : Option V := ((P.info? t).bind (·.zero)).map ofValue
def kindsT (P : Program) (t : TypeId) : List K :=
  match (P.info? t).bind (·.zero) with
  | some v => v.cells.toList.map kindV
  | none => []
def bytesT (P : Program) (t : TypeId) : Nat := ((P.info? t).map (·.bytes)).getD 0

/-! ### Cells -/
/-- Every 'sz'-th cell from place 'o' on. -/
def strided (sz : Nat) : Nat → List V → List V
  | _, [] => []
  | 0, c :: cs => c :: strided sz (sz - 1) cs
  | o + 1, _ :: cs => strided sz o cs

def allInts (k : IntKind) : List V → Option (List Int)
  | [] => some []
  | .int k' n :: cs => if k = k' then (allInts k cs).map (n :: ·) else none
  | _ :: _ => none
def allBools : List V → Option (List Bool)
  | [] => some []
  | v :: cs => match v.asBool with
    | some b => (allBools cs).map (b :: ·)
    | none => none

/-- The i-th of cells. -/
def mux (cs : List V) (i : Nat) : V :=
  match cs with
  | .int k _ :: _ => match allInts k cs with
    | some ns => .int k (ns.getD i 0)
    | none => cs.getD i .any
  | c :: _ => match c.asBool with
    | some _ => match allBools cs with
      | some bs => .bool (bs.getD i false)
      | none => cs.getD i .any
    | none => cs.getD i .any
  | [] => .any

def rowOf (sch : List K) (r : List V) : List V := sch.zipIdx.map fun (k, j) => proj k (r.getD j .any)

/-- 'n' cells from the place (i, sz, o) on. -/
def loadCs (bl : Blk) (i sz o n : Nat) : Tree (List V) :=
  match bl with
  | .cells cs =>
    match sz with
    | 0 => .lit (Nat.ble (o + n) cs.length) (.leaf ((cs.drop o).take n))
    | sz + 1 => .lit (Nat.ble (o % (sz + 1) + n) (sz + 1)) (.need (decide (i * (sz + 1) + o + n ≤ cs.length)) (.leaf ((List.range n).map fun j => mux (strided (sz + 1) (o + j) cs) i)))
  | .ints k xs =>
    match sz, o with
    | 1, 0 => .need (decide (i + n ≤ xs.length)) (.leaf ((List.range n).map fun j => .int k (xs.getD (i + j) 0)))
    | 0, o => .need (decide (o + n ≤ xs.length)) (.leaf ((List.range n).map fun j => .int k (xs.getD (o + j) 0)))
    | _, _ => .fail
  | .rows sch rs =>
    .lit (Nat.beq sz sch.length && Nat.ble (o + n) sch.length)
      (.need (decide (i < rs.length)) (.leaf (((sch.zipIdx).drop o).take n |>.map fun (k, j) => proj k ((rs.getD i []).getD j .any))))
  | .look sch rs =>
    .lit (Nat.beq sz sch.length && Nat.ble (o + n) sch.length)
      (.need (decide (i < rs.length)) (.leaf (((sch.zipIdx).drop o).take n |>.map fun (k, j) => proj k ((rs.getD i []).getD j .any))))
  | .kv _ _ => .fail

def isIntK (k : IntKind) : V → Bool
  | .int k' _ => k = k'
  | _ => false
def kindOf : V → K
  | .int k _ => .int k
  | .bool _ | .tru | .fls => .bool
  | .str _ => .str
  | _ => .oth
def setMux (k : IntKind) (p : Nat) (m : Int) : Nat → List V → List V
  | _, [] => []
  | j, .int k' n :: cs => (if k' = k then .int k (if p = j then m else n) else .int k' n) :: setMux k p m (j + 1) cs
  | j, c :: cs => c :: setMux k p m (j + 1) cs

def storeAt (cs : List V) (p : Nat) (vs : List V) : Tree Blk := .need (decide (p + vs.length ≤ cs.length)) (.leaf (Body.cells (cs.take p ++ vs ++ cs.drop (p + vs.length))))
/-- Cells laid at the place. -/
def storeCs (bl : Blk) (i sz o : Nat) (vs : List V) : Tree Blk :=
  match bl with
  | .cells cs =>
    match sz with
    | 0 => .lit (Nat.ble (o + vs.length) cs.length) (.leaf (Body.cells (cs.take o ++ vs ++ cs.drop (o + vs.length))))
    | sz + 1 =>
      match vs with
      | [.int k m] => match (strided (sz + 1) o cs).all (isIntK k) with
        | true => .need (decide (i * (sz + 1) + o < cs.length)) (.leaf (Body.cells (setMux k (i * (sz + 1) + o) m 0 cs)))
        | false => storeAt cs (i * (sz + 1) + o) [.int k m]
      | vs => storeAt cs (i * (sz + 1) + o) vs
  | .ints k xs =>
    match vs with
    | [.int k' m] =>
      match sz, o with
      | 1, 0 => .lit (k = k') (.need (decide (i < xs.length)) (.leaf (Body.ints k (xs.set i m))))
      | _, _ => .fail
    | _ => .fail
  | .rows sch rs =>
    .lit (Nat.beq sz sch.length && Nat.ble (o + vs.length) sch.length && (vs.map kindOf == (sch.drop o).take vs.length) && !(vs.map kindOf).contains .oth)
      (.need (decide (i < rs.length)) (.leaf (Body.rows sch (rs.set i ((rowOf sch (rs.getD i [])).take o ++ vs ++ (rowOf sch (rs.getD i [])).drop (o + vs.length))))))
  | .look _ _ => .fail
  | .kv _ _ => .fail

def noDup : List Nat → Bool
  | [] => true
  | x :: r => !r.contains x && noDup r

/-! ### Operands -/
abbrev Tm := Nat → V
abbrev Hp := Nat → Option Blk

def opd (T : Tm) : Operand → V
  | .tmp t => T t
  | .const v => ofValue v
  | .global _ => .any
  | .func f => .fn (.func f) [] []

structure Eff where
  v : V
  rd : List Nat
  wr : List (Nat × Option Blk)

abbrev T1 := Tree Eff
def val (v : V) : T1 := .leaf ⟨v, [], []⟩

/-! ### Arithmetic -/
def bAnd (k : IntKind) (x y : Int) : Int := k.wrap ((BitVec.ofInt k.bits x &&& BitVec.ofInt k.bits y).toNat)
def bOr (k : IntKind) (x y : Int) : Int := k.wrap ((BitVec.ofInt k.bits x ||| BitVec.ofInt k.bits y).toNat)
def bXor (k : IntKind) (x y : Int) : Int := k.wrap ((BitVec.ofInt k.bits x ^^^ BitVec.ofInt k.bits y).toNat)
def bAndNot (k : IntKind) (x y : Int) : Int := k.wrap ((BitVec.ofInt k.bits x &&& ~~~ BitVec.ofInt k.bits y).toNat)
def sEq (x y : ByteArray) : Bool := x.toList == y.toList
def sLt (x y : ByteArray) : Bool := Op.bytesLess x.toList y.toList

def intOp (op : BinOp) (k : IntKind) (x y : Int) : Tree V :=
  match op with
  | .add => .leaf (.int k (k.wrap (x + y)))
  | .sub => .leaf (.int k (k.wrap (x - y)))
  | .mul => .leaf (.int k (k.wrap (x * y)))
  | .quo => .need (y != 0) (.leaf (.int k (k.wrap (x.tdiv y))))
  | .rem => .need (y != 0) (.leaf (.int k (x.tmod y)))
  | .and => .leaf (.int k (bAnd k x y))
  | .or => .leaf (.int k (bOr k x y))
  | .xor => .leaf (.int k (bXor k x y))
  | .andNot => .leaf (.int k (bAndNot k x y))
  | .eql => .leaf (.bool (x == y))
  | .neq => .leaf (.bool (x != y))
  | .lss => .leaf (.bool (decide (x < y)))
  | .leq => .leaf (.bool (decide (x ≤ y)))
  | .gtr => .leaf (.bool (decide (x > y)))
  | .geq => .leaf (.bool (decide (x ≥ y)))
  | _ => .fail

def shiftOp (op : BinOp) (k : IntKind) (x y : Int) : Tree V :=
  match op with
  | .shl => .need (decide (0 ≤ y)) (.leaf (.int k (k.wrap (x * 2 ^ (min y.toNat k.bits)))))
  | .shr => .need (decide (0 ≤ y)) (.leaf (.int k (x.fdiv (2 ^ (min y.toNat k.bits)))))
  | _ => .fail

def strOp (op : BinOp) (x y : ByteArray) : Tree V :=
  match op with
  | .add => .need (decide (x.size + y.size ≤ 9223372036854775807)) (.leaf (.str (x ++ y)))
  | .eql => .leaf (.bool (sEq x y))
  | .neq => .leaf (.bool (!sEq x y))
  | .lss => .leaf (.bool (sLt x y))
  | .leq => .leaf (.bool (sLt x y || sEq x y))
  | .gtr => .leaf (.bool (!(sLt x y || sEq x y)))
  | .geq => .leaf (.bool (!sLt x y))
  | _ => .fail

def optT (v : Option V) : Tree V := match v with | some v => .leaf v | none => .fail

def partO (P : Program) (t : TypeId) (cs : List V) (off : Nat) : Option V :=
  match aggT P t with
  | some true => (sizeT P t).map fun n => .agg ((cs.drop off).take n)
  | some false => cs[off]?
  | none => none

/-- '==' by the type. -/
def eqFieldsV (P : Program) (r : TypeId → V → V → Option Bool) (xs ys : List V) : List Field → Option Bool
  | [] => some true
  | f :: fs =>
    if f.name = "_" then eqFieldsV P r xs ys fs else
    match partO P f.type xs f.offset, partO P f.type ys f.offset with
    | some a, some b =>
      match r f.type a b, eqFieldsV P r xs ys fs with
      | some p, some q => some (p && q)
      | _, _ => none
    | _, _ => none
def eqElemsV (P : Program) (r : V → V → Option Bool) (e : TypeId) (n : Nat) (xs ys : List V) : List Nat → Option Bool
  | [] => some true
  | i :: is =>
    match partO P e xs (i * n), partO P e ys (i * n) with
    | some a, some b =>
      match r a b, eqElemsV P r e n xs ys is with
      | some p, some q => some (p && q)
      | _, _ => none
    | _, _ => none
def eqT (P : Program) : Nat → TypeId → V → V → Option Bool
  | 0, _, _, _ => none
  | d + 1, t, x, y =>
    match P.underlying t, x, y with
    | some (.int _), .int k a, .int k' b => if k = k' then some (a == b) else none
    | some .bool, a, b => match a.asBool, b.asBool with
      | some a, some b => some (a == b)
      | _, _ => none
    | some .string, .str a, .str b => some (sEq a b)
    | some (.struct fs), .agg xs, .agg ys =>
      if P.stoodInHeld t then none else eqFieldsV P (eqT P d) xs ys fs.toList
    | some (.array len e), .agg xs, .agg ys =>
      match sizeT P e with
      | none => none
      | some n => eqElemsV P (eqT P d e) e n xs ys (List.range len)
    | _, _, _ => none

def nilSide (P : Program) (t : TypeId) (x y : V) : Option Bool :=
  match P.underlying t, x, y with
  | some (.slice _), .nils, .nils => some true
  | some (.pointer _), .nilp, .nilp => some true
  | some (.pointer _), .nilp, .ptr .. => some false
  | some (.pointer _), .ptr .., .nilp => some false
  | some (.func ..), .nilf, .nilf => some true
  | some (.func ..), .nilf, .fn .. => some false
  | some (.func ..), .fn .., .nilf => some false
  | _, _, _ => none

/-- A slice of something is not nil. -/
def nilSl (P : Program) (op : BinOp) (t : TypeId) (x y : V) : Tree V :=
  match op, P.underlying t, x, y with
  | .eql, some (.slice _), .sl _ _ _ _ len _, .nils => .need (decide (1 ≤ len)) (.leaf .fls)
  | .neq, some (.slice _), .sl _ _ _ _ len _, .nils => .need (decide (1 ≤ len)) (.leaf .tru)
  | _, _, _, _ => .fail

def binV (P : Program) (op : BinOp) (t : TypeId) (x y : V) : Tree V :=
  match x, y with
  | .int k a, .int k' b =>
    match op with
    | .shl | .shr => shiftOp op k a b
    | _ => .lit (k = k') (intOp op k a b)
  | .str a, .str b => strOp op a b
  | .agg xs, .agg ys =>
    match op, eqT P 50 t (.agg xs) (.agg ys), P.eqGuardType P.depth t with
    | .eql, some b, false => .leaf (.bool b)
    | .neq, some b, false => .leaf (.bool (!b))
    | _, _, _ => .fail
  | x, y =>
    match op, x.asBool, y.asBool, P.underlying t with
    | .eql, some a, some b, some .bool => .leaf (.bool (a == b))
    | .neq, some a, some b, some .bool => .leaf (.bool (!(a == b)))
    | op, none, none, _ =>
      match op, nilSide P t x y with
      | .eql, some b => .leaf (.lit b)
      | .neq, some b => .leaf (.lit (!b))
      | op, none => nilSl P op t x y
      | _, _ => .fail
    | _, _, _, _ => .fail

def isC : Operand → Bool
  | .const _ => true
  | _ => false
/-- An interface value against nil. -/
def ifcNil (P : Program) (op : BinOp) (t : TypeId) (c : Bool) (x y : V) : Option V :=
  match x, y with
  | .nili, .nili => match c, op, P.underlying t with
    | true, .eql, some (.interface _) => some .tru
    | true, .neq, some (.interface _) => some .fls
    | _, _, _ => none
  | .ifc _ _, .nili => match op, P.underlying t with
    | .eql, some (.interface _) => some .fls
    | .neq, some (.interface _) => some .tru
    | _, _ => none
  | _, _ => none

def unV (op : UnOp) (x : V) : Tree V :=
  match op, x with
  | .neg, .int k n => .leaf (.int k (k.wrap (0 - n)))
  | .xor, .int k n => .leaf (.int k (bXor k (if k.signed then -1 else k.max) n))
  | .not, .bool b => .leaf (.bool !b)
  | .not, .tru => .leaf .fls
  | .not, .fls => .leaf .tru
  | _, _ => .fail

/-! ### Strings and bytes -/
def bytesOf (xs : List Int) : ByteArray := ⟨(xs.map fun n => UInt8.ofNat n.toNat).toArray⟩
def numsOf (s : ByteArray) : List Int := s.data.toList.map fun b => (b.toNat : Int)

/-- The whole numbers of a slice; the blocks read; what must hold. -/
def slInts (H : Hp) (k : IntKind) : V → Option (List Int × List Nat × Bool)
  | .nils => some ([], [], true)
  | .sl b i o es len _ =>
    match H b with
    | some bl => match bl with
      | .ints k' xs => if k = k' && Nat.beq o 0 && Nat.beq es 1 then some ((xs.drop i).take len, [b], decide (i + len ≤ xs.length)) else none
      | .cells cs => if Nat.beq es 1 && Nat.ble (i + o + len) cs.length then (allInts k ((cs.drop (i + o)).take len)).map fun ns => (ns, [b], true) else none
      | _ => none
    | none => none
  | _ => none

def slRows (H : Hp) (sch : List K) : V → Option (List (List V) × List Nat × Bool)
  | .nils => some ([], [], true)
  | .sl b i o es len _ =>
    match H b with
    | some bl => match bl with
      | .rows sch' rs => if sch = sch' && Nat.beq o 0 && Nat.beq es sch.length then some ((rs.drop i).take len, [b], decide (i + len ≤ rs.length)) else none
      | _ => none
    | none => none
  | _ => none

/-- The cells of a slice whose elements are not all scalars. -/
def slCells (H : Hp) (es : Nat) : V → Option (List V × List Nat)
  | .nils => some ([], [])
  | .sl b i o es' len _ =>
    match H b with
    | some bl => match bl with
      | .cells cs => if Nat.beq es' es && (Nat.beq i 0 && (Nat.beq o 0 && (Nat.ble (len * es) cs.length && (cs.take (len * es)).all V.one))) then some (cs.take (len * es), [b]) else none
      | _ => none
    | none => none
  | _ => none

def convV (P : Program) (H : Hp) (n : Nat) (src dst : TypeId) (x : V) : T1 :=
  match P.underlying src, P.underlying dst, x with
  | some _, some (.int k), .int _ m => val (.int k (k.wrap m))
  | some _, some .string, .str s => val (.str s)
  | some .string, some (.slice e), .str s =>
    match P.underlying e with
    | some (.int .u8) => .leaf ⟨.sl n 0 0 1 s.size none, [], [(n, some (.ints .u8 (numsOf s)))]⟩
    | _ => .fail
  | some (.slice e), some .string, x =>
    match P.underlying e, slInts H .u8 x with
    | some (.int .u8), some (xs, rd, c) => .need c (.leaf ⟨.str (bytesOf xs), rd, []⟩)
    | _, _ => .fail
  | some (.slice _), some (.slice e), .sl b i o es len (some q) =>
    match P.underlying e, H b with
    | some (.int .u8), some bl => .lit (Nat.beq src dst && Nat.ble 1 len && Nat.beq es 1 && !isKv bl) (.leaf ⟨.sl b i o es len (some q), [b], [(b, some bl)]⟩)
    | _, _ => .fail
  | _, _, _ => .fail

/-! ### Memory -/
def flatK : List K → Bool
  | [] => true
  | .oth :: _ => false
  | _ :: r => flatK r

/-- A new row of elements of one type, out of cells. -/
def chunk (es : Nat) : Nat → List V → List (List V)
  | 0, _ => []
  | n + 1, cs => cs.take es :: chunk es n (cs.drop es)

def newBody (ks : List K) (len : Nat) (cs : List V) : Body :=
  match ks with
  | [.int k] => match allInts k cs with
    | some ns => .ints k ns
    | none => .cells cs
  | ks => if flatK ks && (chunk ks.length len cs).all (fun r => r.map kindOf == ks) && Nat.beq cs.length (len * ks.length) then .rows ks (chunk ks.length len cs) else .cells cs

def fillV (place : Nat → Option (Nat × Nat)) (cs : List V) : List (Nat × V) → Option (List V)
  | [] => some cs
  | (i, v) :: rest =>
    match place i with
    | none => none
    | some (off, size) =>
      if !v.known || v.cells.length ≠ size || off + v.cells.length > cs.length then none
      else fillV place (cs.take off ++ v.cells ++ cs.drop (off + size)) rest

def buildV (P : Program) (t : TypeId) (parts : List (Nat × V)) : Tree V :=
  match P.underlying t, zeroT P t with
  | some (.struct fs), some z =>
    .lit (fs.toList.all fun f => (sizeT P f.type).isSome) (optT ((fillV (fun i => (fs[i]?).bind fun f => (sizeT P f.type).map fun n => (f.offset, n)) z.cells parts).map .agg))
  | some (.array _ e), some z =>
    match sizeT P e with
    | some n => optT ((fillV (fun i => some (i * n, n)) z.cells parts).map .agg)
    | none => .fail
  | _, _ => .fail

def repl (cs : List V) : Nat → List V
  | 0 => []
  | n + 1 => cs ++ repl cs n

def buildSliceV (P : Program) (n : Nat) (t : TypeId) (len : Nat) (parts : List (Nat × V)) : T1 :=
  match P.underlying t with
  | some (.slice e) =>
    match sizeT P e, zeroT P e with
    | some es, some z =>
      match fillV (fun i => some (i * es, es)) (repl z.cells len) parts with
      | some cs => .lit (Nat.ble (len * es) 16777216 && Nat.beq z.cells.length es && Nat.beq cs.length (len * es)) (.leaf ⟨.sl n 0 0 es len (some len), [], [(n, some (newBody (kindsT P e) len cs))]⟩)
      | none => .fail
    | _, _ => .fail
  | _ => .fail

def loadV (P : Program) (H : Hp) (t : TypeId) (a : V) : T1 :=
  match a with
  | .ptr b i sz o =>
    match H b with
    | some bl =>
      match aggT P t, sizeT P t with
      | some true, some n => (loadCs bl i sz o n).bind fun cs => .leaf ⟨.agg cs, [b], []⟩
      | some false, _ => (loadCs bl i sz o 1).bind fun cs => match cs with
        | [c] => .leaf ⟨c, [b], []⟩
        | _ => .fail
      | _, _ => .fail
    | none => .fail
  | _ => .fail

def storeV (P : Program) (H : Hp) (t : TypeId) (a v : V) : T1 :=
  match a with
  | .ptr b i sz o =>
    match H b, sizeT P t with
    | some bl, some n => .lit (v.known && v.cells.all V.one && Nat.beq v.cells.length n && Nat.ble 1 n) ((storeCs bl i sz o v.cells).bind fun bl' => .leaf ⟨.any, [b], [(b, some bl')]⟩)
    | _, _ => .fail
  | _ => .fail

def fieldAddrV (P : Program) (t : TypeId) (x : V) (f : Nat) : Tree V :=
  match P.underlying t, x with
  | some (.struct fs), .ptr b i sz o =>
    match fs[f]? with
    | some fd => match sizeT P fd.type with
      | some (_ + 1) => .leaf (.ptr b i sz (o + fd.offset))
      | _ => .fail
    | none => .fail
  | _, _ => .fail


def fieldV (P : Program) (t : TypeId) (x : V) (f : Nat) : Tree V :=
  match P.underlying t, x with
  | some (.struct fs), .agg cs =>
    match fs[f]? with
    | some fd => optT (partO P fd.type cs fd.offset)
    | none => .fail
  | _, _ => .fail

def indexAddrV (P : Program) (t : TypeId) (x ix : V) : Tree V :=
  match P.underlying t, x, ix with
  | some (.array len e), .ptr b i sz o, .int _ n =>
    match sz, i, sizeT P e with
    | 0, 0, some es => .lit (Nat.ble 2 len) (.need (decide (0 ≤ n) && decide (n < (len : Int))) (.leaf (.ptr b n.toNat es o)))
    | _, _, _ => .fail
  | some (.slice e), .sl b i o es len _, .int _ n =>
    match sizeT P e with
    | some es' => .lit (Nat.beq es' es) (.need (decide (0 ≤ n) && decide (n < (len : Int))) (.leaf (.ptr b (i + n.toNat) es o)))
    | none => .fail
  | _, _, _ => .fail

def sAt (s : ByteArray) (i : Nat) : Int := ((s.data.toList.getD i 0).toNat : Int)

def indexV (P : Program) (t : TypeId) (x ix : V) : Tree V :=
  match P.underlying t, x, ix with
  | some .string, .str s, .int _ n => .need (decide (0 ≤ n) && decide (n < (s.size : Int))) (.leaf (.int .u8 (sAt s n.toNat)))
  | some (.array len e), .agg cs, .int _ n =>
    match aggT P e, sizeT P e with
    | some false, some 1 => .lit (Nat.beq cs.length len) (.need (decide (0 ≤ n) && decide (n < (len : Int))) (.leaf (mux cs n.toNat)))
    | _, _ => .fail
  | _, _, _ => .fail

def bound (x : Option V) (dflt : Nat) : Option (Int × Nat) :=
  match x with
  | none => some ((dflt : Int), dflt)
  | some (.int _ n) => some (n, n.toNat)
  | _ => none

def sliceV (P : Program) (t : TypeId) (x : V) (lo hi mx : Option V) : Tree V :=
  match P.underlying t, x, mx with
  | some .string, .str s, none =>
    match bound lo 0, bound hi s.size with
    | some (l, l'), some (h, h') => .need (decide (0 ≤ l) && decide (l ≤ h) && decide (h ≤ (s.size : Int))) (.leaf (.str (s.extract l' h')))
    | _, _ => .fail
  | some (.slice e), .sl b i o es len cap, none =>
    match bound lo 0, bound hi len with
    | some (l, l'), some (h, h') =>
      match sizeT P e with
      | some es' => .lit (Nat.beq es' es) (.need (decide (0 ≤ l) && decide (l ≤ h) && decide (h ≤ (len : Int))) (.leaf (.sl b (i + l') o es (h' - l') (cap.map (· - l')))))
      | none => .fail
    | _, _ => .fail
  | some (.slice e), .nils, none =>
    match bound lo 0, bound hi 0 with
    | some (l, _), some (h, _) =>
      match sizeT P e with
      | some _ => .need (decide (0 ≤ l) && decide (l ≤ h) && decide (h ≤ 0)) (.leaf .nils)
      | none => .fail
    | _, _ => .fail
  | _, _, _ => .fail

/-- A slice of an array. -/
def sliceArrV (P : Program) (H : Hp) (t : TypeId) (x : V) (lo hi : Option V) : T1 :=
  match P.underlying t, x with
  | some (.array n e), .ptr b i sz o =>
    match sz, i, sizeT P e, bound lo 0, bound hi n, H b with
    | 0, 0, some es, some (l, l'), some (h, h'), some (.cells cs) =>
      .lit (Nat.ble (o + n * es) cs.length) (.need (decide (0 ≤ l) && decide (l ≤ h) && decide (h ≤ (n : Int))) (.leaf ⟨.sl b l' o es (h' - l') none, [b], []⟩))
    | _, _, _, _, _, _ => .fail
  | _, _ => .fail

def arrayAtV (P : Program) (t : TypeId) (x : V) : Tree V :=
  match P.underlying t, x with
  | some (.array n _), .sl b i o es len _ => .lit (Nat.ble 1 n) (.need (decide (n ≤ len)) (.leaf (.ptr b i es o)))
  | _, _ => .fail

def lenV (P : Program) (t : TypeId) (x : V) : Tree V :=
  match P.underlying t, x with
  | some .string, .str s => .leaf (.int .i64 s.size)
  | some (.array n _), _ => .leaf (.int .i64 n)
  | some (.slice _), .sl _ _ _ _ len _ => .leaf (.int .i64 len)
  | some (.slice _), .nils => .leaf (.int .i64 0)
  | _, _ => .fail

/-- No room behind it: what is appended must be something. -/
def tight : V → Bool
  | .sl _ _ _ _ len (some c) => Nat.beq len c
  | _ => false
/-- A slice that is appended to: the block that is given up. -/
def givenUp : V → Option (List (Nat × Option Blk))
  | .nils => some []
  | .sl b _ _ _ len cap => if tight (.sl b 0 0 0 len cap) then some [] else some [(b, none)]
  | _ => none
def lenOfV : V → Nat
  | .sl _ _ _ _ len _ => len
  | _ => 0

def appRes (P : Program) (n : Nat) (e : TypeId) (s : V) (es : Nat) (rd : List Nat) (gone : List (Nat × Option Blk)) (m tot : Nat) (bl : Blk) : T1 :=
  let r : T1 := .need (decide (tot * bytesT P e ≤ 140737488355328)) (.leaf ⟨.sl n 0 0 es tot none, rd, gone ++ [(n, some bl)]⟩)
  .lit (Nat.ble 1 es && Nat.ble 1 (bytesT P e)) (match tight s && !Nat.beq (lenOfV s) 0 with
  | true => .need (decide (0 < m)) r
  | false => r)

def appendV (P : Program) (H : Hp) (n : Nat) (ts : List TypeId) (s x : V) : T1 :=
  match ts with
  | [t, tx] =>
    match P.underlying t, givenUp s with
    | some (.slice e), some gone =>
      match (zeroT P e).map V.cells, sizeT P e with
      | some zc, some es =>
        .lit (Nat.beq zc.length es)
        (match kindsT P e, P.underlying tx, x with
        | [.int k], some .string, .str y =>
          match slInts H k s with
          | some (xs, r1, c1) => .lit (k = .u8 && Nat.beq es 1) (.need c1 (appRes P n e s 1 r1 gone y.size (xs ++ numsOf y).length (.ints k (xs ++ numsOf y))))
          | none => .fail
        | [.int k], some (.slice _), x =>
          match slInts H k s, slInts H k x with
          | some (xs, r1, c1), some (ys, r2, c2) => .lit (Nat.beq es 1) (.need (c1 && c2) (appRes P n e s 1 (r1 ++ r2) gone ys.length (xs ++ ys).length (.ints k (xs ++ ys))))
          | _, _ => .fail
        | ks, some (.slice _), x =>
          match flatK ks, slRows H ks s, slRows H ks x with
          | true, some (xs, r1, c1), some (ys, r2, c2) => .lit (Nat.beq es ks.length) (.need (c1 && c2) (appRes P n e s ks.length (r1 ++ r2) gone ys.length (xs ++ ys).length (.rows ks (xs ++ ys))))
          | true, _, _ => .fail
          | false, _, _ => match slCells H es s, slCells H es x with
            | some (cs, r1), some (ds, r2) => appRes P n e s es (r1 ++ r2) gone (lenOfV x) (lenOfV s + lenOfV x) (.cells (cs ++ ds))
            | _, _ => .fail
        | _, _, _ => .fail)
      | _, _ => .fail
    | _, _ => .fail
  | _ => .fail

/-- append(s, make([]T, n)...). -/
def appendZ (P : Program) (H : Hp) (n : Nat) (t : TypeId) (s : V) (l : Int) : T1 :=
  match P.underlying t, givenUp s with
  | some (.slice e), some gone =>
    match zeroT P e, sizeT P e with
    | some (.int k z0), some es =>
      match slInts H k s with
      | some (xs, r1, c1) => .lit (Nat.beq es 1) (.need (c1 && decide (0 ≤ l) && decide (l ≤ 140737488355328))
        (appRes P n e s 1 r1 gone l.toNat (xs ++ List.replicate l.toNat z0).length (.ints k (xs ++ List.replicate l.toNat z0))))
      | none => .fail
    | _, _ => .fail
  | _, _ => .fail
def appendAny (P : Program) (H : Hp) (n : Nat) (ts : List TypeId) (s x : V) : T1 :=
  match ts, x with
  | [t, tx], .int _ l => match P.underlying tx with
    | some (.int _) => appendZ P H n t s l
    | _ => .fail
  | ts, x => appendV P H n ts s x

def zeroBody (z : V) (n : Nat) : Option Blk :=
  match z with
  | .int k m => some (.ints k (List.replicate n m))
  | z => if flatK (z.cells.map kindOf) && z.known then some (.rows (z.cells.map kindOf) (List.replicate n z.cells)) else none

def makeSliceV (P : Program) (n : Nat) (t : TypeId) (l c : V) : T1 :=
  match P.underlying t, l, c with
  | some (.slice e), .int _ ln, .int _ cp =>
    match zeroT P e, sizeT P e with
    | some z, some es =>
      match zeroBody z ln.toNat with
      | some bl => .lit (Nat.beq es z.cells.length && Nat.ble 1 es) (.need (decide (0 ≤ ln) && decide (ln ≤ cp) && decide (cp * bytesT P e ≤ 140737488355328) && decide (cp ≤ 140737488355328)) (.leaf ⟨.sl n 0 0 es ln.toNat none, [], [(n, some bl)]⟩))
      | none => .fail
    | _, _ => .fail
  | _, _, _ => .fail

def copyV (P : Program) (H : Hp) (ts : List TypeId) (d x : V) : T1 :=
  match ts, d with
  | [t, tx], .sl b i 0 1 len cap =>
    match P.underlying t, H b with
    | some (.slice e), some (.ints k' xs) =>
      match sizeT P e, P.underlying tx, x with
      | some 1, some .string, .str y =>
        .lit (k' = .u8) (.need (decide (i + len ≤ xs.length)) (.leaf ⟨.int .i64 (min y.size len : Nat), [b], [(b, some (.ints k' (xs.take i ++ (numsOf y).take (min y.size len) ++ xs.drop (i + min y.size len))))]⟩))
      | some 1, some (.slice _), x =>
        match slInts H k' x with
        | some (ys, r, c) =>
          .need (c && decide (i + len ≤ xs.length)) (.leaf ⟨.int .i64 (min ys.length len : Nat), b :: r, [(b, some (.ints k' (xs.take i ++ ys.take (min ys.length len) ++ xs.drop (i + min ys.length len))))]⟩)
        | none => .fail
      | _, _, _ => .fail
    | _, _ => .fail
  | [t, tx], .sl b i o 1 len _ =>
    match P.underlying t, H b with
    | some (.slice e), some (.cells cs) =>
      match sizeT P e, P.underlying e, P.underlying tx with
      | some 1, some (.int k), some (.slice _) =>
        match slInts H k x with
        | some (ys, r, c) =>
          .need c ((storeAt cs (i + o) ((ys.take (min ys.length len)).map (V.int k))).bind fun bl' => .leaf ⟨.int .i64 (min ys.length len : Nat), b :: r, [(b, some bl')]⟩)
        | none => .fail
      | _, _, _ => .fail
    | _, _ => .fail
  | _, _ => .fail

/-! ### Calls -/
def locsV : V → List Nat
  | .ptr b _ _ _ => [b]
  | .sl b _ _ _ _ _ => [b]
  | .agg cs => locsVs cs
  | .tup cs => locsVs cs
  | .fn _ a c => locsVs a ++ locsVs c
  | .ifc _ v => locsV v
  | .mapr b => [b]
  | _ => []
  where locsVs : List V → List Nat
  | [] => []
  | v :: vs => locsV v ++ locsVs vs

def locsB : Blk → List Nat
  | .cells cs => locsV.locsVs cs
  | .kv ks vs => locsV.locsVs ks ++ locsV.locsVs vs
  | _ => []

def reach (H : Hp) : Nat → List Nat → List Nat → List Nat
  | 0, _, acc => acc
  | _, [], acc => acc
  | f + 1, b :: todo, acc =>
    if acc.contains b then reach H f todo acc
    else reach H f (todo ++ (match H b with | some bl => locsB bl | none => [])) (acc ++ [b])

def renV (m : Nat → Nat) : V → V
  | .ptr b i sz o => .ptr (m b) i sz o
  | .sl b i o es len cap => .sl (m b) i o es len cap
  | .agg cs => .agg (renVs cs)
  | .tup cs => .tup (renVs cs)
  | .fn f a c => .fn f (renVs a) (renVs c)
  | .ifc t v => .ifc t (renV m v)
  | .mapr b => .mapr (m b)
  | v => v
  where renVs : List V → List V
  | [] => []
  | v :: vs => renV m v :: renVs vs

def renB (m : Nat → Nat) (bl : Blk) : Blk :=
  match bl with
  | .cells cs => .cells (renV.renVs m cs)
  | .kv ks vs => .kv (renV.renVs m ks) (renV.renVs m vs)
  | bl => bl

structure Res where
  v : V
  upd : List (Option (Option Blk))
  new : List Blk

abbrev Spec := List V → List Blk → Tree Res

def allSome {α : Type} : List (Option α) → Option (List α)
  | [] => some []
  | some a :: r => (allSome r).map (a :: ·)
  | none :: _ => none

def locsO (H : Hp) (b : Nat) : List Nat := match H b with | some bl => locsB bl | none => []
def sub (a b : List Nat) : Bool := a.all fun x => b.contains x
/-- The blocks are told apart, and lead to no others. -/
def closed (H : Hp) (ls : List Nat) (vs : List V) : Bool := noDup ls && sub (locsV.locsVs vs) ls && ls.all fun b => sub (locsO H b) ls

def thereM (ls : List Nat) (b : Nat) : Nat := ls.idxOf b
def backM (ls : List Nat) (n j : Nat) : Nat := if Nat.blt j ls.length then ls.getD j 0 else n + (j - ls.length)
def wrOf (ls : List Nat) (n : Nat) (upd : List (Option (Option Blk))) (new : List Blk) : List (Nat × Option Blk) :=
  (ls.zip upd).filterMap (fun (b, u) => u.map fun x => (b, x.map (renB (backM ls n)))) ++
    new.zipIdx.map (fun (bl, j) => (n + j, some (renB (backM ls n) bl)))

/-- The blocks that the arguments lead to, told in their own numbers; and back. -/
def applySpec (H : Hp) (n : Nat) (s : Spec) (args : List V) : T1 :=
  let ls := reach H 200 (locsV.locsVs args) []
  match allSome (ls.map H), closed H ls args with
  | some bls, true =>
    (s (renV.renVs (thereM ls) args) (bls.map (renB (thereM ls)))).bind fun r =>
      .lit (Nat.ble r.upd.length ls.length) (.leaf ⟨renV (backM ls n) r.v, ls, wrOf ls n r.upd r.new⟩)
  | _, _ => .fail

abbrev Specs := Nat → Option Spec

def callV (Γ : Specs) (H : Hp) (n : Nat) (f : V) (args : List V) : T1 :=
  match f with
  | .fn (.func k) first captured =>
    match Γ k with
    | some s => applySpec H n s (first ++ args ++ captured)
    | none => .fail
  | _ => .fail

def lift1 (t : Tree V) : T1 := t.bind val

/-- A slice of nothing. -/
def emptyBody (P : Program) (t : TypeId) : Option (Blk × Nat) :=
  match P.underlying t with
  | some (.slice e) =>
    match kindsT P e with
    | [.int k] => some (.ints k [], 1)
    | ks => if flatK ks then some (.rows ks [], ks.length) else none
  | _ => none

def moveV (P : Program) (keep : Bool) (n : Nat) (t : TypeId) (x : V) : T1 :=
  match keep, x, emptyBody P t with
  | false, .nils, some (bl, es) => .leaf ⟨.sl n 0 0 es 0 none, [], [(n, some bl)]⟩
  | _, v, _ => val v
def pickV (c x y : V) : T1 :=
  match c with
  | .tru => val x
  | .fls => val y
  | .bool c =>
    match x, y with
    | .any, y => .ite c .fail (val y)
    | x, .any => .ite c (val x) .fail
    | .tup [], y => .ite c .fail (val y)
    | x, .tup [] => .ite c (val x) .fail
    | x, y =>
      match x.asBool, y.asBool with
      | some x, some y => val (.bool (match c with | true => x | false => y))
      | _, _ => .ite c (val x) (val y)
  | _ => .fail
def nilCheckV (x : V) : T1 :=
  match x with
  | .ptr b i sz o => val (.ptr b i sz o)
  | .fn (.func f) a c => val (.fn (.func f) a c)
  | _ => .fail
def extractV (x : V) (k : Nat) : T1 :=
  match x with
  | .tup vs => match vs[k]? with
    | some v => val v
    | none => .fail
  | _ => .fail
def allocV (P : Program) (n : Nat) (e : TypeId) : T1 :=
  match zeroT P e with
  | some z => .leaf ⟨.ptr n 0 0 0, [], [(n, some (.cells z.cells))]⟩
  | none => .fail
def makeFuncV (f : Fn) (a c : List V) : T1 := val (.fn f a c)

/-! ### Maps -/
/-- A key that is hashed without fault: by its type. -/
def keyFieldsV (P : Program) (r : TypeId → V → Bool) (xs : List V) : List Field → Bool
  | [] => true
  | f :: fs =>
    if f.name = "_" then keyFieldsV P r xs fs else
    match partO P f.type xs f.offset with
    | some a => r f.type a && keyFieldsV P r xs fs
    | none => false
def keyElemsV (P : Program) (r : V → Bool) (e : TypeId) (n : Nat) (xs : List V) : List Nat → Bool
  | [] => true
  | i :: is =>
    match partO P e xs (i * n) with
    | some a => r a && keyElemsV P r e n xs is
    | none => false
def keyT (P : Program) : Nat → TypeId → V → Bool
  | 0, _, _ => false
  | d + 1, t, x =>
    match P.underlying t, x with
    | some (.int _), .int _ _ => true
    | some .string, .str _ => true
    | some .bool, .bool _ => true
    | some (.struct fs), .agg xs => keyFieldsV P (keyT P d) xs fs.toList
    | some (.array len e), .agg xs =>
      match sizeT P e with
      | none => false
      | some n => keyElemsV P (keyT P d e) e n xs (List.range len)
    | _, _ => false
def isStructT (P : Program) (t : TypeId) : Bool := match P.underlying t with
  | some (.struct _) => true
  | _ => false
/-- What stands at a key, and where. -/
def findV (P : Program) (kt : TypeId) (k : V) : List V → List V → Nat → (Option (Nat × V) → T1) → T1
  | [], [], _, c => c none
  | x :: xs, v :: vs, i, c =>
    match eqT P 50 kt k x with
    | some b => .ite b (c (some (i, v))) (findV P kt k xs vs (i + 1) c)
    | none => .fail
  | _, _, _, _ => .fail
/-- What a lookup hands back. -/
def lookR (ok : Bool) (v : V) (is : Bool) : V := match ok with
  | true => .tup [v, .lit is]
  | false => v
def lookC (b : Nat) (ok : Bool) (z : V) : Option (Nat × V) → T1
  | some (_, v) => .leaf ⟨lookR ok v true, [b], []⟩
  | none => .leaf ⟨lookR ok z false, [b], []⟩
def delC (b : Nat) (ks vs : List V) : Option (Nat × V) → T1
  | some (i, _) => .leaf ⟨.tup [], [b], [(b, some (.kv (ks.eraseIdx i) (vs.eraseIdx i)))]⟩
  | none => .leaf ⟨.tup [], [b], [(b, some (.kv ks vs))]⟩
def updC (b : Nat) (ks vs : List V) (k v : V) : Option (Nat × V) → T1
  | some _ => .fail
  | none => .leaf ⟨.any, [b], [(b, some (.kv (ks ++ [k]) (vs ++ [v])))]⟩
def lookupV (P : Program) (H : Hp) (t : TypeId) (x k : V) (ok : Bool) : T1 :=
  match P.underlying t, x with
  | some (.map kt el), .mapr b =>
    match H b, zeroT P el with
    | some (.kv ks vs), some z => .lit (keyT P 50 kt k && isStructT P kt) (findV P kt k ks vs 0 (lookC b ok z))
    | _, _ => .fail
  | _, _ => .fail
def updateV (P : Program) (H : Hp) (t : TypeId) (x k v : V) : T1 :=
  match P.underlying t, x with
  | some (.map kt _), .mapr b =>
    match H b with
    | some (.kv ks vs) => .lit (keyT P 50 kt k && isStructT P kt && v.known && k.known) (findV P kt k ks vs 0 (updC b ks vs k v))
    | _ => .fail
  | _, _ => .fail
def deleteV (P : Program) (H : Hp) (t : TypeId) (x k : V) : T1 :=
  match P.underlying t, x with
  | some (.map kt _), .mapr b =>
    match H b with
    | some (.kv ks vs) => .lit (keyT P 50 kt k && isStructT P kt) (findV P kt k ks vs 0 (delC b ks vs))
    | _ => .fail
  | _, _ => .fail
def clearV (P : Program) (H : Hp) (t : TypeId) (x : V) : T1 :=
  match P.underlying t, x with
  | some (.map _ _), .mapr b =>
    match H b with
    | some (.kv _ _) => .leaf ⟨.tup [], [b], [(b, some (.kv [] []))]⟩
    | _ => .fail
  | _, _ => .fail
def lenMapV (P : Program) (H : Hp) (t : TypeId) (b : Nat) : T1 :=
  match P.underlying t with
  | some (.map _ _) =>
    match H b with
    | some (.kv ks _) => .leaf ⟨.int .i64 ks.length, [b], []⟩
    | _ => .fail
  | _ => .fail
def makeMapV (n : Nat) : T1 := .leaf ⟨.mapr n, [], [(n, some (.kv [] []))]⟩
def minV (x y : V) : Tree V :=
  match x, y with
  | .int k a, .int k' b => .lit (k = k') (.leaf (.int k (min a b)))
  | _, _ => .fail

def maxV (x y : V) : Tree V :=
  match x, y with
  | .int k a, .int k' b => .lit (k = k') (.leaf (.int k (max a b)))
  | _, _ => .fail

/-- One operation. -/
def evOp (P : Program) (Γ : Specs) (T : Tm) (H : Hp) (n : Nat) (o : Oper) : T1 :=
  match o.op with
  | .move x => moveV P (Γ 3).isSome n o.type (opd T x)
  | .assign x => moveV P (Γ 3).isSome n o.type (opd T x)
  | .pick c a b => pickV (opd T c) (opd T a) (opd T b)
  | .alloc e => allocV P n e
  | .box _ x => .lit (opd T x).known (.leaf ⟨.ptr n 0 0 0, [], [(n, some (.cells (opd T x).cells))]⟩)
  | .build t ps => lift1 (buildV P t (ps.toList.map fun (i, x) => (i, opd T x)))
  | .buildSlice t len ps => buildSliceV P n t len (ps.toList.map fun (i, x) => (i, opd T x))
  | .load t a => loadV P H t (opd T a)
  | .store t a x => storeV P H t (opd T a) (opd T x)
  | .nilCheck x => nilCheckV (opd T x)
  | .binOp op t x y _ => match ifcNil P op t (isC x || isC y) (opd T x) (opd T y) with
    | some v => val v
    | none => lift1 (binV P op t (opd T x) (opd T y))
  | .unOp op _ x => lift1 (unV op (opd T x))
  | .convert s d x => convV P H n s d (opd T x)
  | .sliceToArrayPointer t x => lift1 (arrayAtV P t (opd T x))
  | .makeFunc f a c => makeFuncV f (a.toList.map (opd T)) (c.toList.map (opd T))
  | .makeSlice t l c => makeSliceV P n t (opd T l) (opd T c)
  | .makeMap _ none => makeMapV n
  | .lookup t x k ok => lookupV P H t (opd T x) (opd T k) ok
  | .mapUpdate t m k v => updateV P H t (opd T m) (opd T k) (opd T v)
  | .slice t x lo hi none =>
    match P.underlying t with
    | some (.array _ _) => sliceArrV P H t (opd T x) (lo.map (opd T)) (hi.map (opd T))
    | _ => lift1 (sliceV P t (opd T x) (lo.map (opd T)) (hi.map (opd T)) none)
  | .fieldAddr t x f => lift1 (fieldAddrV P t (opd T x) f)
  | .field t x f => lift1 (fieldV P t (opd T x) f)
  | .indexAddr t x ix => lift1 (indexAddrV P t (opd T x) (opd T ix))
  | .index t x ix => lift1 (indexV P t (opd T x) (opd T ix))
  | .extract x k => extractV (opd T x) k
  | .call c =>
    match c.callee, c.args.toList with
    | .builtin .len, [x] =>
      match c.argTypes[0]? with
      | some t => match opd T x with
        | .mapr b => lenMapV P H t b
        | x => lift1 (lenV P t x)
      | none => .fail
    | .builtin .delete, [m, k] =>
      match c.argTypes[0]? with
      | some t => deleteV P H t (opd T m) (opd T k)
      | none => .fail
    | .builtin .clear, [m] =>
      match c.argTypes[0]? with
      | some t => clearV P H t (opd T m)
      | none => .fail
    | .builtin .min, [x, y] => lift1 (minV (opd T x) (opd T y))
    | .builtin .max, [x, y] => lift1 (maxV (opd T x) (opd T y))
    | .builtin .append, [s, x] => appendAny P H n c.argTypes.toList (opd T s) (opd T x)
    | .builtin .copy, [d, x] => copyV P H c.argTypes.toList (opd T d) (opd T x)
    | .value f, args => callV Γ H n (opd T f) (args.map (opd T))
    | _, _ => .fail
  | _ => .fail

/-! ### Regions -/
structure Rec where
  tr : List Nat
  dst : Option Nat
  v : V
  rd : List Nat
  wr : List (Nat × Option Blk)

structure St where
  T : List V
  H : List (Option Blk)
  d : List Nat

def St.tm (s : St) : Tm := fun t => s.T.getD t .any
def St.hp (s : St) : Hp := fun b => (s.H[b]?).join

def setH (H : List (Option Blk)) : List (Nat × Option Blk) → List (Option Blk)
  | [] => H
  | (b, x) :: r => setH (if Nat.blt b H.length then H.set b x else H ++ [x]) r

/-- What is written is there and was read, or is new and in order. -/
def wrNew (n : Nat) (rd : List Nat) (H : Hp) : Nat → List (Nat × Option Blk) → Bool
  | _, [] => true
  | k, (b, x) :: r => if Nat.blt b n then rd.contains b && (H b).isSome && wrNew n rd H k r else Nat.beq b k && x.isSome && wrNew n rd H (k + 1) r
def wrOk (n : Nat) (rd : List Nat) (H : Hp) (wr : List (Nat × Option Blk)) : Bool := wrNew n rd H n wr && noDup (wr.map (·.1)) && wr.all fun x => !lookO (H x.1) && !lookO x.2
def dstOk (T : List V) (dst : Option Nat) : Bool := match dst with | some t => Nat.blt t T.length | none => true

def putT (T : List V) (dst : Option Nat) (v : V) : List V :=
  match dst with
  | some t => T.set t v
  | none => T

def tmpsOf (o : Oper) : List Nat := o.op.operands.toList.filterMap fun | .tmp t => some t | _ => none

/-- The operations of a region in the text's order. -/
def evOps (P : Program) (Γ : Specs) (ops : Array Oper) : List Oper → St → Tree (St × List Rec)
  | [], s => .leaf (s, [])
  | o :: rest, s =>
    let run (s : St) (g : List Nat) : Tree (St × List Rec) :=
      (evOp P Γ s.tm s.hp s.H.length o).bind fun e =>
        .lit (wrOk s.H.length e.rd s.hp e.wr && dstOk s.T o.dst)
        ((evOps P Γ ops rest ⟨putT s.T o.dst e.v, setH s.H e.wr, e.wr.map (·.1) ++ s.d⟩).bind fun (s', rs) =>
          .leaf (s', ⟨g ++ tmpsOf o, o.dst, e.v, e.rd, e.wr⟩ :: rs))
    match o.guard with
    | none => run s []
    | some (j, want) =>
      match (ops[j]?).bind (·.dst) with
      | none => .fail
      | some t =>
        let skip (s : St) : Tree (St × List Rec) :=
          .lit (dstOk s.T o.dst) ((evOps P Γ ops rest { s with T := putT s.T o.dst (.tup []) }).bind fun (s', rs) =>
            .leaf (s', ⟨[t], o.dst, .tup [], [], []⟩ :: rs))
        let go (b : Bool) : Tree (St × List Rec) :=
          let s := { s with T := s.T.set t (.lit b) }
          if b == want then run s [t] else skip s
        match s.tm t with
        | .tru => go true
        | .fls => go false
        | .bool b => .ite b (go true) (go false)
        | .tup [] => skip s
        | _ => .fail

def disj (a b : List Nat) : Bool := a.all fun x => !b.contains x

def Rec.apart (a b : Rec) : Bool :=
  (match a.dst with | some t => !b.tr.contains t && !(match b.dst with | some u => Nat.beq t u | none => false) | none => true) &&
  (match b.dst with | some t => !a.tr.contains t | none => true) &&
  disj (a.wr.map (·.1)) (b.rd ++ b.wr.map (·.1)) && disj (b.wr.map (·.1)) a.rd

def directs (o : Oper) : List Nat := o.after.toList.filterMap fun e => if Region.binds .any e then some e.on else none
def maskOf (acc : List Nat) (o : Oper) : Nat := (directs o).foldl (fun s j => s ||| 2 ^ j ||| acc.getD j 0) 0
def masks : List Oper → List Nat → List Nat
  | [], acc => acc
  | o :: os, acc => masks os (acc ++ [maskOf acc o])
def backward : List Oper → Nat → Bool
  | [], _ => true
  | o :: os, i => (directs o).all (fun j => Nat.blt j i) && backward os (i + 1)

/-- Whatever the edges leave open is indifferent. -/
def apartFrom (r : Rec) (m : Nat) : List Rec → Nat → Bool
  | [], _ => true
  | q :: qs, i => (m.testBit i || q.apart r) && apartFrom r m qs (i + 1)
def allApart : List Nat → List Rec → List Rec → Bool
  | m :: ms, r :: rs, seen => apartFrom r m seen 0 && allApart ms rs (seen ++ [r])
  | _, [], _ => true
  | [], _ :: _, _ => false

def evRegion (P : Program) (Γ : Specs) (ops : Array Oper) (draw : Bool) (s : St) : Tree St :=
  (evOps P Γ ops ops.toList s).bind fun (s', rs) =>
    if draw then .lit (allApart (masks ops.toList []) rs [] && backward ops.toList 0) (.leaf s') else .leaf s'

/-! ### Code -/
inductive Ex where
  | nrm
  | exit (id : Nat)
  | ret
  deriving DecidableEq, Inhabited

structure LRes where
  e : Ex
  vs : List V
  upd : List (Option (Option Blk))
  new : List Blk

structure LSpec where
  nt : Nat
  live : List Nat
  outs : List Nat
  f : List V → List Blk → Tree LRes

def firstRegion : Code → Nat
  | .region id _ _ => id
  | .seq a _ => firstRegion a
  | .block _ c => firstRegion c
  | .loop c => firstRegion c
  | .scope c => firstRegion c
  | _ => 0

/-- The body of the loop that begins with a region. -/
def findLoop (r : Nat) : Code → Option Code
  | .seq a b => match findLoop r a with
    | some c => some c
    | none => findLoop r b
  | .cond _ a b => match findLoop r a with
    | some c => some c
    | none => findLoop r b
  | .block _ c => findLoop r c
  | .scope c => findLoop r c
  | .loop c => if Nat.beq (firstRegion c) r then some c else findLoop r c
  | _ => none
def loopOf (fn : Func) (r : Nat) : Code := (fn.body.bind (findLoop r)).getD .skip

/-- The bodies of the loops of a body. -/
def loopsIn : Code → List Code
  | .seq a b => loopsIn a ++ loopsIn b
  | .cond _ a b => loopsIn a ++ loopsIn b
  | .block _ c => loopsIn c
  | .loop c => c :: loopsIn c
  | .scope c => loopsIn c
  | _ => []

def dstsOf : Code → List Nat
  | .region _ ops _ => ops.toList.filterMap (·.dst)
  | .seq a b => dstsOf a ++ dstsOf b
  | .cond _ a b => dstsOf a ++ dstsOf b
  | .block _ c => dstsOf c
  | .loop c => dstsOf c
  | .scope c => dstsOf c
  | _ => []

def clearT (ws : List Nat) (T : List V) : List V := T.zipIdx.map fun (v, t) => if ws.contains t then .any else v
def putsT (T : List V) : List Nat → List V → List V
  | t :: ts, v :: vs => putsT (T.set t v) ts vs
  | _, _ => T

/-- What leads to no block, or to ones that are there. -/
def clean (H : Hp) (v : V) : V := if (locsV v).all (fun b => (H b).isSome) then v else .any

def evLoop (ls : LSpec) (ws : List Nat) (s : St) : Tree (Ex × St) :=
  let vals := ls.live.map fun t => clean s.hp (s.tm t)
  let bs := reach s.hp 200 (locsV.locsVs vals) []
  match allSome (bs.map s.hp), closed s.hp bs vals with
  | some bls, true =>
    (ls.f (renV.renVs (thereM bs) vals) (bls.map (renB (thereM bs)))).bind fun r =>
      let wr := wrOf bs s.H.length r.upd r.new
      .lit (Nat.beq s.T.length ls.nt && Nat.ble r.upd.length bs.length && wrOk s.H.length bs s.hp wr && sub ls.outs ws) (.leaf (r.e, ⟨putsT (clearT ws s.T) ls.outs (renV.renVs (backM bs s.H.length) r.vs), setH s.H wr, wr.map (·.1) ++ s.d⟩))
  | _, _ => .fail

def ev (P : Program) (Γ : Specs) (Λ : Nat → Option LSpec) : Code → St → Tree (Ex × St)
  | .skip, s => .leaf (.nrm, s)
  | .region _ ops draw, s => (evRegion P Γ ops draw s).bind fun s' => .leaf (.nrm, s')
  | .seq a b, s => (ev P Γ Λ a s).bind fun (e, s') =>
    match e with
    | .nrm => ev P Γ Λ b s'
    | e => .leaf (e, s')
  | .cond c a b, s =>
    match c with
    | .tmp t =>
      match s.tm t with
      | .tru => ev P Γ Λ a s
      | .fls => ev P Γ Λ b s
      | .bool x => .ite x (ev P Γ Λ a { s with T := s.T.set t .tru }) (ev P Γ Λ b { s with T := s.T.set t .fls })
      | _ => .fail
    | .const (.bool x) => match x with | true => ev P Γ Λ a s | false => ev P Γ Λ b s
    | _ => .fail
  | .block id c, s => (ev P Γ Λ c s).bind fun (e, s') =>
    .leaf (match e with | .exit i => if Nat.beq i id then (.nrm, s') else (e, s') | e => (e, s'))
  | .exit id, s => .leaf (.exit id, s)
  | .ret, s => .leaf (.ret, s)
  | .label _, s => .leaf (.nrm, s)
  | .scope c, s => ev P Γ Λ c s
  | .loop c, s =>
    match Λ (firstRegion c) with
    | some ls => evLoop ls (dstsOf c) s
    | none => .fail
  | _, _ => .fail

def resultV (P : Program) (s : St) : ResultVar → Tree V
  | .tmp t => .leaf (s.tm t)
  | .cell a t => (loadV P s.hp t (s.tm a)).bind fun e => .leaf e.v

def resultsV (P : Program) (s : St) : List ResultVar → Tree (List V)
  | [] => .leaf []
  | r :: rs => (resultV P s r).bind fun v => (resultsV P s rs).bind fun vs => .leaf (v :: vs)

def packM (nb : Nat) (news : List Nat) (b : Nat) : Nat := if Nat.blt b nb then b else nb + news.idxOf b
def newsOf (nb : Nat) (s : St) (vs : List V) : List Nat :=
  (reach s.hp 200 (locsV.locsVs vs ++ ((List.range nb).flatMap fun b => if s.d.contains b then locsO s.hp b else [])) []).filter fun b => Nat.ble nb b
/-- What a state tells of the blocks that it began with, and of those that the results lead to. -/
def pack (nb : Nat) (s : St) (vs : List V) : Tree (List V × List (Option (Option Blk)) × List Blk) :=
  let news := newsOf nb s vs
  let all := List.range nb ++ news
  let m := packM nb news
  match allSome (news.map s.hp) with
  | some bls =>
    .lit (closed s.hp all vs && bls.all fun bl => !isLook bl) (.leaf (renV.renVs m vs,
      (List.range nb).map (fun b => if s.d.contains b then some ((s.hp b).map (renB m)) else none),
      bls.map (renB m)))
  | none => .fail

def evFn (P : Program) (Γ : Specs) (Λ : Nat → Option LSpec) (fn : Func) (args : List V) (bs : List Blk) : Tree Res :=
  match fn.body with
  | none => .fail
  | some c =>
    (ev P Γ Λ c ⟨args ++ List.replicate (fn.ntmps - args.length) .any, bs.map some, []⟩).bind fun (e, s) =>
      match e with
      | .exit _ => .fail
      | _ =>
        (resultsV P s fn.results.toList).bind fun vs =>
          (pack bs.length s vs).bind fun r => match r with
          | ([v], u, n) => .leaf ⟨v, u, n⟩
          | (vs, u, n) => .leaf ⟨.tup vs, u, n⟩

/-- One round of a loop: what it goes on with, or how it ends. -/
def evRound (P : Program) (Γ : Specs) (Λ : Nat → Option LSpec) (nt : Nat) (live outs : List Nat) (c : Code) (vals : List V) (bs : List Blk) : Tree LRes :=
  (ev P Γ Λ c ⟨putsT (List.replicate nt .any) live vals, bs.map some, []⟩).bind fun (e, s) =>
    .lit (Nat.beq s.T.length nt) ((pack bs.length s ((match e with | .nrm => live | _ => outs).map fun t => clean s.hp (s.tm t))).bind fun (vs, u, n) => .leaf ⟨e, vs, u, n⟩)

/-- What a round wrote. -/
def wrRound (nb : Nat) (upd : List (Option (Option Blk))) (new : List Blk) : List (Nat × Option Blk) :=
  ((List.range nb).zip upd).filterMap (fun (b, u) => u.map fun x => (b, x)) ++ new.zipIdx.map (fun (bl, j) => (nb + j, some bl))

/-- What comes behind a round, told as from ahead of it. -/
def seqL (bs : List Blk) (r1 : LRes) (k : List V → List Blk → Tree LRes) : Tree LRes :=
  let wr1 := wrRound bs.length r1.upd r1.new
  let s1 : St := ⟨[], setH (bs.map some) wr1, wr1.map (·.1)⟩
  let ls := reach s1.hp 200 (locsV.locsVs r1.vs) []
  .lit (wrOk bs.length (List.range bs.length) (fun b => bs[b]?) wr1)
  (match allSome (ls.map s1.hp), closed s1.hp ls r1.vs with
  | some bls, true =>
    (k (renV.renVs (thereM ls) r1.vs) (bls.map (renB (thereM ls)))).bind fun r2 =>
      let wr := wrOf ls s1.H.length r2.upd r2.new
      .lit (Nat.ble r2.upd.length ls.length && wrOk s1.H.length ls s1.hp wr)
      ((pack bs.length ⟨[], setH s1.H wr, wr.map (·.1) ++ s1.d⟩ (renV.renVs (backM ls s1.H.length) r2.vs)).bind fun (vs, u, n) => .leaf ⟨r2.e, vs, u, n⟩)
  | _, _ => .fail)

/-- A loop of so many rounds. -/
def loopN (P : Program) (Γ : Specs) (Λ : Nat → Option LSpec) (nt : Nat) (live outs : List Nat) (c : Code) : Nat → List V → List Blk → Tree LRes
  | 0, _, _ => .fail
  | n + 1, vals, bs =>
    (evRound P Γ Λ nt live outs c vals bs).bind fun r1 =>
      match r1.e with
      | .nrm => seqL bs r1 (loopN P Γ Λ nt live outs c n)
      | _ => .leaf r1

end Go.Rx

namespace Go.Rx

structure Seg where
  r : Nat
  base : Nat
  R : Nat
  /-- What is frozen of it, if anything, lies behind. -/
  cl : Bool

abbrev Rho := Nat → Option Seg

mutual
def VRel (ρ : Rho) : V → Value → Prop
  | .any, _ => True
  | .tru, x => x = .bool true
  | .fls, x => x = .bool false
  | .bool b, x => x = .bool b
  | .int k n, x => x = .int k n
  | .str s, x => x = .string s
  | .nilp, x => x = .pointer none
  | .ptr b i sz o, x => ∃ s, ρ b = some s ∧ x = .pointer (some ⟨s.r, s.base + (i * sz + o), none⟩)
  | .nils, x => x = .slice none 0 0
  | .sl b i o es len cap, x => ∃ s a c, ρ b = some s ∧ x = .slice a len c ∧ len ≤ c ∧ (∀ q, cap = some q → c = q ∧ s.cl = true) ∧
      (0 < c → a = some ⟨s.r, s.base + (i * es + o), none⟩ ∧ i * es + o + c * es ≤ s.R)
  | .nilf, x => x = .nilFunc
  | .fn f a c, x => ∃ as cs, x = .func f as cs ∧ VsRel ρ a as.toList ∧ VsRel ρ c cs.toList
  | .nili, x => x = .nilIface
  | .ifc t v, x => ∃ y, x = .iface t y ∧ VRel ρ v y
  | .agg cs, x => ∃ xs, x = .agg xs ∧ VsRel ρ cs xs.toList
  | .tup cs, x => ∃ xs, x = .tuple xs ∧ VsRel ρ cs xs.toList
  | .mapr b, x => ∃ s, ρ b = some s ∧ 0 < s.R ∧ x = .map (some s.r)
def VsRel (ρ : Rho) : List V → List Value → Prop
  | [], xs => xs = []
  | v :: vs, xs => ∃ y ys, xs = y :: ys ∧ VRel ρ v y ∧ VsRel ρ vs ys
end

def Le (ρ ρ' : Rho) : Prop := ∀ b s, ρ b = some s → ρ' b = some s
theorem Le.refl (ρ : Rho) : Le ρ ρ := fun _ _ h => h
theorem Le.trans {a b c : Rho} (h : Le a b) (k : Le b c) : Le a c := fun x s e => k x s (h x s e)

mutual
theorem VRel.mono {ρ ρ' : Rho} (h : Le ρ ρ') : ∀ (v : V) (x : Value), VRel ρ v x → VRel ρ' v x
  | .any, _, r => by simp [VRel]
  | .tru, _, r => by simpa [VRel] using r
  | .fls, _, r => by simpa [VRel] using r
  | .bool _, _, r => by simpa [VRel] using r
  | .int _ _, _, r => by simpa [VRel] using r
  | .str _, _, r => by simpa [VRel] using r
  | .nilp, _, r => by simpa [VRel] using r
  | .ptr b i sz o, _, r => by
    simp only [VRel] at r ⊢
    obtain ⟨s, e, r⟩ := r
    exact ⟨s, h _ _ e, r⟩
  | .nils, _, r => by simpa [VRel] using r
  | .sl b i o es len cap, _, r => by
    simp only [VRel] at r ⊢
    obtain ⟨s, a, c, e, r⟩ := r
    exact ⟨s, a, c, h _ _ e, r⟩
  | .nilf, _, r => by simpa [VRel] using r
  | .fn f a c, _, r => by
    simp only [VRel] at r ⊢
    obtain ⟨as, cs, e, r1, r2⟩ := r
    exact ⟨as, cs, e, VsRel.mono h _ _ r1, VsRel.mono h _ _ r2⟩
  | .nili, _, r => by simpa [VRel] using r
  | .ifc t v, _, r => by
    simp only [VRel] at r ⊢
    obtain ⟨y, e, r⟩ := r
    exact ⟨y, e, VRel.mono h _ _ r⟩
  | .agg cs, _, r => by
    simp only [VRel] at r ⊢
    obtain ⟨xs, e, r⟩ := r
    exact ⟨xs, e, VsRel.mono h _ _ r⟩
  | .tup cs, _, r => by
    simp only [VRel] at r ⊢
    obtain ⟨xs, e, r⟩ := r
    exact ⟨xs, e, VsRel.mono h _ _ r⟩
  | .mapr b, _, r => by
    simp only [VRel] at r ⊢
    obtain ⟨s, e, r⟩ := r
    exact ⟨s, h _ _ e, r⟩
theorem VsRel.mono {ρ ρ' : Rho} (h : Le ρ ρ') : ∀ (vs : List V) (xs : List Value), VsRel ρ vs xs → VsRel ρ' vs xs
  | [], _, r => by simpa [VsRel] using r
  | v :: vs, _, r => by
    simp only [VsRel] at r ⊢
    obtain ⟨y, ys, e, r1, r2⟩ := r
    exact ⟨y, ys, e, VRel.mono h _ _ r1, VsRel.mono h _ _ r2⟩
end

theorem VsRel.length {ρ : Rho} : ∀ {vs : List V} {xs : List Value}, VsRel ρ vs xs → xs.length = vs.length
  | [], _, r => by simp only [VsRel] at r; simp [r]
  | v :: vs, _, r => by
    simp only [VsRel] at r
    obtain ⟨y, ys, rfl, _, r2⟩ := r
    simp [VsRel.length r2]

theorem VsRel.get {ρ : Rho} : ∀ {vs : List V} {xs : List Value}, VsRel ρ vs xs → ∀ (i : Nat) (v : V), vs[i]? = some v → ∃ x, xs[i]? = some x ∧ VRel ρ v x
  | [], _, _, i, v, h => by simp at h
  | u :: vs, _, r, i, v, h => by
    simp only [VsRel] at r
    obtain ⟨y, ys, rfl, r1, r2⟩ := r
    cases i with
    | zero => simp at h; subst h; exact ⟨y, by simp, r1⟩
    | succ i => simp at h; obtain ⟨x, hx, rx⟩ := VsRel.get r2 i v h; exact ⟨x, by simpa using hx, rx⟩

theorem VsRel.of_get {ρ : Rho} : ∀ {vs : List V} {xs : List Value}, xs.length = vs.length → (∀ (i : Nat) (v : V) (x : Value), vs[i]? = some v → xs[i]? = some x → VRel ρ v x) → VsRel ρ vs xs
  | [], xs, hl, _ => by simp only [VsRel]; exact List.eq_nil_of_length_eq_zero (by simpa using hl)
  | v :: vs, [], hl, _ => by simp at hl
  | v :: vs, y :: ys, hl, h => by
    simp only [VsRel]
    exact ⟨y, ys, rfl, h 0 v y (by simp) (by simp), VsRel.of_get (by simpa using hl) fun i u x hu hx => h (i + 1) u x (by simpa using hu) (by simpa using hx)⟩

theorem VsRel.append {ρ : Rho} : ∀ {vs us : List V} {xs ys : List Value}, VsRel ρ vs xs → VsRel ρ us ys → VsRel ρ (vs ++ us) (xs ++ ys)
  | [], us, xs, ys, r, q => by simp only [VsRel] at r; subst r; simpa using q
  | v :: vs, us, _, ys, r, q => by
    simp only [VsRel] at r
    obtain ⟨y, zs, rfl, r1, r2⟩ := r
    simp only [List.cons_append, VsRel]
    exact ⟨y, _, rfl, r1, VsRel.append r2 q⟩

theorem VsRel.drop {ρ : Rho} : ∀ {vs : List V} {xs : List Value} (n : Nat), VsRel ρ vs xs → VsRel ρ (vs.drop n) (xs.drop n)
  | vs, xs, 0, r => by simpa using r
  | [], _, n + 1, r => by simp only [VsRel] at r; subst r; simp [VsRel]
  | v :: vs, _, n + 1, r => by
    simp only [VsRel] at r
    obtain ⟨y, ys, rfl, _, r2⟩ := r
    simpa using VsRel.drop n r2

theorem VsRel.take {ρ : Rho} : ∀ {vs : List V} {xs : List Value} (n : Nat), VsRel ρ vs xs → VsRel ρ (vs.take n) (xs.take n)
  | vs, xs, 0, r => by simp [VsRel]
  | [], _, n + 1, r => by simp only [VsRel] at r; subst r; simp [VsRel]
  | v :: vs, _, n + 1, r => by
    simp only [VsRel] at r
    obtain ⟨y, ys, rfl, r1, r2⟩ := r
    simp only [List.take_succ_cons, VsRel]
    exact ⟨y, _, rfl, r1, VsRel.take n r2⟩

theorem VRel.asBool {ρ : Rho} {v : V} {x : Value} {b : Bool} (h : VRel ρ v x) (e : v.asBool = some b) : x = .bool b := by
  cases v <;> simp [V.asBool] at e <;> simp only [VRel] at h <;> subst h <;> simp_all

theorem VRel.lit {ρ : Rho} {v : V} {x : Value} {b : Bool} (h : VRel ρ v x) (e : v.asBool = some b) : VRel ρ (V.lit b) x := by
  have := h.asBool e
  subst this
  cases b <;> simp [V.lit, VRel]

theorem vrel_bool (ρ : Rho) (b : Bool) : VRel ρ (.bool b) (.bool b) := by simp [VRel]
/-! ### Blocks -/
def flat : Blk → List V
  | .cells cs => cs
  | .ints k xs => xs.map (V.int k)
  | .rows sch rs => rs.flatMap fun r => sch.zipIdx.map fun (k, j) => proj k (r.getD j .any)
  | .look sch rs => rs.flatMap fun r => sch.zipIdx.map fun (k, j) => proj k (r.getD j .any)
  | .kv _ _ => []

/-- What a block's memory holds. -/
def MRel (ρ : Rho) (s : Seg) (bl : Blk) (w : World) : Prop := match bl with
  | .kv ks vs => ∃ ens clock, w.heap[s.r]? = some (.map ens clock) ∧ VsRel ρ ks (ens.toList.map (·.key)) ∧ VsRel ρ vs (ens.toList.map (·.val)) ∧ (ens.toList.map (·.born)).Nodup ∧ ∀ e ∈ ens.toList, e.born < clock
  | bl => ∃ arr e fr, w.heap[s.r]? = some (.cells arr e fr) ∧ s.base + s.R ≤ arr.size ∧ ((∀ i, i < s.R → ¬ (fr.1 ≤ s.base + i ∧ s.base + i < fr.2)) ∧ (s.cl = true → fr.1 = fr.2 ∨ s.base + s.R ≤ fr.1)) ∧
    ∀ i v, (flat bl)[i]? = some v → ∃ x, arr[s.base + i]? = some x ∧ VRel ρ v x
/-- A segment without room is no memory at all. -/
def BRel (ρ : Rho) (s : Seg) (bl : Blk) (w : World) : Prop := (flat bl).length ≤ s.R ∧ (0 < s.R → MRel ρ s bl w)
theorem MRel.cells {ρ : Rho} {s : Seg} {bl : Blk} {w : World} (h : isKv bl = false) (r : MRel ρ s bl w) : ∃ arr e fr, w.heap[s.r]? = some (.cells arr e fr) ∧ s.base + s.R ≤ arr.size ∧ ((∀ i, i < s.R → ¬ (fr.1 ≤ s.base + i ∧ s.base + i < fr.2)) ∧ (s.cl = true → fr.1 = fr.2 ∨ s.base + s.R ≤ fr.1)) ∧
    ∀ i v, (flat bl)[i]? = some v → ∃ x, arr[s.base + i]? = some x ∧ VRel ρ v x := by
  cases bl with
  | kv _ _ => cases h
  | cells _ => exact r
  | ints _ _ => exact r
  | rows _ _ => exact r
  | look _ _ => exact r
theorem MRel.of {ρ : Rho} {s : Seg} {bl : Blk} {w : World} (h : isKv bl = false) (r : ∃ arr e fr, w.heap[s.r]? = some (.cells arr e fr) ∧ s.base + s.R ≤ arr.size ∧ ((∀ i, i < s.R → ¬ (fr.1 ≤ s.base + i ∧ s.base + i < fr.2)) ∧ (s.cl = true → fr.1 = fr.2 ∨ s.base + s.R ≤ fr.1)) ∧
    ∀ i v, (flat bl)[i]? = some v → ∃ x, arr[s.base + i]? = some x ∧ VRel ρ v x) : MRel ρ s bl w := by
  cases bl with
  | kv _ _ => cases h
  | cells _ => exact r
  | ints _ _ => exact r
  | rows _ _ => exact r
  | look _ _ => exact r
theorem not_kv {bl : Blk} {i : Nat} {v : V} (hv : (flat bl)[i]? = some v) : isKv bl = false := by
  cases bl with
  | kv _ _ => simp [flat] at hv
  | cells _ => rfl
  | ints _ _ => rfl
  | rows _ _ => rfl
  | look _ _ => rfl

theorem BRel.mono {ρ ρ' : Rho} {s : Seg} {bl : Blk} {w : World} (h : Le ρ ρ') (r : BRel ρ s bl w) : BRel ρ' s bl w := by
  refine ⟨r.1, fun h0 => ?_⟩
  cases hk : isKv bl with
  | true =>
    cases bl with
    | kv ks vs =>
      obtain ⟨ens, clock, h1, h2, h3, h4⟩ := r.2 h0
      exact ⟨ens, clock, h1, VsRel.mono h _ _ h2, VsRel.mono h _ _ h3, h4⟩
    | _ => cases hk
  | false =>
    obtain ⟨arr, e, fr, h1, h2, h3, h5⟩ := (r.2 h0).cells hk
    exact .of hk ⟨arr, e, fr, h1, h2, h3, fun i v hv => by obtain ⟨x, hx, rx⟩ := h5 i v hv; exact ⟨x, hx, rx.mono h⟩⟩

theorem BRel.same {ρ : Rho} {s : Seg} {bl : Blk} {w w' : World} (h : 0 < s.R → w'.heap[s.r]? = w.heap[s.r]?) (r : BRel ρ s bl w) : BRel ρ s bl w' := by
  refine ⟨r.1, fun h0 => ?_⟩
  cases hk : isKv bl with
  | true =>
    cases bl with
    | kv ks vs =>
      obtain ⟨ens, clock, h1, h2⟩ := r.2 h0
      exact ⟨ens, clock, (h h0) ▸ h1, h2⟩
    | _ => cases hk
  | false =>
    obtain ⟨arr, e, fr, h1, h2⟩ := (r.2 h0).cells hk
    exact .of hk ⟨arr, e, fr, (h h0) ▸ h1, h2⟩

theorem BRel.lt {ρ : Rho} {s : Seg} {bl : Blk} {w : World} (r : BRel ρ s bl w) (h0 : 0 < s.R) : s.r < w.heap.size := by
  cases hk : isKv bl with
  | true =>
    cases bl with
    | kv ks vs =>
      obtain ⟨ens, clock, h1, _⟩ := r.2 h0
      exact (Array.getElem?_eq_some_iff.1 h1).1
    | _ => cases hk
  | false =>
    obtain ⟨arr, e, fr, h1, _⟩ := (r.2 h0).cells hk
    exact (Array.getElem?_eq_some_iff.1 h1).1

theorem BRel.pos {ρ : Rho} {s : Seg} {bl : Blk} {w : World} (r : BRel ρ s bl w) {i : Nat} {v : V} (hv : (flat bl)[i]? = some v) : 0 < s.R := by
  have := (List.getElem?_eq_some_iff.1 hv).1
  have := r.1
  omega

theorem BRel.cell {ρ : Rho} {s : Seg} {bl : Blk} {w : World} (r : BRel ρ s bl w) {i : Nat} {v : V} (hv : (flat bl)[i]? = some v) : ∃ x, w.cell? ⟨s.r, s.base + i, none⟩ = some x ∧ VRel ρ v x := by
  obtain ⟨arr, e, fr, h1, h2, h3, h5⟩ := (r.2 (r.pos hv)).cells (not_kv hv)
  obtain ⟨x, hx, rx⟩ := h5 i v hv
  exact ⟨x, by simp [World.cell?, h1, hx], rx⟩

theorem BRel.isSome {ρ : Rho} {s : Seg} {bl : Blk} {w : World} (r : BRel ρ s bl w) (hk : isKv bl = false) {i : Nat} (hi : i < s.R) : (w.cell? ⟨s.r, s.base + i, none⟩).isSome = true := by
  obtain ⟨arr, e, fr, h1, h2, h3, h5⟩ := (r.2 (by omega)).cells hk
  have : s.base + i < arr.size := by omega
  simp [World.cell?, h1, this]

theorem BRel.notFrozen {ρ : Rho} {s : Seg} {bl : Blk} {w : World} (r : BRel ρ s bl w) (hk : isKv bl = false) {i : Nat} (hi : i < s.R) : w.frozen? ⟨s.r, s.base + i, none⟩ = false := by
  obtain ⟨arr, e, ⟨lo, hi'⟩, h1, h2, h3, h5⟩ := (r.2 (by omega)).cells hk
  have := h3.1 i hi
  simp only [World.frozen?, h1]
  simp only [Bool.and_eq_false_iff, decide_eq_false_iff_not]
  simp only [not_and] at this
  by_cases h : lo ≤ s.base + i
  · exact .inr (this h)
  · exact .inl h

/-! ### What an operation does -/
def upd1 (H : Hp) (b : Nat) (x : Option Blk) : Hp := fun c => if c = b then x else H c
def updH (H : Hp) : List (Nat × Option Blk) → Hp
  | [] => H
  | (b, x) :: r => updH (upd1 H b x) r

/-- Blocks that are not named stay. -/
structure Fr (ρ : Rho) (W : Nat → Prop) (w w' : World) : Prop where
  os : w'.os = w.os
  tape : w'.tape = w.tape
  output : w'.output = w.output
  size : w.heap.size ≤ w'.heap.size
  block : ∀ i, i < w.heap.size → (∀ b s, W b → ρ b = some s → 0 < s.R → s.r ≠ i) → w'.heap[i]? = w.heap[i]?

theorem Fr.refl (ρ : Rho) (W : Nat → Prop) (w : World) : Fr ρ W w w := ⟨rfl, rfl, rfl, Nat.le_refl _, fun _ _ _ => rfl⟩
theorem Fr.weaken {ρ : Rho} {W W' : Nat → Prop} {w w' : World} (h : Fr ρ W w w') (hw : ∀ b, W b → W' b) : Fr ρ W' w w' :=
  ⟨h.os, h.tape, h.output, h.size, fun i hi k => h.block i hi fun b s hb e => k b s (hw b hb) e⟩

/-- The post of an operation: values, blocks, and what is new. -/
structure Post (ρ : Rho) (e : Eff) (w : World) (v : Value) (w' : World) (ρ' : Rho) : Prop where
  le : Le ρ ρ'
  dom : ∀ b s, ρ' b = some s → ρ b = some s ∨ (ρ b = none ∧ ∃ x, (b, x) ∈ e.wr)
  val : VRel ρ' e.v v
  wr : ∀ b x, (b, x) ∈ e.wr → x = none ∨ ∃ bl s, x = some bl ∧ ρ' b = some s ∧ BRel ρ' s bl w'
  fr : Fr ρ (fun b => ∃ x, (b, x) ∈ e.wr) w w'
  new : ∀ b s, ρ b = none → ρ' b = some s → s.R = 0 ∨ w.heap.size ≤ s.r ∨ ∃ c t, (c, none) ∈ e.wr ∧ ρ c = some t ∧ 0 < t.R ∧ t.r = s.r
  inj : ∀ b c s t, ρ b = none → ρ c = none → ρ' b = some s → ρ' c = some t → 0 < s.R → 0 < t.R → s.r = t.r → b = c

theorem Post.pure {ρ : Rho} {v : V} {rd : List Nat} {w : World} {x : Value} (h : VRel ρ v x) : Post ρ ⟨v, rd, []⟩ w x w ρ :=
  ⟨Le.refl _, fun _ _ h => .inl h, h, by simp, Fr.refl _ _ _, by simp_all, by simp_all⟩

def addR (ρ : Rho) (n : Nat) (s : Seg) : Rho := fun b => if b = n then some s else ρ b
theorem addR_le {ρ : Rho} {n : Nat} {s : Seg} (h : ρ n = none) : Le ρ (addR ρ n s) := by
  intro b t e
  unfold addR
  split
  · subst b; rw [h] at e; cases e
  · exact e
theorem addR_self (ρ : Rho) (n : Nat) (s : Seg) : addR ρ n s n = some s := by simp [addR]

/-- A new block is made, perhaps behind draws. -/
theorem Post.alloc {ρ : Rho} {n : Nat} {v : V} {rd : List Nat} {bl : Blk} {w w' : World} {x : Value} (gone : List (Nat × Option Blk)) (hgone : ∀ b y, (b, y) ∈ gone → y = none)
    (hn : ρ n = none) (hos : w'.os = w.os) (ht : w'.tape = w.tape) (ho : w'.output = w.output) (hsz : w.heap.size ≤ w'.heap.size) (hold : ∀ i, i < w.heap.size → w'.heap[i]? = w.heap[i]?) (s : Seg) (hr : s.R = 0 ∨ w.heap.size ≤ s.r)
    (hb : BRel (addR ρ n s) s bl w') (hv : VRel (addR ρ n s) v x) : Post ρ ⟨v, rd, gone ++ [(n, some bl)]⟩ w x w' (addR ρ n s) := by
  refine ⟨addR_le hn, ?_, hv, ?_, ⟨hos, ht, ho, hsz, fun i hi _ => hold i hi⟩, ?_, ?_⟩
  · intro b t h
    unfold addR at h
    split at h
    · rename_i hb; subst hb; exact .inr ⟨hn, some bl, by simp⟩
    · exact .inl h
  · intro b y hm
    rcases List.mem_append.1 hm with hm | hm
    · exact .inl (hgone _ _ hm)
    · simp at hm
      obtain ⟨rfl, rfl⟩ := hm
      exact .inr ⟨bl, s, rfl, addR_self _ _ _, hb⟩
  · intro b t h0 h
    unfold addR at h
    split at h
    · simp at h; subst h; exact hr.imp id .inl
    · rw [h0] at h; cases h
  · intro b c s' t h0 h1 h2 h3 _ _ _
    unfold addR at h2 h3
    split at h2 <;> split at h3 <;> simp_all

/-- A block takes the place of one that is given up. -/
theorem Post.reuse {ρ : Rho} {n g : Nat} {v : V} {rd : List Nat} {bl : Blk} {w w' : World} {x : Value}
    (hn : ρ n = none) (hos : w'.os = w.os) (ht : w'.tape = w.tape) (ho : w'.output = w.output) (hsz : w'.heap.size = w.heap.size) {u : Seg} (hg : ρ g = some u) (hu : 0 < u.R) (hold : ∀ i, i ≠ u.r → w'.heap[i]? = w.heap[i]?) (s : Seg) (hr : s.r = u.r)
    (hb : BRel (addR ρ n s) s bl w') (hv : VRel (addR ρ n s) v x) : Post ρ ⟨v, rd, [(g, none)] ++ [(n, some bl)]⟩ w x w' (addR ρ n s) := by
  refine ⟨addR_le hn, ?_, hv, ?_, ⟨hos, ht, ho, by omega, ?_⟩, ?_, ?_⟩
  · intro b t h
    unfold addR at h
    split at h
    · rename_i hb; subst hb; exact .inr ⟨hn, some bl, by simp⟩
    · exact .inl h
  · intro b y hm
    simp at hm
    rcases hm with ⟨rfl, rfl⟩ | ⟨rfl, rfl⟩
    · exact .inl rfl
    · exact .inr ⟨bl, s, rfl, addR_self _ _ _, hb⟩
  · intro i _ k
    exact hold i (fun e => k g u ⟨none, by simp⟩ hg hu e.symm)
  · intro b t h0 h
    unfold addR at h
    split at h
    · simp at h; subst h; exact .inr (.inr ⟨g, u, by simp, hg, hu, hr.symm⟩)
    · rw [h0] at h; cases h
  · intro b c s' t h0 h1 h2 h3 _ _ _
    unfold addR at h2 h3
    split at h2 <;> split at h3 <;> simp_all

/-- A block is written. -/
theorem Post.write {ρ : Rho} {b : Nat} {v : V} {rd : List Nat} {bl : Blk} {w w' : World} {x : Value} {s : Seg} (hs : ρ b = some s)
    (hos : w'.os = w.os) (ht : w'.tape = w.tape) (ho : w'.output = w.output) (hsz : w'.heap.size = w.heap.size) (hheap : ∀ i, i ≠ s.r → w'.heap[i]? = w.heap[i]?)
    (h0 : 0 < s.R) (hb : BRel ρ s bl w') (hv : VRel ρ v x) : Post ρ ⟨v, rd, [(b, some bl)]⟩ w x w' ρ := by
  refine ⟨Le.refl _, fun _ _ h => .inl h, hv, ?_, ⟨hos, ht, ho, by omega, ?_⟩, by simp_all, by simp_all⟩
  · intro c y hm
    simp at hm
    obtain ⟨rfl, rfl⟩ := hm
    exact .inr ⟨bl, s, rfl, hs, hb⟩
  · intro i _ k
    exact hheap i (fun e => k b s ⟨_, by simp; rfl⟩ hs h0 e.symm)

/-! ### What a world is known to hold -/
/-- The first N blocks are nobody's, and hold what is said of them. -/
class Glob where
  N : Nat
  G : (Nat → Option Obj) → Prop
  loc : ∀ h h' : Nat → Option Obj, (∀ i, i < N → h' i = h i) → G h → G h'

structure WOK [Glob] (ρ : Rho) (w : World) : Prop where
  size : Glob.N ≤ w.heap.size
  holds : Glob.G fun i => w.heap[i]?
  apart : ∀ b s, ρ b = some s → 0 < s.R → Glob.N ≤ s.r

theorem WOK.step [Glob] {ρ ρ' : Rho} {W : Nat → Prop} {w w' : World} (h : WOK ρ w) (hf : Fr ρ W w w')
    (hn : ∀ b s, ρ' b = some s → (∃ c, ρ c = some s) ∨ s.R = 0 ∨ w.heap.size ≤ s.r ∨ ∃ c t, ρ c = some t ∧ 0 < t.R ∧ t.r = s.r) : WOK ρ' w' := by
  have hs := h.size
  refine ⟨Nat.le_trans h.size hf.size, Glob.loc _ _ (fun i hi => hf.block i (by omega) fun b s _ hb h0 => ?_) h.holds, fun b s hb h0 => ?_⟩
  · have := h.apart b s hb h0; omega
  · rcases hn b s hb with ⟨c, q⟩ | q | q | ⟨c, t, q1, q2, q3⟩
    · exact h.apart c s q h0
    · omega
    · omega
    · have := h.apart c t q1 q2; omega

theorem WOK.post [Glob] {ρ ρ' : Rho} {e : Eff} {w w' : World} {v : Value} (h : WOK ρ w) (hp : Post ρ e w v w' ρ') : WOK ρ' w' :=
  h.step hp.fr fun b s hb => by
    cases h0 : ρ b with
    | some t => have := hp.le b t h0; rw [hb] at this; cases this; exact .inl ⟨b, h0⟩
    | none => rcases hp.new b s h0 hb with q | q | ⟨c, t, _, q⟩
              · exact .inr (.inl q)
              · exact .inr (.inr (.inl q))
              · exact .inr (.inr (.inr ⟨c, t, q⟩))
theorem WOK.heap [Glob] {ρ : Rho} {w w' : World} (h : WOK ρ w) (e : w'.heap = w.heap) : WOK ρ w' := ⟨by rw [e]; exact h.size, by rw [e]; exact h.holds, h.apart⟩
end Go.Rx

namespace Go.Rx

theorem den_bind {α β : Type} : ∀ (t : Tree α) (f : α → Tree β), (t.bind f).den = t.den.bind fun a => (f a).den
  | .leaf a, f => by simp [Tree.bind, Tree.den]
  | .ite b t e, f => by cases b <;> simp [Tree.bind, Tree.den, den_bind t f, den_bind e f]
  | .fail, f => by simp [Tree.bind, Tree.den]
theorem den_need {α : Type} {b : Bool} {t : Tree α} {a : α} : (Tree.need b t).den = some a ↔ b = true ∧ t.den = some a := by
  cases b <;> simp [Tree.need, Tree.den]
theorem den_lit {α : Type} {b : Bool} {t : Tree α} {a : α} : (Tree.lit b t).den = some a ↔ b = true ∧ t.den = some a := by
  cases b <;> simp [Tree.lit, Tree.den]
theorem den_leaf {α : Type} {x a : α} : (Tree.leaf x).den = some a ↔ x = a := by simp [Tree.den]
theorem den_fail {α : Type} {a : α} : (Tree.fail : Tree α).den = some a ↔ False := by simp [Tree.den]
theorem den_ite {α : Type} {b : Bool} {t e : Tree α} {a : α} : (Tree.ite b t e).den = some a ↔ (b = true ∧ t.den = some a) ∨ (b = false ∧ e.den = some a) := by
  cases b <;> simp [Tree.den]
theorem den_bind_some {α β : Type} {t : Tree α} {f : α → Tree β} {b : β} : (t.bind f).den = some b ↔ ∃ a, t.den = some a ∧ (f a).den = some b := by
  rw [den_bind]; cases t.den <;> simp
theorem den_optT {v : Option V} {a : V} : (optT v).den = some a ↔ v = some a := by
  cases v <;> simp [optT, Tree.den]

/-! ### Constants -/
theorem ofScalar_rel (ρ : Rho) (v : Value) : VRel ρ (ofScalar v) v := by
  unfold ofScalar
  split <;> first | (simp only [VRel]; done) | (simp [VRel]; done) | skip
  · rename_i b; cases b <;> simp [V.lit, VRel]

theorem ofScalars_rel (ρ : Rho) : ∀ (vs : List Value), VsRel ρ (vs.map ofScalar) vs
  | [] => by simp [VsRel]
  | v :: vs => by simp only [List.map_cons, VsRel]; exact ⟨v, vs, rfl, ofScalar_rel ρ v, ofScalars_rel ρ vs⟩

theorem ofValue_rel (ρ : Rho) (v : Value) : VRel ρ (ofValue v) v := by
  unfold ofValue
  split
  · simp only [VRel]; exact ⟨_, rfl, ofScalars_rel ρ _⟩
  · simp only [VRel]; exact ⟨_, rfl, ofScalars_rel ρ _⟩
  · exact ofScalar_rel ρ _

theorem opd_rel {ρ : Rho} {T : Tm} {a : Act} {x : Operand} (h : ∀ t, x = .tmp t → VRel ρ (T t) (a.tmps.getD t undef)) : VRel ρ (opd T x) (a.eval x) := by
  cases x with
  | tmp t => simpa [opd, Act.eval] using h t rfl
  | const v => exact ofValue_rel ρ v
  | global g => simp [opd, VRel]
  | func f => simp [opd, Act.eval, VRel, VsRel]

theorem cells_rel {ρ : Rho} {v : V} {x : Value} (h : VRel ρ v x) (hv : v ≠ .any) : VsRel ρ v.cells x.cells.toList := by
  cases v with
  | agg cs => simp only [VRel] at h; obtain ⟨xs, rfl, r⟩ := h; simpa [V.cells, Value.cells] using r
  | any => exact absurd rfl hv
  | _ =>
    have hc : x.cells = #[x] := by
      cases x <;> first | rfl | (exfalso; simp [VRel] at h)
    rw [hc]
    simp only [V.cells, VsRel]
    exact ⟨x, [], rfl, h, rfl⟩

/-! ### Types -/
section
variable {P : Program}
theorem run_isAgg {t : TypeId} {b : Bool} (h : aggT P t = some b) (w : World) : (isAgg t).run P w = .ok b w := by
  unfold aggT at h
  cases hd : P.underlying t with
  | none => rw [hd] at h; cases h
  | some d =>
    rw [hd] at h
    simp only [isAgg, Sem.run_bind, run_underlying hd, Result.andThen_ok]
    cases d <;> simp_all
theorem run_sizeOf {t : TypeId} {n : Nat} (h : sizeT P t = some n) (w : World) : (sizeOf t).run P w = .ok n w := by
  unfold sizeT at h
  obtain ⟨i, hi, rfl⟩ := Option.map_eq_some_iff.1 h
  simp [sizeOf, typeInfo, hi]
theorem run_zeroValue {t : TypeId} {z : V} (h : zeroT P t = some z) (w : World) : ∃ x, (zeroValue t).run P w = .ok x w ∧ z = ofValue x ∧ (P.info? t).bind (·.zero) = some x := by
  unfold zeroT at h
  obtain ⟨x, hx, rfl⟩ := Option.map_eq_some_iff.1 h
  obtain ⟨i, hi, hz⟩ := Option.bind_eq_some_iff.1 hx
  exact ⟨x, by simp [zeroValue, typeInfo, hi, hz], rfl, hx⟩
end
end Go.Rx

namespace Go.Rx
section
variable {P : Program} {ρ : Rho}

theorem part_run {t : TypeId} {cs : List V} {xs : Array Value} {off : Nat} {v : V} (h : partO P t cs off = some v) (r : VsRel ρ cs xs.toList) (w : World) :
    ∃ x, (part t xs off).run P w = .ok x w ∧ VRel ρ v x := by
  unfold partO at h
  split at h
  · rename_i hA
    obtain ⟨n, hn, rfl⟩ := Option.map_eq_some_iff.1 h
    refine ⟨.agg (xs.extract off (off + n)), ?_, ?_⟩
    · simp only [part, Sem.run_bind, run_isAgg hA, Result.andThen_ok, if_true, run_sizeOf hn, Sem.run_pure]
    · simp only [VRel]
      refine ⟨_, rfl, ?_⟩
      have := (r.drop off).take n
      rw [Array.toList_extract, List.extract_eq_take_drop]
      simpa using this
  · rename_i hA
    obtain ⟨x, hx, rx⟩ := r.get _ _ h
    refine ⟨x, ?_, rx⟩
    have : xs[off]? = some x := by simpa using hx
    simp [part, run_isAgg hA, this]
  · cases h

/-! ### '==' -/
theorem eqFields_run {d : Nat} {rec : TypeId → V → V → Option Bool} (hrec : ∀ t x y X Y b w, rec t x y = some b → VRel ρ x X → VRel ρ y Y → (Op.equalIn d t X Y).run P w = .ok b w)
    {xs ys : List V} {XS YS : Array Value} (hx : VsRel ρ xs XS.toList) (hy : VsRel ρ ys YS.toList) (w : World) : ∀ (fs : List Field) (b : Bool), eqFieldsV P rec xs ys fs = some b → (Op.eqFields d XS YS fs).run P w = .ok b w
  | [], b, h => by simp [eqFieldsV] at h; subst h; simp [Op.eqFields]
  | f :: fs, b, h => by
    unfold eqFieldsV at h
    unfold Op.eqFields
    by_cases hn : f.name = "_"
    · rw [if_pos hn] at h
      rw [if_neg (by simpa using hn)]
      exact eqFields_run hrec hx hy w fs b h
    · rw [if_neg hn] at h
      rw [if_pos hn]
      split at h
      · rename_i a c ha hc
        obtain ⟨A, hA, rA⟩ := part_run ha hx w
        obtain ⟨C, hC, rC⟩ := part_run hc hy w
        split at h
        · rename_i p q hp hq
          simp at h; subst h
          simp only [Sem.run_bind, hA, hC, Result.andThen_ok, hrec _ _ _ _ _ _ w hp rA rC]
          cases p
          · simp
          · simp [eqFields_run hrec hx hy w fs q hq]
        · cases h
      · cases h

theorem eqElems_run {d : Nat} {e : TypeId} {n : Nat} {rec : V → V → Option Bool} (hrec : ∀ x y X Y b w, rec x y = some b → VRel ρ x X → VRel ρ y Y → (Op.equalIn d e X Y).run P w = .ok b w)
    {xs ys : List V} {XS YS : Array Value} (hx : VsRel ρ xs XS.toList) (hy : VsRel ρ ys YS.toList) (w : World) (t : TypeId) (len : Nat) (b : Bool)
    (ht : P.underlying t = some (.array len e)) (hn : sizeT P e = some n) (h : eqElemsV P rec e n xs ys (List.range len) = some b) :
    (Op.equalIn (d + 1) t (.agg XS) (.agg YS)).run P w = .ok b w := by
  simp only [Op.equalIn, Sem.run_bind, run_underlying ht, Result.andThen_ok, run_sizeOf hn]
  rw [Std.Legacy.Range.forIn_eq_forIn_range']
  have hr : List.range' ([:len] : Std.Legacy.Range).start ([:len] : Std.Legacy.Range).size ([:len] : Std.Legacy.Range).step = List.range len := by
    simp [List.range_eq_range', Std.Legacy.Range.size]
  rw [hr]
  revert h
  generalize List.range len = is
  clear hr
  intro h
  induction is generalizing b with
  | nil => simp [eqElemsV] at h; subst h; simp
  | cons i is ih =>
    unfold eqElemsV at h
    split at h
    · rename_i a c ha hc
      obtain ⟨A, hA, rA⟩ := part_run ha hx w
      obtain ⟨C, hC, rC⟩ := part_run hc hy w
      split at h
      · rename_i p q hp hq
        simp at h; subst h
        simp only [List.forIn_cons, Sem.run_bind, hA, hC, Result.andThen_ok, hrec _ _ _ _ _ w hp rA rC]
        cases p
        · simp
        · simpa using ih q hq
      · cases h
    · cases h

theorem eqT_run : ∀ (f d : Nat) (t : TypeId) (x y : V) (X Y : Value) (b : Bool) (w : World), f ≤ d → eqT P f t x y = some b → VRel ρ x X → VRel ρ y Y → (Op.equalIn d t X Y).run P w = .ok b w
  | 0, _, _, _, _, _, _, _, _, _, h, _, _ => by simp [eqT] at h
  | f + 1, 0, _, _, _, _, _, _, _, hd, _, _, _ => by omega
  | f + 1, d + 1, t, x, y, X, Y, b, w, hd, h, hx, hy => by
    unfold eqT at h
    split at h
    · rename_i k0 k a k' c hu
      simp only [VRel] at hx hy; subst hx hy
      split at h
      · rename_i hk; subst hk; simp at h; subst h; exact run_equalIn_int w d t _ _ a c hu
      · cases h
    · rename_i x' y' hu
      split at h
      · rename_i a c ha hc
        simp at h; subst h
        have := hx.asBool ha; subst this
        have := hy.asBool hc; subst this
        exact run_equalIn_bool w d t a c hu
      · cases h
    · rename_i a c hu
      simp only [VRel] at hx hy; subst hx hy
      simp at h; subst h
      exact run_equalIn_string w d t a c hu
    · rename_i fs xs ys hu
      simp only [VRel] at hx hy
      obtain ⟨XS, rfl, rx⟩ := hx
      obtain ⟨YS, rfl, ry⟩ := hy
      split at h
      · cases h
      · rename_i hs
        have hf : P.fieldsOf t = fs := by simp [Program.fieldsOf, hu]
        rw [run_equalIn_struct (P := P) w d t XS YS (by rw [hf]; exact hu) (by simpa using hs), hf]
        exact eqFields_run (fun t x y X Y b w hh hx hy => eqT_run f d t x y X Y b w (by omega) hh hx hy) rx ry w _ _ h
    · rename_i len e xs ys hu
      simp only [VRel] at hx hy
      obtain ⟨XS, rfl, rx⟩ := hx
      obtain ⟨YS, rfl, ry⟩ := hy
      split at h
      · cases h
      · rename_i n hn
        exact eqElems_run (fun x y X Y b w hh hx hy => eqT_run f d e x y X Y b w (by omega) hh hx hy) rx ry w t len b hu hn h
    · cases h

/-! ### Binary operations -/
theorem intOp_run {op : BinOp} {k : IntKind} {x y : Int} {v : V} (h : (intOp op k x y).den = some v) (hs : op ≠ .shl ∧ op ≠ .shr) (t : TypeId) (w : World) :
    ∃ u, (binOp op t (.int k x) (.int k y)).run P w = .ok u w ∧ VRel ρ v u := by
  cases op <;> simp only [intOp, den_leaf, den_need, den_fail] at h <;> first
    | (subst h; exact ⟨_, by simp [binOp, Op.intArith, Op.intBits, Op.intCmp]; rfl, by simp [VRel, bAnd, bOr, bXor, bAndNot]⟩)
    | (obtain ⟨hy, rfl⟩ := h; have hy' : y ≠ 0 := by simpa using hy
       exact ⟨_, by simp [binOp, Op.intDiv, hy']; rfl, by simp [VRel]⟩)
    | exact absurd rfl hs.1
    | exact absurd rfl hs.2
    | skip

theorem shiftOp_run {op : BinOp} {k k' : IntKind} {x y : Int} {v : V} (h : (shiftOp op k x y).den = some v) (t : TypeId) (w : World) :
    ∃ u, (binOp op t (.int k x) (.int k' y)).run P w = .ok u w ∧ VRel ρ v u := by
  cases op <;> simp only [shiftOp, den_leaf, den_need, den_fail] at h
  all_goals
    obtain ⟨hy, rfl⟩ := h
    have hy' : ¬ y < 0 := by simpa using hy
    exact ⟨_, by simp [binOp, Op.shift, hy']; rfl, by simp [VRel]⟩

theorem strOp_run {op : BinOp} {x y : ByteArray} {v : V} (h : (strOp op x y).den = some v) (t : TypeId) (w : World) :
    ∃ u, (binOp op t (.string x) (.string y)).run P w = .ok u w ∧ VRel ρ v u := by
  cases op <;> simp only [strOp, den_leaf, den_need, den_fail] at h <;> first
    | (subst h; exact ⟨_, by simp [binOp, Op.stringOp]; rfl, by simp [VRel, sEq, sLt]⟩)
    | (obtain ⟨hy, rfl⟩ := h
       have hy' : ¬ (((x.size + y.size : Nat) : Int) > IntKind.i64.max) := by
         simp only [decide_eq_true_eq] at hy
         have : IntKind.i64.max = 9223372036854775807 := by decide
         omega
       exact ⟨_, by simp only [binOp, Op.stringOp, if_neg hy']; rfl, by simp [VRel]⟩)

theorem binOp_bool (op : BinOp) (t : TypeId) (a b : Bool) (h : P.underlying t = some .bool) (w : World) : (op = .eql → (binOp op t (.bool a) (.bool b)).run P w = .ok (.bool (a == b)) w) ∧ (op = .neq → (binOp op t (.bool a) (.bool b)).run P w = .ok (.bool (!(a == b))) w) := by
  constructor <;> rintro rfl <;> simp [binOp, Op.equal, Op.maxDepth, run_equalIn_bool w 9999 t a b h]

theorem eqGuard_plain {op : BinOp} {t : TypeId} {ox oy : Operand} {X Y : Value} (h1 : ¬ (X = .nilIface ∧ Y = .nilIface)) (h2 : ¬ (∃ a b, X = .agg a ∧ Y = .agg b)) (w : World) : (eqGuard op t ox oy X Y).run P w = .ok () w := by
  cases op <;> simp [eqGuard] <;> (split <;> first | rfl | (exfalso; simp_all; done) | skip)
  all_goals simp_all

theorem nilSide_run {t : TypeId} {x y : V} {X Y : Value} {b : Bool} (h : nilSide P t x y = some b) (hx : VRel ρ x X) (hy : VRel ρ y Y) (d : Nat) (w : World) : (Op.equalIn (d + 1) t X Y).run P w = .ok b w := by
  unfold nilSide at h
  split at h <;> (try cases h) <;> simp only [VRel] at hx hy
  · rename_i hu; subst hx hy; simp [Op.equalIn, run_underlying hu]
  · rename_i hu; subst hx hy; simp [Op.equalIn, run_underlying hu]
  · rename_i hu; obtain ⟨s, _, rfl⟩ := hy; subst hx; simp [Op.equalIn, run_underlying hu]
  · rename_i hu; obtain ⟨s, _, rfl⟩ := hx; subst hy; simp [Op.equalIn, run_underlying hu]
  · rename_i hu; subst hx hy; simp [Op.equalIn, run_underlying hu]
  · rename_i hu; obtain ⟨as, cs, rfl, _⟩ := hy; subst hx; simp [Op.equalIn, run_underlying hu]
  · rename_i hu; obtain ⟨as, cs, rfl, _⟩ := hx; subst hy; simp [Op.equalIn, run_underlying hu]

theorem nilSide_form {t : TypeId} {x y : V} {X Y : Value} {b : Bool} (h : nilSide P t x y = some b) (hx : VRel ρ x X) (hy : VRel ρ y Y) (op : BinOp) (ox oy : Operand) (w : World) :
    (op = .eql → (do eqGuard op t ox oy X Y; binOp op t X Y : Sem Value).run P w = .ok (.bool b) w) ∧ (op = .neq → (do eqGuard op t ox oy X Y; binOp op t X Y : Sem Value).run P w = .ok (.bool (!b)) w) := by
  have he := nilSide_run h hx hy 9999 w
  unfold nilSide at h
  split at h <;> (try cases h) <;> simp only [VRel] at hx hy
  all_goals first
    | (obtain ⟨s, _, rfl⟩ := hy; subst hx)
    | (obtain ⟨s, _, rfl⟩ := hx; subst hy)
    | (obtain ⟨as, cs, rfl, _⟩ := hy; subst hx)
    | (obtain ⟨as, cs, rfl, _⟩ := hx; subst hy)
    | subst hx hy
  all_goals
    constructor <;> rintro rfl
    all_goals
      rw [Sem.run_bind, eqGuard_plain (by simp) (by simp), Result.andThen_ok]
      simp [binOp, Op.equal, Op.maxDepth, he]

theorem nilSl_eq {t : TypeId} {e : TypeId} (hu : P.underlying t = some (.slice e)) {a : Option Addr} (ha : a.isSome = true) (l c : Nat) (d : Nat) (w : World) : (Op.equalIn (d + 1) t (.slice a l c) (.slice none 0 0)).run P w = .ok false w := by
  cases a with
  | none => simp at ha
  | some p => simp [Op.equalIn, run_underlying hu]
theorem nilSl_run {op : BinOp} {t : TypeId} {x y : V} {X Y : Value} {v : V} (h : (nilSl P op t x y).den = some v) (hx : VRel ρ x X) (hy : VRel ρ y Y) (ox oy : Operand) (w : World) :
    ∃ u, (do eqGuard op t ox oy X Y; binOp op t X Y : Sem Value).run P w = .ok u w ∧ VRel ρ v u := by
  unfold nilSl at h
  split at h
  · rename_i e _ _ _ _ len _ hu
    rw [den_need, den_leaf] at h
    obtain ⟨hl, rfl⟩ := h
    simp only [decide_eq_true_eq] at hl
    simp only [VRel] at hx hy
    obtain ⟨s, a, c, _, rfl, h1, _, h2⟩ := hx
    subst hy
    obtain ⟨ha, _⟩ := h2 (by omega)
    have he := nilSl_eq (P := P) hu (a := a) (by rw [ha]; rfl) len c 9999 w
    refine ⟨.bool false, ?_, by simp [VRel]⟩
    rw [Sem.run_bind, eqGuard_plain (by simp) (by simp), Result.andThen_ok]
    simp [binOp, Op.equal, Op.maxDepth, he]
  · rename_i e _ _ _ _ len _ hu
    rw [den_need, den_leaf] at h
    obtain ⟨hl, rfl⟩ := h
    simp only [decide_eq_true_eq] at hl
    simp only [VRel] at hx hy
    obtain ⟨s, a, c, _, rfl, h1, _, h2⟩ := hx
    subst hy
    obtain ⟨ha, _⟩ := h2 (by omega)
    have he := nilSl_eq (P := P) hu (a := a) (by rw [ha]; rfl) len c 9999 w
    refine ⟨.bool true, ?_, by simp [VRel]⟩
    rw [Sem.run_bind, eqGuard_plain (by simp) (by simp), Result.andThen_ok]
    simp [binOp, Op.equal, Op.maxDepth, he]
  · simp [den_fail] at h

theorem binV_run {op : BinOp} {t : TypeId} {x y : V} {X Y : Value} {v : V} (h : (binV P op t x y).den = some v) (hx : VRel ρ x X) (hy : VRel ρ y Y) (ox oy : Operand) (w : World) :
    ∃ u, (do eqGuard op t ox oy X Y; binOp op t X Y : Sem Value).run P w = .ok u w ∧ VRel ρ v u := by
  unfold binV at h
  split at h
  · simp only [VRel] at hx hy; subst hx hy
    rename_i k a k' b
    have hg := eqGuard_plain (P := P) (op := op) (t := t) (ox := ox) (oy := oy) (X := .int k a) (Y := .int k' b) (by simp) (by simp) w
    simp only [Sem.run_bind, hg, Result.andThen_ok]
    split at h
    · exact shiftOp_run h t w
    · exact shiftOp_run h t w
    · rename_i h1 h2
      rw [den_lit] at h
      obtain ⟨hk, h⟩ := h
      have hk : k = k' := by simpa using hk
      subst hk
      exact intOp_run h ⟨h1, h2⟩ t w
  · simp only [VRel] at hx hy; subst hx hy
    rename_i a b
    have hg := eqGuard_plain (P := P) (op := op) (t := t) (ox := ox) (oy := oy) (X := .string a) (Y := .string b) (by simp) (by simp) w
    simp only [Sem.run_bind, hg, Result.andThen_ok]
    exact strOp_run h t w
  · rename_i xs ys
    have hxx := hx; have hyy := hy
    simp only [VRel] at hxx hyy
    obtain ⟨XS, rfl, rx⟩ := hxx
    obtain ⟨YS, rfl, ry⟩ := hyy
    split at h
    · rename_i b hb hg
      simp only [den_leaf] at h; subst h
      have he := eqT_run (P := P) (ρ := ρ) 50 10000 t _ _ _ _ b w (by omega) hb hx hy
      refine ⟨.bool b, ?_, by simp [VRel]⟩
      simp only [Sem.run_bind, run_eqGuard_agg w _ t ox oy XS YS hg, Result.andThen_ok, run_eql_struct, he]
    · rename_i b hb hg
      simp only [den_leaf] at h; subst h
      have he := eqT_run (P := P) (ρ := ρ) 50 10000 t _ _ _ _ b w (by omega) hb hx hy
      refine ⟨.bool (!b), ?_, by simp [VRel]⟩
      simp only [Sem.run_bind, run_eqGuard_agg w _ t ox oy XS YS hg, Result.andThen_ok, run_neq_struct, he]
    · simp [den_fail] at h
  · split at h
    · rename_i a b ha hb hu
      simp only [den_leaf] at h; subst h
      have := hx.asBool ha; subst this
      have := hy.asBool hb; subst this
      refine ⟨_, ?_, vrel_bool ρ _⟩
      rw [Sem.run_bind, eqGuard_plain (by simp) (by simp), Result.andThen_ok]
      exact (binOp_bool .eql t a b hu w).1 rfl
    · rename_i a b ha hb hu
      simp only [den_leaf] at h; subst h
      have := hx.asBool ha; subst this
      have := hy.asBool hb; subst this
      refine ⟨_, ?_, vrel_bool ρ _⟩
      rw [Sem.run_bind, eqGuard_plain (by simp) (by simp), Result.andThen_ok]
      exact (binOp_bool .neq t a b hu w).2 rfl
    · split at h
      · rename_i b hb
        simp only [den_leaf] at h; subst h
        exact ⟨_, (nilSide_form hb hx hy _ ox oy w).1 rfl, by cases b <;> simp [V.lit, VRel]⟩
      · rename_i b hb
        simp only [den_leaf] at h; subst h
        exact ⟨_, (nilSide_form hb hx hy _ ox oy w).2 rfl, by cases b <;> simp [V.lit, VRel]⟩
      · exact nilSl_run h hx hy ox oy w
      · simp [den_fail] at h
    · simp [den_fail] at h

theorem ifcNil_run {op : BinOp} {t : TypeId} {ox oy : Operand} {x y : V} {X Y : Value} {v : V} (h : ifcNil P op t (isC ox || isC oy) x y = some v) (hx : VRel ρ x X) (hy : VRel ρ y Y) (w : World) :
    ∃ u, (do eqGuard op t ox oy X Y; binOp op t X Y : Sem Value).run P w = .ok u w ∧ VRel ρ v u := by
  unfold ifcNil at h
  split at h
  · simp only [VRel] at hx hy; subst hx hy
    have hc : (isC ox || isC oy) = true → (eqGuard op t ox oy .nilIface .nilIface).run P w = .ok () w := by
      intro hc
      cases ox <;> cases oy <;> simp [isC] at hc <;> cases op <;> simp [eqGuard]
    split at h
    · rename_i hcc hu
      have hg := hc hcc
      have he : ∀ d, (Op.equalIn (d + 1) t .nilIface .nilIface).run P w = .ok true w := fun d => by simp [Op.equalIn, run_underlying hu]
      have he := he 9999
      simp only [Option.some.injEq] at h; subst h
      refine ⟨.bool true, ?_, by simp [VRel]⟩
      rw [Sem.run_bind, hg, Result.andThen_ok]
      simp [binOp, Op.equal, Op.maxDepth, he]
    · rename_i hcc hu
      have hg := hc hcc
      have he : ∀ d, (Op.equalIn (d + 1) t .nilIface .nilIface).run P w = .ok true w := fun d => by simp [Op.equalIn, run_underlying hu]
      have he := he 9999
      simp only [Option.some.injEq] at h; subst h
      refine ⟨.bool false, ?_, by simp [VRel]⟩
      rw [Sem.run_bind, hg, Result.andThen_ok]
      simp [binOp, Op.equal, Op.maxDepth, he]
    · cases h
  · rename_i s z
    simp only [VRel] at hx hy; subst hy
    obtain ⟨y, rfl, _⟩ := hx
    have hg := eqGuard_plain (P := P) (op := op) (t := t) (ox := ox) (oy := oy) (X := .iface s y) (Y := .nilIface) (by simp) (by simp) w
    split at h
    · rename_i hu
      have he : ∀ d, (Op.equalIn (d + 1) t (.iface s y) .nilIface).run P w = .ok false w := fun d => by simp [Op.equalIn, run_underlying hu]
      have he := he 9999
      simp only [Option.some.injEq] at h; subst h
      refine ⟨.bool false, ?_, by simp [VRel]⟩
      rw [Sem.run_bind, hg, Result.andThen_ok]
      simp [binOp, Op.equal, Op.maxDepth, he]
    · rename_i hu
      have he : ∀ d, (Op.equalIn (d + 1) t (.iface s y) .nilIface).run P w = .ok false w := fun d => by simp [Op.equalIn, run_underlying hu]
      have he := he 9999
      simp only [Option.some.injEq] at h; subst h
      refine ⟨.bool true, ?_, by simp [VRel]⟩
      rw [Sem.run_bind, hg, Result.andThen_ok]
      simp [binOp, Op.equal, Op.maxDepth, he]
    · cases h
  · cases h

theorem unV_run {op : UnOp} {x : V} {X : Value} {v : V} (h : (unV op x).den = some v) (hx : VRel ρ x X) (w : World) : ∃ u, (Op.unary op X).run P w = .ok u w ∧ VRel ρ v u := by
  unfold unV at h
  split at h
  all_goals first | (simp only [den_leaf] at h; subst h; simp only [VRel] at hx; subst hx) | (simp [den_fail] at h; done)
  · exact ⟨_, by simp only [Op.unary, Op.intArith, Sem.run_pure]; rfl, by simp [VRel]⟩
  · exact ⟨_, by simp only [Op.unary, Op.intBits, Sem.run_pure]; rfl, by simp only [VRel, bXor]⟩
  · exact ⟨_, by simp only [Op.unary, Sem.run_pure]; rfl, by simp [VRel]⟩
  · exact ⟨_, by simp only [Op.unary, Sem.run_pure]; rfl, by simp [VRel]⟩
  · exact ⟨_, by simp only [Op.unary, Sem.run_pure]; rfl, by simp [VRel]⟩

theorem fieldV_run {t : TypeId} {x : V} {X : Value} {f : Nat} {v : V} (h : (fieldV P t x f).den = some v) (hx : VRel ρ x X) (w : World) : ∃ u, (Instr.field t X f).run P w = .ok u w ∧ VRel ρ v u := by
  unfold fieldV at h
  split at h
  · rename_i fs cs hu
    simp only [VRel] at hx
    obtain ⟨xs, rfl, r⟩ := hx
    split at h
    · rename_i fd hf
      rw [den_optT] at h
      obtain ⟨u, hr, ru⟩ := part_run h r w
      exact ⟨u, by simp [Instr.field, run_underlying hu, hf, asAgg, hr], ru⟩
    · simp [den_fail] at h
  · simp [den_fail] at h

theorem fieldAddrV_run {t : TypeId} {x : V} {X : Value} {f : Nat} {v : V} (h : (fieldAddrV P t x f).den = some v) (hx : VRel ρ x X) (w : World) : ∃ u, (Instr.fieldAt t X f).run P w = .ok u w ∧ VRel ρ v u := by
  unfold fieldAddrV at h
  split at h
  · rename_i fs b i sz o hu
    simp only [VRel] at hx
    obtain ⟨s, hs, rfl⟩ := hx
    split at h
    · rename_i fd hf
      split at h
      · rename_i m hm
        simp only [den_leaf] at h; subst h
        refine ⟨.pointer (some ⟨s.r, s.base + (i * sz + (o + fd.offset)), none⟩), ?_, by simp only [VRel]; exact ⟨s, hs, rfl⟩⟩
        have ha : (⟨s.r, s.base + (i * sz + o), none⟩ : Addr).add fd.offset = ⟨s.r, s.base + (i * sz + (o + fd.offset)), none⟩ := by
          unfold Addr.add; split <;> simp_all <;> omega
        simp [Instr.fieldAt, run_underlying hu, hf, Instr.sureAddr, fieldPlace, run_sizeOf hm, ha]
      · simp [den_fail] at h
    · simp [den_fail] at h
  · simp [den_fail] at h

theorem add_plain' (r o n : Nat) : (⟨r, o, none⟩ : Addr).add n = ⟨r, o + n, none⟩ := by unfold Addr.add; split <;> simp_all

theorem indexAddrV_run {t : TypeId} {x ix : V} {X I : Value} {v : V} (h : (indexAddrV P t x ix).den = some v) (hx : VRel ρ x X) (hi : VRel ρ ix I) (w : World) : ∃ u, (Instr.indexAt t X I).run P w = .ok u w ∧ VRel ρ v u := by
  unfold indexAddrV at h
  split at h
  · rename_i len e b i sz o k n hu
    simp only [VRel] at hx hi; subst hi
    obtain ⟨s, hs, rfl⟩ := hx
    split at h
    · rename_i es he
      rw [den_lit, den_need, den_leaf] at h
      obtain ⟨h1, h2, rfl⟩ := h
      have h1 : 2 ≤ len := by simpa using h1
      simp only [Bool.and_eq_true, decide_eq_true_eq] at h2
      refine ⟨.pointer (some ⟨s.r, s.base + (n.toNat * es + o), none⟩), ?_, by simp only [VRel]; exact ⟨s, hs, rfl⟩⟩
      have hn : ¬ len ≤ 1 := by omega
      simp [Instr.indexAt, asIntOf, run_underlying hu, Instr.sureAddr, hn, h2.1, h2.2, run_sizeOf he, add_plain']
      omega
    · simp [den_fail] at h
  · rename_i e b i o es len cap k n hu
    simp only [VRel] at hx hi; subst hi
    obtain ⟨s, a, c, hs, rfl, hc, hq, ha⟩ := hx
    split at h
    · rename_i es' he
      rw [den_lit, den_need, den_leaf] at h
      obtain ⟨h1, h2, rfl⟩ := h
      have h1 : es' = es := by simpa using h1
      subst h1
      simp only [Bool.and_eq_true, decide_eq_true_eq] at h2
      obtain ⟨rfl, _⟩ := ha (by omega)
      refine ⟨.pointer (some ⟨s.r, s.base + ((i + n.toNat) * es' + o), none⟩), ?_, by simp only [VRel]; exact ⟨s, hs, rfl⟩⟩
      simp [Instr.indexAt, asIntOf, run_underlying hu, h2.1, h2.2, run_sizeOf he, add_plain', Nat.add_mul]
      omega
    · simp [den_fail] at h
  · simp [den_fail] at h
end
end Go.Rx

namespace Go.Rx
section
variable {P : Program} {ρ : Rho}

theorem strided_get (sz : Nat) (hs : 0 < sz) : ∀ (cs : List V) (o i : Nat), (strided sz o cs)[i]? = cs[o + i * sz]?
  | [], o, i => by cases o <;> simp [strided]
  | c :: cs, 0, 0 => by simp [strided]
  | c :: cs, 0, i + 1 => by
    simp only [strided, List.getElem?_cons_succ]
    rw [strided_get sz hs cs (sz - 1) i]
    rw [show 0 + (i + 1) * sz = (sz - 1 + i * sz) + 1 by rw [Nat.add_mul]; omega, List.getElem?_cons_succ]
  | c :: cs, o + 1, i => by
    simp only [strided]
    rw [strided_get sz hs cs o i, show o + 1 + i * sz = (o + i * sz) + 1 by omega, List.getElem?_cons_succ]

theorem allInts_get {k : IntKind} : ∀ {cs : List V} {ns : List Int}, allInts k cs = some ns → cs = ns.map (V.int k)
  | [], ns, h => by simp [allInts] at h; subst h; rfl
  | .int k' n :: cs, ns, h => by
    unfold allInts at h
    split at h
    · rename_i hk; subst hk
      obtain ⟨ms, hm, rfl⟩ := Option.map_eq_some_iff.1 h
      simp [allInts_get hm]
    · cases h
  | .any :: _, _, h | .tru :: _, _, h | .fls :: _, _, h | .bool _ :: _, _, h | .str _ :: _, _, h | .nilp :: _, _, h | .ptr .. :: _, _, h | .nils :: _, _, h | .sl .. :: _, _, h
  | .nilf :: _, _, h | .fn .. :: _, _, h | .nili :: _, _, h | .ifc .. :: _, _, h | .agg _ :: _, _, h | .tup _ :: _, _, h => by simp [allInts] at h

theorem allBools_get : ∀ {cs : List V} {bs : List Bool}, allBools cs = some bs → cs.length = bs.length ∧ ∀ (i : Nat) (v : V), cs[i]? = some v → ∃ b, bs[i]? = some b ∧ v.asBool = some b
  | [], bs, h => by simp [allBools] at h; subst h; simp
  | v :: cs, bs, h => by
    unfold allBools at h
    split at h
    · rename_i b hb
      obtain ⟨ms, hm, rfl⟩ := Option.map_eq_some_iff.1 h
      obtain ⟨h1, h2⟩ := allBools_get hm
      refine ⟨by simp [h1], fun i u hu => ?_⟩
      cases i with
      | zero => simp at hu; subst hu; exact ⟨b, by simp, hb⟩
      | succ i => simpa using h2 i u (by simpa using hu)
    · cases h

theorem mux_rel {cs : List V} {i : Nat} {u : V} {x : Value} (h : cs[i]? = some u) (r : VRel ρ u x) : VRel ρ (mux cs i) x := by
  have hd : cs.getD i .any = u := by simp [List.getD_eq_getElem?_getD, h]
  unfold mux
  split
  · rename_i k n rest
    split
    · rename_i ns hns
      have := allInts_get hns
      rw [this] at h
      simp only [List.getElem?_map] at h
      obtain ⟨m, hm, rfl⟩ := Option.map_eq_some_iff.1 h
      simpa [List.getD_eq_getElem?_getD, hm] using r
    · rw [hd]; exact r
  · split
    · split
      · rename_i bs hbs
        obtain ⟨b, hb, hv⟩ := (allBools_get hbs).2 i u h
        have := r.asBool hv
        subst this
        simp [List.getD_eq_getElem?_getD, hb, VRel]
      · rw [hd]; exact r
    · rw [hd]; exact r
  · simp [VRel]

theorem flatMap_get {α β : Type} (f : α → List β) (m : Nat) (hf : ∀ a, (f a).length = m) : ∀ (rs : List α) (i q : Nat) (a : α), rs[i]? = some a → q < m → (rs.flatMap f)[i * m + q]? = (f a)[q]?
  | [], i, q, a, h, _ => by simp at h
  | r :: rs, 0, q, a, h, hq => by
    simp at h; subst h
    simp only [List.flatMap_cons, Nat.zero_mul, Nat.zero_add]
    rw [List.getElem?_append_left (by rw [hf]; exact hq)]
  | r :: rs, i + 1, q, a, h, hq => by
    simp only [List.flatMap_cons]
    rw [List.getElem?_append_right (by rw [hf, Nat.add_mul]; omega), hf, show (i + 1) * m + q - m = i * m + q by rw [Nat.add_mul]; omega]
    exact flatMap_get f m hf rs i q a (by simpa using h) hq

theorem length_flatMap_const {α β : Type} (f : α → List β) (m : Nat) (hf : ∀ a, (f a).length = m) : ∀ (rs : List α), (rs.flatMap f).length = rs.length * m
  | [] => by simp
  | r :: rs => by simp only [List.flatMap_cons, List.length_append, hf, length_flatMap_const f m hf rs, List.length_cons, Nat.add_mul]; omega

theorem rowOf_length (sch : List K) (r : List V) : (rowOf sch r).length = sch.length := by simp [rowOf]
theorem flat_rows (sch : List K) (rs : List (List V)) : flat (.rows sch rs) = rs.flatMap (rowOf sch) := rfl

/-- A piece of a block, cell by cell. -/
theorem piece {bl : Blk} {s : Seg} {w : World} (hb : BRel ρ s bl w) {p : Nat} {cs : List V}
    (h : ∀ (j : Nat) (v : V), cs[j]? = some v → ∃ u, (flat bl)[p + j]? = some u ∧ ∀ x, VRel ρ u x → VRel ρ v x) :
    ∃ xs : List Value, xs.length = cs.length ∧ VsRel ρ cs xs ∧ ∀ (j : Nat) (x : Value), xs[j]? = some x → w.cell? ⟨s.r, s.base + p + j, none⟩ = some x := by
  refine ⟨(List.range cs.length).map fun j => (w.cell? ⟨s.r, s.base + p + j, none⟩).getD undef, by simp, ?_, ?_⟩
  · refine VsRel.of_get (by simp) fun j v x hv hx => ?_
    obtain ⟨u, hu, k⟩ := h j v hv
    obtain ⟨y, hy, ry⟩ := hb.cell hu
    have hj : j < cs.length := (List.getElem?_eq_some_iff.1 hv).1
    simp only [List.getElem?_map, List.getElem?_range hj, Option.map_some, Option.some.injEq] at hx
    rw [← Nat.add_assoc] at hy
    rw [hy] at hx
    simp at hx; subst hx
    exact k _ ry
  · intro j x hx
    have hj : j < cs.length := by have := (List.getElem?_eq_some_iff.1 hx).1; simpa using this
    obtain ⟨u, hu, k⟩ := h j cs[j] (by simp [hj])
    obtain ⟨y, hy, ry⟩ := hb.cell hu
    simp only [List.getElem?_map, List.getElem?_range hj, Option.map_some, Option.some.injEq] at hx
    rw [← Nat.add_assoc] at hy
    rw [hy] at hx ⊢
    simpa using hx

theorem loadCs_run {bl : Blk} {i sz o n : Nat} {cs : List V} {s : Seg} {w : World} (h : (loadCs bl i sz o n).den = some cs) (hb : BRel ρ s bl w) :
    cs.length = n ∧ ∃ xs : List Value, xs.length = n ∧ VsRel ρ cs xs ∧ ∀ (j : Nat) (x : Value), xs[j]? = some x → w.cell? ⟨s.r, s.base + (i * sz + o) + j, none⟩ = some x := by
  have key : cs.length = n ∧ ∀ (j : Nat) (v : V), cs[j]? = some v → ∃ u, (flat bl)[(i * sz + o) + j]? = some u ∧ ∀ x, VRel ρ u x → VRel ρ v x := by
    unfold loadCs at h
    split at h
    · rename_i cells
      split at h
      · simp only [den_lit, den_leaf, Nat.ble_eq] at h
        obtain ⟨h1, rfl⟩ := h
        refine ⟨by simp; omega, fun j v hv => ⟨v, ?_, fun _ h => h⟩⟩
        rw [List.getElem?_take] at hv
        split at hv
        · simpa [flat] using hv
        · cases hv
      · rename_i sz
        simp only [den_lit, den_need, den_leaf, decide_eq_true_eq] at h
        obtain ⟨_, h1, rfl⟩ := h
        refine ⟨by simp, fun j v hv => ?_⟩
        have hj : j < n := by have := (List.getElem?_eq_some_iff.1 hv).1; simpa using this
        simp only [List.getElem?_map, List.getElem?_range hj, Option.map_some, Option.some.injEq] at hv
        subst hv
        have hlt : i * (sz + 1) + o + j < cells.length := by omega
        refine ⟨cells[i * (sz + 1) + o + j], by simp [flat, hlt], fun x rx => mux_rel ?_ rx⟩
        rw [strided_get (sz + 1) (by omega), show o + j + i * (sz + 1) = i * (sz + 1) + o + j by omega]
        simp [hlt]
    · rename_i k xs
      split at h
      · simp only [den_need, den_leaf, decide_eq_true_eq] at h
        obtain ⟨h1, rfl⟩ := h
        refine ⟨by simp, fun j v hv => ?_⟩
        have hj : j < n := by have := (List.getElem?_eq_some_iff.1 hv).1; simpa using this
        simp only [List.getElem?_map, List.getElem?_range hj, Option.map_some, Option.some.injEq] at hv
        subst hv
        have hlt : i + j < xs.length := by omega
        refine ⟨.int k xs[i + j], by simp [flat, hlt], fun x rx => by simpa [List.getD_eq_getElem?_getD, hlt] using rx⟩
      · simp only [den_need, den_leaf, decide_eq_true_eq] at h
        obtain ⟨h1, rfl⟩ := h
        refine ⟨by simp, fun j v hv => ?_⟩
        have hj : j < n := by have := (List.getElem?_eq_some_iff.1 hv).1; simpa using this
        simp only [List.getElem?_map, List.getElem?_range hj, Option.map_some, Option.some.injEq] at hv
        subst hv
        have hlt : o + j < xs.length := by omega
        refine ⟨.int k xs[o + j], by simp [flat, hlt], fun x rx => by simpa [List.getD_eq_getElem?_getD, hlt] using rx⟩
      · simp [den_fail] at h
    · rename_i sch rs
      simp only [den_lit, den_need, den_leaf, decide_eq_true_eq, Bool.and_eq_true, Nat.beq_eq, Nat.ble_eq] at h
      obtain ⟨⟨rfl, h1⟩, h2, rfl⟩ := h
      have hl : (((sch.zipIdx).drop o).take n |>.map fun (k, j) => proj k ((rs.getD i []).getD j .any)) = ((rowOf sch (rs.getD i [])).drop o).take n := by
        simp [rowOf, List.map_take, List.map_drop]
      rw [hl]
      refine ⟨by simp [rowOf_length]; omega, fun j v hv => ⟨v, ?_, fun _ h => h⟩⟩
      rw [List.getElem?_take] at hv
      split at hv
      · rename_i hj
        rw [List.getElem?_drop] at hv
        rw [flat_rows, Nat.add_assoc, flatMap_get (rowOf sch) sch.length (rowOf_length sch) rs i (o + j) rs[i] (by simp [h2]) (by omega)]
        simpa [List.getD_eq_getElem?_getD, h2] using hv
      · cases hv
    · rename_i sch rs
      simp only [den_lit, den_need, den_leaf, decide_eq_true_eq, Bool.and_eq_true, Nat.beq_eq, Nat.ble_eq] at h
      obtain ⟨⟨rfl, h1⟩, h2, rfl⟩ := h
      have hl : (((sch.zipIdx).drop o).take n |>.map fun (k, j) => proj k ((rs.getD i []).getD j .any)) = ((rowOf sch (rs.getD i [])).drop o).take n := by
        simp [rowOf, List.map_take, List.map_drop]
      rw [hl]
      refine ⟨by simp [rowOf_length]; omega, fun j v hv => ⟨v, ?_, fun _ h => h⟩⟩
      rw [List.getElem?_take] at hv
      split at hv
      · rename_i hj
        rw [List.getElem?_drop] at hv
        rw [show flat (.look sch rs) = flat (.rows sch rs) from rfl, flat_rows, Nat.add_assoc, flatMap_get (rowOf sch) sch.length (rowOf_length sch) rs i (o + j) rs[i] (by simp [h2]) (by omega)]
        simpa [List.getD_eq_getElem?_getD, h2] using hv
      · cases hv
    · simp [den_fail] at h
  obtain ⟨xs, h1, h2, h3⟩ := piece hb key.2
  exact ⟨key.1, xs, by rw [h1, key.1], h2, h3⟩

theorem loadV_run {H : Hp} {t : TypeId} {a : V} {A : Value} {e : Eff} {w : World} (h : (loadV P H t a).den = some e) (ha : VRel ρ a A)
    (hB : ∀ b ∈ e.rd, ∀ bl, H b = some bl → ∃ s, ρ b = some s ∧ BRel ρ s bl w) : ∃ x, (Instr.loadAt t A).run P w = .ok x w ∧ Post ρ e w x w ρ := by
  unfold loadV at h
  split at h
  · rename_i b i sz o
    simp only [VRel] at ha
    obtain ⟨s, hs, rfl⟩ := ha
    split at h
    · rename_i bl hbl
      split at h
      · rename_i n hA hn
        rw [den_bind_some] at h
        obtain ⟨cs, hcs, h⟩ := h
        simp only [den_leaf] at h; subst h
        obtain ⟨s', hs', hb⟩ := hB b (by simp) bl hbl
        rw [hs] at hs'; cases hs'
        obtain ⟨_, xs, hl, hr, hc⟩ := loadCs_run hcs hb
        refine ⟨.agg xs.toArray, ?_, Post.pure (by simp only [VRel]; exact ⟨_, rfl, by simpa using hr⟩)⟩
        have := run_loadCells_list (P := P) w ⟨s.r, s.base + (i * sz + o), none⟩ xs (fun j v hv => by rw [add_plain']; exact hc j v hv)
        rw [hl] at this
        simp only [Instr.loadAt, Instr.sureAddr, Sem.run_bind, Sem.run_pure, Result.andThen_ok, loadVar, run_isAgg hA, if_true, run_sizeOf hn, this]
      · rename_i hA
        rw [den_bind_some] at h
        obtain ⟨cs, hcs, h⟩ := h
        split at h
        · rename_i c
          simp only [den_leaf] at h; subst h
          obtain ⟨s', hs', hb⟩ := hB b (by simp) bl hbl
          rw [hs] at hs'; cases hs'
          obtain ⟨_, xs, hl, hr, hc⟩ := loadCs_run hcs hb
          simp only [VsRel] at hr
          obtain ⟨y, ys, rfl, ry, rfl⟩ := hr
          refine ⟨y, ?_, Post.pure ry⟩
          have hcell := hc 0 y (by simp)
          simp only [Nat.add_zero] at hcell
          simp [Instr.loadAt, Instr.sureAddr, loadVar, run_isAgg hA, hcell]
        · simp [den_fail] at h
      · simp [den_fail] at h
    · simp [den_fail] at h
  · simp [den_fail] at h

theorem indexV_run {t : TypeId} {x ix : V} {X I : Value} {v : V} (h : (indexV P t x ix).den = some v) (hx : VRel ρ x X) (hi : VRel ρ ix I) (w : World) : ∃ u, (Instr.index t X I).run P w = .ok u w ∧ VRel ρ v u := by
  unfold indexV at h
  split at h
  · rename_i s k n hu
    simp only [VRel] at hx hi; subst hx hi
    simp only [den_need, den_leaf, Bool.and_eq_true, decide_eq_true_eq] at h
    obtain ⟨⟨h1, h2⟩, rfl⟩ := h
    have hlt : n.toNat < s.size := by omega
    refine ⟨.int .u8 (s[n.toNat]'hlt).toNat, ?_, ?_⟩
    · simp [Instr.index, asIntOf, run_underlying hu, h1, hlt]
    · simp only [VRel, sAt]
      congr 2
      have hd : n.toNat < s.data.size := hlt
      have : s.data.toList.getD n.toNat 0 = s[n.toNat]'hlt := by
        rw [List.getD_eq_getElem?_getD, Array.getElem?_toList, Array.getElem?_eq_getElem hd]; rfl
      rw [this]
  · rename_i len e cs k n hu
    simp only [VRel] at hx hi; subst hi
    obtain ⟨xs, rfl, r⟩ := hx
    split at h
    · rename_i hA hz
      simp only [den_lit, den_need, den_leaf, Bool.and_eq_true, decide_eq_true_eq] at h
      obtain ⟨hl, ⟨h1, h2⟩, rfl⟩ := h
      have hl : cs.length = len := by simpa using hl
      have hlt : n.toNat < cs.length := by omega
      obtain ⟨x, hx, rx⟩ := r.get n.toNat cs[n.toNat] (by simp [hlt])
      refine ⟨x, ?_, mux_rel (by simp [hlt]) rx⟩
      have hx' : xs[n.toNat]? = some x := by simpa using hx
      simp [Instr.index, asIntOf, run_underlying hu, h1, h2, run_sizeOf hz, part, run_isAgg hA, hx']
    · simp [den_fail] at h
  · simp [den_fail] at h
end
end Go.Rx

namespace Go.Rx
section
variable {P : Program} {ρ : Rho}

theorem setCells_heap (r : Nat) (e : TypeId) (fr : Nat × Nat) : ∀ (vs : List Value) (o : Nat) (w : World) (arr : Array Value), w.heap[r]? = some (.cells arr e fr) → o + vs.length ≤ arr.size →
    ∃ arr', (w.setCells r o vs).heap[r]? = some (.cells arr' e fr) ∧ arr'.size = arr.size ∧ ∀ j : Nat, arr'[j]? = if o ≤ j ∧ j < o + vs.length then vs[j - o]? else arr[j]?
  | [], o, w, arr, h, hl => ⟨arr, by simpa [World.setCells] using h, rfl, fun j => by rw [if_neg (by simp)]⟩
  | v :: vs, o, w, arr, h, hl => by
    simp only [List.length_cons] at hl
    have hr : r < w.heap.size := (Array.getElem?_eq_some_iff.1 h).1
    have h1 : (w.setCell ⟨r, o, none⟩ v).heap[r]? = some (.cells (arr.setIfInBounds o v) e fr) := by
      have he := (Array.getElem?_eq_some_iff.1 h).2
      simp [World.setCell, hr, Array.getElem_modify, he]
    obtain ⟨arr', h2, h3, h4⟩ := setCells_heap r e fr vs (o + 1) (w.setCell ⟨r, o, none⟩ v) (arr.setIfInBounds o v) h1 (by simp; omega)
    refine ⟨arr', by simpa [World.setCells] using h2, by simpa using h3, fun j => ?_⟩
    rw [h4 j]
    by_cases hj : j = o
    · subst hj
      have h5 : ¬ (j + 1 ≤ j ∧ j < j + 1 + vs.length) := by omega
      have h6 : j ≤ j ∧ j < j + (v :: vs).length := by simp
      rw [if_neg h5, if_pos h6]
      have : j < arr.size := by omega
      simp [this]
    · by_cases hk : o + 1 ≤ j ∧ j < o + 1 + vs.length
      · have h6 : o ≤ j ∧ j < o + (v :: vs).length := by simp; omega
        rw [if_pos hk, if_pos h6, show j - o = (j - (o + 1)) + 1 by omega, List.getElem?_cons_succ]
      · have h6 : ¬ (o ≤ j ∧ j < o + (v :: vs).length) := by simp; omega
        rw [if_neg hk, if_neg h6, Array.getElem?_setIfInBounds_ne (by omega)]

theorem setCells_other (r : Nat) : ∀ (vs : List Value) (o : Nat) (w : World) (i : Nat), i ≠ r → (w.setCells r o vs).heap[i]? = w.heap[i]?
  | [], _, _, _, _ => rfl
  | v :: vs, o, w, i, h => by
    rw [World.setCells, setCells_other r vs (o + 1) _ i h]
    exact heap_setCell_other w ⟨r, o, none⟩ i v h
theorem setCells_os (r : Nat) : ∀ (vs : List Value) (o : Nat) (w : World), (w.setCells r o vs).os = w.os ∧ (w.setCells r o vs).tape = w.tape ∧ (w.setCells r o vs).output = w.output ∧ (w.setCells r o vs).heap.size = w.heap.size
  | [], _, _ => ⟨rfl, rfl, rfl, rfl⟩
  | v :: vs, o, w => by
    obtain ⟨h1, h2, h3, h4⟩ := setCells_os r vs (o + 1) (w.setCell ⟨r, o, none⟩ v)
    refine ⟨by rw [World.setCells, h1]; rfl, by rw [World.setCells, h2]; rfl, by rw [World.setCells, h3]; rfl, by rw [World.setCells, h4]; simp⟩

theorem setMux_get (k : IntKind) (p : Nat) (m : Int) : ∀ (cs : List V) (q j : Nat), (setMux k p m q cs)[j]? = (cs[j]?).map fun c => match c with | .int k' n => if k' = k then .int k (if p = q + j then m else n) else .int k' n | c => c
  | [], q, j => by simp [setMux]
  | c :: cs, q, 0 => by cases c <;> simp [setMux]
  | c :: cs, q, j + 1 => by
    have ih := setMux_get k p m cs (q + 1) j
    rw [show q + 1 + j = q + (j + 1) by omega] at ih
    cases c <;> simp [setMux, ih]

theorem setMux_length (k : IntKind) (p : Nat) (m : Int) : ∀ (cs : List V) (q : Nat), (setMux k p m q cs).length = cs.length
  | [], q => by simp [setMux]
  | c :: cs, q => by cases c <;> simp [setMux, setMux_length k p m cs]

theorem proj_kind {v : V} (h : kindOf v ≠ .oth) {x : Value} (r : VRel ρ v x) : VRel ρ (proj (kindOf v) v) x := by
  cases v <;> simp [kindOf] at h <;> simp only [kindOf, proj, V.toInt, V.toBool, V.toStr] <;> simpa [VRel] using r

theorem rowOf_get (sch : List K) (r : List V) (j : Nat) : (rowOf sch r)[j]? = (sch[j]?).map fun k => proj k (r.getD j .any) := by
  simp only [rowOf, List.getElem?_map, List.getElem?_zipIdx]
  cases sch[j]? <;> simp

theorem proj_proj (k : K) (v : V) : proj k (proj k v) = proj k v := by cases k <;> simp [proj, V.toInt, V.toBool, V.toStr]

theorem storeAt_spec {cs : List V} {bl' : Blk} {p : Nat} {vs : List V} (h : (storeAt cs p vs).den = some bl') :
    (flat bl').length = cs.length ∧ p + vs.length ≤ cs.length ∧
    ∀ (j : Nat) (u : V), (flat bl')[j]? = some u →
      (p ≤ j ∧ j < p + vs.length ∧ ∃ v, vs[j - p]? = some v ∧ ∀ x, VRel ρ v x → VRel ρ u x) ∨
      (¬ (p ≤ j ∧ j < p + vs.length) ∧ ∃ u', cs[j]? = some u' ∧ ∀ x, VRel ρ u' x → VRel ρ u x) := by
  unfold storeAt at h
  simp only [den_need, den_leaf, decide_eq_true_eq] at h
  obtain ⟨h1, rfl⟩ := h
  have ht : (cs.take p).length = p := by simp; omega
  refine ⟨by simp [flat]; omega, h1, fun j u hu => ?_⟩
  simp only [flat] at hu
  rw [List.append_assoc] at hu
  by_cases hj : p ≤ j
  · rw [List.getElem?_append_right (by omega), ht] at hu
    by_cases hj2 : j < p + vs.length
    · rw [List.getElem?_append_left (by omega)] at hu
      exact .inl ⟨by omega, by omega, u, hu, fun _ h => h⟩
    · rw [List.getElem?_append_right (by omega), List.getElem?_drop] at hu
      refine .inr ⟨by omega, u, ?_, fun _ h => h⟩
      rwa [show p + vs.length + (j - p - vs.length) = j by omega] at hu
  · rw [List.getElem?_append_left (by omega), List.getElem?_take] at hu
    rw [if_pos (by omega)] at hu
    exact .inr ⟨by omega, u, hu, fun _ h => h⟩

/-- What a store does to a block's cells. -/
theorem storeCs_spec {bl bl' : Blk} {i sz o : Nat} {vs : List V} (h : (storeCs bl i sz o vs).den = some bl') :
    (flat bl').length = (flat bl).length ∧ (i * sz + o) + vs.length ≤ (flat bl).length ∧
    ∀ (j : Nat) (u : V), (flat bl')[j]? = some u →
      (i * sz + o ≤ j ∧ j < i * sz + o + vs.length ∧ ∃ v, vs[j - (i * sz + o)]? = some v ∧ ∀ x, VRel ρ v x → VRel ρ u x) ∨
      (¬ (i * sz + o ≤ j ∧ j < i * sz + o + vs.length) ∧ ∃ u', (flat bl)[j]? = some u' ∧ ∀ x, VRel ρ u' x → VRel ρ u x) := by
  unfold storeCs at h
  split at h
  · rename_i cs
    split at h
    · simp only [den_lit, den_leaf, Nat.ble_eq] at h
      obtain ⟨h1, rfl⟩ := h
      have := storeAt_spec (ρ := ρ) (cs := cs) (p := o) (vs := vs) (bl' := Body.cells (cs.take o ++ vs ++ cs.drop (o + vs.length))) (by
        unfold storeAt
        simp only [den_need, den_leaf, decide_eq_true_eq]
        exact ⟨h1, trivial⟩)
      simpa [flat] using this
    · rename_i sz
      split at h
      · rename_i k m
        split at h
        · rename_i h1
          simp only [den_need, den_leaf, decide_eq_true_eq] at h
          obtain ⟨h2, rfl⟩ := h
          refine ⟨by simp [flat, setMux_length], (by show i * (sz + 1) + o + 1 ≤ cs.length; omega), fun j u hu => ?_⟩
          simp only [flat, setMux_get, Nat.zero_add] at hu
          obtain ⟨c, hc, rfl⟩ := Option.map_eq_some_iff.1 hu
          by_cases hj : j = i * (sz + 1) + o
          · subst hj
            have hi := (strided_get (sz + 1) (by omega) cs o i)
            rw [Nat.add_comm o, hc] at hi
            have := List.all_eq_true.1 h1 c (List.mem_of_getElem? hi)
            cases c <;> simp [isIntK] at this
            subst this
            exact .inl ⟨Nat.le_refl _, by simp, .int k m, by simp, fun x rx => by simpa using rx⟩
          · refine .inr ⟨(by show ¬ (i * (sz + 1) + o ≤ j ∧ j < i * (sz + 1) + o + 1); omega), c, by simpa [flat] using hc, fun x rx => ?_⟩
            cases c <;> try exact rx
            rename_i k' n
            simp only
            split
            · rename_i hk; subst hk; rw [if_neg (by omega)]; exact rx
            · exact rx
        · exact storeAt_spec h
      · exact storeAt_spec h
  · rename_i k xs
    split at h
    · rename_i k' m
      split at h
      · simp only [den_lit, den_need, den_leaf, decide_eq_true_eq] at h
        obtain ⟨rfl, h2, rfl⟩ := h
        refine ⟨by simp [flat], by simp [flat]; omega, fun j u hu => ?_⟩
        simp only [flat, List.getElem?_map] at hu
        obtain ⟨n, hn, rfl⟩ := Option.map_eq_some_iff.1 hu
        rw [List.getElem?_set] at hn
        split at hn
        · rename_i hj; subst hj
          have : m = n := by simpa [h2] using hn
          subst this
          exact .inl ⟨by omega, by simp, .int k m, by simp, fun _ h => h⟩
        · exact .inr ⟨by simp; omega, .int k n, by simp [flat, hn], fun _ h => h⟩
      · simp [den_fail] at h
    · simp [den_fail] at h
  · rename_i sch rs
    simp only [den_lit, den_need, den_leaf, decide_eq_true_eq, Bool.and_eq_true, Nat.beq_eq, Nat.ble_eq, beq_iff_eq, Bool.not_eq_true', List.contains_eq_mem, decide_eq_false_iff_not] at h
    obtain ⟨⟨⟨⟨rfl, h1⟩, h3⟩, h4⟩, h2, rfl⟩ := h
    have hf : ∀ r, (rowOf sch r).length = sch.length := rowOf_length sch
    have hL : ∀ rs : List (List V), (rs.flatMap (rowOf sch)).length = rs.length * sch.length := length_flatMap_const _ _ hf
    have hbound : i * sch.length + sch.length ≤ rs.length * sch.length := by
      have := Nat.mul_le_mul_right sch.length (show i + 1 ≤ rs.length by omega)
      rwa [Nat.add_mul, Nat.one_mul] at this
    refine ⟨by rw [flat_rows, flat_rows, hL, hL]; simp, by rw [flat_rows, hL]; omega, fun j u hu => ?_⟩
    rw [flat_rows] at hu
    have hpos : 0 < sch.length := by
      rcases Nat.eq_zero_or_pos sch.length with h0 | h0
      · have := (List.getElem?_eq_some_iff.1 hu).1
        rw [hL, h0] at this; simp at this
      · exact h0
    have hj : j < rs.length * sch.length := by have := (List.getElem?_eq_some_iff.1 hu).1; rw [hL] at this; simpa using this
    obtain ⟨d, q, hq, hd, rfl⟩ : ∃ d q, q < sch.length ∧ d < rs.length ∧ j = d * sch.length + q :=
      ⟨j / sch.length, j % sch.length, Nat.mod_lt _ hpos, (Nat.div_lt_iff_lt_mul hpos).2 hj, by rw [Nat.mul_comm]; exact (Nat.div_add_mod j _).symm⟩
    have hold : (rs.flatMap (rowOf sch))[d * sch.length + q]? = (rowOf sch rs[d])[q]? :=
      flatMap_get (rowOf sch) sch.length hf rs d q rs[d] (by simp [hd]) hq
    have hgd : rs.getD i [] = rs[i] := by simp [List.getD_eq_getElem?_getD, h2]
    rw [hgd] at hu
    by_cases hi : d = i
    · subst hi
      have hnew := flatMap_get (rowOf sch) sch.length hf (rs.set d ((rowOf sch rs[d]).take o ++ vs ++ (rowOf sch rs[d]).drop (o + vs.length))) d q _ (by simp [h2]; rfl) hq
      rw [hu] at hnew
      have hnew := hnew.symm
      rw [rowOf_get] at hnew
      obtain ⟨k, hk, rfl⟩ := Option.map_eq_some_iff.1 hnew
      have hlt : ((rowOf sch rs[d]).take o).length = o := by simp [rowOf_length]; omega
      by_cases hr : o ≤ q ∧ q < o + vs.length
      · have hlt2 : q - o < vs.length := by omega
        have hv : vs[q - o]? = some vs[q - o] := by simp [hlt2]
        have hkk : kindOf vs[q - o] = k := by
          have := congrArg (fun l => l[q - o]?) h3
          simp only [List.getElem?_map, hv, Option.map_some, List.getElem?_take, List.getElem?_drop] at this
          rw [if_pos (by omega), show o + (q - o) = q by omega, hk] at this
          simpa using this
        refine .inl ⟨by omega, by omega, vs[q - o], ?_, fun x rx => ?_⟩
        · rw [show d * sch.length + q - (d * sch.length + o) = q - o by omega]; exact hv
        · have hgv : (List.take o (rowOf sch rs[d]) ++ (vs ++ List.drop (o + vs.length) (rowOf sch rs[d]))).getD q V.any = vs[q - o] := by
            rw [List.getD_eq_getElem?_getD, List.getElem?_append_right (by omega), hlt, List.getElem?_append_left (by omega), hv]; rfl
          rw [hgv, ← hkk]
          exact proj_kind (by intro hh; exact h4 (by rw [← hh]; exact List.mem_map_of_mem (List.getElem_mem _))) rx
      · have hro : (rowOf sch rs[d])[q]? = some (proj k (rs[d].getD q .any)) := by rw [rowOf_get, hk]; rfl
        refine .inr ⟨by omega, proj k (rs[d].getD q .any), by rw [flat_rows, hold, hro], fun x rx => ?_⟩
        have hgv : (List.take o (rowOf sch rs[d]) ++ (vs ++ List.drop (o + vs.length) (rowOf sch rs[d]))).getD q V.any = proj k (rs[d].getD q .any) := by
          rw [List.getD_eq_getElem?_getD]
          by_cases hlo : q < o
          · rw [List.getElem?_append_left (by omega), List.getElem?_take, if_pos hlo, hro]; rfl
          · rw [List.getElem?_append_right (by omega), hlt, List.getElem?_append_right (by omega), List.getElem?_drop, show o + vs.length + (q - o - vs.length) = q by omega, hro]; rfl
        rw [hgv, proj_proj]
        exact rx
    · have hnew := flatMap_get (rowOf sch) sch.length hf (rs.set i ((rowOf sch rs[i]).take o ++ vs ++ (rowOf sch rs[i]).drop (o + vs.length))) d q rs[d] (by rw [List.getElem?_set_ne (fun h => hi h.symm)]; simp [hd]) hq
      rw [hu] at hnew
      refine .inr ⟨?_, u, by rw [flat_rows, hold, ← hnew], fun _ h => h⟩
      intro hh
      rcases Nat.lt_or_gt_of_ne hi with hlt | hgt
      · have := Nat.mul_le_mul_right sch.length (show d + 1 ≤ i by omega)
        rw [Nat.add_mul, Nat.one_mul] at this
        omega
      · have := Nat.mul_le_mul_right sch.length (show i + 1 ≤ d by omega)
        rw [Nat.add_mul, Nat.one_mul] at this
        omega
  · simp [den_fail] at h
  · simp [den_fail] at h

theorem one_rel {v : V} {x : Value} (h : VRel ρ v x) (h1 : v.one = true) : x.oneCell' = true := by
  cases v <;> simp [V.one] at h1 <;> simp only [VRel] at h
  all_goals first
    | (subst h; rfl)
    | (obtain ⟨s, _, rfl⟩ := h; rfl)
    | (obtain ⟨s, a, c, _, rfl, _⟩ := h; rfl)
    | (obtain ⟨as, cs, rfl, _⟩ := h; rfl)
    | (obtain ⟨y, rfl, _⟩ := h; rfl)

theorem ones_rel : ∀ {vs : List V} {xs : List Value}, VsRel ρ vs xs → vs.all V.one = true → ∀ x ∈ xs, x.oneCell' = true
  | [], _, h, _ => by simp only [VsRel] at h; subst h; simp
  | v :: vs, _, h, h1 => by
    simp only [VsRel] at h
    obtain ⟨y, ys, rfl, r1, r2⟩ := h
    simp only [List.all_cons, Bool.and_eq_true] at h1
    intro x hx
    rcases List.mem_cons.1 hx with rfl | hx
    · exact one_rel r1 h1.1
    · exact ones_rel r2 h1.2 x hx

theorem storeAt_kv {cs : List V} {p : Nat} {vs : List V} {bl' : Blk} (h : (storeAt cs p vs).den = some bl') : isKv bl' = false := by
  unfold storeAt at h
  simp only [den_need, den_leaf] at h
  obtain ⟨_, rfl⟩ := h; rfl
theorem storeCs_kv {bl bl' : Blk} {i sz o : Nat} {vs : List V} (h : (storeCs bl i sz o vs).den = some bl') : isKv bl = false ∧ isKv bl' = false := by
  unfold storeCs at h
  split at h
  · refine ⟨rfl, ?_⟩
    split at h
    · simp only [den_lit, den_leaf] at h
      obtain ⟨_, rfl⟩ := h; rfl
    · split at h
      · split at h
        · simp only [den_need, den_leaf] at h
          obtain ⟨_, rfl⟩ := h; rfl
        · exact storeAt_kv h
      · exact storeAt_kv h
  · refine ⟨rfl, ?_⟩
    split at h
    · split at h
      · simp only [den_lit, den_need, den_leaf] at h
        obtain ⟨_, _, rfl⟩ := h; rfl
      · simp [den_fail] at h
    · simp [den_fail] at h
  · refine ⟨rfl, ?_⟩
    simp only [den_lit, den_need, den_leaf] at h
    obtain ⟨_, _, rfl⟩ := h; rfl
  · simp [den_fail] at h
  · simp [den_fail] at h
/-- Cells laid into a block's place. -/
theorem write_run {bl bl' : Blk} {p : Nat} {vs : List V} {xs : List Value} {s : Seg} {w : World} (hb : BRel ρ s bl w) (hk : isKv bl = false) (hk' : isKv bl' = false) (hr : VsRel ρ vs xs) (h1 : ∀ x ∈ xs, x.oneCell' = true)
    (hlen : (flat bl').length = (flat bl).length) (hle : p + vs.length ≤ (flat bl).length)
    (hs : ∀ (j : Nat) (u : V), (flat bl')[j]? = some u →
      (p ≤ j ∧ j < p + vs.length ∧ ∃ v, vs[j - p]? = some v ∧ ∀ x, VRel ρ v x → VRel ρ u x) ∨
      (¬ (p ≤ j ∧ j < p + vs.length) ∧ ∃ u', (flat bl)[j]? = some u' ∧ ∀ x, VRel ρ u' x → VRel ρ u x)) :
    (storeCells ⟨s.r, s.base + p, none⟩ xs).run P w = .ok () (w.setCells s.r (s.base + p) xs) ∧ BRel ρ s bl' (w.setCells s.r (s.base + p) xs) := by
  have hl := hr.length
  have g4 := hb.1
  constructor
  · have := run_storeCells_cells (P := P) s.r (s.base + p) xs 0 w (fun j hj => by
        rw [Nat.add_zero, Nat.add_assoc]; exact hb.isSome hk (by omega)) (fun j hj => by
        rw [Nat.add_zero, Nat.add_assoc]; exact hb.notFrozen hk (by omega)) h1
    simpa using this
  · refine ⟨by omega, fun h0 => ?_⟩
    obtain ⟨arr, e, fr, g1, g2, g3, g5⟩ := (hb.2 h0).cells hk
    obtain ⟨arr', k1, k2, k3⟩ := setCells_heap s.r e fr xs (s.base + p) w arr g1 (by omega)
    refine .of hk' ⟨arr', e, fr, k1, by omega, g3, fun i u hu => ?_⟩
    rw [k3]
    rcases hs i u hu with ⟨h2, h3, v, hv, kv⟩ | ⟨h2, u', hu', ku⟩
    · rw [if_pos (by omega)]
      obtain ⟨x, hx, rx⟩ := hr.get _ _ hv
      exact ⟨x, by rw [show s.base + i - (s.base + p) = i - p by omega]; exact hx, kv x rx⟩
    · rw [if_neg (by omega)]
      obtain ⟨x, hx, rx⟩ := g5 i u' hu'
      exact ⟨x, hx, ku x rx⟩

theorem storeV_run {H : Hp} {t : TypeId} {a v : V} {A X : Value} {e : Eff} {w : World} (h : (storeV P H t a v).den = some e) (ha : VRel ρ a A) (hx : VRel ρ v X)
    (hB : ∀ b ∈ e.rd, ∀ bl, H b = some bl → ∃ s, ρ b = some s ∧ BRel ρ s bl w) (y : Value) : ∃ w', (Instr.storeAt t A X).run P w = .ok () w' ∧ Post ρ e w y w' ρ := by
  unfold storeV at h
  split at h
  · rename_i b i sz o
    simp only [VRel] at ha
    obtain ⟨s, hs, rfl⟩ := ha
    split at h
    · rename_i bl n hbl hn
      rw [den_lit, den_bind_some] at h
      obtain ⟨hk, bl', hst, h⟩ := h
      simp only [den_leaf] at h; subst h
      simp only [Bool.and_eq_true, Nat.beq_eq, Nat.ble_eq] at hk
      obtain ⟨⟨⟨hk1, hk2⟩, hk3⟩, hk4⟩ := hk
      obtain ⟨s', hs', hb⟩ := hB b (by simp) bl hbl
      rw [hs] at hs'; cases hs'
      have hne : v ≠ .any := by rintro rfl; simp [V.known] at hk1
      have hr := cells_rel hx hne
      obtain ⟨q1, q2, q3⟩ := storeCs_spec (ρ := ρ) hst
      obtain ⟨hrun, hb'⟩ := write_run (P := P) (bl' := bl') (p := i * sz + o) hb (storeCs_kv hst).1 (storeCs_kv hst).2 hr (ones_rel hr hk2) q1 q2 q3
      have hl := hr.length
      obtain ⟨h1, h2, h3, h4⟩ := setCells_os s.r X.cells.toList (s.base + (i * sz + o)) w
      have h0 : 0 < s.R := by
        have := hb.1
        omega
      refine ⟨_, ?_, Post.write hs h1 h2 h3 h4 (fun i hi => setCells_other _ _ _ _ _ hi) h0 hb' (by simp [VRel])⟩
      have hsz : ¬ (X.cells.size ≠ n) := by simp at hl; omega
      simp only [Instr.storeAt, Instr.sureAddr, Sem.run_bind, Sem.run_pure, Result.andThen_ok, storeVar, run_sizeOf hn, if_neg hsz, hrun]
    · simp [den_fail] at h
  · simp [den_fail] at h
end
end Go.Rx

namespace Go.Rx
section
variable {P : Program} {ρ : Rho}

theorem newBody_kv (ks : List K) (len : Nat) (cs : List V) : isKv (newBody ks len cs) = false := by
  unfold newBody
  split
  · split <;> rfl
  · split <;> rfl
theorem brel_new {bl : Blk} (hk : isKv bl = false) {arr : Array Value} {e : TypeId} (w w' : World) (hw : w'.heap[w.heap.size]? = some (.cells arr e (0, 0))) (hl : (flat bl).length ≤ arr.size) (h : ∀ (i : Nat) (v : V), (flat bl)[i]? = some v → ∃ x, arr[i]? = some x ∧ VRel ρ v x) :
    BRel ρ ⟨w.heap.size, 0, arr.size, true⟩ bl w' :=
  ⟨hl, fun _ => .of hk ⟨arr, e, (0, 0), hw, by simp, ⟨fun i _ => by simp, fun _ => .inl rfl⟩, fun i v hv => by simpa using h i v hv⟩⟩

theorem new_of_rel {n : Nat} {bl : Blk} (hk : isKv bl = false) {rd : List Nat} {arr : Array Value} {e : TypeId} {v : V} {x : Value} (w : World) (hn : ρ n = none) (hr : VsRel ρ (flat bl) arr.toList)
    (hv : VRel (addR ρ n ⟨w.heap.size, 0, arr.size, true⟩) v x) : Post ρ ⟨v, rd, [(n, some bl)]⟩ w x (w.alloc (.cells arr e)) (addR ρ n ⟨w.heap.size, 0, arr.size, true⟩) := by
  have hl := hr.length
  have := Post.alloc (rd := rd) (bl := bl) (x := x) (v := v) [] (by simp) hn (w := w) (w' := w.alloc (.cells arr e)) rfl rfl rfl (by simp) (fun i hi => heap_alloc_old w _ i hi) ⟨w.heap.size, 0, arr.size, true⟩ (.inr (Nat.le_refl _))
    (brel_new hk w _ (heap_alloc_new w _) (by simp at hl; omega) fun i u hu => by
      obtain ⟨y, hy, ry⟩ := hr.get i u hu
      exact ⟨y, by simpa using hy, ry.mono (addR_le hn)⟩) hv
  simpa using this

theorem allocV_run {e : TypeId} {z : V} {n : Nat} {w : World} (h : zeroT P e = some z) (hn : ρ n = none) :
    ∃ x ρ', (Instr.alloc e true (.tuple #[])).run P w = .ok x (w.alloc (.cells ((P.info? e).bind (·.zero) |>.getD undef).cells e)) ∧
      Post ρ ⟨.ptr n 0 0 0, [], [(n, some (.cells z.cells))]⟩ w x (w.alloc (.cells ((P.info? e).bind (·.zero) |>.getD undef).cells e)) ρ' := by
  obtain ⟨y, hy, rfl, hz⟩ := run_zeroValue h w
  refine ⟨.pointer (some ⟨w.heap.size, 0, none⟩), _, ?_, new_of_rel (by rfl) w hn (bl := .cells (ofValue y).cells) ?_ ?_⟩
  · simp [Instr.alloc, hy, newVar, newRow, hz]
  · rw [hz]
    simp only [Option.getD_some, flat]
    by_cases hk : (ofValue y) = .any
    · rw [hk]
      have : y.cells = #[y] := by
        cases y <;> first | rfl | (simp [ofValue] at hk)
      rw [this]
      simp [V.cells, VsRel, VRel]
    · exact cells_rel (ofValue_rel ρ y) hk
  · simp only [VRel]
    exact ⟨_, addR_self _ _ _, by simp⟩

theorem boxV_run {e : TypeId} {v : V} {X : Value} {n : Nat} {w : World} (hk : v.known = true) (hx : VRel ρ v X) (hn : ρ n = none) :
    ∃ x ρ', (Instr.box e X).run P w = .ok x (w.alloc (.cells X.cells e)) ∧ Post ρ ⟨.ptr n 0 0 0, [], [(n, some (.cells v.cells))]⟩ w x (w.alloc (.cells X.cells e)) ρ' := by
  refine ⟨.pointer (some ⟨w.heap.size, 0, none⟩), _, ?_, new_of_rel (by rfl) w hn (bl := .cells v.cells) ?_ ?_⟩
  · simp [Instr.box, newVar, newRow]
  · exact cells_rel hx (by rintro rfl; simp [V.known] at hk)
  · simp only [VRel]
    exact ⟨_, addR_self _ _ _, by simp⟩

/-! ### Literals -/
def PsRel (ρ : Rho) : List (Nat × V) → List (Nat × Value) → Prop
  | [], ys => ys = []
  | (i, v) :: r, ys => ∃ x r', ys = (i, x) :: r' ∧ VRel ρ v x ∧ PsRel ρ r r'

theorem foldl_set : ∀ (l : List Value) (k off : Nat) (arr : Array Value), off + k + l.length ≤ arr.size →
    ((l.zipIdx k).foldl (fun cs (cj : Value × Nat) => cs.setIfInBounds (off + cj.2) cj.1) arr).toList = arr.toList.take (off + k) ++ l ++ arr.toList.drop (off + k + l.length)
  | [], k, off, arr, h => by simp
  | v :: l, k, off, arr, h => by
    simp only [List.length_cons] at h
    simp only [List.zipIdx_cons, List.foldl_cons]
    rw [foldl_set l (k + 1) off _ (by simp; omega)]
    rw [Array.toList_setIfInBounds]
    have hlt : off + k < arr.toList.length := by simp; omega
    rw [show off + (k + 1) = off + k + 1 by omega, List.take_succ_eq_append_getElem (by simpa using hlt), List.take_set_of_le (by omega), List.getElem_set_self, List.drop_set_of_lt (by omega)]
    simp [Nat.add_assoc, Nat.add_comm 1 l.length]

theorem fill_rel {place : Nat → Option (Nat × Nat)} : ∀ {ps : List (Nat × V)} {qs : List (Nat × Value)} {cs cs' : List V} {xs : Array Value}, PsRel ρ ps qs → VsRel ρ cs xs.toList → fillV place cs ps = some cs' →
    ∃ xs', Instr.fill place xs qs = some xs' ∧ VsRel ρ cs' xs'.toList
  | [], qs, cs, cs', xs, hp, hr, h => by
    simp only [PsRel] at hp; subst hp
    simp [fillV] at h; subst h
    exact ⟨xs, rfl, hr⟩
  | (i, v) :: ps, qs, cs, cs', xs, hp, hr, h => by
    simp only [PsRel] at hp
    obtain ⟨x, r', rfl, hv, hp⟩ := hp
    unfold fillV at h
    split at h
    · cases h
    · rename_i off size hpl
      split at h
      · cases h
      · rename_i hc
        simp only [Bool.or_eq_true, decide_eq_true_eq, not_or, Bool.not_eq_true', Bool.not_eq_false, ne_eq, Decidable.not_not, Nat.not_lt] at hc
        obtain ⟨⟨hk, h1⟩, h2⟩ := hc
        have hvr := cells_rel hv (by rintro rfl; simp [V.known] at hk)
        have hvl := hvr.length
        have hrl := hr.length
        simp at hvl hrl
        have hset := foldl_set x.cells.toList 0 off xs (by simp; omega)
        have hfold : (x.cells.zipIdx.foldl (fun cs (cj : Value × Nat) => cs.setIfInBounds (off + cj.2) cj.1) xs) = (x.cells.toList.zipIdx.foldl (fun cs (cj : Value × Nat) => cs.setIfInBounds (off + cj.2) cj.1) xs) := by
          rw [← Array.foldl_toList]; simp
        obtain ⟨xs', g1, g2⟩ := fill_rel (place := place) (xs := x.cells.zipIdx.foldl (fun cs (cj : Value × Nat) => cs.setIfInBounds (off + cj.2) cj.1) xs) hp (by
          rw [hfold, hset]
          simp only [Nat.add_zero, Array.length_toList]
          rw [show off + x.cells.size = off + size by omega]
          exact ((hr.take off).append hvr).append (hr.drop (off + size))) h
        refine ⟨xs', ?_, g2⟩
        unfold Instr.fill
        rw [hpl]
        have hc' : (decide (x.cells.size ≠ size) || decide (off + x.cells.size > xs.size)) = false := by simp; omega
        simp only [hc', Bool.false_eq_true, if_false]
        exact g1

theorem run_list_mapM {α β : Type} (F : α → Sem β) (g : α → β) (w : World) : ∀ (l : List α), (∀ a ∈ l, (F a).run P w = .ok (g a) w) → (l.mapM F).run P w = .ok (l.map g) w
  | [], _ => by simp
  | a :: l, h => by
    simp only [List.mapM_cons, Sem.run_bind, h a (by simp), Result.andThen_ok, run_list_mapM F g w l (fun b hb => h b (by simp [hb])), List.map_cons, Sem.run_pure]

theorem run_array_mapM {α β : Type} (F : α → Sem β) (g : α → β) (w : World) (l : Array α) (h : ∀ a ∈ l.toList, (F a).run P w = .ok (g a) w) : (l.mapM F).run P w = .ok (l.map g) w := by
  rw [Array.mapM_eq_mapM_toList]
  simp only [Sem.run_map, run_list_mapM F g w l.toList h, Result.andThen_ok]
  congr 1
  apply Array.ext'
  simp

theorem zero_cells_rel (ρ : Rho) (y : Value) : VsRel ρ (ofValue y).cells y.cells.toList := by
  by_cases hk : (ofValue y) = .any
  · rw [hk]
    have : y.cells = #[y] := by
      cases y <;> first | rfl | (simp [ofValue] at hk)
    rw [this]
    simp [V.cells, VsRel, VRel]
  · exact cells_rel (ofValue_rel ρ y) hk

theorem buildV_run {t : TypeId} {ps : List (Nat × V)} {qs : Array (Nat × Value)} {v : V} (h : (buildV P t ps).den = some v) (hp : PsRel ρ ps qs.toList) (w : World) : ∃ x, (Instr.build t qs).run P w = .ok x w ∧ VRel ρ v x := by
  unfold buildV at h
  split at h
  · rename_i fs z hu hz
    rw [den_lit, den_optT] at h
    obtain ⟨hs, h⟩ := h
    obtain ⟨cs, hcs, rfl⟩ := Option.map_eq_some_iff.1 h
    obtain ⟨y, hy, rfl, _⟩ := run_zeroValue hz w
    have hmap := run_array_mapM (P := P) (fun f : Field => do pure (f.offset, ← sizeOf f.type)) (fun f : Field => (f.offset, (sizeT P f.type).getD 0)) w fs (fun f hf => by
      obtain ⟨n, hn⟩ := Option.isSome_iff_exists.1 (List.all_eq_true.1 hs f hf)
      simp [run_sizeOf hn, hn])
    obtain ⟨xs', g1, g2⟩ := fill_rel hp (zero_cells_rel ρ y) hcs
    refine ⟨.agg xs', ?_, by simp only [VRel]; exact ⟨_, rfl, g2⟩⟩
    have hplace : (fun i : Nat => (fs.map fun f : Field => (f.offset, (sizeT P f.type).getD 0))[i]?) = fun i : Nat => (fs[i]?).bind fun f : Field => (sizeT P f.type).map fun n => (f.offset, n) := by
      funext i
      simp only [Array.getElem?_map]
      cases hf : fs[i]? with
      | none => rfl
      | some f =>
        obtain ⟨n, hn⟩ := Option.isSome_iff_exists.1 (List.all_eq_true.1 hs f (by simpa using Array.mem_of_getElem? hf))
        simp [hn]
    simp only [Instr.build, Sem.run_bind, hy, Result.andThen_ok, run_underlying hu, hmap, hplace, g1, Sem.run_pure]
  · rename_i len e z hu hz
    split at h
    · rename_i n hn
      rw [den_optT] at h
      obtain ⟨cs, hcs, rfl⟩ := Option.map_eq_some_iff.1 h
      obtain ⟨y, hy, rfl, _⟩ := run_zeroValue hz w
      obtain ⟨xs', g1, g2⟩ := fill_rel hp (zero_cells_rel ρ y) hcs
      refine ⟨.agg xs', ?_, by simp only [VRel]; exact ⟨_, rfl, g2⟩⟩
      simp only [Instr.build, Sem.run_bind, hy, Result.andThen_ok, run_underlying hu, run_sizeOf hn, g1, Sem.run_pure]
    · simp [den_fail] at h
  · simp [den_fail] at h

theorem repl_get (cs : List V) : ∀ (n j : Nat), (repl cs n)[j]? = if j < n * cs.length then cs[j % cs.length]? else none
  | 0, j => by simp [repl]
  | n + 1, j => by
    simp only [repl]
    by_cases hj : j < cs.length
    · rw [List.getElem?_append_left hj, if_pos (by rw [Nat.add_mul]; omega), Nat.mod_eq_of_lt hj]
    · rw [List.getElem?_append_right (by omega), repl_get cs n (j - cs.length)]
      have hm : (j - cs.length) % cs.length = j % cs.length := by
        rw [← Nat.mod_eq_sub_mod (by omega)]
      rw [hm]
      by_cases h2 : j < (n + 1) * cs.length
      · rw [if_pos h2, if_pos (by rw [Nat.add_mul] at h2; omega)]
      · rw [if_neg h2, if_neg (by rw [Nat.add_mul] at h2; omega)]
theorem repl_length (cs : List V) : ∀ n, (repl cs n).length = n * cs.length
  | 0 => by simp [repl]
  | n + 1 => by simp only [repl, List.length_append, repl_length cs n, Nat.add_mul]; omega

theorem made_rel {z : List V} {y : Array Value} (h : VsRel ρ z y.toList) (n : Nat) : VsRel ρ (repl z n) (((Array.range (n * y.size)).map (y[· % y.size]!))).toList := by
  have hl := h.length
  simp at hl
  refine VsRel.of_get (by simp [repl_length, hl]) fun j v x hv hx => ?_
  rw [repl_get] at hv
  split at hv
  · rename_i hj
    obtain ⟨x', hx', rx⟩ := h.get _ _ hv
    have hjy : j < n * y.size := by rw [hl]; exact hj
    have hlt : j % y.size < y.size := by
      rcases Nat.eq_zero_or_pos y.size with h0 | h0
      · rw [h0] at hjy; simp at hjy
      · exact Nat.mod_lt _ h0
    simp [hjy] at hx
    subst hx
    rw [← hl] at hx'
    have : y[j % y.size]! = x' := by
      rw [getElem!_pos y _ hlt]
      have := (List.getElem?_eq_some_iff.1 hx').2
      simpa using this
    rw [this]; exact rx
  · cases hv

theorem chunk_rel (ks : List K) (hk : K.oth ∉ ks) : ∀ (n : Nat) {cs : List V} {xs : List Value}, cs.length = n * ks.length → (chunk ks.length n cs).all (fun r => r.map kindOf == ks) = true → VsRel ρ cs xs → VsRel ρ (flat (.rows ks (chunk ks.length n cs))) xs
  | 0, cs, xs, hl, _, hr => by
    have : cs = [] := List.eq_nil_of_length_eq_zero (by simpa using hl)
    subst this
    simpa [chunk, flat_rows] using hr
  | n + 1, cs, xs, hl, hc, hr => by
    simp only [chunk, List.all_cons, Bool.and_eq_true, beq_iff_eq] at hc
    obtain ⟨hc1, hc2⟩ := hc
    rw [Nat.add_mul, Nat.one_mul] at hl
    have ih := chunk_rel ks hk n (cs := cs.drop ks.length) (xs := xs.drop ks.length) (by simp; omega) hc2 (hr.drop _)
    rw [flat_rows] at ih ⊢
    simp only [chunk, List.flatMap_cons]
    rw [← List.take_append_drop ks.length xs]
    refine VsRel.append ?_ (by simpa using ih)
    have ht := hr.take ks.length
    have htl := ht.length
    refine VsRel.of_get (by rw [rowOf_length, htl]; simp; omega) fun j v x hv hx => ?_
    rw [rowOf_get] at hv
    obtain ⟨k, hkj, rfl⟩ := Option.map_eq_some_iff.1 hv
    have hj : j < ks.length := (List.getElem?_eq_some_iff.1 hkj).1
    have hjc : j < (cs.take ks.length).length := by simp; omega
    obtain ⟨x', hx', rx⟩ := ht.get j (cs.take ks.length)[j] (List.getElem?_eq_getElem hjc)
    rw [hx] at hx'; cases hx'
    have hkk : kindOf (cs.take ks.length)[j] = k := by
      have := congrArg (fun l => l[j]?) hc1
      simp only [List.getElem?_map, List.getElem?_eq_getElem hjc, Option.map_some, hkj] at this
      simpa using this
    have hgd : (cs.take ks.length).getD j .any = (cs.take ks.length)[j] := by simp only [List.getD_eq_getElem?_getD, List.getElem?_eq_getElem hjc, Option.getD_some]
    rw [hgd, ← hkk]
    exact proj_kind (by rw [hkk]; rintro rfl; exact hk (List.mem_of_getElem? hkj)) rx

theorem flatK_mem : ∀ {ks : List K}, flatK ks = true → K.oth ∉ ks
  | [], _ => by simp
  | .int _ :: ks, h => by simp only [flatK] at h; simpa using flatK_mem h
  | .bool :: ks, h => by simp only [flatK] at h; simpa using flatK_mem h
  | .str :: ks, h => by simp only [flatK] at h; simpa using flatK_mem h
  | .oth :: _, h => by simp [flatK] at h

theorem newBody_rel {ks : List K} {n : Nat} {cs : List V} {xs : List Value} (hr : VsRel ρ cs xs) : VsRel ρ (flat (newBody ks n cs)) xs := by
  unfold newBody
  split
  · split
    · rename_i ns hns
      have := allInts_get hns
      rw [this] at hr
      exact hr
    · exact hr
  · split
    · rename_i hc
      simp only [Bool.and_eq_true, Nat.beq_eq] at hc
      exact chunk_rel _ (flatK_mem hc.1.1) n hc.2 hc.1.2 hr
    · exact hr

theorem buildSliceV_run {t : TypeId} {n len : Nat} {ps : List (Nat × V)} {qs : Array (Nat × Value)} {e : Eff} {w : World} (h : (buildSliceV P n t len ps).den = some e) (hp : PsRel ρ ps qs.toList) (hn : ρ n = none) :
    ∃ x w' ρ', (Instr.buildSlice t len qs).run P w = .ok x w' ∧ Post ρ e w x w' ρ' := by
  unfold buildSliceV at h
  split at h
  · rename_i el hu
    split at h
    · rename_i es z hs hz
      split at h
      · rename_i cs hcs
        rw [den_lit, den_leaf] at h
        obtain ⟨h1, rfl⟩ := h
        simp only [Bool.and_eq_true, Nat.beq_eq, Nat.ble_eq] at h1
        obtain ⟨⟨h1, h2⟩, h3⟩ := h1
        obtain ⟨y, hy, rfl, _⟩ := run_zeroValue hz w
        have hzr := zero_cells_rel ρ y
        have hzl := hzr.length
        simp at hzl
        have hys : y.cells.size = es := by omega
        obtain ⟨xs', g1, g2⟩ := fill_rel (xs := (Array.range (len * es)).map (y.cells[· % y.cells.size]!)) hp (by rw [← hys]; exact made_rel hzr len) hcs
        have hx' : xs'.size = len * es := by have := g2.length; simp at this; omega
        refine ⟨.slice (some ⟨w.heap.size, 0, none⟩) len len, w.alloc (.cells xs' el), _, ?_, new_of_rel (newBody_kv _ _ _) w hn (newBody_rel g2) ?_⟩
        · have hbig : ¬ (len * es > 2 ^ 24) := by simp; omega
          by_cases h0 : len * es = 0
          · have : (Array.range (len * es)).map (fun x => (#[] : Array Value)[x % (#[] : Array Value).size]!) = (Array.range (len * es)).map (y.cells[· % y.cells.size]!) := by rw [h0]; simp
            simp only [Instr.buildSlice, Sem.run_bind, run_underlying hu, Result.andThen_ok, run_sizeOf hs, if_neg hbig, Sem.run_pure, if_pos h0, this, g1, newRow, run_newObj, World.alloc_eq, Sem.run_ite]
          · simp only [Instr.buildSlice, Sem.run_bind, run_underlying hu, Result.andThen_ok, run_sizeOf hs, if_neg hbig, Sem.run_pure, if_neg h0, hy, g1, newRow, run_newObj, World.alloc_eq, Sem.run_ite]
        · simp only [VRel]
          exact ⟨_, _, _, addR_self _ _ _, rfl, Nat.le_refl _, by simp, fun _ => ⟨by simp, by simp [hx']⟩⟩
      · simp [den_fail] at h
    · simp [den_fail] at h
  · simp [den_fail] at h
end
end Go.Rx

namespace Go.Rx
section
variable {P : Program} {ρ : Rho}

/-- A slice (or a string's bytes) of which the cells are known. -/
def Src (w : World) (es : Nat) (X : Value) (cells : List Value) (n : Nat) : Prop :=
  ∃ A c, X = .slice A n c ∧ n ≤ c ∧ cells.length = n * es ∧ (0 < n → ∃ r o, A = some ⟨r, o, none⟩ ∧ ∀ (j : Nat) (v : Value), cells[j]? = some v → w.cell? ⟨r, o + j, none⟩ = some v)

theorem Src.first {w : World} {es : Nat} {X : Value} {cells : List Value} {n : Nat} (h : Src w es X cells n) {w' : World} (hw : ∀ a, w'.cell? a = w.cell? a) : (Builtin.firstCells es n X).run P w' = .ok cells.toArray w' := by
  obtain ⟨A, c, rfl, hnc, hl, hc⟩ := h
  rcases Nat.eq_zero_or_pos n with h0 | h0
  · subst h0
    have : cells = [] := List.eq_nil_of_length_eq_zero (by simpa using hl)
    subst this
    cases A <;> simp [Builtin.firstCells, loadCells, loadCellsFrom]
  · obtain ⟨r, o, rfl, hcc⟩ := hc h0
    exact run_firstCells_some w' es n ⟨r, o, none⟩ n c cells hl fun j v hv => by rw [hw, add_plain']; exact hcc j v hv

theorem Src.nils (w : World) (es : Nat) : Src w es (.slice none 0 0) [] 0 := ⟨none, 0, rfl, Nat.le_refl _, by simp, by simp⟩

theorem sl_src {bl : Blk} {b i o es len : Nat} {cap : Option Nat} {X : Value} {w : World} {s : Seg} {cs : List V} (hx : VRel ρ (.sl b i o es len cap) X) (hs : ρ b = some s) (hb : BRel ρ s bl w)
    (hcl : cs.length = len * es) (h : ∀ (j : Nat) (v : V), cs[j]? = some v → ∃ u, (flat bl)[i * es + o + j]? = some u ∧ ∀ x, VRel ρ u x → VRel ρ v x) :
    ∃ cells, VsRel ρ cs cells ∧ Src w es X cells len := by
  simp only [VRel] at hx
  obtain ⟨s', a, c, hs', rfl, hlc, hq, ha⟩ := hx
  rw [hs] at hs'; cases hs'
  obtain ⟨xs, h1, h2, h3⟩ := piece hb (p := i * es + o) (cs := cs) h
  refine ⟨xs, h2, a, c, rfl, hlc, by omega, fun h0 => ?_⟩
  obtain ⟨rfl, _⟩ := ha (by omega)
  exact ⟨_, _, rfl, h3⟩

theorem slInts_src {H : Hp} {k : IntKind} {x : V} {X : Value} {ys : List Int} {rd : List Nat} {c : Bool} {w : World} (h : slInts H k x = some (ys, rd, c)) (hc : c = true) (hx : VRel ρ x X)
    (hB : ∀ b ∈ rd, ∀ bl, H b = some bl → ∃ s, ρ b = some s ∧ BRel ρ s bl w) : ∃ cells, VsRel ρ (ys.map (V.int k)) cells ∧ Src w 1 X cells ys.length := by
  subst hc
  unfold slInts at h
  split at h
  · simp at h; obtain ⟨rfl, rfl⟩ := h
    simp only [VRel] at hx; subst hx
    exact ⟨[], by simp [VsRel], Src.nils w 1⟩
  · rename_i b i o es len cap
    split at h
    · rename_i bl hbl
      split at h
      · rename_i k' xs
        split at h
        · rename_i hk
          simp only [Bool.and_eq_true, decide_eq_true_eq, Nat.beq_eq] at hk
          obtain ⟨⟨rfl, rfl⟩, rfl⟩ := hk
          simp at h
          obtain ⟨rfl, rfl, h⟩ := h
          obtain ⟨s, hs, hb⟩ := hB b (by simp) _ hbl
          have hl : ((xs.drop i).take len).length = len := by simp; omega
          obtain ⟨cells, h1, h2⟩ := sl_src (cs := ((xs.drop i).take len).map (V.int k)) hx hs hb (by simp; omega) fun j v hv => by
            refine ⟨v, ?_, fun _ h => h⟩
            simp only [List.getElem?_map] at hv
            obtain ⟨m, hm, rfl⟩ := Option.map_eq_some_iff.1 hv
            rw [List.getElem?_take] at hm
            split at hm
            · rw [List.getElem?_drop] at hm
              simp [flat, hm]
            · cases hm
          exact ⟨cells, h1, by rw [hl]; exact h2⟩
        · cases h
      · rename_i cs
        split at h
        · rename_i hk
          simp only [Bool.and_eq_true, Nat.beq_eq, Nat.ble_eq] at hk
          obtain ⟨rfl, hk⟩ := hk
          obtain ⟨ns, hns, h⟩ := Option.map_eq_some_iff.1 h
          simp at h
          obtain ⟨rfl, rfl⟩ := h
          obtain ⟨s, hs, hb⟩ := hB b (by simp) _ hbl
          have hm := allInts_get hns
          have hl : ns.length = len := by
            have := congrArg List.length hm
            simp at this; omega
          obtain ⟨cells, h1, h2⟩ := sl_src (cs := ns.map (V.int k)) hx hs hb (by simp; omega) fun j v hv => by
            refine ⟨v, ?_, fun _ h => h⟩
            rw [← hm, List.getElem?_take] at hv
            split at hv
            · rw [List.getElem?_drop] at hv
              simpa [flat] using hv
            · cases hv
          exact ⟨cells, h1, by rw [hl]; exact h2⟩
        · cases h
      · cases h
    · cases h
  · cases h

theorem slRows_src {H : Hp} {ks : List K} {x : V} {X : Value} {ys : List (List V)} {rd : List Nat} {c : Bool} {w : World} (h : slRows H ks x = some (ys, rd, c)) (hc : c = true) (hx : VRel ρ x X)
    (hB : ∀ b ∈ rd, ∀ bl, H b = some bl → ∃ s, ρ b = some s ∧ BRel ρ s bl w) : ∃ cells, VsRel ρ (flat (.rows ks ys)) cells ∧ Src w ks.length X cells ys.length := by
  subst hc
  unfold slRows at h
  split at h
  · simp at h; obtain ⟨rfl, rfl⟩ := h
    simp only [VRel] at hx; subst hx
    exact ⟨[], by simp [VsRel, flat], Src.nils w _⟩
  · rename_i b i o es len cap
    split at h
    · rename_i bl hbl
      split at h
      · rename_i sch' rs
        split at h
        · rename_i hk
          simp only [Bool.and_eq_true, decide_eq_true_eq, Nat.beq_eq] at hk
          obtain ⟨⟨rfl, rfl⟩, rfl⟩ := hk
          simp at h
          obtain ⟨rfl, rfl, h⟩ := h
          obtain ⟨s, hs, hb⟩ := hB b (by simp) _ hbl
          have hl : ((rs.drop i).take len).length = len := by simp; omega
          have hf : ∀ r, (rowOf ks r).length = ks.length := rowOf_length ks
          obtain ⟨cells, h1, h2⟩ := sl_src (cs := flat (.rows ks ((rs.drop i).take len))) hx hs hb (by rw [flat_rows, length_flatMap_const _ _ hf, hl]) fun j v hv => by
            refine ⟨v, ?_, fun _ h => h⟩
            rw [flat_rows] at hv ⊢
            have hj := (List.getElem?_eq_some_iff.1 hv).1
            rw [length_flatMap_const _ _ hf, hl] at hj
            have hpos : 0 < ks.length := by
              rcases Nat.eq_zero_or_pos ks.length with h0 | h0
              · rw [h0] at hj; simp at hj
              · exact h0
            have hd : j / ks.length < len := (Nat.div_lt_iff_lt_mul hpos).2 hj
            have hq : j % ks.length < ks.length := Nat.mod_lt _ hpos
            have hjd : j = j / ks.length * ks.length + j % ks.length := by rw [Nat.mul_comm]; exact (Nat.div_add_mod j _).symm
            have hr : rs[i + j / ks.length]? = some rs[i + j / ks.length] := List.getElem?_eq_getElem (by omega)
            have e1 := flatMap_get (rowOf ks) ks.length hf ((rs.drop i).take len) (j / ks.length) (j % ks.length) rs[i + j / ks.length] (by
              rw [List.getElem?_take, if_pos hd, List.getElem?_drop]; exact hr) hq
            have e2 := flatMap_get (rowOf ks) ks.length hf rs (i + j / ks.length) (j % ks.length) rs[i + j / ks.length] hr hq
            rw [← hjd, hv] at e1
            rw [e1, ← e2]
            congr 1
            rw [Nat.add_mul]
            omega
          exact ⟨cells, h1, by rw [hl]; exact h2⟩
        · cases h
      · cases h
    · cases h
  · cases h

theorem slCells_src {H : Hp} {es : Nat} {x : V} {X : Value} {cs : List V} {rd : List Nat} {w : World} (h : slCells H es x = some (cs, rd)) (hx : VRel ρ x X)
    (hB : ∀ b ∈ rd, ∀ bl, H b = some bl → ∃ s, ρ b = some s ∧ BRel ρ s bl w) : (∃ cells, VsRel ρ cs cells ∧ Src w es X cells (lenOfV x)) ∧ cs.all V.one = true := by
  unfold slCells at h
  split at h
  · simp at h; obtain ⟨rfl, rfl⟩ := h
    simp only [VRel] at hx; subst hx
    exact ⟨⟨[], by simp [VsRel], Src.nils w es⟩, rfl⟩
  · rename_i b i o es' len cap
    split at h
    · rename_i bl hbl
      split at h
      · rename_i ds
        split at h
        · rename_i hk
          simp only [Bool.and_eq_true, Nat.beq_eq, Nat.ble_eq] at hk
          obtain ⟨rfl, rfl, rfl, hl, hone⟩ := hk
          simp at h
          obtain ⟨rfl, rfl⟩ := h
          obtain ⟨s, hs, hb⟩ := hB b (by simp) _ hbl
          refine ⟨sl_src (cs := ds.take (len * es')) hx hs hb (by rw [List.length_take]; exact Nat.min_eq_left hl) fun j v hv => ⟨v, ?_, fun _ h => h⟩, hone⟩
          rw [List.getElem?_take] at hv
          split at hv
          · simpa [flat] using hv
          · cases hv
        · cases h
      · cases h
    · cases h
  · cases h

theorem lenV_run {t : TypeId} {x : V} {X : Value} {v : V} (h : (lenV P t x).den = some v) (hx : VRel ρ x X) (ts : Array TypeId) (ht : ts[0]? = some t) (ty : TypeId) (w : World) : ∃ u, (Builtin.len_ ts ty #[X]).run P w = .ok u w ∧ VRel ρ v u := by
  unfold lenV at h
  split at h
  all_goals first | (simp [den_fail] at h; done) | (simp only [den_leaf] at h; subst h)
  · rename_i s hu; simp only [VRel] at hx; subst hx
    exact ⟨_, by simp [Builtin.len_, ht, run_underlying hu]; rfl, by simp [goInt, VRel]⟩
  · rename_i n e hu
    exact ⟨_, by simp [Builtin.len_, ht, run_underlying hu]; rfl, by simp [goInt, VRel]⟩
  · rename_i e b i o es len cap hu; simp only [VRel] at hx
    obtain ⟨s, a, c, _, rfl, _⟩ := hx
    exact ⟨_, by simp [Builtin.len_, ht, run_underlying hu]; rfl, by simp [goInt, VRel]⟩
  · rename_i e hu; simp only [VRel] at hx; subst hx
    exact ⟨_, by simp [Builtin.len_, ht, run_underlying hu]; rfl, by simp [goInt, VRel]⟩

theorem arrayAtV_run {t : TypeId} {x : V} {X : Value} {v : V} (h : (arrayAtV P t x).den = some v) (hx : VRel ρ x X) (w : World) : ∃ u, (Instr.arrayAt t X).run P w = .ok u w ∧ VRel ρ v u := by
  unfold arrayAtV at h
  split at h
  · rename_i n e b i o es len cap hu
    simp only [den_lit, den_need, den_leaf, Nat.ble_eq, decide_eq_true_eq] at h
    obtain ⟨h1, h2, rfl⟩ := h
    simp only [VRel] at hx
    obtain ⟨s, a, c, hs, rfl, hlc, hq, ha⟩ := hx
    obtain ⟨rfl, _⟩ := ha (by omega)
    refine ⟨.pointer (some ⟨s.r, s.base + (i * es + o), none⟩), ?_, by simp only [VRel]; exact ⟨s, hs, rfl⟩⟩
    have : ¬ len < n := by omega
    simp [Instr.arrayAt, run_underlying hu, this]
  · simp [den_fail] at h

theorem convV_run {H : Hp} {n : Nat} {src dst : TypeId} {x : V} {X : Value} {e : Eff} {w : World} (h : (convV P H n src dst x).den = some e) (hx : VRel ρ x X)
    (hB : ∀ b ∈ e.rd, ∀ bl, H b = some bl → ∃ s, ρ b = some s ∧ BRel ρ s bl w) (hn : (∃ y, (n, y) ∈ e.wr) → ρ n = none) :
    ∃ y w' ρ', (convert src dst X).run P w = .ok y w' ∧ Post ρ e w y w' ρ' := by
  unfold convV at h
  split at h
  · rename_i d k k' m hs hd
    simp only [val, den_leaf] at h; subst h
    simp only [VRel] at hx; subst hx
    exact ⟨_, w, ρ, by simp [convert, run_underlying hs, run_underlying hd, Conv.intToInt]; rfl, Post.pure (by simp [VRel])⟩
  · rename_i d s hs hd
    simp only [val, den_leaf] at h; subst h
    simp only [VRel] at hx; subst hx
    exact ⟨_, w, ρ, by simp [convert, run_underlying hs, run_underlying hd]; rfl, Post.pure (by simp [VRel])⟩
  · rename_i e' s hs hd
    split at h
    · rename_i he
      simp only [den_leaf] at h; subst h
      simp only [VRel] at hx; subst hx
      have hn := hn ⟨some (.ints .u8 (numsOf s)), by simp⟩
      have hr := Lib.run_convert_string_bytes (P := P) w src dst e' s hs hd he
      have hsz : (Lib.bytesCells w e' s).size = grownCap w s.size 0 e' := by
        have := grownCap_ge w s.size 0 e'
        simp [Lib.bytesCells]
        have : s.data.size = s.size := rfl
        omega
      refine ⟨_, _, addR ρ n ⟨w.heap.size, 0, grownCap w s.size 0 e', true⟩, hr, ?_⟩
      have hp := Post.alloc (ρ := ρ) (n := n) (rd := []) (bl := .ints .u8 (numsOf s)) (w := w) (w' := Lib.bytesWorld w e' s) (v := .sl n 0 0 1 s.size none) (x := .slice (some ⟨w.heap.size, 0, none⟩) s.size (grownCap w s.size 0 e')) [] (by simp) hn rfl rfl rfl
        (by rw [Lib.bytesWorld_size]; omega) (fun i hi => Lib.bytesWorld_at_old w e' s i hi) ⟨w.heap.size, 0, grownCap w s.size 0 e', true⟩ (.inr (Nat.le_refl _))
        ⟨by have := grownCap_ge w s.size 0 e'; simp [flat, numsOf]; exact this, fun _ => ⟨_, _, _, Lib.bytesWorld_at_new w e' s, by simp [hsz], ⟨fun i hi => by simp at hi ⊢; omega, fun _ => .inr (by simp [hsz])⟩, fun i v hv => by
          simp only [flat, numsOf, List.map_map, List.getElem?_map] at hv
          obtain ⟨b, hb, rfl⟩ := Option.map_eq_some_iff.1 hv
          refine ⟨.int .u8 b.toNat, ?_, by simp [VRel]⟩
          have hi : i < s.data.size := by have := (List.getElem?_eq_some_iff.1 hb).1; simpa using this
          have hbb : s.data[i]? = some b := by simpa using hb
          have hi' : i < s.size := hi
          have hge : ¬ s.size ≤ i := by omega
          simp [Lib.bytesCells, Array.getElem?_append, hi, hbb, hge]⟩⟩
        (by
          simp only [VRel]
          exact ⟨_, _, _, addR_self _ _ _, rfl, grownCap_ge _ _ _ _, by simp, fun _ => ⟨by simp, by simp⟩⟩)
      simpa using hp
    · simp [den_fail] at h
  · rename_i x' e' hs hd _
    split at h
    · rename_i xs rd c he hi
      simp only [den_need, den_leaf] at h
      obtain ⟨hc, rfl⟩ := h
      obtain ⟨cells, h1, h2⟩ := slInts_src hi hc hx hB
      obtain ⟨A, cp, rfl, hlc, hl, hcell⟩ := h2
      refine ⟨.string (strOfNums xs), w, ρ, ?_, Post.pure (by simp only [VRel, bytesOf, strOfNums])⟩
      cases A with
      | none =>
        have h0 : xs = [] := by
          rcases Nat.eq_zero_or_pos xs.length with h0 | h0
          · exact List.eq_nil_of_length_eq_zero h0
          · obtain ⟨r, o, ha, _⟩ := hcell h0; cases ha
        subst h0
        rw [run_convert_bytes_nil w src e' hs he _ _ dst hd]
        rfl
      | some a =>
        rcases Nat.eq_zero_or_pos xs.length with h0 | h0
        · have := List.eq_nil_of_length_eq_zero h0
          subst this
          obtain ⟨b, o, sp⟩ := a
          simp only [List.length_nil]
          rw [run_convert_bytes_string w src dst e' _ 0 cp hs he hd, run_bytesToString w _ 0 cp [] (by simp [loadCells, loadCellsFrom])]
          rfl
        · obtain ⟨r, o, ha, hcc⟩ := hcell h0
          cases ha
          refine run_convert_bytes_arg w src e' hs he r o _ cp xs rfl (fun i hi => ?_) dst hd
          obtain ⟨y, hy, ry⟩ := h1.get i (.int .u8 xs[i]) (by simp [hi])
          simp only [VRel] at ry; subst ry
          rw [hcc i _ hy]
          simp [List.getD_eq_getElem?_getD, hi]
    · simp [den_fail] at h
  · rename_i x' e' b i o es len q hs hd
    split at h
    · rename_i bl he hbl
      rw [den_lit, den_leaf] at h
      obtain ⟨hc, rfl⟩ := h
      simp only [Bool.and_eq_true, Nat.beq_eq, Nat.ble_eq] at hc
      obtain ⟨⟨⟨hsd, hlen⟩, hes⟩, hkv⟩ := hc
      have hkv : isKv bl = false := by simpa using hkv
      subst hes
      obtain ⟨sg, hsg, hb⟩ := hB b (by simp) bl hbl
      have hx0 := hx
      simp only [VRel] at hx
      obtain ⟨sg', a, c, hsg', rfl, hlc, hq, ha⟩ := hx
      rw [hsg] at hsg'; cases hsg'
      obtain ⟨hcq, hcl⟩ := hq q rfl
      obtain ⟨rfl, hroom⟩ := ha (by omega)
      have h0 : 0 < sg.R := by omega
      · obtain ⟨arr, ee, fr, g1, g2, g3, g5⟩ := (hb.2 h0).cells hkv
        have hsh : w.shape? sg.r = some (ee, arr.size) := by unfold World.shape?; rw [g1]
        have hsame : (src == dst) = true := by simpa using hsd
        refine ⟨_, _, ρ, ?_, Post.write (w' := w.freeze ⟨sg.r, arr.size, none⟩ 1) hsg rfl rfl rfl ?_ ?_ h0 ?_ hx0⟩
        · subst hsd
          simp [convert, run_underlying hd, run_underlying he, markStringish, hsh]
        · unfold World.freeze; rw [if_neg (by decide)]; simp
        · intro j hj
          unfold World.freeze; rw [if_neg (by decide)]
          simp only [Array.getElem?_modify]
          rw [if_neg (fun e => hj e.symm)]
        · refine ⟨hb.1, fun _ => .of hkv ⟨arr, ee, if (fr.1 == fr.2) = true then (arr.size, arr.size + 1) else (min fr.1 arr.size, max fr.2 (arr.size + 1)), ?_, g2, ?_, g5⟩⟩
          · unfold World.freeze; rw [if_neg (by decide)]
            simp only [Array.getElem?_modify, if_true, g1, Option.map_some]
          · have hfr := g3.2 hcl
            have key : sg.base + sg.R ≤ (if (fr.1 == fr.2) = true then (arr.size, arr.size + 1) else (min fr.1 arr.size, max fr.2 (arr.size + 1))).1 := by
              split
              · exact g2
              · rename_i hne
                rcases hfr with hfr | hfr
                · exact absurd (by simpa using hfr) hne
                · simp only; omega
            exact ⟨fun j hj => by omega, fun _ => .inr key⟩
    · simp [den_fail] at h
  · simp [den_fail] at h

/-! ### append -/
section
variable {t tx ty e : TypeId} {es n m c : Nat} {A : Option Addr} {Y : Value} {olds news : List Value} {w : World} {d2 : TypeDesc}

theorem app_fit (ht : P.underlying t = some (.slice e)) (he : sizeT P e = some es) (hx : P.underlying tx = some d2) (h2 : d2 = .string ∨ ∃ e2, d2 = .slice e2) (hl : (Builtin.lenOf Y).run P w = .ok m w)
    (hnew : (Builtin.firstCells es m Y).run P w = .ok news.toArray w) (hc : n + m ≤ c) :
    (Builtin.append_ #[t, tx] ty #[.slice A n c, Y]).run P w = match A with
      | some a => ((storeCells (a.add (n * es)) news).run P w).andThen fun _ w' => .ok (.slice A (n + m) c) w'
      | none => .ok (.slice none (n + m) c) w := by
  rcases h2 with rfl | ⟨e2, rfl⟩ <;> cases A <;> simp [Builtin.append_, run_underlying ht, run_sizeOf he, run_underlying hx, hl, hnew, hc]

theorem app_grow {z : Value} (ht : P.underlying t = some (.slice e)) (he : sizeT P e = some es) (hz : (P.info? e).bind (·.zero) = some z) (hx : P.underlying tx = some d2) (h2 : d2 = .string ∨ ∃ e2, d2 = .slice e2) (hl : (Builtin.lenOf Y).run P w = .ok m w)
    (hold : (Builtin.firstCells es n (.slice A n c)).run P w.drew = .ok olds.toArray w.drew)
    (hnew : (Builtin.firstCells es m Y).run P w.drew = .ok news.toArray w.drew) (hc : c < n + m) (hb : (n + m) * bytesT P e ≤ 140737488355328) (h63 : n + m ≤ 9223372036854775807) :
    (Builtin.append_ #[t, tx] ty #[.slice A n c, Y]).run P w =
      .ok (.slice (some ⟨w.heap.size, 0, none⟩) (n + m) (grownCap w (n + m) c e)) (w.drew.alloc (.cells (olds ++ news ++ (Builtin.zeroCells z.cells (grownCap w (n + m) c e - (n + m))).toList).toArray e)) := by
  obtain ⟨i, hi, hzi⟩ := Option.bind_eq_some_iff.1 hz
  have hby : bytesT P e = i.bytes := by simp [bytesT, hi]
  rw [hby] at hb
  have hn : ¬ (n + m ≤ c) := by omega
  have h63' : ¬ (9223372036854775807 < ((n : Int) + (m : Int))) := by omega
  have h48' : ¬ (281474976710656 < Builtin.nextslicecap (n + m) c * i.bytes) := by
    have := growslice_fits hc hb
    omega
  have hsz : (sizeOf e).run P w = .ok es w := run_sizeOf he w
  rcases h2 with rfl | ⟨e2, rfl⟩
  all_goals
    simp [Builtin.append_, run_underlying ht, run_sizeOf he, run_underlying hx, hl, typeInfo, hi, hzi, zeroValue, hn, h63', h48', Question.forced, hold, hnew, newRow, grownCap]
    congr 2
    apply Array.ext'
    simp [List.append_assoc]

theorem lenOf_src {cells : List Value} (h : Src w es Y cells m) : (Builtin.lenOf Y).run P w = .ok m w := by
  obtain ⟨A, c, rfl, _⟩ := h
  simp [Builtin.lenOf]

/-- What append gives, whatever is appended. -/
theorem append_post' {X : Value} {s : V} {rd : List Nat} {k : Nat} {bl : Blk} {gone : List (Nat × Option Blk)} {z : V} {ecount : Nat}
    (hes : 1 ≤ es) (hz : zeroT P e = some z) (hzl : z.cells.length = es)
    (hsX : VRel ρ s X) (hg : givenUp s = some gone) (hsrc : Src w es X olds n)
    (hfit : ∀ (A : Option Addr) (c : Nat), n + m ≤ c → (Builtin.append_ #[t, tx] ty #[.slice A n c, Y]).run P w = match A with
      | some a => ((storeCells (a.add (n * es)) news).run P w).andThen fun _ w' => .ok (.slice A (n + m) c) w'
      | none => .ok (.slice none (n + m) c) w)
    (hgrow : ∀ (A : Option Addr) (c : Nat) (z : Value), (P.info? e).bind (·.zero) = some z → (Builtin.firstCells es n (.slice A n c)).run P w.drew = .ok olds.toArray w.drew → c < n + m →
      (Builtin.append_ #[t, tx] ty #[.slice A n c, Y]).run P w =
        .ok (.slice (some ⟨w.heap.size, 0, none⟩) (n + m) (grownCap w (n + m) c e)) (w.drew.alloc (.cells (olds ++ news ++ (Builtin.zeroCells z.cells (grownCap w (n + m) c e - (n + m))).toList).toArray e)))
    (hnl : news.length = m * es) (hone : ∀ x ∈ news, x.oneCell' = true)
    (hB : ∀ b i o es' len cap, s = .sl b i o es' len cap → ∃ sg bl0, ρ b = some sg ∧ BRel ρ sg bl0 w ∧ isKv bl0 = false) (hkb : isKv bl = false)
    (hes' : ∀ b i o es' len cap, s = .sl b i o es' len cap → es' = es)
    (htight : tight s = true → lenOfV s ≠ 0 → 0 < m) (hlenV : lenOfV s = n)
    (hbl : VsRel ρ (flat bl) (olds ++ news)) (htot : ecount = n + m) (hn : ρ k = none) :
    ∃ v w' ρ', (Builtin.append_ #[t, tx] ty #[X, Y]).run P w = .ok v w' ∧ Post ρ ⟨.sl k 0 0 es ecount none, rd, gone ++ [(k, some bl)]⟩ w v w' ρ' := by
  subst htot
  obtain ⟨y, hy, rfl, hzi⟩ := run_zeroValue hz w
  have hyl : y.cells.size = es := by have := (zero_cells_rel ρ y).length; simp at this; omega
  have hsrc0 := hsrc
  obtain ⟨A, c, rfl, hnc, hol, hcell⟩ := hsrc
  have hgone : ∀ b y, (b, y) ∈ gone → y = none := by
    unfold givenUp at hg
    split at hg
    · simp at hg; subst hg; simp
    · split at hg <;> (simp at hg; subst hg; simp)
    · cases hg
  by_cases hc : n + m ≤ c
  · have hrun := hfit A c hc
    rcases Nat.eq_zero_or_pos c with h0 | h0
    · have hn0 : n = 0 := by omega
      have hm0 : m = 0 := by omega
      subst hn0 hm0 h0
      have hnn' : news = [] := List.eq_nil_of_length_eq_zero (by simpa using hnl)
      have hoo : olds = [] := List.eq_nil_of_length_eq_zero (by simpa using hol)
      subst hnn' hoo
      have hfl : flat bl = [] := by have := hbl.length; simp at this; exact List.eq_nil_of_length_eq_zero (by omega)
      refine ⟨.slice A 0 0, w, addR ρ k ⟨0, 0, 0, false⟩, ?_, ?_⟩
      · rw [hrun]; cases A <;> simp [storeCells]
      · exact Post.alloc gone hgone hn rfl rfl rfl (Nat.le_refl _) (fun _ _ => rfl) ⟨0, 0, 0, false⟩ (.inl rfl) ⟨by simp [hfl], by simp⟩ (by
          simp only [VRel]
          exact ⟨_, _, _, addR_self _ _ _, rfl, by simp, by simp, by simp⟩)
    · -- in place
      cases s with
      | sl b i o es' len cap =>
        have := hes' b i o es' len cap rfl
        subst this
        obtain ⟨sg, bl0, hsg, hb0, hkv0⟩ := hB b i o es' len cap rfl
        have hX := hsX
        simp only [VRel] at hX
        obtain ⟨sg', A', c', hsg', hXe, hlc, hq, ha⟩ := hX
        rw [hsg] at hsg'; cases hsg'
        simp only [Value.slice.injEq] at hXe
        obtain ⟨rfl, rfl, rfl⟩ := hXe
        obtain ⟨rfl, hroom⟩ := ha h0
        have hcm : (n + m) * es' ≤ c * es' := Nat.mul_le_mul_right _ hc
        rw [Nat.add_mul] at hcm
        have hpos : 0 < sg.R := by
          have := Nat.mul_le_mul_right es' h0
          omega
        have hnt : tight (.sl b i o es' n cap) = false ∨ n = 0 := by
          cases ht' : tight (.sl b i o es' n cap) with
          | false => exact .inl rfl
          | true =>
            right
            apply Classical.byContradiction
            intro hne
            have hm := htight ht' (by simpa [lenOfV] using hne)
            cases cap with
            | none => simp [tight] at ht'
            | some q =>
              simp only [tight, Nat.beq_eq] at ht'
              have := hq q rfl
              omega
        have hgv : gone = [(b, none)] := by
          unfold givenUp at hg
          simp only at hg
          rcases hnt with hnt | hnt
          · have : tight (.sl b 0 0 0 n cap) = false := by rw [← hnt]; cases cap <;> rfl
            rw [this] at hg; simp at hg; exact hg.symm
          · cases cap with
            | none => simp [tight] at hg; exact hg.symm
            | some q =>
              have hqc := hq q rfl
              have : tight (.sl b 0 0 0 n (some q)) = false := by
                cases hh : Nat.beq n q with
                | false => simp only [tight, hh]
                | true => have := Nat.eq_of_beq_eq_true hh; omega
              rw [this] at hg; simp at hg; exact hg.symm
        subst hgv
        obtain ⟨arr, ee, fr, g1, g2, g3, g5⟩ := (hb0.2 hpos).cells hkv0
        have hst := run_storeCells_cells (P := P) sg.r (sg.base + (i * es' + o) + n * es') news 0 w (fun j hj => by
            rw [Nat.add_zero, show sg.base + (i * es' + o) + n * es' + j = sg.base + (i * es' + o + n * es' + j) by omega]; exact hb0.isSome hkv0 (by omega)) (fun j hj => by
            rw [Nat.add_zero, show sg.base + (i * es' + o) + n * es' + j = sg.base + (i * es' + o + n * es' + j) by omega]; exact hb0.notFrozen hkv0 (by omega)) hone
        simp only [Nat.add_zero] at hst
        obtain ⟨arr', k1, k2, k3⟩ := setCells_heap sg.r ee fr news (sg.base + (i * es' + o) + n * es') w arr g1 (by omega)
        obtain ⟨q1, q2, q3, q4⟩ := setCells_os sg.r news (sg.base + (i * es' + o) + n * es') w
        refine ⟨.slice (some ⟨sg.r, sg.base + (i * es' + o), none⟩) (n + m) c, w.setCells sg.r (sg.base + (i * es' + o) + n * es') news, addR ρ k ⟨sg.r, sg.base + (i * es' + o), sg.R - (i * es' + o), false⟩, ?_, ?_⟩
        · rw [hrun]; simp only [add_plain', hst, Result.andThen_ok]
        · refine Post.reuse hn q1 q2 q3 q4 hsg hpos (fun i hi => setCells_other _ _ _ _ _ hi) _ rfl ?_ ?_
          · have hbl' := hbl.length
            simp only [List.length_append, hol, hnl] at hbl'
            refine ⟨by simp only; omega, fun _ => .of hkb ⟨arr', ee, fr, k1, by simp only; omega, ⟨fun j hj => ?_, fun hc => by cases hc⟩, fun j v hv => ?_⟩⟩
            · simp only at hj ⊢
              rw [Nat.add_assoc]
              exact g3.1 _ (by omega)
            · have hj : j < (flat bl).length := (List.getElem?_eq_some_iff.1 hv).1
              obtain ⟨x, hxx, rx⟩ := hbl.get j v hv
              refine ⟨x, ?_, rx.mono (addR_le hn)⟩
              simp only
              rw [k3]
              by_cases hjn : j < n * es'
              · rw [if_neg (by omega)]
                rw [List.getElem?_append_left (by omega)] at hxx
                have hn0 : 0 < n := by
                  rcases Nat.eq_zero_or_pos n with h | h
                  · subst h; simp at hjn
                  · exact h
                obtain ⟨r', o', hA, hcc⟩ := hcell hn0
                simp only [Option.some.injEq, Addr.mk.injEq, and_true] at hA
                obtain ⟨rfl, rfl⟩ := hA
                have := hcc j x hxx
                simp only [World.cell?, g1] at this
                simpa using this
              · rw [if_pos (by omega)]
                rw [List.getElem?_append_right (by omega), hol] at hxx
                rw [show sg.base + (i * es' + o) + j - (sg.base + (i * es' + o) + n * es') = j - n * es' by omega]
                exact hxx
          · simp only [VRel]
            refine ⟨_, _, _, addR_self _ _ _, rfl, hc, by simp, fun _ => ⟨by simp, by simp only; omega⟩⟩
      | nils => simp only [VRel] at hsX; cases hsX; omega
      | _ => simp [givenUp] at hg
  · have hc : c < n + m := by omega
    have hold := hsrc0.first (P := P) (w' := w.drew) (fun a => by simp)
    have hrun := hgrow A c y hzi hold hc
    have hge := grownCap_ge w (n + m) c e
    have hbl' := hbl.length
    simp only [List.length_append, hol, hnl] at hbl'
    have hzc : (Builtin.zeroCells y.cells (grownCap w (n + m) c e - (n + m))).size = (grownCap w (n + m) c e - (n + m)) * es := by
      rw [size_zeroCells, hyl]
    have hcap : n * es + (m * es + (grownCap w (n + m) c e - (n + m)) * es) = grownCap w (n + m) c e * es := by
      rw [← Nat.add_mul, ← Nat.add_mul]; congr 1; omega
    have hsize : (olds ++ news ++ (Builtin.zeroCells y.cells (grownCap w (n + m) c e - (n + m))).toList).toArray.size = grownCap w (n + m) c e * es := by
      simp only [List.size_toArray, List.length_append, hol, hnl, Array.length_toList, hzc]; omega
    refine ⟨_, _, addR ρ k ⟨w.heap.size, 0, grownCap w (n + m) c e * es, true⟩, hrun, ?_⟩
    refine Post.alloc (w := w) (w' := w.drew.alloc (.cells (olds ++ news ++ (Builtin.zeroCells y.cells (grownCap w (n + m) c e - (n + m))).toList).toArray e)) gone hgone hn rfl rfl rfl (by simp) (fun i hi => by have := heap_alloc_old w.drew (.cells (olds ++ news ++ (Builtin.zeroCells y.cells (grownCap w (n + m) c e - (n + m))).toList).toArray e) i (by simpa using hi); exact this) ⟨w.heap.size, 0, grownCap w (n + m) c e * es, true⟩ (.inr (Nat.le_refl _)) ?_ ?_
    · refine ⟨by have := Nat.mul_le_mul_right es hge; rw [Nat.add_mul] at this; simp only; omega, fun _ => .of hkb ⟨_, e, (0, 0), heap_alloc_new w.drew _, by simp only [hsize]; omega, ⟨fun i _ => by simp, fun _ => .inl rfl⟩, fun j v hv => ?_⟩⟩
      obtain ⟨x, hxx, rx⟩ := hbl.get j v hv
      refine ⟨x, ?_, rx.mono (addR_le hn)⟩
      have hj : j < (olds ++ news).length := (List.getElem?_eq_some_iff.1 hxx).1
      simp only [Nat.zero_add, List.getElem?_toArray]
      rw [List.getElem?_append_left hj]
      exact hxx
    · simp only [VRel]
      exact ⟨_, _, _, addR_self _ _ _, rfl, hge, by simp, fun _ => ⟨by simp, by simp⟩⟩

theorem append_post {X : Value} {s : V} {rd : List Nat} {k : Nat} {bl : Blk} {gone : List (Nat × Option Blk)} {z : V} {ecount : Nat}
    (ht : P.underlying t = some (.slice e)) (he : sizeT P e = some es) (hes : 1 ≤ es) (hz : zeroT P e = some z) (hzl : z.cells.length = es) (hx : P.underlying tx = some d2) (h2 : d2 = .string ∨ ∃ e2, d2 = .slice e2)
    (hsX : VRel ρ s X) (hg : givenUp s = some gone) (hsrc : Src w es X olds n) (hlenY : (Builtin.lenOf Y).run P w = .ok m w)
    (hY : (Builtin.firstCells es m Y).run P w = .ok news.toArray w) (hY' : (Builtin.firstCells es m Y).run P w.drew = .ok news.toArray w.drew) (hnl : news.length = m * es) (hone : ∀ x ∈ news, x.oneCell' = true)
    (hB : ∀ b i o es' len cap, s = .sl b i o es' len cap → ∃ sg bl0, ρ b = some sg ∧ BRel ρ sg bl0 w ∧ isKv bl0 = false) (hkb : isKv bl = false)
    (hes' : ∀ b i o es' len cap, s = .sl b i o es' len cap → es' = es)
    (htight : tight s = true → lenOfV s ≠ 0 → 0 < m) (hlenV : lenOfV s = n) (_hnn : ∀ cs, s ≠ .agg cs)
    (hbl : VsRel ρ (flat bl) (olds ++ news)) (htot : ecount = n + m) (hb : ecount * bytesT P e ≤ 140737488355328) (h63 : ecount ≤ 9223372036854775807) (hn : ρ k = none) :
    ∃ v w' ρ', (Builtin.append_ #[t, tx] ty #[X, Y]).run P w = .ok v w' ∧ Post ρ ⟨.sl k 0 0 es ecount none, rd, gone ++ [(k, some bl)]⟩ w v w' ρ' := by
  subst htot
  exact append_post' hes hz hzl hsX hg hsrc (fun A c hc => app_fit (A := A) ht he hx h2 hlenY hY hc) (fun A c y hzi hold hc => app_grow ht he hzi hx h2 hlenY hold hY' hc hb h63) hnl hone hB hkb hes' htight hlenV hbl rfl hn

theorem run_asInt (kk : IntKind) (l : Int) (w : World) : (asInt (.int kk l)).run P w = .ok l w := by simp [asInt, asIntOf]

/-- append(s, make([]T, n)...): zeros, and no slice of them. -/
theorem app_fit0 {ki kk : IntKind} {l : Int} {z : Value} (ht : P.underlying t = some (.slice e)) (he : sizeT P e = some es) (hz : (P.info? e).bind (·.zero) = some z) (hx : P.underlying tx = some (.int ki)) (h0 : 0 ≤ l) (h1 : l * bytesT P e ≤ 140737488355328) (h47 : l ≤ 140737488355328) (hm : m = l.toNat) (hc : n + m ≤ c) (hes : 1 ≤ es) :
    (Builtin.append_ #[t, tx] ty #[.slice A n c, .int kk l]).run P w = match A with
      | some a => ((storeCells (a.add (n * es)) (Builtin.zeroCells z.cells m).toList).run P w).andThen fun _ w' => .ok (.slice A (n + m) c) w'
      | none => .ok (.slice none (n + m) c) w := by
  obtain ⟨i, hi, hzi⟩ := Option.bind_eq_some_iff.1 hz
  have hby : bytesT P e = i.bytes := by simp [bytesT, hi]
  rw [hby] at h1
  have hw : IntKind.i64.wrap l = l := by rw [IntKind.wrap_i64]; omega
  have hneg : ¬ (l < 0) := by omega
  have hbig : ¬ (281474976710656 < l * (i.bytes : Int)) := by omega
  subst hm
  by_cases hm0 : l.toNat = 0
  · have hz0 : (Builtin.zeroCells z.cells 0) = #[] := by simp [Builtin.zeroCells]
    have hl0 : l = 0 := by omega
    subst hl0
    have hc' : n ≤ c := by omega
    cases A <;> simp [Builtin.append_, run_underlying ht, run_sizeOf he, run_underlying hx, typeInfo, hi, run_asInt, hw, hc', hz0]
  · have hme : ¬ (l.toNat * es = 0) := by
      intro h
      rcases Nat.mul_eq_zero.1 h with h | h <;> omega
    cases A <;> simp [Builtin.append_, run_underlying ht, run_sizeOf he, run_underlying hx, typeInfo, hi, hzi, zeroValue, run_asInt, hw, hneg, hbig, hme, hc]

theorem app_grow0 {ki kk : IntKind} {l : Int} {z : Value} (ht : P.underlying t = some (.slice e)) (he : sizeT P e = some es) (hz : (P.info? e).bind (·.zero) = some z) (hx : P.underlying tx = some (.int ki)) (h0 : 0 ≤ l) (h1 : l * bytesT P e ≤ 140737488355328) (h47 : l ≤ 140737488355328) (hm : m = l.toNat) (hes : 1 ≤ es)
    (hold : (Builtin.firstCells es n (.slice A n c)).run P w.drew = .ok olds.toArray w.drew) (hc : c < n + m) (hb : (n + m) * bytesT P e ≤ 140737488355328) (h63 : n + m ≤ 9223372036854775807) :
    (Builtin.append_ #[t, tx] ty #[.slice A n c, .int kk l]).run P w =
      .ok (.slice (some ⟨w.heap.size, 0, none⟩) (n + m) (grownCap w (n + m) c e)) (w.drew.alloc (.cells (olds ++ (Builtin.zeroCells z.cells m).toList ++ (Builtin.zeroCells z.cells (grownCap w (n + m) c e - (n + m))).toList).toArray e)) := by
  obtain ⟨i, hi, hzi⟩ := Option.bind_eq_some_iff.1 hz
  have hby : bytesT P e = i.bytes := by simp [bytesT, hi]
  rw [hby] at h1 hb
  have hw : IntKind.i64.wrap l = l := by rw [IntKind.wrap_i64]; omega
  have hneg : ¬ (l < 0) := by omega
  have hbig : ¬ (281474976710656 < l * (i.bytes : Int)) := by omega
  have hn : ¬ (n + m ≤ c) := by omega
  have h63' : ¬ (9223372036854775807 < ((n : Int) + (m : Int))) := by omega
  have h48' : ¬ (281474976710656 < Builtin.nextslicecap (n + m) c * i.bytes) := by
    have := growslice_fits hc hb
    omega
  subst hm
  by_cases hm0 : l.toNat = 0
  · have hz0 : (Builtin.zeroCells z.cells 0) = #[] := by simp [Builtin.zeroCells]
    have hl0 : l = 0 := by omega
    subst hl0
    simp only [Int.toNat_zero, Nat.add_zero] at *
    have h63'' : ¬ (9223372036854775807 < (n : Int)) := by omega
    simp [Builtin.append_, run_underlying ht, run_sizeOf he, run_underlying hx, typeInfo, hi, hzi, zeroValue, run_asInt, hw, hn, h63'', h48', Question.forced, hold, newRow, grownCap, hz0]
    congr 2
    apply Array.ext'
    simp [List.append_assoc]
  · have hmx : ¬ (9223372036854775807 < (n : Int) + max l 0) := by omega
    have hme : ¬ (l.toNat * es = 0) := by
      intro h
      rcases Nat.mul_eq_zero.1 h with h | h <;> omega
    simp [Builtin.append_, run_underlying ht, run_sizeOf he, run_underlying hx, typeInfo, hi, hzi, zeroValue, run_asInt, hw, hneg, hbig, hme, hn, hmx, h48', Question.forced, hold, newRow, grownCap]
    congr 2
    apply Array.ext'
    simp [List.append_assoc]
end
end
end Go.Rx

namespace Go.Rx
section
variable {P : Program} {ρ : Rho}

theorem den_appRes {n : Nat} {e : TypeId} {s : V} {es : Nat} {rd : List Nat} {gone : List (Nat × Option Blk)} {m tot : Nat} {bl : Blk} {r : Eff} (h : (appRes P n e s es rd gone m tot bl).den = some r) :
    r = ⟨.sl n 0 0 es tot none, rd, gone ++ [(n, some bl)]⟩ ∧ tot * bytesT P e ≤ 140737488355328 ∧ 1 ≤ es ∧ 1 ≤ bytesT P e ∧ (tight s = true → lenOfV s ≠ 0 → 0 < m) := by
  unfold appRes at h
  rw [den_lit] at h
  obtain ⟨h0, h⟩ := h
  simp only [Bool.and_eq_true, Nat.ble_eq] at h0
  split at h
  · simp only [den_need, den_leaf, decide_eq_true_eq] at h
    obtain ⟨h1, h2, rfl⟩ := h
    exact ⟨rfl, h2, h0.1, h0.2, fun _ _ => h1⟩
  · rename_i hc
    simp only [den_need, den_leaf, decide_eq_true_eq] at h
    obtain ⟨h2, rfl⟩ := h
    refine ⟨rfl, h2, h0.1, h0.2, fun ht hl => ?_⟩
    simp only [Bool.and_eq_false_iff, Bool.not_eq_false', Nat.beq_eq] at hc
    rcases hc with hc | hc
    · rw [ht] at hc; cases hc
    · exact absurd hc hl

theorem src_lenOf {s : V} {X : Value} {cells : List Value} {es n : Nat} {w : World} (hx : VRel ρ s X) (h : Src w es X cells n) (hs : s = .nils ∨ ∃ b i o es len cap, s = .sl b i o es len cap) : lenOfV s = n := by
  obtain ⟨A, c, rfl, _⟩ := h
  rcases hs with rfl | ⟨b, i, o, es, len, cap, rfl⟩
  · simp only [VRel] at hx; cases hx; rfl
  · simp only [VRel] at hx; obtain ⟨s, a, c, _, he, _⟩ := hx; cases he; rfl

theorem slInts_form {H : Hp} {k : IntKind} {x : V} {ys : List Int} {rd : List Nat} {c : Bool} (h : slInts H k x = some (ys, rd, c)) :
    (x = .nils ∨ ∃ b i o es len cap, x = .sl b i o es len cap) ∧ (∀ b i o es len cap, x = .sl b i o es len cap → es = 1 ∧ b ∈ rd ∧ ∃ bl, H b = some bl ∧ isKv bl = false) := by
  unfold slInts at h
  split at h
  · exact ⟨.inl rfl, fun _ _ _ _ _ _ h => by cases h⟩
  · rename_i b i o es len cap
    refine ⟨.inr ⟨_, _, _, _, _, _, rfl⟩, fun b' i' o' es' len' cap' he => ?_⟩
    cases he
    split at h
    · rename_i bl hbl
      split at h
      · split at h
        · rename_i hk
          simp only [Bool.and_eq_true, decide_eq_true_eq, Nat.beq_eq] at hk
          simp at h
          exact ⟨hk.2, by simp [← h.2.1], _, hbl, rfl⟩
        · cases h
      · split at h
        · rename_i hk
          simp only [Bool.and_eq_true, Nat.beq_eq] at hk
          obtain ⟨ns, _, h⟩ := Option.map_eq_some_iff.1 h
          simp at h
          exact ⟨hk.1, by simp [← h.2.1], _, hbl, rfl⟩
        · cases h
      · cases h
    · cases h
  · cases h

theorem slRows_form {H : Hp} {ks : List K} {x : V} {ys : List (List V)} {rd : List Nat} {c : Bool} (h : slRows H ks x = some (ys, rd, c)) :
    (x = .nils ∨ ∃ b i o es len cap, x = .sl b i o es len cap) ∧ (∀ b i o es len cap, x = .sl b i o es len cap → es = ks.length ∧ b ∈ rd ∧ ∃ bl, H b = some bl ∧ isKv bl = false) := by
  unfold slRows at h
  split at h
  · exact ⟨.inl rfl, fun _ _ _ _ _ _ h => by cases h⟩
  · rename_i b i o es len cap
    refine ⟨.inr ⟨_, _, _, _, _, _, rfl⟩, fun b' i' o' es' len' cap' he => ?_⟩
    cases he
    split at h
    · rename_i bl hbl
      split at h
      · split at h
        · rename_i hk
          simp only [Bool.and_eq_true, decide_eq_true_eq, Nat.beq_eq] at hk
          simp at h
          exact ⟨hk.2, by simp [← h.2.1], _, hbl, rfl⟩
        · cases h
      · cases h
    · cases h
  · cases h

theorem slCells_form {H : Hp} {es : Nat} {x : V} {ys : List V} {rd : List Nat} (h : slCells H es x = some (ys, rd)) :
    (x = .nils ∨ ∃ b i o es len cap, x = .sl b i o es len cap) ∧ (∀ b i o es' len cap, x = .sl b i o es' len cap → es' = es ∧ b ∈ rd ∧ ∃ bl, H b = some bl ∧ isKv bl = false) := by
  unfold slCells at h
  split at h
  · exact ⟨.inl rfl, fun _ _ _ _ _ _ h => by cases h⟩
  · rename_i b i o es' len cap
    refine ⟨.inr ⟨_, _, _, _, _, _, rfl⟩, fun b' i' o' es2 len' cap' he => ?_⟩
    cases he
    split at h
    · rename_i bl hbl
      split at h
      · split at h
        · rename_i hk
          simp only [Bool.and_eq_true, Nat.beq_eq] at hk
          simp at h
          exact ⟨hk.1, by simp [← h.2], _, hbl, rfl⟩
        · cases h
      · cases h
    · cases h
  · cases h
theorem flat_ints_append (k : IntKind) (xs ys : List Int) : flat (.ints k (xs ++ ys)) = flat (.ints k xs) ++ flat (.ints k ys) := by simp [flat]
theorem flat_rows_append (ks : List K) (xs ys : List (List V)) : flat (.rows ks (xs ++ ys)) = flat (.rows ks xs) ++ flat (.rows ks ys) := by simp [flat]

theorem ints_one (k : IntKind) (ys : List Int) : ((ys.map (V.int k)).all V.one) = true := by simp [V.one]
theorem proj_one {k : K} (hk : k ≠ .oth) (v : V) : (proj k v).one = true := by cases k <;> simp_all [proj, V.one]
theorem rows_one {ks : List K} (hk : K.oth ∉ ks) (ys : List (List V)) : (flat (.rows ks ys)).all V.one = true := by
  rw [List.all_eq_true]
  intro v hv
  rw [flat_rows, List.mem_flatMap] at hv
  obtain ⟨r, _, hv⟩ := hv
  simp only [rowOf, List.mem_map] at hv
  obtain ⟨⟨k, j⟩, hm, rfl⟩ := hv
  exact proj_one (by rintro rfl; exact hk (by have := List.mem_zipIdx hm; exact this.2.2 ▸ List.getElem_mem _)) _

theorem appendV_run {H : Hp} {n : Nat} {ts : Array TypeId} {ty : TypeId} {s x : V} {X Y : Value} {r : Eff} {w : World} (h : (appendV P H n ts.toList s x).den = some r) (hx : VRel ρ s X) (hy : VRel ρ x Y)
    (hB : ∀ b ∈ r.rd, ∀ bl, H b = some bl → ∃ s, ρ b = some s ∧ BRel ρ s bl w) (hn : (∃ y, (n, y) ∈ r.wr) → ρ n = none) :
    ∃ v w' ρ', (Builtin.append_ ts ty #[X, Y]).run P w = .ok v w' ∧ Post ρ r w v w' ρ' := by
  unfold appendV at h
  split at h
  · rename_i t tx hts
    have hts' : ts = #[t, tx] := by apply Array.ext'; simpa using hts
    subst hts'
    split at h
    · rename_i e gone hu hg
      split at h
      · rename_i zc es hz hes
        obtain ⟨z, hzz, rfl⟩ := Option.map_eq_some_iff.1 hz
        rw [den_lit] at h
        obtain ⟨hzl, h⟩ := h
        simp only [Nat.beq_eq] at hzl
        split at h
        · -- a string
          rename_i k y hk htx
          split at h
          · rename_i xs r1 c1 h1
            rw [den_lit, den_need] at h
            obtain ⟨hc, hc1, h⟩ := h
            simp only [Bool.and_eq_true, decide_eq_true_eq, Nat.beq_eq] at hc
            obtain ⟨rfl, rfl⟩ := hc
            obtain ⟨rfl, hb, hes1, hbt, htight⟩ := den_appRes h
            simp only [VRel] at hy; subst hy
            obtain ⟨f1, f2⟩ := slInts_form h1
            obtain ⟨olds, ho, hsrc⟩ := slInts_src h1 hc1 hx hB
            have hlen : (numsOf y).length = y.size := by simp [numsOf]
            have hfc : ∀ w' : World, (Builtin.firstCells 1 y.size (.string y)).run P w' = .ok ((numsOf y).map (Value.int .u8)).toArray w' := by
              intro w'
              simp only [Builtin.firstCells, Sem.run_pure]
              congr 1
              apply Array.ext'
              have hx : (y.extract 0 y.size) = y := by
                apply ByteArray.ext
                simp
              rw [hx]
              simp [numsOf]
            exact append_post (news := (numsOf y).map (Value.int .u8)) (m := y.size) hu hes hes1 hzz hzl htx (.inl rfl) hx hg hsrc (by simp [Builtin.lenOf]) (hfc w) (hfc w.drew) (by simp [hlen]) (by intro x hx; simp at hx; obtain ⟨a, _, rfl⟩ := hx; rfl)
              (fun b i o es' len cap he => by obtain ⟨_, hm, bl, hbl, hkv⟩ := f2 _ _ _ _ _ _ he; obtain ⟨sg, h1, h2⟩ := hB b hm bl hbl; exact ⟨sg, bl, h1, h2, hkv⟩) rfl (fun b i o es' len cap he => (f2 _ _ _ _ _ _ he).1) htight (src_lenOf hx hsrc f1)
              (by rcases f1 with rfl | ⟨_, _, _, _, _, _, rfl⟩ <;> simp)
              (by rw [flat_ints_append]; refine ho.append ?_; refine VsRel.of_get (by simp [flat]) fun i v x hv hx => ?_; simp only [flat, List.getElem?_map] at hv hx; obtain ⟨a, ha, rfl⟩ := Option.map_eq_some_iff.1 hv; rw [ha] at hx; simp at hx; subst hx; simp [VRel])
              (by simp [hlen]) hb (by have := Nat.le_mul_of_pos_right (xs ++ numsOf y).length hbt; omega) (hn ⟨_, List.mem_append.2 (.inr (List.mem_singleton.2 rfl))⟩)
          · simp [den_fail] at h
        · rename_i x' k e2 hk htx
          split at h
          · rename_i xs r1 c1 ys r2 c2 h1 h2
            rw [den_lit, den_need] at h
            obtain ⟨hc, hcc, h⟩ := h
            simp only [Bool.and_eq_true, Nat.beq_eq] at hc hcc
            subst hc
            obtain ⟨rfl, hb, hes1, hbt, htight⟩ := den_appRes h
            obtain ⟨f1, f2⟩ := slInts_form h1
            obtain ⟨olds, ho, hsrc⟩ := slInts_src h1 hcc.1 hx (fun b hb => hB b (by simp [hb]))
            obtain ⟨news, hne, hsrc2⟩ := slInts_src h2 hcc.2 hy (fun b hb => hB b (by simp [hb]))
            exact append_post hu hes hes1 hzz hzl htx (.inr ⟨e2, rfl⟩) hx hg hsrc (lenOf_src hsrc2) (hsrc2.first fun _ => rfl) (hsrc2.first fun a => by simp) (by have := hne.length; simp at this ⊢; exact this) (ones_rel hne (ints_one k ys))
              (fun b i o es' len cap he => by obtain ⟨_, hm, bl, hbl, hkv⟩ := f2 _ _ _ _ _ _ he; obtain ⟨sg, h1, h2⟩ := hB b (by simp [hm]) bl hbl; exact ⟨sg, bl, h1, h2, hkv⟩) rfl (fun b i o es' len cap he => (f2 _ _ _ _ _ _ he).1) htight (src_lenOf hx hsrc f1)
              (by rcases f1 with rfl | ⟨_, _, _, _, _, _, rfl⟩ <;> simp)
              (by rw [flat_ints_append]; exact ho.append hne)
              (by simp) hb (by have := Nat.le_mul_of_pos_right (xs ++ ys).length hbt; omega) (hn ⟨_, List.mem_append.2 (.inr (List.mem_singleton.2 rfl))⟩)
          · simp [den_fail] at h
        · rename_i _ ks x' e2 htx _
          split at h
          · rename_i xs r1 c1 ys r2 c2 hfk h1 h2
            rw [den_lit, den_need] at h
            obtain ⟨hc, hcc, h⟩ := h
            simp only [Bool.and_eq_true, Nat.beq_eq] at hc hcc
            obtain ⟨rfl, hb, hes1, hbt, htight⟩ := den_appRes h
            obtain ⟨f1, f2⟩ := slRows_form h1
            obtain ⟨olds, ho, hsrc⟩ := slRows_src h1 hcc.1 hx (fun b hb => hB b (by simp [hb]))
            obtain ⟨news, hne, hsrc2⟩ := slRows_src h2 hcc.2 hy (fun b hb => hB b (by simp [hb]))
            rw [← hc] at hsrc hsrc2 ⊢
            exact append_post hu hes (by omega) hzz hzl htx (.inr ⟨e2, rfl⟩) hx hg hsrc (lenOf_src hsrc2) (hsrc2.first fun _ => rfl) (hsrc2.first fun a => by simp) (by obtain ⟨_, _, _, _, hl, _⟩ := hsrc2; exact hl) (ones_rel hne (rows_one (flatK_mem hfk) ys))
              (fun b i o es' len cap he => by obtain ⟨_, hm, bl, hbl, hkv⟩ := f2 _ _ _ _ _ _ he; obtain ⟨sg, h1, h2⟩ := hB b (by simp [hm]) bl hbl; exact ⟨sg, bl, h1, h2, hkv⟩) rfl (fun b i o es' len cap he => by rw [hc]; exact (f2 _ _ _ _ _ _ he).1) htight (src_lenOf hx hsrc f1)
              (by rcases f1 with rfl | ⟨_, _, _, _, _, _, rfl⟩ <;> simp)
              (by rw [flat_rows_append]; exact ho.append hne)
              (by simp) hb (by have := Nat.le_mul_of_pos_right (xs ++ ys).length hbt; omega) (hn ⟨_, List.mem_append.2 (.inr (List.mem_singleton.2 rfl))⟩)
          · simp [den_fail] at h
          · split at h
            · rename_i cs r1 ds r2 h1 h2
              obtain ⟨rfl, hb, hes1, hbt, htight⟩ := den_appRes h
              obtain ⟨f1, f2⟩ := slCells_form h1
              obtain ⟨⟨olds, ho, hsrc⟩, _⟩ := slCells_src h1 hx (fun b hb => hB b (by simp [hb]))
              obtain ⟨⟨news, hne, hsrc2⟩, hone⟩ := slCells_src h2 hy (fun b hb => hB b (by simp [hb]))
              exact append_post hu hes hes1 hzz hzl htx (.inr ⟨e2, rfl⟩) hx hg hsrc (lenOf_src hsrc2) (hsrc2.first fun _ => rfl) (hsrc2.first fun a => by simp) (by obtain ⟨_, _, _, _, hl, _⟩ := hsrc2; exact hl) (ones_rel hne hone)
                (fun b i o es' len cap he => by obtain ⟨_, hm, bl, hbl, hkv⟩ := f2 _ _ _ _ _ _ he; obtain ⟨sg, h1, h2⟩ := hB b (by simp [hm]) bl hbl; exact ⟨sg, bl, h1, h2, hkv⟩) rfl (fun b i o es' len cap he => (f2 _ _ _ _ _ _ he).1) htight (src_lenOf hx hsrc f1)
                (by rcases f1 with rfl | ⟨_, _, _, _, _, _, rfl⟩ <;> simp)
                (by rw [show flat (.cells (cs ++ ds)) = cs ++ ds from rfl]; exact ho.append hne)
                rfl hb ((fun q (hq : q * bytesT P e ≤ 140737488355328) => (by have := Nat.le_mul_of_pos_right q hbt; omega : q ≤ 9223372036854775807)) _ hb) (hn ⟨_, List.mem_append.2 (.inr (List.mem_singleton.2 rfl))⟩)
            · simp [den_fail] at h
        · simp [den_fail] at h
      · simp [den_fail] at h
    · simp [den_fail] at h
  · simp [den_fail] at h

theorem zeroCells_int (k : IntKind) (z0 : Int) (m : Nat) : (Builtin.zeroCells (Value.int k z0).cells m).toList = List.replicate m (.int k z0) := by
  apply List.ext_getElem?
  intro i
  simp [Builtin.zeroCells, Value.cells, List.getElem?_replicate]
  split <;> simp_all [Nat.mod_one]

theorem ofValue_int {y : Value} {k : IntKind} {z : Int} (h : ofValue y = .int k z) : y = .int k z := by
  unfold ofValue at h
  split at h
  · cases h
  · cases h
  · unfold ofScalar at h
    split at h
    all_goals first
      | (cases h; rfl)
      | cases h
      | (rename_i b _ _; cases b <;> simp [V.lit] at h)

theorem appendZ_run {H : Hp} {n : Nat} {t tx ty : TypeId} {ki kk : IntKind} {s : V} {l : Int} {X : Value} {r : Eff} {w : World} (h : (appendZ P H n t s l).den = some r) (htx : P.underlying tx = some (.int ki)) (hx : VRel ρ s X)
    (hB : ∀ b ∈ r.rd, ∀ bl, H b = some bl → ∃ s, ρ b = some s ∧ BRel ρ s bl w) (hn : (∃ y, (n, y) ∈ r.wr) → ρ n = none) :
    ∃ v w' ρ', (Builtin.append_ #[t, tx] ty #[X, .int kk l]).run P w = .ok v w' ∧ Post ρ r w v w' ρ' := by
  unfold appendZ at h
  split at h
  · rename_i e gone hu hg
    split at h
    · rename_i k z0 es hz hes
      split at h
      · rename_i xs r1 c1 h1
        rw [den_lit, den_need] at h
        obtain ⟨hc, hcc, h⟩ := h
        simp only [Bool.and_eq_true, Nat.beq_eq, decide_eq_true_eq] at hc hcc
        subst hc
        obtain ⟨⟨hc1, hl0⟩, hl1⟩ := hcc
        obtain ⟨rfl, hb, hes1, hbt, htight⟩ := den_appRes h
        obtain ⟨f1, f2⟩ := slInts_form h1
        obtain ⟨olds, ho, hsrc⟩ := slInts_src h1 hc1 hx hB
        have hlb : l * (bytesT P e : Int) ≤ 140737488355328 := by
          have h2 : l.toNat ≤ (xs ++ List.replicate l.toNat z0).length := by simp
          have h3 := Nat.le_trans (Nat.mul_le_mul_right (bytesT P e) h2) hb
          have h4 : ((l.toNat * bytesT P e : Nat) : Int) ≤ 140737488355328 := by omega
          rw [Int.natCast_mul, Int.toNat_of_nonneg hl0] at h4
          exact h4
        obtain ⟨y, hy, hyy, hzi⟩ := run_zeroValue hz w
        have hye : y = .int k z0 := ofValue_int hyy.symm
        subst hye
        have hxl : (xs ++ List.replicate l.toNat z0).length = xs.length + l.toNat := by simp
        have hnews := zeroCells_int k z0 l.toNat
        exact append_post' (t := t) (tx := tx) (ty := ty) (e := e) (es := 1) (n := xs.length) (m := l.toNat) (Y := .int kk l) (olds := olds) (news := (Builtin.zeroCells (Value.int k z0).cells l.toNat).toList) (Nat.le_refl 1) hz rfl hx hg hsrc
          (fun A c hc => app_fit0 hu hes hzi htx hl0 hlb hl1 rfl hc (Nat.le_refl 1))
          (fun A c z hz' hold hc => by
            rw [hzi] at hz'
            cases hz'
            exact app_grow0 hu hes hzi htx hl0 hlb hl1 rfl (Nat.le_refl 1) hold hc (by rw [← hxl]; exact hb) (by have := Nat.le_mul_of_pos_right (xs ++ List.replicate l.toNat z0).length hbt; omega))
          (by rw [hnews]; simp) (by rw [hnews]; intro x hx; simp at hx; obtain ⟨_, rfl⟩ := hx; rfl)
          (fun b i o es' len cap he => by obtain ⟨_, hm, bl, hbl, hkv⟩ := f2 _ _ _ _ _ _ he; obtain ⟨sg, h1, h2⟩ := hB b hm bl hbl; exact ⟨sg, bl, h1, h2, hkv⟩) rfl (fun b i o es' len cap he => (f2 _ _ _ _ _ _ he).1) htight (src_lenOf hx hsrc f1)
          (by
            rw [flat_ints_append, hnews]
            refine ho.append ?_
            refine VsRel.of_get (by simp [flat]) fun i v x hv hx => ?_
            simp only [flat, List.getElem?_map, List.getElem?_replicate] at hv hx
            split at hv
            · rename_i hi
              rw [if_pos hi] at hx
              simp at hv hx
              subst hv hx
              simp [VRel]
            · simp at hv)
          hxl (hn ⟨_, List.mem_append.2 (.inr (List.mem_singleton.2 rfl))⟩)
      · simp [den_fail] at h
    · simp [den_fail] at h
  · simp [den_fail] at h

theorem appendAny_run {H : Hp} {n : Nat} {ts : Array TypeId} {ty : TypeId} {s x : V} {X Y : Value} {r : Eff} {w : World} (h : (appendAny P H n ts.toList s x).den = some r) (hx : VRel ρ s X) (hy : VRel ρ x Y)
    (hB : ∀ b ∈ r.rd, ∀ bl, H b = some bl → ∃ s, ρ b = some s ∧ BRel ρ s bl w) (hn : (∃ y, (n, y) ∈ r.wr) → ρ n = none) :
    ∃ v w' ρ', (Builtin.append_ ts ty #[X, Y]).run P w = .ok v w' ∧ Post ρ r w v w' ρ' := by
  unfold appendAny at h
  split at h
  · rename_i t tx kk l hts
    have hts' : ts = #[t, tx] := by apply Array.ext'; simpa using hts
    subst hts'
    split at h
    · rename_i ki htx
      simp only [VRel] at hy
      subst hy
      exact appendZ_run h htx hx hB hn
    · simp [den_fail] at h
  · exact appendV_run h hx hy hB hn
end
end Go.Rx

namespace Go.Rx
section
variable {P : Program} {ρ : Rho}

theorem ints_write_spec (k : IntKind) (xs ys : List Int) (i : Nat) (hi : i + ys.length ≤ xs.length) :
    (flat (.ints k (xs.take i ++ ys ++ xs.drop (i + ys.length)))).length = (flat (.ints k xs)).length ∧ i + (ys.map (V.int k)).length ≤ (flat (.ints k xs)).length ∧
    ∀ (j : Nat) (u : V), (flat (.ints k (xs.take i ++ ys ++ xs.drop (i + ys.length))))[j]? = some u →
      (i ≤ j ∧ j < i + (ys.map (V.int k)).length ∧ ∃ v, (ys.map (V.int k))[j - i]? = some v ∧ ∀ x, VRel ρ v x → VRel ρ u x) ∨
      (¬ (i ≤ j ∧ j < i + (ys.map (V.int k)).length) ∧ ∃ u', (flat (.ints k xs))[j]? = some u' ∧ ∀ x, VRel ρ u' x → VRel ρ u x) := by
  have ht : (xs.take i).length = i := by simp; omega
  refine ⟨by simp [flat]; omega, by simp [flat]; omega, fun j u hu => ?_⟩
  simp only [flat, List.getElem?_map, List.length_map] at hu ⊢
  obtain ⟨n, hn, rfl⟩ := Option.map_eq_some_iff.1 hu
  rw [List.append_assoc] at hn
  by_cases hj : i ≤ j
  · rw [List.getElem?_append_right (by omega), ht] at hn
    by_cases hj2 : j < i + ys.length
    · rw [List.getElem?_append_left (by omega)] at hn
      exact .inl ⟨hj, hj2, .int k n, by simp [hn], fun _ h => h⟩
    · rw [List.getElem?_append_right (by omega), List.getElem?_drop, show i + ys.length + (j - i - ys.length) = j by omega] at hn
      exact .inr ⟨by omega, .int k n, by simp [hn], fun _ h => h⟩
  · rw [List.getElem?_append_left (by omega), List.getElem?_take, if_pos (by omega)] at hn
    exact .inr ⟨by omega, .int k n, by simp [hn], fun _ h => h⟩

theorem zeroBody_kv {z : V} {n : Nat} {bl : Blk} (h : zeroBody z n = some bl) : isKv bl = false := by
  unfold zeroBody at h
  split at h
  · cases h; rfl
  · split at h
    · cases h; rfl
    · cases h
/-- What copy does, whatever is copied. -/
theorem copy_post {t tx ty e : TypeId} {b i len : Nat} {cap : Option Nat} {X Y : Value} {k : IntKind} {xs ys : List Int} {rd : List Nat} {w : World} {sLen : Nat} {s : Seg}
    (ht : P.underlying t = some (.slice e)) (he : sizeT P e = some 1) (hx : VRel ρ (.sl b i 0 1 len cap) X) (hs : ρ b = some s) (hb : BRel ρ s (.ints k xs) w)
    (hlen : (Builtin.lenOf Y).run P w = .ok sLen w) (hY : ∃ cells : List Value, VsRel ρ (ys.map (V.int k)) cells ∧ (Builtin.firstCells 1 (min sLen len) Y).run P w = .ok cells.toArray w) (hm : ys.length = min sLen len) (hfit : i + len ≤ xs.length) :
    ∃ v w' ρ', (Builtin.copy_ #[t, tx] ty #[X, Y]).run P w = .ok v w' ∧ Post ρ ⟨.int .i64 (min sLen len : Nat), rd, [(b, some (.ints k (xs.take i ++ ys ++ xs.drop (i + min sLen len))))]⟩ w v w' ρ' := by
  rw [← hm] at hY ⊢
  obtain ⟨cells, hr, hfc⟩ := hY
  have hX := hx
  simp only [VRel] at hX
  obtain ⟨s', a, c, hs', rfl, hlc, hq, ha⟩ := hX
  rw [hs] at hs'; cases hs'
  have hcl := hr.length
  simp at hcl
  have hnat : Nat.min sLen len = ys.length := hm.symm
  rcases Nat.eq_zero_or_pos c with h0 | h0
  · subst h0
    have hl0 : len = 0 := by omega
    subst hl0
    have hy0 : ys = [] := List.eq_nil_of_length_eq_zero (by rw [hm]; simp)
    subst hy0
    have hc0 : cells = [] := List.eq_nil_of_length_eq_zero (by simpa using hcl)
    subst hc0
    refine ⟨goInt 0, w, ρ, ?_, ?_⟩
    · simp only [List.length_nil] at hfc hnat
      cases a <;> simp [Builtin.copy_, run_underlying ht, run_sizeOf he, hlen, hnat, hfc, storeCells]
    · simp only [List.append_nil, List.length_nil, Nat.add_zero, List.take_append_drop]
      refine ⟨Le.refl _, fun _ _ h => .inl h, by simp [goInt, VRel], ?_, Fr.refl _ _ _, by simp_all, by simp_all⟩
      intro b' x hm
      simp at hm
      obtain ⟨rfl, rfl⟩ := hm
      exact .inr ⟨_, s, rfl, hs, hb⟩
  · obtain ⟨rfl, hroom⟩ := ha h0
    obtain ⟨q1, q2, q3⟩ := ints_write_spec (ρ := ρ) k xs ys i (by omega)
    have hone := ones_rel hr (ints_one k ys)
    obtain ⟨hrun, hb'⟩ := write_run (P := P) (p := i) hb rfl rfl hr hone q1 q2 q3
    obtain ⟨h1, h2, h3, h4⟩ := setCells_os s.r cells (s.base + i) w
    have hpos : 0 < s.R := by omega
    refine ⟨goInt ys.length, _, ρ, ?_, Post.write hs h1 h2 h3 h4 (fun i hi => setCells_other _ _ _ _ _ hi) hpos hb' (by simp [goInt, VRel])⟩
    simp only [Nat.mul_one, Nat.add_zero] at hrun ⊢
    simp [Builtin.copy_, run_underlying ht, run_sizeOf he, hlen, hnat, hfc, hrun]

/-- The same, into a row of cells. -/
theorem copy_post_cells {t tx ty e : TypeId} {b i o len : Nat} {cap : Option Nat} {X Y : Value} {k : IntKind} {cs : List V} {ys : List Int} {rd : List Nat} {w : World} {sLen : Nat} {s : Seg} {bl' : Blk}
    (ht : P.underlying t = some (.slice e)) (he : sizeT P e = some 1) (hx : VRel ρ (.sl b i o 1 len cap) X) (hs : ρ b = some s) (hb : BRel ρ s (.cells cs) w)
    (hlen : (Builtin.lenOf Y).run P w = .ok sLen w) (hY : ∃ cells : List Value, VsRel ρ (ys.map (V.int k)) cells ∧ (Builtin.firstCells 1 (min sLen len) Y).run P w = .ok cells.toArray w) (hm : ys.length = min sLen len)
    (hst : (storeAt cs (i + o) (ys.map (V.int k))).den = some bl') :
    ∃ v w' ρ', (Builtin.copy_ #[t, tx] ty #[X, Y]).run P w = .ok v w' ∧ Post ρ ⟨.int .i64 (min sLen len : Nat), rd, [(b, some bl')]⟩ w v w' ρ' := by
  rw [← hm] at hY ⊢
  obtain ⟨cells, hr, hfc⟩ := hY
  have hX := hx
  simp only [VRel] at hX
  obtain ⟨s', a, c, hs', rfl, hlc, hq, ha⟩ := hX
  rw [hs] at hs'; cases hs'
  have hcl := hr.length
  simp at hcl
  have hnat : Nat.min sLen len = ys.length := hm.symm
  have hst0 := hst
  unfold storeAt at hst0
  simp only [den_need, den_leaf, decide_eq_true_eq] at hst0
  obtain ⟨hfit, hbe⟩ := hst0
  rcases Nat.eq_zero_or_pos c with h0 | h0
  · subst h0
    have hl0 : len = 0 := by omega
    subst hl0
    have hy0 : ys = [] := List.eq_nil_of_length_eq_zero (by rw [hm]; simp)
    subst hy0
    have hc0 : cells = [] := List.eq_nil_of_length_eq_zero (by simpa using hcl)
    subst hc0
    refine ⟨goInt 0, w, ρ, ?_, ?_⟩
    · simp only [List.length_nil] at hfc hnat
      cases a <;> simp [Builtin.copy_, run_underlying ht, run_sizeOf he, hlen, hnat, hfc, storeCells]
    · have : bl' = .cells cs := by rw [← hbe]; simp
      subst this
      refine ⟨Le.refl _, fun _ _ h => .inl h, by simp [goInt, VRel], ?_, Fr.refl _ _ _, by simp_all, by simp_all⟩
      intro b' x hm
      simp at hm
      obtain ⟨rfl, rfl⟩ := hm
      exact .inr ⟨_, s, rfl, hs, hb⟩
  · obtain ⟨rfl, hroom⟩ := ha h0
    obtain ⟨q1, q2, q3⟩ := storeAt_spec (ρ := ρ) hst
    have hone := ones_rel hr (ints_one k ys)
    obtain ⟨hrun, hb'⟩ := write_run (P := P) (p := i + o) hb rfl (storeAt_kv hst) hr hone q1 q2 q3
    obtain ⟨h1, h2, h3, h4⟩ := setCells_os s.r cells (s.base + (i + o)) w
    have hpos : 0 < s.R := by omega
    refine ⟨goInt ys.length, _, ρ, ?_, Post.write hs h1 h2 h3 h4 (fun i hi => setCells_other _ _ _ _ _ hi) hpos hb' (by simp [goInt, VRel])⟩
    simp only [Nat.mul_one] at hrun ⊢
    simp [Builtin.copy_, run_underlying ht, run_sizeOf he, hlen, hnat, hfc, hrun]

theorem copyV_run {H : Hp} {ts : Array TypeId} {ty : TypeId} {d x : V} {X Y : Value} {r : Eff} {w : World} (h : (copyV P H ts.toList d x).den = some r) (hd : VRel ρ d X) (hy : VRel ρ x Y)
    (hB : ∀ b ∈ r.rd, ∀ bl, H b = some bl → ∃ s, ρ b = some s ∧ BRel ρ s bl w) :
    ∃ v w' ρ', (Builtin.copy_ ts ty #[X, Y]).run P w = .ok v w' ∧ Post ρ r w v w' ρ' := by
  unfold copyV at h
  split at h
  · rename_i t tx b i len cap hts
    have hts' : ts = #[t, tx] := by apply Array.ext'; simpa using hts
    subst hts'
    split at h
    · rename_i e k' xs hu hbl
      split at h
      · rename_i y he htx
        simp only [den_lit, den_need, den_leaf, decide_eq_true_eq] at h
        obtain ⟨rfl, hfit, rfl⟩ := h
        simp only [VRel] at hy; subst hy
        obtain ⟨s, hs, hb⟩ := hB b (by simp) _ hbl
        have hmn : ((numsOf y).take (min y.size len)).length = min y.size len := by
          have : (numsOf y).length = y.size := by simp [numsOf]
          rw [List.length_take, this]; omega
        exact copy_post hu he hd hs hb (sLen := y.size) (by simp [Builtin.lenOf]) ⟨((numsOf y).take (min y.size len)).map (Value.int .u8), VsRel.of_get (by simp) (fun i v x hv hx => by
            simp only [List.getElem?_map] at hv hx; obtain ⟨a, ha, rfl⟩ := Option.map_eq_some_iff.1 hv; rw [ha] at hx; simp at hx; subst hx; simp [VRel]), by
            simp only [Builtin.firstCells, Sem.run_pure]
            congr 1
            apply Array.ext'
            simp [numsOf, List.map_take, Function.comp_def]⟩ hmn hfit
      · rename_i e2 x' he htx
        split at h
        · rename_i ys rd c h1
          simp only [den_need, den_leaf, Bool.and_eq_true, decide_eq_true_eq] at h
          obtain ⟨⟨hc, hfit⟩, rfl⟩ := h
          obtain ⟨s, hs, hb⟩ := hB b (by simp) _ hbl
          obtain ⟨news, hne, hsrc⟩ := slInts_src h1 hc hy (fun b hb => hB b (by simp [hb]))
          have hmn : (ys.take (min ys.length len)).length = min ys.length len := by rw [List.length_take]; omega
          refine copy_post hu he hd hs hb (sLen := ys.length) (lenOf_src hsrc) ⟨news.take (min ys.length len), by rw [List.map_take]; exact hne.take _, ?_⟩ hmn hfit
          obtain ⟨A, c', rfl, hnc, hnl, hcell⟩ := hsrc
          rcases Nat.eq_zero_or_pos (min ys.length len) with h0 | h0
          · rw [h0]; cases A <;> simp [Builtin.firstCells, loadCells, loadCellsFrom]
          · obtain ⟨r, o, rfl, hcc⟩ := hcell (by omega)
            exact run_firstCells_some w 1 _ ⟨r, o, none⟩ _ c' _ (by simp; omega) fun j v hv => by
              rw [add_plain']
              rw [List.getElem?_take] at hv
              split at hv
              · exact hcc j v hv
              · cases hv
        · simp [den_fail] at h
      · simp [den_fail] at h
    · simp [den_fail] at h
  · rename_i t tx b i o len cap hno hts
    have hts' : ts = #[t, tx] := by apply Array.ext'; simpa using hts
    subst hts'
    split at h
    · rename_i e cs hu hbl
      split at h
      · rename_i k e2 he hek htx
        split at h
        · rename_i ys rd c h1
          rw [den_need, den_bind_some] at h
          obtain ⟨hc, bl', hst, h⟩ := h
          simp only [den_leaf] at h; subst h
          obtain ⟨s, hs, hb⟩ := hB b (by simp) _ hbl
          obtain ⟨news, hne, hsrc⟩ := slInts_src h1 hc hy (fun b hb => hB b (by simp [hb]))
          have hmn : (ys.take (min ys.length len)).length = min ys.length len := by rw [List.length_take]; omega
          refine copy_post_cells hu he hd hs hb (sLen := ys.length) (lenOf_src hsrc) ⟨news.take (min ys.length len), by rw [List.map_take]; exact hne.take _, ?_⟩ hmn hst
          obtain ⟨A, c', rfl, hnc, hnl, hcell⟩ := hsrc
          rcases Nat.eq_zero_or_pos (min ys.length len) with h0 | h0
          · rw [h0]; cases A <;> simp [Builtin.firstCells, loadCells, loadCellsFrom]
          · obtain ⟨r, o, rfl, hcc⟩ := hcell (by omega)
            exact run_firstCells_some w 1 _ ⟨r, o, none⟩ _ c' _ (by simp; omega) fun j v hv => by
              rw [add_plain']
              rw [List.getElem?_take] at hv
              split at hv
              · exact hcc j v hv
              · cases hv
        · simp [den_fail] at h
      · simp [den_fail] at h
    · simp [den_fail] at h
  · simp [den_fail] at h

theorem bound_some {x : Option V} {X : Option Value} {d : Nat} {l : Int} {l' : Nat} (h : bound x d = some (l, l')) (hr : ∀ v, x = some v → ∃ u, X = some u ∧ VRel ρ v u) (hn : x = none → X = none) (h0 : 0 ≤ l) :
    l' = l.toNat ∧ ((X = none ∧ l = d) ∨ ∃ k, X = some (.int k l)) := by
  unfold bound at h
  split at h
  · simp at h; obtain ⟨rfl, rfl⟩ := h; exact ⟨by simp, .inl ⟨hn rfl, rfl⟩⟩
  · rename_i k n
    simp at h; obtain ⟨rfl, rfl⟩ := h
    obtain ⟨u, hu, ru⟩ := hr _ rfl
    simp only [VRel] at ru; subst ru
    exact ⟨rfl, .inr ⟨k, hu⟩⟩
  · cases h

theorem sliceBounds_run {isS : Bool} {len cap : Nat} {LO HI : Option Value} {l h : Int} (hL : (LO = none ∧ l = 0) ∨ ∃ k, LO = some (.int k l)) (hH : (HI = none ∧ h = len) ∨ ∃ k, HI = some (.int k h))
    (h1 : 0 ≤ l) (h2 : l ≤ h) (h3 : h ≤ cap) (w : World) :
    (Instr.sliceBounds isS len cap LO HI none).run P w = .ok (l.toNat, h.toNat, cap) w := by
  have hh : 0 ≤ h ∧ h ≤ (cap : Int) := ⟨by omega, h3⟩
  have hl : ∀ y : Nat, y = h.toNat → 0 ≤ l ∧ l ≤ (y : Int) := fun y hy => ⟨h1, by omega⟩
  rcases hL with ⟨rfl, rfl⟩ | ⟨k, rfl⟩ <;> rcases hH with ⟨rfl, rfl⟩ | ⟨k', rfl⟩
  · simp [Instr.sliceBounds]
  · simp [Instr.sliceBounds, Instr.sliceBound, asIntOf, hh]
  · have := hl len (by simp); simp [Instr.sliceBounds, Instr.sliceBound, asIntOf, this]
  · have := hl h.toNat rfl
    have hmax : ¬ (max h 0 < l) := by omega
    simp [Instr.sliceBounds, Instr.sliceBound, asIntOf, hh, this]
    intro hq; exact absurd hq hmax

theorem sliceV_run {t : TypeId} {x : V} {X : Value} {lo hi mx : Option V} {LO HI MX : Option Value} {v : V} (h : (sliceV P t x lo hi mx).den = some v) (hx : VRel ρ x X)
    (hlo : ∀ v, lo = some v → ∃ u, LO = some u ∧ VRel ρ v u) (hlo' : lo = none → LO = none) (hhi : ∀ v, hi = some v → ∃ u, HI = some u ∧ VRel ρ v u) (hhi' : hi = none → HI = none) (hmx : mx = none → MX = none) (w : World) :
    ∃ u, (Instr.sliceAt t X LO HI MX).run P w = .ok u w ∧ VRel ρ v u := by
  unfold sliceV at h
  split at h
  · rename_i s hu
    have := hmx rfl; subst this
    simp only [VRel] at hx; subst hx
    split at h
    · rename_i l l' hh h' hl hhh
      simp only [den_need, den_leaf, Bool.and_eq_true, decide_eq_true_eq] at h
      obtain ⟨⟨⟨h1, h2⟩, h3⟩, rfl⟩ := h
      obtain ⟨rfl, hL⟩ := bound_some hl hlo hlo' h1
      obtain ⟨rfl, hH⟩ := bound_some hhh hhi hhi' (by omega)
      refine ⟨.string (s.extract l.toNat hh.toNat), ?_, by simp [VRel]⟩
      simp [Instr.sliceAt, run_underlying hu, Instr.slice, sliceBounds_run (P := P) (by simpa using hL) hH h1 h2 h3]
    · simp [den_fail] at h
  · rename_i e b i o es len cap hu
    have := hmx rfl; subst this
    split at h
    · rename_i l l' hh h' hl hhh
      split at h
      · rename_i es' hes
        simp only [den_lit, den_need, den_leaf, Bool.and_eq_true, decide_eq_true_eq, Nat.beq_eq] at h
        obtain ⟨rfl, ⟨⟨h1, h2⟩, h3⟩, rfl⟩ := h
        obtain ⟨rfl, hL⟩ := bound_some hl hlo hlo' h1
        obtain ⟨rfl, hH⟩ := bound_some hhh hhi hhi' (by omega)
        simp only [VRel] at hx
        obtain ⟨s, a, c, hs, rfl, hlc, hq, ha⟩ := hx
        have hb := sliceBounds_run (P := P) (isS := true) (len := len) (cap := c) (by simpa using hL) hH h1 h2 (by omega) w
        refine ⟨.slice (if c = l.toNat then a else a.map (·.add (l.toNat * es'))) (hh.toNat - l.toNat) (c - l.toNat), ?_, ?_⟩
        · simp [Instr.sliceAt, run_underlying hu, Instr.slice, hb, run_sizeOf hes]
        · simp only [VRel]
          refine ⟨s, _, _, hs, rfl, by omega, ?_, fun h0 => ?_⟩
          · intro q hq'
            obtain ⟨q', hq2, rfl⟩ := Option.map_eq_some_iff.1 hq'
            have := hq _ hq2
            exact ⟨by omega, this.2⟩
          · obtain ⟨rfl, hroom⟩ := ha (by omega)
            rw [if_neg (by omega)]
            simp only [Option.map_some, add_plain', Nat.add_mul]
            refine ⟨by congr 2; omega, ?_⟩
            have : c * es' = l.toNat * es' + (c - l.toNat) * es' := by rw [← Nat.add_mul]; congr 1; omega
            omega
      · simp [den_fail] at h
    · simp [den_fail] at h
  · rename_i e hu
    have := hmx rfl; subst this
    simp only [VRel] at hx; subst hx
    split at h
    · rename_i l l' hh h' hl hhh
      split at h
      · rename_i es' hes
        simp only [den_need, den_leaf, Bool.and_eq_true, decide_eq_true_eq] at h
        obtain ⟨⟨⟨h1, h2⟩, h3⟩, rfl⟩ := h
        obtain ⟨rfl, hL⟩ := bound_some hl hlo hlo' h1
        obtain ⟨rfl, hH⟩ := bound_some hhh hhi hhi' (by omega)
        have hb := sliceBounds_run (P := P) (isS := true) (len := 0) (cap := 0) (by simpa using hL) hH h1 h2 (by omega) w
        have hl0 : l.toNat = 0 := by omega
        have hh0 : hh.toNat = 0 := by omega
        refine ⟨.slice none 0 0, ?_, by simp [VRel]⟩
        simp [Instr.sliceAt, run_underlying hu, Instr.slice, hb, run_sizeOf hes, hl0, hh0]
      · simp [den_fail] at h
    · simp [den_fail] at h
  · simp [den_fail] at h

theorem sliceArrV_run {H : Hp} {t : TypeId} {x : V} {X : Value} {lo hi : Option V} {LO HI : Option Value} {r : Eff} {w : World} (h : (sliceArrV P H t x lo hi).den = some r) (hx : VRel ρ x X)
    (hlo : ∀ v, lo = some v → ∃ u, LO = some u ∧ VRel ρ v u) (hlo' : lo = none → LO = none) (hhi : ∀ v, hi = some v → ∃ u, HI = some u ∧ VRel ρ v u) (hhi' : hi = none → HI = none)
    (hB : ∀ b ∈ r.rd, ∀ bl, H b = some bl → ∃ s, ρ b = some s ∧ BRel ρ s bl w) :
    ∃ u, (Instr.sliceAt t X LO HI none).run P w = .ok u w ∧ Post ρ r w u w ρ := by
  unfold sliceArrV at h
  split at h
  · rename_i n e b i sz o hu
    split at h
    · rename_i es l l' hh h' cs hes hl hhh hbl
      simp only [den_lit, den_need, den_leaf, Bool.and_eq_true, decide_eq_true_eq, Nat.ble_eq] at h
      obtain ⟨hfit, ⟨⟨h1, h2⟩, h3⟩, rfl⟩ := h
      obtain ⟨rfl, hL⟩ := bound_some hl hlo hlo' h1
      obtain ⟨rfl, hH⟩ := bound_some hhh hhi hhi' (by omega)
      simp only [VRel] at hx
      obtain ⟨s, hs, rfl⟩ := hx
      obtain ⟨s', hs', hb⟩ := hB b (by simp) _ hbl
      rw [hs] at hs'; cases hs'
      have hR := hb.1
      simp only [flat] at hR
      have hbd := sliceBounds_run (P := P) (isS := false) (len := n) (cap := n) (by simpa using hL) hH h1 h2 h3 w
      refine ⟨.slice (some (if n = l.toNat then ⟨s.r, s.base + (0 * 0 + o), none⟩ else (⟨s.r, s.base + (0 * 0 + o), none⟩ : Addr).add (l.toNat * es))) (hh.toNat - l.toNat) (n - l.toNat), ?_, Post.pure ?_⟩
      · simp [Instr.sliceAt, run_underlying hu, Instr.sureAddr, hbd, run_sizeOf hes]
      · simp only [VRel]
        refine ⟨s, _, _, hs, rfl, by omega, by simp, fun h0 => ?_⟩
        rw [if_neg (by omega)]
        simp only [add_plain']
        refine ⟨by congr 2; omega, ?_⟩
        have : n * es = l.toNat * es + (n - l.toNat) * es := by rw [← Nat.add_mul]; congr 1; omega
        omega
    · simp [den_fail] at h
  · simp [den_fail] at h

theorem zeroBody_rel {z : V} {y : Value} {n : Nat} {bl : Blk} (h : zeroBody z n = some bl) (hz : z = ofValue y) (m : Nat) (hm : n ≤ m) :
    (flat bl).length = n * z.cells.length ∧ ∀ (i : Nat) (v : V), (flat bl)[i]? = some v → ∃ x, (madeCells y.cells (m * y.cells.size))[i]? = some x ∧ VRel ρ v x := by
  have hr : VsRel ρ z.cells y.cells.toList := by rw [hz]; exact zero_cells_rel ρ y
  have hl := hr.length
  simp at hl
  have hmade := made_rel hr m
  have hrel : ∀ (i : Nat) (v : V), (repl z.cells n)[i]? = some v → ∃ x, (madeCells y.cells (m * y.cells.size))[i]? = some x ∧ VRel ρ v x := by
    intro i v hv
    rw [repl_get] at hv
    split at hv
    · rename_i hi
      have hle := Nat.mul_le_mul_right z.cells.length hm
      obtain ⟨x, hx, rx⟩ := hmade.get i v (by rw [repl_get, if_pos (by omega)]; exact hv)
      rw [Array.getElem?_toList] at hx
      exact ⟨x, hx, rx⟩
    · cases hv
  unfold zeroBody at h
  split at h
  · rename_i k m'
    simp at h; subst h
    have hflat : flat (.ints k (List.replicate n m')) = repl (V.int k m').cells n := by
      simp only [flat, V.cells, List.map_replicate]
      clear hrel
      induction n with
      | zero => rfl
      | succ n ih => simp only [repl, List.replicate_succ]; rw [ih (by omega)]; rfl
    exact ⟨by simp [flat, V.cells], by rw [hflat]; exact hrel⟩
  · split at h
    · rename_i hc
      simp only [Bool.and_eq_true] at hc
      simp at h; subst h
      have hk := flatK_mem hc.1
      have hrow : ∀ (i : Nat) (v : V), (rowOf (z.cells.map kindOf) z.cells)[i]? = some v → ∃ u, z.cells[i]? = some u ∧ ∀ x, VRel ρ u x → VRel ρ v x := by
        intro i v hv
        rw [rowOf_get] at hv
        obtain ⟨k, hk', rfl⟩ := Option.map_eq_some_iff.1 hv
        simp only [List.getElem?_map] at hk'
        obtain ⟨u, hu, rfl⟩ := Option.map_eq_some_iff.1 hk'
        refine ⟨u, hu, fun x rx => ?_⟩
        simp only [List.getD_eq_getElem?_getD, hu, Option.getD_some]
        exact proj_kind (fun hh => hk (by rw [← hh]; exact List.mem_map_of_mem (List.mem_of_getElem? hu))) rx
      have hlen : (flat (.rows (z.cells.map kindOf) (List.replicate n z.cells))).length = n * z.cells.length := by
        rw [flat_rows, length_flatMap_const _ _ (rowOf_length _)]; simp
      refine ⟨hlen, fun i v hv => ?_⟩
      have hi : i < n * z.cells.length := by have := (List.getElem?_eq_some_iff.1 hv).1; omega
      have hpos : 0 < z.cells.length := by
        rcases Nat.eq_zero_or_pos z.cells.length with h0 | h0
        · rw [h0] at hi; simp at hi
        · exact h0
      have hjd : i = i / z.cells.length * z.cells.length + i % z.cells.length := by rw [Nat.mul_comm]; exact (Nat.div_add_mod i _).symm
      have hq : i % z.cells.length < z.cells.length := Nat.mod_lt _ hpos
      have hd : i / z.cells.length < n := (Nat.div_lt_iff_lt_mul hpos).2 hi
      have e1 := flatMap_get (rowOf (z.cells.map kindOf)) z.cells.length (by intro r; rw [rowOf_length]; simp) (List.replicate n z.cells) (i / z.cells.length) (i % z.cells.length) z.cells (by simp [hd]) hq
      rw [← hjd] at e1
      rw [flat_rows, e1] at hv
      obtain ⟨u, hu, k⟩ := hrow _ _ hv
      obtain ⟨x, hx, rx⟩ := hrel i u (by rw [repl_get, if_pos hi]; exact hu)
      exact ⟨x, hx, k x rx⟩
    · cases h

theorem makeSliceV_run {n : Nat} {t : TypeId} {l c : V} {L C : Value} {r : Eff} {w : World} (h : (makeSliceV P n t l c).den = some r) (hl : VRel ρ l L) (hc : VRel ρ c C) (hn : (∃ y, (n, y) ∈ r.wr) → ρ n = none) :
    ∃ v w' ρ', (Instr.makeSlice t L C).run P w = .ok v w' ∧ Post ρ r w v w' ρ' := by
  unfold makeSliceV at h
  split at h
  · rename_i e k ln k' cp hu
    simp only [VRel] at hl hc; subst hl hc
    split at h
    · rename_i z es hz hes
      split at h
      · rename_i bl hbl
        simp only [den_lit, den_need, den_leaf, Bool.and_eq_true, decide_eq_true_eq, Nat.beq_eq, Nat.ble_eq] at h
        obtain ⟨⟨hes1, hes2⟩, ⟨⟨⟨h1, h2⟩, h3⟩, h4⟩, rfl⟩ := h
        have hn := hn ⟨some bl, by simp⟩
        have hz0 := hz
        obtain ⟨y, hy, hzy, hzi⟩ := run_zeroValue hz w
        obtain ⟨i, hi, hzi⟩ := Option.bind_eq_some_iff.1 hzi
        have hsz : i.size = es := by have := hes; simp [sizeT, hi] at this; exact this
        have hby : bytesT P e = i.bytes := by simp [bytesT, hi]
        have hb : (i.bytes : Int) * cp ≤ 281474976710656 := by rw [hby, Int.mul_comm] at h3; omega
        have hrun := run_make (P := P) w t e i y hu hi hzi k k' ln cp h1 h2 hb (by omega)
        have hyl : y.cells.size = z.cells.length := by
          have := (zero_cells_rel ρ y).length
          rw [← hzy] at this
          simpa using this
        obtain ⟨q1, q2⟩ := zeroBody_rel (ρ := addR ρ n ⟨w.heap.size, 0, cp.toNat * es, true⟩) hbl hzy cp.toNat (by omega)
        have hsize : (madeCells y.cells (cp.toNat * i.size)).size = cp.toNat * es := by rw [size_madeCells, hsz]
        have hyes : y.cells.size = i.size := by omega
        have hle := Nat.mul_le_mul_right es (show ln.toNat ≤ cp.toNat by omega)
        refine ⟨_, _, addR ρ n ⟨w.heap.size, 0, cp.toNat * es, true⟩, hrun, ?_⟩
        have := Post.alloc (ρ := ρ) (n := n) (rd := []) (bl := bl) (w := w) (w' := w.alloc (.cells (madeCells y.cells (cp.toNat * i.size)) e)) (v := .sl n 0 0 es ln.toNat none) (x := .slice (some ⟨w.heap.size, 0, none⟩) ln.toNat cp.toNat) [] (by simp) hn rfl rfl rfl (by simp) (fun j hj => heap_alloc_old w _ j hj) ⟨w.heap.size, 0, cp.toNat * es, true⟩ (.inr (Nat.le_refl _))
          ⟨by rw [q1, ← hes1]; exact hle, fun _ => .of (zeroBody_kv hbl) ⟨_, _, _, heap_alloc_new w _, by simp only [hsize]; omega, ⟨fun j _ => by simp, fun _ => .inl rfl⟩, fun j v hv => by
            obtain ⟨x, hx, rx⟩ := q2 j v hv
            rw [hyes] at hx
            exact ⟨x, by simpa using hx, rx⟩⟩⟩
          (by simp only [VRel]; exact ⟨_, _, _, addR_self _ _ _, rfl, by omega, by simp, fun _ => ⟨by simp, by simp⟩⟩)
        simpa using this
      · simp [den_fail] at h
    · simp [den_fail] at h
  · simp [den_fail] at h
end
end Go.Rx

namespace Go.Rx
section
variable {P : Program} {ρ : Rho}

theorem checkFields_run {empty : Bool} {d : Nat} {rec : TypeId → V → Bool} (hrec : ∀ t x X w, rec t x = true → VRel ρ x X → (Instr.checkKey empty d t X).run P w = .ok () w)
    {xs : List V} {XS : Array Value} (hx : VsRel ρ xs XS.toList) (w : World) : ∀ (fs : List Field), keyFieldsV P rec xs fs = true →
    (forIn fs PUnit.unit (fun (f : Field) (_ : PUnit) => (do
      if f.name ≠ "_" then do
        let v ← part f.type XS f.offset
        Instr.checkKey empty d f.type v
        pure (ForInStep.yield PUnit.unit)
      else pure (ForInStep.yield PUnit.unit) : Sem (ForInStep PUnit)))).run P w = .ok PUnit.unit w
  | [], _ => by simp
  | f :: fs, h => by
    unfold keyFieldsV at h
    rw [List.forIn_cons]
    by_cases hn : f.name = "_"
    · rw [if_pos hn] at h
      rw [if_neg (by simpa using hn)]
      simpa using checkFields_run hrec hx w fs h
    · rw [if_neg hn] at h
      rw [if_pos hn]
      split at h
      · rename_i a ha
        rw [Bool.and_eq_true] at h
        obtain ⟨A, hA, rA⟩ := part_run ha hx w
        have := checkFields_run hrec hx w fs h.2
        simp only [Sem.run_bind, hA, Result.andThen_ok, hrec _ _ _ w h.1 rA, Sem.run_pure, this]
      · cases h
theorem checkElems_run {empty : Bool} {d : Nat} {e : TypeId} {n : Nat} {rec : V → Bool} (hrec : ∀ x X w, rec x = true → VRel ρ x X → (Instr.checkKey empty d e X).run P w = .ok () w)
    {xs : List V} {XS : Array Value} (hx : VsRel ρ xs XS.toList) (hn : sizeT P e = some n) (w : World) : ∀ (is : List Nat), keyElemsV P rec e n xs is = true →
    (forIn is PUnit.unit (fun (i : Nat) (_ : PUnit) => (do
      let sz ← sizeOf e
      let v ← part e XS (i * sz)
      Instr.checkKey empty d e v
      pure (ForInStep.yield PUnit.unit) : Sem (ForInStep PUnit)))).run P w = .ok PUnit.unit w
  | [], _ => by simp
  | i :: is, h => by
    unfold keyElemsV at h
    rw [List.forIn_cons]
    split at h
    · rename_i a ha
      rw [Bool.and_eq_true] at h
      obtain ⟨A, hA, rA⟩ := part_run ha hx w
      have := checkElems_run hrec hx hn w is h.2
      simp only [Sem.run_bind, run_sizeOf hn, hA, Result.andThen_ok, hrec _ _ w h.1 rA, Sem.run_pure, this]
    · cases h
theorem keyT_run {empty : Bool} : ∀ (f d : Nat) (t : TypeId) (x : V) (X : Value) (w : World), f ≤ d → keyT P f t x = true → VRel ρ x X → (Instr.checkKey empty d t X).run P w = .ok () w
  | 0, _, _, _, _, _, _, h, _ => by simp [keyT] at h
  | f + 1, 0, _, _, _, _, hd, _, _ => by omega
  | f + 1, d + 1, t, x, X, w, hd, h, hx => by
    unfold keyT at h
    split at h
    · rename_i hu
      simp only [VRel] at hx; subst hx
      simp [Instr.checkKey, run_underlying hu]
    · rename_i hu
      simp only [VRel] at hx; subst hx
      simp [Instr.checkKey, run_underlying hu]
    · rename_i hu
      simp only [VRel] at hx; subst hx
      simp [Instr.checkKey, run_underlying hu]
    · rename_i fs xs hu
      simp only [VRel] at hx
      obtain ⟨XS, rfl, rx⟩ := hx
      have := checkFields_run (empty := empty) (d := d) (rec := keyT P f) (fun t x X w hh hx => keyT_run f d t x X w (by omega) hh hx) rx w fs.toList h
      simp only [Instr.checkKey, Sem.run_bind, run_underlying hu, Result.andThen_ok]
      rw [← Array.forIn_toList, this]
      simp
    · rename_i len e xs hu
      simp only [VRel] at hx
      obtain ⟨XS, rfl, rx⟩ := hx
      split at h
      · cases h
      · rename_i n hn
        have := checkElems_run (empty := empty) (d := d) (rec := keyT P f e) (fun x X w hh hx => keyT_run f d e x X w (by omega) hh hx) rx hn w (List.range len) h
        simp only [Instr.checkKey, Sem.run_bind, run_underlying hu, Result.andThen_ok]
        rw [Std.Legacy.Range.forIn_eq_forIn_range']
        have hr : List.range' ([:len] : Std.Legacy.Range).start ([:len] : Std.Legacy.Range).size ([:len] : Std.Legacy.Range).step = List.range len := by
          simp [List.range_eq_range', Std.Legacy.Range.size]
        rw [hr, this]
        simp
    · cases h
theorem find_run {kt : TypeId} {k : V} {K : Value} (hk : VRel ρ k K) (w : World) : ∀ (ks vs : List V) (ens : List MapEntry) (i : Nat) (c : Option (Nat × V) → T1) (e : Eff), VsRel ρ ks (ens.map (·.key)) → VsRel ρ vs (ens.map (·.val)) →
    (findV P kt k ks vs i c).den = some e →
    ((c none).den = some e ∧ (Instr.findAsking kt K ens i).run P w = .ok none w) ∨
    ∃ (j : Nat) (v : V) (en : MapEntry), (c (some (i + j, v))).den = some e ∧ ks.length = ens.length ∧ j < ens.length ∧ ens[j]? = some en ∧ VRel ρ v en.val ∧ (Instr.findAsking kt K ens i).run P w = .ok (some (i + j, en.val)) w
  | [], [], ens, i, c, e, h1, h2, h => by
    simp only [VsRel, List.map_eq_nil_iff] at h1; subst h1
    exact .inl ⟨h, by simp [Instr.findAsking]⟩
  | [], v :: vs, ens, i, c, e, h1, h2, h => by simp [findV, den_fail] at h
  | x :: xs, [], ens, i, c, e, h1, h2, h => by simp [findV, den_fail] at h
  | x :: xs, v :: vs, ens, i, c, e, h1, h2, h => by
    simp only [VsRel] at h1 h2
    obtain ⟨X, XS, hX, rX, rXS⟩ := h1
    obtain ⟨Y, YS, hY, rY, rYS⟩ := h2
    cases ens with
    | nil => cases hX
    | cons en ens =>
      simp only [List.map_cons, List.cons.injEq] at hX hY
      obtain ⟨rfl, rfl⟩ := hX
      obtain ⟨rfl, rfl⟩ := hY
      unfold findV at h
      split at h
      · rename_i b hb
        have hq := eqT_run (P := P) 50 Op.maxDepth kt k x K en.key b w (by decide) hb hk rX
        rw [den_ite] at h
        have hl : xs.length = ens.length := by have := rXS.length; simpa using this.symm
        cases b with
        | true =>
          have h : (c (some (i, v))).den = some e := by simpa using h
          exact .inr ⟨0, v, en, h, by simp [hl], by simp, rfl, rY, by simp [Instr.findAsking, Op.equal, hq]⟩
        | false =>
          have h : (findV P kt k xs vs (i + 1) c).den = some e := by simpa using h
          rcases find_run hk w xs vs ens (i + 1) c e rXS rYS h with ⟨q1, q2⟩ | ⟨j, v', en', q1, q2, q3, q4, q5, q6⟩
          · exact .inl ⟨q1, by simp [Instr.findAsking, Op.equal, hq, q2]⟩
          · refine .inr ⟨j + 1, v', en', by rw [show i + (j + 1) = i + 1 + j by omega]; exact q1, by simp [hl], by simp; omega, by simpa using q4, q5, ?_⟩
            rw [show i + (j + 1) = i + 1 + j by omega]
            simp [Instr.findAsking, Op.equal, hq, q6]
      · simp [den_fail] at h
theorem findKey_run {kt : TypeId} {K : Value} (h : isStructT P kt = true) (ens : List MapEntry) (w : World) : (Instr.findKey kt K ens).run P w = (Instr.findAsking kt K ens 0).run P w := by
  unfold isStructT at h
  split at h
  · rename_i fs hu
    unfold Instr.findKey
    simp only [Sem.run_bind, run_underlying hu, Result.andThen_ok]
    cases ens with
    | nil => simp [Instr.findNow, Instr.findAsking]
    | cons e es => simp [Instr.findNow, Instr.sameNow]
  · cases h
theorem kv_mem {s : Seg} {ks vs : List V} {w : World} (h : BRel ρ s (.kv ks vs) w) (h0 : 0 < s.R) : ∃ ens clock, w.heap[s.r]? = some (.map ens clock) ∧ VsRel ρ ks (ens.toList.map (·.key)) ∧ VsRel ρ vs (ens.toList.map (·.val)) ∧
    (ens.toList.map (·.born)).Nodup ∧ ∀ e ∈ ens.toList, e.born < clock := h.2 h0
theorem kv_of {s : Seg} {ks vs : List V} {w : World} {ens : Array MapEntry} {clock : Nat} (h1 : w.heap[s.r]? = some (.map ens clock)) (h2 : VsRel ρ ks (ens.toList.map (·.key))) (h3 : VsRel ρ vs (ens.toList.map (·.val)))
    (h4 : (ens.toList.map (·.born)).Nodup) (h5 : ∀ e ∈ ens.toList, e.born < clock) : BRel ρ s (.kv ks vs) w := ⟨Nat.zero_le _, fun _ => ⟨ens, clock, h1, h2, h3, h4, h5⟩⟩
theorem find_some {kt : TypeId} {k : V} {c : Option (Nat × V) → T1} {e : Eff} : ∀ (ks vs : List V) (i : Nat), (findV P kt k ks vs i c).den = some e → ∃ r, (c r).den = some e
  | [], [], i, h => ⟨_, h⟩
  | [], v :: vs, i, h => by simp [findV, den_fail] at h
  | x :: xs, [], i, h => by simp [findV, den_fail] at h
  | x :: xs, v :: vs, i, h => by
    unfold findV at h
    split at h
    · rw [den_ite] at h
      rcases h with ⟨_, h⟩ | ⟨_, h⟩
      · exact ⟨_, h⟩
      · exact find_some xs vs (i + 1) h
    · simp [den_fail] at h
theorem getMap_run {r : Nat} {es : Array MapEntry} {clock : Nat} {w : World} (h : w.heap[r]? = some (.map es clock)) : (getObj r).run P w = .ok (.map es clock) w := by simp [getObj, Sem.run, h]
theorem setMap_run {r : Nat} {es : Array MapEntry} {clock : Nat} {w : World} (o : Obj) (h : w.heap[r]? = some (.map es clock)) : (setObj r o).run P w = .ok () { w with heap := w.heap.setIfInBounds r o } := by simp [setObj, Sem.run, h]
theorem lookupV_run {H : Hp} {t : TypeId} {x k : V} {X K : Value} {ok : Bool} {e : Eff} {w : World} (h : (lookupV P H t x k ok).den = some e) (hx : VRel ρ x X) (hk : VRel ρ k K)
    (hB : ∀ b ∈ e.rd, ∀ bl, H b = some bl → ∃ s, ρ b = some s ∧ BRel ρ s bl w) : ∃ v, (Instr.lookup t X K ok).run P w = .ok v w ∧ Post ρ e w v w ρ := by
  unfold lookupV at h
  split at h
  · rename_i kt el b hu
    simp only [VRel] at hx
    obtain ⟨s, hs, h0, rfl⟩ := hx
    split at h
    · rename_i ks vs z hH hz
      rw [den_lit] at h
      obtain ⟨hc, h⟩ := h
      rw [Bool.and_eq_true] at hc
      obtain ⟨y, hy, rfl, _⟩ := run_zeroValue hz w
      have hrd : b ∈ e.rd := by
        obtain ⟨r, hr⟩ := find_some _ _ _ h
        cases r with
        | none => simp only [lookC, den_leaf] at hr; subst hr; simp
        | some p => simp only [lookC, den_leaf] at hr; subst hr; simp
      obtain ⟨s', hs', hb⟩ := hB b hrd _ hH
      rw [hs] at hs'; cases hs'
      obtain ⟨ens, clock, m1, m2, m3, _⟩ := kv_mem hb h0
      have hf := find_run hk w ks vs ens.toList 0 _ e m2 m3 h
      have pr : ∀ (v : V) (Y : Value) (is : Bool), VRel ρ v Y → VRel ρ (lookR ok v is) (if ok = true then .tuple #[Y, .bool is] else Y) := by
        intro v Y is hv
        cases ok with
        | true =>
          show VRel ρ (.tup [v, .lit is]) (.tuple #[Y, .bool is])
          simp only [VRel]
          refine ⟨_, rfl, ?_⟩
          simp only [VsRel]
          refine ⟨_, _, rfl, hv, _, _, rfl, ?_, rfl⟩
          cases is <;> simp [V.lit, VRel]
        | false => exact hv
      rcases hf with ⟨q1, q2⟩ | ⟨j, v, en, q1, q2, q3, q4, q5, q6⟩
      · simp only [lookC, den_leaf] at q1; subst q1
        refine ⟨_, ?_, Post.pure (pr _ y false (ofValue_rel ρ y))⟩
        simp only [Instr.lookup, Sem.run_bind, run_underlying hu, Result.andThen_ok, getMap_run m1, Sem.run_pure, keyT_run 50 10000 kt k K w (by decide) hc.1 hk, findKey_run hc.2, q2, hy]
      · simp only [lookC, den_leaf] at q1; subst q1
        refine ⟨_, ?_, Post.pure (pr _ en.val true q5)⟩
        simp only [Instr.lookup, Sem.run_bind, run_underlying hu, Result.andThen_ok, getMap_run m1, Sem.run_pure, keyT_run 50 10000 kt k K w (by decide) hc.1 hk, findKey_run hc.2, q6]
    · simp [den_fail] at h
  · simp [den_fail] at h
theorem putMap {w : World} {r : Nat} {o : Obj} (h : r < w.heap.size) : ({ w with heap := w.heap.setIfInBounds r o } : World).heap[r]? = some o := by simp [h]
theorem putMap_other {w : World} {r i : Nat} {o : Obj} (h : i ≠ r) : ({ w with heap := w.heap.setIfInBounds r o } : World).heap[i]? = w.heap[i]? := by
  simp [Array.getElem?_setIfInBounds_ne (Ne.symm h)]
/-- A map is written. -/
theorem write_map {b : Nat} {v : V} {rd : List Nat} {ks vs : List V} {w : World} {x : Value} {s : Seg} {ens ens' : Array MapEntry} {clock clock' : Nat} (hs : ρ b = some s) (h0 : 0 < s.R) (m1 : w.heap[s.r]? = some (.map ens clock))
    (h2 : VsRel ρ ks (ens'.toList.map (·.key))) (h3 : VsRel ρ vs (ens'.toList.map (·.val))) (h4 : (ens'.toList.map (·.born)).Nodup) (h5 : ∀ e ∈ ens'.toList, e.born < clock') (hv : VRel ρ v x) :
    Post ρ ⟨v, rd, [(b, some (.kv ks vs))]⟩ w x { w with heap := w.heap.setIfInBounds s.r (.map ens' clock') } ρ := by
  have hlt : s.r < w.heap.size := (Array.getElem?_eq_some_iff.1 m1).1
  exact Post.write hs rfl rfl rfl (by simp) (fun i hi => putMap_other hi) h0 (kv_of (putMap hlt) h2 h3 h4 h5) hv
theorem VsRel.eraseIdx : ∀ {vs : List V} {xs : List Value} (i : Nat), VsRel ρ vs xs → VsRel ρ (vs.eraseIdx i) (xs.eraseIdx i)
  | [], _, i, r => by simp only [VsRel] at r; subst r; simp [VsRel]
  | v :: vs, _, 0, r => by
    simp only [VsRel] at r
    obtain ⟨y, ys, rfl, _, r2⟩ := r
    simpa using r2
  | v :: vs, _, i + 1, r => by
    simp only [VsRel] at r
    obtain ⟨y, ys, rfl, r1, r2⟩ := r
    simp only [List.eraseIdx_cons_succ, VsRel]
    exact ⟨y, _, rfl, r1, VsRel.eraseIdx i r2⟩
theorem erase_map {α β : Type} (f : α → β) : ∀ (l : List α) (i : Nat), (l.eraseIdx i).map f = (l.map f).eraseIdx i
  | [], i => by simp
  | x :: l, 0 => by simp
  | x :: l, i + 1 => by simp [erase_map f l i]
theorem deleteV_run {H : Hp} {ts : Array TypeId} {t ty : TypeId} (hT : ts[0]? = some t) {x k : V} {X K : Value} {e : Eff} {w : World} (h : (deleteV P H t x k).den = some e) (hx : VRel ρ x X) (hk : VRel ρ k K)
    (hB : ∀ b ∈ e.rd, ∀ bl, H b = some bl → ∃ s, ρ b = some s ∧ BRel ρ s bl w) : ∃ v w', (Builtin.delete_ ts ty #[X, K]).run P w = .ok v w' ∧ Post ρ e w v w' ρ := by
  unfold deleteV at h
  split at h
  · rename_i kt el b hu
    simp only [VRel] at hx
    obtain ⟨s, hs, h0, rfl⟩ := hx
    split at h
    · rename_i ks vs hH
      rw [den_lit] at h
      obtain ⟨hc, h⟩ := h
      rw [Bool.and_eq_true] at hc
      have hrd : b ∈ e.rd := by
        obtain ⟨r, hr⟩ := find_some _ _ _ h
        cases r with
        | none => simp only [delC, den_leaf] at hr; subst hr; simp
        | some p => simp only [delC, den_leaf] at hr; subst hr; simp
      obtain ⟨s', hs', hb⟩ := hB b hrd _ hH
      rw [hs] at hs'; cases hs'
      obtain ⟨ens, clock, m1, m2, m3, m4, m5⟩ := kv_mem hb h0
      have hf := find_run hk w ks vs ens.toList 0 _ e m2 m3 h
      have htup : VRel ρ (.tup []) (.tuple #[]) := by simp only [VRel]; exact ⟨_, rfl, by simp [VsRel]⟩
      rcases hf with ⟨q1, q2⟩ | ⟨j, v, en, q1, q2, q3, q4, q5, q6⟩
      · simp only [delC, den_leaf] at q1; subst q1
        refine ⟨.tuple #[], _, ?_, write_map hs h0 m1 m2 m3 m4 m5 htup⟩
        simp only [Builtin.delete_, hT, List.getElem?_toArray, List.getElem?_cons_zero, List.getElem?_cons_succ, Sem.run_bind, run_underlying hu, Result.andThen_ok, getMap_run m1, Sem.run_pure, keyT_run 50 10000 kt k K w (by decide) hc.1 hk, findKey_run hc.2, q2, setMap_run _ m1]
      · simp only [delC, den_leaf, Nat.zero_add] at q1 q6; subst q1
        have hj : j < ens.size := by simpa using q3
        have el' : (ens.eraseIdxIfInBounds j).toList = ens.toList.eraseIdx j := by simp [Array.eraseIdxIfInBounds, hj]
        refine ⟨.tuple #[], _, ?_, write_map (ens' := ens.eraseIdxIfInBounds j) (clock' := clock) hs h0 m1 ?_ ?_ ?_ ?_ htup⟩
        · simp only [Builtin.delete_, hT, List.getElem?_toArray, List.getElem?_cons_zero, List.getElem?_cons_succ, Sem.run_bind, run_underlying hu, Result.andThen_ok, getMap_run m1, Sem.run_pure, keyT_run 50 10000 kt k K w (by decide) hc.1 hk, findKey_run hc.2, q6, setMap_run _ m1]
        · rw [el', erase_map]; exact m2.eraseIdx j
        · rw [el', erase_map]; exact m3.eraseIdx j
        · rw [el', erase_map]; exact m4.sublist (List.eraseIdx_sublist _ _)
        · rw [el']; exact fun e he => m5 e (List.mem_of_mem_eraseIdx he)
    · simp [den_fail] at h
  · simp [den_fail] at h
theorem clearV_run {H : Hp} {ts : Array TypeId} {t ty : TypeId} (hT : ts[0]? = some t) {x : V} {X : Value} {e : Eff} {w : World} (h : (clearV P H t x).den = some e) (hx : VRel ρ x X)
    (hB : ∀ b ∈ e.rd, ∀ bl, H b = some bl → ∃ s, ρ b = some s ∧ BRel ρ s bl w) : ∃ v w', (Builtin.clear_ ts ty #[X]).run P w = .ok v w' ∧ Post ρ e w v w' ρ := by
  unfold clearV at h
  split at h
  · rename_i kt el b hu
    simp only [VRel] at hx
    obtain ⟨s, hs, h0, rfl⟩ := hx
    split at h
    · rename_i ks vs hH
      simp only [den_leaf] at h; subst h
      obtain ⟨s', hs', hb⟩ := hB b (by simp) _ hH
      rw [hs] at hs'; cases hs'
      obtain ⟨ens, clock, m1, m2, m3, m4, m5⟩ := kv_mem hb h0
      refine ⟨.tuple #[], _, ?_, write_map (ens' := #[]) (clock' := clock) hs h0 m1 (by simp [VsRel]) (by simp [VsRel]) (by simp) (by simp) (by simp only [VRel]; exact ⟨_, rfl, by simp [VsRel]⟩)⟩
      simp only [Builtin.clear_, hT, List.getElem?_toArray, List.getElem?_cons_zero, Sem.run_bind, run_underlying hu, Result.andThen_ok, getMap_run m1, Sem.run_pure, setMap_run _ m1]
    · simp [den_fail] at h
  · simp [den_fail] at h
theorem lenMapV_run {H : Hp} {ts : Array TypeId} {t ty : TypeId} (hT : ts[0]? = some t) {b : Nat} {X : Value} {e : Eff} {w : World} (h : (lenMapV P H t b).den = some e) (hx : VRel ρ (.mapr b) X)
    (hB : ∀ b ∈ e.rd, ∀ bl, H b = some bl → ∃ s, ρ b = some s ∧ BRel ρ s bl w) : ∃ v, (Builtin.len_ ts ty #[X]).run P w = .ok v w ∧ Post ρ e w v w ρ := by
  unfold lenMapV at h
  split at h
  · rename_i kt el hu
    simp only [VRel] at hx
    obtain ⟨s, hs, h0, rfl⟩ := hx
    split at h
    · rename_i ks vs hH
      simp only [den_leaf] at h; subst h
      obtain ⟨s', hs', hb⟩ := hB b (by simp) _ hH
      rw [hs] at hs'; cases hs'
      obtain ⟨ens, clock, m1, m2, m3, m4, m5⟩ := kv_mem hb h0
      have hl : ens.size = ks.length := by have := m2.length; simpa using this
      refine ⟨goInt ens.size, ?_, Post.pure (by simp [goInt, VRel, hl])⟩
      simp only [Builtin.len_, hT, List.getElem?_toArray, List.getElem?_cons_zero, Sem.run_bind, run_underlying hu, Result.andThen_ok, getMap_run m1, Sem.run_pure]
    · simp [den_fail] at h
  · simp [den_fail] at h
theorem updateV_run {H : Hp} {t : TypeId} {x k v : V} {X K Y : Value} {e : Eff} {w : World} (h : (updateV P H t x k v).den = some e) (hx : VRel ρ x X) (hk : VRel ρ k K) (hv : VRel ρ v Y)
    (hB : ∀ b ∈ e.rd, ∀ bl, H b = some bl → ∃ s, ρ b = some s ∧ BRel ρ s bl w) (y : Value) : ∃ w', (Instr.mapUpdate t X K Y).run P w = .ok () w' ∧ Post ρ e w y w' ρ := by
  unfold updateV at h
  split at h
  · rename_i kt el b hu
    simp only [VRel] at hx
    obtain ⟨s, hs, h0, rfl⟩ := hx
    split at h
    · rename_i ks vs hH
      rw [den_lit] at h
      obtain ⟨hc, h⟩ := h
      simp only [Bool.and_eq_true] at hc
      obtain ⟨⟨⟨hc1, hc2⟩, hc3⟩, hc4⟩ := hc
      have hrd : b ∈ e.rd := by
        obtain ⟨r, hr⟩ := find_some _ _ _ h
        cases r with
        | none => simp only [updC, den_leaf] at hr; subst hr; simp
        | some p => simp [updC, den_fail] at hr
      obtain ⟨s', hs', hb⟩ := hB b hrd _ hH
      rw [hs] at hs'; cases hs'
      obtain ⟨ens, clock, m1, m2, m3, m4, m5⟩ := kv_mem hb h0
      have hf := find_run hk w ks vs ens.toList 0 _ e m2 m3 h
      rcases hf with ⟨q1, q2⟩ | ⟨j, v', en, q1, _⟩
      · simp only [updC, den_leaf] at q1; subst q1
        refine ⟨_, ?_, write_map (ens' := ens.push { key := K, val := Y, born := clock }) (clock' := clock + 1) hs h0 m1 ?_ ?_ ?_ ?_ (by simp [VRel])⟩
        · simp only [Instr.mapUpdate, Sem.run_bind, run_underlying hu, Result.andThen_ok, getMap_run m1, Sem.run_pure, keyT_run 50 10000 kt k K w (by decide) hc1 hk, findKey_run hc2, q2, setMap_run _ m1]
        · simp only [Array.toList_push, List.map_append, List.map_cons, List.map_nil]
          exact m2.append (by simp only [VsRel]; exact ⟨_, _, rfl, hk, rfl⟩)
        · simp only [Array.toList_push, List.map_append, List.map_cons, List.map_nil]
          exact m3.append (by simp only [VsRel]; exact ⟨_, _, rfl, hv, rfl⟩)
        · simp only [Array.toList_push, List.map_append, List.map_cons, List.map_nil]
          refine List.nodup_append.2 ⟨m4, by simp, fun a ha b hb => ?_⟩
          simp only [List.mem_singleton] at hb
          obtain ⟨e, he, rfl⟩ := List.mem_map.1 ha
          have := m5 e he
          omega
        · intro e he
          simp only [Array.toList_push, List.mem_append, List.mem_singleton] at he
          rcases he with he | rfl
          · have := m5 e he; omega
          · simp
      · simp [updC, den_fail] at q1
    · simp [den_fail] at h
  · simp [den_fail] at h
theorem makeMapV_run {t : TypeId} {n : Nat} {w : World} (hn : ρ n = none) : ∃ v w' ρ', (Instr.makeMap t none).run P w = .ok v w' ∧ Post ρ ⟨.mapr n, [], [(n, some (.kv [] []))]⟩ w v w' ρ' := by
  refine ⟨.map (some w.heap.size), w.alloc (.map #[] 0), addR ρ n ⟨w.heap.size, 0, 1, true⟩, by simp [Instr.makeMap], ?_⟩
  have := Post.alloc (ρ := ρ) (n := n) (rd := []) (bl := .kv [] []) (w := w) (w' := w.alloc (.map #[] 0)) (v := .mapr n) (x := .map (some w.heap.size)) [] (by simp) hn rfl rfl rfl (by simp) (fun i hi => heap_alloc_old w _ i hi) ⟨w.heap.size, 0, 1, true⟩ (.inr (Nat.le_refl _))
    (kv_of (ens := #[]) (clock := 0) (heap_alloc_new w _) (by simp [VsRel]) (by simp [VsRel]) (by simp) (by simp)) (by simp only [VRel]; exact ⟨_, addR_self _ _ _, by simp, rfl⟩)
  simpa using this
theorem minV_run {x y v : V} {X Y : Value} {ts : Array TypeId} {ty : TypeId} {w : World} (h : (minV x y).den = some v) (hx : VRel ρ x X) (hy : VRel ρ y Y) : ∃ u, (Builtin.min_ ts ty #[X, Y]).run P w = .ok u w ∧ VRel ρ v u := by
  unfold minV at h
  split at h
  · rename_i k a k' b
    rw [den_lit, den_leaf] at h
    obtain ⟨hk, rfl⟩ := h
    have hk : k = k' := by simpa using hk
    subst hk
    simp only [VRel] at hx hy; subst hx hy
    refine ⟨.int k (if b < a then b else a), by simp [Builtin.min_, Builtin.min2], ?_⟩
    simp only [VRel]
    congr 1
    split <;> omega
  · simp [den_fail] at h
theorem maxV_run {x y v : V} {X Y : Value} {ts : Array TypeId} {ty : TypeId} {w : World} (h : (maxV x y).den = some v) (hx : VRel ρ x X) (hy : VRel ρ y Y) : ∃ u, (Builtin.max_ ts ty #[X, Y]).run P w = .ok u w ∧ VRel ρ v u := by
  unfold maxV at h
  split at h
  · rename_i k a k' b
    rw [den_lit, den_leaf] at h
    obtain ⟨hk, rfl⟩ := h
    have hk : k = k' := by simpa using hk
    subst hk
    simp only [VRel] at hx hy; subst hx hy
    refine ⟨.int k (if a < b then b else a), by simp [Builtin.max_, Builtin.max2], ?_⟩
    simp only [VRel]
    congr 1
    split <;> omega
  · simp [den_fail] at h
end
end Go.Rx
