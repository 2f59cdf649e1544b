/- The abstract evaluator: values, store, operations. No theorem yet. What abstract values and stores stand for: the relation to the model's values and worlds, and what is plain about it. Stores and worlds: the relation, and what a step does to both. What may be done to a store and a world: something new, an object turned, a vector that grows. The operations that touch no memory. The operations that touch no memory: each runs as the evaluator says (first part). -/
import Derived.RangeFuncLeaves
import Derived.OrdersIn
import Derived.LoopNIn
import Derived.Deep.MidRow
import Derived.Laws.Strings
import Derived.Laws.Slices
set_option linter.unusedVariables false
set_option linter.unusedSimpArgs false
set_option linter.unnecessarySimpa false
set_option linter.all false
namespace Go.Abs

/-- Abstract values. -/
inductive V where
  | bool (b : Bool)
  | int (k : IntKind) (n : Int)
  | str (s : List UInt8)
  | nilp
  | ptr (r off : Nat)
  | eptr (r i off : Nat)
  | iptr (cs : List V)
  | list (full : Bool) (nl : Option Bool) (xs : List V)
  | slice (r s off len : Nat)
  | map (r : Nat)
  | nilmap
  | func (fn : Fn) (first captured : List V)
  | nilfunc
  | iface (t : TypeId) (v : V)
  | niliface
  | agg (cs : List V)
  | tup (vs : List V)
  deriving Inhabited

def V.cells : V → List V
  | .agg cs => cs
  | v => [v]

/-- Loops over a function. -/
structure L where
  state : LoopState
  pending : Option Code
  tmps : List V
  params : Array Tmp
  assign : Code
  body : Code
  defers : Nat

/-- Objects of the store. -/
inductive O where
  | dead
  | box (cs : List V)
  | vec (acc : Bool) (es : List V)
  | map (es : List (V × V))
  | loop (l : L)
  | defs

structure St where
  store : List O
  base : Nat
  prot : List Nat

/-- May an object not be changed? -/
def St.locked (st : St) (r : Nat) : Bool := decide (r < st.base) || st.prot.contains r

structure Fr where
  tmps : List V
  marks : List Nat

inductive E where
  | normal
  | exit (id : Nat)
  | ret

/-- What is known of a type. -/
structure TI where
  size : Nat
  bytes : Nat
  agg : Bool
  zero : V
  und : TypeDesc
  plain : Bool      -- a struct or an array without interfaces within (no guard of ==), and not stood in

/-- How a call of a function is evaluated: as it stands; on a store that it may not change, with an answer that names none of it; likewise, and at an empty slice of which it isn't known whether it is nil, both ways. -/
inductive CallMode where
  | open_
  | ro
  | split
  deriving DecidableEq

/-- Functions without a body, by the model's own rows. -/
inductive Ext where
  | indexByteString
  | countString
  deriving DecidableEq

/-- The program's tables. -/
structure Tab where
  ty : Nat → Option TI
  fn : Nat → Option Func
  glob : Nat → Option (List V)
  mode : Nat → CallMode
  ext : Nat → Option Ext

def Tab.size (T : Tab) (t : TypeId) : Option Nat := (T.ty t).map (·.size)
def Tab.und (T : Tab) (t : TypeId) : Option TypeDesc := (T.ty t).map (·.und)

mutual
def ofValue : Value → Option V
  | .bool b => some (.bool b)
  | .int k n => some (.int k n)
  | .string s => some (.str s.data.toList)
  | .pointer none => some .nilp
  | .slice none 0 0 => some (.list true (some true) [])
  | .map none => some .nilmap
  | .nilFunc => some .nilfunc
  | .nilIface => some .niliface
  | .iface t v => (ofValue v).map (.iface t)
  | .agg ⟨cs⟩ => (ofValues cs).map .agg
  | .tuple ⟨cs⟩ => (ofValues cs).map .tup
  | _ => none
def ofValues : List Value → Option (List V)
  | [] => some []
  | v :: vs => match ofValue v with
    | none => none
    | some x => match ofValues vs with
      | none => none
      | some xs => some (x :: xs)
end

def evArg (T : Tab) (fr : Fr) : Operand → Option V
  | .tmp t => some (fr.tmps.getD t (.tup []))
  | .const v => ofValue v
  | .global g => (T.glob g).map .iptr
  | .func f => some (.func (.func f) [] [])

def evArgs (T : Tab) (fr : Fr) : List Operand → Option (List V)
  | [] => some []
  | o :: os => match evArg T fr o with
    | none => none
    | some x => match evArgs T fr os with
      | none => none
      | some xs => some (x :: xs)

def Fr.put (fr : Fr) (d : Option Tmp) (v : V) : Fr :=
  match d with
  | some d => { fr with tmps := fr.tmps.set d v }
  | none => fr

/-- A value of type t out of cells. -/
def part (ti : TI) (cs : List V) (off : Nat) : Option V :=
  if ti.agg then (if off + ti.size ≤ cs.length then some (.agg ((cs.drop off).take ti.size)) else none)
  else cs[off]?

def intBin (op : BinOp) (k : IntKind) (x y : Int) : Option V :=
  match op with
  | .add => some (.int k (k.wrap (x + y)))
  | .sub => some (.int k (k.wrap (x - y)))
  | .mul => some (.int k (k.wrap (x * y)))
  | .quo => if y = 0 then none else some (.int k (k.wrap (x.tdiv y)))
  | .rem => if y = 0 then none else some (.int k (x.tmod y))
  | .and => some (.int k (k.wrap (BitVec.ofInt k.bits x &&& BitVec.ofInt k.bits y).toNat))
  | .or => some (.int k (k.wrap (BitVec.ofInt k.bits x ||| BitVec.ofInt k.bits y).toNat))
  | .xor => some (.int k (k.wrap (BitVec.ofInt k.bits x ^^^ BitVec.ofInt k.bits y).toNat))
  | .andNot => some (.int k (k.wrap (BitVec.ofInt k.bits x &&& ~~~(BitVec.ofInt k.bits y)).toNat))
  | .eql => some (.bool (x == y))
  | .neq => some (.bool (x != y))
  | .lss => some (.bool (x < y))
  | .leq => some (.bool (x ≤ y))
  | .gtr => some (.bool (x > y))
  | .geq => some (.bool (x ≥ y))
  | _ => none

def shiftBin (op : BinOp) (k : IntKind) (x y : Int) : Option V :=
  if y < 0 then none else
  let n := min y.toNat k.bits
  match op with
  | .shl => some (.int k (k.wrap (x * 2 ^ n)))
  | .shr => some (.int k (x.fdiv (2 ^ n)))
  | _ => none

def strBin (op : BinOp) (x y : List UInt8) : Option V :=
  let eq := x == y
  let lt := Op.bytesLess x y
  match op with
  | .add => if x.length + y.length < 2 ^ 62 then some (.str (x ++ y)) else none
  | .eql => some (.bool eq)
  | .neq => some (.bool !eq)
  | .lss => some (.bool lt)
  | .leq => some (.bool (lt || eq))
  | .gtr => some (.bool !(lt || eq))
  | .geq => some (.bool !lt)
  | _ => none

/-- '==' of structs' fields, each of which fits a cell. -/
def eqFields (T : Tab) (xs ys : List V) : List Field → Option Bool
  | [] => some true
  | f :: fs =>
    if f.name = "_" then eqFields T xs ys fs else
    match T.und f.type, xs[f.offset]?, ys[f.offset]? with
    | some (TypeDesc.int _), some (V.int k a), some (V.int k' b) => if k = k' then (if a == b then eqFields T xs ys fs else some false) else none
    | some TypeDesc.string, some (V.str a), some (V.str b) => if a == b then eqFields T xs ys fs else some false
    | some TypeDesc.bool, some (V.bool a), some (V.bool b) => if a == b then eqFields T xs ys fs else some false
    | _, _, _ => none

/-- '==' of two values that are no numbers and no texts. -/
def eqVal (T : Tab) (t : TypeId) (x y : V) : Option Bool :=
  match T.ty t with
  | none => none
  | some ti =>
  match ti.und, x, y with
  | .bool, .bool a, .bool b => some (a == b)
  | .pointer _, .nilp, .nilp => some true
  | .pointer _, .nilp, .ptr .. | .pointer _, .nilp, .iptr _ | .pointer _, .nilp, .eptr .. => some false
  | .pointer _, .ptr .., .nilp | .pointer _, .iptr _, .nilp | .pointer _, .eptr .., .nilp => some false
  | .slice _, .list _ _ (_ :: _), .list _ (some true) _ => some false
  | .slice _, .list _ (some b) [], .list _ (some true) _ => some b
  | .slice _, .slice .., .list _ (some true) _ => some false
  | .map _ _, .nilmap, .nilmap => some true
  | .map _ _, .map _, .nilmap | .map _ _, .nilmap, .map _ => some false
  | .func .., .nilfunc, .nilfunc => some true
  | .func .., .func .., .nilfunc | .func .., .nilfunc, .func .. => some false
  | .interface _, .niliface, .niliface => some true
  | .interface _, .niliface, .iface .. | .interface _, .iface .., .niliface => some false
  | .interface _, .iface t _, .iface u _ => if t ≠ u then some false else none
  | .struct fs, .agg xs, .agg ys =>
    if ti.plain then eqFields T xs ys fs.toList
    else none
  | _, _, _ => none

def evBin (T : Tab) (op : BinOp) (t : TypeId) (x y : V) : Option V :=
  match op, x, y with
  | .shl, .int k a, .int _ b | .shr, .int k a, .int _ b => shiftBin op k a b
  | _, .int k a, .int k' b => if k = k' then intBin op k a b else none
  | _, .str a, .str b => strBin op a b
  | .eql, x, y => (eqVal T t x y).map .bool
  | .neq, x, y => (eqVal T t x y).map fun b => .bool !b
  | _, _, _ => none

def evUn (op : UnOp) (x : V) : Option V :=
  match op, x with
  | .neg, .int k n => some (.int k (k.wrap (0 - n)))
  | .xor, .int k n => intBin .xor k (if k.signed then -1 else k.max) n
  | .not, .bool b => some (.bool !b)
  | _, _ => none

def asIdx : V → Option Int
  | .int _ n => some n
  | _ => none

/-- A bound of a slice expression, at most m; d if it isn't given. -/
def bound (d m : Nat) (x : Option V) : Option Nat :=
  match x with
  | none => some d
  | some v => match asIdx v with
    | some n => if 0 ≤ n ∧ n ≤ m then some n.toNat else none
    | none => none

/-- The bounds of a slice expression without a third index. -/
def bounds (len cap : Nat) (low high : Option V) : Option (Nat × Nat) :=
  match bound len cap high with
  | none => none
  | some h => match bound 0 h low with
    | none => none
    | some l => some (l, h)

/-- Are a list's elements of this size? -/
def sizeFits (sz : Nat) (xs : List V) : Bool :=
  match xs with
  | [] => true
  | x :: _ => x.cells.length == sz

def sliceList (sz : Nat) (full : Bool) (nl : Option Bool) (xs : List V) (low high : Option V) (max : Option V) : Option V :=
  if sizeFits sz xs then
    match bounds xs.length xs.length low high with
    | none => none
    | some (l, h) => match max with
      | none => some (.list (full && h == xs.length) nl ((xs.drop l).take (h - l)))
      | some m => match asIdx m, high with
        | some n, some _ => if n = h then some (.list true nl ((xs.drop l).take (h - l))) else none
        | _, _ => none
  else none

def sliceVec (sz : Nat) (r s off len : Nat) (low high : Option V) (max : Option V) : Option V :=
  if s = sz then
    match bounds len len low high with
    | none => none
    | some (l, h) => match max with
      | none => some (.slice r s (off + l) (h - l))
      | some m => match asIdx m, high with
        | some n, some _ => if n = h ∧ l = h then some (.list true (some false) []) else none
        | _, _ => none
  else none

def evSlice (T : Tab) (t : TypeId) (x : V) (low high max : Option V) : Option V :=
  match T.und t with
  | some .string => match x, max with
    | .str s, none => match bounds s.length s.length low high with
      | some (l, h) => some (.str ((s.drop l).take (h - l)))
      | none => none
    | _, _ => none
  | some (.slice e) => match T.size e with
    | none => none
    | some sz => match x with
      | .list full nl xs => sliceList sz full nl xs low high max
      | .slice r s off len => sliceVec sz r s off len low high max
      | _ => none
  | _ => none

def cellsAt (ti : TI) (v : V) : Option (List V) := if v.cells.length = ti.size then some v.cells else none

/-- The address of a field. -/
def evFieldAddr (T : Tab) (s : TypeId) (x : V) (f : Nat) : Option V :=
  match T.und s with
  | some (.struct fs) => match fs[f]? with
    | none => none
    | some fd => match T.size fd.type with
      | none => none
      | some 0 => none
      | some _ => match x with
        | .ptr r off => some (.ptr r (off + fd.offset))
        | .eptr r i off => some (.eptr r i (off + fd.offset))
        | .iptr cs => some (.iptr (cs.drop fd.offset))
        | _ => none
  | _ => none

def evField (T : Tab) (s : TypeId) (x : V) (f : Nat) : Option V :=
  match T.und s, x with
  | some (.struct fs), .agg cs => match fs[f]? with
    | none => none
    | some fd => match T.ty fd.type with
      | none => none
      | some ti => part ti cs fd.offset
  | _, _ => none

def evIndexAddr (T : Tab) (t : TypeId) (x ix : V) : Option V :=
  match asIdx ix with
  | none => none
  | some n =>
  match T.und t with
  | some (.slice e) => match T.size e with
    | none => none
    | some s => match x with
      | .list _ _ xs => if 0 ≤ n then match xs[n.toNat]? with
        | some v => if v.cells.length = s then some (.iptr v.cells) else none
        | none => none else none
      | .slice r s' off len => if 0 ≤ n ∧ n < len ∧ s' = s then some (.eptr r (off + n.toNat) 0) else none
      | _ => none
  | some (.array len e) => match T.size e with
    | none => none
    | some 0 => none
    | some s => if 0 ≤ n ∧ n < len then match x with
      | .ptr r off => some (.ptr r (off + n.toNat * s))
      | .eptr r i off => some (.eptr r i (off + n.toNat * s))
      | .iptr cs => some (.iptr (cs.drop (n.toNat * s)))
      | _ => none else none
  | _ => none

def evIndex (T : Tab) (t : TypeId) (x ix : V) : Option V :=
  match asIdx ix with
  | none => none
  | some n =>
  if 0 ≤ n then
    match T.und t, x with
    | some .string, .str s => (s[n.toNat]?).map fun b => .int .u8 b.toNat
    | some (.array len e), .agg cs => match T.ty e with
      | none => none
      | some ti => if n < len then part ti cs (n.toNat * ti.size) else none
    | _, _ => none
  else none

/-- Parts laid into cells. -/
def fill (place : Nat → Option (Nat × Nat)) (cells : List V) : List (Nat × V) → Option (List V)
  | [] => some cells
  | (i, v) :: rest =>
    match place i with
    | none => none
    | some (off, size) =>
      if v.cells.length ≠ size ∨ off + size > cells.length then none
      else fill place (cells.take off ++ v.cells ++ cells.drop (off + size)) rest

/-- Where a struct's fields lie. -/
def placesOf (T : Tab) : List Field → Option (List (Nat × Nat))
  | [] => some []
  | f :: fs => match T.size f.type with
    | none => none
    | some s => match placesOf T fs with
      | none => none
      | some l => some ((f.offset, s) :: l)

def evBuild (T : Tab) (t : TypeId) (parts : List (Nat × V)) : Option V :=
  match T.ty t with
  | none => none
  | some ti => match ti.und with
    | .struct fs => match placesOf T fs.toList with
      | none => none
      | some places => (fill (fun i => places[i]?) ti.zero.cells parts).map .agg
    | .array _ e => match T.size e with
      | none => none
      | some s => (fill (fun i => some (i * s, s)) ti.zero.cells parts).map .agg
    | _ => none

/-- The elements of a literal slice: those that are given, over zeros. -/
def setAll (xs : List V) : List (Nat × V) → Option (List V)
  | [] => some xs
  | (i, v) :: r => if i < xs.length then setAll (xs.set i v) r else none

def evConv (T : Tab) (dst : TypeId) (x : V) : Option V :=
  match T.und dst, x with
  | some (.int k), .int _ n => some (.int k (k.wrap n))
  | some .string, .str s => some (.str s)
  | _, _ => none

def evLen (d : TypeDesc) (x : V) : Option Nat :=
  match d, x with
  | .array n _, _ => some n
  | .string, .str s => some s.length
  | .slice _, .list _ _ xs => some xs.length
  | .slice _, .slice _ _ _ n => some n
  | _, _ => none

def minmax (mx : Bool) (x y : V) : Option V :=
  match x, y with
  | .int k a, .int k' b => if k = k' then some (.int k (if mx then (if b > a then b else a) else (if b < a then b else a))) else none
  | _, _ => none

def optArg (T : Tab) (fr : Fr) : Option Operand → Option (Option V)
  | none => some none
  | some o => (evArg T fr o).map some

def isConst : Operand → Bool
  | .const _ => true
  | _ => false

/-- The operations that neither read nor change the store, nor make anything in memory. -/
def evPure (T : Tab) (fr : Fr) (op : Op) : Option V :=
  match op with
  | .move x | .assign x => evArg T fr x
  | .pick c a b => match evArg T fr c with
    | some (.bool t) => if t then evArg T fr a else evArg T fr b
    | _ => none
  | .nilCheck x => match evArg T fr x with
    | some (.ptr r o) => some (.ptr r o)
    | some (.eptr r i o) => some (.eptr r i o)
    | some (.iptr cs) => some (.iptr cs)
    | some (.func (.func f) a b) => some (.func (.func f) a b)
    | _ => none
  | .binOp op t x y _ => match evArg T fr x, evArg T fr y with
    | some .niliface, some .niliface => if isConst x || isConst y then evBin T op t .niliface .niliface else none
    | some a, some b => evBin T op t a b
    | _, _ => none
  | .unOp op _ x => (evArg T fr x).bind (evUn op)
  | .convert src dst x => if (T.und src).isSome then (evArg T fr x).bind (evConv T dst) else none
  | .makeInterface t x => match T.und t with
    | some (.interface _) | none => none
    | _ => (evArg T fr x).map (.iface t)
  | .makeFunc fn first captured => match evArgs T fr first.toList, evArgs T fr captured.toList with
    | some a, some b => match fn with
      | .func f => some (.func (.func f) a b)
      | _ => none
    | _, _ => none
  | .slice t x lo hi mx => match evArg T fr x, optArg T fr lo, optArg T fr hi, optArg T fr mx with
    | some x, some lo, some hi, some mx => evSlice T t x lo hi mx
    | _, _, _, _ => none
  | .fieldAddr s x f => (evArg T fr x).bind fun v => evFieldAddr T s v f
  | .field s x f => (evArg T fr x).bind fun v => evField T s v f
  | .indexAddr t x ix => match evArg T fr x, evArg T fr ix with
    | some a, some b => evIndexAddr T t a b
    | _, _ => none
  | .index t x ix => match evArg T fr x, evArg T fr ix with
    | some a, some b => evIndex T t a b
    | _, _ => none
  | .build t parts => (evArgs T fr (parts.toList.map (·.2))).bind fun vs => evBuild T t ((parts.toList.map (·.1)).zip vs)
  | .extract x i => match evArg T fr x with
    | some (.tup vs) => vs[i]?
    | _ => none
  | .call { callee := .builtin b, args, argTypes } => match b, evArgs T fr args.toList with
    | .len, some [x] => match (argTypes[0]?).bind T.und with
      | some d => match evLen d x with
        | some n => some (.int .i64 (n : Int))
        | none => none
      | _ => none
    | .cap, some [.list true _ xs] => match (argTypes[0]?).bind T.und with
      | some (.slice _) => some (.int .i64 xs.length)
      | _ => none
    | .min, some (x :: xs) => xs.foldl (fun acc y => acc.bind fun a => minmax false a y) (some x)
    | .max, some (x :: xs) => xs.foldl (fun acc y => acc.bind fun a => minmax true a y) (some x)
    | _, _ => none
  | _ => none

/-- Is it an operation that 'evPure' alone may run? -/
def isPure : Op → Bool
  | .move _ | .assign _ | .pick .. | .nilCheck _ | .binOp .. | .unOp .. | .makeInterface .. | .makeFunc .. | .slice .. | .fieldAddr ..
  | .field .. | .indexAddr .. | .index .. | .build .. | .extract .. => true
  | .call { callee := .builtin b, .. } => match b with
    | .cap | .min | .max => true
    | _ => false
  | _ => false

/-- Cells out of memory, from an address on. -/
def readCells (st : St) (a : V) (n : Nat) : Option (List V) :=
  match a with
  | .ptr r off => match st.store[r]? with
    | some (.box cs) => if off + n ≤ cs.length then some ((cs.drop off).take n) else none
    | _ => none
  | .eptr r i off => match st.store[r]? with
    | some (.vec _ es) => match es[i]? with
      | some e => if off + n ≤ e.cells.length then some ((e.cells.drop off).take n) else none
      | none => none
    | _ => none
  | .iptr cs => if n ≤ cs.length then some (cs.take n) else none
  | _ => none

def evLoad (T : Tab) (st : St) (t : TypeId) (a : V) : Option V :=
  match T.ty t with
  | none => none
  | some ti => if ti.agg then (readCells st a ti.size).map .agg else
    match readCells st a 1 with
    | some [v] => some v
    | _ => none

def splice (cs : List V) (off : Nat) (new : List V) : List V := cs.take off ++ new ++ cs.drop (off + new.length)

/-- May a value lie in one cell? -/
def V.oneCell : V → Bool
  | .agg _ | .tup _ => false
  | _ => true

/-- An element with other cells. -/
def putElem (e : V) (cs : List V) : V :=
  match e with
  | .agg _ => .agg cs
  | e => cs.headD e

def evStore (T : Tab) (st : St) (t : TypeId) (a v : V) : Option St :=
  match T.size t with
  | none => none
  | some n =>
  if v.cells.length = n ∧ v.cells.all V.oneCell = true then
    match a with
    | .ptr r off => if st.locked r then none else match st.store[r]? with
      | some (.box cs) => if off + n ≤ cs.length then some { st with store := st.store.set r (.box (splice cs off v.cells)) } else none
      | _ => none
    | .eptr r i off => if st.locked r then none else match st.store[r]? with
      | some (.vec false es) => match es[i]? with
        | some e => if off + n ≤ e.cells.length then
            some { st with store := st.store.set r (.vec false (es.set i (putElem e (splice e.cells off v.cells)))) } else none
        | none => none
      | _ => none
    | _ => none
  else none

def keyEq : V → V → Option Bool
  | .int k a, .int k' b => if k = k' then some (a == b) else none
  | .str a, .str b => some (a == b)
  | _, _ => none

/-- The place of a key. -/
def findKey (k : V) : List (V × V) → Nat → Option (Option (Nat × V))
  | [], _ => some none
  | (k', v) :: es, i => match keyEq k k' with
    | some true => some (some (i, v))
    | some false => findKey k es (i + 1)
    | none => none

/-- A key of a type whose equality is seen at once. -/
def keyOk (T : Tab) (kt : TypeId) (k : V) : Bool :=
  match T.und kt, k with
  | some (.int _), .int _ _ => true
  | some .string, .str _ => true
  | _, _ => false

def evLookup (T : Tab) (st : St) (t : TypeId) (m k : V) (ok : Bool) : Option V :=
  match T.und t with
  | some (.map kt et) =>
    if keyOk T kt k then
      match T.ty et with
      | none => none
      | some ti =>
        let ans (v : V) (b : Bool) : V := if ok then .tup [v, .bool b] else v
        match m with
        | .nilmap => some (ans ti.zero false)
        | .map r => match st.store[r]? with
          | some (.map es) => match findKey k es 0 with
            | some (some (_, v)) => some (ans v true)
            | some none => some (ans ti.zero false)
            | none => none
          | _ => none
        | _ => none
    else none
  | _ => none

def evMapUpdate (T : Tab) (st : St) (t : TypeId) (m k v : V) : Option St :=
  match T.und t, m with
  | some (.map kt _), .map r =>
    if st.locked r then none else
    if keyOk T kt k then
      match st.store[r]? with
      | some (.map es) => match findKey k es 0 with
        | some (some (i, _)) => some { st with store := st.store.set r (.map (es.set i (k, v))) }
        | some none => some { st with store := st.store.set r (.map (es ++ [(k, v)])) }
        | none => none
      | _ => none
    else none
  | _, _ => none

def St.new (st : St) (o : O) : St × Nat := ({ st with store := st.store ++ [o] }, st.store.length)

/-- The elements that are appended. -/
def srcElems (st : St) (x : V) : Option (List V) :=
  match x with
  | .list _ _ xs => some xs
  | .slice r _ off len => match st.store[r]? with
    | some (.vec _ es) => if off + len ≤ es.length then some ((es.drop off).take len) else none
    | _ => none
  | .str s => some (s.map fun b => .int .u8 b.toNat)
  | _ => none

def bytesOf : V → Option UInt8
  | .int .u8 n => some (UInt8.ofNat n.toNat)
  | _ => none

/-- Is what is appended spread (a slice that is there), or made for the call? -/
def evAppend (T : Tab) (st : St) (t : TypeId) (spread : Bool) (x y : V) : Option (V × St) :=
  match T.und t with
  | some (.slice e) => match T.ty e with
    | none => none
    | some ti => match srcElems st y with
      | none => none
      | some new =>
        if new.all (fun v => v.cells.length == ti.size && v.cells.all V.oneCell) = false ∨ ti.size = 0 ∨ ti.bytes = 0 then none else
        if new.isEmpty then (match x with | .list .. | .slice .. => some (x, st) | _ => none) else
        match x with
        | .list true _ xs =>
          if (xs.length + new.length) * ti.bytes < 2 ^ 40 ∧ xs.all (fun v => v.cells.length == ti.size && v.cells.all V.oneCell) = true then
            some (.slice st.store.length ti.size 0 (xs.length + new.length), { st with store := st.store ++ [.vec (!spread) (xs ++ new)] })
          else none
        | .slice r s off len => if st.locked r = true ∨ s ≠ ti.size then none else match st.store[r]? with
          | some (.vec acc es) =>
            if off + len = es.length ∧ (len + new.length) * ti.bytes < 2 ^ 40 then
              some (.slice st.store.length s 0 (len + new.length), { st with store := st.store.set r .dead ++ [.vec (acc || es.isEmpty) (es.drop off ++ new)] })
            else if acc = false ∧ off + len + new.length ≤ es.length then
              some (.slice r s off (len + new.length), { st with store := st.store.set r (.vec false (es.take (off + len) ++ new ++ es.drop (off + len + new.length))) })
            else none
          | _ => none
        | _ => none
  | _ => none

/-- 'append(x, make([]T, n)...)', of an x that is empty and without room. -/
def evAppendZeros (T : Tab) (st : St) (t : TypeId) (x y : V) : Option (V × St) :=
  match T.und t, x, y with
  | some (.slice e), .list true _ [], .int .i64 n => match T.ty e with
    | none => none
    | some ti =>
      if 0 < n ∧ n * ti.bytes < 2 ^ 40 ∧ n < 2 ^ 40 ∧ ti.size ≠ 0 ∧ ti.bytes ≠ 0 ∧ (ti.zero.cells.length == ti.size && ti.zero.cells.all V.oneCell) = true then
        some (.slice st.store.length ti.size 0 n.toNat, (st.new (.vec false (List.replicate n.toNat ti.zero))).1)
      else none
  | _, _, _ => none

/-- Is a vector taken as a list: it grows at its end alone, or nobody will have it any more. -/
def frozenNow (lim : Option Nat) (acc : Bool) (r : Nat) : Bool :=
  acc || match lim with
    | some m => decide (m ≤ r)
    | none => false

/-- Lists instead of vectors. -/
def freeze (st : St) (lim : Option Nat) : Nat → V → Option V
  | 0, _ => none
  | n + 1, v => match v with
    | .slice r s off len => match st.store[r]? with
      | some (.vec acc es) =>
        if frozenNow lim acc r then
          if off + len ≤ es.length then match ((es.drop off).take len).mapM (freeze st lim n) with
            | some xs => some (.list false none xs)
            | none => none
          else none
        else some (.slice r s off len)
      | _ => none
    | .agg cs => match cs.mapM (freeze st lim n) with
      | some cs => some (.agg cs)
      | none => none
    | .tup cs => match cs.mapM (freeze st lim n) with
      | some cs => some (.tup cs)
      | none => none
    | .list _ _ xs => match lim with
      | some _ => match xs.mapM (freeze st lim n) with
        | some xs => some (.list false none xs)
        | none => none
      | none => some (.list false none xs)
    | v => some v

/-- Does a value name only objects below a number? -/
def below (m : Nat) : Nat → V → Bool
  | 0, _ => false
  | n + 1, v => match v with
    | .bool _ | .int .. | .str _ | .nilp | .nilmap | .nilfunc | .niliface => true
    | .ptr r _ | .eptr r _ _ | .slice r _ _ _ | .map r => r < m
    | .iptr cs | .list _ _ cs | .agg cs | .tup cs => cs.all (below m n)
    | .iface _ v => below m n v
    | .func f a b => (match f with | .func _ => true | _ => false) && a.all (below m n) && b.all (below m n)

def deep : Nat := 40

/-- The rest of a loop over a function, as the machine keeps it. -/
def St.loop (st : St) (l : Nat) : Option L :=
  match st.store[l]? with
  | some (.loop r) => some r
  | _ => none

/-- The evaluator of smaller fuel. -/
structure S where
  code : Option Nat → Code → Fr → St → Option (E × Fr × St)
  call : FuncId → List V → St → Option (V × St)

def setParams (ps : List Tmp) (args : List V) (tmps : List V) : List V :=
  match ps, args with
  | t :: ps, a :: args => setParams ps args (tmps.set t a)
  | _, _ => tmps

/-- How a round ends. -/
def roundEnd (e : E) : LoopState × Option Code × Bool :=
  match e with
  | .normal => (.ready, none, true)
  | .ret => (.done, some .ret, false)
  | .exit id => (.done, some (.exit id), false)

/-- A round of a loop over a function: yield is called. -/
def evYield (S : S) (l : Nat) (args : List V) (st : St) : Option (V × St) :=
  if st.locked l then none else
  match st.loop l with
  | none => none
  | some r =>
    if args.length ≠ r.params.size then none else
    match S.code (some l) r.assign { tmps := setParams r.params.toList args r.tmps, marks := [] } st with
    | some (.normal, fr1, st1) => match st1.loop l with
      | some r1 => if r1.state = .ready then
          match S.code (some l) r.body fr1 { st1 with store := st1.store.set l (.loop { r1 with state := .busy }) } with
          | some (e, _, st2) => match st2.loop l with
            | some r2 => some (.bool (roundEnd e).2.2, { st2 with store := st2.store.set l (.loop { r2 with state := (roundEnd e).1, pending := (roundEnd e).2.1 }) })
            | none => none
          | none => none
        else none
      | none => none
    | _ => none

def evExt (e : Ext) (args : List V) (st : St) : Option (V × St) :=
  match e, args with
  | .indexByteString, [.str s, .int .u8 c] => match (List.range s.length).find? fun i => s[i]? == some c.toNat.toUInt8 with
    | some i => some (.int .i64 i, st)
    | none => some (.int .i64 (-1), st)
  | .countString, [.str s, .int .u8 c] => some (.int .i64 (s.filter (· == c.toNat.toUInt8)).length, st)
  | _, _ => none

/-- A call of a value. -/
def evInvoke (T : Tab) (S : S) (f : V) (args : List V) (st : St) : Option (V × St) :=
  match f with
  | .func (.func f) first captured => match T.ext f with
    | some e => evExt e (first ++ args ++ captured) st
    | none => S.call f (first ++ args ++ captured) st
  | .func (.yield l) [] [] => evYield S l args st
  | _ => none

/-- The operations that read or change the store, or make something in memory; no calls of functions. -/
def evMem0 (T : Tab) (fr : Fr) (st : St) (op : Op) : Option (V × St) :=
  match op with
  | .load t a => (evArg T fr a).bind fun a => (evLoad T st t a).map (·, st)
  | .store t a v => match evArg T fr a, evArg T fr v with
    | some a, some v => (evStore T st t a v).map (V.tup [], ·)
    | _, _ => none
  | .alloc t => (T.ty t).bind fun ti => if ti.zero.cells.all V.oneCell then some (.ptr st.store.length 0, (st.new (.box ti.zero.cells)).1) else none
  | .box _ x => (evArg T fr x).bind fun v => if v.cells.all V.oneCell then some (.ptr st.store.length 0, (st.new (.box v.cells)).1) else none
  | .buildSlice t len parts => (evArgs T fr (parts.toList.map (·.2))).bind fun vs => match T.und t with
    | some (.slice e) => (T.ty e).bind fun ti =>
      if len * ti.size ≤ 2 ^ 20 ∧ ti.size ≠ 0 ∧ vs.all (fun v => v.cells.length == ti.size) = true ∧ ti.zero.cells.length = ti.size then
        match setAll (List.replicate len ti.zero) ((parts.toList.map (·.1)).zip vs) with
        | some xs => some (.list true (some false) xs, st)
        | none => none
      else none
    | _ => none
  | .makeMap t r => match T.und t, r with
    | some (.map _ _), none => some (.map st.store.length, (st.new (.map [])).1)
    | some (.map _ _), some x => match evArg T fr x with
      | some (.int _ _) => some (.map st.store.length, (st.new (.map [])).1)
      | _ => none
    | _, _ => none
  | .makeSlice t l c => match T.und t, evArg T fr l, evArg T fr c with
    | some (.slice e), some (.int .i64 n), some (.int .i64 m) => (T.ty e).bind fun ti =>
      if 0 ≤ n ∧ n ≤ m ∧ m * ti.bytes < 2 ^ 40 ∧ m < 2 ^ 40 ∧ ti.size ≠ 0 ∧ (ti.zero.cells.length == ti.size && ti.zero.cells.all V.oneCell) = true then
        some (.slice st.store.length ti.size 0 n.toNat, (st.new (.vec false (List.replicate n.toNat ti.zero))).1)
      else none
    | _, _, _ => none
  | .convert src dst x => if (T.und src).isSome = false then none else match T.und dst, evArg T fr x with
    | some (.slice e), some (.str s) => match T.und e with
      | some (.int .u8) => if s.length < 2 ^ 40 then some (.list false (some false) (s.map fun b => .int .u8 b.toNat), st) else none
      | _ => none
    | _, _ => none
  | .lookup t m k ok => match evArg T fr m, evArg T fr k with
    | some m, some k => (evLookup T st t m k ok).map (·, st)
    | _, _ => none
  | .mapUpdate t m k v | .insert t m k v => match evArg T fr m, evArg T fr k, evArg T fr v with
    | some m, some k, some v => (evMapUpdate T st t m k v).map (V.tup [], ·)
    | _, _, _ => none
  | .call { callee := .builtin b, args, argTypes } => match b, evArgs T fr args.toList with
    | .len, some [.map r] => match st.store[r]? with
      | some (.map es) => match (argTypes[0]?).bind T.und with
        | some (.map _ _) => some (.int .i64 es.length, st)
        | _ => none
      | _ => none
    | .append, some [x, y] => match argTypes[0]?, (argTypes[1]?).bind T.und with
      | some t, some (.slice _) | some t, some .string => evAppend T st t (match y with | .list true _ _ => false | _ => true) x y
      | some t, some (.int _) => evAppendZeros T st t x y
      | _, _ => none
    | .copy, some [.slice r s off len, y] => if st.locked r then none else
      match (argTypes[0]?).bind T.und, st.store[r]?, srcElems st y with
      | some (.slice e), some (.vec false es), some src =>
        if T.size e = some s ∧ s ≠ 0 ∧ src.all (fun v => v.cells.length == s && v.cells.all V.oneCell) = true ∧ off + len ≤ es.length then
          some (.int .i64 (min src.length len : Nat), { st with store := st.store.set r (.vec false (es.take off ++ src.take len ++ es.drop (off + min src.length len))) })
        else none
      | _, _, _ => none
    | _, _ => none
  | _ => none

def evMem (T : Tab) (S : S) (fr : Fr) (st : St) (op : Op) : Option (V × St) :=
  match op with
  | .call { callee := .value f, args, .. } => match evArg T fr f, evArgs T fr args.toList with
    | some f, some args => evInvoke T S f args st
    | _, _ => none
  | op => evMem0 T fr st op

def evYielded (ops : Array Oper) (fr : Fr) (j : Nat) : Option Bool :=
  match ((ops[j]?).bind (·.dst)).bind (fr.tmps[·]?) with
  | some (.bool b) => some b
  | _ => none

/-- One operation. -/
def evOp (T : Tab) (S : S) (ops : Array Oper) (o : Oper) (fr : Fr) (st : St) : Option (Fr × St) :=
  if Region.wanted o (evYielded ops fr) then
    match evPure T fr o.op with
    | some v => some (fr.put o.dst v, st)
    | none => if isPure o.op then none else (evMem T S fr st o.op).map fun (v, st) => (fr.put o.dst v, st)
  else some (fr.put o.dst (.tup []), st)

def evOps (T : Tab) (S : S) (ops : Array Oper) : List Oper → Fr → St → Option (Fr × St)
  | [], fr, st => some (fr, st)
  | o :: os, fr, st => match evOp T S ops o fr st with
    | some (fr, st) => evOps T S ops os fr st
    | none => none

/-- How an operation of a region that draws its order is taken: pure; a read of one object; it makes an object and reads none; anything. -/
inductive Kd where
  | pure | read | make | any
  deriving DecidableEq

def kdOf (o : Oper) : Kd :=
  if isPure o.op then .pure else
  match o.op with
  | .load .. | .lookup .. => .read
  | .call { callee := .builtin .len, .. } => .read
  | .alloc _ | .box .. | .makeMap .. | .makeSlice .. => .make
  | .convert .. | .buildSlice .. => .read
  | _ => .any

/-- The object that a read looks at. -/
def readsOf (T : Tab) (fr : Fr) (op : Op) : List Nat :=
  match (match op with
    | .load _ a => evArg T fr a
    | .lookup _ m _ _ => evArg T fr m
    | .call { args, .. } => (args.toList.head?).bind (evArg T fr)
    | .convert _ _ x => evArg T fr x
    | _ => none) with
  | some (.ptr r _) | some (.eptr r _ _) | some (.map r) | some (.slice r _ _ _) => [r]
  | _ => []

/-- The first that may come up: one that is not of the kind 'any', if there is one. -/
def pickOp (b : Array Nat) (done : Nat) (soft : Bool) : List (Nat × Kd) → Option Nat
  | [] => none
  | (i, k) :: l => if (!soft || k != .any) && !done.testBit i && (b.getD i 0 &&& done) == b.getD i 0 then some i else pickOp b done soft l

def orderOf (b : Array Nat) (ks : List (Nat × Kd)) : Nat → Nat → List Nat
  | 0, _ => []
  | n + 1, done => match pickOp b done true ks with
    | some i => i :: orderOf b ks n (done ||| 2 ^ i)
    | none => match pickOp b done false ks with
      | some i => i :: orderOf b ks n (done ||| 2 ^ i)
      | none => []

/-- An entry of a plan: an operation, and which surely come before it. -/
structure Ent where
  i : Nat
  o : Oper
  m : Nat

def maskOf (past : List Ent) (i : Nat) : Nat :=
  match past.find? (·.i == i) with
  | some e => e.m
  | none => 0

def entOf (past : List Ent) (i : Nat) (o : Oper) : Ent :=
  ⟨i, o, o.after.toList.foldl (fun s e => if Region.binds .any e then s ||| 2 ^ e.on ||| maskOf past e.on else s) 0⟩

/-- May an entry come next: it comes up once; what it must wait for is there; what is not held against it is apart from it, and of what is of the kind 'any' and may lie on either side of it there is nothing. -/
def entOk (ops : Array Oper) (past : List Ent) (x : Ent) : Bool :=
  past.all (fun p => p.i != x.i && (x.m.testBit p.i || (p.o.apart ops x.o && !(kdOf p.o == .any && kdOf x.o != .pure)))) &&
  x.o.after.toList.all (fun e => !Region.binds .any e || past.any (·.i == e.on))

def mkPlan (ops : Array Oper) : List Nat → List Ent → Option (List Ent)
  | [], past => if past.length = ops.size ∧ (List.range ops.size).all (fun i => past.any (·.i == i)) = true then some past.reverse else none
  | i :: is, past => match ops[i]? with
    | none => none
    | some o => if entOk ops past (entOf past i o) then mkPlan ops is (entOf past i o :: past) else none

def planOf (ops : Array Oper) : Option (List Ent) :=
  mkPlan ops (orderOf (Region.before ops) (ops.toList.zipIdx.map fun (o, i) => (i, kdOf o)) ops.size 0) []

/-- What is locked while an operation runs: what was read by those that it need not follow. -/
def protOf (reads : List (Nat × Nat)) (x : Ent) : List Nat := (reads.filter fun y => !x.m.testBit y.1).map (·.2)

def evDraw (T : Tab) (S : S) (ops : Array Oper) : List Ent → List (Nat × Nat) → Fr → St → Option (Fr × St)
  | [], _, fr, st => some (fr, st)
  | x :: xs, reads, fr, st => match kdOf x.o with
    | .any => match evOp T S ops x.o fr { st with prot := protOf reads x ++ st.prot } with
      | some (fr', st') => evDraw T S ops xs reads fr' { st' with prot := st.prot }
      | none => none
    | .read => match evOp T S ops x.o fr st with
      | some (fr', st') => evDraw T S ops xs ((readsOf T fr x.o.op).map (x.i, ·) ++ reads) fr' st'
      | none => none
    | _ => match evOp T S ops x.o fr st with
      | some (fr', st') => evDraw T S ops xs reads fr' st'
      | none => none

def evRegion (T : Tab) (S : S) (ops : Array Oper) (draw : Bool) (fr : Fr) (st : St) : Option (Fr × St) :=
  if draw then
    match planOf ops with
    | some xs => evDraw T S ops xs [] fr st
    | none => none
  else evOps T S ops ops.toList fr st

/-- A loop over a function is entered: the block of its deferred calls, the marks of the frame. -/
def enterLoop (round : Option Nat) (fr : Fr) (st : St) : Option (Nat × List Nat × St) :=
  match round with
  | some l => match st.loop l with
    | some r => some (r.defers, fr.marks, st)
    | none => none
  | none => some (st.store.length, st.store.length :: fr.marks, { st with store := st.store ++ [O.defs] })

def evCode (T : Tab) (S : S) (round : Option Nat) (c : Code) (fr : Fr) (st : St) : Option (E × Fr × St) :=
  match c with
  | .skip | .label _ => some (.normal, fr, st)
  | .region _ ops draw => (evRegion T S ops draw fr st).map fun (fr, st) => (.normal, fr, st)
  | .seq a b => match S.code round a fr st with
    | some (.normal, fr, st) => S.code round b fr st
    | r => r
  | .cond c a b => match evArg T fr c with
    | some (.bool t) => S.code round (if t then a else b) fr st
    | _ => none
  | .block id b => match S.code round b fr st with
    | some (.exit id', fr, st) => some (if id' = id then .normal else .exit id', fr, st)
    | r => r
  | .loop b => match S.code round b fr st with
    | some (.normal, fr, st) => S.code round (.loop b) fr st
    | r => r
  | .scope b => S.code round b fr st
  | .exit id => some (.exit id, fr, st)
  | .ret => some (.ret, fr, st)
  | .rangeFunc g ps assign body => match evArg T fr g with
    | some (.func (.func f) first captured) =>
      if (T.ext f).isSome then none else
      match enterLoop round fr st with
      | none => none
      | some (ds, marks, st1) =>
        let l := st1.store.length
        match S.call f (first ++ [.func (.yield l) [] []] ++ captured) { st1 with store := st1.store ++ [O.loop { state := .ready, pending := none, tmps := fr.tmps, params := ps, assign, body, defers := ds }] } with
        | none => none
        | some (_, st2) => match st2.loop l with
          | some r =>
            if r.state = .busy ∨ st2.locked l = true then none else
            match r.pending with
            | none => some (.normal, { fr with marks }, { st2 with store := st2.store.set l (.loop { r with state := .exhausted }) })
            | some c => S.code round c { fr with marks } { st2 with store := st2.store.set l (.loop { r with state := .exhausted }) }
          | none => none
    | _ => none
  | _ => none

/-- A function's results. -/
def resList (T : Tab) (fr : Fr) (st : St) : List ResultVar → Option (List V)
  | [] => some []
  | r :: rs => match (match r with
      | .tmp t => some (fr.tmps.getD t (.tup []))
      | .cell a t => evLoad T st t (fr.tmps.getD a (.tup []))) with
    | none => none
    | some v => match resList T fr st rs with
      | none => none
      | some vs => some (v :: vs)

def evResults (T : Tab) (fn : Func) (fr : Fr) (st : St) : Option V :=
  match resList T fr st fn.results.toList with
  | some [v] => some v
  | some vs => some (.tup vs)
  | none => none

/-- The frame leaves: the blocks of its loops' deferred calls are shut. -/
def dropMarks : List Nat → St → Option St
  | [], st => some st
  | r :: rs, st => if st.locked r then none else
    match st.store[r]? with
    | some .defs => dropMarks rs { st with store := st.store.set r .dead }
    | _ => none

def evBody (T : Tab) (S : S) (fn : Func) (args : List V) (st : St) : Option (V × St) :=
  match fn.body with
  | none => none
  | some c => match S.code none c { tmps := args ++ List.replicate (fn.ntmps - args.length) (.tup []), marks := [] } st with
    | some (.normal, fr, st) | some (.ret, fr, st) => match dropMarks fr.marks st with
      | some st => match evResults T fn fr st with
        | some v => some (v, st)
        | none => none
      | none => none
    | _ => none

/-- An empty list of its own stays what may be appended to. -/
def top (v : V) (w : V) : V :=
  match v with
  | .list true _ [] => .list true none []
  | _ => w

/-- The answer of a call that changes nothing. -/
def evRet (st st' : St) (v : V) : Option (V × St) :=
  match freeze st' (some st.store.length) deep v with
  | none => none
  | some v' =>
    let v' := match v, v' with
      | .tup vs, .tup vs' => V.tup (List.zipWith top vs vs')
      | v, v' => top v v'
    if below st.store.length deep v' then some (v', st) else none

def evRo (T : Tab) (S : S) (fn : Func) (args : List V) (st : St) : Option (V × St) :=
  match args.mapM (freeze st none deep) with
  | none => none
  | some args => match evBody T S fn args { st with base := st.store.length } with
    | none => none
    | some (v, st') => evRet st st' v

/-- An argument that is an empty slice, nil or not. -/
def isEmptyList : V → Bool
  | .list _ _ [] => true
  | _ => false

def evCall (T : Tab) (S : S) (f : FuncId) (args : List V) (st : St) : Option (V × St) :=
  match T.fn f with
  | none => none
  | some fn => match T.mode f with
    | .open_ => evBody T S fn args st
    | .ro => evRo T S fn args st
    | .split => match args with
      | [x] =>
        if isEmptyList x then
          match evBody T S fn [.list false (some true) []] { st with base := st.store.length }, evBody T S fn [.list false (some false) []] { st with base := st.store.length } with
          | some (.list true _ [], _), some (.list true _ [], _) => some (.list true none [], st)
          | _, _ => none
        else evBody T S fn args st
      | _ => none

def ev (T : Tab) : Nat → S
  | 0 => { code := fun _ _ _ _ => none, call := fun _ _ _ => none }
  | n + 1 => { code := evCode T (ev T n), call := evCall T (ev T n) }

end Go.Abs
namespace Go.Abs

/-- Where an object lies. -/
structure G where
  b : Nat
  o : Nat
  s : Nat
  cap : Nat

/-- What is known of a world: where objects lie, and which cells will not change. -/
structure K where
  ρ : Nat → Option G
  I : Nat → Nat → Option Value

structure K.le (k k' : K) : Prop where
  ρ : ∀ r g, k.ρ r = some g → k'.ρ r = some g
  I : ∀ b o v, k.I b o = some v → k'.I b o = some v

theorem K.le.refl (k : K) : k.le k := ⟨fun _ _ h => h, fun _ _ _ h => h⟩
theorem K.le.trans {a b c : K} (h : a.le b) (h' : b.le c) : a.le c := ⟨fun r g x => h'.ρ r g (h.ρ r g x), fun b o v x => h'.I b o v (h.I b o v x)⟩

mutual
inductive VR (k : K) : V → Value → Prop
  | bool (b : Bool) : VR k (.bool b) (.bool b)
  | int (kd : IntKind) (n : Int) : VR k (.int kd n) (.int kd n)
  | str (s : ByteArray) : VR k (.str s.data.toList) (.string s)
  | nilp : VR k .nilp (.pointer none)
  | ptr (r off : Nat) (g : G) (h : k.ρ r = some g) : VR k (.ptr r off) (.pointer (some ⟨g.b, g.o + off, none⟩))
  | eptr (r i off : Nat) (g : G) (h : k.ρ r = some g) : VR k (.eptr r i off) (.pointer (some ⟨g.b, g.o + i * g.s + off, none⟩))
  | iptr (cs : List V) (vs : List Value) (b o : Nat) (h : VRs k cs vs) (hI : ∀ (j : Nat) (v : Value), vs[j]? = some v → k.I b (o + j) = some v) :
      VR k (.iptr cs) (.pointer (some ⟨b, o, none⟩))
  | list0 (full : Bool) (nl : Option Bool) (base : Option Addr) (cap : Nat) (hf : full = true → cap = 0) (h1 : nl = some true → base = none) (h2 : nl = some false → base ≠ none) :
      VR k (.list full nl []) (.slice base 0 cap)
  | list1 (full : Bool) (nl : Option Bool) (x : V) (xs : List V) (vs : List Value) (b o s cap : Nat) (h : VRs k ((x :: xs).flatMap V.cells) vs)
      (hI : ∀ (j : Nat) (v : Value), vs[j]? = some v → k.I b (o + j) = some v) (hs : ∀ y ∈ x :: xs, y.cells.length = s)
      (hf : full = true → cap = xs.length + 1) (hc : xs.length + 1 ≤ cap) (hn : nl ≠ some true) :
      VR k (.list full nl (x :: xs)) (.slice (some ⟨b, o, none⟩) (xs.length + 1) cap)
  | slice (r s off len : Nat) (g : G) (a : Addr) (h : k.ρ r = some g) (hs : g.s = s) (hl : off + len ≤ g.cap) (ha : g.cap - off ≠ 0 → a = ⟨g.b, g.o + off * s, none⟩) :
      VR k (.slice r s off len) (.slice (some a) len (g.cap - off))
  | map (r : Nat) (g : G) (h : k.ρ r = some g) : VR k (.map r) (.map (some g.b))
  | nilmap : VR k .nilmap (.map none)
  | func (f : FuncId) (a b : List V) (as bs : List Value) (ha : VRs k a as) (hb : VRs k b bs) : VR k (.func (.func f) a b) (.func (.func f) ⟨as⟩ ⟨bs⟩)
  | yield (l : Nat) (g : G) (h : k.ρ l = some g) : VR k (.func (.yield l) [] []) (.func (.yield g.b) #[] #[])
  | nilfunc : VR k .nilfunc .nilFunc
  | iface (t : TypeId) (v : V) (x : Value) (h : VR k v x) : VR k (.iface t v) (.iface t x)
  | niliface : VR k .niliface .nilIface
  | agg (cs : List V) (vs : List Value) (h : VRs k cs vs) : VR k (.agg cs) (.agg ⟨vs⟩)
  | tup (cs : List V) (vs : List Value) (h : VRs k cs vs) : VR k (.tup cs) (.tuple ⟨vs⟩)
inductive VRs (k : K) : List V → List Value → Prop
  | nil : VRs k [] []
  | cons {v : V} {x : Value} {vs : List V} {xs : List Value} (h : VR k v x) (hs : VRs k vs xs) : VRs k (v :: vs) (x :: xs)
end

theorem VRs.mono {k k' : K} (hk : k.le k') {v : List V} {x : List Value} (h : VRs k v x) : VRs k' v x :=
  VRs.rec (motive_1 := fun v x _ => VR k' v x) (motive_2 := fun v x _ => VRs k' v x)
    (fun b => .bool b) (fun kd n => .int kd n) (fun s => .str s) .nilp (fun r off g h => .ptr r off g (hk.ρ _ _ h)) (fun r i off g h => .eptr r i off g (hk.ρ _ _ h))
    (fun cs vs b o _ hI ih => .iptr cs vs b o ih fun j v hv => hk.I _ _ _ (hI j v hv))
    (fun full nl base cap hf h1 h2 => .list0 full nl base cap hf h1 h2)
    (fun full nl x xs vs b o s cap _ hI hs hf hc hn ih => .list1 full nl x xs vs b o s cap ih (fun j v hv => hk.I _ _ _ (hI j v hv)) hs hf hc hn)
    (fun r s off len g a h hs hl ha => .slice r s off len g a (hk.ρ _ _ h) hs hl ha)
    (fun r g h => .map r g (hk.ρ _ _ h)) .nilmap (fun f a b as bs _ _ iha ihb => .func f a b as bs iha ihb) (fun l g h => .yield l g (hk.ρ _ _ h)) .nilfunc
    (fun t v x _ ih => .iface t v x ih) .niliface (fun cs vs _ ih => .agg cs vs ih) (fun cs vs _ ih => .tup cs vs ih)
    .nil (fun _ _ ih ihs => .cons ih ihs) h

theorem VR.mono {k k' : K} (hk : k.le k') {v : V} {x : Value} (h : VR k v x) : VR k' v x := by
  have := VRs.mono hk (VRs.cons h .nil)
  cases this with
  | cons h _ => exact h

theorem VRs.length {k : K} : ∀ {vs : List V} {xs : List Value}, VRs k vs xs → vs.length = xs.length
  | _, _, .nil => rfl
  | _, _, .cons _ hs => by simp [hs.length]

theorem VRs.get {k : K} : ∀ {vs : List V} {xs : List Value}, VRs k vs xs → ∀ (i : Nat) (v : V), vs[i]? = some v → ∃ x, xs[i]? = some x ∧ VR k v x
  | _, _, .nil, i, v, h => by simp at h
  | _, _, .cons (x := x) hx hs, 0, v, h => by simp at h; subst h; exact ⟨x, rfl, hx⟩
  | _, _, .cons hx hs, i + 1, v, h => by simpa using hs.get i v (by simpa using h)

theorem VRs.get' {k : K} {vs : List V} {xs : List Value} (h : VRs k vs xs) (i : Nat) (x : Value) (hx : xs[i]? = some x) : ∃ v, vs[i]? = some v ∧ VR k v x := by
  have hl := h.length
  have hi : i < xs.length := by
    rcases Nat.lt_or_ge i xs.length with h | h
    · exact h
    · rw [List.getElem?_eq_none h] at hx; cases hx
  have hv : vs[i]? = some (vs[i]'(by omega)) := List.getElem?_eq_getElem _
  obtain ⟨x', h1, h2⟩ := h.get i _ hv
  rw [h1] at hx; cases hx
  exact ⟨_, hv, h2⟩

theorem VRs.append {k : K} : ∀ {vs : List V} {xs : List Value} {ws : List V} {ys : List Value}, VRs k vs xs → VRs k ws ys → VRs k (vs ++ ws) (xs ++ ys)
  | _, _, _, _, .nil, h => h
  | _, _, _, _, .cons h hs, h' => .cons h (hs.append h')

theorem VRs.drop {k : K} : ∀ (n : Nat) {vs : List V} {xs : List Value}, VRs k vs xs → VRs k (vs.drop n) (xs.drop n)
  | 0, _, _, h => by simpa using h
  | _ + 1, _, _, .nil => by simpa using .nil
  | n + 1, _, _, .cons _ hs => by simpa using VRs.drop n hs

theorem VRs.take {k : K} : ∀ (n : Nat) {vs : List V} {xs : List Value}, VRs k vs xs → VRs k (vs.take n) (xs.take n)
  | 0, _, _, h => by simpa using .nil
  | _ + 1, _, _, .nil => by simpa using .nil
  | n + 1, _, _, .cons h hs => by simpa using .cons h (VRs.take n hs)

theorem VRs.set {k : K} : ∀ (n : Nat) {vs : List V} {xs : List Value} {v : V} {x : Value}, VRs k vs xs → VR k v x → VRs k (vs.set n v) (xs.set n x)
  | _, _, _, _, _, .nil, _ => by simpa using .nil
  | 0, _, _, _, _, .cons _ hs, h => by simpa using .cons h hs
  | n + 1, _, _, _, _, .cons h' hs, h => by simpa using .cons h' (VRs.set n hs h)

theorem VRs.replicate {k : K} {v : V} {x : Value} (h : VR k v x) : ∀ n, VRs k (List.replicate n v) (List.replicate n x)
  | 0 => .nil
  | n + 1 => by simpa [List.replicate_succ] using .cons h (VRs.replicate h n)

/-- A related list's parts: the cut of an append. -/
theorem VRs.split {k : K} : ∀ {vs ws : List V} {zs : List Value}, VRs k (vs ++ ws) zs → ∃ xs ys, zs = xs ++ ys ∧ VRs k vs xs ∧ VRs k ws ys
  | [], _, zs, h => ⟨[], zs, rfl, .nil, h⟩
  | _ :: vs, _, _, .cons h hs => by
    obtain ⟨xs, ys, e, h1, h2⟩ := VRs.split (vs := vs) hs
    exact ⟨_ :: xs, ys, by rw [e]; rfl, .cons h h1, h2⟩

theorem VR.cells {k : K} {v : V} {x : Value} (h : VR k v x) : VRs k v.cells x.cells.toList := by
  cases h <;> first | exact .cons (by constructor <;> assumption) .nil | skip
  case agg cs vs h => exact h

theorem VR.oneCell {k : K} {v : V} {x : Value} (h : VR k v x) (h1 : v.oneCell = true) : (∀ cs, x ≠ .agg cs) ∧ (∀ cs, x ≠ .tuple cs) := by
  cases h <;> simp_all [V.oneCell]

end Go.Abs
namespace Go.Abs

inductive OR (k : K) (g : G) (h : Option Obj) : O → Prop
  | dead : OR k g h .dead
  | box (cs : List V) (vs : List Value) (t : TypeId) (hh : h = some (.cells vs.toArray t (0, 0))) (hv : VRs k cs vs) (ho : g.o = 0) (hI : ∀ o, k.I g.b o = none) : OR k g h (.box cs)
  | vec (acc : Bool) (es : List V) (arr : Array Value) (t : TypeId) (vs : List Value) (hh : h = some (.cells arr t (0, 0))) (hz : arr.size = g.o + g.cap * g.s) (hc : es.length ≤ g.cap)
      (hs : ∀ x ∈ es, x.cells.length = g.s) (hv : VRs k (es.flatMap V.cells) vs) (ha : ∀ (j : Nat) (v : Value), vs[j]? = some v → arr[g.o + j]? = some v)
      (hI : acc = true → ∀ (j : Nat) (v : Value), vs[j]? = some v → k.I g.b (g.o + j) = some v) (hI' : ∀ o, g.o ≤ o → (acc = true → g.o + vs.length ≤ o) → k.I g.b o = none) :
      OR k g h (.vec acc es)
  | map (es : List (V × V)) (ents : Array MapEntry) (clock : Nat) (hh : h = some (.map ents clock)) (hl : ents.size = es.length)
      (he : ∀ (i : Nat) (x : V × V) (e : MapEntry), es[i]? = some x → ents[i]? = some e → VR k x.1 e.key ∧ VR k x.2 e.val) : OR k g h (.map es)
  | loop (l : L) (vs : List Value) (fn : FuncId) (gd : G) (hd : k.ρ l.defers = some gd) (hv : VRs k l.tmps vs)
      (hh : h = some (.loop { state := l.state, pending := l.pending, fn, tmps := vs.toArray, params := l.params, assign := l.assign, body := l.body, defers := gd.b })) : OR k g h (.loop l)
  | defs (hh : h = some (.deferred (some []))) : OR k g h .defs

structure WR (k : K) (st : St) (w : World) : Prop where
  imm : ∀ b o v, k.I b o = some v → w.cell? ⟨b, o, none⟩ = some v
  obj : ∀ r g, k.ρ r = some g → ∃ ob, st.store[r]? = some ob ∧ OR k g w.heap[g.b]? ob
  bound : ∀ r g, k.ρ r = some g → g.b < w.heap.size
  apart : ∀ r r' g g', k.ρ r = some g → k.ρ r' = some g' → g.b = g'.b → st.store[r]? ≠ some .dead → st.store[r']? ≠ some .dead → r = r'

theorem WR.lt {k : K} {st : St} {w : World} (h : WR k st w) {r : Nat} {g : G} (hr : k.ρ r = some g) : r < st.store.length := by
  obtain ⟨ob, h1, _⟩ := h.obj r g hr
  exact (List.getElem?_eq_some_iff.1 h1).1

theorem WR.immLt {k : K} {st : St} {w : World} (h : WR k st w) {b o : Nat} {v : Value} (hi : k.I b o = some v) : b < w.heap.size := by
  have := h.imm b o v hi
  rcases Nat.lt_or_ge b w.heap.size with hb | hb
  · exact hb
  · simp [World.cell?, Array.getElem?_eq_none hb] at this

theorem OR.mono {k k' : K} (hk : k.le k') {g : G} {h : Option Obj} {o : O} (hI : ∀ o, k.I g.b o = none → k'.I g.b o = none) (ho : OR k g h o) : OR k' g h o := by
  cases ho with
  | dead => exact .dead
  | box cs vs t hh hv ho hi => exact .box cs vs t hh (hv.mono hk) ho fun o => hI o (hi o)
  | vec acc es arr t vs hh hz hc hs hv ha hi hi' =>
    exact .vec acc es arr t vs hh hz hc hs (hv.mono hk) ha (fun h j v hj => hk.I _ _ _ (hi h j v hj)) fun o h1 h2 => hI o (hi' o h1 h2)
  | map es ents clock hh hl he => exact .map es ents clock hh hl fun i x e h1 h2 => ⟨(he i x e h1 h2).1.mono hk, (he i x e h1 h2).2.mono hk⟩
  | loop l vs fn gd hd hv hh => exact .loop l vs fn gd (hk.ρ _ _ hd) (hv.mono hk) hh
  | defs hh => exact .defs hh

/-- The parts of a world that no step turns. -/
def Env (w w' : World) : Prop := w'.tape = w.tape ∧ w'.os = w.os ∧ w'.output = w.output

/-- From one state to a later one; X: the elder objects that were touched. -/
structure Tr (X : Nat → Prop) (k k' : K) (st st' : St) (w w' : World) : Prop where
  le : k.le k'
  wr : WR k' st' w'
  size : w.heap.size ≤ w'.heap.size
  len : st.store.length ≤ st'.store.length
  base : st'.base = st.base
  prot : st'.prot = st.prot
  lock : ∀ r, X r → st.locked r = false ∧ ∃ g, k.ρ r = some g
  same : ∀ r, r < st.store.length → ¬ X r → st'.store[r]? = st.store[r]?
  frame : ∀ b, b < w.heap.size → (∀ r g, k.ρ r = some g → g.b = b → ¬ X r) → w'.heap[b]? = w.heap[b]?
  newρ : ∀ r g, k.ρ r = none → k'.ρ r = some g → st.store.length ≤ r ∧ (w.heap.size ≤ g.b ∨ ∃ r0 g0, X r0 ∧ k.ρ r0 = some g0 ∧ g0.b = g.b)
  newI : ∀ b o v, k.I b o = none → k'.I b o = some v → w.heap.size ≤ b ∨ ∃ r0 g0, X r0 ∧ k.ρ r0 = some g0 ∧ g0.b = b
  env : Env w w'

theorem Tr.locked {X : Nat → Prop} {k k' : K} {st st' : St} {w w' : World} (h : Tr X k k' st st' w w') (r : Nat) : st'.locked r = st.locked r := by
  simp [St.locked, h.base, h.prot]

theorem Tr.refl {k : K} {st : St} {w : World} (h : WR k st w) : Tr (fun _ => False) k k st st w w :=
  ⟨.refl k, h, Nat.le_refl _, Nat.le_refl _, rfl, rfl, fun _ h => h.elim, fun _ _ _ => rfl, fun _ _ _ => rfl, (fun r g h1 h2 => by rw [h1] at h2; cases h2), (fun b o v h1 h2 => by rw [h1] at h2; cases h2), rfl, rfl, rfl⟩

theorem Tr.trans {X Y : Nat → Prop} {k k' k'' : K} {st st' st'' : St} {w w' w'' : World} (hw : WR k st w) (h : Tr X k k' st st' w w') (h' : Tr Y k' k'' st' st'' w' w'') :
    Tr (fun r => X r ∨ (Y r ∧ r < st.store.length)) k k'' st st'' w w'' where
  le := h.le.trans h'.le
  wr := h'.wr
  size := Nat.le_trans h.size h'.size
  len := Nat.le_trans h.len h'.len
  base := h'.base.trans h.base
  prot := h'.prot.trans h.prot
  lock := by
    rintro r (hx | ⟨hy, hl⟩)
    · exact h.lock r hx
    · obtain ⟨h1, g, hg⟩ := h'.lock r hy
      refine ⟨by rw [← h.locked r]; exact h1, ?_⟩
      cases e : k.ρ r with
      | some g => exact ⟨g, rfl⟩
      | none => have := (h.newρ r g e hg).1; omega
  same := by
    intro r hr hx
    have h1 : ¬ X r := fun a => hx (.inl a)
    have h2 : ¬ Y r := fun a => hx (.inr ⟨a, hr⟩)
    rw [h'.same r (Nat.lt_of_lt_of_le hr h.len) h2, h.same r hr h1]
  frame := by
    intro b hb hx
    rw [h'.frame b (Nat.lt_of_lt_of_le hb h.size) ?_, h.frame b hb fun r g a c d => hx r g a c (.inl d)]
    intro r g hg e hy
    cases e' : k.ρ r with
    | some g' =>
      have := h.le.ρ r g' e'
      rw [hg] at this; cases this
      exact hx r g e' e (.inr ⟨hy, hw.lt e'⟩)
    | none =>
      rcases (h.newρ r g e' hg).2 with hs | ⟨r0, g0, hx0, h0, he⟩
      · omega
      · exact hx r0 g0 h0 (he.trans e) (.inl hx0)
  newρ := by
    intro r g hn hs
    cases e : k'.ρ r with
    | some g' =>
      have := h'.le.ρ r g' e
      rw [hs] at this; cases this
      obtain ⟨h1, h2⟩ := h.newρ r g hn e
      exact ⟨h1, h2.imp id fun ⟨r0, g0, a, b, c⟩ => ⟨r0, g0, .inl a, b, c⟩⟩
    | none =>
      obtain ⟨h1, h2⟩ := h'.newρ r g e hs
      refine ⟨Nat.le_trans h.len h1, ?_⟩
      rcases h2 with h2 | ⟨r0, g0, hy, h0, he⟩
      · exact .inl (Nat.le_trans h.size h2)
      · cases e0 : k.ρ r0 with
        | some g' =>
          have := h.le.ρ r0 g' e0
          rw [h0] at this; cases this
          exact .inr ⟨r0, g0, .inr ⟨hy, hw.lt e0⟩, e0, he⟩
        | none =>
          rcases (h.newρ r0 g0 e0 h0).2 with h3 | ⟨r1, g1, hx, h1', he'⟩
          · exact .inl (he ▸ h3)
          · exact .inr ⟨r1, g1, .inl hx, h1', he'.trans he⟩
  newI := by
    intro b o v hn hs
    cases e : k'.I b o with
    | some v' =>
      rcases h.newI b o v' hn e with h1 | ⟨r0, g0, a, c, d⟩
      · exact .inl h1
      · exact .inr ⟨r0, g0, .inl a, c, d⟩
    | none =>
      rcases h'.newI b o v e hs with h2 | ⟨r0, g0, hy, h0, he⟩
      · exact .inl (Nat.le_trans h.size h2)
      · cases e0 : k.ρ r0 with
        | some g' =>
          have := h.le.ρ r0 g' e0
          rw [h0] at this; cases this
          exact .inr ⟨r0, g0, .inr ⟨hy, hw.lt e0⟩, e0, he⟩
        | none =>
          rcases (h.newρ r0 g0 e0 h0).2 with h3 | ⟨r1, g1, hx, h1', he'⟩
          · exact .inl (he ▸ h3)
          · exact .inr ⟨r1, g1, .inl hx, h1', he'.trans he⟩
  env := ⟨h'.env.1.trans h.env.1, h'.env.2.1.trans h.env.2.1, h'.env.2.2.trans h.env.2.2⟩

/-- Some touched. -/
def Later (k k' : K) (st st' : St) (w w' : World) : Prop := ∃ X, Tr X k k' st st' w w'

theorem Later.wr {k k' : K} {st st' : St} {w w' : World} (h : Later k k' st st' w w') : WR k' st' w' := let ⟨_, h⟩ := h; h.wr
theorem Later.le {k k' : K} {st st' : St} {w w' : World} (h : Later k k' st st' w w') : k.le k' := let ⟨_, h⟩ := h; h.le
theorem Later.refl {k : K} {st : St} {w : World} (h : WR k st w) : Later k k st st w w := ⟨_, Tr.refl h⟩
theorem Later.trans {k k' k'' : K} {st st' st'' : St} {w w' w'' : World} (hw : WR k st w) (h : Later k k' st st' w w') (h' : Later k' k'' st' st'' w' w'') : Later k k'' st st'' w w'' :=
  let ⟨_, h⟩ := h; let ⟨_, h'⟩ := h'; ⟨_, h.trans hw h'⟩

/-- A world alike but for what was drawn. -/
theorem WR.heap {k : K} {st : St} {w w' : World} (h : WR k st w) (hh : w'.heap = w.heap) : WR k st w' :=
  ⟨fun b o v hi => by have := h.imm b o v hi; simpa [World.cell?, hh] using this, fun r g hr => by rw [hh]; exact h.obj r g hr, fun r g hr => by rw [hh]; exact h.bound r g hr, h.apart⟩

theorem Later.drew {k : K} {st : St} {w w' : World} (h : WR k st w) (hh : w'.heap = w.heap) (he : Env w w' := by first | exact ⟨rfl, rfl, rfl⟩ | assumption) : Later k k st st w w' :=
  ⟨fun _ => False, .refl k, h.heap hh, by rw [hh]; exact Nat.le_refl _, Nat.le_refl _, rfl, rfl, fun _ h => h.elim, fun _ _ _ => rfl, fun _ _ _ => by rw [hh], (fun r g h1 h2 => by rw [h1] at h2; cases h2), (fun b o v h1 h2 => by rw [h1] at h2; cases h2), he⟩

end Go.Abs
namespace Go.Abs

def K.put (k : K) (r : Nat) (g : G) : K := { k with ρ := fun x => if x = r then some g else k.ρ x }
def K.lay (k : K) (b : Nat) (J : Nat → Option Value) : K := { k with I := fun x o => if x = b then (match J o with | some v => some v | none => k.I x o) else k.I x o }

/-- The cell of an object. -/
def cellOf (ob : Obj) (o : Nat) : Option Value :=
  match ob with
  | .cells c _ _ => c[o]?
  | _ => none

theorem cell?_of {w : World} {b o : Nat} {ob : Obj} (h : w.heap[b]? = some ob) : w.cell? ⟨b, o, none⟩ = cellOf ob o := by
  simp only [World.cell?, h]
  cases ob <;> rfl

theorem cell?_congr {w w' : World} {b o : Nat} (h : w'.heap[b]? = w.heap[b]?) : w'.cell? ⟨b, o, none⟩ = w.cell? ⟨b, o, none⟩ := by
  simp only [World.cell?, h]

theorem lay_le {k : K} {st : St} {w : World} (hw : WR k st w) {b : Nat} {J : Nat → Option Value} (hb : ∀ o v v', k.I b o = some v → J o = some v' → v' = v) : k.le (k.lay b J) :=
  ⟨fun _ _ h => h, fun x o v h => by
    simp only [K.lay]
    split
    · rename_i e; subst e
      cases hj : J o with
      | none => exact h
      | some v' => rw [hb o v v' h hj]
    · exact h⟩

/-- Memory that is made and will not change: no object. -/
theorem Later.allocI {k : K} {st : St} {w w' : World} (hw : WR k st w) (ob : Obj) (J : Nat → Option Value) (hh : w'.heap = w.heap.push ob) (hJ : ∀ o v, J o = some v → cellOf ob o = some v) (he : Env w w' := by first | exact ⟨rfl, rfl, rfl⟩ | assumption) :
    Later k (k.lay w.heap.size J) st st w w' := by
  have hnone : ∀ o, k.I w.heap.size o = none := fun o => by
    cases e : k.I w.heap.size o with
    | none => rfl
    | some v => exact absurd (hw.immLt e) (Nat.lt_irrefl _)
  have hle : k.le (k.lay w.heap.size J) := lay_le hw fun o v v' h => by rw [hnone o] at h; cases h
  have hold : ∀ b, b < w.heap.size → w'.heap[b]? = w.heap[b]? := fun b hb => by rw [hh]; simp [Array.getElem?_push, Nat.ne_of_lt hb]
  refine ⟨fun _ => False, hle, ⟨?_, ?_, ?_, ?_⟩, by rw [hh]; simp, Nat.le_refl _, rfl, rfl, fun _ h => h.elim, fun _ _ _ => rfl, fun b hb _ => hold b hb, ?_, ?_, he⟩
  · intro b o v hi
    simp only [K.lay] at hi
    split at hi
    · rename_i e; subst e
      cases hj : J o with
      | none => rw [hj] at hi; simp only at hi; rw [hnone o] at hi; cases hi
      | some v' =>
        rw [hj] at hi; cases hi
        rw [cell?_of (ob := ob) (by rw [hh]; simp)]
        exact hJ o _ hj
    · rw [cell?_congr (hold b (hw.immLt hi))]; exact hw.imm b o v hi
  · intro r g hr
    obtain ⟨o, h1, h2⟩ := hw.obj r g hr
    refine ⟨o, h1, ?_⟩
    rw [hold _ (hw.bound r g hr)]
    refine h2.mono hle fun o' h => ?_
    simp only [K.lay]
    rw [if_neg (Nat.ne_of_lt (hw.bound r g hr))]; exact h
  · intro r g hr; have := hw.bound r g hr; rw [hh]; simp; omega
  · exact hw.apart
  · intro r g h1 h2; simp only [K.lay] at h2; rw [h1] at h2; cases h2
  · intro b o v h1 h2
    simp only [K.lay] at h2
    split at h2
    · rename_i e; exact .inl (Nat.le_of_eq e.symm)
    · rw [h1] at h2; cases h2

/-- A new object. -/
theorem Later.alloc {k : K} {st st' : St} {w w' : World} (hw : WR k st w) (ob : Obj) (o : O) (J : Nat → Option Value) (g : G) (hg : g.b = w.heap.size) (hh : w'.heap = w.heap.push ob)
    (hst : st'.store = st.store ++ [o]) (hb : st'.base = st.base) (hp : st'.prot = st.prot) (hJ : ∀ o v, J o = some v → cellOf ob o = some v)
    (ho : OR ((k.lay w.heap.size J).put st.store.length g) g (some ob) o) (he : Env w w' := by first | exact ⟨rfl, rfl, rfl⟩ | assumption) :
    Later k ((k.lay w.heap.size J).put st.store.length g) st st' w w' := by
  have hnone : ∀ o, k.I w.heap.size o = none := fun o => by
    cases e : k.I w.heap.size o with
    | none => rfl
    | some v => exact absurd (hw.immLt e) (Nat.lt_irrefl _)
  have hrn : ∀ r g, k.ρ r = some g → r ≠ st.store.length := fun r g h e => by have := hw.lt h; omega
  have hle : k.le ((k.lay w.heap.size J).put st.store.length g) := (lay_le hw fun o v v' h => by rw [hnone o] at h; cases h).trans
    ⟨fun r g' h => by simp only [K.put]; rw [if_neg (hrn r g' h)]; exact h, fun _ _ _ h => h⟩
  have hold : ∀ b, b < w.heap.size → w'.heap[b]? = w.heap[b]? := fun b hb => by rw [hh]; simp [Array.getElem?_push, Nat.ne_of_lt hb]
  refine ⟨fun _ => False, hle, ⟨?_, ?_, ?_, ?_⟩, by rw [hh]; simp, by rw [hst]; simp, hb, hp, fun _ h => h.elim, ?_, fun b hb _ => hold b hb, ?_, ?_, he⟩
  · intro b o v hi
    simp only [K.lay, K.put] at hi
    split at hi
    · rename_i e; subst e
      cases hj : J o with
      | none => rw [hj] at hi; simp only at hi; rw [hnone o] at hi; cases hi
      | some v' =>
        rw [hj] at hi; cases hi
        rw [cell?_of (ob := ob) (by rw [hh]; simp)]
        exact hJ o _ hj
    · rw [cell?_congr (hold b (hw.immLt hi))]; exact hw.imm b o v hi
  · intro r g' hr
    simp only [K.put, K.lay] at hr
    split at hr
    · rename_i e; subst e; cases hr
      exact ⟨o, by rw [hst]; simp, by rw [hg, hh]; simpa using ho⟩
    · obtain ⟨o', h1, h2⟩ := hw.obj r g' hr
      refine ⟨o', by rw [hst, List.getElem?_append_left (hw.lt hr)]; exact h1, ?_⟩
      rw [hold _ (hw.bound r g' hr)]
      refine h2.mono hle fun o'' h => ?_
      simp only [K.lay, K.put]
      rw [if_neg (Nat.ne_of_lt (hw.bound r g' hr))]; exact h
  · intro r g' hr
    simp only [K.put, K.lay] at hr
    rw [hh]; simp only [Array.size_push]
    split at hr
    · cases hr; omega
    · have := hw.bound r g' hr; omega
  · intro r r' g1 g2 h1 h2 he hd hd'
    simp only [K.put, K.lay] at h1 h2
    split at h1
    · rename_i e1
      cases h1
      split at h2
      · rename_i e2; exact e1.trans e2.symm
      · have := hw.bound r' g2 h2; omega
    · rename_i e1
      split at h2
      · cases h2; have := hw.bound r g1 h1; omega
      · rw [hst, List.getElem?_append_left (hw.lt h1)] at hd
        rw [hst, List.getElem?_append_left (hw.lt h2)] at hd'
        exact hw.apart r r' g1 g2 h1 h2 he hd hd'
  · intro r hr _; rw [hst, List.getElem?_append_left hr]
  · intro r g' h1 h2
    simp only [K.put, K.lay] at h2
    split at h2
    · rename_i e; cases h2; exact ⟨Nat.le_of_eq e.symm, .inl (Nat.le_of_eq hg.symm)⟩
    · rw [h1] at h2; cases h2
  · intro b o v h1 h2
    simp only [K.lay, K.put] at h2
    split at h2
    · rename_i e; exact .inl (Nat.le_of_eq e.symm)
    · rw [h1] at h2; cases h2

/-- An object is turned; its block alone changes. -/
theorem Later.turn {k : K} {st st' : St} {w w' : World} (hw : WR k st w) {r : Nat} {g : G} (hr : k.ρ r = some g) (hlk : st.locked r = false) (hnd : st.store[r]? ≠ some .dead) (o : O)
    (hst : st'.store = st.store.set r o) (hb : st'.base = st.base) (hp : st'.prot = st.prot) (hsz : w'.heap.size = w.heap.size) (hold : ∀ b, b ≠ g.b → w'.heap[b]? = w.heap[b]?)
    (hi : ∀ o v, k.I g.b o = some v → w'.cell? ⟨g.b, o, none⟩ = some v) (ho : OR k g w'.heap[g.b]? o) (he : Env w w' := by first | exact ⟨rfl, rfl, rfl⟩ | assumption) : Later k k st st' w w' := by
  have hlt := hw.lt hr
  refine ⟨fun x => x = r, .refl k, ⟨?_, ?_, ?_, ?_⟩, by omega, by rw [hst]; simp, hb, hp, ?_, ?_, ?_, ?_, ?_, he⟩
  · intro b o v h
    by_cases e : b = g.b
    · subst e; exact hi o v h
    · rw [cell?_congr (hold b e)]; exact hw.imm b o v h
  · intro r' g' hr'
    by_cases e : r' = r
    · subst e; rw [hr] at hr'; cases hr'
      exact ⟨o, by rw [hst]; simp [hlt], ho⟩
    · obtain ⟨o', h1, h2⟩ := hw.obj r' g' hr'
      refine ⟨o', by rw [hst, List.getElem?_set_ne (Ne.symm e)]; exact h1, ?_⟩
      by_cases eb : g'.b = g.b
      · by_cases hd : o' = .dead
        · subst hd; exact .dead
        · exact absurd (hw.apart r' r g' g hr' hr eb (by rw [h1]; intro h; cases h; exact hd rfl) hnd) e
      · rw [hold _ eb]; exact h2
  · intro r' g' h; rw [hsz]; exact hw.bound r' g' h
  · intro r1 r2 g1 g2 h1 h2 he hd hd'
    by_cases e1 : r1 = r
    · by_cases e2 : r2 = r
      · exact e1.trans e2.symm
      · rw [hst, List.getElem?_set_ne (Ne.symm e2)] at hd'
        exact hw.apart r1 r2 g1 g2 h1 h2 he (e1 ▸ hnd) hd'
    · rw [hst, List.getElem?_set_ne (Ne.symm e1)] at hd
      by_cases e2 : r2 = r
      · exact hw.apart r1 r2 g1 g2 h1 h2 he hd (e2 ▸ hnd)
      · rw [hst, List.getElem?_set_ne (Ne.symm e2)] at hd'
        exact hw.apart r1 r2 g1 g2 h1 h2 he hd hd'
  · rintro _ rfl; exact ⟨hlk, g, hr⟩
  · intro r' _ hne; rw [hst, List.getElem?_set_ne (Ne.symm hne)]
  · intro b _ hx; exact hold b fun e => hx r g hr e.symm rfl
  · intro r' g' h1 h2; rw [h1] at h2; cases h2
  · intro b o v h1 h2; rw [h1] at h2; cases h2

/-- A vector grows in its place: the elder object is dead, a new one lies in its block. -/
theorem Later.grow {k : K} {st st' : St} {w w' : World} (hw : WR k st w) {r : Nat} {g g' : G} (hr : k.ρ r = some g) (hlk : st.locked r = false) (hnd : st.store[r]? ≠ some .dead) (o : O) (hg : g'.b = g.b)
    (J : Nat → Option Value) (hJ : ∀ o v v', k.I g.b o = some v → J o = some v' → v' = v) (hJ' : ∀ o v, J o = some v → w'.cell? ⟨g.b, o, none⟩ = some v)
    (hst : st'.store = st.store.set r .dead ++ [o]) (hb : st'.base = st.base) (hp : st'.prot = st.prot) (hsz : w'.heap.size = w.heap.size) (hold : ∀ b, b ≠ g.b → w'.heap[b]? = w.heap[b]?)
    (hi : ∀ o v, k.I g.b o = some v → w'.cell? ⟨g.b, o, none⟩ = some v) (ho : OR ((k.lay g.b J).put st.store.length g') g' w'.heap[g.b]? o) (he : Env w w' := by first | exact ⟨rfl, rfl, rfl⟩ | assumption) :
    Later k ((k.lay g.b J).put st.store.length g') st st' w w' := by
  have hlt := hw.lt hr
  have hrn : ∀ r g, k.ρ r = some g → r ≠ st.store.length := fun r g h e => by have := hw.lt h; omega
  have hle : k.le ((k.lay g.b J).put st.store.length g') := (lay_le hw hJ).trans
    ⟨fun r g' h => by simp only [K.put]; rw [if_neg (hrn r g' h)]; exact h, fun _ _ _ h => h⟩
  have hget : ∀ x, x < st.store.length → st'.store[x]? = (st.store.set r .dead)[x]? := fun x hx => by rw [hst, List.getElem?_append_left (by simpa using hx)]
  refine ⟨fun x => x = r, hle, ⟨?_, ?_, ?_, ?_⟩, by omega, by rw [hst]; simp, hb, hp, ?_, ?_, ?_, ?_, ?_, he⟩
  · intro b o v h
    simp only [K.lay, K.put] at h
    split at h
    · rename_i e; subst e
      cases hj : J o with
      | none => rw [hj] at h; exact hi o v h
      | some v' => rw [hj] at h; cases h; exact hJ' o _ hj
    · rename_i e; rw [cell?_congr (hold b e)]; exact hw.imm b o v h
  · intro r' g1 hr'
    simp only [K.put, K.lay] at hr'
    split at hr'
    · rename_i e; subst e; cases hr'
      exact ⟨o, by rw [hst]; simp, by rw [hg]; exact ho⟩
    · by_cases e : r' = r
      · subst e; rw [hr] at hr'; cases hr'
        exact ⟨.dead, by rw [hget _ hlt]; simp [hlt], .dead⟩
      · obtain ⟨o', h1, h2⟩ := hw.obj r' g1 hr'
        refine ⟨o', by rw [hget _ (hw.lt hr'), List.getElem?_set_ne (Ne.symm e)]; exact h1, ?_⟩
        by_cases eb : g1.b = g.b
        · by_cases hd : o' = .dead
          · subst hd; exact .dead
          · exact absurd (hw.apart r' r g1 g hr' hr eb (by rw [h1]; intro h; cases h; exact hd rfl) hnd) e
        · rw [hold _ eb]
          refine h2.mono hle fun o'' h => ?_
          simp only [K.lay, K.put]
          rw [if_neg eb]; exact h
  · intro r' g1 h
    simp only [K.put, K.lay] at h
    rw [hsz]
    split at h
    · cases h; rw [hg]; exact hw.bound r g hr
    · exact hw.bound r' g1 h
  · intro r1 r2 g1 g2 h1 h2 he hd hd'
    simp only [K.put, K.lay] at h1 h2
    have key : ∀ x gx, k.ρ x = some gx → gx.b = g.b → st'.store[x]? ≠ some .dead → False := fun x gx hx hbx hdx => by
      rw [hget _ (hw.lt hx)] at hdx
      by_cases e : x = r
      · subst e; simp [hlt] at hdx
      · rw [List.getElem?_set_ne (Ne.symm e)] at hdx
        exact e (hw.apart x r gx g hx hr hbx hdx hnd)
    split at h1
    · rename_i e1
      cases h1
      split at h2
      · rename_i e2; exact e1.trans e2.symm
      · exact (key r2 g2 h2 (by rw [← he, hg]) hd').elim
    · split at h2
      · cases h2; exact (key r1 g1 h1 (by rw [he, hg]) hd).elim
      · rw [hget _ (hw.lt h1)] at hd
        rw [hget _ (hw.lt h2)] at hd'
        have d1 : r1 ≠ r := fun e => by subst e; simp [hlt] at hd
        have d2 : r2 ≠ r := fun e => by subst e; simp [hlt] at hd'
        rw [List.getElem?_set_ne (Ne.symm d1)] at hd
        rw [List.getElem?_set_ne (Ne.symm d2)] at hd'
        exact hw.apart r1 r2 g1 g2 h1 h2 he hd hd'
  · rintro _ rfl; exact ⟨hlk, g, hr⟩
  · intro r' hl hne; rw [hget _ hl, List.getElem?_set_ne (Ne.symm hne)]
  · intro b _ hx; exact hold b fun e => hx r g hr e.symm rfl
  · intro r' g1 h1 h2
    simp only [K.put, K.lay] at h2
    split at h2
    · rename_i e; cases h2; exact ⟨Nat.le_of_eq e.symm, .inr ⟨r, g, rfl, hr, hg.symm⟩⟩
    · rw [h1] at h2; cases h2
  · intro b o v h1 h2
    simp only [K.lay, K.put] at h2
    split at h2
    · rename_i e; exact .inr ⟨r, g, rfl, hr, e.symm⟩
    · rw [h1] at h2; cases h2

end Go.Abs
namespace Go.Abs

/-- The model's own rows of functions without a body. -/
def extSem : Ext → Array Value → Sem Value
  | .indexByteString => Extern.BytealgIndexByte.indexByte
  | .countString => Extern.BytealgCount.count

structure Tab.Fits (T : Tab) (P : Program) : Prop where
  ty : ∀ t ti, T.ty t = some ti → ∃ info z, P.info? t = some info ∧ info.size = ti.size ∧ info.bytes = ti.bytes ∧ info.zero = some z ∧ ofValue z = some ti.zero ∧ P.underlying t = some ti.und ∧
    ti.agg = ti.und.isRow ∧ (ti.plain = true → P.eqGuardType P.depth t = false ∧ P.stoodInHeld t = false)
  zs : ∀ t ti, T.ty t = some ti → ti.zero.cells.length = ti.size
  fn : ∀ f F, T.fn f = some F → P.funcs[f]? = some F
  name : ∀ f F, T.fn f = some F → F.name ≠ "runtime.NumGoroutine"
  ext : ∀ f e, T.ext f = some e → ∀ (args : Array Value) (w : World), (callFunc f args).run P w = ((do pure (Next.value (← extSem e args))) : Sem Next).run P w
  mixed : P.follows .mixedOrders = true

/-- The listed variables lie as listed. -/
def GlobOk (T : Tab) (k : K) : Prop := ∀ g cs, T.glob g = some cs → VR k (.iptr cs) (.pointer (some ⟨g, 0, none⟩))

theorem GlobOk.mono {T : Tab} {k k' : K} (hk : k.le k') (h : GlobOk T k) : GlobOk T k' := fun g cs hg => (h g cs hg).mono hk

structure FR (k : K) (fr : Fr) (a : Act) : Prop where
  tmps : VRs k fr.tmps a.tmps.toList
  marks : ∃ gs : List G, (∀ (i r : Nat), fr.marks[i]? = some r → ∃ g : G, gs[i]? = some g ∧ k.ρ r = some g) ∧ gs.length = fr.marks.length ∧ a.defers = gs.map fun g => { target := .collected g.b, args := #[] }

theorem FR.mono {k k' : K} (hk : k.le k') {fr : Fr} {a : Act} (h : FR k fr a) : FR k' fr a :=
  ⟨h.tmps.mono hk, let ⟨gs, h1, h2⟩ := h.marks; ⟨gs, fun i r hi => let ⟨g, a, b⟩ := h1 i r hi; ⟨g, a, hk.ρ _ _ b⟩, h2⟩⟩

theorem FR.put {k : K} {fr : Fr} {a : Act} {v : V} {x : Value} (h : FR k fr a) (d : Option Tmp) (hv : VR k v x) : FR k (fr.put d v) (a.put d x) := by
  cases d with
  | none => exact h
  | some d => exact ⟨by simpa [Fr.put, Act.put] using h.tmps.set d hv, h.marks⟩

theorem vr_undef (k : K) : VR k (.tup []) undef := .tup [] [] .nil

mutual
theorem ofValue_vr (k : K) : ∀ (v : Value) (x : V), ofValue v = some x → VR k x v
  | .bool b, x, h => by simp only [ofValue] at h; cases h; exact .bool b
  | .int kd n, x, h => by simp only [ofValue] at h; cases h; exact .int kd n
  | .string s, x, h => by simp only [ofValue] at h; cases h; exact .str s
  | .pointer none, x, h => by simp only [ofValue] at h; cases h; exact .nilp
  | .pointer (some _), x, h => by simp [ofValue] at h
  | .slice none 0 0, x, h => by simp only [ofValue] at h; cases h; exact .list0 true (some true) none 0 (fun _ => rfl) (fun _ => rfl) (by simp)
  | .slice none 0 (_ + 1), x, h => by simp [ofValue] at h
  | .slice none (_ + 1) _, x, h => by simp [ofValue] at h
  | .slice (some _) _ _, x, h => by simp [ofValue] at h
  | .map none, x, h => by simp only [ofValue] at h; cases h; exact .nilmap
  | .map (some _), x, h => by simp [ofValue] at h
  | .nilFunc, x, h => by simp only [ofValue] at h; cases h; exact .nilfunc
  | .nilIface, x, h => by simp only [ofValue] at h; cases h; exact .niliface
  | .iface t v, x, h => by
    simp only [ofValue] at h
    cases e : ofValue v with
    | none => rw [e] at h; cases h
    | some y => rw [e] at h; cases h; exact .iface t y v (ofValue_vr k v y e)
  | .agg ⟨cs⟩, x, h => by
    simp only [ofValue] at h
    cases e : ofValues cs with
    | none => rw [e] at h; cases h
    | some y => rw [e] at h; cases h; exact .agg y cs (ofValues_vr k cs y e)
  | .tuple ⟨cs⟩, x, h => by
    simp only [ofValue] at h
    cases e : ofValues cs with
    | none => rw [e] at h; cases h
    | some y => rw [e] at h; cases h; exact .tup y cs (ofValues_vr k cs y e)
  | .float .., x, h => by simp [ofValue] at h
  | .complex .., x, h => by simp [ofValue] at h
  | .chan _, x, h => by simp [ofValue] at h
  | .func .., x, h => by simp [ofValue] at h
theorem ofValues_vr (k : K) : ∀ (vs : List Value) (xs : List V), ofValues vs = some xs → VRs k xs vs
  | [], xs, h => by simp only [ofValues] at h; cases h; exact .nil
  | v :: vs, xs, h => by
    simp only [ofValues] at h
    cases e : ofValue v with
    | none => rw [e] at h; cases h
    | some y =>
      rw [e] at h
      simp only at h
      cases e' : ofValues vs with
      | none => rw [e'] at h; cases h
      | some ys => rw [e'] at h; cases h; exact .cons (ofValue_vr k v y e) (ofValues_vr k vs ys e')
end

section
variable {T : Tab} {k : K} {fr : Fr} {a : Act}

theorem evArg_vr (hg : GlobOk T k) (hf : FR k fr a) {o : Operand} {v : V} (h : evArg T fr o = some v) : VR k v (a.eval o) := by
  cases o with
  | tmp t =>
    simp only [evArg, Option.some.injEq] at h
    subst h
    simp only [Act.eval]
    rcases Nat.lt_or_ge t fr.tmps.length with hl | hl
    · obtain ⟨x, h1, h2⟩ := hf.tmps.get t _ (List.getElem?_eq_getElem hl)
      have e1 : fr.tmps.getD t (.tup []) = fr.tmps[t] := by simp [List.getD, hl]
      have e2 : a.tmps.getD t undef = x := by
        have : a.tmps[t]? = some x := by simpa using h1
        simp [Array.getD_eq_getD_getElem?, this]
      rw [e1, e2]; exact h2
    · have hl' : a.tmps.size ≤ t := by have := hf.tmps.length; simp at this; omega
      have e1 : fr.tmps.getD t (.tup []) = .tup [] := by simp [List.getD, hl]
      have e2 : a.tmps.getD t undef = undef := by simp [Array.getD_eq_getD_getElem?, hl']
      rw [e1, e2]; exact vr_undef k
  | const c => exact ofValue_vr k c v h
  | global g =>
    simp only [evArg, Option.map_eq_some_iff] at h
    obtain ⟨cs, h1, rfl⟩ := h
    exact hg g cs h1
  | func f => simp only [evArg, Option.some.injEq] at h; subst h; exact .func f [] [] [] [] .nil .nil

theorem evArgs_vr (hg : GlobOk T k) (hf : FR k fr a) : ∀ {os : List Operand} {vs : List V}, evArgs T fr os = some vs → VRs k vs (os.map a.eval)
  | [], vs, h => by simp only [evArgs] at h; cases h; exact .nil
  | o :: os, vs, h => by
    simp only [evArgs] at h
    cases e : evArg T fr o with
    | none => rw [e] at h; cases h
    | some y =>
      rw [e] at h
      simp only at h
      cases e' : evArgs T fr os with
      | none => rw [e'] at h; cases h
      | some ys => rw [e'] at h; cases h; exact .cons (evArg_vr hg hf e) (evArgs_vr hg hf e')
end

end Go.Abs
namespace Go.Abs

/-- A computation that leaves the world alone and gives what v stands for. -/
def Gives (P : Program) (k : K) (w : World) (s : Sem Value) (v : V) : Prop := ∃ x, s.run P w = .ok x w ∧ VR k v x

section
variable {P : Program} {T : Tab} {k : K} {w : World}

theorem Tab.Fits.und' (hT : T.Fits P) {t : TypeId} {d : TypeDesc} (h : T.und t = some d) : P.underlying t = some d := by
  simp only [Tab.und, Option.map_eq_some_iff] at h
  obtain ⟨ti, h1, rfl⟩ := h
  obtain ⟨_, _, _, _, _, _, _, h2, _⟩ := hT.ty t ti h1
  exact h2

theorem Tab.Fits.runUnd (hT : T.Fits P) {t : TypeId} {d : TypeDesc} (h : T.und t = some d) (w : World) : (underlying t).run P w = .ok d w := run_underlying (hT.und' h) w

theorem Tab.Fits.runSize (hT : T.Fits P) {t : TypeId} {n : Nat} (h : T.size t = some n) (w : World) : (sizeOf t).run P w = .ok n w := by
  simp only [Tab.size, Option.map_eq_some_iff] at h
  obtain ⟨ti, h1, rfl⟩ := h
  obtain ⟨info, _, h2, h3, _⟩ := hT.ty t ti h1
  simp [sizeOf, typeInfo, h2, h3]

theorem Tab.Fits.runAgg (hT : T.Fits P) {t : TypeId} {ti : TI} (h : T.ty t = some ti) (w : World) : (isAgg t).run P w = .ok ti.agg w := by
  obtain ⟨_, _, _, _, _, _, _, h2, h3, _⟩ := hT.ty t ti h
  simp only [isAgg, Sem.run_bind, run_underlying h2, Result.andThen_ok, h3]
  cases ti.und <;> rfl

theorem Tab.Fits.runZero (hT : T.Fits P) {t : TypeId} {ti : TI} (h : T.ty t = some ti) (k : K) (w : World) : Gives P k w (zeroValue t) ti.zero := by
  obtain ⟨info, z, h1, _, _, h4, h5, _⟩ := hT.ty t ti h
  exact ⟨z, by simp [zeroValue, typeInfo, h1, h4], ofValue_vr k z _ h5⟩

theorem size_of_ty {t : TypeId} {ti : TI} (h : T.ty t = some ti) : T.size t = some ti.size := by simp [Tab.size, h]
theorem und_of_ty {t : TypeId} {ti : TI} (h : T.ty t = some ti) : T.und t = some ti.und := by simp [Tab.und, h]

/-- A value out of cells. -/
theorem part_gives (hT : T.Fits P) {t : TypeId} {ti : TI} (ht : T.ty t = some ti) {cs : List V} {vs : List Value} (hv : VRs k cs vs) {off : Nat} {v : V} (h : part ti cs off = some v) :
    Gives P k w (Go.part t ⟨vs⟩ off) v := by
  unfold part at h
  unfold Go.part Gives
  simp only [Sem.run_bind, hT.runAgg ht, Result.andThen_ok]
  cases ha : ti.agg with
  | true =>
    simp only [ha, if_true] at h
    split at h
    · cases h
      refine ⟨.agg ⟨(vs.drop off).take ti.size⟩, ?_, .agg _ _ ((hv.drop off).take ti.size)⟩
      simp only [if_true, Sem.run_bind, hT.runSize (size_of_ty ht), Result.andThen_ok, Sem.run_pure]
      congr 2
      apply Array.ext'
      simp
    · cases h
  | false =>
    simp only [ha, Bool.false_eq_true, if_false] at h
    obtain ⟨x, h1, h2⟩ := hv.get off v h
    refine ⟨x, ?_, h2⟩
    have : (⟨vs⟩ : Array Value)[off]? = some x := by simpa using h1
    simp [this]

theorem intBin_gives {op : BinOp} {kd : IntKind} {a b : Int} {v : V} (h : intBin op kd a b = some v) (hs : op ≠ .shl ∧ op ≠ .shr) (t : TypeId) :
    Gives P k w (binOp op t (.int kd a) (.int kd b)) v := by
  unfold Gives
  cases op <;> simp only [intBin] at h <;>
    first
    | (cases h; exact ⟨_, by simp only [binOp, ne_eq, not_true_eq_false, if_false]; rfl, by constructor⟩)
    | (split at h; · cases h
       · rename_i hy; cases h; exact ⟨_, by simp [binOp, Op.intDiv, hy]; rfl, by constructor⟩)
    | cases h

theorem shiftBin_gives {op : BinOp} {kd ky : IntKind} {a b : Int} {v : V} (h : shiftBin op kd a b = some v) (t : TypeId) :
    Gives P k w (binOp op t (.int kd a) (.int ky b)) v := by
  unfold Gives
  unfold shiftBin at h
  split at h
  · cases h
  · rename_i hb
    cases op <;> simp only at h <;> first | cases h | skip
    all_goals (exact ⟨_, by simp [binOp, Op.shift, hb]; rfl, by constructor⟩)

theorem strBin_gives {op : BinOp} {a b : ByteArray} {v : V} (h : strBin op a.data.toList b.data.toList = some v) (t : TypeId) :
    Gives P k w (binOp op t (.string a) (.string b)) v := by
  unfold Gives
  unfold strBin at h
  cases op <;> simp only at h <;> first | cases h | skip
  case add =>
    split at h
    · rename_i hl
      cases h
      have h1 : ¬ (((a.size + b.size : Nat) : Int) > IntKind.i64.max) := by
        have e1 : a.size = a.data.toList.length := rfl
        have e2 : b.size = b.data.toList.length := rfl
        have : IntKind.i64.max = 9223372036854775807 := rfl
        rw [this]; omega
      refine ⟨.string (a ++ b), by simp only [binOp, Op.stringOp]; rw [if_neg h1]; rfl, ?_⟩
      have : (a ++ b).data.toList = a.data.toList ++ b.data.toList := by simp
      rw [← this]; exact .str _
    · cases h
  all_goals (exact ⟨_, by simp only [binOp, Op.stringOp, ByteArray.toList_eq]; rfl, by constructor⟩)

end

end Go.Abs
