/- A shared part of the proofs of the Check statements: a verified evaluator, the code in parts, the functions walked. -/
import Derived.RangeFuncLeaves
import Derived.OrdersIn
import Derived.LoopNIn
import Derived.Deep.MidRow
import Derived.Laws.Strings
import Derived.Laws.Slices
import Derived.Laws.StructEq
import Derived.Laws.Tables
set_option linter.unusedVariables false
set_option linter.unusedSimpArgs false
set_option linter.unnecessarySimpa false
set_option linter.all false
namespace Go.Abs
inductive V where
 |bool (b:Bool)
 |int (k:IntKind) (n:Int)
 |str (s:List UInt8)
 |nilp
 |ptr (r off:Nat)
 |eptr (r i off:Nat)
 |iptr (cs:List V)
 |list (full:Bool) (nl:Option Bool) (xs:List V)
 |slice (r s off len:Nat)
 |map (r:Nat)
 |nilmap
 |func (fn:Fn) (first captured:List V)
 |nilfunc
 |iface (t:TypeId) (v:V)
 |niliface
 |agg (cs:List V)
 |tup (vs:List V)
 deriving Inhabited
def V.cells:V→List V
 | .agg cs=>cs
 |v=>[v]
structure L where
 state:LoopState
 pending:Option Code
 tmps:List V
 params:Array Tmp
 assign:Code
 body:Code
 defers:Nat
inductive O where
 |dead
 |box (cs:List V)
 |vec (acc:Bool) (es:List V)
 |way (es:List V)
 |map (es:List (V×V))
 |loop (l:L)
 |defs
structure St where
 store:List O
 base:Nat
 prot:List Nat
def St.locked(st:St)(r:Nat):Bool:=decide (r<st.base)||st.prot.contains r
structure Fr where
 tmps:List V
 marks:List Nat
inductive E where
 |normal
 |exit (id:Nat)
 |ret
structure TI where
 size:Nat
 bytes:Nat
 agg:Bool
 zero:V
 und:TypeDesc
 plain:Bool
inductive CallMode where
 |open_
 |ro
 |split
 |shut
 |shut2
 deriving DecidableEq
inductive Ext where
 |indexByteString
 |countString
 deriving DecidableEq
structure Tab where
 ty:Nat→Option TI
 fn:Nat→Option Func
 glob:Nat→Option (List V)
 mode:Nat→CallMode
 ext:Nat→Option Ext
 way:Nat→Bool:=fun _=>false
def Tab.size(T:Tab)(t:TypeId):Option Nat:=(T.ty t).map (·.size)
def Tab.und(T:Tab)(t:TypeId):Option TypeDesc:=(T.ty t).map (·.und)
mutual
def ofValue:Value→Option V
 | .bool b=>some (.bool b)
 | .int k n=>some (.int k n)
 | .string s=>some (.str s.data.toList)
 | .pointer none=>some .nilp
 | .slice none 0 0=>some (.list true (some true) [])
 | .map none=>some .nilmap
 | .nilFunc=>some .nilfunc
 | .nilIface=>some .niliface
 | .iface t v=>(ofValue v).map (.iface t)
 | .agg ⟨cs⟩=>(ofValues cs).map .agg
 | .tuple ⟨cs⟩=>(ofValues cs).map .tup
 |_=>none
def ofValues:List Value→Option (List V)
 |[]=>some []
 |v::vs=>match ofValue v with
  |none=>none
  |some x=>match ofValues vs with
   |none=>none
   |some xs=>some (x::xs)
end
def evArg(T:Tab)(fr:Fr):Operand→Option V
 | .tmp t=>some (fr.tmps.getD t (.tup []))
 | .const v=>ofValue v
 | .global g=>(T.glob g).map .iptr
 | .func f=>some (.func (.func f) [] [])
def evArgs(T:Tab)(fr:Fr):List Operand→Option (List V)
 |[]=>some []
 |o::os=>match evArg T fr o with
  |none=>none
  |some x=>match evArgs T fr os with
   |none=>none
   |some xs=>some (x::xs)
def Fr.put(fr:Fr)(d:Option Tmp)(v:V):Fr:=
 match d with
 |some d=>{fr with tmps:=fr.tmps.set d v}
 |none=>fr
def part(ti:TI)(cs:List V)(off:Nat):Option V:=
 if ti.agg then(if off+ti.size≤cs.length then some (.agg ((cs.drop off).take ti.size))else none)
 else cs[off]?
def intBin(op:BinOp)(k:IntKind)(x y:Int):Option V:=
 match op with
 | .add=>some (.int k (k.wrap (x+y)))
 | .sub=>some (.int k (k.wrap (x-y)))
 | .mul=>some (.int k (k.wrap (x * y)))
 | .quo=>if y=0 then none else some (.int k (k.wrap (x.tdiv y)))
 | .rem=>if y=0 then none else some (.int k (x.tmod y))
 | .and=>some (.int k (k.wrap (BitVec.ofInt k.bits x&&&BitVec.ofInt k.bits y).toNat))
 | .or=>some (.int k (k.wrap (BitVec.ofInt k.bits x|||BitVec.ofInt k.bits y).toNat))
 | .xor=>some (.int k (k.wrap (BitVec.ofInt k.bits x^^^BitVec.ofInt k.bits y).toNat))
 | .andNot=>some (.int k (k.wrap (BitVec.ofInt k.bits x&&& ~~~(BitVec.ofInt k.bits y)).toNat))
 | .eql=>some (.bool (x==y))
 | .neq=>some (.bool (x !=y))
 | .lss=>some (.bool (x<y))
 | .leq=>some (.bool (x≤y))
 | .gtr=>some (.bool (x>y))
 | .geq=>some (.bool (x≥y))
 |_=>none
def shiftBin(op:BinOp)(k:IntKind)(x y:Int):Option V:=
 if y<0 then none else
 let n:=min y.toNat k.bits
 match op with
 | .shl=>some (.int k (k.wrap (x * 2^n)))
 | .shr=>some (.int k (x.fdiv (2^n)))
 |_=>none
def strBin(op:BinOp)(x y:List UInt8):Option V:=
 let eq:=x==y
 let lt:=Op.bytesLess x y
 match op with
 | .add=>if x.length+y.length<2^62 then some (.str (x ++y))else none
 | .eql=>some (.bool eq)
 | .neq=>some (.bool !eq)
 | .lss=>some (.bool lt)
 | .leq=>some (.bool (lt||eq))
 | .gtr=>some (.bool !(lt||eq))
 | .geq=>some (.bool !lt)
 |_=>none
def eqFields(T:Tab)(xs ys:List V):List Field→Option Bool
 |[]=>some true
 |f::fs=>
  if f.name= "_" then eqFields T xs ys fs else
  match T.und f.type,xs[f.offset]?,ys[f.offset]? with
  |some (TypeDesc.int _),some (V.int k a),some (V.int k' b)=>if k=k' then(if a==b then eqFields T xs ys fs else some false)else none
  |some TypeDesc.string,some (V.str a),some (V.str b)=>if a==b then eqFields T xs ys fs else some false
  |some TypeDesc.bool,some (V.bool a),some (V.bool b)=>if a==b then eqFields T xs ys fs else some false
  |_,_,_=>none
def eqVal(T:Tab)(t:TypeId)(x y:V):Option Bool:=
 match T.ty t with
 |none=>none
 |some ti=>
 match ti.und,x,y with
 | .bool, .bool a, .bool b=>some (a==b)
 | .pointer _, .nilp, .nilp=>some true
 | .pointer _, .nilp, .ptr .. | .pointer _, .nilp, .iptr _| .pointer _, .nilp, .eptr .. =>some false
 | .pointer _, .ptr .., .nilp| .pointer _, .iptr _, .nilp| .pointer _, .eptr .., .nilp=>some false
 | .slice _, .list _ _ (_::_), .list _ (some true) _=>some false
 | .slice _, .list _ (some b) [], .list _ (some true) _=>some b
 | .slice _, .slice .., .list _ (some true) _=>some false
 | .map _ _, .nilmap, .nilmap=>some true
 | .map _ _, .map _, .nilmap| .map _ _, .nilmap, .map _=>some false
 | .func .., .nilfunc, .nilfunc=>some true
 | .func .., .func .., .nilfunc| .func .., .nilfunc, .func .. =>some false
 | .interface _, .niliface, .niliface=>some true
 | .interface _, .niliface, .iface .. | .interface _, .iface .., .niliface=>some false
 | .interface _, .iface t _, .iface u _=>if t≠u then some false else none
 | .struct fs, .agg xs, .agg ys=>
  if ti.plain then eqFields T xs ys fs.toList
  else none
 |_,_,_=>none
def evBin(T:Tab)(op:BinOp)(t:TypeId)(x y:V):Option V:=
 match op,x,y with
 | .shl, .int k a, .int _ b| .shr, .int k a, .int _ b=>shiftBin op k a b
 |_, .int k a, .int k' b=>if k=k' then intBin op k a b else none
 |_, .str a, .str b=>strBin op a b
 | .eql,x,y=>(eqVal T t x y).map .bool
 | .neq,x,y=>(eqVal T t x y).map fun b=> .bool !b
 |_,_,_=>none
def evUn(op:UnOp)(x:V):Option V:=
 match op,x with
 | .neg, .int k n=>some (.int k (k.wrap (0-n)))
 | .xor, .int k n=>intBin .xor k (if k.signed then -1 else k.max) n
 | .not, .bool b=>some (.bool !b)
 |_,_=>none
def asIdx:V→Option Int
 | .int _ n=>some n
 |_=>none
def bound(d m:Nat)(x:Option V):Option Nat:=
 match x with
 |none=>some d
 |some v=>match asIdx v with
  |some n=>if 0≤n∧n≤m then some n.toNat else none
  |none=>none
def bounds(len cap:Nat)(low high:Option V):Option (Nat×Nat):=
 match bound len cap high with
 |none=>none
 |some h=>match bound 0 h low with
  |none=>none
  |some l=>some (l,h)
def sizeFits(sz:Nat)(xs:List V):Bool:=
 match xs with
 |[]=>true
 |x::_=>x.cells.length==sz
def sliceList(sz:Nat)(full:Bool)(nl:Option Bool)(xs:List V)(low high:Option V)(max:Option V):Option V:=
 if sizeFits sz xs then
  match bounds xs.length xs.length low high with
  |none=>none
  |some (l,h)=>match max with
   |none=>some (.list (full&&h==xs.length) nl ((xs.drop l).take (h-l)))
   |some m=>match asIdx m,high with
    |some n,some _=>if n=h then some (.list true nl ((xs.drop l).take (h-l)))else none
    |_,_=>none
 else none
def sliceVec(sz:Nat)(r s off len:Nat)(low high:Option V)(max:Option V):Option V:=
 if s=sz then
  match bounds len len low high with
  |none=>none
  |some (l,h)=>match max with
   |none=>some (.slice r s (off+l) (h-l))
   |some m=>match asIdx m,high with
    |some n,some _=>if n=h∧l=h then some (.list true (some false) [])else none
    |_,_=>none
 else none
def evSlice(T:Tab)(t:TypeId)(x:V)(low high max:Option V):Option V:=
 match T.und t with
 |some .string=>match x,max with
  | .str s,none=>match bounds s.length s.length low high with
   |some (l,h)=>some (.str ((s.drop l).take (h-l)))
   |none=>none
  |_,_=>none
 |some (.slice e)=>match T.size e with
  |none=>none
  |some sz=>match x with
   | .list full nl xs=>sliceList sz full nl xs low high max
   | .slice r s off len=>sliceVec sz r s off len low high max
   |_=>none
 |_=>none
def evFieldAddr(T:Tab)(s:TypeId)(x:V)(f:Nat):Option V:=
 match T.und s with
 |some (.struct fs)=>match fs[f]? with
  |none=>none
  |some fd=>match T.size fd.type with
   |none=>none
   |some 0=>none
   |some _=>match x with
    | .ptr r off=>some (.ptr r (off+fd.offset))
    | .eptr r i off=>some (.eptr r i (off+fd.offset))
    | .iptr cs=>some (.iptr (cs.drop fd.offset))
    |_=>none
 |_=>none
def evField(T:Tab)(s:TypeId)(x:V)(f:Nat):Option V:=
 match T.und s,x with
 |some (.struct fs), .agg cs=>match fs[f]? with
  |none=>none
  |some fd=>match T.ty fd.type with
   |none=>none
   |some ti=>part ti cs fd.offset
 |_,_=>none
def evIndexAddr(T:Tab)(t:TypeId)(x ix:V):Option V:=
 match asIdx ix with
 |none=>none
 |some n=>
 match T.und t with
 |some (.slice e)=>match T.size e with
  |none=>none
  |some s=>match x with
   | .list _ _ xs=>if 0≤n then match xs[n.toNat]? with
    |some v=>if v.cells.length=s then some (.iptr v.cells)else none
    |none=>none else none
   | .slice r s' off len=>if 0≤n∧n<len∧s'=s then some (.eptr r (off+n.toNat) 0)else none
   |_=>none
 |some (.array len e)=>match T.size e with
  |none=>none
  |some 0=>none
  |some s=>if 0≤n∧n<len then match x with
   | .ptr r off=>some (.ptr r (off+n.toNat * s))
   | .eptr r i off=>some (.eptr r i (off+n.toNat * s))
   | .iptr cs=>some (.iptr (cs.drop (n.toNat * s)))
   |_=>none else none
 |_=>none
def evIndex(T:Tab)(t:TypeId)(x ix:V):Option V:=
 match asIdx ix with
 |none=>none
 |some n=>
 if 0≤n then
  match T.und t,x with
  |some .string, .str s=>(s[n.toNat]?).map fun b=> .int .u8 b.toNat
  |some (.array len e), .agg cs=>match T.ty e with
   |none=>none
   |some ti=>if n<len then part ti cs (n.toNat * ti.size)else none
  |_,_=>none
 else none
def fill(place:Nat→Option (Nat×Nat))(cells:List V):List (Nat×V)→Option (List V)
 |[]=>some cells
 |(i,v)::rest=>
  match place i with
  |none=>none
  |some (off,size)=>
   if v.cells.length≠size∨off+size>cells.length then none
   else fill place (cells.take off ++v.cells ++cells.drop (off+size)) rest
def placesOf(T:Tab):List Field→Option (List (Nat×Nat))
 |[]=>some []
 |f::fs=>match T.size f.type with
  |none=>none
  |some s=>match placesOf T fs with
   |none=>none
   |some l=>some ((f.offset,s)::l)
def evBuild(T:Tab)(t:TypeId)(parts:List (Nat×V)):Option V:=
 match T.ty t with
 |none=>none
 |some ti=>match ti.und with
  | .struct fs=>match placesOf T fs.toList with
   |none=>none
   |some places=>(fill (fun i=>places[i]?) ti.zero.cells parts).map .agg
  | .array _ e=>match T.size e with
   |none=>none
   |some s=>(fill (fun i=>some (i * s,s)) ti.zero.cells parts).map .agg
  |_=>none
def setAll(xs:List V):List (Nat×V)→Option (List V)
 |[]=>some xs
 |(i,v)::r=>if i<xs.length then setAll (xs.set i v) r else none
def evConv(T:Tab)(dst:TypeId)(x:V):Option V:=
 match T.und dst,x with
 |some (.int k), .int _ n=>some (.int k (k.wrap n))
 |some .string, .str s=>some (.str s)
 |_,_=>none
def evLen(d:TypeDesc)(x:V):Option Nat:=
 match d,x with
 | .array n _,_=>some n
 | .string, .str s=>some s.length
 | .slice _, .list _ _ xs=>some xs.length
 | .slice _, .slice _ _ _ n=>some n
 |_,_=>none
def minmax(mx:Bool)(x y:V):Option V:=
 match x,y with
 | .int k a, .int k' b=>if k=k' then some (.int k (if mx then(if b>a then b else a)else(if b<a then b else a)))else none
 |_,_=>none
def optArg(T:Tab)(fr:Fr):Option Operand→Option (Option V)
 |none=>some none
 |some o=>(evArg T fr o).map some
def isConst:Operand→Bool
 | .const _=>true
 |_=>false
def evPure(T:Tab)(fr:Fr)(op:Op):Option V:=
 match op with
 | .move x| .assign x=>evArg T fr x
 | .pick c a b=>match evArg T fr c with
  |some (.bool t)=>if t then evArg T fr a else evArg T fr b
  |_=>none
 | .nilCheck x=>match evArg T fr x with
  |some (.ptr r o)=>some (.ptr r o)
  |some (.eptr r i o)=>some (.eptr r i o)
  |some (.iptr cs)=>some (.iptr cs)
  |some (.func (.func f) a b)=>some (.func (.func f) a b)
  |_=>none
 | .binOp op t x y _=>match evArg T fr x,evArg T fr y with
  |some .niliface,some .niliface=>if isConst x||isConst y then evBin T op t .niliface .niliface else none
  |some a,some b=>evBin T op t a b
  |_,_=>none
 | .unOp op _ x=>(evArg T fr x).bind (evUn op)
 | .convert src dst x=>if(T.und src).isSome then(evArg T fr x).bind (evConv T dst)else none
 | .makeInterface t x=>match T.und t with
  |some (.interface _)|none=>none
  |_=>(evArg T fr x).map (.iface t)
 | .makeFunc fn first captured=>match evArgs T fr first.toList,evArgs T fr captured.toList with
  |some a,some b=>match fn with
   | .func f=>some (.func (.func f) a b)
   |_=>none
  |_,_=>none
 | .slice t x lo hi mx=>match evArg T fr x,optArg T fr lo,optArg T fr hi,optArg T fr mx with
  |some x,some lo,some hi,some mx=>evSlice T t x lo hi mx
  |_,_,_,_=>none
 | .fieldAddr s x f=>(evArg T fr x).bind fun v=>evFieldAddr T s v f
 | .field s x f=>(evArg T fr x).bind fun v=>evField T s v f
 | .indexAddr t x ix=>match evArg T fr x,evArg T fr ix with
  |some a,some b=>evIndexAddr T t a b
  |_,_=>none
 | .index t x ix=>match evArg T fr x,evArg T fr ix with
  |some a,some b=>evIndex T t a b
  |_,_=>none
 | .build t parts=>(evArgs T fr (parts.toList.map (·.2))).bind fun vs=>evBuild T t ((parts.toList.map (·.1)).zip vs)
 | .extract x i=>match evArg T fr x with
  |some (.tup vs)=>vs[i]?
  |_=>none
 | .call {callee:= .builtin b,args,argTypes}=>match b,evArgs T fr args.toList with
  | .len,some [x]=>match(argTypes[0]?).bind T.und with
   |some d=>match evLen d x with
    |some n=>some (.int .i64 (n:Int))
    |none=>none
   |_=>none
  | .cap,some [.list true _ xs]=>match(argTypes[0]?).bind T.und with
   |some (.slice _)=>some (.int .i64 xs.length)
   |_=>none
  | .min,some (x::xs)=>xs.foldl (fun acc y=>acc.bind fun a=>minmax false a y) (some x)
  | .max,some (x::xs)=>xs.foldl (fun acc y=>acc.bind fun a=>minmax true a y) (some x)
  |_,_=>none
 |_=>none
def isPure:Op→Bool
 | .move _| .assign _| .pick .. | .nilCheck _| .binOp .. | .unOp .. | .makeInterface .. | .makeFunc .. | .slice .. | .fieldAddr ..
 | .field .. | .indexAddr .. | .index .. | .build .. | .extract .. =>true
 | .call {callee:= .builtin b, .. }=>match b with
  | .cap| .min| .max=>true
  |_=>false
 |_=>false
def rowA:Option O→Option (Bool×List V)
 |some (.vec acc es)=>some (acc,es)
 |some (.way es)=>some (false,es)
 |_=>none
def readCells(st:St)(a:V)(n:Nat):Option (List V):=
 match a with
 | .ptr r off=>match st.store[r]? with
  |some (.box cs)=>if off+n≤cs.length then some ((cs.drop off).take n)else none
  |_=>none
 | .eptr r i off=>match rowA (st.store[r]?)with
  |some (_,es)=>match es[i]? with
   |some e=>if off+n≤e.cells.length then some ((e.cells.drop off).take n)else none
   |none=>none
  |_=>none
 | .iptr cs=>if n≤cs.length then some (cs.take n)else none
 |_=>none
def evLoad(T:Tab)(st:St)(t:TypeId)(a:V):Option V:=
 match T.ty t with
 |none=>none
 |some ti=>if ti.agg then(readCells st a ti.size).map .agg else
  match readCells st a 1 with
  |some [v]=>some v
  |_=>none
def splice(cs:List V)(off:Nat)(new:List V):List V:=cs.take off ++new ++cs.drop (off+new.length)
def V.oneCell:V→Bool
 | .agg _| .tup _=>false
 |_=>true
def putElem(e:V)(cs:List V):V:=
 match e with
 | .agg _=> .agg cs
 |e=>cs.headD e
def evStore(T:Tab)(st:St)(t:TypeId)(a v:V):Option St:=
 match T.size t with
 |none=>none
 |some n=>
 if v.cells.length=n∧v.cells.all V.oneCell=true then
  match a with
  | .ptr r off=>if st.locked r then none else match st.store[r]? with
   |some (.box cs)=>if off+n≤cs.length then some {st with store:=st.store.set r (.box (splice cs off v.cells))}else none
   |_=>none
  | .eptr r i off=>if st.locked r then none else match st.store[r]? with
   |some (.vec false es)=>match es[i]? with
    |some e=>if off+n≤e.cells.length then
      some {st with store:=st.store.set r (.vec false (es.set i (putElem e (splice e.cells off v.cells))))}else none
    |none=>none
   |_=>none
  |_=>none
 else none
def keyEq:V→V→Option Bool
 | .int k a, .int k' b=>if k=k' then some (a==b)else none
 | .str a, .str b=>some (a==b)
 |_,_=>none
def findKey(k:V):List (V×V)→Nat→Option (Option (Nat×V))
 |[],_=>some none
 |(k',v)::es,i=>match keyEq k k' with
  |some true=>some (some (i,v))
  |some false=>findKey k es (i+1)
  |none=>none
def keyOk(T:Tab)(kt:TypeId)(k:V):Bool:=
 match T.und kt,k with
 |some (.int _), .int _ _=>true
 |some .string, .str _=>true
 |_,_=>false
def evLookup(T:Tab)(st:St)(t:TypeId)(m k:V)(ok:Bool):Option V:=
 match T.und t with
 |some (.map kt et)=>
  if keyOk T kt k then
   match T.ty et with
   |none=>none
   |some ti=>
    let ans (v:V) (b:Bool):V:=if ok then .tup [v, .bool b]else v
    match m with
    | .nilmap=>some (ans ti.zero false)
    | .map r=>match st.store[r]? with
     |some (.map es)=>match findKey k es 0 with
      |some (some (_,v))=>some (ans v true)
      |some none=>some (ans ti.zero false)
      |none=>none
     |_=>none
    |_=>none
  else none
 |_=>none
def evMapUpdate(T:Tab)(st:St)(t:TypeId)(m k v:V):Option St:=
 match T.und t,m with
 |some (.map kt _), .map r=>
  if st.locked r then none else
  if keyOk T kt k then
   match st.store[r]? with
   |some (.map es)=>match findKey k es 0 with
    |some (some (i,_))=>some {st with store:=st.store.set r (.map (es.set i (k,v)))}
    |some none=>some {st with store:=st.store.set r (.map (es ++[(k,v)]))}
    |none=>none
   |_=>none
  else none
 |_,_=>none
def St.new(st:St)(o:O):St×Nat:=({st with store:=st.store ++[o]},st.store.length)
def srcElems(st:St)(x:V):Option (List V):=
 match x with
 | .list _ _ xs=>some xs
 | .slice r _ off len=>match rowA (st.store[r]?)with
  |some (_,es)=>if off+len≤es.length then some ((es.drop off).take len)else none
  |none=>none
 | .str s=>some (s.map fun b=> .int .u8 b.toNat)
 |_=>none
def bytesOf:V→Option UInt8
 | .int .u8 n=>some (UInt8.ofNat n.toNat)
 |_=>none
def W_5(T:Tab)(st:St)(t:TypeId)(spread:Bool)(x y:V):Option (V×St):=
 match T.und t with
 |some (.slice e)=>match T.ty e with
  |none=>none
  |some ti=>match srcElems st y with
   |none=>none
   |some new=>
    if new.all (fun v=>v.cells.length==ti.size&&v.cells.all V.oneCell)=false∨ti.size=0∨ti.bytes=0 then none else
    if new.isEmpty then(match x with| .list .. | .slice .. =>some (x,st)|_=>none)else
    match x with
    | .list true _ xs=>
     if(xs.length+new.length)* ti.bytes<2^40∧xs.all (fun v=>v.cells.length==ti.size&&v.cells.all V.oneCell)=true then
      some (.slice st.store.length ti.size 0 (xs.length+new.length),{st with store:=st.store ++[.vec (!spread) (xs ++new)]})
     else none
    | .slice r s off len=>if st.locked r=true∨s≠ti.size then none else match st.store[r]? with
     |some (.vec acc es)=>
      if off+len=es.length∧(len+new.length)* ti.bytes<2^40 then
       some (.slice st.store.length s 0 (len+new.length),{st with store:=st.store.set r .dead ++[.vec (acc||es.isEmpty) (es.drop off ++new)]})
      else if acc=false∧off+len+new.length≤es.length then
       some (.slice r s off (len+new.length),{st with store:=st.store.set r (.vec false (es.take (off+len) ++new ++es.drop (off+len+new.length)))})
      else none
     |_=>none
    |_=>none
 |_=>none
def isWay:Option O→Bool
 |some (.way _)=>true
 |_=>false
def killW(r:Nat)(l:List O):List O:=l.mapIdx fun i o=>if r<i∧isWay (some o)=true then .dead else o
def evAppendW(T:Tab)(st:St)(t:TypeId)(x y:V):Option (V×St):=
 match T.und t with
 |some (.slice e)=>match T.ty e with
  |none=>none
  |some ti=>match srcElems st y with
   |none=>none
   |some new=>
    if new.all (fun v=>v.cells.length==ti.size&&v.cells.all V.oneCell)=false∨ti.size=0∨ti.bytes=0∨new.isEmpty=true then none else
    match x with
    | .list true _ []=>
     if new.length * ti.bytes<2^40 then some (.slice st.store.length ti.size 0 new.length,{st with store:=st.store ++[.way new]})else none
    | .slice r s off len=>if st.locked r=true∨s≠ti.size∨off≠0 then none else match st.store[r]? with
     |some (.way es)=>
      if len=es.length∧(len+new.length)* ti.bytes<2^40∧st.prot.all (fun i=>decide (i≤r)|| !isWay (st.store[i]?))=true then
       some (.slice st.store.length s 0 (len+new.length),{st with store:=killW r st.store ++[.way (es ++new)]})
      else none
     |_=>none
    |_=>none
 |_=>none
def wayCase(st:St)(spread:Bool):V→Bool
 | .list true (some true) []=> !spread
 | .slice r _ _ _=>isWay (st.store[r]?)
 |_=>false
def evAppend(T:Tab)(st:St)(t:TypeId)(spread:Bool)(x y:V):Option (V×St):=
 if T.way t=true∧wayCase st spread x=true then evAppendW T st t x y else W_5 T st t spread x y
def evAppendZeros(T:Tab)(st:St)(t:TypeId)(x y:V):Option (V×St):=
 match T.und t,x,y with
 |some (.slice e), .list true _ [], .int .i64 n=>match T.ty e with
  |none=>none
  |some ti=>
   if 0<n∧n * ti.bytes<2^40∧n<2^40∧ti.size≠0∧ti.bytes≠0∧(ti.zero.cells.length==ti.size&&ti.zero.cells.all V.oneCell)=true then
    some (.slice st.store.length ti.size 0 n.toNat,(st.new (.vec false (List.replicate n.toNat ti.zero))).1)
   else none
 |_,_,_=>none
def frozenNow(lim:Option Nat)(acc:Bool)(r:Nat):Bool:=
 acc||match lim with
  |some m=>decide (m≤r)
  |none=>false
def freeze(st:St)(lim:Option Nat):Nat→V→Option V
 |0,_=>none
 |n+1,v=>match v with
  | .slice r s off len=>match rowA (st.store[r]?)with
   |some (acc,es)=>
    if frozenNow lim acc r then
     if off+len≤es.length then match((es.drop off).take len).mapM (freeze st lim n)with
      |some xs=>some (.list false none xs)
      |none=>none
     else none
    else some (.slice r s off len)
   |_=>none
  | .agg cs=>match cs.mapM (freeze st lim n)with
   |some cs=>some (.agg cs)
   |none=>none
  | .tup cs=>match cs.mapM (freeze st lim n)with
   |some cs=>some (.tup cs)
   |none=>none
  | .list _ _ xs=>match lim with
   |some _=>match xs.mapM (freeze st lim n)with
    |some xs=>some (.list false none xs)
    |none=>none
   |none=>some (.list false none xs)
  |v=>some v
def below(m:Nat):Nat→V→Bool
 |0,_=>false
 |n+1,v=>match v with
  | .bool _| .int .. | .str _| .nilp| .nilmap| .nilfunc| .niliface=>true
  | .ptr r _| .eptr r _ _| .slice r _ _ _| .map r=>r<m
  | .iptr cs| .list _ _ cs| .agg cs| .tup cs=>cs.all (below m n)
  | .iface _ v=>below m n v
  | .func f a b=>(match f with| .func _=>true|_=>false)&&a.all (below m n)&&b.all (below m n)
def deep:Nat:=40
def St.loop(st:St)(l:Nat):Option L:=
 match st.store[l]? with
 |some (.loop r)=>some r
 |_=>none
structure S where
 code:Option Nat→Code→Fr→St→Option (E×Fr×St)
 call:FuncId→List V→St→Option (V×St)
def setParams(ps:List Tmp)(args:List V)(tmps:List V):List V:=
 match ps,args with
 |t::ps,a::args=>setParams ps args (tmps.set t a)
 |_,_=>tmps
def roundEnd(e:E):LoopState×Option Code×Bool:=
 match e with
 | .normal=>(.ready,none,true)
 | .ret=>(.done,some .ret,false)
 | .exit id=>(.done,some (.exit id),false)
def evYield(S:S)(l:Nat)(args:List V)(st:St):Option (V×St):=
 if st.locked l then none else
 match st.loop l with
 |none=>none
 |some r=>
  if args.length≠r.params.size then none else
  match S.code (some l) r.assign {tmps:=setParams r.params.toList args r.tmps,marks:=[]} st with
  |some (.normal,fr1,st1)=>match st1.loop l with
   |some r1=>if r1.state= .ready then
     match S.code (some l) r.body fr1 {st1 with store:=st1.store.set l (.loop {r1 with state:= .busy})}with
     |some (e,_,st2)=>match st2.loop l with
      |some r2=>some (.bool (roundEnd e).2.2,{st2 with store:=st2.store.set l (.loop {r2 with state:=(roundEnd e).1,pending:=(roundEnd e).2.1})})
      |none=>none
     |none=>none
    else none
   |none=>none
  |_=>none
def evExt(e:Ext)(args:List V)(st:St):Option (V×St):=
 match e,args with
 | .indexByteString,[.str s, .int .u8 c]=>match(List.range s.length).find? fun i=>s[i]? ==some c.toNat.toUInt8 with
  |some i=>some (.int .i64 i,st)
  |none=>some (.int .i64 (-1),st)
 | .countString,[.str s, .int .u8 c]=>some (.int .i64 (s.filter (· ==c.toNat.toUInt8)).length,st)
 |_,_=>none
def evInvoke(T:Tab)(S:S)(f:V)(args:List V)(st:St):Option (V×St):=
 match f with
 | .func (.func f) first captured=>match T.ext f with
  |some e=>evExt e (first ++args ++captured) st
  |none=>S.call f (first ++args ++captured) st
 | .func (.yield l) [] []=>evYield S l args st
 |_=>none
def b_7(T:Tab)(fr:Fr)(st:St)(op:Op):Option (V×St):=
 match op with
 | .load t a=>(evArg T fr a).bind fun a=>(evLoad T st t a).map (·,st)
 | .store t a v=>match evArg T fr a,evArg T fr v with
  |some a,some v=>(evStore T st t a v).map (V.tup [],·)
  |_,_=>none
 | .alloc t=>(T.ty t).bind fun ti=>if ti.zero.cells.all V.oneCell then some (.ptr st.store.length 0,(st.new (.box ti.zero.cells)).1)else none
 | .box _ x=>(evArg T fr x).bind fun v=>if v.cells.all V.oneCell then some (.ptr st.store.length 0,(st.new (.box v.cells)).1)else none
 | .buildSlice t len parts=>(evArgs T fr (parts.toList.map (·.2))).bind fun vs=>match T.und t with
  |some (.slice e)=>(T.ty e).bind fun ti=>
   if len * ti.size≤2^20∧ti.size≠0∧vs.all (fun v=>v.cells.length==ti.size)=true∧ti.zero.cells.length=ti.size then
    match setAll (List.replicate len ti.zero) ((parts.toList.map (·.1)).zip vs)with
    |some xs=>some (.list true (some false) xs,st)
    |none=>none
   else none
  |_=>none
 | .makeMap t r=>match T.und t,r with
  |some (.map _ _),none=>some (.map st.store.length,(st.new (.map [])).1)
  |some (.map _ _),some x=>match evArg T fr x with
   |some (.int _ _)=>some (.map st.store.length,(st.new (.map [])).1)
   |_=>none
  |_,_=>none
 | .makeSlice t l c=>match T.und t,evArg T fr l,evArg T fr c with
  |some (.slice e),some (.int .i64 n),some (.int .i64 m)=>(T.ty e).bind fun ti=>
   if 0≤n∧n≤m∧m * ti.bytes<2^40∧m<2^40∧ti.size≠0∧(ti.zero.cells.length==ti.size&&ti.zero.cells.all V.oneCell)=true then
    some (.slice st.store.length ti.size 0 n.toNat,(st.new (.vec false (List.replicate n.toNat ti.zero))).1)
   else none
  |_,_,_=>none
 | .convert src dst x=>if(T.und src).isSome=false then none else match T.und dst,evArg T fr x with
  |some (.slice e),some (.str s)=>match T.und e with
   |some (.int .u8)=>if s.length<2^40 then some (.list false (some false) (s.map fun b=> .int .u8 b.toNat),st)else none
   |_=>none
  |_,_=>none
 | .lookup t m k ok=>match evArg T fr m,evArg T fr k with
  |some m,some k=>(evLookup T st t m k ok).map (·,st)
  |_,_=>none
 | .mapUpdate t m k v| .insert t m k v=>match evArg T fr m,evArg T fr k,evArg T fr v with
  |some m,some k,some v=>(evMapUpdate T st t m k v).map (V.tup [],·)
  |_,_,_=>none
 | .call {callee:= .builtin b,args,argTypes}=>match b,evArgs T fr args.toList with
  | .len,some [.map r]=>match st.store[r]? with
   |some (.map es)=>match(argTypes[0]?).bind T.und with
    |some (.map _ _)=>some (.int .i64 es.length,st)
    |_=>none
   |_=>none
  | .append,some [x,y]=>match argTypes[0]?,(argTypes[1]?).bind T.und with
   |some t,some (.slice _)|some t,some .string=>evAppend T st t (match y with| .list true _ _=>false|_=>true) x y
   |some t,some (.int _)=>evAppendZeros T st t x y
   |_,_=>none
  | .copy,some [.slice r s off len,y]=>if st.locked r then none else
   match(argTypes[0]?).bind T.und,st.store[r]?,srcElems st y with
   |some (.slice e),some (.vec false es),some src=>
    if T.size e=some s∧s≠0∧src.all (fun v=>v.cells.length==s&&v.cells.all V.oneCell)=true∧off+len≤es.length then
     some (.int .i64 (min src.length len:Nat),{st with store:=st.store.set r (.vec false (es.take off ++src.take len ++es.drop (off+min src.length len)))})
    else none
   |_,_,_=>none
  |_,_=>none
 |_=>none
def evMem(T:Tab)(S:S)(fr:Fr)(st:St)(op:Op):Option (V×St):=
 match op with
 | .call {callee:= .value f,args, .. }=>match evArg T fr f,evArgs T fr args.toList with
  |some f,some args=>evInvoke T S f args st
  |_,_=>none
 |op=>b_7 T fr st op
def evYielded(ops:Array Oper)(fr:Fr)(j:Nat):Option Bool:=
 match((ops[j]?).bind (·.dst)).bind (fr.tmps[·]?)with
 |some (.bool b)=>some b
 |_=>none
def evOp(T:Tab)(S:S)(ops:Array Oper)(o:Oper)(fr:Fr)(st:St):Option (Fr×St):=
 if Region.wanted o (evYielded ops fr)then
  match evPure T fr o.op with
  |some v=>some (fr.put o.dst v,st)
  |none=>if isPure o.op then none else(evMem T S fr st o.op).map fun(v,st)=>(fr.put o.dst v,st)
 else some (fr.put o.dst (.tup []),st)
def evOps(T:Tab)(S:S)(ops:Array Oper):List Oper→Fr→St→Option (Fr×St)
 |[],fr,st=>some (fr,st)
 |o::os,fr,st=>match evOp T S ops o fr st with
  |some (fr,st)=>evOps T S ops os fr st
  |none=>none
inductive Kd where
 |pure|read|make|any
 deriving DecidableEq
def kdOf(o:Oper):Kd:=
 if isPure o.op then .pure else
 match o.op with
 | .load .. | .lookup .. => .read
 | .call {callee:= .builtin .len, .. }=> .read
 | .alloc _| .box .. | .makeMap .. | .makeSlice .. => .make
 | .convert .. | .buildSlice .. => .read
 |_=> .any
def readsOf(T:Tab)(fr:Fr)(op:Op):List Nat:=
 match(match op with
  | .load _ a=>evArg T fr a
  | .lookup _ m _ _=>evArg T fr m
  | .call {args, .. }=>(args.toList.head?).bind (evArg T fr)
  | .convert _ _ x=>evArg T fr x
  |_=>none)with
 |some (.ptr r _)|some (.eptr r _ _)|some (.map r)|some (.slice r _ _ _)=>[r]
 |_=>[]
def pickOp(b:Array Nat)(done:Nat)(soft:Bool):List (Nat×Kd)→Option Nat
 |[]=>none
 |(i,k)::l=>if(!soft||k != .any)&& !done.testBit i&&(b.getD i 0&&&done)==b.getD i 0 then some i else pickOp b done soft l
def orderOf(b:Array Nat)(ks:List (Nat×Kd)):Nat→Nat→List Nat
 |0,_=>[]
 |n+1,done=>match pickOp b done true ks with
  |some i=>i::orderOf b ks n (done|||2^i)
  |none=>match pickOp b done false ks with
   |some i=>i::orderOf b ks n (done|||2^i)
   |none=>[]
structure Ent where
 i:Nat
 o:Oper
 m:Nat
def maskOf(past:List Ent)(i:Nat):Nat:=
 match past.find? (·.i==i)with
 |some e=>e.m
 |none=>0
def entOf(past:List Ent)(i:Nat)(o:Oper):Ent:=
 ⟨i,o,o.after.toList.foldl (fun s e=>if Region.binds .any e then s|||2^e.on|||maskOf past e.on else s) 0⟩
def entOk(ops:Array Oper)(past:List Ent)(x:Ent):Bool:=
 past.all (fun p=>p.i !=x.i&&(x.m.testBit p.i||(p.o.apart ops x.o&& !(kdOf p.o== .any&&kdOf x.o != .pure))))&&
 x.o.after.toList.all (fun e=> !Region.binds .any e||past.any (·.i==e.on))
def mkPlan(ops:Array Oper):List Nat→List Ent→Option (List Ent)
 |[],past=>if past.length=ops.size∧(List.range ops.size).all (fun i=>past.any (·.i==i))=true then some past.reverse else none
 |i::is,past=>match ops[i]? with
  |none=>none
  |some o=>if entOk ops past (entOf past i o)then mkPlan ops is (entOf past i o::past)else none
def planOf(ops:Array Oper):Option (List Ent):=
 mkPlan ops (orderOf (Region.before ops) (ops.toList.zipIdx.map fun(o,i)=>(i,kdOf o)) ops.size 0) []
def protOf(reads:List (Nat×Nat))(x:Ent):List Nat:=(reads.filter fun y=> !x.m.testBit y.1).map (·.2)
def evDraw(T:Tab)(S:S)(ops:Array Oper):List Ent→List (Nat×Nat)→Fr→St→Option (Fr×St)
 |[],_,fr,st=>some (fr,st)
 |x::xs,reads,fr,st=>match kdOf x.o with
  | .any=>match evOp T S ops x.o fr {st with prot:=protOf reads x ++st.prot}with
   |some (fr',st')=>evDraw T S ops xs reads fr' {st' with prot:=st.prot}
   |none=>none
  | .read=>match evOp T S ops x.o fr st with
   |some (fr',st')=>evDraw T S ops xs ((readsOf T fr x.o.op).map (x.i,·) ++reads) fr' st'
   |none=>none
  |_=>match evOp T S ops x.o fr st with
   |some (fr',st')=>evDraw T S ops xs reads fr' st'
   |none=>none
def evRegion(T:Tab)(S:S)(ops:Array Oper)(draw:Bool)(fr:Fr)(st:St):Option (Fr×St):=
 if draw then
  match planOf ops with
  |some xs=>evDraw T S ops xs [] fr st
  |none=>none
 else evOps T S ops ops.toList fr st
def enterLoop(round:Option Nat)(fr:Fr)(st:St):Option (Nat×List Nat×St):=
 match round with
 |some l=>match st.loop l with
  |some r=>some (r.defers,fr.marks,st)
  |none=>none
 |none=>some (st.store.length,st.store.length::fr.marks,{st with store:=st.store ++[O.defs]})
def evCode(T:Tab)(S:S)(round:Option Nat)(c:Code)(fr:Fr)(st:St):Option (E×Fr×St):=
 match c with
 | .skip| .label _=>some (.normal,fr,st)
 | .region _ ops draw=>(evRegion T S ops draw fr st).map fun(fr,st)=>(.normal,fr,st)
 | .seq a b=>match S.code round a fr st with
  |some (.normal,fr,st)=>S.code round b fr st
  |r=>r
 | .cond c a b=>match evArg T fr c with
  |some (.bool t)=>S.code round (if t then a else b) fr st
  |_=>none
 | .block id b=>match S.code round b fr st with
  |some (.exit id',fr,st)=>some (if id'=id then .normal else .exit id',fr,st)
  |r=>r
 | .loop b=>match S.code round b fr st with
  |some (.normal,fr,st)=>S.code round (.loop b) fr st
  |r=>r
 | .scope b=>S.code round b fr st
 | .exit id=>some (.exit id,fr,st)
 | .ret=>some (.ret,fr,st)
 | .rangeFunc g ps assign body=>match evArg T fr g with
  |some (.func (.func f) first captured)=>
   if(T.ext f).isSome then none else
   match enterLoop round fr st with
   |none=>none
   |some (ds,marks,st1)=>
    let l:=st1.store.length
    match S.call f (first ++[.func (.yield l) [] []] ++captured) {st1 with store:=st1.store ++[O.loop {state:= .ready,pending:=none,tmps:=fr.tmps,params:=ps,assign,body,defers:=ds}]}with
    |none=>none
    |some (_,st2)=>match st2.loop l with
     |some r=>
      if r.state= .busy∨st2.locked l=true then none else
      match r.pending with
      |none=>some (.normal,{fr with marks},{st2 with store:=st2.store.set l (.loop {r with state:= .exhausted})})
      |some c=>S.code round c {fr with marks} {st2 with store:=st2.store.set l (.loop {r with state:= .exhausted})}
     |none=>none
  |_=>none
 |_=>none
def resList(T:Tab)(fr:Fr)(st:St):List ResultVar→Option (List V)
 |[]=>some []
 |r::rs=>match(match r with
   | .tmp t=>some (fr.tmps.getD t (.tup []))
   | .cell a t=>evLoad T st t (fr.tmps.getD a (.tup [])))with
  |none=>none
  |some v=>match resList T fr st rs with
   |none=>none
   |some vs=>some (v::vs)
def evResults(T:Tab)(fn:Func)(fr:Fr)(st:St):Option V:=
 match resList T fr st fn.results.toList with
 |some [v]=>some v
 |some vs=>some (.tup vs)
 |none=>none
def dropMarks:List Nat→St→Option St
 |[],st=>some st
 |r::rs,st=>if st.locked r then none else
  match st.store[r]? with
  |some .defs=>dropMarks rs {st with store:=st.store.set r .dead}
  |_=>none
def evBody(T:Tab)(S:S)(fn:Func)(args:List V)(st:St):Option (V×St):=
 match fn.body with
 |none=>none
 |some c=>match S.code none c {tmps:=args ++List.replicate (fn.ntmps-args.length) (.tup []),marks:=[]} st with
  |some (.normal,fr,st)|some (.ret,fr,st)=>match dropMarks fr.marks st with
   |some st=>match evResults T fn fr st with
    |some v=>some (v,st)
    |none=>none
   |none=>none
  |_=>none
def top(v:V)(w:V):V:=
 match v with
 | .list true _ []=> .list true none []
 |_=>w
def evRet(st st':St)(v:V):Option (V×St):=
 match freeze st' (some st.store.length) deep v with
 |none=>none
 |some v'=>
  let v':=match v,v' with
   | .tup vs, .tup vs'=>V.tup (List.zipWith top vs vs')
   |v,v'=>top v v'
  if below st.store.length deep v' then some (v',st)else none
def evRo(T:Tab)(S:S)(fn:Func)(args:List V)(st:St):Option (V×St):=
 match args.mapM (freeze st none deep)with
 |none=>none
 |some args=>match evBody T S fn args {st with base:=st.store.length}with
  |none=>none
  |some (v,st')=>evRet st st' v
def evShut(T:Tab)(S:S)(fn:Func)(args:List V)(st:St):Option (V×St):=
 match args.mapM (freeze st none deep)with
 |none=>none
 |some args=>if args.all (below 0 deep)=true then
   match evBody T S fn args {store:=[],base:=0,prot:=[]}with
   |none=>none
   |some (v,st')=>(evRet {store:=[],base:=0,prot:=[]} st' v).map fun p=>(p.1,st)
  else none
def isEmptyList:V→Bool
 | .list _ _ []=>true
 |_=>false
def evCall(T:Tab)(S:S)(f:FuncId)(args:List V)(st:St):Option (V×St):=
 match T.fn f with
 |none=>none
 |some fn=>match T.mode f with
  | .open_=>evBody T S fn args st
  | .ro=>evRo T S fn args st
  | .split=>match args with
   |[x]=>
    if isEmptyList x then
     match evBody T S fn [.list false (some true) []] {st with base:=st.store.length},evBody T S fn [.list false (some false) []] {st with base:=st.store.length}with
     |some (.list true _ [],_),some (.list true _ [],_)=>some (.list true none [],st)
     |_,_=>none
    else evBody T S fn args st
   |_=>none
  | .shut=>evShut T S fn args st
  | .shut2=>match args with
   |[x]=>
    if isEmptyList x then
     match evBody T S fn [.list false (some true) []] {store:=[],base:=0,prot:=[]},evBody T S fn [.list false (some false) []] {store:=[],base:=0,prot:=[]}with
     |some (.list true _ [],_),some (.list true _ [],_)=>some (.list true none [],st)
     |_,_=>none
    else evShut T S fn args st
   |_=>none
def ev(T:Tab):Nat→S
 |0=>{code:=fun _ _ _ _=>none,call:=fun _ _ _=>none}
 |n+1=>{code:=evCode T (ev T n),call:=evCall T (ev T n)}
end Go.Abs
namespace Go.Abs
structure G where
 b:Nat
 o:Nat
 s:Nat
 cap:Nat
structure K where
 ρ:Nat→Option G
 I:Nat→Nat→Option Value
structure K.le(k k':K):Prop where
 ρ:∀r g,k.ρ r=some g→k'.ρ r=some g
 I:∀b o v,k.I b o=some v→k'.I b o=some v
theorem K.le.refl(k:K):k.le k:=⟨fun _ _ h=>h,fun _ _ _ h=>h⟩
theorem K.le.trans{a b c:K}(h:a.le b)(h':b.le c):a.le c:=⟨fun r g x=>h'.ρ r g (h.ρ r g x),fun b o v x=>h'.I b o v (h.I b o v x)⟩
mutual
inductive VR(k:K):V→Value→Prop
 |bool (b:Bool):VR k (.bool b) (.bool b)
 |int (kd:IntKind) (n:Int):VR k (.int kd n) (.int kd n)
 |str (s:ByteArray):VR k (.str s.data.toList) (.string s)
 |nilp:VR k .nilp (.pointer none)
 |ptr (r off:Nat) (g:G) (h:k.ρ r=some g):VR k (.ptr r off) (.pointer (some ⟨g.b,g.o+off,none⟩))
 |eptr (r i off:Nat) (g:G) (h:k.ρ r=some g):VR k (.eptr r i off) (.pointer (some ⟨g.b,g.o+i * g.s+off,none⟩))
 |iptr (cs:List V) (vs:List Value) (b o:Nat) (h:VRs k cs vs) (hI:∀(j:Nat) (v:Value),vs[j]? =some v→k.I b (o+j)=some v):
   VR k (.iptr cs) (.pointer (some ⟨b,o,none⟩))
 |list0 (full:Bool) (nl:Option Bool) (base:Option Addr) (cap:Nat) (hf:full=true→cap=0) (h1:nl=some true→base=none) (h2:nl=some false→base≠none):
   VR k (.list full nl []) (.slice base 0 cap)
 |list1 (full:Bool) (nl:Option Bool) (x:V) (xs:List V) (vs:List Value) (b o s cap:Nat) (h:VRs k ((x::xs).flatMap V.cells) vs)
   (hI:∀(j:Nat) (v:Value),vs[j]? =some v→k.I b (o+j)=some v) (hs:∀y∈x::xs,y.cells.length=s)
   (hf:full=true→cap=xs.length+1) (hc:xs.length+1≤cap) (hn:nl≠some true):
   VR k (.list full nl (x::xs)) (.slice (some ⟨b,o,none⟩) (xs.length+1) cap)
 |slice (r s off len:Nat) (g:G) (a:Addr) (h:k.ρ r=some g) (hs:g.s=s) (hl:off+len≤g.cap) (ha:g.cap-off≠0→a=⟨g.b,g.o+off * s,none⟩):
   VR k (.slice r s off len) (.slice (some a) len (g.cap-off))
 |map (r:Nat) (g:G) (h:k.ρ r=some g):VR k (.map r) (.map (some g.b))
 |nilmap:VR k .nilmap (.map none)
 |func (f:FuncId) (a b:List V) («as» bs:List Value) (ha:VRs k a «as») (hb:VRs k b bs):VR k (.func (.func f) a b) (.func (.func f) ⟨«as»⟩ ⟨bs⟩)
 |yield (l:Nat) (g:G) (h:k.ρ l=some g):VR k (.func (.yield l) [] []) (.func (.yield g.b) #[] #[])
 |nilfunc:VR k .nilfunc .nilFunc
 |iface (t:TypeId) (v:V) (x:Value) (h:VR k v x):VR k (.iface t v) (.iface t x)
 |niliface:VR k .niliface .nilIface
 |agg (cs:List V) (vs:List Value) (h:VRs k cs vs):VR k (.agg cs) (.agg ⟨vs⟩)
 |tup (cs:List V) (vs:List Value) (h:VRs k cs vs):VR k (.tup cs) (.tuple ⟨vs⟩)
inductive VRs(k:K):List V→List Value→Prop
 |nil:VRs k [] []
 |cons {v:V} {x:Value} {vs:List V} {xs:List Value} (h:VR k v x) (hs:VRs k vs xs):VRs k (v::vs) (x::xs)
end
theorem VRs.mono{k k':K}(hk:k.le k'){v:List V}{x:List Value}(h:VRs k v x):VRs k' v x:=
 VRs.rec (motive_1:=fun v x _=>VR k' v x) (motive_2:=fun v x _=>VRs k' v x)
  (fun b=> .bool b) (fun kd n=> .int kd n) (fun s=> .str s) .nilp (fun r off g h=> .ptr r off g (hk.ρ _ _ h)) (fun r i off g h=> .eptr r i off g (hk.ρ _ _ h))
  (fun cs vs b o _ hI ih=> .iptr cs vs b o ih fun j v hv=>hk.I _ _ _ (hI j v hv))
  (fun full nl base cap hf h1 h2=> .list0 full nl base cap hf h1 h2)
  (fun full nl x xs vs b o s cap _ hI hs hf hc hn ih=> .list1 full nl x xs vs b o s cap ih (fun j v hv=>hk.I _ _ _ (hI j v hv)) hs hf hc hn)
  (fun r s off len g a h hs hl ha=> .slice r s off len g a (hk.ρ _ _ h) hs hl ha)
  (fun r g h=> .map r g (hk.ρ _ _ h)) .nilmap (fun f a b «as» bs _ _ iha ihb=> .func f a b «as» bs iha ihb) (fun l g h=> .yield l g (hk.ρ _ _ h)) .nilfunc
  (fun t v x _ ih=> .iface t v x ih) .niliface (fun cs vs _ ih=> .agg cs vs ih) (fun cs vs _ ih=> .tup cs vs ih)
  .nil (fun _ _ ih ihs=> .cons ih ihs) h
theorem VR.mono{k k':K}(hk:k.le k'){v:V}{x:Value}(h:VR k v x):VR k' v x:=by
 have:=VRs.mono hk (VRs.cons h .nil)
 cases this with
 |cons h _=>exact h
theorem VRs.length{k:K}:∀{vs:List V} {xs:List Value},VRs k vs xs→vs.length=xs.length
 |_,_, .nil=>rfl
 |_,_, .cons _ hs=>by simp[hs.length]
theorem VRs.get{k:K}:∀{vs:List V} {xs:List Value},VRs k vs xs→∀(i:Nat) (v:V),vs[i]? =some v→∃x,xs[i]? =some x∧VR k v x
 |_,_, .nil,i,v,h=>by simp at h
 |_,_, .cons (x:=x) hx hs,0,v,h=>by simp at h;subst h;exact⟨x,rfl,hx⟩
 |_,_, .cons hx hs,i+1,v,h=>by simpa using hs.get i v (by simpa using h)
theorem VRs.append{k:K}:∀{vs:List V} {xs:List Value} {ws:List V} {ys:List Value},VRs k vs xs→VRs k ws ys→VRs k (vs ++ws) (xs ++ys)
 |_,_,_,_, .nil,h=>h
 |_,_,_,_, .cons h hs,h'=> .cons h (hs.append h')
theorem VRs.drop{k:K}:∀(n:Nat) {vs:List V} {xs:List Value},VRs k vs xs→VRs k (vs.drop n) (xs.drop n)
 |0,_,_,h=>by simpa using h
 |_+1,_,_, .nil=>by simpa using .nil
 |n+1,_,_, .cons _ hs=>by simpa using VRs.drop n hs
theorem VRs.take{k:K}:∀(n:Nat) {vs:List V} {xs:List Value},VRs k vs xs→VRs k (vs.take n) (xs.take n)
 |0,_,_,h=>by simpa using .nil
 |_+1,_,_, .nil=>by simpa using .nil
 |n+1,_,_, .cons h hs=>by simpa using .cons h (VRs.take n hs)
theorem VRs.set{k:K}:∀(n:Nat) {vs:List V} {xs:List Value} {v:V} {x:Value},VRs k vs xs→VR k v x→VRs k (vs.set n v) (xs.set n x)
 |_,_,_,_,_, .nil,_=>by simpa using .nil
 |0,_,_,_,_, .cons _ hs,h=>by simpa using .cons h hs
 |n+1,_,_,_,_, .cons h' hs,h=>by simpa using .cons h' (VRs.set n hs h)
theorem VRs.replicate{k:K}{v:V}{x:Value}(h:VR k v x):∀n,VRs k (List.replicate n v) (List.replicate n x)
 |0=> .nil
 |n+1=>by simpa[List.replicate_succ]using .cons h (VRs.replicate h n)
theorem VRs.split{k:K}:∀{vs ws:List V} {zs:List Value},VRs k (vs ++ws) zs→∃xs ys,zs=xs ++ys∧VRs k vs xs∧VRs k ws ys
 |[],_,zs,h=>⟨[],zs,rfl, .nil,h⟩
 |_::vs,_,_, .cons h hs=>by
  obtain⟨xs,ys,e,h1,h2⟩:=VRs.split (vs:=vs) hs
  exact⟨_::xs,ys,by rw[e];rfl, .cons h h1,h2⟩
theorem VR.cells{k:K}{v:V}{x:Value}(h:VR k v x):VRs k v.cells x.cells.toList:=by
 cases h<;>first|exact .cons (by constructor<;>assumption) .nil|skip
 case agg cs vs h=>exact h
end Go.Abs
namespace Go.Abs
inductive OR(k:K)(g:G)(h:Option Obj):O→Prop
 |dead:OR k g h .dead
 |box (cs:List V) (vs:List Value) (t:TypeId) (hh:h=some (.cells vs.toArray t (0,0))) (hv:VRs k cs vs) (ho:g.o=0) (hI:∀o,k.I g.b o=none):OR k g h (.box cs)
 |vec (acc:Bool) (es:List V) (arr:Array Value) (t:TypeId) (vs:List Value) (hh:h=some (.cells arr t (0,0))) (hz:arr.size=g.o+g.cap * g.s) (hc:es.length≤g.cap)
   (hs:∀x∈es,x.cells.length=g.s) (hv:VRs k (es.flatMap V.cells) vs) (ha:∀(j:Nat) (v:Value),vs[j]? =some v→arr[g.o+j]? =some v)
   (hI:acc=true→∀(j:Nat) (v:Value),vs[j]? =some v→k.I g.b (g.o+j)=some v) (hI':∀o,g.o≤o→(acc=true→g.o+vs.length≤o)→k.I g.b o=none):
   OR k g h (.vec acc es)
 |way (es:List V) (hv:OR k g h (.vec false es)):OR k g h (.way es)
 |map (es:List (V×V)) (ents:Array MapEntry) (clock:Nat) (hh:h=some (.map ents clock)) (hl:ents.size=es.length)
   (he:∀(i:Nat) (x:V×V) (e:MapEntry),es[i]? =some x→ents[i]? =some e→VR k x.1 e.key∧VR k x.2 e.val):OR k g h (.map es)
 |loop (l:L) (vs:List Value) (fn:FuncId) (gd:G) (hd:k.ρ l.defers=some gd) (hv:VRs k l.tmps vs)
   (hh:h=some (.loop {state:=l.state,pending:=l.pending,fn,tmps:=vs.toArray,params:=l.params,assign:=l.assign,body:=l.body,defers:=gd.b})):OR k g h (.loop l)
 |defs (hh:h=some (.deferred (some []))):OR k g h .defs
theorem av_5{k:K}{g:G}{h:Option Obj}{ob:O}{acc:Bool}{es:List V}(ho:OR k g h ob)(e:rowA (some ob)=some (acc,es)):OR k g h (.vec acc es):=by
 cases ho with
 |vec acc' es' arr t vs hh hz hc hs hv ha hI hI'=>
  simp only[rowA,Option.some.injEq,Prod.mk.injEq]at e
  obtain⟨rfl,rfl⟩:=e
  exact .vec _ _ arr t vs hh hz hc hs hv ha hI hI'
 |way es' hv=>
  simp only[rowA,Option.some.injEq,Prod.mk.injEq]at e
  obtain⟨rfl,rfl⟩:=e
  exact hv
 |_=>cases e
def Share(st:St)(r r':Nat)(g g':G):Prop:=g=g'∧∃es es',st.store[r]? =some (.way es)∧st.store[r']? =some (.way es')∧(r≤r'→es.length≤es'.length)∧(r'≤r→es'.length≤es.length)
theorem Share.to{st st':St}{r r':Nat}{g g':G}(h:Share st r r' g g')(h1:st'.store[r]? =st.store[r]?)(h2:st'.store[r']? =st.store[r']?):Share st' r r' g g':=by
 obtain⟨e,es,es',a,b,c⟩:=h
 exact⟨e,es,es',by rw[h1];exact a,by rw[h2];exact b,c⟩
structure WR(k:K)(st:St)(w:World):Prop where
 imm:∀b o v,k.I b o=some v→w.cell? ⟨b,o,none⟩=some v
 obj:∀r g,k.ρ r=some g→∃ob,st.store[r]? =some ob∧OR k g w.heap[g.b]? ob
 bound:∀r g,k.ρ r=some g→g.b<w.heap.size
 apart:∀r r' g g',k.ρ r=some g→k.ρ r'=some g'→g.b=g'.b→st.store[r]?≠some .dead→st.store[r']?≠some .dead→r=r'∨Share st r r' g g'
 ways:∀r es,st.store[r]? =some (.way es)→∃g,k.ρ r=some g
theorem WR.lt{k:K}{st:St}{w:World}(h:WR k st w){r:Nat}{g:G}(hr:k.ρ r=some g):r<st.store.length:=by
 obtain⟨ob,h1,_⟩:=h.obj r g hr
 exact(List.getElem?_eq_some_iff.1 h1).1
theorem WR.immLt{k:K}{st:St}{w:World}(h:WR k st w){b o:Nat}{v:Value}(hi:k.I b o=some v):b<w.heap.size:=by
 have:=h.imm b o v hi
 rcases Nat.lt_or_ge b w.heap.size with hb|hb
 ·exact hb
 ·simp[World.cell?,Array.getElem?_eq_none hb]at this
theorem OR.mono{k k':K}(hk:k.le k'){g:G}{h:Option Obj}{o:O}(hI:∀o,k.I g.b o=none→k'.I g.b o=none)(ho:OR k g h o):OR k' g h o:=by
 cases ho with
 |dead=>exact .dead
 |way es hv=>
  cases hv with
  |vec _ _ arr t vs hh hz hc hs hv ha hi hi'=>exact .way es (.vec false es arr t vs hh hz hc hs (hv.mono hk) ha (fun h j v hj=>hk.I _ _ _ (hi h j v hj)) fun o h1 h2=>hI o (hi' o h1 h2))
 |box cs vs t hh hv ho hi=>exact .box cs vs t hh (hv.mono hk) ho fun o=>hI o (hi o)
 |vec acc es arr t vs hh hz hc hs hv ha hi hi'=>
  exact .vec acc es arr t vs hh hz hc hs (hv.mono hk) ha (fun h j v hj=>hk.I _ _ _ (hi h j v hj)) fun o h1 h2=>hI o (hi' o h1 h2)
 |map es ents clock hh hl he=>exact .map es ents clock hh hl fun i x e h1 h2=>⟨(he i x e h1 h2).1.mono hk,(he i x e h1 h2).2.mono hk⟩
 |loop l vs fn gd hd hv hh=>exact .loop l vs fn gd (hk.ρ _ _ hd) (hv.mono hk) hh
 |defs hh=>exact .defs hh
def Env(w w':World):Prop:=w'.tape=w.tape∧w'.os=w.os∧w'.output=w.output
structure Tr(X:Nat→Prop)(k k':K)(st st':St)(w w':World):Prop where
 le:k.le k'
 wr:WR k' st' w'
 size:w.heap.size≤w'.heap.size
 len:st.store.length≤st'.store.length
 base:st'.base=st.base
 prot:st'.prot=st.prot
 lock:∀r,X r→st.locked r=false∧∃g,k.ρ r=some g
 same:∀r,r<st.store.length→¬X r→st'.store[r]? =st.store[r]?
 frame:∀b,b<w.heap.size→(∀r g,k.ρ r=some g→g.b=b→¬X r)→w'.heap[b]? =w.heap[b]?
 newρ:∀r g,k.ρ r=none→k'.ρ r=some g→st.store.length≤r∧(w.heap.size≤g.b∨∃r0 g0,X r0∧k.ρ r0=some g0∧g0.b=g.b)
 newI:∀b o v,k.I b o=none→k'.I b o=some v→w.heap.size≤b∨∃r0 g0,X r0∧k.ρ r0=some g0∧g0.b=b
 env:Env w w'
theorem Tr.locked{X:Nat→Prop}{k k':K}{st st':St}{w w':World}(h:Tr X k k' st st' w w')(r:Nat):st'.locked r=st.locked r:=by
 simp[St.locked,h.base,h.prot]
theorem Tr.refl{k:K}{st:St}{w:World}(h:WR k st w):Tr (fun _=>False) k k st st w w:=
 ⟨.refl k,h,Nat.le_refl _,Nat.le_refl _,rfl,rfl,fun _ h=>h.elim,fun _ _ _=>rfl,fun _ _ _=>rfl,(fun r g h1 h2=>by rw[h1]at h2;cases h2),(fun b o v h1 h2=>by rw[h1]at h2;cases h2),rfl,rfl,rfl⟩
theorem Tr.trans{X Y:Nat→Prop}{k k' k'':K}{st st' st'':St}{w w' w'':World}(hw:WR k st w)(h:Tr X k k' st st' w w')(h':Tr Y k' k'' st' st'' w' w''):
  Tr (fun r=>X r∨(Y r∧r<st.store.length)) k k'' st st'' w w'' where
 le:=h.le.trans h'.le
 wr:=h'.wr
 size:=Nat.le_trans h.size h'.size
 len:=Nat.le_trans h.len h'.len
 base:=h'.base.trans h.base
 prot:=h'.prot.trans h.prot
 lock:=by
  rintro r (hx|⟨hy,hl⟩)
  ·exact h.lock r hx
  ·obtain⟨h1,g,hg⟩:=h'.lock r hy
   refine⟨by rw[←h.locked r];exact h1,?_⟩
   cases e:k.ρ r with
   |some g=>exact⟨g,rfl⟩
   |none=>have:=(h.newρ r g e hg).1;omega
 same:=by
  intro r hr hx
  have h1:¬X r:=fun a=>hx (.inl a)
  have h2:¬Y r:=fun a=>hx (.inr ⟨a,hr⟩)
  rw[h'.same r (Nat.lt_of_lt_of_le hr h.len) h2,h.same r hr h1]
 frame:=by
  intro b hb hx
  rw[h'.frame b (Nat.lt_of_lt_of_le hb h.size) ?_,h.frame b hb fun r g a c d=>hx r g a c (.inl d)]
  intro r g hg e hy
  cases e':k.ρ r with
  |some g'=>
   have:=h.le.ρ r g' e'
   rw[hg]at this;cases this
   exact hx r g e' e (.inr ⟨hy,hw.lt e'⟩)
  |none=>
   rcases(h.newρ r g e' hg).2 with hs|⟨r0,g0,hx0,h0,he⟩
   ·omega
   ·exact hx r0 g0 h0 (he.trans e) (.inl hx0)
 newρ:=by
  intro r g hn hs
  cases e:k'.ρ r with
  |some g'=>
   have:=h'.le.ρ r g' e
   rw[hs]at this;cases this
   obtain⟨h1,h2⟩:=h.newρ r g hn e
   exact⟨h1,h2.imp id fun⟨r0,g0,a,b,c⟩=>⟨r0,g0, .inl a,b,c⟩⟩
  |none=>
   obtain⟨h1,h2⟩:=h'.newρ r g e hs
   refine⟨Nat.le_trans h.len h1,?_⟩
   rcases h2 with h2|⟨r0,g0,hy,h0,he⟩
   ·exact .inl (Nat.le_trans h.size h2)
   ·cases e0:k.ρ r0 with
    |some g'=>
     have:=h.le.ρ r0 g' e0
     rw[h0]at this;cases this
     exact .inr ⟨r0,g0, .inr ⟨hy,hw.lt e0⟩,e0,he⟩
    |none=>
     rcases(h.newρ r0 g0 e0 h0).2 with h3|⟨r1,g1,hx,h1',he'⟩
     ·exact .inl (he▸h3)
     ·exact .inr ⟨r1,g1, .inl hx,h1',he'.trans he⟩
 newI:=by
  intro b o v hn hs
  cases e:k'.I b o with
  |some v'=>
   rcases h.newI b o v' hn e with h1|⟨r0,g0,a,c,d⟩
   ·exact .inl h1
   ·exact .inr ⟨r0,g0, .inl a,c,d⟩
  |none=>
   rcases h'.newI b o v e hs with h2|⟨r0,g0,hy,h0,he⟩
   ·exact .inl (Nat.le_trans h.size h2)
   ·cases e0:k.ρ r0 with
    |some g'=>
     have:=h.le.ρ r0 g' e0
     rw[h0]at this;cases this
     exact .inr ⟨r0,g0, .inr ⟨hy,hw.lt e0⟩,e0,he⟩
    |none=>
     rcases(h.newρ r0 g0 e0 h0).2 with h3|⟨r1,g1,hx,h1',he'⟩
     ·exact .inl (he▸h3)
     ·exact .inr ⟨r1,g1, .inl hx,h1',he'.trans he⟩
 env:=⟨h'.env.1.trans h.env.1,h'.env.2.1.trans h.env.2.1,h'.env.2.2.trans h.env.2.2⟩
def Later(k k':K)(st st':St)(w w':World):Prop:=∃X,Tr X k k' st st' w w'
theorem Later.wr{k k':K}{st st':St}{w w':World}(h:Later k k' st st' w w'):WR k' st' w':=let⟨_,h⟩:=h;h.wr
theorem Later.le{k k':K}{st st':St}{w w':World}(h:Later k k' st st' w w'):k.le k':=let⟨_,h⟩:=h;h.le
theorem Later.refl{k:K}{st:St}{w:World}(h:WR k st w):Later k k st st w w:=⟨_,Tr.refl h⟩
theorem Later.trans{k k' k'':K}{st st' st'':St}{w w' w'':World}(hw:WR k st w)(h:Later k k' st st' w w')(h':Later k' k'' st' st'' w' w''):Later k k'' st st'' w w'':=
 let⟨_,h⟩:=h;let⟨_,h'⟩:=h';⟨_,h.trans hw h'⟩
theorem WR.heap{k:K}{st:St}{w w':World}(h:WR k st w)(hh:w'.heap=w.heap):WR k st w':=
 ⟨fun b o v hi=>by have:=h.imm b o v hi;simpa[World.cell?,hh]using this,fun r g hr=>by rw[hh];exact h.obj r g hr,fun r g hr=>by rw[hh];exact h.bound r g hr,h.apart,h.ways⟩
theorem Later.drew{k:K}{st:St}{w w':World}(h:WR k st w)(hh:w'.heap=w.heap)(he:Env w w':=by first|exact⟨rfl,rfl,rfl⟩|assumption):Later k k st st w w':=
 ⟨fun _=>False, .refl k,h.heap hh,by rw[hh];exact Nat.le_refl _,Nat.le_refl _,rfl,rfl,fun _ h=>h.elim,fun _ _ _=>rfl,fun _ _ _=>by rw[hh],(fun r g h1 h2=>by rw[h1]at h2;cases h2),(fun b o v h1 h2=>by rw[h1]at h2;cases h2),he⟩
end Go.Abs
namespace Go.Abs
def K.put(k:K)(r:Nat)(g:G):K:={k with ρ:=fun x=>if x=r then some g else k.ρ x}
def K.lay(k:K)(b:Nat)(J:Nat→Option Value):K:={k with I:=fun x o=>if x=b then(match J o with|some v=>some v|none=>k.I x o)else k.I x o}
def cellOf(ob:Obj)(o:Nat):Option Value:=
 match ob with
 | .cells c _ _=>c[o]?
 |_=>none
theorem cell?_of{w:World}{b o:Nat}{ob:Obj}(h:w.heap[b]? =some ob):w.cell? ⟨b,o,none⟩=cellOf ob o:=by
 simp only[World.cell?,h]
 cases ob<;>rfl
theorem cell?_congr{w w':World}{b o:Nat}(h:w'.heap[b]? =w.heap[b]?):w'.cell? ⟨b,o,none⟩=w.cell? ⟨b,o,none⟩:=by
 simp only[World.cell?,h]
theorem am_8{k:K}{st:St}{w:World}(hw:WR k st w){b:Nat}{J:Nat→Option Value}(hb:∀o v v',k.I b o=some v→J o=some v'→v'=v):k.le (k.lay b J):=
 ⟨fun _ _ h=>h,fun x o v h=>by
  simp only[K.lay]
  split
  ·rename_i e;subst e
   cases hj:J o with
   |none=>exact h
   |some v'=>rw[hb o v v' h hj]
  ·exact h⟩
theorem Later.allocI{k:K}{st:St}{w w':World}(hw:WR k st w)(ob:Obj)(J:Nat→Option Value)(hh:w'.heap=w.heap.push ob)(hJ:∀o v,J o=some v→cellOf ob o=some v)(he:Env w w':=by first|exact⟨rfl,rfl,rfl⟩|assumption):
  Later k (k.lay w.heap.size J) st st w w':=by
 have hnone:∀o,k.I w.heap.size o=none:=fun o=>by
  cases e:k.I w.heap.size o with
  |none=>rfl
  |some v=>exact absurd (hw.immLt e) (Nat.lt_irrefl _)
 have hle:k.le (k.lay w.heap.size J):=am_8 hw fun o v v' h=>by rw[hnone o]at h;cases h
 have hold:∀b,b<w.heap.size→w'.heap[b]? =w.heap[b]? :=fun b hb=>by rw[hh];simp[Array.getElem?_push,Nat.ne_of_lt hb]
 refine⟨fun _=>False,hle,⟨?_,?_,?_,?_,?_⟩,by rw[hh];simp,Nat.le_refl _,rfl,rfl,fun _ h=>h.elim,fun _ _ _=>rfl,fun b hb _=>hold b hb,?_,?_,he⟩
 ·intro b o v hi
  simp only[K.lay]at hi
  split at hi
  ·rename_i e;subst e
   cases hj:J o with
   |none=>rw[hj]at hi;simp only at hi;rw[hnone o]at hi;cases hi
   |some v'=>
    rw[hj]at hi;cases hi
    rw[cell?_of (ob:=ob) (by rw[hh];simp)]
    exact hJ o _ hj
  ·rw[cell?_congr (hold b (hw.immLt hi))];exact hw.imm b o v hi
 ·intro r g hr
  obtain⟨o,h1,h2⟩:=hw.obj r g hr
  refine⟨o,h1,?_⟩
  rw[hold _ (hw.bound r g hr)]
  refine h2.mono hle fun o' h=> ?_
  simp only[K.lay]
  rw[if_neg (Nat.ne_of_lt (hw.bound r g hr))];exact h
 ·intro r g hr;have:=hw.bound r g hr;rw[hh];simp;omega
 ·exact hw.apart
 ·exact hw.ways
 ·intro r g h1 h2;simp only[K.lay]at h2;rw[h1]at h2;cases h2
 ·intro b o v h1 h2
  simp only[K.lay]at h2
  split at h2
  ·rename_i e;exact .inl (Nat.le_of_eq e.symm)
  ·rw[h1]at h2;cases h2
theorem Later.alloc{k:K}{st st':St}{w w':World}(hw:WR k st w)(ob:Obj)(o:O)(J:Nat→Option Value)(g:G)(hg:g.b=w.heap.size)(hh:w'.heap=w.heap.push ob)
  (hst:st'.store=st.store ++[o]) (hb:st'.base=st.base) (hp:st'.prot=st.prot) (hJ:∀o v,J o=some v→cellOf ob o=some v)
  (ho:OR ((k.lay w.heap.size J).put st.store.length g) g (some ob) o) (he:Env w w':=by first|exact⟨rfl,rfl,rfl⟩|assumption):
  Later k ((k.lay w.heap.size J).put st.store.length g) st st' w w':=by
 have hnone:∀o,k.I w.heap.size o=none:=fun o=>by
  cases e:k.I w.heap.size o with
  |none=>rfl
  |some v=>exact absurd (hw.immLt e) (Nat.lt_irrefl _)
 have hrn:∀r g,k.ρ r=some g→r≠st.store.length:=fun r g h e=>by have:=hw.lt h;omega
 have hle:k.le ((k.lay w.heap.size J).put st.store.length g):=(am_8 hw fun o v v' h=>by rw[hnone o]at h;cases h).trans
  ⟨fun r g' h=>by simp only[K.put];rw[if_neg (hrn r g' h)];exact h,fun _ _ _ h=>h⟩
 have hold:∀b,b<w.heap.size→w'.heap[b]? =w.heap[b]? :=fun b hb=>by rw[hh];simp[Array.getElem?_push,Nat.ne_of_lt hb]
 refine⟨fun _=>False,hle,⟨?_,?_,?_,?_,?_⟩,by rw[hh];simp,by rw[hst];simp,hb,hp,fun _ h=>h.elim,?_,fun b hb _=>hold b hb,?_,?_,he⟩
 ·intro b o v hi
  simp only[K.lay,K.put]at hi
  split at hi
  ·rename_i e;subst e
   cases hj:J o with
   |none=>rw[hj]at hi;simp only at hi;rw[hnone o]at hi;cases hi
   |some v'=>
    rw[hj]at hi;cases hi
    rw[cell?_of (ob:=ob) (by rw[hh];simp)]
    exact hJ o _ hj
  ·rw[cell?_congr (hold b (hw.immLt hi))];exact hw.imm b o v hi
 ·intro r g' hr
  simp only[K.put,K.lay]at hr
  split at hr
  ·rename_i e;subst e;cases hr
   exact⟨o,by rw[hst];simp,by rw[hg,hh];simpa using ho⟩
  ·obtain⟨o',h1,h2⟩:=hw.obj r g' hr
   refine⟨o',by rw[hst,List.getElem?_append_left (hw.lt hr)];exact h1,?_⟩
   rw[hold _ (hw.bound r g' hr)]
   refine h2.mono hle fun o'' h=> ?_
   simp only[K.lay,K.put]
   rw[if_neg (Nat.ne_of_lt (hw.bound r g' hr))];exact h
 ·intro r g' hr
  simp only[K.put,K.lay]at hr
  rw[hh];simp only[Array.size_push]
  split at hr
  ·cases hr;omega
  ·have:=hw.bound r g' hr;omega
 ·intro r r' g1 g2 h1 h2 he hd hd'
  simp only[K.put,K.lay]at h1 h2
  split at h1
  ·rename_i e1
   cases h1
   split at h2
   ·rename_i e2;exact .inl (e1.trans e2.symm)
   ·have:=hw.bound r' g2 h2;omega
  ·rename_i e1
   split at h2
   ·cases h2;have:=hw.bound r g1 h1;omega
   ·have q1:st'.store[r]? =st.store[r]? :=by rw[hst,List.getElem?_append_left (hw.lt h1)]
    have q2:st'.store[r']? =st.store[r']? :=by rw[hst,List.getElem?_append_left (hw.lt h2)]
    rw[q1]at hd
    rw[q2]at hd'
    exact(hw.apart r r' g1 g2 h1 h2 he hd hd').imp id fun h=>h.to q1 q2
 ·intro r es hr
  simp only[K.put,K.lay]
  by_cases e:r=st.store.length
  ·exact⟨g,by rw[if_pos e]⟩
  ·rw[if_neg e]
   have hlt:r<st.store.length:=by
    have:=(List.getElem?_eq_some_iff.1 hr).1
    rw[hst]at this;simp at this;omega
   rw[hst,List.getElem?_append_left hlt]at hr
   exact hw.ways r es hr
 ·intro r hr _;rw[hst,List.getElem?_append_left hr]
 ·intro r g' h1 h2
  simp only[K.put,K.lay]at h2
  split at h2
  ·rename_i e;cases h2;exact⟨Nat.le_of_eq e.symm, .inl (Nat.le_of_eq hg.symm)⟩
  ·rw[h1]at h2;cases h2
 ·intro b o v h1 h2
  simp only[K.lay,K.put]at h2
  split at h2
  ·rename_i e;exact .inl (Nat.le_of_eq e.symm)
  ·rw[h1]at h2;cases h2
theorem Later.turn{k:K}{st st':St}{w w':World}(hw:WR k st w){r:Nat}{g:G}(hr:k.ρ r=some g)(hlk:st.locked r=false)(hnd:st.store[r]?≠some .dead∧∀es,st.store[r]?≠some (.way es))(o:O)
  (hst:st'.store=st.store.set r o) (hb:st'.base=st.base) (hp:st'.prot=st.prot) (hsz:w'.heap.size=w.heap.size) (hold:∀b,b≠g.b→w'.heap[b]? =w.heap[b]?)
  (hi:∀o v,k.I g.b o=some v→w'.cell? ⟨g.b,o,none⟩=some v) (ho:OR k g w'.heap[g.b]? o) (he:Env w w':=by first|exact⟨rfl,rfl,rfl⟩|assumption):Later k k st st' w w':=by
 have hlt:=hw.lt hr
 refine⟨fun x=>x=r, .refl k,⟨?_,?_,?_,?_,?_⟩,by omega,by rw[hst];simp,hb,hp,?_,?_,?_,?_,?_,he⟩
 ·intro b o v h
  by_cases e:b=g.b
  ·subst e;exact hi o v h
  ·rw[cell?_congr (hold b e)];exact hw.imm b o v h
 ·intro r' g' hr'
  by_cases e:r'=r
  ·subst e;rw[hr]at hr';cases hr'
   exact⟨o,by rw[hst];simp[hlt],ho⟩
  ·obtain⟨o',h1,h2⟩:=hw.obj r' g' hr'
   refine⟨o',by rw[hst,List.getElem?_set_ne (Ne.symm e)];exact h1,?_⟩
   by_cases eb:g'.b=g.b
   ·by_cases hd:o'= .dead
    ·subst hd;exact .dead
    ·rcases hw.apart r' r g' g hr' hr eb (by rw[h1];intro h;cases h;exact hd rfl) hnd.1 with h3|⟨_,_,es,_,h3,_⟩
     ·exact absurd h3 e
     ·exact absurd h3 (hnd.2 es)
   ·rw[hold _ eb];exact h2
 ·intro r' g' h;rw[hsz];exact hw.bound r' g' h
 ·intro r1 r2 g1 g2 h1 h2 he hd hd'
  by_cases e1:r1=r
  ·by_cases e2:r2=r
   ·exact .inl (e1.trans e2.symm)
   ·rw[hst,List.getElem?_set_ne (Ne.symm e2)]at hd'
    rcases hw.apart r1 r2 g1 g2 h1 h2 he (e1▸hnd.1) hd' with h3|⟨_,es,_,h3,_⟩
    ·exact .inl h3
    ·subst e1;exact absurd h3 (hnd.2 es)
  ·have q1:st'.store[r1]? =st.store[r1]? :=by rw[hst,List.getElem?_set_ne (Ne.symm e1)]
   rw[q1]at hd
   by_cases e2:r2=r
   ·rcases hw.apart r1 r2 g1 g2 h1 h2 he hd (e2▸hnd.1)with h3|⟨_,_,es,_,h3,_⟩
    ·exact .inl h3
    ·subst e2;exact absurd h3 (hnd.2 es)
   ·have q2:st'.store[r2]? =st.store[r2]? :=by rw[hst,List.getElem?_set_ne (Ne.symm e2)]
    rw[q2]at hd'
    exact(hw.apart r1 r2 g1 g2 h1 h2 he hd hd').imp id fun h=>h.to q1 q2
 ·intro x es hx
  by_cases e:x=r
  ·exact⟨g,e▸hr⟩
  ·rw[hst,List.getElem?_set_ne (Ne.symm e)]at hx
   exact hw.ways x es hx
 ·rintro _ rfl;exact⟨hlk,g,hr⟩
 ·intro r' _ hne;rw[hst,List.getElem?_set_ne (Ne.symm hne)]
 ·intro b _ hx;exact hold b fun e=>hx r g hr e.symm rfl
 ·intro r' g' h1 h2;rw[h1]at h2;cases h2
 ·intro b o v h1 h2;rw[h1]at h2;cases h2
theorem Later.grow{k:K}{st st':St}{w w':World}(hw:WR k st w){r:Nat}{g g':G}(hr:k.ρ r=some g)(hlk:st.locked r=false)(hnd:st.store[r]?≠some .dead∧∀es,st.store[r]?≠some (.way es))(o:O)(hg:g'.b=g.b)
  (J:Nat→Option Value) (hJ:∀o v v',k.I g.b o=some v→J o=some v'→v'=v) (hJ':∀o v,J o=some v→w'.cell? ⟨g.b,o,none⟩=some v)
  (hst:st'.store=st.store.set r .dead ++[o]) (hb:st'.base=st.base) (hp:st'.prot=st.prot) (hsz:w'.heap.size=w.heap.size) (hold:∀b,b≠g.b→w'.heap[b]? =w.heap[b]?)
  (hi:∀o v,k.I g.b o=some v→w'.cell? ⟨g.b,o,none⟩=some v) (ho:OR ((k.lay g.b J).put st.store.length g') g' w'.heap[g.b]? o) (he:Env w w':=by first|exact⟨rfl,rfl,rfl⟩|assumption):
  Later k ((k.lay g.b J).put st.store.length g') st st' w w':=by
 have hlt:=hw.lt hr
 have hrn:∀r g,k.ρ r=some g→r≠st.store.length:=fun r g h e=>by have:=hw.lt h;omega
 have hle:k.le ((k.lay g.b J).put st.store.length g'):=(am_8 hw hJ).trans
  ⟨fun r g' h=>by simp only[K.put];rw[if_neg (hrn r g' h)];exact h,fun _ _ _ h=>h⟩
 have hget:∀x,x<st.store.length→st'.store[x]? =(st.store.set r .dead)[x]? :=fun x hx=>by rw[hst,List.getElem?_append_left (by simpa using hx)]
 refine⟨fun x=>x=r,hle,⟨?_,?_,?_,?_,?_⟩,by omega,by rw[hst];simp,hb,hp,?_,?_,?_,?_,?_,he⟩
 ·intro b o v h
  simp only[K.lay,K.put]at h
  split at h
  ·rename_i e;subst e
   cases hj:J o with
   |none=>rw[hj]at h;exact hi o v h
   |some v'=>rw[hj]at h;cases h;exact hJ' o _ hj
  ·rename_i e;rw[cell?_congr (hold b e)];exact hw.imm b o v h
 ·intro r' g1 hr'
  simp only[K.put,K.lay]at hr'
  split at hr'
  ·rename_i e;subst e;cases hr'
   exact⟨o,by rw[hst];simp,by rw[hg];exact ho⟩
  ·by_cases e:r'=r
   ·subst e;rw[hr]at hr';cases hr'
    exact⟨.dead,by rw[hget _ hlt];simp[hlt], .dead⟩
   ·obtain⟨o',h1,h2⟩:=hw.obj r' g1 hr'
    refine⟨o',by rw[hget _ (hw.lt hr'),List.getElem?_set_ne (Ne.symm e)];exact h1,?_⟩
    by_cases eb:g1.b=g.b
    ·by_cases hd:o'= .dead
     ·subst hd;exact .dead
     ·rcases hw.apart r' r g1 g hr' hr eb (by rw[h1];intro h;cases h;exact hd rfl) hnd.1 with h3|⟨_,_,es,_,h3,_⟩
      ·exact absurd h3 e
      ·exact absurd h3 (hnd.2 es)
    ·rw[hold _ eb]
     refine h2.mono hle fun o'' h=> ?_
     simp only[K.lay,K.put]
     rw[if_neg eb];exact h
 ·intro r' g1 h
  simp only[K.put,K.lay]at h
  rw[hsz]
  split at h
  ·cases h;rw[hg];exact hw.bound r g hr
  ·exact hw.bound r' g1 h
 ·intro r1 r2 g1 g2 h1 h2 he hd hd'
  simp only[K.put,K.lay]at h1 h2
  have key:∀x gx,k.ρ x=some gx→gx.b=g.b→st'.store[x]?≠some .dead→False:=fun x gx hx hbx hdx=>by
   rw[hget _ (hw.lt hx)]at hdx
   by_cases e:x=r
   ·subst e;simp[hlt]at hdx
   ·rw[List.getElem?_set_ne (Ne.symm e)]at hdx
    rcases hw.apart x r gx g hx hr hbx hdx hnd.1 with h3|⟨_,_,es,_,h3,_⟩
    ·exact e h3
    ·exact hnd.2 es h3
  split at h1
  ·rename_i e1
   cases h1
   split at h2
   ·rename_i e2;exact .inl (e1.trans e2.symm)
   ·exact(key r2 g2 h2 (by rw[←he,hg]) hd').elim
  ·split at h2
   ·cases h2;exact(key r1 g1 h1 (by rw[he,hg]) hd).elim
   ·rw[hget _ (hw.lt h1)]at hd
    rw[hget _ (hw.lt h2)]at hd'
    have d1:r1≠r:=fun e=>by subst e;simp[hlt]at hd
    have d2:r2≠r:=fun e=>by subst e;simp[hlt]at hd'
    rw[List.getElem?_set_ne (Ne.symm d1)]at hd
    rw[List.getElem?_set_ne (Ne.symm d2)]at hd'
    exact(hw.apart r1 r2 g1 g2 h1 h2 he hd hd').imp id fun h=>h.to (by rw[hget _ (hw.lt h1),List.getElem?_set_ne (Ne.symm d1)]) (by rw[hget _ (hw.lt h2),List.getElem?_set_ne (Ne.symm d2)])
 ·intro x es hx
  simp only[K.put,K.lay]
  by_cases e:x=st.store.length
  ·exact⟨g',by rw[if_pos e]⟩
  ·rw[if_neg e]
   have hl:x<st.store.length:=by
    have:=(List.getElem?_eq_some_iff.1 hx).1
    rw[hst]at this;simp at this;omega
   rw[hget _ hl]at hx
   by_cases e2:x=r
   ·exact⟨g,e2▸hr⟩
   ·rw[List.getElem?_set_ne (Ne.symm e2)]at hx
    exact hw.ways x es hx
 ·rintro _ rfl;exact⟨hlk,g,hr⟩
 ·intro r' hl hne;rw[hget _ hl,List.getElem?_set_ne (Ne.symm hne)]
 ·intro b _ hx;exact hold b fun e=>hx r g hr e.symm rfl
 ·intro r' g1 h1 h2
  simp only[K.put,K.lay]at h2
  split at h2
  ·rename_i e;cases h2;exact⟨Nat.le_of_eq e.symm, .inr ⟨r,g,rfl,hr,hg.symm⟩⟩
  ·rw[h1]at h2;cases h2
 ·intro b o v h1 h2
  simp only[K.lay,K.put]at h2
  split at h2
  ·rename_i e;exact .inr ⟨r,g,rfl,hr,e.symm⟩
  ·rw[h1]at h2;cases h2
theorem B_0(r:Nat)(l:List O)(i:Nat):(killW r l)[i]? =(l[i]?).map fun o=>if r<i∧isWay (some o)=true then .dead else o:=by
 unfold killW;rw[List.getElem?_mapIdx]
theorem I_4(r:Nat)(l:List O):(killW r l).length=l.length:=by unfold killW;simp
theorem aH_5{o:O}(h:isWay (some o)=true):∃es,o= .way es:=by
 cases o<;>first|exact⟨_,rfl⟩|cases h
theorem Later.kill{k:K}{st:St}{w:World}(hw:WR k st w){r:Nat}(hlk:st.locked r=false)(hp:st.prot.all (fun i=>decide (i≤r)|| !isWay (st.store[i]?))=true):
  Later k k st {st with store:=killW r st.store} w w:=by
 have hne:∀(x:Nat),(killW r st.store)[x]?≠some .dead→(killW r st.store)[x]? =st.store[x]? :=fun x h=>by
  rw[B_0]at h⊢
  cases hx:st.store[x]? with
  |none=>rfl
  |some o=>
   rw[hx]at h
   simp only[Option.map_some]at h⊢
   split at h
   ·exact absurd rfl h
   ·rename_i hc;rw[if_neg hc]
 have hmem:∀(x:Nat) (o:O),st.store[x]? =some o→¬(r<x∧isWay (some o)=true)→(killW r st.store)[x]? =some o:=fun x o h hc=>by
  rw[B_0,h];simp only[Option.map_some];rw[if_neg hc]
 refine⟨fun x=>r<x∧isWay (st.store[x]?)=true, .refl k,⟨hw.imm,?_,hw.bound,?_,?_⟩,Nat.le_refl _,by simp only[I_4];exact Nat.le_refl _,rfl,rfl,?_,?_,fun _ _ _=>rfl,(fun r g h1 h2=>by rw[h1]at h2;cases h2),(fun b o v h1 h2=>by rw[h1]at h2;cases h2),rfl,rfl,rfl⟩
 ·intro x g hx
  obtain⟨o,h1,h2⟩:=hw.obj x g hx
  by_cases hc:r<x∧isWay (some o)=true
  ·refine⟨.dead,?_, .dead⟩
   show(killW r st.store)[x]? =_
   rw[B_0,h1];simp only[Option.map_some];rw[if_pos hc]
  ·exact⟨o,hmem x o h1 hc,h2⟩
 ·intro r1 r2 g1 g2 h1 h2 he hd hd'
  have q1:=hne r1 hd
  have q2:=hne r2 hd'
  exact(hw.apart r1 r2 g1 g2 h1 h2 he (by rw[←q1];exact hd) (by rw[←q2];exact hd')).imp id fun h=>h.to q1 q2
 ·intro x es hx
  have hx':(killW r st.store)[x]? =some (.way es):=hx
  rw[hne x (by rw[hx'];simp)]at hx'
  exact hw.ways x es hx'
 ·rintro x ⟨hlt,hx⟩
  refine⟨?_,?_⟩
  ·simp only[St.locked,Bool.or_eq_false_iff,decide_eq_false_iff_not]at hlk⊢
   refine⟨by omega,?_⟩
   simp only[List.contains_eq_mem,decide_eq_false_iff_not]
   intro hm
   have:=List.all_eq_true.1 hp x hm
   rw[hx]at this
   simp at this;omega
  ·cases ho:st.store[x]? with
   |none=>rw[ho]at hx;cases hx
   |some o=>
    rw[ho]at hx
    obtain⟨es,rfl⟩:=aH_5 hx
    exact hw.ways x es ho
 ·intro x hx hc
  show(killW r st.store)[x]? =_
  rw[B_0]
  cases ho:st.store[x]? with
  |none=>rfl
  |some o=>
   rw[ho]at hc
   simp only[Option.map_some]
   rw[if_neg hc]
theorem Later.wayGrow{k:K}{st st':St}{w w':World}(hw:WR k st w){r:Nat}{g:G}{es es2:List V}(hr:k.ρ r=some g)(hlk:st.locked r=false)(hes:st.store[r]? =some (.way es))
  (hmax:∀x es',st.store[x]? =some (.way es')→x≤r) (hlen:es.length≤es2.length)
  (hst:st'.store=st.store ++[.way es2]) (hb:st'.base=st.base) (hp:st'.prot=st.prot) (hsz:w'.heap.size=w.heap.size) (hold:∀b,b≠g.b→w'.heap[b]? =w.heap[b]?)
  (hblk:∀es',es'.length≤es.length→OR k g w.heap[g.b]? (.vec false es')→OR k g w'.heap[g.b]? (.vec false es'))
  (hi:∀o v,k.I g.b o=some v→w'.cell? ⟨g.b,o,none⟩=some v) (ho:OR (k.put st.store.length g) g w'.heap[g.b]? (.vec false es2)) (he:Env w w':=by first|exact⟨rfl,rfl,rfl⟩|assumption):
  Later k (k.put st.store.length g) st st' w w':=by
 have hlt:=hw.lt hr
 have hrn:∀r g,k.ρ r=some g→r≠st.store.length:=fun r g h e=>by have:=hw.lt h;omega
 have hle:k.le (k.put st.store.length g):=⟨fun r g' h=>by simp only[K.put];rw[if_neg (hrn r g' h)];exact h,fun _ _ _ h=>h⟩
 have hget:∀x,x<st.store.length→st'.store[x]? =st.store[x]? :=fun x hx=>by rw[hst,List.getElem?_append_left hx]
 have hlast:st'.store[st.store.length]? =some (.way es2):=by rw[hst];simp
 have key:∀x gx,k.ρ x=some gx→gx.b=g.b→st.store[x]?≠some .dead→gx=g∧∃es',st.store[x]? =some (.way es')∧es'.length≤es.length:=fun x gx hx hbx hdx=>by
  rcases hw.apart x r gx g hx hr hbx hdx (by rw[hes];simp)with h3|⟨h3,e1,e2,h4,h5,h6,h7⟩
  ·subst h3;rw[hr]at hx;cases hx;exact⟨rfl,es,hes,Nat.le_refl _⟩
  ·rw[hes]at h5;cases h5
   exact⟨h3,e1,h4,h6 (hmax x e1 h4)⟩
 refine⟨fun x=>x=r,hle,⟨?_,?_,?_,?_,?_⟩,by omega,by rw[hst];simp,hb,hp,?_,?_,?_,?_,?_,he⟩
 ·intro b o v h
  by_cases e:b=g.b
  ·subst e;exact hi o v h
  ·rw[cell?_congr (hold b e)];exact hw.imm b o v h
 ·intro x g1 hx
  simp only[K.put]at hx
  split at hx
  ·rename_i e;subst e;cases hx
   exact⟨_,hlast, .way _ ho⟩
  ·obtain⟨o',h1,h2⟩:=hw.obj x g1 hx
   refine⟨o',by rw[hget _ (hw.lt hx)];exact h1,?_⟩
   by_cases eb:g1.b=g.b
   ·by_cases hd:o'= .dead
    ·subst hd;exact .dead
    ·obtain⟨rfl,es',h3,h4⟩:=key x g1 hx eb (by rw[h1];intro h;cases h;exact hd rfl)
     rw[h1]at h3;cases h3
     cases h2 with|way _ hv=>exact OR.mono hle (fun _ h=>h) (.way _ (hblk es' h4 hv))
   ·rw[hold _ eb];exact h2.mono hle fun _ h=>h
 ·intro x g1 h
  simp only[K.put]at h
  rw[hsz]
  split at h
  ·cases h;exact hw.bound r g hr
  ·exact hw.bound x g1 h
 ·intro r1 r2 g1 g2 h1 h2 he hd hd'
  simp only[K.put]at h1 h2
  split at h1
  ·rename_i e1
   cases h1
   split at h2
   ·rename_i e2;exact .inl (e1.trans e2.symm)
   ·rw[hget _ (hw.lt h2)]at hd'
    obtain⟨rfl,es',h3,h4⟩:=key r2 g2 h2 he.symm hd'
    have:=hw.lt h2
    exact .inr ⟨rfl,es2,es',by rw[e1];exact hlast,by rw[hget _ this];exact h3,fun h=>by omega,fun _=>by omega⟩
  ·rw[hget _ (hw.lt h1)]at hd
   split at h2
   ·rename_i e2
    cases h2
    obtain⟨rfl,es',h3,h4⟩:=key r1 g1 h1 he hd
    have:=hw.lt h1
    exact .inr ⟨rfl,es',es2,by rw[hget _ this];exact h3,by rw[e2];exact hlast,fun _=>by omega,fun h=>by omega⟩
   ·rw[hget _ (hw.lt h2)]at hd'
    exact(hw.apart r1 r2 g1 g2 h1 h2 he hd hd').imp id fun h=>h.to (hget _ (hw.lt h1)) (hget _ (hw.lt h2))
 ·intro x e1 hx
  simp only[K.put]
  by_cases e:x=st.store.length
  ·exact⟨g,by rw[if_pos e]⟩
  ·rw[if_neg e]
   have hl:x<st.store.length:=by
    have:=(List.getElem?_eq_some_iff.1 hx).1
    rw[hst]at this;simp at this;omega
   rw[hget _ hl]at hx
   exact hw.ways x e1 hx
 ·rintro _ rfl;exact⟨hlk,g,hr⟩
 ·intro x hl _;exact hget _ hl
 ·intro b _ hx;exact hold b fun e=>hx r g hr e.symm rfl
 ·intro x g1 h1 h2
  simp only[K.put]at h2
  split at h2
  ·rename_i e;cases h2;exact⟨Nat.le_of_eq e.symm, .inr ⟨r,g,rfl,hr,rfl⟩⟩
  ·rw[h1]at h2;cases h2
 ·intro b o v h1 h2
  simp only[K.put]at h2
  rw[h1]at h2;cases h2
end Go.Abs
namespace Go.Abs
def extSem:Ext→Array Value→Sem Value
 | .indexByteString=>Extern.BytealgIndexByte.indexByte
 | .countString=>Extern.BytealgCount.count
structure Tab.Fits(T:Tab)(P:Program):Prop where
 ty:∀t ti,T.ty t=some ti→∃info z,P.info? t=some info∧info.size=ti.size∧info.bytes=ti.bytes∧info.zero=some z∧ofValue z=some ti.zero∧P.underlying t=some ti.und∧
  ti.agg=ti.und.isRow∧(ti.plain=true→P.eqGuardType P.depth t=false∧P.stoodInHeld t=false)
 zs:∀t ti,T.ty t=some ti→ti.zero.cells.length=ti.size
 fn:∀f F,T.fn f=some F→P.funcs[f]? =some F
 name:∀f F,T.fn f=some F→F.name≠ "runtime.NumGoroutine"
 ext:∀f e,T.ext f=some e→∀(args:Array Value) (w:World),(callFunc f args).run P w=((do pure (Next.value (←extSem e args))):Sem Next).run P w
 mixed:P.follows .mixedOrders=true
 glob:∀g cs,T.glob g=some cs→cs.all (below 0 deep)=true
def GlobOk(T:Tab)(k:K):Prop:=∀g cs,T.glob g=some cs→VR k (.iptr cs) (.pointer (some ⟨g,0,none⟩))
theorem GlobOk.mono{T:Tab}{k k':K}(hk:k.le k')(h:GlobOk T k):GlobOk T k':=fun g cs hg=>(h g cs hg).mono hk
structure FR(k:K)(fr:Fr)(a:Act):Prop where
 tmps:VRs k fr.tmps a.tmps.toList
 marks:∃gs:List G,(∀(i r:Nat),fr.marks[i]? =some r→∃g:G,gs[i]? =some g∧k.ρ r=some g)∧gs.length=fr.marks.length∧a.defers=gs.map fun g=>{target:= .collected g.b,args:= #[]}
theorem FR.mono{k k':K}(hk:k.le k'){fr:Fr}{a:Act}(h:FR k fr a):FR k' fr a:=
 ⟨h.tmps.mono hk,let⟨gs,h1,h2⟩:=h.marks;⟨gs,fun i r hi=>let⟨g,a,b⟩:=h1 i r hi;⟨g,a,hk.ρ _ _ b⟩,h2⟩⟩
theorem FR.put{k:K}{fr:Fr}{a:Act}{v:V}{x:Value}(h:FR k fr a)(d:Option Tmp)(hv:VR k v x):FR k (fr.put d v) (a.put d x):=by
 cases d with
 |none=>exact h
 |some d=>exact⟨by simpa[Fr.put,Act.put]using h.tmps.set d hv,h.marks⟩
theorem L_2(k:K):VR k (.tup []) undef:= .tup [] [] .nil
mutual
theorem z_7(k:K):∀(v:Value) (x:V),ofValue v=some x→VR k x v
 | .bool b,x,h=>by simp only[ofValue]at h;cases h;exact .bool b
 | .int kd n,x,h=>by simp only[ofValue]at h;cases h;exact .int kd n
 | .string s,x,h=>by simp only[ofValue]at h;cases h;exact .str s
 | .pointer none,x,h=>by simp only[ofValue]at h;cases h;exact .nilp
 | .pointer (some _),x,h=>by simp[ofValue]at h
 | .slice none 0 0,x,h=>by simp only[ofValue]at h;cases h;exact .list0 true (some true) none 0 (fun _=>rfl) (fun _=>rfl) (by simp)
 | .slice none 0 (_+1),x,h=>by simp[ofValue]at h
 | .slice none (_+1) _,x,h=>by simp[ofValue]at h
 | .slice (some _) _ _,x,h=>by simp[ofValue]at h
 | .map none,x,h=>by simp only[ofValue]at h;cases h;exact .nilmap
 | .map (some _),x,h=>by simp[ofValue]at h
 | .nilFunc,x,h=>by simp only[ofValue]at h;cases h;exact .nilfunc
 | .nilIface,x,h=>by simp only[ofValue]at h;cases h;exact .niliface
 | .iface t v,x,h=>by
  simp only[ofValue]at h
  cases e:ofValue v with
  |none=>rw[e]at h;cases h
  |some y=>rw[e]at h;cases h;exact .iface t y v (z_7 k v y e)
 | .agg ⟨cs⟩,x,h=>by
  simp only[ofValue]at h
  cases e:ofValues cs with
  |none=>rw[e]at h;cases h
  |some y=>rw[e]at h;cases h;exact .agg y cs (M_7 k cs y e)
 | .tuple ⟨cs⟩,x,h=>by
  simp only[ofValue]at h
  cases e:ofValues cs with
  |none=>rw[e]at h;cases h
  |some y=>rw[e]at h;cases h;exact .tup y cs (M_7 k cs y e)
 | .float ..,x,h=>by simp[ofValue]at h
 | .complex ..,x,h=>by simp[ofValue]at h
 | .chan _,x,h=>by simp[ofValue]at h
 | .func ..,x,h=>by simp[ofValue]at h
theorem M_7(k:K):∀(vs:List Value) (xs:List V),ofValues vs=some xs→VRs k xs vs
 |[],xs,h=>by simp only[ofValues]at h;cases h;exact .nil
 |v::vs,xs,h=>by
  simp only[ofValues]at h
  cases e:ofValue v with
  |none=>rw[e]at h;cases h
  |some y=>
   rw[e]at h
   simp only at h
   cases e':ofValues vs with
   |none=>rw[e']at h;cases h
   |some ys=>rw[e']at h;cases h;exact .cons (z_7 k v y e) (M_7 k vs ys e')
end
section
variable {T:Tab} {k:K} {fr:Fr} {a:Act}
theorem a_4(hg:GlobOk T k)(hf:FR k fr a){o:Operand}{v:V}(h:evArg T fr o=some v):VR k v (a.eval o):=by
 cases o with
 |tmp t=>
  simp only[evArg,Option.some.injEq]at h
  subst h
  simp only[Act.eval]
  rcases Nat.lt_or_ge t fr.tmps.length with hl|hl
  ·obtain⟨x,h1,h2⟩:=hf.tmps.get t _ (List.getElem?_eq_getElem hl)
   have e1:fr.tmps.getD t (.tup [])=fr.tmps[t]:=by simp[List.getD,hl]
   have e2:a.tmps.getD t undef=x:=by
    have:a.tmps[t]? =some x:=by simpa using h1
    simp[Array.getD_eq_getD_getElem?,this]
   rw[e1,e2];exact h2
  ·have hl':a.tmps.size≤t:=by have:=hf.tmps.length;simp at this;omega
   have e1:fr.tmps.getD t (.tup [])= .tup []:=by simp[List.getD,hl]
   have e2:a.tmps.getD t undef=undef:=by simp[Array.getD_eq_getD_getElem?,hl']
   rw[e1,e2];exact L_2 k
 |const c=>exact z_7 k c v h
 |global g=>
  simp only[evArg,Option.map_eq_some_iff]at h
  obtain⟨cs,h1,rfl⟩:=h
  exact hg g cs h1
 |func f=>simp only[evArg,Option.some.injEq]at h;subst h;exact .func f [] [] [] [] .nil .nil
theorem y_3(hg:GlobOk T k)(hf:FR k fr a):∀{os:List Operand} {vs:List V},evArgs T fr os=some vs→VRs k vs (os.map a.eval)
 |[],vs,h=>by simp only[evArgs]at h;cases h;exact .nil
 |o::os,vs,h=>by
  simp only[evArgs]at h
  cases e:evArg T fr o with
  |none=>rw[e]at h;cases h
  |some y=>
   rw[e]at h
   simp only at h
   cases e':evArgs T fr os with
   |none=>rw[e']at h;cases h
   |some ys=>rw[e']at h;cases h;exact .cons (a_4 hg hf e) (y_3 hg hf e')
end
end Go.Abs
namespace Go.Abs
def Gives(P:Program)(k:K)(w:World)(s:Sem Value)(v:V):Prop:=∃x,s.run P w= .ok x w∧VR k v x
section
variable {P:Program} {T:Tab} {k:K} {w:World}
theorem Tab.Fits.und'(hT:T.Fits P){t:TypeId}{d:TypeDesc}(h:T.und t=some d):P.underlying t=some d:=by
 simp only[Tab.und,Option.map_eq_some_iff]at h
 obtain⟨ti,h1,rfl⟩:=h
 obtain⟨_,_,_,_,_,_,_,h2,_⟩:=hT.ty t ti h1
 exact h2
theorem Tab.Fits.runUnd(hT:T.Fits P){t:TypeId}{d:TypeDesc}(h:T.und t=some d)(w:World):(underlying t).run P w= .ok d w:=run_underlying (hT.und' h) w
theorem Tab.Fits.runSize(hT:T.Fits P){t:TypeId}{n:Nat}(h:T.size t=some n)(w:World):(sizeOf t).run P w= .ok n w:=by
 simp only[Tab.size,Option.map_eq_some_iff]at h
 obtain⟨ti,h1,rfl⟩:=h
 obtain⟨info,_,h2,h3,_⟩:=hT.ty t ti h1
 simp[sizeOf,typeInfo,h2,h3]
theorem Tab.Fits.runAgg(hT:T.Fits P){t:TypeId}{ti:TI}(h:T.ty t=some ti)(w:World):(isAgg t).run P w= .ok ti.agg w:=by
 obtain⟨_,_,_,_,_,_,_,h2,h3,_⟩:=hT.ty t ti h
 simp only[isAgg,Sem.run_bind,run_underlying h2,Result.andThen_ok,h3]
 cases ti.und<;>rfl
theorem Tab.Fits.runZero(hT:T.Fits P){t:TypeId}{ti:TI}(h:T.ty t=some ti)(k:K)(w:World):Gives P k w (zeroValue t) ti.zero:=by
 obtain⟨info,z,h1,_,_,h4,h5,_⟩:=hT.ty t ti h
 exact⟨z,by simp[zeroValue,typeInfo,h1,h4],z_7 k z _ h5⟩
theorem r_8{t:TypeId}{ti:TI}(h:T.ty t=some ti):T.size t=some ti.size:=by simp[Tab.size,h]
theorem aP_1{t:TypeId}{ti:TI}(h:T.ty t=some ti):T.und t=some ti.und:=by simp[Tab.und,h]
theorem ac_1(hT:T.Fits P){t:TypeId}{ti:TI}(ht:T.ty t=some ti){cs:List V}{vs:List Value}(hv:VRs k cs vs){off:Nat}{v:V}(h:part ti cs off=some v):
  Gives P k w (Go.part t ⟨vs⟩ off) v:=by
 unfold part at h
 unfold Go.part Gives
 simp only[Sem.run_bind,hT.runAgg ht,Result.andThen_ok]
 cases ha:ti.agg with
 |true=>
  simp only[ha,if_true]at h
  split at h
  ·cases h
   refine⟨.agg ⟨(vs.drop off).take ti.size⟩,?_, .agg _ _ ((hv.drop off).take ti.size)⟩
   simp only[if_true,Sem.run_bind,hT.runSize (r_8 ht),Result.andThen_ok,Sem.run_pure]
   congr 2
   apply Array.ext'
   simp
  ·cases h
 |false=>
  simp only[ha,Bool.false_eq_true,if_false]at h
  obtain⟨x,h1,h2⟩:=hv.get off v h
  refine⟨x,?_,h2⟩
  have:(⟨vs⟩:Array Value)[off]? =some x:=by simpa using h1
  simp[this]
theorem aq_4{op:BinOp}{kd:IntKind}{a b:Int}{v:V}(h:intBin op kd a b=some v)(hs:op≠ .shl∧op≠ .shr)(t:TypeId):
  Gives P k w (binOp op t (.int kd a) (.int kd b)) v:=by
 unfold Gives
 cases op<;>simp only[intBin]at h<;>
  first
  |(cases h;exact⟨_,by simp only[binOp,ne_eq,not_true_eq_false,if_false];rfl,by constructor⟩)
  |(split at h;· cases h
    ·rename_i hy;cases h;exact⟨_,by simp[binOp,Op.intDiv,hy];rfl,by constructor⟩)
  |cases h
theorem L_7{op:BinOp}{kd ky:IntKind}{a b:Int}{v:V}(h:shiftBin op kd a b=some v)(t:TypeId):
  Gives P k w (binOp op t (.int kd a) (.int ky b)) v:=by
 unfold Gives
 unfold shiftBin at h
 split at h
 ·cases h
 ·rename_i hb
  cases op<;>simp only at h<;>first|cases h|skip
  all_goals(exact⟨_,by simp[binOp,Op.shift,hb];rfl,by constructor⟩)
theorem am_6{op:BinOp}{a b:ByteArray}{v:V}(h:strBin op a.data.toList b.data.toList=some v)(t:TypeId):
  Gives P k w (binOp op t (.string a) (.string b)) v:=by
 unfold Gives
 unfold strBin at h
 cases op<;>simp only at h<;>first|cases h|skip
 case add=>
  split at h
  ·rename_i hl
   cases h
   have h1:¬(((a.size+b.size:Nat):Int)>IntKind.i64.max):=by
    have e1:a.size=a.data.toList.length:=rfl
    have e2:b.size=b.data.toList.length:=rfl
    have:IntKind.i64.max=9223372036854775807:=rfl
    rw[this];omega
   refine⟨.string (a ++b),by simp only[binOp,Op.stringOp];rw[if_neg h1];rfl,?_⟩
   have:(a ++b).data.toList=a.data.toList ++b.data.toList:=by simp
   rw[←this];exact .str _
  ·cases h
 all_goals(exact⟨_,by simp only[binOp,Op.stringOp,ByteArray.toList_eq];rfl,by constructor⟩)
end
end Go.Abs
namespace Go.Abs
section
variable {P:Program} {T:Tab} {k:K} {w:World}
theorem K_9{xs:List V}{vs:List Value}(h:VRs k xs vs){i:Nat}{v:V}(hv:xs[i]? =some v):∃x,(⟨vs⟩:Array Value)[i]? =some x∧VR k v x:=by
 obtain⟨x,h1,h2⟩:=h.get i v hv
 exact⟨x,by simpa using h1,h2⟩
theorem x_6(hT:T.Fits P){t:TypeId}{d:TypeDesc}(hd:T.und t=some d)(hr:d.isRow=false){vs:List Value}{i:Nat}{x:Value}(hx:(⟨vs⟩:Array Value)[i]? =some x):
  (Go.part t ⟨vs⟩ i).run P w= .ok x w:=by
 simp only[Tab.und,Option.map_eq_some_iff]at hd
 obtain⟨ti,h1,rfl⟩:=hd
 have h2:=hT.runAgg h1 w
 obtain⟨_,_,_,_,_,_,_,_,h3,_⟩:=hT.ty t ti h1
 unfold Go.part
 simp only[Sem.run_bind,h2,Result.andThen_ok,h3,hr,Bool.false_eq_true,if_false,hx,Sem.run_pure]
theorem y_8(hT:T.Fits P)(d:Nat){xs ys:List V}{vs us:List Value}(hx:VRs k xs vs)(hy:VRs k ys us):∀{fs:List Field} {b:Bool},eqFields T xs ys fs=some b→
  (Op.eqFields (d+1) ⟨vs⟩ ⟨us⟩ fs).run P w= .ok b w
 |[],b,h=>by simp only[eqFields,Option.some.injEq]at h;subst h;rfl
 |f::fs,b,h=>by
  unfold eqFields at h
  unfold Op.eqFields
  by_cases hn:f.name= "_"
  ·rw[if_pos hn]at h
   rw[if_neg (by simpa using hn)]
   exact y_8 hT d hx hy h
  ·rw[if_neg hn]at h
   rw[if_pos hn]
   split at h
   ·rename_i kd k1 a k2 b' e1 e2 e3
    obtain⟨x,hx1,hx2⟩:=K_9 hx e2
    obtain⟨y,hy1,hy2⟩:=K_9 hy e3
    cases hx2;cases hy2
    split at h
    ·rename_i ek;subst ek
     simp only[Sem.run_bind,x_6 hT e1 rfl hx1,x_6 hT e1 rfl hy1,Result.andThen_ok,run_equalIn_int w d _ _ kd _ _ (hT.und' e1)]
     by_cases hab:(a==b')=true
     ·rw[if_pos hab]at h;simp only[hab,Bool.not_true,Bool.false_eq_true,if_false];exact y_8 hT d hx hy h
     ·rw[if_neg hab]at h;cases h;simp[hab]
    ·cases h
   ·rename_i a b' e1 e2 e3
    obtain⟨x,hx1,hx2⟩:=K_9 hx e2
    obtain⟨y,hy1,hy2⟩:=K_9 hy e3
    cases hx2 with|str sa=>cases hy2 with|str sb=>
    simp only[Sem.run_bind,x_6 hT e1 rfl hx1,x_6 hT e1 rfl hy1,Result.andThen_ok,run_equalIn_string w d _ _ _ (hT.und' e1),ByteArray.toList_eq]
    by_cases hab:(sa.data.toList==sb.data.toList)=true
    ·rw[if_pos hab]at h;simp only[hab,Bool.not_true,Bool.false_eq_true,if_false];exact y_8 hT d hx hy h
    ·rw[if_neg hab]at h;cases h;simp[hab]
   ·rename_i a b' e1 e2 e3
    obtain⟨x,hx1,hx2⟩:=K_9 hx e2
    obtain⟨y,hy1,hy2⟩:=K_9 hy e3
    cases hx2;cases hy2
    simp only[Sem.run_bind,x_6 hT e1 rfl hx1,x_6 hT e1 rfl hy1,Result.andThen_ok,run_equalIn_bool' w d _ _ _ (hT.und' e1)]
    by_cases hab:(a==b')=true
    ·rw[if_pos hab]at h;simp only[hab,Bool.not_true,Bool.false_eq_true,if_false];exact y_8 hT d hx hy h
    ·rw[if_neg hab]at h;cases h;simp[hab]
   ·cases h
set_option maxHeartbeats 2000000 in
theorem aJ_(hT:T.Fits P)(d:Nat){t:TypeId}{x y:V}{X Y:Value}{b:Bool}(hx:VR k x X)(hy:VR k y Y)(h:eqVal T t x y=some b):
  (Op.equalIn (d+2) t X Y).run P w= .ok b w:=by
 unfold eqVal at h
 cases ht:T.ty t with
 |none=>rw[ht]at h;cases h
 |some ti=>
  rw[ht]at h
  simp only at h
  have hu:P.underlying t=some ti.und:=hT.und' (aP_1 ht)
  split at h
  all_goals(first|(cases h;done)|skip)
  all_goals(rename_i hd;try rw[hd]at hu)
  case h_9=>
   cases h
   cases hy with
   |list0 _ _ base _ _ h1 _=>have:=h1 rfl;subst this;cases hx;(simp only[Op.equalIn,Sem.run_bind,run_underlying hu,Result.andThen_ok];rfl)
   |list1 _ _ _ _ _ _ _ _ _ _ _ _ _ _ hn=>exact absurd rfl hn
  case h_10=>
   cases h
   cases hy with
   |list0 _ _ base _ _ h1 _=>
    have:=h1 rfl;subst this
    cases hx with
    |list0 _ _ base' _ _ h1' h2'=>
     cases base' with
     |none=>
      cases b with
      |true=>(simp only[Op.equalIn,Sem.run_bind,run_underlying hu,Result.andThen_ok];rfl)
      |false=>exact absurd rfl (h2' rfl)
     |some a=>
      cases b with
      |true=>have:=h1' rfl;cases this
      |false=>(simp only[Op.equalIn,Sem.run_bind,run_underlying hu,Result.andThen_ok];rfl)
   |list1 _ _ _ _ _ _ _ _ _ _ _ _ _ _ hn=>exact absurd rfl hn
  case h_11=>
   cases h
   cases hy with
   |list0 _ _ base _ _ h1 _=>have:=h1 rfl;subst this;cases hx;(simp only[Op.equalIn,Sem.run_bind,run_underlying hu,Result.andThen_ok];rfl)
   |list1 _ _ _ _ _ _ _ _ _ _ _ _ _ _ hn=>exact absurd rfl hn
  case h_21=>
   split at h
   ·rename_i hne;cases h;cases hx;cases hy;simp[Op.equalIn,run_underlying hu,hne]
   ·cases h
  case h_22=>
   split at h
   ·rename_i hp
    cases hx with|agg _ vs hvs=>cases hy with|agg _ us hus=>
    obtain⟨_,_,_,_,_,_,_,_,_,hpl⟩:=hT.ty t ti ht
    obtain⟨_,hst⟩:=hpl hp
    have hf:P.underlying t=some (.struct (P.fieldsOf t)):=by simp[Program.fieldsOf,hu]
    have hfs:∀fs,P.underlying t=some (.struct fs)→P.fieldsOf t=fs:=fun fs e=>by simp[Program.fieldsOf,e]
    rw[run_equalIn_struct w (d+1) t _ _ hf hst,hfs _ hu]
    exact y_8 hT d hvs hus h
   ·cases h
  all_goals(cases h;cases hx<;>cases hy<;>(simp only[Op.equalIn,Sem.run_bind,run_underlying hu,Result.andThen_ok];rfl))
theorem ak_(hT:T.Fits P){t:TypeId}{x y:V}{X Y:Value}{b:Bool}(hx:VR k x X)(hy:VR k y Y)(h:eqVal T t x y=some b):
  (Op.equal t X Y).run P w= .ok b w:=aJ_ hT 9998 hx hy h
end
end Go.Abs
namespace Go.Abs
section
variable {P:Program} {T:Tab} {k:K} {w:World}
theorem bb_8(s:ByteArray)(i:Nat):s[i]? =s.data.toList[i]? :=by
 rcases Nat.lt_or_ge i s.size with h|h
 ·rw[getElem?_pos s i h,List.getElem?_eq_getElem (by simpa using h)];rfl
 ·rw[getElem?_neg s i (by omega),List.getElem?_eq_none (by simpa using h)]
theorem ax_8(hT:T.Fits P){op:BinOp}{t:TypeId}{x y:V}{X Y:Value}{v:V}(hx:VR k x X)(hy:VR k y Y)(h:evBin T op t x y=some v):
  Gives P k w (binOp op t X Y) v:=by
 unfold evBin at h
 split at h
 ·cases hx;cases hy;exact L_7 h t
 ·cases hx;cases hy;exact L_7 h t
 ·rename_i h1 h2
  cases hx;cases hy
  split at h
  ·rename_i e;subst e;exact aq_4 h ⟨h1,h2⟩ t
  ·cases h
 ·cases hx;cases hy;exact am_6 h t
 ·rename_i h3 h4
  simp only[Option.map_eq_some_iff]at h
  obtain⟨b,h1,rfl⟩:=h
  have:=ak_ (w:=w) hT hx hy h1
  refine⟨.bool b,?_, .bool b⟩
  cases hx<;>cases hy<;>first
   |(simp only[binOp,Sem.run_bind,this,Result.andThen_ok,Sem.run_pure];done)
   |exact(h3 _ _ _ _ rfl rfl).elim
   |exact(h4 _ _ rfl rfl).elim
 ·rename_i h3 h4
  simp only[Option.map_eq_some_iff]at h
  obtain⟨b,h1,rfl⟩:=h
  have:=ak_ (w:=w) hT hx hy h1
  refine⟨.bool (!b),?_, .bool _⟩
  cases hx<;>cases hy<;>first
   |(simp only[binOp,Sem.run_bind,this,Result.andThen_ok,Sem.run_pure];done)
   |exact(h3 _ _ _ _ rfl rfl).elim
   |exact(h4 _ _ rfl rfl).elim
 ·cases h
theorem ay_5(hT:T.Fits P){op:BinOp}{t:TypeId}{x y:V}{X Y:Value}{v:V}(hx:VR k x X)(hy:VR k y Y)(h:evBin T op t x y=some v)(ox oy:Operand)
  (hn:x= .niliface→y= .niliface→(isConst ox||isConst oy)=true):(eqGuard op t ox oy X Y).run P w= .ok () w:=by
 by_cases ho:op= .eql∨op= .neq
 ·cases hx<;>cases hy<;>first
   |(rcases ho with rfl|rfl<;>rfl)
   |skip
  ·
   have:=hn rfl rfl
   rcases ho with rfl|rfl<;>(simp only[eqGuard];cases ox<;>cases oy<;>simp_all[isConst])
  ·
   rename_i cs vs h1 ds us h2
   have hp:P.eqGuardType P.depth t=false:=by
    have key:∀b,eqVal T t (.agg cs) (.agg ds)=some b→P.eqGuardType P.depth t=false:=fun b hb=>by
     unfold eqVal at hb
     cases ht:T.ty t with
     |none=>rw[ht]at hb;cases hb
     |some ti=>
      rw[ht]at hb
      simp only at hb
      split at hb<;>first|cases hb|skip
      all_goals first
       |(split at hb
         ·rename_i hp
          obtain⟨_,_,_,_,_,_,_,_,_,hpl⟩:=hT.ty t ti ht
          exact(hpl hp).1
         ·cases hb)
       |(rename_i e1 e2;cases e1)
    rcases ho with rfl|rfl<;>simp only[evBin,Option.map_eq_some_iff]at h<;>(obtain⟨b,hb,_⟩:=h;exact key b hb)
   exact run_eqGuard_agg w op t ox oy _ _ hp
 ·cases op<;>simp_all[eqGuard]
theorem aJ_6{op:UnOp}{x:V}{X:Value}{v:V}(hx:VR k x X)(h:evUn op x=some v):Gives P k w (Op.unary op X) v:=by
 unfold evUn at h
 split at h
 ·cases hx;cases h;exact⟨_,rfl, .int _ _⟩
 ·cases hx
  simp only[intBin]at h
  cases h;exact⟨_,rfl, .int _ _⟩
 ·cases hx;cases h;exact⟨_,rfl, .bool _⟩
 ·cases h
theorem aq_3(hT:T.Fits P){src dst:TypeId}{x:V}{X:Value}{v:V}(hs:(T.und src).isSome=true)(hx:VR k x X)(h:evConv T dst x=some v):Gives P k w (convert src dst X) v:=by
 obtain⟨ds,hs⟩:=Option.isSome_iff_exists.1 hs
 unfold evConv at h
 split at h
 ·rename_i hd
  cases hx;cases h
  refine⟨_,?_, .int _ _⟩
  simp only[convert,Sem.run_bind,hT.runUnd hs,hT.runUnd hd,Result.andThen_ok]
  cases ds<;>rfl
 ·rename_i hd
  cases hx;cases h
  refine⟨_,?_, .str _⟩
  simp only[convert,Sem.run_bind,hT.runUnd hs,hT.runUnd hd,Result.andThen_ok]
  cases ds<;>rfl
 ·cases h
end
end Go.Abs
namespace Go.Abs
section
variable {P:Program} {T:Tab} {k:K} {w:World}
theorem I_7{x:V}{X:Value}{n:Int}(hx:VR k x X)(h:asIdx x=some n):∃kd,X= .int kd n:=by
 cases hx<;>simp[asIdx]at h
 subst h;exact⟨_,rfl⟩
theorem l_3(kd:IntKind)(n:Int):(asIntOf (.int kd n)).run P w= .ok (kd,n) w:=rfl
def OVR(k:K):Option V→Option Value→Prop
 |none,none=>True
 |some v,some x=>VR k v x
 |_,_=>False
theorem O_1{d m m':Nat}(hm:m≤m'){x:Option V}{X:Option Value}(hx:OVR k x X){n:Nat}(h:bound d m x=some n)(c:BoundsCode)(hd:d≤m):
  (match X with|some v=>Instr.sliceBound v m' c|none=>(pure d:Sem Nat)).run P w= .ok n w∧n≤m:=by
 unfold bound at h
 match x,X,hx with
 |none,none,_=>cases h;exact⟨rfl,hd⟩
 |some v,some X,hx=>
  simp only at h
  split at h
  ·rename_i i e
   obtain⟨kd,rfl⟩:=I_7 hx e
   split at h
   ·rename_i hi;cases h
    exact⟨run_sliceBound w kd i m' c hi.1 (by omega),by omega⟩
   ·cases h
  ·cases h
theorem Q_7(isSlice:Bool){len cap cap':Nat}(hcap:cap≤cap')(hlc:len≤cap){lo hi:Option V}{Lo Hi:Option Value}{l h:Nat}
  (hlo:OVR k lo Lo) (hhi:OVR k hi Hi) (hb:bounds len cap lo hi=some (l,h)):
  (Instr.sliceBounds isSlice len cap' Lo Hi none).run P w= .ok (l,h,cap') w∧l≤h∧h≤cap:=by
 unfold bounds at hb
 cases e1:bound len cap hi with
 |none=>rw[e1]at hb;cases hb
 |some hh=>
  rw[e1]at hb
  simp only at hb
  cases e2:bound 0 hh lo with
  |none=>rw[e2]at hb;cases hb
  |some ll=>
   rw[e2]at hb;cases hb
   obtain⟨h1,h1'⟩:=O_1 (P:=P) (w:=w) hcap hhi e1 (if isSlice then .sliceAcap else .sliceAlen) hlc
   obtain⟨h2,h2'⟩:=O_1 (P:=P) (w:=w) (Nat.le_refl _) hlo e2 .sliceB (Nat.zero_le _)
   refine⟨?_,h2',h1'⟩
   unfold Instr.sliceBounds
   simp only[Sem.run_bind,Sem.run_pure,Result.andThen_ok,Option.isSome_none,Bool.false_eq_true,if_false]
   cases Hi with
   |none=>
    simp only[Sem.run_pure,Result.ok.injEq,and_true]at h1
    subst h1
    cases Lo with
    |none=>
     simp only[Sem.run_pure,Result.ok.injEq,and_true]at h2
     subst h2
     simp only[Sem.run_bind,Sem.run_pure,Result.andThen_ok]
    |some v=>simp only at h2;simp only[Sem.run_bind,Sem.run_pure,Result.andThen_ok,h2]
   |some u=>
    simp only at h1
    cases Lo with
    |none=>
     simp only[Sem.run_pure,Result.ok.injEq,and_true]at h2
     subst h2
     simp only[Sem.run_bind,Sem.run_pure,Result.andThen_ok,h1]
    |some v=>simp only at h2;simp only[Sem.run_bind,Sem.run_pure,Result.andThen_ok,h1,h2]
theorem V_9{len cap':Nat}(hcap:len≤cap'){lo hi:Option V}{Lo:Option Value}{Hi Mx:Value}{l h:Nat}{kd kd':IntKind}{n n':Int}
  (hlo:OVR k lo Lo) (hhi:OVR k hi (some Hi)) (hH:Hi= .int kd' n') (hM:Mx= .int kd n) (hn:n=h) (hb:bounds len len lo hi=some (l,h)):
  (Instr.sliceBounds true len cap' Lo (some Hi) (some Mx)).run P w= .ok (l,h,h) w∧l≤h∧h≤len:=by
 unfold bounds at hb
 cases e1:bound len len hi with
 |none=>rw[e1]at hb;cases hb
 |some hh=>
  rw[e1]at hb
  simp only at hb
  cases e2:bound 0 hh lo with
  |none=>rw[e2]at hb;cases hb
  |some ll=>
   rw[e2]at hb;cases hb
   obtain⟨_,h1'⟩:=O_1 (P:=P) (w:=w) (Nat.le_refl len) hhi e1 .index (Nat.le_refl _)
   obtain⟨h2,h2'⟩:=O_1 (P:=P) (w:=w) (Nat.le_refl _) hlo e2 .slice3C (Nat.zero_le _)
   have hn':n'=h:=by
    unfold bound at e1
    cases hi with
    |none=>simp[OVR]at hhi
    |some v=>
     subst hH
     cases hhi
     simp only[asIdx]at e1
     split at e1
     ·cases e1;omega
     ·cases e1
   refine⟨?_,h2',h1'⟩
   subst hM;subst hH;subst hn;subst hn'
   unfold Instr.sliceBounds
   simp only[Sem.run_bind,Option.isSome_some,if_true,run_sliceBound w kd h cap' .slice3Acap (by omega) (by omega),Result.andThen_ok,Int.toNat_natCast,run_sliceBound w kd' h h .slice3B (by omega) (by omega)]
   cases Lo with
   |none=>simp only[Sem.run_pure,Result.ok.injEq,and_true]at h2⊢;subst h2;rfl
   |some v=>simp only[Sem.run_bind]at h2⊢;rw[h2];rfl
theorem Y_5(s:ByteArray)(l h:Nat):(s.extract l h).data.toList=(s.data.toList.drop l).take (h-l):=by
 simp[ByteArray.data_extract]
theorem t_3(hT:T.Fits P){t e:TypeId}{sz:Nat}(ht:T.und t=some (.slice e))(hs:T.size e=some sz){a:Option Addr}{len cap:Nat}{Lo Hi Mx:Option Value}{l h m:Nat}
  (hb:(Instr.sliceBounds true len cap Lo Hi Mx).run P w= .ok (l,h,m) w):
  (Instr.sliceAt t (.slice a len cap) Lo Hi Mx).run P w= .ok (.slice (if m=l then a else a.map (·.add (l * sz))) (h-l) (m-l)) w:=by
 simp only[Instr.sliceAt,Instr.slice,Sem.run_bind,hT.runUnd ht,Result.andThen_ok,hb,hT.runSize hs,Sem.run_pure]
theorem y_4{s:Nat}:∀(xs:List V),(∀x∈xs,x.cells.length=s)→∀l,(xs.drop l).flatMap V.cells=(xs.flatMap V.cells).drop (l * s)
 |[],_,l=>by simp
 |x::xs,h,0=>by simp
 |x::xs,h,l+1=>by
  have hx:=h x (by simp)
  rw[List.drop_succ_cons,y_4 xs (fun y hy=>h y (by simp[hy])) l,List.flatMap_cons,List.drop_append,hx]
  have e:(l+1)* s-s=l * s:=by rw[Nat.succ_mul];omega
  have e':x.cells.drop ((l+1)* s)=[]:=List.drop_eq_nil_of_le (by rw[hx,Nat.succ_mul];omega)
  rw[e,e'];rfl
theorem b_6{s:Nat}:∀(xs:List V),(∀x∈xs,x.cells.length=s)→(xs.flatMap V.cells).length=xs.length * s
 |[],_=>by simp
 |x::xs,h=>by
  rw[List.flatMap_cons,List.length_append,h x (by simp),b_6 xs (fun y hy=>h y (by simp[hy])),List.length_cons,Nat.succ_mul];omega
theorem I_2{s:Nat}:∀(xs:List V),(∀x∈xs,x.cells.length=s)→∀n,(xs.take n).flatMap V.cells=(xs.flatMap V.cells).take (n * s)
 |[],_,n=>by simp
 |x::xs,h,0=>by simp
 |x::xs,h,n+1=>by
  have hx:=h x (by simp)
  rw[List.take_succ_cons,List.flatMap_cons,I_2 xs (fun y hy=>h y (by simp[hy])) n,List.flatMap_cons,List.take_append,hx]
  have e:(n+1)* s-s=n * s:=by rw[Nat.succ_mul];omega
  have e':x.cells.take ((n+1)* s)=x.cells:=List.take_of_length_le (by rw[hx,Nat.succ_mul];omega)
  rw[e,e']
theorem aS_1{xs:List V}{vs:List Value}{b o s l h:Nat}(hv:VRs k (xs.flatMap V.cells) vs)(hI:∀(j:Nat) (v:Value),vs[j]? =some v→k.I b (o+j)=some v)
  (hs:∀x∈xs,x.cells.length=s) (hlh:l≤h) (hh:h≤xs.length) (full:Bool) (nl:Option Bool) (base:Option Addr) (cap:Nat) (hcap:h-l≤cap)
  (hf:full=true→cap=h-l) (h1:nl=some true→base=none) (h2:nl=some false→base≠none) (hbase:l<h→base=some ⟨b,o+l * s,none⟩):
  VR k (.list full nl ((xs.drop l).take (h-l))) (.slice base (h-l) cap):=by
 have hlen:((xs.drop l).take (h-l)).length=h-l:=by simp;omega
 have hmem:∀y∈(xs.drop l).take (h-l),y.cells.length=s:=fun y hy=>hs y (List.mem_of_mem_drop (List.mem_of_mem_take hy))
 have hflat:((xs.drop l).take (h-l)).flatMap V.cells=((xs.flatMap V.cells).drop (l * s)).take ((h-l)* s):=by
  rw[I_2 _ (fun x hx=>hs x (List.mem_of_mem_drop hx)),y_4 _ hs]
 have hvs:VRs k (((xs.drop l).take (h-l)).flatMap V.cells) ((vs.drop (l * s)).take ((h-l)* s)):=by rw[hflat];exact(hv.drop _).take _
 generalize hys:(xs.drop l).take (h-l)=ys at *
 cases ys with
 |nil=>
  simp at hlen
  rw[←hlen]
  exact .list0 full nl base cap (fun e=>by rw[hf e,←hlen]) h1 h2
 |cons y ys=>
  simp only[List.length_cons]at hlen
  have hb:=hbase (by omega)
  subst hb
  rw[←hlen]
  refine .list1 full nl y ys _ b (o+l * s) s cap hvs ?_ hmem (fun e=>by rw[hf e];omega) (by omega) fun e=>by have:=h1 e;cases this
  intro j v hj
  rw[List.getElem?_take]at hj
  split at hj
  ·rw[List.getElem?_drop]at hj
   have:=hI _ _ hj
   rw[show o+l * s+j=o+(l * s+j)from by omega];exact this
  ·cases hj
end
end Go.Abs
namespace Go.Abs
section
variable {P:Program} {T:Tab} {k:K} {w:World}
theorem K_4{full:Bool}{nl:Option Bool}{xs:List V}{X:Value}(h:VR k (.list full nl xs) X):∃base cap,X= .slice base xs.length cap∧xs.length≤cap∧(full=true→cap=xs.length)∧
  (nl=some true→base=none)∧(nl=some false→base≠none)∧(xs≠[]→∃b o s vs,base=some ⟨b,o,none⟩∧VRs k (xs.flatMap V.cells) vs∧(∀(j:Nat) (v:Value),vs[j]? =some v→k.I b (o+j)=some v)∧∀y∈xs,y.cells.length=s):=by
 cases h with
 |list0 _ _ base cap hf h1 h2=>exact⟨base,cap,rfl,Nat.zero_le _,hf,h1,h2,fun h=>absurd rfl h⟩
 |list1 _ _ x xs vs b o s cap hv hI hs hf hc hn=>
  exact⟨some ⟨b,o,none⟩,cap,rfl,hc,hf,fun e=>absurd e hn,fun _=>by simp,fun _=>⟨b,o,s,vs,rfl,hv,hI,hs⟩⟩
theorem av_8{sz s:Nat}{xs:List V}(h:sizeFits sz xs=true)(hs:∀y∈xs,y.cells.length=s)(hne:xs≠[]):s=sz:=by
 cases xs with
 |nil=>exact absurd rfl hne
 |cons x xs=>simp only[sizeFits,beq_iff_eq]at h;rw[←hs x (by simp)];exact h
theorem aA_{nl:Option Bool}{xs:List V}{base:Option Addr}{cap sz l h m:Nat}{full':Bool}(hc:xs.length≤cap)
  (h1:nl=some true→base=none) (h2:nl=some false→base≠none) (h3:xs≠[]→∃b o s vs,base=some ⟨b,o,none⟩∧VRs k (xs.flatMap V.cells) vs∧(∀(j:Nat) (v:Value),vs[j]? =some v→k.I b (o+j)=some v)∧∀y∈xs,y.cells.length=s)
  (hz:sizeFits sz xs=true) (hl:l≤h) (hh:h≤xs.length) (hm:h≤m) (hf:full'=true→m=h):
  VR k (.list full' nl ((xs.drop l).take (h-l))) (.slice (if m=l then base else base.map (·.add (l * sz))) (h-l) (m-l)):=by
 have hb1:nl=some true→(if m=l then base else base.map (·.add (l * sz)))=none:=fun e=>by rw[h1 e];split<;>rfl
 have hb2:nl=some false→(if m=l then base else base.map (·.add (l * sz)))≠none:=fun e=>by
  have:=h2 e
  cases base with
  |none=>exact absurd rfl this
  |some a=>split<;>simp
 by_cases hne:xs=[]
 ·subst hne
  simp only[List.length_nil,Nat.le_zero]at hh
  subst hh
  have:l=0:=by omega
  subst this
  exact .list0 full' nl _ _ (fun e=>by rw[hf e]) hb1 hb2
 ·obtain⟨b,o,s,vs,rfl,hv,hI,hs⟩:=h3 hne
  have hsz:=av_8 hz hs hne
  subst hsz
  refine aS_1 hv hI hs hl hh full' nl _ _ (by omega) (fun e=>by rw[hf e]) hb1 hb2 fun hlt=> ?_
  rw[if_neg (by omega)]
  simp only[Option.map_some,Addr.add_mid]
theorem ai_8(hT:T.Fits P){t:TypeId}{x:V}{X:Value}{lo hi mx:Option V}{Lo Hi Mx:Option Value}{v:V}(hx:VR k x X)(hlo:OVR k lo Lo)(hhi:OVR k hi Hi)(hmx:OVR k mx Mx)
  (h:evSlice T t x lo hi mx=some v):Gives P k w (Instr.sliceAt t X Lo Hi Mx) v:=by
 unfold evSlice at h
 split at h
 ·
  rename_i ht
  split at h
  ·cases hx with|str s=>
   match Mx,hmx with
   |none,_=>
   split at h
   ·rename_i l h' hb
    cases h
    obtain⟨hr,h1,h2⟩:=Q_7 (P:=P) (w:=w) false (Nat.le_refl _) (Nat.le_refl _) hlo hhi hb
    refine⟨.string (s.extract l h'),?_,?_⟩
    ·have e:s.data.toList.length=s.size:=rfl
     rw[e]at hr
     simp only[Instr.sliceAt,Instr.slice,Sem.run_bind,hT.runUnd ht,Result.andThen_ok,Option.isSome_none,Bool.false_eq_true,if_false,hr,Sem.run_pure]
    ·rw[←Y_5];exact .str _
   ·cases h
  ·cases h
 ·rename_i e ht
  cases hs:T.size e with
  |none=>rw[hs]at h;cases h
  |some sz=>
   rw[hs]at h
   simp only at h
   split at h
   ·
    rename_i full nl xs
    obtain⟨base,cap,rfl,hc,hf,h1,h2,h3⟩:=K_4 hx
    unfold sliceList at h
    split at h
    ·rename_i hz
     cases hb:bounds xs.length xs.length lo hi with
     |none=>rw[hb]at h;cases h
     |some lh=>
      obtain⟨l,h'⟩:=lh
      rw[hb]at h
      simp only at h
      cases mx with
      |none=>
       cases h
       match Mx,hmx with
       |none,_=>
       obtain⟨hr,hl,hh⟩:=Q_7 (P:=P) (w:=w) true hc (Nat.le_refl _) hlo hhi hb
       exact⟨_,t_3 hT ht hs hr,aA_ hc h1 h2 h3 hz hl hh (by omega) fun e=>by simp at e;rw[hf e.1];exact e.2.symm⟩
      |some m=>
       match Mx,hmx with
       |some M,hM=>
       simp only at h
       split at h
       ·rename_i n hv e1
        split at h
        ·rename_i en
         cases h
         obtain⟨kd,rfl⟩:=I_7 hM e1
         match Hi,hhi with
         |some H,hhi=>
         have hH:∃kd' n',H= .int kd' n':=by
          unfold bounds at hb
          cases e2:bound xs.length xs.length (some hv)with
          |none=>rw[e2]at hb;cases hb
          |some q=>
           unfold bound at e2
           simp only at e2
           cases e3:asIdx hv with
           |none=>rw[e3]at e2;cases e2
           |some n'=>obtain⟨kd',hk⟩:=I_7 hhi e3;exact⟨kd',n',hk⟩
         obtain⟨kd',n',hH⟩:=hH
         obtain⟨hr,hl,hh⟩:=V_9 (P:=P) (w:=w) hc hlo hhi hH rfl en hb
         exact⟨_,t_3 hT ht hs hr,aA_ hc h1 h2 h3 hz hl hh (Nat.le_refl _) fun _=>rfl⟩
        ·cases h
       ·cases h
    ·cases h
   ·
    rename_i r s off len
    cases hx with|slice _ _ _ _ g a hg hgs hl ha=>
    unfold sliceVec at h
    split at h
    ·rename_i hz
     subst hz
     have hc:len≤g.cap-off:=by omega
     cases hb:bounds len len lo hi with
     |none=>rw[hb]at h;cases h
     |some lh=>
      obtain⟨l,h'⟩:=lh
      rw[hb]at h
      simp only at h
      cases mx with
      |none=>
       cases h
       match Mx,hmx with
       |none,_=>
       obtain⟨hr,hl1,hh⟩:=Q_7 (P:=P) (w:=w) true hc (Nat.le_refl _) hlo hhi hb
       refine⟨_,t_3 hT ht hs hr,?_⟩
       have e:(if g.cap-off=l then some a else(some a).map (·.add (l * s)))=some (if g.cap-off=l then a else a.add (l * s)):=by split<;>rfl
       rw[e,show g.cap-off-l=g.cap-(off+l)from by omega]
       refine .slice r s (off+l) (h'-l) g _ hg hgs (by omega) fun hne=> ?_
       rw[if_neg (by omega),ha (by omega),Addr.add_mid,Nat.add_mul,Nat.add_assoc]
      |some m=>
       match Mx,hmx with
       |some M,hM=>
       simp only at h
       split at h
       ·rename_i n hv e1
        split at h
        ·rename_i en
         cases h
         obtain⟨kd,rfl⟩:=I_7 hM e1
         match Hi,hhi with
         |some H,hhi=>
         have hH:∃kd' n',H= .int kd' n':=by
          unfold bounds at hb
          cases e2:bound len len (some hv)with
          |none=>rw[e2]at hb;cases hb
          |some q=>
           unfold bound at e2
           simp only at e2
           cases e3:asIdx hv with
           |none=>rw[e3]at e2;cases e2
           |some n'=>obtain⟨kd',hk⟩:=I_7 hhi e3;exact⟨kd',n',hk⟩
         obtain⟨kd',n',hH⟩:=hH
         obtain⟨hr,hl1,hh⟩:=V_9 (P:=P) (w:=w) hc hlo hhi hH rfl en.1 hb
         refine⟨_,t_3 hT ht hs hr,?_⟩
         have:h'-l=0:=by omega
         rw[if_pos en.2.symm,this]
         exact .list0 true (some false) _ _ (fun _=>rfl) (fun e=>by cases e) (fun _=>by simp)
        ·cases h
       ·cases h
    ·cases h
   ·cases h
 ·cases h
theorem Q_1(hT:T.Fits P){s:TypeId}{x:V}{X:Value}{f:Nat}{v:V}(hx:VR k x X)(h:evFieldAddr T s x f=some v):Gives P k w (Instr.fieldAt s X f) v:=by
 unfold evFieldAddr at h
 split at h
 ·rename_i fs hs
  split at h
  ·cases h
  ·rename_i fd hf
   split at h
   ·cases h
   ·cases h
   ·rename_i n hn hz
    have hrun:∀b o,(Instr.fieldAt s (.pointer (some ⟨b,o,none⟩)) f).run P w= .ok (.pointer (some ⟨b,o+fd.offset,none⟩)) w:=by
     intro b o
     have hn0:¬n=0:=fun e=>hn e
     simp only[Instr.fieldAt,Instr.sureAddr,Sem.run_bind,hT.runUnd hs,Result.andThen_ok,hf,Sem.run_pure,fieldPlace,hT.runSize hz,if_neg hn0,Addr.add_mid]
    cases hx with
    |ptr r off g hg=>cases h;exact⟨_,hrun _ _,by rw[Nat.add_assoc];exact .ptr r _ g hg⟩
    |eptr r i off g hg=>cases h;exact⟨_,hrun _ _,by rw[Nat.add_assoc];exact .eptr r i _ g hg⟩
    |iptr cs vs b o hv hI=>
     cases h
     refine⟨_,hrun _ _, .iptr _ (vs.drop fd.offset) b _ (hv.drop _) fun j v hj=> ?_⟩
     rw[List.getElem?_drop]at hj
     rw[Nat.add_assoc];exact hI _ _ hj
    |_=>cases h
 ·cases h
theorem af_7(hT:T.Fits P){s:TypeId}{x:V}{X:Value}{f:Nat}{v:V}(hx:VR k x X)(h:evField T s x f=some v):Gives P k w (Instr.field s X f) v:=by
 unfold evField at h
 split at h
 ·rename_i fs cs hs
  split at h
  ·cases h
  ·rename_i fd hf
   split at h
   ·cases h
   ·rename_i ti ht
    cases hx with|agg _ vs hv=>
    obtain⟨y,h1,h2⟩:=ac_1 (w:=w) hT ht hv h
    exact⟨y,by simp only[Instr.field,Sem.run_bind,hT.runUnd hs,Result.andThen_ok,hf,asAgg,Sem.run_pure,h1],h2⟩
 ·cases h
theorem Q_4(hT:T.Fits P){t:TypeId}{x ix:V}{X Ix:Value}{v:V}(hx:VR k x X)(hi:VR k ix Ix)(h:evIndexAddr T t x ix=some v):Gives P k w (Instr.indexAt t X Ix) v:=by
 unfold evIndexAddr at h
 split at h
 ·cases h
 ·rename_i n hn
  obtain⟨kd,rfl⟩:=I_7 hi hn
  split at h
  ·rename_i e ht
   split at h
   ·cases h
   ·rename_i s hs
    split at h
    ·
     rename_i full nl xs
     split at h
     ·rename_i h0
      split at h
      ·rename_i y hy
       split at h
       ·rename_i hys
        cases h
        obtain⟨hlt,hy'⟩:=List.getElem?_eq_some_iff.1 hy
        have hne:xs≠[]:=fun e=>by subst e;simp at hlt
        obtain⟨base,cap,rfl,hc,_,_,_,h3⟩:=K_4 hx
        obtain⟨b,o,sz,vs,rfl,hv,hI,hsz⟩:=h3 hne
        have:sz=s:=by rw[←hys,←hsz y (List.mem_of_getElem? hy)]
        subst this
        have hlt':n<(xs.length:Int):=by omega
        refine⟨.pointer (some ⟨b,o+n.toNat * sz,none⟩),?_,?_⟩
        ·simp only[Instr.indexAt,l_3,Sem.run_bind,Result.andThen_ok,hT.runUnd ht,Sem.run_pure,if_pos (And.intro h0 hlt'),hT.runSize hs,Addr.add_mid]
        ·have e1:y.cells=((xs.flatMap V.cells).drop (n.toNat * sz)).take sz:=by
          rw[←y_4 xs hsz,List.drop_eq_getElem_cons hlt,List.flatMap_cons,List.take_append_of_le_length (by rw[hy',hys];exact Nat.le_refl _),hy',List.take_of_length_le (by rw[hys];exact Nat.le_refl _)]
         refine .iptr y.cells ((vs.drop (n.toNat * sz)).take sz) b _ (by rw[e1];exact(hv.drop _).take _) fun j v hj=> ?_
         rw[List.getElem?_take]at hj
         split at hj
         ·rw[List.getElem?_drop]at hj;rw[Nat.add_assoc];exact hI _ _ hj
         ·cases hj
       ·cases h
      ·cases h
     ·cases h
    ·
     rename_i r s' off len
     split at h
     ·rename_i hn2
      obtain⟨h0,hlt,rfl⟩:=hn2
      cases h
      cases hx with|slice _ _ _ _ g a hg hgs hl ha=>
      refine⟨.pointer (some ⟨g.b,g.o+(off+n.toNat)* g.s+0,none⟩),?_, .eptr r _ 0 g hg⟩
      have hne:g.cap-off≠0:=by omega
      rw[ha hne]
      simp only[Instr.indexAt,l_3,Sem.run_bind,Result.andThen_ok,hT.runUnd ht,Sem.run_pure,if_pos (And.intro h0 hlt),hT.runSize hs,Addr.add_mid]
      rw[hgs,Nat.add_mul,Nat.add_zero,Nat.add_assoc]
     ·cases h
    ·cases h
  ·
   rename_i len e ht
   split at h
   ·cases h
   ·cases h
   ·rename_i s hs0 hs
    split at h
    ·rename_i hn2
     obtain⟨h0,hlt⟩:=hn2
     have hrun:∀b o,(Instr.indexAt t (.pointer (some ⟨b,o,none⟩)) (.int kd n)).run P w= .ok (.pointer (some ⟨b,o+n.toNat * s,none⟩)) w:=by
      intro b o
      simp only[Instr.indexAt,Instr.sureAddr,l_3,Sem.run_bind,Result.andThen_ok,hT.runUnd ht,Sem.run_pure,if_pos (And.intro h0 hlt),hT.runSize hs,Addr.add_mid]
     cases hx with
     |ptr r off g hg=>cases h;exact⟨_,hrun _ _,by rw[Nat.add_assoc];exact .ptr r _ g hg⟩
     |eptr r i off g hg=>cases h;exact⟨_,hrun _ _,by rw[Nat.add_assoc];exact .eptr r i _ g hg⟩
     |iptr cs vs b o hv hI=>
      cases h
      refine⟨_,hrun _ _, .iptr _ (vs.drop (n.toNat * s)) b _ (hv.drop _) fun j v hj=> ?_⟩
      rw[List.getElem?_drop]at hj
      rw[Nat.add_assoc];exact hI _ _ hj
     |_=>cases h
    ·cases h
  ·cases h
theorem ah_(hT:T.Fits P){t:TypeId}{x ix:V}{X Ix:Value}{v:V}(hx:VR k x X)(hi:VR k ix Ix)(h:evIndex T t x ix=some v):Gives P k w (Instr.index t X Ix) v:=by
 unfold evIndex at h
 split at h
 ·cases h
 ·rename_i n hn
  obtain⟨kd,rfl⟩:=I_7 hi hn
  split at h
  ·rename_i h0
   split at h
   ·rename_i s ht
    cases hx with|str s=>
    simp only[Option.map_eq_some_iff]at h
    obtain⟨b,hb,rfl⟩:=h
    refine⟨.int .u8 b.toNat,?_, .int _ _⟩
    rw[←bb_8]at hb
    simp only[Instr.index,l_3,Sem.run_bind,Result.andThen_ok,hT.runUnd ht,if_pos h0,hb,Sem.run_pure]
   ·rename_i len e cs ht
    split at h
    ·cases h
    ·rename_i ti hti
     split at h
     ·rename_i hlt
      cases hx with|agg _ vs hv=>
      obtain⟨y,h1,h2⟩:=ac_1 (w:=w) hT hti hv h
      exact⟨y,by simp only[Instr.index,l_3,Sem.run_bind,Result.andThen_ok,hT.runUnd ht,if_pos (And.intro h0 hlt),hT.runSize (r_8 hti),h1],h2⟩
     ·cases h
   ·cases h
  ·cases h
end
end Go.Abs
namespace Go.Abs
section
variable {P:Program} {T:Tab} {k:K} {w:World}
theorem X_6(hT:T.Fits P):∀{fs:List Field} {l:List (Nat×Nat)},placesOf T fs=some l→fs.mapM (fun f=>(P.info? f.type).map fun i=>(f.offset,i.size))=some l
 |[],l,h=>by simp only[placesOf,Option.some.injEq]at h;subst h;rfl
 |f::fs,l,h=>by
  unfold placesOf at h
  cases hs:T.size f.type with
  |none=>rw[hs]at h;cases h
  |some s=>
   rw[hs]at h
   simp only at h
   cases hp:placesOf T fs with
   |none=>rw[hp]at h;cases h
   |some l'=>
    rw[hp]at h;cases h
    simp only[Tab.size,Option.map_eq_some_iff]at hs
    obtain⟨ti,h1,rfl⟩:=hs
    obtain⟨info,_,h2,h3,_⟩:=hT.ty _ ti h1
    simp[List.mapM_cons,h2,h3,X_6 hT hp]
theorem az_7(off:Nat):∀(vs:List Value) (j:Nat) (cs:Array Value),off+j+vs.length≤cs.size→
  ((vs.zipIdx j).foldl (fun(cs:Array Value) (x:Value×Nat)=>cs.setIfInBounds (off+x.2) x.1) cs).toList=cs.toList.take (off+j) ++vs ++cs.toList.drop (off+j+vs.length)
 |[],j,cs,_=>by simp
 |v::vs,j,cs,h=>by
  simp only[List.length_cons]at h
  rw[List.zipIdx_cons,List.foldl_cons,az_7 off vs (j+1) _ (by simp;omega)]
  have hlt:off+j<cs.toList.length:=by simp;omega
  simp only[Array.toList_setIfInBounds]
  have e1:(cs.toList.set (off+j) v).take (off+(j+1))=cs.toList.take (off+j) ++[v]:=by
   rw[show off+(j+1)=off+j+1 from rfl,List.take_succ_eq_append_getElem (by simpa using hlt),List.take_set_of_le (Nat.le_refl _)]
   simp
  have e2:(cs.toList.set (off+j) v).drop (off+(j+1)+vs.length)=cs.toList.drop (off+j+(v::vs).length):=by
   rw[List.drop_set_of_lt (by omega)]
   simp only[List.length_cons]
   congr 1;omega
  rw[e1,e2];simp
theorem T_2{place place':Nat→Option (Nat×Nat)}(hp:∀i x,place i=some x→place' i=some x):∀{parts:List (Nat×V)} {parts':List (Nat×Value)} {cs out:List V} {vs:Array Value},
  VRs k cs vs.toList→parts.map (·.1)=parts'.map (·.1)→VRs k (parts.map (·.2)) (parts'.map (·.2))→fill place cs parts=some out→∃vs',Instr.fill place' vs parts'=some vs'∧VRs k out vs'.toList
 |[],parts',cs,out,vs,hv,he,_,h=>by
  cases parts' with
  |nil=>simp only[fill,Option.some.injEq]at h;subst h;exact⟨vs,rfl,hv⟩
  |cons p ps=>simp at he
 |(i,v)::rest,parts',cs,out,vs,hv,he,hr,h=>by
  cases parts' with
  |nil=>simp at he
  |cons p ps=>
   obtain⟨i',x⟩:=p
   simp only[List.map_cons,List.cons.injEq]at he hr
   obtain⟨rfl,he⟩:=he
   cases hr with|cons hx hr=>
   unfold fill at h
   cases hpi:place i with
   |none=>rw[hpi]at h;cases h
   |some os=>
    obtain⟨off,size⟩:=os
    rw[hpi]at h
    simp only at h
    split at h
    ·cases h
    ·rename_i hc
     simp only[not_or,Decidable.not_not]at hc
     obtain⟨hc1,hc2⟩:=hc
     have hcells:=hx.cells
     have hl1:x.cells.size=size:=by have:=hcells.length;simp at this;omega
     have hl2:vs.size=cs.length:=by have:=hv.length;simp at this;omega
     have hlay:VRs k (cs.take off ++v.cells ++cs.drop (off+size)) (x.cells.zipIdx.foldl (fun(cs:Array Value) (y:Value×Nat)=>cs.setIfInBounds (off+y.2) y.1) vs).toList:=by
      have e:(x.cells.zipIdx.foldl (fun(cs:Array Value) (y:Value×Nat)=>cs.setIfInBounds (off+y.2) y.1) vs).toList=vs.toList.take off ++x.cells.toList ++vs.toList.drop (off+size):=by
       have:=az_7 off x.cells.toList 0 vs (by simp;omega)
       rw[←Array.foldl_toList,Array.toList_zipIdx,this]
       simp[hl1]
      rw[e]
      exact((hv.take _).append hcells).append (hv.drop _)
     obtain⟨vs',h1,h2⟩:=T_2 hp hlay he hr h
     refine⟨vs',?_,h2⟩
     unfold Instr.fill
     rw[hp i _ hpi]
     simp only
     rw[if_neg (by simp[hl1];omega)]
     exact h1
theorem ai_4(hT:T.Fits P){t:TypeId}{parts:List (Nat×V)}{parts':Array (Nat×Value)}{v:V}(he:parts.map (·.1)=parts'.toList.map (·.1))(hr:VRs k (parts.map (·.2)) (parts'.toList.map (·.2)))
  (h:evBuild T t parts=some v):Gives P k w (Instr.build t parts') v:=by
 unfold evBuild at h
 cases ht:T.ty t with
 |none=>rw[ht]at h;cases h
 |some ti=>
  rw[ht]at h
  simp only at h
  obtain⟨info,z,h1,_,_,h4,h5,h6,_⟩:=hT.ty t ti ht
  have hz:=(z_7 k z _ h5).cells
  split at h
  ·rename_i fs hu
   split at h
   ·cases h
   ·rename_i places hp
    simp only[Option.map_eq_some_iff]at h
    obtain⟨out,hf,rfl⟩:=h
    obtain⟨vs',hi,hv⟩:=T_2 (place':=fun i=>places.toArray[i]?) (fun i x e=>by simpa using e) hz he hr hf
    refine⟨.agg vs',run_build w t parts' vs' ?_, .agg _ _ hv⟩
    simp only[Program.built,h1,h6,hu,h4,X_6 hT hp]
    exact hi
  ·rename_i n e hu
   split at h
   ·cases h
   ·rename_i s hs
    simp only[Option.map_eq_some_iff]at h
    obtain⟨out,hf,rfl⟩:=h
    obtain⟨vs',hi,hv⟩:=T_2 (place':=fun i=>some (i * s,s)) (fun i x e=>e) hz he hr hf
    refine⟨.agg vs',run_build w t parts' vs' ?_, .agg _ _ hv⟩
    simp only[Tab.size,Option.map_eq_some_iff]at hs
    obtain⟨te,g1,rfl⟩:=hs
    obtain⟨ie,_,g2,g3,_⟩:=hT.ty e te g1
    simp only[Program.built,h1,h6,hu,h4,g2,g3]
    exact hi
  ·cases h
end
end Go.Abs
namespace Go.Abs
section
variable {P:Program} {T:Tab} {k:K} {w:World} {fr:Fr} {a:Act}
theorem aa_2(hg:GlobOk T k)(hf:FR k fr a){o:Option Operand}{x:Option V}(h:optArg T fr o=some x):OVR k x (o.map a.eval):=by
 cases o with
 |none=>simp only[optArg,Option.some.injEq]at h;subst h;trivial
 |some o=>
  simp only[optArg,Option.map_eq_some_iff]at h
  obtain⟨v,h1,rfl⟩:=h
  exact a_4 hg hf h1
theorem aE_5{mx:Bool}{x y v:V}{X Y:Value}(hx:VR k x X)(hy:VR k y Y)(h:minmax mx x y=some v):
  Gives P k w (if mx then Builtin.max2 X Y else Builtin.min2 X Y) v:=by
 unfold minmax at h
 split at h
 ·cases hx;cases hy
  split at h
  ·cases h
   cases mx with
   |true=>exact⟨_,rfl, .int _ _⟩
   |false=>exact⟨_,rfl, .int _ _⟩
  ·cases h
 ·cases h
theorem M_5{mx:Bool}:∀{xs:List V} {Xs:List Value} {x v:V} {X:Value},VR k x X→VRs k xs Xs→xs.foldl (fun acc y=>acc.bind fun a=>minmax mx a y) (some x)=some v→
  Gives P k w (Xs.foldlM (if mx then Builtin.max2 else Builtin.min2) X) v
 |[],_,x,v,X,hx, .nil,h=>by simp only[List.foldl_nil,Option.some.injEq]at h;subst h;exact⟨X,rfl,hx⟩
 |y::ys,_,x,v,X,hx, .cons (x:=Y) hy hs,h=>by
  simp only[List.foldl_cons,Option.bind_some]at h
  cases e:minmax mx x y with
  |none=>
   rw[e]at h
   have:∀l:List V,l.foldl (fun acc y=>acc.bind fun a=>minmax mx a y) none=none:=fun l=>by induction l with|nil=>rfl|cons _ _ ih=>simpa using ih
   rw[this]at h;cases h
  |some z=>
   rw[e]at h
   obtain⟨Z,h1,h2⟩:=aE_5 (P:=P) (w:=w) hx hy e
   obtain⟨R,h3,h4⟩:=M_5 h2 hs h
   refine⟨R,?_,h4⟩
   rw[List.foldlM_cons,Sem.run_bind]
   have e':(if mx=true then Builtin.max2 else Builtin.min2) X Y=if mx=true then Builtin.max2 X Y else Builtin.min2 X Y:=by split<;>rfl
   rw[e',h1]
   exact h3
theorem aO_9(hT:T.Fits P){t:TypeId}{d:TypeDesc}(ht:T.und t=some d){x:V}{X:Value}(hx:VR k x X){n:Nat}(h:evLen d x=some n)
  {ty:TypeId} {ts:Array TypeId} (hts:ts[0]? =some t):(Builtin.len_ ts ty #[X]).run P w= .ok (.int .i64 n) w:=by
 unfold evLen at h
 split at h
 ·cases h
  simp only[Builtin.len_,hts,List.getElem?_toArray,List.getElem?_cons_zero,Sem.run_bind,hT.runUnd ht,Result.andThen_ok,goInt,Sem.run_pure]
 ·cases hx with|str s=>
  cases h
  have e:s.data.toList.length=s.size:=rfl
  simp[Builtin.len_,hts,hT.runUnd ht,goInt,e]
 ·cases h
  obtain⟨base,cap,rfl,_⟩:=K_4 hx
  simp[Builtin.len_,hts,hT.runUnd ht,goInt]
 ·cases h
  cases hx
  simp[Builtin.len_,hts,hT.runUnd ht,goInt]
 ·cases h
theorem b_{s:Sem Value}{v:V}(h:Gives P k w s v):∃x,(do pure (Next.value (←s)):Sem Next).run P w= .ok (.value x) w∧VR k v x:=by
 obtain⟨x,h1,h2⟩:=h
 exact⟨x,by simp only[Sem.run_bind,h1,Result.andThen_ok,Sem.run_pure],h2⟩
theorem aD_8(hT:T.Fits P)(hg:GlobOk T k)(hf:FR k fr a){o:Oper}{v:V}(h:evPure T fr o.op=some v):
  ∃x,(execOp a.eval o).run P w= .ok (.value x) w∧VR k v x:=by
 unfold execOp
 cases hop:o.op<;>rw[hop]at h<;>simp only[evPure]at h⊢<;>try(cases h;done)
 case move x=>exact⟨_,rfl,a_4 hg hf h⟩
 case assign x=>exact⟨_,rfl,a_4 hg hf h⟩
 case pick c x y=>
  split at h
  ·rename_i t ht
   have hc:=a_4 hg hf ht
   cases t with
   |true=>
    have:=a_4 hg hf h
    refine⟨a.eval x,?_,this⟩
    generalize a.eval c=C at hc
    cases hc
    simp[asBool]
   |false=>
    have:=a_4 hg hf h
    refine⟨a.eval y,?_,this⟩
    generalize a.eval c=C at hc
    cases hc
    simp[asBool]
  ·cases h
 case nilCheck x=>
  split at h<;>(try cases h)
  all_goals(rename_i e;have hc:=a_4 hg hf e;generalize a.eval x=X at hc;cases hc)
  ·exact⟨_,rfl,by constructor;assumption⟩
  ·exact⟨_,rfl,by constructor;assumption⟩
  ·exact⟨_,rfl,by constructor<;>assumption⟩
  ·exact⟨_,rfl,by constructor<;>assumption⟩
 case binOp op t x y yt=>
  have key:∀ax ay,evArg T fr x=some ax→evArg T fr y=some ay→evBin T op t ax ay=some v→(ax= .niliface→ay= .niliface→(isConst x||isConst y)=true)→
    ∃z,(do pure (Next.value (←(do eqGuard op t x y (a.eval x) (a.eval y);binOp op t (a.eval x) (a.eval y)))):Sem Next).run P w= .ok (.value z) w∧VR k v z:=by
   intro ax ay e1 e2 hb hn
   have hx:=a_4 hg hf e1
   have hy:=a_4 hg hf e2
   refine b_ ?_
   obtain⟨z,h1,h2⟩:=ax_8 (w:=w) hT hx hy hb
   exact⟨z,by simp only[Sem.run_bind,ay_5 hT hx hy hb x y hn,Result.andThen_ok,h1],h2⟩
  split at h
  ·rename_i e1 e2
   split at h
   ·rename_i hc;exact key _ _ e1 e2 h fun _ _=>hc
   ·cases h
  ·rename_i hne e1 e2
   exact key _ _ e1 e2 h fun h1 h2=>(hne h1 h2).elim
  ·cases h
 case unOp op t x=>
  cases e:evArg T fr x with
  |none=>rw[e]at h;cases h
  |some ax=>rw[e]at h;exact b_ (aJ_6 (a_4 hg hf e) h)
 case convert src dst x=>
  split at h
  ·rename_i hs
   cases e:evArg T fr x with
   |none=>rw[e]at h;cases h
   |some ax=>rw[e]at h;exact b_ (aq_3 hT hs (a_4 hg hf e) h)
  ·cases h
 case makeInterface t x=>
  cases e:evArg T fr x with
  |none=>rw[e]at h;split at h<;>cases h
  |some ax=>
   rw[e]at h
   cases hu:T.und t with
   |none=>rw[hu]at h;cases h
   |some d=>
    rw[hu]at h
    have hd:∀ms,d≠ .interface ms:=fun ms e=>by subst e;cases h
    have h':v= .iface t ax:=by cases d<;>first|(cases h;rfl)|(exact absurd rfl (hd _))
    subst h'
    refine b_ ⟨.iface t (a.eval x),?_, .iface t _ _ (a_4 hg hf e)⟩
    simp only[Instr.makeInterface,Sem.run_bind,hT.runUnd hu,Result.andThen_ok]
    cases d<;>first|rfl|(exact absurd rfl (hd _))
 case makeFunc fn first captured=>
  split at h
  ·rename_i xs ys e1 e2
   have h1:=y_3 hg hf e1
   have h2:=y_3 hg hf e2
   cases fn with
   |func f=>
    cases h
    refine b_ ⟨_,rfl,?_⟩
    have:=VR.func f xs ys _ _ h1 h2
    have ea:first.map a.eval=⟨first.toList.map a.eval⟩:=by apply Array.ext';simp
    have eb:captured.map a.eval=⟨captured.toList.map a.eval⟩:=by apply Array.ext';simp
    rw[ea,eb];exact this
   |_=>cases h
  ·cases h
 case slice t x lo hi mx=>
  split at h
  ·rename_i ax alo ahi amx e1 e2 e3 e4
   exact b_ (ai_8 hT (a_4 hg hf e1) (aa_2 hg hf e2) (aa_2 hg hf e3) (aa_2 hg hf e4) h)
  ·cases h
 case fieldAddr s x f=>
  cases e:evArg T fr x with
  |none=>rw[e]at h;cases h
  |some ax=>rw[e]at h;exact b_ (Q_1 hT (a_4 hg hf e) h)
 case field s x f=>
  cases e:evArg T fr x with
  |none=>rw[e]at h;cases h
  |some ax=>rw[e]at h;exact b_ (af_7 hT (a_4 hg hf e) h)
 case indexAddr t x ix=>
  split at h
  ·rename_i e1 e2;exact b_ (Q_4 hT (a_4 hg hf e1) (a_4 hg hf e2) h)
  ·cases h
 case index t x ix=>
  split at h
  ·rename_i e1 e2;exact b_ (ah_ hT (a_4 hg hf e1) (a_4 hg hf e2) h)
  ·cases h
 case build t parts=>
  cases e:evArgs T fr (parts.toList.map (·.2))with
  |none=>rw[e]at h;cases h
  |some vs=>
   rw[e]at h
   simp only[Option.bind_some]at h
   have hv:=y_3 hg hf e
   have hl:vs.length=parts.toList.length:=by have:=hv.length;simpa using this
   refine b_ (ai_4 hT (parts':=parts.map fun(i,x)=>(i,a.eval x)) ?_ ?_ h)
   ·rw[List.map_fst_zip (by simp[hl])];simp[Function.comp_def]
   ·rw[List.map_snd_zip (by simp[hl])];simpa[Function.comp_def]using hv
 case extract x i=>
  split at h
  ·rename_i vs e
   have hc:=a_4 hg hf e
   generalize a.eval x=X at hc
   cases hc with|tup _ xs hv=>
   obtain⟨y,h1,h2⟩:=hv.get i v h
   refine b_ ⟨y,?_,h2⟩
   have:(⟨xs⟩:Array Value)[i]? =some y:=by simpa using h1
   simp only[Instr.extract,this,Sem.run_pure]
  ·cases h
 case call c=>
  obtain⟨callee,args,argTypes⟩:=c
  cases callee with
  |value f=>cases h
  |invoke r n=>cases h
  |builtin b=>
   simp only[resolve,Sem.run_bind,Sem.run_pure,Result.andThen_ok,invoke]
   have hargs:∀vs,evArgs T fr args.toList=some vs→VRs k vs (args.map a.eval).toList:=fun vs e=>by simpa using y_3 hg hf e
   simp only at h
   split at h
   ·rename_i x e
    have hv:=hargs _ e
    generalize args.map a.eval=As at hv
    obtain⟨As⟩:=As
    cases hv with|cons hx hs=>cases hs with|nil=>
    cases hts:argTypes[0]? with
    |none=>rw[hts]at h;cases h
    |some t=>
     rw[hts]at h
     simp only[Option.bind_some]at h
     split at h
     ·rename_i d hd
      split at h
      ·rename_i n hn
       cases h
       exact b_ ⟨_,aO_9 hT hd hx hn hts, .int _ _⟩
      ·cases h
     ·cases h
   ·rename_i xs e
    have hv:=hargs _ e
    generalize args.map a.eval=As at hv
    obtain⟨As⟩:=As
    cases hv with|cons hx hs=>cases hs with|nil=>
    cases hts:argTypes[0]? with
    |none=>rw[hts]at h;cases h
    |some t=>
     rw[hts]at h
     simp only[Option.bind_some]at h
     split at h
     ·rename_i el hd
      cases h
      obtain⟨base,cap,rfl,_,hfull,_⟩:=K_4 hx
      rw[hfull rfl]
      refine b_ ⟨_,?_, .int _ _⟩
      simp[Builtin.cap_,hts,hT.runUnd hd,goInt]
     ·cases h
   ·rename_i x xs e
    have hv:=hargs _ e
    generalize args.map a.eval=As at hv
    obtain⟨As⟩:=As
    cases hv with|cons hx hs=>
    obtain⟨z,h1,h2⟩:=M_5 (w:=w) (P:=P) hx hs h
    exact b_ ⟨z,h1,h2⟩
   ·rename_i x xs e
    have hv:=hargs _ e
    generalize args.map a.eval=As at hv
    obtain⟨As⟩:=As
    cases hv with|cons hx hs=>
    obtain⟨z,h1,h2⟩:=M_5 (w:=w) (P:=P) hx hs h
    exact b_ ⟨z,h1,h2⟩
   ·cases h
end
end Go.Abs
namespace Go.Abs
section
variable {P:Program} {T:Tab} {k:K} {st:St} {w:World}
theorem aX_6{s:Nat}{es:List V}(hs:∀x∈es,x.cells.length=s){i:Nat}{e:V}(h:es[i]? =some e):e.cells=((es.flatMap V.cells).drop (i * s)).take s:=by
 obtain⟨hlt,he⟩:=List.getElem?_eq_some_iff.1 h
 have hc:e.cells.length=s:=hs e (List.mem_of_getElem? h)
 rw[←y_4 es hs,List.drop_eq_getElem_cons hlt,List.flatMap_cons,List.take_append_of_le_length (by rw[he,hc];exact Nat.le_refl _),he,List.take_of_length_le (by rw[hc];exact Nat.le_refl _)]
theorem z_0{vs:List Value}{m n:Nat}{j:Nat}{v:Value}(h:((vs.drop m).take n)[j]? =some v):vs[m+j]? =some v:=by
 rw[List.getElem?_take]at h
 split at h
 ·rw[List.getElem?_drop]at h;exact h
 ·cases h
theorem P_2(hw:WR k st w){a:V}{X:Value}{n:Nat}{cs:List V}(ha:VR k a X)(h:readCells st a n=some cs):
  ∃b o vs,X= .pointer (some ⟨b,o,none⟩)∧VRs k cs vs∧vs.length=n∧w.rangeAt b o vs:=by
 unfold readCells at h
 split at h
 ·
  rename_i r off
  cases ha with|ptr _ _ g hg=>
  obtain⟨ob,h1,h2⟩:=hw.obj r g hg
  rw[h1]at h
  cases h2<;>simp only at h<;>try(cases h;done)
  rename_i cs0 vs t hh hv ho hI
  split at h
  ·rename_i hle
   cases h
   refine⟨g.b,g.o+off,(vs.drop off).take n,rfl,(hv.drop _).take _,?_,?_⟩
   ·have:=hv.length;simp;omega
   ·intro j v hj
    rw[cell?_of hh]
    have:=z_0 hj
    simp only[cellOf,ho,Nat.zero_add]
    simpa using this
  ·cases h
 ·
  rename_i r i off
  cases ha with|eptr _ _ _ g hg=>
  obtain⟨ob,h1,h2⟩:=hw.obj r g hg
  rw[h1]at h
  split at h
  case h_2=>cases h
  rename_i acc es hrow
  cases av_5 h2 hrow with|vec _ _ arr t vs hh hz hc hs hv har hI hI'=>
  split at h
  ·rename_i e he
   split at h
   ·rename_i hle
    cases h
    have hlen:e.cells.length=g.s:=hs e (List.mem_of_getElem? he)
    have hvs:VRs k ((e.cells.drop off).take n) ((((vs.drop (i * g.s)).take g.s).drop off).take n):=by
     rw[aX_6 hs he];exact((((hv.drop _).take _).drop _).take _)
    refine⟨g.b,g.o+i * g.s+off,_,rfl,hvs,?_,?_⟩
    ·have:=hvs.length;rw[←this];simp;omega
    ·intro j v hj
     rw[cell?_of hh]
     have h3:=z_0 hj
     have h4:=z_0 h3
     have:=har _ _ h4
     simp only[cellOf]
     rw[show g.o+i * g.s+off+j=g.o+(i * g.s+(off+j))from by omega]
     exact this
   ·cases h
  ·cases h
 ·
  rename_i cs0
  cases ha with|iptr _ vs b o hv hI=>
  split at h
  ·rename_i hle
   cases h
   refine⟨b,o,vs.take n,rfl,hv.take n,?_,?_⟩
   ·have:=hv.length;simp;omega
   ·intro j v hj
    rw[List.getElem?_take]at hj
    split at hj
    ·exact hw.imm _ _ _ (hI j v hj)
    ·cases hj
  ·cases h
 ·cases h
theorem R_7(hT:T.Fits P)(hw:WR k st w){t:TypeId}{a:V}{X:Value}{v:V}(ha:VR k a X)(h:evLoad T st t a=some v):Gives P k w (Instr.loadAt t X) v:=by
 unfold evLoad at h
 split at h
 ·cases h
 ·rename_i ti ht
  split at h
  ·rename_i hagg
   simp only[Option.map_eq_some_iff]at h
   obtain⟨cs,hc,rfl⟩:=h
   obtain⟨b,o,vs,rfl,hv,hl,hr⟩:=P_2 hw ha hc
   obtain⟨info,z,h1,h2,_,_,_,h6,h7,_⟩:=hT.ty t ti ht
   refine⟨.agg vs.toArray,run_loadAt_mid w b o t vs ti.und hr h6 (by rw[←h7];exact hagg) (by simp[h1,h2,hl]), .agg _ _ hv⟩
  ·rename_i hagg
   split at h
   ·rename_i x hc
    cases h
    obtain⟨b,o,vs,rfl,hv,hl,hr⟩:=P_2 hw ha hc
    cases hv with|cons hx hs=>cases hs with|nil=>
    rename_i y
    have hcell:w.cell? ⟨b,o,none⟩=some y:=by simpa using hr 0 y rfl
    refine⟨y,?_,hx⟩
    have hagg':ti.agg=false:=by simpa using hagg
    simp only[Instr.loadAt,Instr.sureAddr,Sem.run_bind,Sem.run_pure,Result.andThen_ok,loadVar,hT.runAgg ht,hagg',Bool.false_eq_true,if_false]
    simp[load,Sem.run,hcell]
   ·cases h
end
end Go.Abs
namespace Go.Abs
def lays(arr:Array Value)(o:Nat):List Value→Array Value
 |[]=>arr
 |v::r=>lays (arr.setIfInBounds o v) (o+1) r
theorem A_7:∀(vs:List Value) (arr:Array Value) (o:Nat),(lays arr o vs).size=arr.size
 |[],_,_=>rfl
 |v::r,arr,o=>by rw[lays,A_7 r];simp
theorem k_7:∀(vs:List Value) (arr:Array Value) (o i:Nat),(i<o∨o+vs.length≤i)→(lays arr o vs)[i]? =arr[i]?
 |[],_,_,_,_=>rfl
 |v::r,arr,o,i,h=>by
  simp only[List.length_cons]at h
  rw[lays,k_7 r _ (o+1) i (by omega),Array.getElem?_setIfInBounds_ne (by omega)]
theorem M_0:∀(vs:List Value) (arr:Array Value) (o j:Nat) (v:Value),o+vs.length≤arr.size→vs[j]? =some v→(lays arr o vs)[o+j]? =some v
 |[],_,_,_,_,_,h=>by simp at h
 |x::r,arr,o,0,v,hs,h=>by
  simp only[List.length_cons]at hs
  simp only[List.getElem?_cons_zero,Option.some.injEq]at h
  subst h
  rw[lays,k_7 r _ (o+1) _ (by omega)]
  simp only[Nat.add_zero]
  rw[Array.getElem?_setIfInBounds_self_of_lt (by omega)]
 |x::r,arr,o,j+1,v,hs,h=>by
  simp only[List.length_cons]at hs
  rw[lays,show o+(j+1)=o+1+j from by omega]
  exact M_0 r _ (o+1) j v (by simp;omega) (by simpa using h)
theorem aP_4(vs:List Value)(arr:Array Value)(o:Nat)(h:o+vs.length≤arr.size):(lays arr o vs).toList=arr.toList.take o ++vs ++arr.toList.drop (o+vs.length):=by
 apply List.ext_getElem?
 intro i
 have e:(lays arr o vs).toList[i]? =(lays arr o vs)[i]? :=by simp
 rw[e]
 rcases Nat.lt_or_ge i o with h1|h1
 ·rw[k_7 vs arr o i (.inl h1),List.append_assoc,List.getElem?_append_left (by simp;omega),List.getElem?_take,if_pos h1];simp
 ·rcases Nat.lt_or_ge i (o+vs.length)with h2|h2
  ·have hv:vs[i-o]? =some vs[i-o]:=List.getElem?_eq_getElem (by omega)
   have:=M_0 vs arr o (i-o) _ h hv
   rw[show o+(i-o)=i from by omega]at this
   rw[this,List.append_assoc,List.getElem?_append_right (by simp;omega),List.getElem?_append_left (by simp;omega)]
   rw[←hv];congr 1;simp;omega
  ·rw[k_7 vs arr o i (.inr h2),List.getElem?_append_right (by simp;omega)]
   rw[List.getElem?_drop]
   simp
   congr 1
   omega
section
variable {P:Program}
theorem p_2(b:Nat):∀(vs:List Value) (o:Nat) (w:World),Env w (w.setCells b o vs)
 |[],_,_=>⟨rfl,rfl,rfl⟩
 |v::vs,o,w=>by
  have h:=p_2 b vs (o+1) (w.setCell ⟨b,o,none⟩ v)
  exact⟨h.1,h.2.1,h.2.2⟩
theorem l_2(b:Nat)(t:TypeId):∀(vs:List Value) (o:Nat) (w:World) (arr:Array Value),w.heap[b]? =some (.cells arr t (0,0))→
  (w.setCells b o vs).heap[b]? =some (.cells (lays arr o vs) t (0,0))∧(w.setCells b o vs).heap.size=w.heap.size∧∀b',b'≠b→(w.setCells b o vs).heap[b']? =w.heap[b']?
 |[],_,_,_,h=>⟨h,rfl,fun _ _=>rfl⟩
 |v::r,o,w,arr,h=>by
  have h1:(w.setCell ⟨b,o,none⟩ v).heap[b]? =some (.cells (arr.setIfInBounds o v) t (0,0)):=by
   simp only[World.setCell,Array.getElem?_modify,if_true,h,Option.map_some]
   rfl
  obtain⟨a1,a2,a3⟩:=l_2 b t r (o+1) (w.setCell ⟨b,o,none⟩ v) _ h1
  refine⟨a1,by rw[World.setCells,a2];simp[World.setCell],fun b' hb=> ?_⟩
  rw[World.setCells,a3 b' hb]
  simp only[World.setCell,Array.getElem?_modify,if_neg (Ne.symm hb)]
theorem h_1(w:World)(b o:Nat)(t:TypeId)(arr:Array Value)(vs:List Value)(h:w.heap[b]? =some (.cells arr t (0,0)))(hs:o+vs.length≤arr.size)(h1:∀v∈vs,v.oneCell'=true):
  (storeCells ⟨b,o,none⟩ vs).run P w= .ok () (w.setCells b o vs):=by
 have:=run_storeCells_cells (P:=P) b o vs 0 w (fun j hj=>by
  rw[cell?_of h]
  simp only[cellOf]
  rw[Array.getElem?_eq_getElem (by omega)];rfl) (fun j hj=>by simp[World.frozen?,h]) h1
 simpa using this
theorem aI_4{k:K}{v:V}{x:Value}(h:VR k v x)(h1:v.oneCell=true):x.oneCell'=true:=by
 cases h<;>simp_all[V.oneCell,Value.oneCell']
theorem A_9{k:K}:∀{cs:List V} {vs:List Value},VRs k cs vs→cs.all V.oneCell=true→∀v∈vs,v.oneCell'=true
 |_,_, .nil,_=>fun v hv=>by cases hv
 |_,_, .cons h hs,ha=>by
  simp only[List.all_cons,Bool.and_eq_true]at ha
  intro v hv
  cases hv with
  |head=>exact aI_4 h ha.1
  |tail _ hv=>exact A_9 hs ha.2 v hv
theorem aq_6{k:K}{cs new:List V}{vs news:List Value}(h:VRs k cs vs)(hn:VRs k new news)(off:Nat):VRs k (splice cs off new) (vs.take off ++news ++vs.drop (off+news.length)):=by
 unfold splice
 rw[hn.length]
 exact((h.take _).append hn).append (h.drop _)
theorem av_9{cs r new:List V}{off:Nat}(h:off+new.length≤cs.length):splice (cs ++r) off new=splice cs off new ++r:=by
 unfold splice
 rw[List.take_append_of_le_length (by omega),List.drop_append_of_le_length h]
 simp[List.append_assoc]
theorem an_{cs r new:List V}{off:Nat}:splice (cs ++r) (cs.length+off) new=cs ++splice r off new:=by
 unfold splice
 rw[List.take_append,List.drop_append]
 have e1:cs.take (cs.length+off)=cs:=List.take_of_length_le (by omega)
 have e2:cs.drop (cs.length+off+new.length)=[]:=List.drop_eq_nil_of_le (by omega)
 rw[e1,e2,show cs.length+off-cs.length=off from by omega,show cs.length+off+new.length-cs.length=off+new.length from by omega]
 simp[List.append_assoc]
theorem aj_0{s off:Nat}{new:List V}{e e':V}(hoff:off+new.length≤s)(he:e'.cells=splice e.cells off new):∀{es:List V} {i:Nat},(∀x∈es,x.cells.length=s)→es[i]? =some e→
  (es.set i e').flatMap V.cells=splice (es.flatMap V.cells) (i * s+off) new
 |[],i,_,h=>by simp at h
 |x::es,0,hs,h=>by
  simp only[List.getElem?_cons_zero,Option.some.injEq]at h
  subst h
  rw[List.set_cons_zero,List.flatMap_cons,List.flatMap_cons,he,Nat.zero_mul,Nat.zero_add,av_9 (by rw[hs x (by simp)];exact hoff)]
 |x::es,i+1,hs,h=>by
  have ih:=aj_0 hoff he (es:=es) (i:=i) (fun y hy=>hs y (by simp[hy])) (by simpa using h)
  rw[List.set_cons_succ,List.flatMap_cons,List.flatMap_cons,ih,←an_,hs x (by simp),Nat.succ_mul]
  congr 1;omega
theorem ah_1{e:V}{off:Nat}{ns:List V}(hone:ns.all V.oneCell=true)(hle:off+ns.length≤e.cells.length):(putElem e (splice e.cells off ns)).cells=splice e.cells off ns:=by
 have one:∀q:V,q.oneCell=true→q.cells=[q]:=fun q hq=>by cases q<;>first|rfl|cases hq
 have key:∀e:V,off+ns.length≤[e].length→e.cells=[e]→((splice [e] off ns).headD e).cells=splice [e] off ns:=by
  intro e hle hc
  simp only[List.length_singleton]at hle
  cases ns with
  |nil=>simp[splice,hc]
  |cons q ns=>
   simp only[List.length_cons]at hle
   have h1:ns=[]:=List.eq_nil_of_length_eq_zero (by omega)
   have h2:off=0:=by omega
   subst h1;subst h2
   simp only[List.all_cons,List.all_nil,Bool.and_true]at hone
   simp[splice,one q hone]
 cases e with
 |agg cs=>rfl
 |_=>exact key _ hle rfl
variable {T:Tab} {k:K} {st st':St} {w:World}
theorem at_2(hT:T.Fits P)(hw:WR k st w){t:TypeId}{a v:V}{X Y:Value}(ha:VR k a X)(hv:VR k v Y)(h:evStore T st t a v=some st'):
  ∃w',(Instr.storeAt t X Y).run P w= .ok () w'∧Later k k st st' w w':=by
 unfold evStore at h
 split at h
 ·cases h
 ·rename_i n hn
  split at h
  ·rename_i hc
   obtain⟨hlen,hone⟩:=hc
   have hvc:=hv.cells
   have hone':=A_9 hvc hone
   have hyl:Y.cells.size=n:=by have:=hvc.length;simp at this;omega
   have hrun:∀b o (arr:Array Value) (tt:TypeId),w.heap[b]? =some (.cells arr tt (0,0))→o+n≤arr.size→
     (Instr.storeAt t (.pointer (some ⟨b,o,none⟩)) Y).run P w= .ok () (w.setCells b o Y.cells.toList):=by
    intro b o arr tt hb hle
    simp only[Instr.storeAt,Instr.sureAddr,storeVar,Sem.run_bind,Sem.run_pure,Result.andThen_ok,hT.runSize hn]
    rw[if_neg (by simp[hyl])]
    exact h_1 w b o tt arr Y.cells.toList hb (by simp[hyl,hle]) hone'
   split at h
   ·
    rename_i r off
    cases ha with|ptr _ _ g hg=>
    obtain⟨ob,h1,h2⟩:=hw.obj r g hg
    split at h
    ·cases h
    ·rename_i hlk
     rw[h1]at h
     cases h2<;>simp only at h<;>try(cases h;done)
     rename_i cs vs tt hh hvs ho hI
     split at h
     ·rename_i hle
      cases h
      have hsz:cs.length=vs.length:=hvs.length
      obtain⟨a1,a2,a3⟩:=l_2 g.b tt Y.cells.toList (g.o+off) w _ hh
      refine⟨_,hrun g.b (g.o+off) _ tt hh (by simp;omega),?_⟩
      refine Later.turn (he:=p_2 _ _ _ _) hw hg (by simpa using hlk) (by rw[h1];simp) (.box (splice cs off v.cells)) rfl rfl rfl a2 a3 (fun o' v' hi=>by rw[hI o']at hi;cases hi) ?_
      refine .box _ (vs.take off ++Y.cells.toList ++vs.drop (off+Y.cells.toList.length)) tt ?_ (aq_6 hvs hvc off) ho hI
      rw[a1]
      congr 2
      apply Array.ext'
      rw[aP_4 _ _ _ (by simp[hyl];omega)]
      simp[ho]
     ·cases h
   ·
    rename_i r i off
    cases ha with|eptr _ _ _ g hg=>
    obtain⟨ob,h1,h2⟩:=hw.obj r g hg
    split at h
    ·cases h
    ·rename_i hlk
     rw[h1]at h
     cases h2<;>(try simp only at h)<;>try(cases h;done)
     rename_i acc es arr tt vs hh hz hcap hs hvs har hI hI'
     cases acc with
     |true=>cases h
     |false=>
     simp only at h
     split at h
     ·rename_i e he
      split at h
      ·rename_i hle
       cases h
       have hel:e.cells.length=g.s:=hs e (List.mem_of_getElem? he)
       have hi:i<es.length:=(List.getElem?_eq_some_iff.1 he).1
       have hvl:vs.length=es.length * g.s:=by rw[←hvs.length,b_6 es hs]
       have hmul:i * g.s+g.s≤es.length * g.s:=by rw[←Nat.succ_mul];exact Nat.mul_le_mul_right _ hi
       have hmul2:es.length * g.s≤g.cap * g.s:=Nat.mul_le_mul_right _ hcap
       have hec:=ah_1 (e:=e) (off:=off) hone (by omega)
       generalize hE:putElem e (splice e.cells off v.cells)=e' at hec
       obtain⟨a1,a2,a3⟩:=l_2 g.b tt Y.cells.toList (g.o+i * g.s+off) w _ hh
       refine⟨_,hrun g.b (g.o+i * g.s+off) _ tt hh (by omega),?_⟩
       have hvs':=aq_6 hvs hvc (i * g.s+off)
       rw[←aj_0 (by omega) hec hs he]at hvs'
       have hyl':Y.cells.toList.length=n:=by simpa using hyl
       refine Later.turn (he:=p_2 _ _ _ _) hw hg (by simpa using hlk) (by rw[h1];simp) (.vec false (es.set i e')) (by rw[←hE]) rfl rfl a2 a3 (fun o' v' hi'=> ?_) ?_
       ·by_cases hlt:g.o≤o'
        ·rw[hI' o' hlt (by intro e;cases e)]at hi';cases hi'
        ·rw[cell?_of a1]
         simp only[cellOf]
         rw[k_7 _ _ _ _ (.inl (by omega))]
         have:=hw.imm _ _ _ hi'
         rw[cell?_of hh]at this
         exact this
       ·refine .vec false _ _ tt _ a1 (by rw[A_7];exact hz) (by simpa using hcap) ?_ hvs' ?_ (fun e=>by cases e) (fun o' h3 _=>hI' o' h3 (by intro e;cases e))
        ·intro x hx
         rcases List.mem_or_eq_of_mem_set hx with hx|rfl
         ·exact hs x hx
         ·rw[hec];simp[splice];omega
        ·intro j u hj
         rw[hyl']at hj
         rcases Nat.lt_or_ge j (i * g.s+off)with hj1|hj1
         ·rw[List.append_assoc,List.getElem?_append_left (by simp;omega),List.getElem?_take,if_pos hj1]at hj
          rw[k_7 _ _ _ _ (.inl (by omega))];exact har j u hj
         ·rcases Nat.lt_or_ge j (i * g.s+off+n)with hj2|hj2
          ·rw[List.append_assoc,List.getElem?_append_right (by simp;omega),List.getElem?_append_left (by simp;omega)]at hj
           have:=M_0 Y.cells.toList arr (g.o+i * g.s+off) (j-(i * g.s+off)) u (by rw[hyl'];omega) (by rw[←hj];congr 1;simp;omega)
           rw[←this];congr 1;omega
          ·rw[List.getElem?_append_right (by simp;omega),List.getElem?_drop]at hj
           rw[k_7 _ _ _ _ (.inr (by rw[hyl'];omega))]
           refine har j u ?_
           rw[←hj];congr 1;simp;omega
      ·cases h
     ·cases h
   ·cases h
  ·cases h
end
end Go.Abs
namespace Go.Abs
section
variable {P:Program} {T:Tab} {k:K} {st:St} {w:World}
theorem R_(hw:WR k st w)(o:Nat):k.I w.heap.size o=none:=by
 cases e:k.I w.heap.size o with
 |none=>rfl
 |some v=>exact absurd (hw.immLt e) (Nat.lt_irrefl _)
theorem ab_6(hw:WR k st w)(J:Nat→Option Value):k.le (k.lay w.heap.size J):=am_8 hw fun o v v' h=>by rw[R_ hw o]at h;cases h
theorem az_6(hw:WR k st w)(J:Nat→Option Value)(g:G):k.le ((k.lay w.heap.size J).put st.store.length g):=
 ⟨fun r g' h=>by simp only[K.put,K.lay];rw[if_neg (fun e=>by have:=hw.lt h;omega)];exact h,fun b o v h=>(ab_6 hw J).I b o v h⟩
theorem aL_8(hw:WR k st w){v:V}{x:Value}(hv:VR k v x)(t:TypeId):
  ∃k',Later k k' st (st.new (.box v.cells)).1 w {w with heap:=w.heap.push (.cells x.cells t)}∧VR k' (.ptr st.store.length 0) (.pointer (some ⟨w.heap.size,0,none⟩)):=by
 refine⟨_,Later.alloc (st':=(st.new (.box v.cells)).1) hw (.cells x.cells t) (.box v.cells) (fun _=>none) ⟨w.heap.size,0,0,0⟩ rfl rfl rfl rfl rfl (fun o v h=>by cases h) ?_,?_⟩
 ·have hle:=az_6 hw (fun _=>none) ⟨w.heap.size,0,0,0⟩
  refine .box _ x.cells.toList t (by simp) (hv.cells.mono hle) rfl fun o=> ?_
  simp only[K.put,K.lay,if_true]
  exact R_ hw o
 ·have:=VR.ptr (k:=(k.lay w.heap.size fun _=>none).put st.store.length ⟨w.heap.size,0,0,0⟩) st.store.length 0 ⟨w.heap.size,0,0,0⟩ (by simp[K.put])
  exact this
theorem aQ_9(hT:T.Fits P)(hw:WR k st w){t:TypeId}{ti:TI}(ht:T.ty t=some ti):
  ∃x w' k',(Instr.alloc t true (.tuple #[])).run P w= .ok x w'∧Later k k' st (st.new (.box ti.zero.cells)).1 w w'∧VR k' (.ptr st.store.length 0) x:=by
 obtain⟨z,h1,h2⟩:=hT.runZero ht k w
 obtain⟨k',h3,h4⟩:=aL_8 hw h2 t
 exact⟨_,_,k',by simp only[Instr.alloc,Sem.run_bind,h1,Result.andThen_ok,newVar,newRow,run_newObj,Sem.run_pure],h3,h4⟩
theorem bd_2(hw:WR k st w){t:TypeId}{v:V}{x:Value}(hv:VR k v x):
  ∃y w' k',(Instr.box t x).run P w= .ok y w'∧Later k k' st (st.new (.box v.cells)).1 w w'∧VR k' (.ptr st.store.length 0) y:=by
 obtain⟨k',h3,h4⟩:=aL_8 hw hv t
 exact⟨_,_,k',by simp only[Instr.box,Sem.run_bind,Result.andThen_ok,newVar,newRow,run_newObj,Sem.run_pure],h3,h4⟩
theorem I_(z:Array Value):∀n,((Array.range (n * z.size)).map (fun i=>z[i%z.size]!)).toList=(List.replicate n z.toList).flatten
 |0=>by simp
 |n+1=>by
  have ih:=I_ z n
  simp only[Array.toList_map,Array.toList_range]at ih⊢
  rw[Nat.succ_mul,List.range_add,List.map_append,ih,List.replicate_succ',List.flatten_append]
  congr 1
  simp only[List.map_map,List.flatten_singleton]
  apply List.ext_getElem?
  intro i
  rcases Nat.lt_or_ge i z.size with h|h
  ·rw[List.getElem?_map,List.getElem?_range h]
   simp only[Option.map_some,Function.comp_apply]
   rw[Nat.add_comm,Nat.mul_comm,Nat.add_mul_mod_self_left,Nat.mod_eq_of_lt h]
   simp[h]
  ·rw[List.getElem?_eq_none (by simpa using h),List.getElem?_eq_none (by simpa using h)]
theorem P_6{z:V}{Z:Value}(h:VR k z Z):∀n,VRs k ((List.replicate n z).flatMap V.cells) (List.replicate n Z.cells.toList).flatten
 |0=> .nil
 |n+1=>by
  rw[List.replicate_succ,List.replicate_succ,List.flatMap_cons,List.flatten_cons]
  exact h.cells.append (P_6 h n)
theorem av_7(hw:WR k st w)(acc:Bool)(es:List V)(sz cap:Nat)(arr:Array Value)(t:TypeId)(vs:List Value)(hv:VRs k (es.flatMap V.cells) vs)(hs:∀x∈es,x.cells.length=sz)
  (hz:arr.size=cap * sz) (hc:es.length≤cap) (ha:∀(j:Nat) (v:Value),vs[j]? =some v→arr[j]? =some v) {w':World} (hh:w'.heap=w.heap.push (.cells arr t)) (he:Env w w':=by first|exact⟨rfl,rfl,rfl⟩|assumption):
  ∃k',Later k k' st {st with store:=st.store ++[.vec acc es]} w w'∧VR k' (.slice st.store.length sz 0 es.length) (.slice (some ⟨w.heap.size,0,none⟩) es.length cap):=by
 let J:Nat→Option Value:=fun o=>if acc then vs[o]? else none
 have hJ:∀o v,J o=some v→cellOf (.cells arr t) o=some v:=fun o v h=>by
  simp only[J]at h
  split at h
  ·exact ha o v h
  ·cases h
 refine⟨(k.lay w.heap.size J).put st.store.length ⟨w.heap.size,0,sz,cap⟩,Later.alloc hw (.cells arr t) (.vec acc es) J ⟨w.heap.size,0,sz,cap⟩ rfl hh rfl rfl rfl hJ ?_,?_⟩
 ·refine .vec acc es arr t vs rfl (by simpa using hz) hc hs (hv.mono (az_6 hw J _)) (fun j v h=>by simpa using ha j v h) (fun e j v h=> ?_) (fun o _ h2=> ?_)
  ·simp only[K.put,K.lay,if_true,J,e,if_true,Nat.zero_add,h]
  ·simp only[K.put,K.lay,if_true]
   have:J o=none:=by
    simp only[J]
    split
    ·rename_i e
     exact List.getElem?_eq_none (by have:=h2 e;omega)
    ·rfl
   rw[this];exact R_ hw o
 ·have:=VR.slice (k:=(k.lay w.heap.size J).put st.store.length ⟨w.heap.size,0,sz,cap⟩) st.store.length sz 0 es.length ⟨w.heap.size,0,sz,cap⟩ ⟨w.heap.size,0,none⟩ (by simp[K.put]) rfl (by simpa using hc) (fun _=>by simp)
  simpa using this
theorem az_1(hw:WR k st w)(xs:List V)(sz cap:Nat)(arr:Array Value)(t:TypeId)(vs:List Value)(hv:VRs k (xs.flatMap V.cells) vs)(hs:∀x∈xs,x.cells.length=sz)
  (hc:xs.length≤cap) (ha:∀(j:Nat) (v:Value),vs[j]? =some v→arr[j]? =some v) {w':World} {fz:Nat×Nat} (hh:w'.heap=w.heap.push (.cells arr t fz)) (full:Bool) (hf:full=true→cap=xs.length) (he:Env w w':=by first|exact⟨rfl,rfl,rfl⟩|assumption):
  ∃k',Later k k' st st w w'∧VR k' (.list full (some false) xs) (.slice (some ⟨w.heap.size,0,none⟩) xs.length cap):=by
 have hJ:∀o v,(fun o=>vs[o]?) o=some v→cellOf (.cells arr t fz) o=some v:=fun o v h=>ha o v h
 refine⟨k.lay w.heap.size (fun o=>vs[o]?),Later.allocI hw (.cells arr t fz) _ hh hJ,?_⟩
 cases xs with
 |nil=>exact .list0 full (some false) _ cap (fun e=>hf e) (fun e=>by cases e) (fun _=>by simp)
 |cons x xs=>
  refine .list1 full (some false) x xs vs w.heap.size 0 sz cap (hv.mono (ab_6 hw _)) (fun j v h=> ?_) hs (fun e=>hf e) hc (by simp)
  simp only[K.lay,if_true,Nat.zero_add,h]
end
end Go.Abs
namespace Go.Abs
section
variable {P:Program} {T:Tab} {k:K} {st:St} {w:World}
theorem V_6{s:Nat}:∀{parts:List (Nat×V)} {xs ys:List V},(∀x∈xs,x.cells.length=s)→(∀p∈parts,p.2.cells.length=s)→setAll xs parts=some ys→
  fill (fun i=>some (i * s,s)) (xs.flatMap V.cells) parts=some (ys.flatMap V.cells)∧(∀y∈ys,y.cells.length=s)∧ys.length=xs.length
 |[],xs,ys,hx,_,h=>by simp only[setAll,Option.some.injEq]at h;subst h;exact⟨rfl,hx,rfl⟩
 |(i,v)::r,xs,ys,hx,hp,h=>by
  unfold setAll at h
  split at h
  ·rename_i hi
   have hv:v.cells.length=s:=hp (i,v) (by simp)
   have hx':∀x∈xs.set i v,x.cells.length=s:=fun x hm=>by
    rcases List.mem_or_eq_of_mem_set hm with hm|rfl
    ·exact hx x hm
    ·exact hv
   obtain⟨h1,h2,h3⟩:=V_6 hx' (fun p hm=>hp p (by simp[hm])) h
   refine⟨?_,h2,by simpa using h3⟩
   unfold fill
   have he:=List.getElem?_eq_getElem hi
   have hc:=hx _ (List.getElem_mem hi)
   have hmul:i * s+s≤xs.length * s:=by rw[←Nat.succ_mul];exact Nat.mul_le_mul_right _ hi
   simp only
   rw[if_neg (by rw[b_6 xs hx];omega),←h1]
   congr 1
   rw[aj_0 (s:=s) (off:=0) (new:=v.cells) (e:=xs[i]) (by omega) (by simp[splice,hv,hc,List.drop_of_length_le]) hx he]
   simp[splice,hv]
  ·cases h
theorem aa_7(hT:T.Fits P)(hw:WR k st w){t e:TypeId}{ti:TI}{len:Nat}{parts:List (Nat×V)}{parts':Array (Nat×Value)}{xs:List V}(ht:T.und t=some (.slice e))(hti:T.ty e=some ti)
  (hc1:len * ti.size≤2^20) (hc2:ti.size≠0) (hz:ti.zero.cells.length=ti.size) (hp:∀p∈parts,p.2.cells.length=ti.size) (he:parts.map (·.1)=parts'.toList.map (·.1)) (hr:VRs k (parts.map (·.2)) (parts'.toList.map (·.2)))
  (h:setAll (List.replicate len ti.zero) parts=some xs):
  ∃x w' k',(Instr.buildSlice t len parts').run P w= .ok x w'∧Later k k' st st w w'∧VR k' (.list true (some false) xs) x:=by
 obtain⟨z,h1,h2⟩:=hT.runZero hti k w
 have hzl:z.cells.size=ti.size:=by have:=h2.cells.length;simp at this;omega
 obtain⟨hf,hxs,hl⟩:=V_6 (s:=ti.size) (fun x hx=>by rw[List.eq_of_mem_replicate hx];exact hz) hp h
 simp only[List.length_replicate]at hl
 have hzv:VRs k ((List.replicate len ti.zero).flatMap V.cells) ((Array.range (len * ti.size)).map (fun i=>z.cells[i%z.cells.size]!)).toList:=by
  rw[←hzl,I_];exact P_6 h2 len
 obtain⟨vs',hi,hv⟩:=T_2 (place':=fun i=>some (i * ti.size,ti.size)) (fun i x e=>e) hzv he hr hf
 have hvl:vs'.size=len * ti.size:=by have:=hv.length;rw[b_6 _ hxs,hl]at this;simpa using this.symm
 have hlen0:len * ti.size=0→len=0:=fun e=>by rcases Nat.mul_eq_zero.1 e with h|h;exact h;exact absurd h hc2
 obtain⟨k',h3,h4⟩:=az_1 (w':={w with heap:=w.heap.push (.cells vs' e)}) (fz:=(0,0)) hw xs ti.size len vs' e vs'.toList hv hxs (by omega) (fun j v h=>by simpa using h) rfl true (fun _=>hl.symm)
 refine⟨_,_,k',?_,h3,by rw[hl]at h4;exact h4⟩
 simp only[Instr.buildSlice,Sem.run_bind,hT.runUnd ht,Result.andThen_ok,hT.runSize (r_8 hti)]
 rw[if_neg (by omega)]
 by_cases hl0:len * ti.size=0
 ·have:=hlen0 hl0
  subst this
  simp only[Nat.zero_mul,if_true,Sem.run_bind,Sem.run_pure,Result.andThen_ok]
  have e1:((Array.range 0).map fun i=>(#[]:Array Value)[i%(#[]:Array Value).size]!)=(Array.range (0 * ti.size)).map (fun i=>z.cells[i%z.cells.size]!):=by simp
  rw[e1,hi]
  simp only[newRow,Sem.run_bind,run_newObj,Result.andThen_ok,Sem.run_pure]
 ·rw[if_neg hl0]
  simp only[Sem.run_bind,h1,Sem.run_pure,Result.andThen_ok,hi,newRow,run_newObj]
theorem N_0(hT:T.Fits P){t e:TypeId}{ti:TI}{n m:Int}(ht:T.und t=some (.slice e))(hti:T.ty e=some ti)(h0:0≤n)(hnm:n≤m)(hb:m * ti.bytes<2^40)(hm:m<2^40)
  (hs:ti.size≠0) {z:Value} (h1:(zeroValue e).run P w= .ok z w):
  (Instr.makeSlice t (.int .i64 n) (.int .i64 m)).run P w= .ok (.slice (some ⟨w.heap.size,0,none⟩) n.toNat m.toNat) {w with heap:=w.heap.push (.cells ((Array.range (m.toNat * ti.size)).map (fun i=>z.cells[i%z.cells.size]!)) e)}:=by
 obtain⟨info,_,g1,g2,g3,_⟩:=hT.ty e ti hti
 have hwr:∀i:Int,0≤i→i<2^40→IntKind.i64.wrap i=i:=fun i a b=>by
  unfold IntKind.wrap
  have e1:IntKind.i64.bits=64:=rfl
  have e2:IntKind.i64.signed=true:=rfl
  simp only[e1,e2,Bool.true_and,decide_eq_true_eq]
  omega
 have hlarge:∀i:Int,0≤i→i≤m→(i<0||(info.bytes:Int)* i>2^48)=false:=fun i a b=>by
  have:(info.bytes:Int)* i≤ti.bytes * m:=by rw[g3];exact Int.mul_le_mul_of_nonneg_left b (by omega)
  rw[Int.mul_comm m]at hb
  simp only[Bool.or_eq_false_iff,decide_eq_false_iff_not]
  omega
 have hm0:0≤m:=by omega
 simp only[Instr.makeSlice,Sem.run_bind,hT.runUnd ht,Result.andThen_ok,asInt,l_3,Sem.run_pure,typeInfo,run_program,g1,hwr n h0 (by omega),hwr m hm0 hm,hlarge m hm0 (Int.le_refl _)]
 rw[if_neg (by simp;omega)]
 simp only[Sem.run_bind,run_askRoom,Result.andThen_ok,hT.runSize (r_8 hti)]
 by_cases hl0:m.toNat * ti.size=0
 ·have:m.toNat=0:=by rcases Nat.mul_eq_zero.1 hl0 with h|h;exact h;exact absurd h hs
  rw[if_pos hl0]
  have e0:Array.range 0= #[]:=rfl
  simp only[Sem.run_pure,Result.andThen_ok,newRow,Sem.run_bind,run_newObj,this,Nat.zero_mul,e0,Array.map_empty]
 ·rw[if_neg hl0]
  simp only[Sem.run_bind,h1,Sem.run_pure,Result.andThen_ok,newRow,run_newObj]
theorem af_2(hT:T.Fits P)(hw:WR k st w){t e:TypeId}{ti:TI}{n m:Int}(ht:T.und t=some (.slice e))(hti:T.ty e=some ti)(h0:0≤n)(hnm:n≤m)(hb:m * ti.bytes<2^40)(hm:m<2^40)
  (hs:ti.size≠0) (hz:ti.zero.cells.length=ti.size):
  ∃x w' k',(Instr.makeSlice t (.int .i64 n) (.int .i64 m)).run P w= .ok x w'∧Later k k' st (st.new (.vec false (List.replicate n.toNat ti.zero))).1 w w'∧VR k' (.slice st.store.length ti.size 0 n.toNat) x:=by
 obtain⟨z,h1,h2⟩:=hT.runZero hti k w
 have hzl:z.cells.size=ti.size:=by have:=h2.cells.length;simp at this;omega
 have hvs:=P_6 h2 n.toNat
 have harr:((Array.range (m.toNat * ti.size)).map (fun i=>z.cells[i%z.cells.size]!)).toList=(List.replicate m.toNat z.cells.toList).flatten:=by rw[←hzl];exact I_ _ _
 obtain⟨k',h3,h4⟩:=av_7 (w':={w with heap:=w.heap.push (.cells ((Array.range (m.toNat * ti.size)).map (fun i=>z.cells[i%z.cells.size]!)) e)}) hw false (List.replicate n.toNat ti.zero) ti.size m.toNat _ e _ hvs
  (fun x hx=>by rw[List.eq_of_mem_replicate hx];exact hz) (by simp) (by simp;omega) (fun j v h=>by
   rw[←Array.getElem?_toList,harr]
   have e:m.toNat=n.toNat+(m.toNat-n.toNat):=by omega
   rw[e,←List.replicate_append_replicate,List.flatten_append,List.getElem?_append_left (List.getElem?_eq_some_iff.1 h).1]
   exact h) rfl
 exact⟨_,_,k',N_0 hT ht hti h0 hnm hb hm hs h1,h3,by rw[List.length_replicate]at h4;exact h4⟩
theorem Z_0(hT:T.Fits P)(hw:WR k st w){t:TypeId}{r:Option Value}(hr:∀x,r=some x→(∃kd n,x= .int kd n)∧∃a b,T.und t=some (.map a b)):
  ∃x w' k',(Instr.makeMap t r).run P w= .ok x w'∧Later k k' st (st.new (.map [])).1 w w'∧VR k' (.map st.store.length) x:=by
 refine⟨.map (some w.heap.size),{w with heap:=w.heap.push (.map #[] 0)},(k.lay w.heap.size fun _=>none).put st.store.length ⟨w.heap.size,0,0,0⟩,?_,
  Later.alloc hw (.map #[] 0) (.map []) (fun _=>none) ⟨w.heap.size,0,0,0⟩ rfl rfl rfl rfl rfl (fun o v h=>by cases h) ?_, .map _ ⟨w.heap.size,0,0,0⟩ (by simp[K.put])⟩
 ·cases r with
  |none=>rfl
  |some x=>
   obtain⟨⟨kd,n,rfl⟩,a,b,hu⟩:=hr x rfl
   simp only[Instr.makeMap,Sem.run_bind,hT.runUnd hu,Result.andThen_ok,asInt,l_3,Sem.run_pure,run_newObj]
 ·exact .map [] #[] 0 rfl rfl fun i x e h=>by simp at h
theorem at_8{α:Type}(h:Array α)(x:α)(f:α→α):(h.push x).modify h.size f=h.push (f x):=by
 apply Array.ext_getElem?
 intro i
 rw[Array.getElem?_modify,Array.getElem?_push,Array.getElem?_push]
 by_cases e:i=h.size
 ·subst e;simp
 ·simp[e,Ne.symm e]
theorem ag_1(hT:T.Fits P)(hw:WR k st w){src dst e:TypeId}{s:ByteArray}(hs:(T.und src).isSome=true)(hd:T.und dst=some (.slice e))(he:T.und e=some (.int .u8))(hl:s.size<2^40):
  ∃x w' k',(convert src dst (.string s)).run P w= .ok x w'∧Later k k' st st w w'∧VR k' (.list false (some false) (s.data.toList.map fun b=> .int .u8 b.toNat)) x:=by
 obtain⟨ds,hs⟩:=Option.isSome_iff_exists.1 hs
 have hflat:(s.data.toList.map fun b=>V.int .u8 (b.toNat:Int)).flatMap V.cells=s.data.toList.map fun b=>V.int .u8 (b.toNat:Int):=by
  generalize s.data.toList=l
  induction l with
  |nil=>rfl
  |cons a l ih=>rw[List.map_cons,List.flatMap_cons,ih];rfl
 have hv:VRs k (s.data.toList.map fun b=>V.int .u8 (b.toNat:Int)) (s.data.toList.map fun b=>Value.int .u8 (b.toNat:Int)):=by
  generalize s.data.toList=l
  induction l with
  |nil=>exact .nil
  |cons a l ih=>exact .cons (.int _ _) ih
 let q:=Question.appendCap s.size 0 e
 let cap:=q.cut (w.tape w.drawn q)
 have hcap:s.size≤cap:=Nat.le_add_right _ _
 let arr:Array Value:=(s.data.map fun b=>Value.int .u8 (b.toNat:Int)) ++Array.replicate (cap-s.size) (Value.int .u8 0)
 have hsz:arr.size=cap:=by
  have e1:s.data.size=s.size:=rfl
  simp only[arr,Array.size_append,Array.size_map,Array.size_replicate,e1];omega
 let w1:World:={w with drawn:=w.drawn+1}
 have hw1:WR k st w1:=hw.heap rfl
 let w2:World:={w1 with heap:=w1.heap.push (.cells arr e (cap,cap+1))}
 have hlen:(s.data.toList.map fun b=>V.int .u8 (b.toNat:Int)).length=s.size:=by simp
 obtain⟨k',h3,h4⟩:=az_1 (w':=w2) (fz:=(cap,cap+1)) hw1 (s.data.toList.map fun b=>V.int .u8 (b.toNat:Int)) 1 cap arr e _ (by rw[hflat];exact hv) (fun x hx=>by
  obtain⟨b,_,rfl⟩:=List.mem_map.1 hx;rfl) (by rw[hlen];exact hcap) (fun j v h=>by
   have:arr.toList[j]? =some v:=by
    simp only[arr,Array.toList_append,Array.toList_map]
    rw[List.getElem?_append_left (List.getElem?_eq_some_iff.1 h).1];exact h
   simpa using this) rfl false (fun e=>by cases e)
 refine⟨_,w2,k',?_,Later.trans hw (Later.drew (w':=w1) hw rfl) h3,by rw[hlen]at h4;exact h4⟩
 have hrun:(Conv.stringToBytes e s).run P w= .ok (.slice (some ⟨w.heap.size,0,none⟩) s.size cap) w2:=by
  simp only[Conv.stringToBytes,Sem.run_bind,choose,Sem.run,Sem.run_pure']
  rw[show(Question.appendCap s.size 0 e).forced=false from rfl]
  simp only[Bool.false_eq_true,if_false,Result.andThen_ok]
  have e1:(w.heap.push (Obj.cells arr e))[w.heap.size]? =some (Obj.cells arr e):=by simp
  show Result.andThen (Sem.run P (newRow e arr) w1) _=_
  simp only[newRow,Sem.run_bind,run_newObj,Result.andThen_ok,Sem.run_pure,markStringish,run_shape,World.shape?,w1,e1,run_freeze,World.freeze,Nat.one_ne_zero,if_false]
  rw[at_8,hsz]
  rfl
 cases ds<;>(simp only[convert,Sem.run_bind,hT.runUnd hs,hT.runUnd hd,hT.runUnd he,Result.andThen_ok,hrun];rfl)
end
end Go.Abs
namespace Go.Abs
section
variable {P:Program} {T:Tab} {k:K} {st st':St} {w:World}
theorem y_1(hT:T.Fits P){kt:TypeId}{kv:V}{X:Value}(hk:keyOk T kt kv=true)(hx:VR k kv X)(b:Bool)(n:Nat):(Instr.checkKey b (n+1) kt X).run P w= .ok () w:=by
 unfold keyOk at hk
 split at hk
 ·rename_i hu;cases hx;simp only[Instr.checkKey,Sem.run_bind,hT.runUnd hu,Result.andThen_ok];rfl
 ·rename_i hu;cases hx;simp only[Instr.checkKey,Sem.run_bind,hT.runUnd hu,Result.andThen_ok];rfl
 ·cases hk
theorem ad_1(hT:T.Fits P){kt:TypeId}{d:TypeDesc}(hd:T.und kt=some d){a b:V}{A B:Value}(hk:keyOk T kt a=true)(ha:VR k a A)(hb:VR k b B){r:Bool}(h:keyEq a b=some r):
  Instr.sameNow d A B=some r:=by
 unfold keyEq at h
 split at h
 ·cases ha;cases hb
  split at h
  ·rename_i e;cases h;subst e
   unfold keyOk at hk
   rw[hd]at hk
   split at hk
   ·rename_i hu _;cases hu;simp[Instr.sameNow]
   ·rename_i hu he;cases he
   ·cases hk
  ·cases h
 ·cases ha with|str s=>cases hb with|str u=>
  cases h
  unfold keyOk at hk
  rw[hd]at hk
  split at hk
  ·rename_i hu he;cases he
  ·rename_i hu _;cases hu
   simp only[Instr.sameNow,beq_toListBytes,ByteArray.toList_eq]
  ·cases hk
 ·cases h
def ERel(k:K)(es:List (V×V))(ents:List MapEntry):Prop:=ents.length=es.length∧∀(i:Nat) (x:V×V) (e:MapEntry),es[i]? =some x→ents[i]? =some e→VR k x.1 e.key∧VR k x.2 e.val
theorem ERel.tail{x:V×V}{es:List (V×V)}{e:MapEntry}{ents:List MapEntry}(h:ERel k (x::es) (e::ents)):ERel k es ents:=
 ⟨by have:=h.1;simpa using this,fun i y f h1 h2=>h.2 (i+1) y f (by simpa using h1) (by simpa using h2)⟩
def FRel(k:K):Option (Nat×V)→Option (Nat×Value)→Prop
 |none,none=>True
 |some (i,v),some (j,x)=>i=j∧VR k v x
 |_,_=>False
theorem aa_0(hT:T.Fits P){kt:TypeId}{d:TypeDesc}(hd:T.und kt=some d){kv:V}{X:Value}(hk:keyOk T kt kv=true)(hx:VR k kv X):∀{es:List (V×V)} {ents:List MapEntry} {i:Nat} {r:Option (Nat×V)},
  ERel k es ents→findKey kv es i=some r→∃r',Instr.findNow d X ents i=some r'∧FRel k r r'
 |[],ents,i,r,he,h=>by
  have:ents=[]:=List.eq_nil_of_length_eq_zero (by simpa using he.1)
  subst this
  simp only[findKey,Option.some.injEq]at h
  subst h;exact⟨none,rfl,trivial⟩
 |(k',v)::es,ents,i,r,he,h=>by
  cases ents with
  |nil=>have:=he.1;simp at this
  |cons e ents=>
   have h0:=he.2 0 (k',v) e rfl rfl
   unfold findKey at h
   unfold Instr.findNow
   split at h
   ·rename_i e1
    cases h
    rw[ad_1 hT hd hk hx h0.1 e1]
    exact⟨_,rfl,rfl,h0.2⟩
   ·rename_i e1
    rw[ad_1 hT hd hk hx h0.1 e1]
    exact aa_0 hT hd hk hx he.tail h
   ·cases h
theorem aM_9{kt:TypeId}{kv:V}(hk:keyOk T kt kv=true):∃d,T.und kt=some d:=by
 unfold keyOk at hk
 split at hk
 ·rename_i h;exact⟨_,h⟩
 ·rename_i h;exact⟨_,h⟩
 ·cases hk
theorem J_(hT:T.Fits P){kt:TypeId}{kv:V}{X:Value}(hk:keyOk T kt kv=true)(hx:VR k kv X){es:List (V×V)}{ents:List MapEntry}{r:Option (Nat×V)}(he:ERel k es ents)(h:findKey kv es 0=some r):
  ∃r',(Instr.findKey kt X ents).run P w= .ok r' w∧FRel k r r':=by
 obtain⟨d,hd⟩:=aM_9 hk
 obtain⟨r',h1,h2⟩:=aa_0 hT hd hk hx he h
 exact⟨r',by simp only[Instr.findKey,Sem.run_bind,hT.runUnd hd,Result.andThen_ok,h1,Sem.run_pure],h2⟩
theorem q_6{b:Nat}{ents:Array MapEntry}{clock:Nat}(h:w.heap[b]? =some (.map ents clock)):(getObj b).run P w= .ok (.map ents clock) w:=by
 simp[getObj,Sem.run,h]
theorem ax_(hw:WR k st w){r:Nat}{g:G}(hg:k.ρ r=some g){es:List (V×V)}(h:st.store[r]? =some (.map es)):∃ents clock,w.heap[g.b]? =some (.map ents clock)∧ERel k es ents.toList:=by
 obtain⟨ob,h1,h2⟩:=hw.obj r g hg
 rw[h]at h1;cases h1
 cases h2 with
 |map es ents clock hh hl he=>exact⟨ents,clock,hh,by simpa using hl,fun i x e a b=>he i x e a (by simpa using b)⟩
theorem ab_2(hT:T.Fits P)(hw:WR k st w){t:TypeId}{m kv:V}{M X:Value}{ok:Bool}{v:V}(hm:VR k m M)(hx:VR k kv X)(h:evLookup T st t m kv ok=some v):
  Gives P k w (Instr.lookup t M X ok) v:=by
 unfold evLookup at h
 split at h
 ·rename_i kt et ht
  split at h
  ·rename_i hk
   split at h
   ·cases h
   ·rename_i ti hti
    obtain⟨z,hz1,hz2⟩:=hT.runZero hti k w
    have ans:∀(y:V) (Y:Value) (b:Bool),VR k y Y→VR k (if ok then .tup [y, .bool b]else y) (if ok=true then Value.tuple #[Y, .bool b]else Y):=fun y Y b hy=>by
     cases ok with
     |true=>exact .tup _ [Y, .bool b] (.cons hy (.cons (.bool b) .nil))
     |false=>exact hy
    simp only at h
    split at h
    ·cases h
     cases hm
     refine⟨_,?_,ans _ z false hz2⟩
     simp only[Instr.lookup,Sem.run_bind,hT.runUnd ht,Result.andThen_ok,Sem.run_pure,y_1 hT hk hx]
     obtain⟨r',h1,h2⟩:=J_ (w:=w) hT hk hx (es:=[]) (ents:=[]) ⟨rfl,fun i x e h=>by simp at h⟩ rfl
     cases r' with
     |some q=>exact h2.elim
     |none=>
      have h1':(Instr.findKey kt X (#[]:Array MapEntry).toList).run P w= .ok none w:=h1
      simp only[h1',Result.andThen_ok,Sem.run_bind,hz1,Sem.run_pure]
    ·rename_i r
     cases hm with|map _ g hg=>
     split at h
     ·rename_i es hes
      obtain⟨ents,clock,hh,he⟩:=ax_ hw hg hes
      have hbase:∀(r:Option (Nat×V)),findKey kv es 0=some r→∃r',(Instr.findKey kt X ents.toList).run P w= .ok r' w∧FRel k r r':=fun r e=>J_ hT hk hx he e
      split at h
      ·rename_i i y e
       cases h
       obtain⟨r',h1,h2⟩:=hbase _ e
       cases r' with
       |none=>exact h2.elim
       |some q=>
        refine⟨_,?_,ans _ q.2 true h2.2⟩
        simp only[Instr.lookup,Sem.run_bind,hT.runUnd ht,Result.andThen_ok,Sem.run_pure,q_6 hh,y_1 hT hk hx,h1]
      ·rename_i e
       cases h
       obtain⟨r',h1,h2⟩:=hbase _ e
       cases r' with
       |some q=>exact h2.elim
       |none=>
        refine⟨_,?_,ans _ z false hz2⟩
        simp only[Instr.lookup,Sem.run_bind,hT.runUnd ht,Result.andThen_ok,Sem.run_pure,q_6 hh,y_1 hT hk hx,h1,hz1]
      ·cases h
     ·cases h
    ·cases h
  ·cases h
 ·cases h
theorem S_4{kv:V}:∀{es:List (V×V)} {i j:Nat} {v:V},findKey kv es i=some (some (j,v))→i≤j∧∃k',es[j-i]? =some (k',v)∧keyEq kv k'=some true
 |[],i,j,v,h=>by simp[findKey]at h
 |(k',u)::es,i,j,v,h=>by
  unfold findKey at h
  split at h
  ·rename_i e;cases h;exact⟨Nat.le_refl _,k',by simp,e⟩
  ·rename_i e
   obtain⟨h1,k2,h2,h3⟩:=S_4 h
   refine⟨by omega,k2,?_,h3⟩
   rw[show j-i=(j-(i+1))+1 from by omega,List.getElem?_cons_succ];exact h2
  ·cases h
theorem keyStays{a b:V}{A B:Value}(ha:VR k a A)(hb:VR k b B)(h:keyEq a b=some true):(Instr.keyThatStays B A).run P w= .ok A w:=by
 have:Instr.sameBits 10000 B A=true:=by
  unfold keyEq at h
  split at h
  ·cases ha;cases hb
   split at h
   ·rename_i e;subst e;simp only[Option.some.injEq,beq_iff_eq]at h;subst h;simp[Instr.sameBits]
   ·cases h
  ·cases ha with|str s=>cases hb with|str u=>
   simp only[Option.some.injEq,beq_iff_eq]at h
   simp only[Instr.sameBits,beq_toListBytes,ByteArray.toList_eq,h,beq_self_eq_true]
  ·cases h
 simp only[Instr.keyThatStays,this,if_true,Sem.run_pure]
theorem K_0(hT:T.Fits P)(hw:WR k st w){t:TypeId}{m kv v:V}{M X Y:Value}(hm:VR k m M)(hx:VR k kv X)(hy:VR k v Y)(h:evMapUpdate T st t m kv v=some st'):
  ∃w',(Instr.mapUpdate t M X Y).run P w= .ok () w'∧Later k k st st' w w':=by
 unfold evMapUpdate at h
 split at h
 ·rename_i kt et r ht
  cases hm with|map _ g hg=>
  split at h
  ·cases h
  ·rename_i hlk
   split at h
   ·rename_i hk
    split at h
    ·rename_i es hes
     obtain⟨ents,clock,hh,he⟩:=ax_ hw hg hes
     have hlt:g.b<w.heap.size:=hw.bound r g hg
     have hturn:∀(es':List (V×V)) (ents':Array MapEntry) (clock':Nat),ERel k es' ents'.toList→Later k k st {st with store:=st.store.set r (.map es')} w {w with heap:=w.heap.setIfInBounds g.b (.map ents' clock')}:=by
      intro es' ents' clock' he'
      refine Later.turn hw hg (by simpa using hlk) (by rw[hes];simp) (.map es') rfl rfl rfl (by simp) (fun b hb=>by rw[Array.getElem?_setIfInBounds_ne (Ne.symm hb)]) (fun o v hi=> ?_) ?_
      ·have:=hw.imm _ _ _ hi
       rw[cell?_of hh]at this;cases this
      ·refine .map es' ents' clock' ?_ (by simpa using he'.1) fun i x e a b=>he'.2 i x e a (by simpa using b)
       rw[Array.getElem?_setIfInBounds_self_of_lt hlt]
     have hset:∀ob,(setObj g.b ob).run P w= .ok () {w with heap:=w.heap.setIfInBounds g.b ob}:=fun ob=>by simp[setObj,Sem.run,hh]
     split at h
     ·rename_i i y e
      cases h
      obtain⟨r',h1,h2⟩:=J_ (w:=w) hT hk hx he e
      cases r' with
      |none=>exact h2.elim
      |some q=>
       obtain⟨j,Q⟩:=q
       obtain⟨rfl,_⟩:=h2
       obtain⟨_,k2,h3,h4⟩:=S_4 e
       simp only[Nat.sub_zero]at h3
       have hil:i<ents.size:=by
        have:=(List.getElem?_eq_some_iff.1 h3).1;have:=he.1;simp at this;omega
       have hent:ents[i]? =some ents[i]:=Array.getElem?_eq_getElem hil
       have hrel:=he.2 i (k2,y) ents[i] h3 (by simpa using hent)
       refine⟨_,?_,hturn (es.set i (kv,v)) (ents.modify i fun e=>{e with key:=X,val:=Y}) clock ?_⟩
       ·simp only[Instr.mapUpdate,Sem.run_bind,hT.runUnd ht,Result.andThen_ok,q_6 hh,y_1 hT hk hx,h1,hent,Option.map_some,Option.getD_some,keyStays hx hrel.1 h4,hset]
       ·refine⟨by simpa using he.1,fun j x f a b=> ?_⟩
        have b':(ents.modify i fun e=>{e with key:=X,val:=Y})[j]? =some f:=by rw[←Array.getElem?_toList];exact b
        rw[Array.getElem?_modify]at b'
        by_cases e1:i=j
        ·subst e1
         rw[List.getElem?_set_self (by have:=he.1;simp at this;omega)]at a
         cases a
         rw[if_pos rfl,hent]at b'
         cases b'
         exact⟨hx,hy⟩
        ·rw[List.getElem?_set_ne e1]at a
         rw[if_neg e1]at b'
         exact he.2 j x f a (by simpa using b')
     ·rename_i e
      cases h
      obtain⟨r',h1,h2⟩:=J_ (w:=w) hT hk hx he e
      cases r' with
      |some q=>exact h2.elim
      |none=>
       refine⟨_,?_,hturn (es ++[(kv,v)]) (ents.push {key:=X,val:=Y,born:=clock}) (clock+1) ?_⟩
       ·simp only[Instr.mapUpdate,Sem.run_bind,hT.runUnd ht,Result.andThen_ok,q_6 hh,y_1 hT hk hx,h1,hset]
       ·refine⟨by have:=he.1;simp at this⊢;omega,fun j x f a b=> ?_⟩
        have hl:ents.size=es.length:=by simpa using he.1
        have b':(ents.push {key:=X,val:=Y,born:=clock})[j]? =some f:=by rw[←Array.getElem?_toList];exact b
        rw[Array.getElem?_push]at b'
        by_cases e1:j=ents.size
        ·subst e1
         rw[if_pos rfl]at b'
         rw[hl]at a
         simp at a
         cases b'
         subst a
         exact⟨hx,hy⟩
        ·rw[if_neg e1]at b'
         have hj:j<es.length:=by have:=(Array.getElem?_eq_some_iff.1 b').1;omega
         rw[List.getElem?_append_left hj]at a
         exact he.2 j x f a (by simpa using b')
     ·cases h
    ·cases h
   ·cases h
 ·cases h
end
end Go.Abs
namespace Go.Abs
section
variable {P:Program} {T:Tab} {k:K} {st st':St} {w:World}
theorem ac_7{need old:Nat}(h:old≤need):Builtin.nextslicecap need old≤16 * need:=by
 unfold Builtin.nextslicecap
 split
 ·omega
 ·split
  ·omega
  ·rename_i h1 h2
   have step:∀(n:Nat) (c:Nat),256≤c→Builtin.growBy need n c≤2^n * c:=by
    intro n
    induction n with
    |zero=>intro c _;simp[Builtin.growBy]
    |succ n ih=>
     intro c hc
     simp only[Builtin.growBy]
     split
     ·rw[Nat.pow_succ,Nat.mul_right_comm]
      have:1≤2^n:=Nat.one_le_two_pow
      have h3:c≤2^n * c:=Nat.le_mul_of_pos_left c this
      omega
     ·refine Nat.le_trans (ih _ (by omega)) ?_
      rw[Nat.pow_succ,Nat.mul_assoc]
      exact Nat.mul_le_mul_left _ (by omega)
   have:=step 4 old (by omega)
   omega
structure Src(P:Program)(k:K)(w:World)(size:Nat)(new:List V)(Y:Value)(ns:List Value):Prop where
 vr:VRs k (new.flatMap V.cells) ns
 len:(Builtin.lenOf Y).run P w= .ok new.length w
 cells:(Builtin.firstCells size new.length Y).run P w= .ok ns.toArray w
 front:∀n,n≤new.length→(Builtin.firstCells size n Y).run P w= .ok (ns.take (n * size)).toArray w
theorem aK_(l:List UInt8):(l.map fun b=>V.int .u8 (b.toNat:Int)).flatMap V.cells=l.map fun b=>V.int .u8 (b.toNat:Int):=by
 induction l with
 |nil=>rfl
 |cons a l ih=>rw[List.map_cons,List.flatMap_cons,ih];rfl
theorem aW_1(l:List UInt8):VRs k (l.map fun b=>V.int .u8 (b.toNat:Int)) (l.map fun b=>Value.int .u8 (b.toNat:Int)):=by
 induction l with
 |nil=>exact .nil
 |cons a l ih=>exact .cons (.int _ _) ih
theorem g_8{b o n:Nat}{vs:List Value}(h:w.rangeAt b o vs)(hn:vs.length=n):(loadCells ⟨b,o,none⟩ n).run P w= .ok vs.toArray w:=by
 subst hn
 exact run_loadCells_list (P:=P) w ⟨b,o,none⟩ vs fun j v hj=>by rw[Addr.add_mid];exact h j v hj
theorem ad_2{b o:Nat}{vs:List Value}(h:w.rangeAt b o vs)(n:Nat):w.rangeAt b o (vs.take n):=fun j v hj=>by
 rw[List.getElem?_take]at hj
 split at hj
 ·exact h j v hj
 ·cases hj
theorem k_5(a:Addr):(loadCells a 0).run P w= .ok #[] w:=rfl
theorem O_6(hw:WR k st w){r:Nat}{g:G}(hg:k.ρ r=some g){acc:Bool}{es:List V}(he:rowA (st.store[r]?)=some (acc,es))(off len:Nat)(hle:off+len≤es.length):
  ∃vs,VRs k (((es.drop off).take len).flatMap V.cells) vs∧vs.length=len * g.s∧w.rangeAt g.b (g.o+off * g.s) vs∧(∀x∈es,x.cells.length=g.s)∧es.length≤g.cap:=by
 obtain⟨ob,h1,h2⟩:=hw.obj r g hg
 rw[h1]at he
 cases av_5 h2 he with
 |vec acc es arr t vs hh hz hc hs hv ha hI hI'=>
  have hv2:VRs k (((es.drop off).take len).flatMap V.cells) ((vs.drop (off * g.s)).take (len * g.s)):=by
   rw[I_2 _ (fun x hx=>hs x (List.mem_of_mem_drop hx)),y_4 _ hs];exact(hv.drop _).take _
  refine⟨_,hv2,?_,fun j v hj=> ?_,hs,hc⟩
  ·rw[←hv2.length,b_6 _ (fun x hx=>hs x (List.mem_of_mem_drop (List.mem_of_mem_take hx)))]
   simp only[List.length_take,List.length_drop]
   rw[Nat.min_eq_left (by omega)]
  ·rw[cell?_of hh]
   have:=ha _ _ (z_0 hj)
   simp only[cellOf]
   rw[Nat.add_assoc];exact this
theorem ay_8(hw:WR k st w){y:V}{Y:Value}{new:List V}{size:Nat}(hy:VR k y Y)(h:srcElems st y=some new)(hs:∀v∈new,v.cells.length=size)(h1:size≠0):∃ns,∀w',w'.heap=w.heap→Src P k w' size new Y ns:=by
 unfold srcElems at h
 split at h
 ·cases h
  obtain⟨base,cap,rfl,hc,_,_,_,h3⟩:=K_4 hy
  by_cases hne:new=[]
  ·subst hne
   have key:∀w':World,(Builtin.firstCells size 0 (.slice base 0 cap)).run P w'= .ok #[] w':=fun w'=>by
    cases base with
    |none=>rfl
    |some a=>simp only[Builtin.firstCells,Nat.zero_mul,k_5]
   refine⟨[],fun w' hh=>⟨.nil,rfl,key w',fun n hn=> ?_⟩⟩
   have:n=0:=by simpa using hn
   subst this;simpa using key w'
  ·obtain⟨b,o,s,vs,rfl,hv,hI,hsz⟩:=h3 hne
   have e:s=size:=by
    cases new with
    |nil=>exact absurd rfl hne
    |cons x xs=>rw[←hs x (by simp),←hsz x (by simp)]
   subst e
   have hvl:vs.length=new.length * s:=by rw[←hv.length,b_6 _ hsz]
   have hr:∀w':World,w'.heap=w.heap→w'.rangeAt b o vs:=fun w' hh j v hj=>(cell?_congr (w:=w) (by rw[hh])).trans (hw.imm _ _ _ (hI j v hj))
   refine⟨vs,fun w' hh=>⟨hv,rfl,?_,fun n hn=> ?_⟩⟩
   ·simp only[Builtin.firstCells]
    exact g_8 (hr w' hh) hvl
   ·simp only[Builtin.firstCells]
    exact g_8 (ad_2 (hr w' hh) _) (by rw[List.length_take,hvl];exact Nat.min_eq_left (Nat.mul_le_mul_right _ hn))
 ·rename_i r s off len
  cases hy with|slice _ _ _ _ g a hg hgs hl ha=>
  split at h
  ·rename_i acc es he
   split at h
   ·rename_i hle
    cases h
    have hlen:((es.drop off).take len).length=len:=by simp;omega
    obtain⟨vs,hv,hvl,hr,hsz,hcap⟩:=O_6 hw hg he off len hle
    by_cases h0:len=0
    ·subst h0
     refine⟨[],fun w' hh=>⟨by simpa using .nil,by simp[Builtin.lenOf],?_,fun n hn=> ?_⟩⟩
     ·simp only[Builtin.firstCells,hlen,Nat.zero_mul,k_5]
     ·have:n=0:=by rw[hlen]at hn;omega
      subst this
      simp only[Builtin.firstCells,Nat.zero_mul,k_5,List.take_nil]
    ·have e:g.s=size:=by
      have hne:(es.drop off).take len≠[]:=fun e=>by rw[e]at hlen;simp at hlen;omega
      obtain⟨x,hx⟩:=List.exists_mem_of_ne_nil _ hne
      rw[←hs x hx,←hsz x (List.mem_of_mem_drop (List.mem_of_mem_take hx))]
     have hr':∀w':World,w'.heap=w.heap→w'.rangeAt g.b (g.o+off * g.s) vs:=fun w' hh j v hj=>(cell?_congr (w:=w) (by rw[hh])).trans (hr j v hj)
     refine⟨vs,fun w' hh=>⟨hv,by rw[hlen];rfl,?_,fun n hn=> ?_⟩⟩
     ·rw[ha (by omega),hlen]
      simp only[Builtin.firstCells]
      rw[←hgs]
      exact g_8 (hr' w' hh) (by rw[hvl,e])
     ·rw[ha (by omega)]
      simp only[Builtin.firstCells]
      rw[hlen]at hn
      rw[←hgs]
      exact g_8 (ad_2 (hr' w' hh) _) (by rw[List.length_take,hvl,e];exact Nat.min_eq_left (Nat.mul_le_mul_right _ hn))
   ·cases h
  ·cases h
 ·cases h
  cases hy with|str s=>
  refine⟨s.data.toList.map fun b=>Value.int .u8 (b.toNat:Int),fun w' hh=>⟨by rw[aK_];exact aW_1 _,by simp[Builtin.lenOf],?_,fun n hn=> ?_⟩⟩
  ·simp only[Builtin.firstCells,Sem.run_pure]
   congr 1
   apply Array.ext'
   simp
  ·simp only[Builtin.firstCells,Sem.run_pure]
   congr 1
   apply Array.ext'
   simp only[Array.toList_map,Y_5,List.drop_zero,Nat.sub_zero]
   by_cases h0:n=0
   ·subst h0;simp
   ·have:size=1:=by
     cases hl:s.data.toList with
     |nil=>rw[hl]at hn;simp at hn;omega
     |cons b l=>have:=hs (.int .u8 b.toNat) (by rw[hl];simp);exact this.symm
    rw[this,Nat.mul_one,List.map_take]
 ·cases h
def grown(w:World)(need cap:Nat)(e:TypeId):Nat:=(Question.appendCap need cap e).cut (w.tape w.drawn (Question.appendCap need cap e))
theorem P_1(w:World)(need cap:Nat)(e:TypeId):need≤grown w need cap e:=Nat.le_add_right _ _
theorem s_6(hT:T.Fits P){t tx ty e:TypeId}{ts:Array TypeId}(hts0:ts[0]? =some t)(hts1:ts[1]? =some tx){ti:TI}{d:TypeDesc}{z:Value}(ht:T.und t=some (.slice e))(htx:T.und tx=some d)(hd:∀kd,d≠ .int kd)(hti:T.ty e=some ti)
  (hz:∀w',(zeroValue e).run P w'= .ok z w') {base:Option Addr} {sLen sCap n:Nat} {Y:Value} {olds news:List Value} (hn:sCap<sLen+n) (hb:(sLen+n)* ti.bytes<2^40) (hb0:ti.bytes≠0)
  (hlen:(Builtin.lenOf Y).run P w= .ok n w) (ho:∀w',w'.heap=w.heap→(Builtin.firstCells ti.size sLen (.slice base sLen sCap)).run P w'= .ok olds.toArray w') (hs:∀w',w'.heap=w.heap→(Builtin.firstCells ti.size n Y).run P w'= .ok news.toArray w'):
  (Builtin.append_ ts ty #[.slice base sLen sCap,Y]).run P w= .ok (.slice (some ⟨w.heap.size,0,none⟩) (sLen+n) (grown w (sLen+n) sCap e))
   {w with drawn:=w.drawn+1,heap:=w.heap.push (.cells (olds.toArray ++news.toArray ++Builtin.zeroCells z.cells (grown w (sLen+n) sCap e-(sLen+n))) e)}:=by
 obtain⟨info,_,g1,g2,g3,_⟩:=hT.ty e ti hti
 have hcap:¬(Builtin.nextslicecap (sLen+n) sCap * info.bytes>2^48):=by
  have h1:=ac_7 (need:=sLen+n) (old:=sCap) (by omega)
  have h2:=Nat.mul_le_mul_right info.bytes h1
  rw[g3]at h2⊢
  rw[Nat.mul_assoc]at h2
  omega
 have hbi:info.bytes≠0:=by rw[g3];exact hb0
 let w1:World:={w with drawn:=w.drawn+1}
 have ho1:=ho w1 rfl
 have hs1:=hs w1 rfl
 have hn':¬(sLen+n≤sCap):=by omega
 have hq:(Question.appendCap (sLen+n) sCap e).forced=false:=rfl
 simp only[Builtin.append_,hts0,hts1,List.getElem?_toArray,List.getElem?_cons_zero,List.getElem?_cons_succ,Sem.run_bind,hT.runUnd ht,hT.runUnd htx,hT.runSize (r_8 hti),Result.andThen_ok,Sem.run_pure,Bool.false_eq_true,if_false,hlen,hn',
  false_or,typeInfo,run_program,g1,hbi,and_false,hcap]
 have hch:(choose (Question.appendCap (sLen+n) sCap e)).run P w= .ok (grown w (sLen+n) sCap e) w1:=rfl
 simp only[hch,Result.andThen_ok,run_askRoom,ho1,Bool.not_false,if_true,hs1,hz,newRow,Sem.run_bind,run_newObj,Sem.run_pure]
 rfl
theorem A_0(hT:T.Fits P){t tx ty e:TypeId}{ts:Array TypeId}(hts0:ts[0]? =some t)(hts1:ts[1]? =some tx){ti:TI}{d:TypeDesc}(ht:T.und t=some (.slice e))(htx:T.und tx=some d)(hd:∀kd,d≠ .int kd)(hti:T.ty e=some ti)
  {b o sLen sCap n:Nat} {Y:Value} {news:List Value} {w':World} (hn:sLen+n≤sCap)
  (hlen:(Builtin.lenOf Y).run P w= .ok n w) (hs:(Builtin.firstCells ti.size n Y).run P w= .ok news.toArray w) (hst:(storeCells ⟨b,o+sLen * ti.size,none⟩ news).run P w= .ok () w'):
  (Builtin.append_ ts ty #[.slice (some ⟨b,o,none⟩) sLen sCap,Y]).run P w= .ok (.slice (some ⟨b,o,none⟩) (sLen+n) sCap) w':=by
 simp only[Builtin.append_,hts0,hts1,List.getElem?_toArray,List.getElem?_cons_zero,List.getElem?_cons_succ,Sem.run_bind,hT.runUnd ht,hT.runUnd htx,hT.runSize (r_8 hti),Result.andThen_ok,Sem.run_pure,Bool.false_eq_true,if_false,hlen,hn,if_true,
  Bool.not_false,hs,Addr.add_mid,hst]
theorem V_3(hT:T.Fits P){t tx ty e:TypeId}{ts:Array TypeId}(hts0:ts[0]? =some t)(hts1:ts[1]? =some tx){ti:TI}{d:TypeDesc}(ht:T.und t=some (.slice e))(htx:T.und tx=some d)(hd:∀kd,d≠ .int kd)(hti:T.ty e=some ti)
  {base:Option Addr} {sLen sCap:Nat} {Y:Value} (hn:sLen≤sCap)
  (hlen:(Builtin.lenOf Y).run P w= .ok 0 w) (hs:(Builtin.firstCells ti.size 0 Y).run P w= .ok #[] w):
  (Builtin.append_ ts ty #[.slice base sLen sCap,Y]).run P w= .ok (.slice base sLen sCap) w:=by
 simp only[Builtin.append_,hts0,hts1,List.getElem?_toArray,List.getElem?_cons_zero,List.getElem?_cons_succ,Sem.run_bind,hT.runUnd ht,hT.runUnd htx,hT.runSize (r_8 hti),Result.andThen_ok,Sem.run_pure,Bool.false_eq_true,if_false,hlen,Nat.add_zero,hn,if_true,
  Bool.not_false,hs]
 cases base<;>simp only[Sem.run_pure,Result.andThen_ok,storeCells,Sem.run_bind]
end
end Go.Abs
namespace Go.Abs
section
variable {P:Program} {T:Tab} {k:K} {st st':St} {w:World}
theorem am_4(hw:WR k st w){full:Bool}{nl:Option Bool}{xs:List V}{size:Nat}{X:Value}(hx:VR k (.list full nl xs) X)(hs:∀v∈xs,v.cells.length=size):
  ∃base cap olds,X= .slice base xs.length cap∧xs.length≤cap∧(full=true→cap=xs.length)∧VRs k (xs.flatMap V.cells) olds∧∀w',w'.heap=w.heap→(Builtin.firstCells size xs.length (.slice base xs.length cap)).run P w'= .ok olds.toArray w':=by
 obtain⟨base,cap,rfl,hc,hf,_,_,h3⟩:=K_4 hx
 by_cases hne:xs=[]
 ·subst hne
  refine⟨base,cap,[],rfl,hc,hf, .nil,fun w' _=> ?_⟩
  cases base with
  |none=>rfl
  |some a=>simp only[Builtin.firstCells,List.length_nil,Nat.zero_mul,k_5]
 ·obtain⟨b,o,s,vs,rfl,hv,hI,hsz⟩:=h3 hne
  have e:s=size:=by
   cases xs with
   |nil=>exact absurd rfl hne
   |cons x xs=>rw[←hs x (by simp),←hsz x (by simp)]
  subst e
  refine⟨_,cap,vs,rfl,hc,hf,hv,fun w' hh=> ?_⟩
  simp only[Builtin.firstCells]
  exact g_8 (fun j v hj=>(cell?_congr (w:=w) (by rw[hh])).trans (hw.imm _ _ _ (hI j v hj))) (by rw[←hv.length,b_6 _ hsz])
theorem K_3(z:Array Value)(n:Nat):Builtin.zeroCells z n=(Array.range (n * z.size)).map (fun i=>z[i%z.size]!):=rfl
theorem U_4{sz:Nat}{l:List V}(h:l.all (fun v=>v.cells.length==sz&&v.cells.all V.oneCell)=true):(∀v∈l,v.cells.length=sz)∧(l.flatMap V.cells).all V.oneCell=true:=by
 induction l with
 |nil=>exact⟨(fun v hv=>by cases hv),rfl⟩
 |cons a l ih=>
  simp only[List.all_cons,Bool.and_eq_true,beq_iff_eq]at h
  obtain⟨h1,h2⟩:=ih h.2
  refine⟨fun v hv=> ?_,by rw[List.flatMap_cons,List.all_append,h.1.2,h2];rfl⟩
  cases hv with
  |head=>exact h.1.1
  |tail _ hv=>exact h1 v hv
theorem az_8(hw:WR k st w){e:TypeId}{ti:TI}{z:Value}(hzs:z.cells.size=ti.size){acc:Bool}{xs:List V}{olds news:List Value}(ho:VRs k (xs.flatMap V.cells) (olds ++news))
  (hs:∀v∈xs,v.cells.length=ti.size) {cap:Nat} (hc:xs.length≤cap) {w':World}
  (hh:w'.heap=w.heap.push (.cells (olds.toArray ++news.toArray ++Builtin.zeroCells z.cells (cap-xs.length)) e)) (he:Env w w':=by first|exact⟨rfl,rfl,rfl⟩|assumption):
  ∃k',Later k k' st {st with store:=st.store ++[.vec acc xs]} w w'∧VR k' (.slice st.store.length ti.size 0 xs.length) (.slice (some ⟨w.heap.size,0,none⟩) xs.length cap):=by
 have hl:(olds ++news).length=xs.length * ti.size:=by rw[←ho.length,b_6 _ hs]
 refine av_7 hw acc xs ti.size cap _ e (olds ++news) ho hs ?_ hc (fun j v h=> ?_) hh
 ·simp only[Array.size_append,List.size_toArray,K_3,Array.size_map,Array.size_range,hzs]
  rw[←List.length_append,hl,←Nat.add_mul]
  congr 1;omega
 ·rw[←Array.getElem?_toList]
  simp only[Array.toList_append]
  rw[List.getElem?_append_left (List.getElem?_eq_some_iff.1 h).1]
  exact h
theorem af_9(hT:T.Fits P)(hw:WR k st w){t tx ty:TypeId}{ts:Array TypeId}(hts0:ts[0]? =some t)(hts1:ts[1]? =some tx){d:TypeDesc}(htx:T.und tx=some d)(hd:∀kd,d≠ .int kd){x y:V}{X Y:Value}{spread:Bool}{v:V}
  (hx:VR k x X) (hy:VR k y Y) (h:W_5 T st t spread x y=some (v,st')):
  ∃z w' k',(Builtin.append_ ts ty #[X,Y]).run P w= .ok z w'∧Later k k' st st' w w'∧VR k' v z:=by
 unfold W_5 at h
 split at h
 ·rename_i e ht
  split at h
  ·cases h
  ·rename_i ti hti
   split at h
   ·cases h
   ·rename_i new hnew
    split at h
    ·cases h
    ·rename_i hc
     simp only[not_or,Bool.not_eq_false]at hc
     obtain⟨hall,hs0,hb0⟩:=hc
     obtain⟨hns,hone⟩:=U_4 hall
     obtain⟨ns,hsrc⟩:=ay_8 (P:=P) hw hy hnew hns hs0
     have S:=hsrc w rfl
     obtain⟨z,hz1,hz2⟩:=hT.runZero hti k w
     have hzs:z.cells.size=ti.size:=by have:=hz2.cells.length;rw[hT.zs e ti hti]at this;simpa using this.symm
     have hzany:∀w',(zeroValue e).run P w'= .ok z w':=fun w'=>by
      obtain⟨info,z',g1,_,_,g4,g5,_⟩:=hT.ty e ti hti
      have hzz:z'=z:=by
       have:(zeroValue e).run P w= .ok z' w:=by simp[zeroValue,typeInfo,g1,g4]
       rw[this]at hz1;cases hz1;rfl
      subst hzz
      simp[zeroValue,typeInfo,g1,g4]
     split at h
     ·
      rename_i hemp
      have hnil:new=[]:=by simpa using hemp
      subst hnil
      have hn0:ns=[]:=List.eq_nil_of_length_eq_zero (by rw[←S.vr.length];rfl)
      subst hn0
      have key:∀base sLen sCap,sLen≤sCap→X= .slice base sLen sCap→VR k v X→st'=st→∃z w' k',(Builtin.append_ ts ty #[X,Y]).run P w= .ok z w'∧Later k k' st st' w w'∧VR k' v z:=by
       intro base sLen sCap hle hX hv hst
       subst hX;subst hst
       exact⟨_,w,k,V_3 hT hts0 hts1 ht htx hd hti hle S.len S.cells, .refl hw,hv⟩
      split at h
      ·cases h
       obtain⟨base,cap,rfl,hc,_⟩:=K_4 hx
       exact key base _ cap hc rfl hx rfl
      ·cases h
       cases hx with|slice _ _ _ _ g a hg hgs hl ha=>
       exact key (some a) _ _ (by omega) rfl (.slice _ _ _ _ g a hg hgs hl ha) rfl
      ·cases h
     ·rename_i hemp
      have hpos:0<new.length:=by
       cases new with
       |nil=>simp at hemp
       |cons a l=>simp
      split at h
      ·
       rename_i nl xs
       split at h
       ·rename_i hcc
        obtain⟨hbytes,hxall⟩:=hcc
        cases h
        obtain⟨hxs,_⟩:=U_4 hxall
        obtain⟨base,cap,olds,rfl,hc,hf,hov,hol⟩:=am_4 (P:=P) hw hx hxs
        have hcap:=hf rfl
        have hrun:=s_6 (w:=w) hT (ty:=ty) hts0 hts1 ht htx hd hti hzany (base:=base) (sLen:=xs.length) (sCap:=cap) (by omega) hbytes hb0 S.len hol fun w' hh=>(hsrc w' hh).cells
        obtain⟨k',h1,h2⟩:=az_8 (acc:= !spread) (xs:=xs ++new) (cap:=grown w (xs.length+new.length) cap e) hw hzs (by rw[List.flatMap_append];exact hov.append S.vr)
         (fun v hv=>by rcases List.mem_append.1 hv with h|h;exact hxs v h;exact hns v h) (by rw[List.length_append];exact P_1 _ _ _ _)
         (w':={w with drawn:=w.drawn+1,heap:=w.heap.push (.cells (olds.toArray ++ns.toArray ++Builtin.zeroCells z.cells (grown w (xs.length+new.length) cap e-(xs.length+new.length))) e)}) (by rw[List.length_append])
        rw[List.length_append]at h2
        exact⟨_,_,k',hrun,h1,h2⟩
       ·cases h
      ·
       rename_i r s off len
       cases hx with|slice _ _ _ _ g a hg hgs hl ha=>
       split at h
       ·cases h
       ·rename_i hlk
        simp only[not_or,Decidable.not_not]at hlk
        obtain⟨hlk,rfl⟩:=hlk
        have hlk':st.locked r=false:=by simpa using hlk
        split at h
        ·rename_i acc es hes
         obtain⟨ob,h1,h2⟩:=hw.obj r g hg
         rw[hes]at h1;cases h1
         cases h2 with
         |vec _ _ arr tt vs hh hz hcap hs hv har hI hI'=>
         have hvl:vs.length=es.length * g.s:=by rw[←hv.length,b_6 es hs]
         have hnl:ns.length=new.length * ti.size:=by rw[←S.vr.length,b_6 new hns]
         have hns1:=A_9 S.vr hone
         split at h
         ·
          rename_i hcc
          obtain⟨hend,hbytes⟩:=hcc
          cases h
          by_cases hroom:len+new.length≤g.cap-off
          ·
           have ha':=ha (by omega)
           subst ha'
           have hm1:(off+len+new.length)* g.s≤g.cap * g.s:=Nat.mul_le_mul_right _ (by omega)
           have hm2:(off+len+new.length)* g.s=off * g.s+len * g.s+new.length * g.s:=by rw[Nat.add_mul,Nat.add_mul]
           have hst:=h_1 (P:=P) w g.b (g.o+off * ti.size+len * ti.size) tt arr ns hh (by rw[hz,hnl,←hgs];omega) hns1
           obtain⟨a1,a2,a3⟩:=l_2 g.b tt ns (g.o+off * ti.size+len * ti.size) w arr hh
           let g':G:=⟨g.b,g.o+off * g.s,g.s,g.cap-off⟩
           let vs':=vs.drop (off * g.s) ++ns
           let acc':=acc||es.isEmpty
           have hvs':VRs k ((es.drop off ++new).flatMap V.cells) vs':=by rw[List.flatMap_append,y_4 _ hs];exact(hv.drop _).append S.vr
           have hes2:es.length * g.s=off * g.s+len * g.s:=by rw[←hend,Nat.add_mul]
           have hvdl:(vs.drop (off * g.s)).length=len * g.s:=by rw[List.length_drop,hvl];omega
           have hget:∀(j:Nat) (u:Value),vs'[j]? =some u→(lays arr (g.o+off * ti.size+len * ti.size) ns)[g.o+off * g.s+j]? =some u:=by
            intro j u hj
            rcases Nat.lt_or_ge j (len * g.s)with hlt|hge
            ·rw[List.getElem?_append_left (by rw[hvdl];exact hlt),List.getElem?_drop]at hj
             rw[k_7 _ _ _ _ (.inl (by rw[←hgs];omega)),Nat.add_assoc]
             exact har _ _ hj
            ·rw[List.getElem?_append_right (by rw[hvdl];exact hge),hvdl]at hj
             have:=M_0 ns arr (g.o+off * ti.size+len * ti.size) (j-len * g.s) u (by rw[hz,hnl,←hgs];omega) hj
             rw[←this];congr 1;rw[←hgs];omega
           let J:Nat→Option Value:=fun o=>if acc'=true∧g.o+off * g.s≤o then vs'[o-(g.o+off * g.s)]? else none
           have hJ:∀o u u',k.I g.b o=some u→J o=some u'→u'=u:=by
            intro o u u' hi hj
            simp only[J]at hj
            split at hj
            ·rename_i hc'
             by_cases hin:acc=true∧o<g.o+vs.length
             ·have hlt:o-(g.o+off * g.s)<len * g.s:=by omega
              rw[List.getElem?_append_left (by rw[hvdl];exact hlt),List.getElem?_drop]at hj
              have:=hI hin.1 _ _ hj
              rw[show g.o+(off * g.s+(o-(g.o+off * g.s)))=o from by omega,hi]at this
              cases this;rfl
             ·have:k.I g.b o=none:=hI' o (by omega) fun e=>by
               rcases Nat.lt_or_ge o (g.o+vs.length)with h|h
               ·exact absurd ⟨e,h⟩ hin
               ·exact h
              rw[this]at hi;cases hi
            ·cases hj
           have hcell:∀o u,(lays arr (g.o+off * ti.size+len * ti.size) ns)[o]? =some u→(w.setCells g.b (g.o+off * ti.size+len * ti.size) ns).cell? ⟨g.b,o,none⟩=some u:=fun o u h=>by rw[cell?_of a1];exact h
           refine⟨_,_,_,A_0 hT hts0 hts1 ht htx hd hti hroom S.len S.cells hst,Later.grow (he:=p_2 _ _ _ _) (g':=g') hw hg hlk' (by rw[hes];simp) (.vec acc' (es.drop off ++new)) rfl J hJ ?_ rfl rfl rfl a2 a3 ?_ ?_,?_⟩
           ·intro o u hj
            simp only[J]at hj
            split at hj
            ·rename_i hc'
             have:=hget _ _ hj
             rw[show g.o+off * g.s+(o-(g.o+off * g.s))=o from by omega]at this
             exact hcell o u this
            ·cases hj
           ·intro o u hi
            rw[cell?_of a1]
            simp only[cellOf]
            have hold:=hw.imm _ _ _ hi
            rw[cell?_of hh]at hold
            have hlt:o<g.o+off * ti.size+len * ti.size:=by
             rcases Nat.lt_or_ge o (g.o+off * ti.size+len * ti.size)with h|h
             ·exact h
             ·rw[hI' o (by omega) (fun _=>by rw[hvl,hes2,hgs];omega)]at hi;cases hi
            rw[k_7 _ _ _ _ (.inl hlt)]
            exact hold
           ·have hle:k.le ((k.lay g.b J).put st.store.length g'):=(am_8 hw hJ).trans
             ⟨fun r g' h=>by simp only[K.put];rw[if_neg (fun e=>by have:=hw.lt h;omega)];exact h,fun _ _ _ h=>h⟩
            refine .vec acc' _ _ tt vs' a1 ?_ ?_ ?_ (hvs'.mono hle) hget ?_ ?_
            ·rw[A_7,hz]
             simp only[g']
             rw[Nat.sub_mul]
             have:off * g.s≤g.cap * g.s:=Nat.mul_le_mul_right _ (by omega)
             omega
            ·simp only[List.length_append,List.length_drop,g'];omega
            ·intro u hu
             rcases List.mem_append.1 hu with h|h
             ·exact hs u (List.mem_of_mem_drop h)
             ·simp only[g'];rw[hgs];exact hns u h
            ·intro e j u hj
             simp only[K.put,K.lay,g',if_true,J]
             rw[if_pos ⟨e,by omega⟩,show g.o+off * g.s+j-(g.o+off * g.s)=j from by omega,hj]
            ·intro o h3 h4
             simp only[K.put,K.lay,g',if_true]at h3 h4⊢
             have hvl':vs'.length=len * g.s+ns.length:=by simp only[vs',List.length_append,hvdl]
             have hj:J o=none:=by
              simp only[J]
              split
              ·rename_i hc'
               have:=h4 hc'.1
               exact List.getElem?_eq_none (by omega)
              ·rfl
             rw[hj]
             simp only
             refine hI' o (by omega) fun e=> ?_
             have:=h4 (by simp only[acc',e,Bool.true_or])
             omega
           ·have:=VR.slice (k:=(k.lay g.b J).put st.store.length g') st.store.length g.s 0 (len+new.length) g' ⟨g.b,g.o+off * g.s,none⟩ (by simp[K.put]) rfl (by simp only[g'];omega) (fun _=>by simp[g'])
            simpa[g',hgs]using this
          ·
           obtain⟨vs1,hv1,hvl1,hr1,_,_⟩:=O_6 hw hg (by rw[hes];rfl) off len (by omega)
           have hdead:Later k k st {st with store:=st.store.set r .dead} w w:=Later.turn hw hg hlk' (by rw[hes];simp) .dead rfl rfl rfl rfl (fun _ _=>rfl) (fun o v hi=>hw.imm _ _ _ hi) .dead
           have hw1:=hdead.wr
           have hlen1:((es.drop off).take len)=es.drop off:=List.take_of_length_le (by simp;omega)
           rw[hlen1]at hv1
           have hol:∀w',w'.heap=w.heap→(Builtin.firstCells ti.size len (.slice (some a) len (g.cap-off))).run P w'= .ok vs1.toArray w':=by
            intro w' hh'
            simp only[Builtin.firstCells]
            by_cases h0:len=0
            ·subst h0
             have:vs1=[]:=List.eq_nil_of_length_eq_zero (by rw[hvl1];simp)
             subst this
             simp only[Nat.zero_mul,k_5]
            ·rw[ha (by omega),←hgs]
             exact g_8 (fun j v hj=>(cell?_congr (w:=w) (by rw[hh'])).trans (hr1 j v hj)) hvl1
           have hrun:=s_6 (w:=w) hT (ty:=ty) hts0 hts1 ht htx hd hti hzany (base:=some a) (sLen:=len) (sCap:=g.cap-off) (by omega) hbytes hb0 S.len hol fun w' hh=>(hsrc w' hh).cells
           have hlen2:(es.drop off ++new).length=len+new.length:=by simp;omega
           obtain⟨k',h1,h2⟩:=az_8 (acc:=acc||es.isEmpty) (xs:=es.drop off ++new) (cap:=grown w (len+new.length) (g.cap-off) e) hw1 hzs (by rw[List.flatMap_append];exact hv1.append S.vr)
            (fun v hv=>by rcases List.mem_append.1 hv with h|h;exact(hs v (List.mem_of_mem_drop h)).trans hgs;exact hns v h) (by rw[hlen2];exact P_1 _ _ _ _)
            (w':={w with drawn:=w.drawn+1,heap:=w.heap.push (.cells (vs1.toArray ++ns.toArray ++Builtin.zeroCells z.cells (grown w (len+new.length) (g.cap-off) e-(len+new.length))) e)}) (by rw[hlen2])
           rw[hlen2]at h2
           simp only[List.length_set]at h2
           exact⟨_,_,k',hrun,hdead.trans hw h1,h2⟩
         ·split at h
          ·
           rename_i hcc
           obtain⟨rfl,hin⟩:=hcc
           cases h
           have ha':=ha (by omega)
           subst ha'
           have hm1:(off+len+new.length)* g.s≤es.length * g.s:=Nat.mul_le_mul_right _ hin
           have hm0:es.length * g.s≤g.cap * g.s:=Nat.mul_le_mul_right _ hcap
           have hm2:(off+len+new.length)* g.s=off * g.s+len * g.s+new.length * g.s:=by rw[Nat.add_mul,Nat.add_mul]
           have hst:=h_1 (P:=P) w g.b (g.o+off * ti.size+len * ti.size) tt arr ns hh (by rw[hz,hnl,←hgs];omega) hns1
           obtain⟨a1,a2,a3⟩:=l_2 g.b tt ns (g.o+off * ti.size+len * ti.size) w arr hh
           have hvs':VRs k ((es.take (off+len) ++new ++es.drop (off+len+new.length)).flatMap V.cells) (vs.take ((off+len)* g.s) ++ns ++vs.drop ((off+len+new.length)* g.s)):=by
            rw[List.flatMap_append,List.flatMap_append,I_2 _ hs,y_4 _ hs]
            exact((hv.take _).append S.vr).append (hv.drop _)
           refine⟨_,_,k,A_0 hT hts0 hts1 ht htx hd hti (by omega) S.len S.cells hst,Later.turn (he:=p_2 _ _ _ _) hw hg hlk' (by rw[hes];simp) (.vec false (es.take (off+len) ++new ++es.drop (off+len+new.length))) rfl rfl rfl a2 a3 ?_ ?_,?_⟩
           ·intro o u hi
            by_cases hlt:g.o≤o
            ·rw[hI' o hlt (by intro e;cases e)]at hi;cases hi
            ·rw[cell?_of a1]
             simp only[cellOf]
             rw[k_7 _ _ _ _ (.inl (by omega))]
             have:=hw.imm _ _ _ hi
             rw[cell?_of hh]at this
             exact this
           ·refine .vec false _ _ tt _ a1 (by rw[A_7];exact hz) (by simp;omega) ?_ hvs' ?_ (fun e=>by cases e) (fun o' h3 _=>hI' o' h3 (by intro e;cases e))
            ·intro u hu
             rcases List.mem_append.1 hu with h|h
             ·rcases List.mem_append.1 h with h|h
              ·exact hs u (List.mem_of_mem_take h)
              ·rw[hgs];exact hns u h
             ·exact hs u (List.mem_of_mem_drop h)
            ·intro j u hj
             have e1:(vs.take ((off+len)* g.s)).length=off * g.s+len * g.s:=by rw[List.length_take,hvl,Nat.add_mul];omega
             rcases Nat.lt_or_ge j (off * g.s+len * g.s)with hj1|hj1
             ·rw[List.append_assoc,List.getElem?_append_left (by rw[e1];exact hj1),List.getElem?_take]at hj
              split at hj
              ·rw[k_7 _ _ _ _ (.inl (by rw[←hgs];omega))];exact har j u hj
              ·cases hj
             ·rcases Nat.lt_or_ge j (off * g.s+len * g.s+new.length * g.s)with hj2|hj2
              ·rw[List.append_assoc,List.getElem?_append_right (by rw[e1];exact hj1),e1,List.getElem?_append_left (by rw[hnl,←hgs];omega)]at hj
               have:=M_0 ns arr (g.o+off * ti.size+len * ti.size) (j-(off * g.s+len * g.s)) u (by rw[hz,hnl,←hgs];omega) hj
               rw[←this];congr 1;rw[←hgs];omega
              ·rw[List.getElem?_append_right (by rw[List.length_append,e1,hnl,←hgs];omega),List.length_append,e1,hnl,←hgs,List.getElem?_drop]at hj
               rw[k_7 _ _ _ _ (.inr (by rw[hnl,←hgs];omega))]
               refine har j u ?_
               rw[←hj];congr 1;omega
           ·exact .slice r ti.size off (len+new.length) g _ hg hgs (by omega) (fun _=>rfl)
          ·cases h
        ·cases h
      ·cases h
 ·cases h
theorem aM_5(hw:WR k st w){e:TypeId}{ti:TI}{z:Value}(hzs:z.cells.size=ti.size){xs:List V}{olds news:List Value}(ho:VRs k (xs.flatMap V.cells) (olds ++news))
  (hs:∀v∈xs,v.cells.length=ti.size) {cap:Nat} (hc:xs.length≤cap) {w':World}
  (hh:w'.heap=w.heap.push (.cells (olds.toArray ++news.toArray ++Builtin.zeroCells z.cells (cap-xs.length)) e)) (he:Env w w':=by first|exact⟨rfl,rfl,rfl⟩|assumption):
  ∃k',Later k k' st {st with store:=st.store ++[.way xs]} w w'∧VR k' (.slice st.store.length ti.size 0 xs.length) (.slice (some ⟨w.heap.size,0,none⟩) xs.length cap):=by
 have hl:(olds ++news).length=xs.length * ti.size:=by rw[←ho.length,b_6 _ hs]
 refine⟨(k.lay w.heap.size (fun _=>none)).put st.store.length ⟨w.heap.size,0,ti.size,cap⟩,Later.alloc hw (.cells _ e) (.way xs) (fun _=>none) ⟨w.heap.size,0,ti.size,cap⟩ rfl hh rfl rfl rfl (fun o v h=>by cases h) (.way _ ?_),?_⟩
 ·refine .vec false xs _ e (olds ++news) rfl ?_ hc hs (ho.mono (az_6 hw _ _)) (fun j v h=> ?_) (fun e=>by cases e) (fun o _ _=> ?_)
  ·simp only[Array.size_append,List.size_toArray,K_3,Array.size_map,Array.size_range,hzs,Nat.zero_add]
   rw[←List.length_append,hl,←Nat.add_mul]
   congr 1;omega
  ·rw[←Array.getElem?_toList]
   simp only[Array.toList_append,Nat.zero_add]
   rw[List.getElem?_append_left (List.getElem?_eq_some_iff.1 h).1]
   exact h
  ·simp only[K.put,K.lay,if_true];exact R_ hw o
 ·have:=VR.slice (k:=(k.lay w.heap.size (fun _=>none)).put st.store.length ⟨w.heap.size,0,ti.size,cap⟩) st.store.length ti.size 0 xs.length ⟨w.heap.size,0,ti.size,cap⟩ ⟨w.heap.size,0,none⟩ (by simp[K.put]) rfl (by simpa using hc) (fun _=>by simp)
  simpa using this
theorem ag_2(hT:T.Fits P)(hw:WR k st w){t tx ty:TypeId}{ts:Array TypeId}(hts0:ts[0]? =some t)(hts1:ts[1]? =some tx){d:TypeDesc}(htx:T.und tx=some d)(hd:∀kd,d≠ .int kd){x y:V}{X Y:Value}{v:V}
  (hx:VR k x X) (hy:VR k y Y) (h:evAppendW T st t x y=some (v,st')):
  ∃z w' k',(Builtin.append_ ts ty #[X,Y]).run P w= .ok z w'∧Later k k' st st' w w'∧VR k' v z:=by
 unfold evAppendW at h
 split at h
 case h_2=>cases h
 rename_i e ht
 split at h
 ·cases h
 rename_i ti hti
 split at h
 ·cases h
 rename_i new hnew
 split at h
 ·cases h
 rename_i hc
 simp only[not_or,Bool.not_eq_false]at hc
 obtain⟨hall,hs0,hb0,hemp⟩:=hc
 obtain⟨hns,hone⟩:=U_4 hall
 obtain⟨ns,hsrc⟩:=ay_8 (P:=P) hw hy hnew hns hs0
 have S:=hsrc w rfl
 obtain⟨z,hz1,hz2⟩:=hT.runZero hti k w
 have hzs:z.cells.size=ti.size:=by have:=hz2.cells.length;rw[hT.zs e ti hti]at this;simpa using this.symm
 have hzany:∀w',(zeroValue e).run P w'= .ok z w':=fun w'=>by
  obtain⟨info,z',g1,_,_,g4,g5,_⟩:=hT.ty e ti hti
  have hzz:z'=z:=by
   have:(zeroValue e).run P w= .ok z' w:=by simp[zeroValue,typeInfo,g1,g4]
   rw[this]at hz1;cases hz1;rfl
  subst hzz
  simp[zeroValue,typeInfo,g1,g4]
 have hpos:0<new.length:=by
  cases new with
  |nil=>simp at hemp
  |cons a l=>simp
 split at h
 ·
  rename_i nl
  split at h
  case isFalse=>cases h
  rename_i hbytes
  cases h
  obtain⟨base,cap,olds,rfl,hc,hf,hov,hol⟩:=am_4 (P:=P) hw hx (size:=ti.size) (fun v hv=>by cases hv)
  have hcap:=hf rfl
  have hrun:=s_6 (w:=w) hT (ty:=ty) hts0 hts1 ht htx hd hti hzany (base:=base) (sLen:=0) (sCap:=cap) (by simp at hcap;omega) (by simpa using hbytes) hb0 S.len hol fun w' hh=>(hsrc w' hh).cells
  obtain⟨k',h1,h2⟩:=aM_5 (e:=e) (xs:=[] ++new) (cap:=grown w (0+new.length) cap e) hw hzs (by rw[List.flatMap_append];exact hov.append S.vr)
   (fun v hv=>by rcases List.mem_append.1 hv with h|h;cases h;exact hns v h) (by rw[List.length_append];exact P_1 _ _ _ _)
   (w':={w with drawn:=w.drawn+1,heap:=w.heap.push (.cells (olds.toArray ++ns.toArray ++Builtin.zeroCells z.cells (grown w (0+new.length) cap e-(0+new.length))) e)}) (by simp only[List.length_append,List.length_nil])
  simp only[List.nil_append,Nat.zero_add]at h1 h2 hrun
  exact⟨_,_,k',hrun,h1,h2⟩
 ·
  rename_i r s off len
  cases hx with|slice _ _ _ _ g a hg hgs hl ha=>
  split at h
  ·cases h
  rename_i hlk
  simp only[not_or,Decidable.not_not]at hlk
  obtain⟨hlk,rfl,rfl⟩:=hlk
  have hlk':st.locked r=false:=by simpa using hlk
  split at h
  case h_2=>cases h
  rename_i es hes
  split at h
  case isFalse=>cases h
  rename_i hcc
  obtain⟨rfl,hbytes,hprot⟩:=hcc
  cases h
  have hkill:=Later.kill hw hlk' hprot
  have hw1:=hkill.wr
  have hes1:(killW r st.store)[r]? =some (.way es):=by
   rw[B_0,hes];simp
  obtain⟨ob,h1,h2⟩:=hw.obj r g hg
  rw[hes]at h1;cases h1
  cases h2 with|way _ h2=>
  have h2':=h2
  cases h2 with
  |vec _ _ arr tt vs hh hz hcap hs hv har hI hI'=>
  have hvl:vs.length=es.length * g.s:=by rw[←hv.length,b_6 es hs]
  have hnl:ns.length=new.length * ti.size:=by rw[←S.vr.length,b_6 new hns]
  have hns1:=A_9 S.vr hone
  by_cases hroom:es.length+new.length≤g.cap-0
  ·
   have ha':=ha (by omega)
   subst ha'
   have hm1:(es.length+new.length)* g.s≤g.cap * g.s:=Nat.mul_le_mul_right _ (by omega)
   have hm2:(es.length+new.length)* g.s=es.length * g.s+new.length * g.s:=by rw[Nat.add_mul]
   have hst:=h_1 (P:=P) w g.b (g.o+0 * ti.size+es.length * ti.size) tt arr ns hh (by rw[hz,hnl,←hgs];omega) hns1
   obtain⟨a1,a2,a3⟩:=l_2 g.b tt ns (g.o+0 * ti.size+es.length * ti.size) w arr hh
   have hout:∀(o:Nat),o<g.o+es.length * g.s→(lays arr (g.o+0 * ti.size+es.length * ti.size) ns)[o]? =arr[o]? :=fun o ho=>k_7 _ _ _ _ (.inl (by rw[←hgs];omega))
   have hblk:∀es',es'.length≤es.length→OR k g w.heap[g.b]? (.vec false es')→OR k g (w.setCells g.b (g.o+0 * ti.size+es.length * ti.size) ns).heap[g.b]? (.vec false es'):=by
    intro es' hle ho
    cases ho with
    |vec _ _ arr2 tt2 vs2 hh2 hz2 hcap2 hs2 hv2 har2 hI2 hI2'=>
     rw[hh]at hh2;cases hh2
     have hvl2:vs2.length=es'.length * g.s:=by rw[←hv2.length,b_6 es' hs2]
     have hm3:es'.length * g.s≤es.length * g.s:=Nat.mul_le_mul_right _ hle
     exact .vec false es' _ tt vs2 a1 (by rw[A_7];exact hz2) hcap2 hs2 hv2 (fun j u hj=>by
      have:=(List.getElem?_eq_some_iff.1 hj).1
      rw[hout _ (by omega)];exact har2 j u hj) (fun e=>by cases e) hI2'
   have hle:k.le (k.put (killW r st.store).length g):=
    ⟨fun r g' h=>by simp only[K.put];rw[if_neg (fun e=>by have:=hw1.lt h;simp only at this;omega)];exact h,fun _ _ _ h=>h⟩
   have hgrow:Later k (k.put (killW r st.store).length g) {st with store:=killW r st.store} {st with store:=killW r st.store ++[.way (es ++new)]} w (w.setCells g.b (g.o+0 * ti.size+es.length * ti.size) ns):=by
    refine Later.wayGrow (he:=p_2 _ _ _ _) hw1 hg hlk' hes1 ?_ (by simp) rfl rfl rfl a2 a3 hblk ?_ ?_
    ·intro x es' hx
     rcases Nat.lt_or_ge r x with hlt|hge
     ·simp only[B_0]at hx
      cases ho:st.store[x]? with
      |none=>rw[ho]at hx;cases hx
      |some o=>
       rw[ho]at hx
       simp only[Option.map_some,Option.some.injEq]at hx
       split at hx
       ·cases hx
       ·rename_i hn;subst hx;exact absurd ⟨hlt,rfl⟩ hn
     ·exact hge
    ·intro o u hi
     rw[cell?_of a1]
     simp only[cellOf]
     have hold:=hw.imm _ _ _ hi
     rw[cell?_of hh]at hold
     rcases Nat.lt_or_ge o g.o with hlt|hge
     ·rw[hout o (by omega)];exact hold
     ·rw[hI' o hge (fun e=>by cases e)]at hi;cases hi
    ·refine .vec false _ _ tt (vs ++ns) a1 (by rw[A_7];exact hz) (by simp;omega) ?_ ?_ ?_ (fun e=>by cases e) (fun o h3 _=> ?_)
     ·intro u hu
      rcases List.mem_append.1 hu with h|h
      ·exact hs u h
      ·rw[hgs];exact hns u h
     ·rw[List.flatMap_append];exact(hv.append S.vr).mono hle
     ·intro j u hj
      rcases Nat.lt_or_ge j vs.length with hlt|hge
      ·rw[List.getElem?_append_left hlt]at hj
       rw[hout _ (by omega)];exact har j u hj
      ·rw[List.getElem?_append_right hge]at hj
       have:=M_0 ns arr (g.o+0 * ti.size+es.length * ti.size) (j-vs.length) u (by rw[hz,hnl,←hgs];omega) hj
       rw[←this];congr 1;rw[hvl,←hgs];omega
     ·exact hI' o h3 (fun e=>by cases e)
   have hrun:=A_0 (P:=P) hT hts0 hts1 ht htx hd (ty:=ty) hti hroom S.len S.cells hst
   refine⟨_,_,_,hrun,hkill.trans hw hgrow,?_⟩
   have:=VR.slice (k:=k.put (killW r st.store).length g) st.store.length g.s 0 (es.length+new.length) g ⟨g.b,g.o,none⟩ (by simp[K.put,I_4]) rfl (by omega) (fun _=>by simp)
   simpa[hgs]using this
  ·
   obtain⟨vs1,hv1,hvl1,hr1,_,_⟩:=O_6 hw hg (acc:=false) (es:=es) (by rw[hes];rfl) 0 es.length (by omega)
   have hlen1:((es.drop 0).take es.length)=es:=by simp
   rw[hlen1]at hv1
   have hol:∀w',w'.heap=w.heap→(Builtin.firstCells ti.size es.length (.slice (some a) es.length (g.cap-0))).run P w'= .ok vs1.toArray w':=by
    intro w' hh'
    simp only[Builtin.firstCells]
    by_cases h0:es.length=0
    ·have:vs1=[]:=List.eq_nil_of_length_eq_zero (by rw[hvl1,h0];simp)
     subst this
     rw[h0]
     simp only[Nat.zero_mul,k_5]
    ·rw[ha (by omega),←hgs]
     exact g_8 (fun j v hj=>(cell?_congr (w:=w) (by rw[hh'])).trans (hr1 j v hj)) hvl1
   have hrun:=s_6 (w:=w) hT (ty:=ty) hts0 hts1 ht htx hd hti hzany (base:=some a) (sLen:=es.length) (sCap:=g.cap-0) (by omega) hbytes hb0 S.len hol fun w' hh=>(hsrc w' hh).cells
   have hlen2:(es ++new).length=es.length+new.length:=by simp
   obtain⟨k',h1,h2⟩:=aM_5 (e:=e) (st:={st with store:=killW r st.store}) (xs:=es ++new) (cap:=grown w (es.length+new.length) (g.cap-0) e) hw1 hzs (by rw[List.flatMap_append];exact hv1.append S.vr)
    (fun v hv=>by rcases List.mem_append.1 hv with h|h;exact(hs v h).trans hgs;exact hns v h) (by rw[hlen2];exact P_1 _ _ _ _)
    (w':={w with drawn:=w.drawn+1,heap:=w.heap.push (.cells (vs1.toArray ++ns.toArray ++Builtin.zeroCells z.cells (grown w (es.length+new.length) (g.cap-0) e-(es.length+new.length))) e)}) (by rw[hlen2])
   rw[hlen2]at h2
   simp only[I_4]at h2
   exact⟨_,_,k',hrun,hkill.trans hw h1,h2⟩
 ·cases h
theorem S_5(hT:T.Fits P)(hw:WR k st w){t tx ty:TypeId}{ts:Array TypeId}(hts0:ts[0]? =some t)(hts1:ts[1]? =some tx){d:TypeDesc}(htx:T.und tx=some d)(hd:∀kd,d≠ .int kd){x y:V}{X Y:Value}{spread:Bool}{v:V}
  (hx:VR k x X) (hy:VR k y Y) (h:evAppend T st t spread x y=some (v,st')):
  ∃z w' k',(Builtin.append_ ts ty #[X,Y]).run P w= .ok z w'∧Later k k' st st' w w'∧VR k' v z:=by
 unfold evAppend at h
 split at h
 ·exact ag_2 hT hw hts0 hts1 htx hd hx hy h
 ·exact af_9 hT hw hts0 hts1 htx hd hx hy h
end
end Go.Abs
namespace Go.Abs
section
variable {P:Program} {T:Tab} {k:K} {st st':St} {w:World} {fr:Fr} {a:Act}
theorem Z_8(hT:T.Fits P)(hw:WR k st w){t tx ty:TypeId}{ts:Array TypeId}(hts0:ts[0]? =some t)(hts1:ts[1]? =some tx){kd:IntKind}(htx:T.und tx=some (.int kd)){x y:V}{X Y:Value}{v:V}
  (hx:VR k x X) (hy:VR k y Y) (h:evAppendZeros T st t x y=some (v,st')):
  ∃z w' k',(Builtin.append_ ts ty #[X,Y]).run P w= .ok z w'∧Later k k' st st' w w'∧VR k' v z:=by
 unfold evAppendZeros at h
 split at h
 ·rename_i e nl n ht
  split at h
  ·cases h
  ·rename_i ti hti
   split at h
   ·rename_i hc
    obtain⟨hn0,hnb,hn40,hs0,hb0,_⟩:=hc
    cases h
    obtain⟨base,cap,rfl,_,hf,_⟩:=K_4 hx
    have:=hf rfl
    simp only[List.length_nil]at this
    subst this
    cases hy
    obtain⟨info,z,g1,g2,g3,g4,g5,_⟩:=hT.ty e ti hti
    have hz:=z_7 k z _ g5
    have hzs:z.cells.size=ti.size:=by have:=hz.cells.length;rw[hT.zs e ti hti]at this;simpa using this.symm
    have hwr:IntKind.i64.wrap n=n:=by
     unfold IntKind.wrap
     have e1:IntKind.i64.bits=64:=rfl
     have e2:IntKind.i64.signed=true:=rfl
     simp only[e1,e2,Bool.true_and,decide_eq_true_eq]
     omega
    have hzero:∀w',(zeroValue e).run P w'= .ok z w':=fun w'=>by simp[zeroValue,typeInfo,g1,g4]
    have hnl:¬(n<0):=by omega
    have hlarge:¬(n *(info.bytes:Int)>2^48):=by rw[g3];omega
    have hN:0<n.toNat:=by omega
    have hmul:n.toNat * ti.bytes<2^40:=by
     have e1:(n.toNat:Int)=n:=Int.toNat_of_nonneg (by omega)
     have:((n.toNat * ti.bytes:Nat):Int)<2^40:=by rw[Int.natCast_mul,e1];exact hnb
     exact_mod_cast this
    have hnc:¬(Builtin.nextslicecap n.toNat 0 * info.bytes>2^48):=by
     have h1:=Nat.mul_le_mul_right info.bytes (ac_7 (need:=n.toNat) (old:=0) (by omega))
     rw[g3]at h1⊢
     rw[Nat.mul_assoc]at h1
     omega
    let w1:World:={w with drawn:=w.drawn+1}
    let c:=grown w n.toNat 0 e
    have hc:n.toNat≤c:=P_1 _ _ _ _
    have hw1:WR k st w1:=hw.heap rfl
    have hvs:=P_6 hz n.toNat
    have hzl:∀m,(Builtin.zeroCells z.cells m).toList=(List.replicate m z.cells.toList).flatten:=fun m=>I_ _ _
    obtain⟨k',h1,h2⟩:=av_7 (w':={w1 with heap:=w1.heap.push (.cells (#[] ++Builtin.zeroCells z.cells n.toNat ++Builtin.zeroCells z.cells (c-n.toNat)) e)}) hw1 false (List.replicate n.toNat ti.zero) ti.size c _ e _ hvs
     (fun x hx=>by rw[List.eq_of_mem_replicate hx];exact hT.zs e ti hti)
     (by simp only[Array.size_append,K_3,Array.size_map,Array.size_range,hzs,List.size_toArray,List.length_nil,Nat.zero_add,←Nat.add_mul];congr 1;omega) (by simpa using hc)
     (fun j v h=>by
      rw[←Array.getElem?_toList]
      simp only[Array.toList_append,List.nil_append,hzl]
      rw[List.getElem?_append_left (List.getElem?_eq_some_iff.1 h).1];exact h) rfl
    rw[List.length_replicate]at h2
    refine⟨.slice (some ⟨w.heap.size,0,none⟩) n.toNat c,_,k',?_,Later.trans hw (Later.drew (w':=w1) hw rfl) h1,h2⟩
    have hch:(choose (Question.appendCap n.toNat 0 e)).run P w= .ok c w1:=rfl
    have hold:∀w':World,(Builtin.firstCells ti.size 0 (.slice base 0 0)).run P w'= .ok #[] w':=fun w'=>by
     cases base with
     |none=>rfl
     |some a=>simp only[Builtin.firstCells,Nat.zero_mul,k_5]
    have hn':¬(n.toNat≤0):=by omega
    have h63:¬((n.toNat:Int)>IntKind.i64.max):=by
     have:IntKind.i64.max=9223372036854775807:=rfl
     rw[this];omega
    have hns:¬(n.toNat * ti.size=0):=by
     intro e
     rcases Nat.mul_eq_zero.1 e with h|h
     ·omega
     ·exact hs0 h
    simp only[Builtin.append_,hts0,hts1,List.getElem?_toArray,List.getElem?_cons_zero,List.getElem?_cons_succ,List.length_nil,Sem.run_bind,hT.runUnd ht,hT.runUnd htx,hT.runSize (r_8 hti),Result.andThen_ok,Sem.run_pure,if_true,asInt,l_3,hwr,
     hnl,if_false,typeInfo,run_program,g1,hlarge,Nat.zero_add,hn',h63,false_and,hnc,hch,run_askRoom,hold,Bool.not_true,Bool.false_eq_true,hns,hzero,newRow,run_newObj]
    rfl
   ·cases h
 ·cases h
theorem ba_(hT:T.Fits P)(hw:WR k st w){t ty e:TypeId}{ts:Array TypeId}(hts0:ts[0]? =some t)(ht:T.und t=some (.slice e)){r s off len:Nat}{y:V}{X Y:Value}{es src:List V}
  (hx:VR k (.slice r s off len) X) (hy:VR k y Y) (hlk:st.locked r=false) (hes:st.store[r]? =some (.vec false es)) (hsrc:srcElems st y=some src) (hse:T.size e=some s) (hs0:s≠0)
  (hall:src.all (fun v=>v.cells.length==s&&v.cells.all V.oneCell)=true) (hle:off+len≤es.length):
  ∃w',(Builtin.copy_ ts ty #[X,Y]).run P w= .ok (.int .i64 (min src.length len:Nat)) w'∧
   Later k k st {st with store:=st.store.set r (.vec false (es.take off ++src.take len ++es.drop (off+min src.length len)))} w w':=by
 cases hx with|slice _ _ _ _ g a hg hgs hl ha=>
 subst hgs
 obtain⟨hns,hone⟩:=U_4 hall
 obtain⟨ns,hS⟩:=ay_8 (P:=P) hw hy hsrc hns hs0
 have S:=hS w rfl
 let n:=min src.length len
 have hn1:n≤src.length:=Nat.min_le_left _ _
 have hn2:n≤len:=Nat.min_le_right _ _
 obtain⟨ob,h1,h2⟩:=hw.obj r g hg
 rw[hes]at h1;cases h1
 cases h2 with
 |vec _ _ arr tt vs hh hz hcap hs hv har hI hI'=>
 have hvl:vs.length=es.length * g.s:=by rw[←hv.length,b_6 es hs]
 have hnl:ns.length=src.length * g.s:=by rw[←S.vr.length,b_6 src hns]
 let news:=ns.take (n * g.s)
 have hnewl:news.length=n * g.s:=by rw[List.length_take,hnl];exact Nat.min_eq_left (Nat.mul_le_mul_right _ hn1)
 have hns1:∀v∈news,v.oneCell'=true:=fun v hv=>A_9 S.vr hone v (List.mem_of_mem_take hv)
 have hm1:(off+n)* g.s≤es.length * g.s:=Nat.mul_le_mul_right _ (by omega)
 have hm2:(off+n)* g.s=off * g.s+n * g.s:=Nat.add_mul _ _ _
 have hm3:es.length * g.s≤g.cap * g.s:=Nat.mul_le_mul_right _ hcap
 have hst:=h_1 (P:=P) w g.b (g.o+off * g.s) tt arr news hh (by rw[hz,hnewl];omega) hns1
 obtain⟨a1,a2,a3⟩:=l_2 g.b tt news (g.o+off * g.s) w arr hh
 have htake:src.take len=src.take n:=by
  rcases Nat.le_total src.length len with h|h
  ·rw[List.take_of_length_le h,List.take_of_length_le (by simp only[n];omega)]
  ·simp only[n,Nat.min_eq_right h]
 have hvnew:VRs k ((src.take n).flatMap V.cells) news:=by rw[I_2 _ hns];exact S.vr.take _
 have hvs':VRs k ((es.take off ++src.take len ++es.drop (off+min src.length len)).flatMap V.cells) (vs.take (off * g.s) ++news ++vs.drop ((off+n)* g.s)):=by
  rw[htake,List.flatMap_append,List.flatMap_append,I_2 _ hs,y_4 _ hs]
  exact((hv.take _).append hvnew).append (hv.drop _)
 refine⟨w.setCells g.b (g.o+off * g.s) news,?_,Later.turn (he:=p_2 _ _ _ _) hw hg hlk (by rw[hes];simp) _ rfl rfl rfl a2 a3 ?_ ?_⟩
 ·simp only[Builtin.copy_,hts0,List.getElem?_toArray,List.getElem?_cons_zero,List.getElem?_cons_succ,Sem.run_bind,hT.runUnd ht,hT.runSize hse,Result.andThen_ok,S.len]
  have hfr:=S.front n hn1
  have:Nat.min src.length len=n:=rfl
  rw[this,hfr]
  simp only[Result.andThen_ok]
  by_cases h0:n=0
  ·have hnil:news=[]:=List.eq_nil_of_length_eq_zero (by rw[hnewl,h0];simp)
   have e1:ns.take (n * g.s)=[]:=hnil
   rw[e1,hnil]
   simp only[storeCells,Sem.run_pure,Result.andThen_ok,Sem.run_bind,World.setCells,goInt]
   rfl
  ·rw[ha (by omega)]
   have e1:ns.take (n * g.s)=news:=rfl
   rw[e1]
   simp only[hst,Result.andThen_ok,Sem.run_bind,Sem.run_pure,goInt]
   rfl
 ·intro o u hi
  by_cases hlt:g.o≤o
  ·rw[hI' o hlt (by intro e;cases e)]at hi;cases hi
  ·rw[cell?_of a1]
   simp only[cellOf]
   rw[k_7 _ _ _ _ (.inl (by omega))]
   have:=hw.imm _ _ _ hi
   rw[cell?_of hh]at this
   exact this
 ·refine .vec false _ _ tt _ a1 (by rw[A_7];exact hz) ?_ ?_ hvs' ?_ (fun e=>by cases e) (fun o' h3 _=>hI' o' h3 (by intro e;cases e))
  ·simp only[List.length_append,List.length_take,List.length_drop];omega
  ·intro u hu
   rcases List.mem_append.1 hu with h|h
   ·rcases List.mem_append.1 h with h|h
    ·exact hs u (List.mem_of_mem_take h)
    ·exact hns u (List.mem_of_mem_take h)
   ·exact hs u (List.mem_of_mem_drop h)
  ·intro j u hj
   have e1:(vs.take (off * g.s)).length=off * g.s:=by rw[List.length_take,hvl];omega
   rcases Nat.lt_or_ge j (off * g.s)with hj1|hj1
   ·rw[List.append_assoc,List.getElem?_append_left (by rw[e1];exact hj1),List.getElem?_take,if_pos hj1]at hj
    rw[k_7 _ _ _ _ (.inl (by omega))];exact har j u hj
   ·rcases Nat.lt_or_ge j (off * g.s+n * g.s)with hj2|hj2
    ·rw[List.append_assoc,List.getElem?_append_right (by rw[e1];exact hj1),e1,List.getElem?_append_left (by rw[hnewl];omega)]at hj
     have:=M_0 news arr (g.o+off * g.s) (j-off * g.s) u (by rw[hz,hnewl];omega) hj
     rw[←this];congr 1;omega
    ·rw[List.getElem?_append_right (by rw[List.length_append,e1,hnewl];omega),List.length_append,e1,hnewl,List.getElem?_drop]at hj
     rw[k_7 _ _ _ _ (.inr (by rw[hnewl];omega))]
     refine har j u ?_
     rw[←hj];congr 1;omega
theorem l_9{s:Sem Value}{x:Value}{w w':World}(h:s.run P w= .ok x w'):(do pure (Next.value (←s)):Sem Next).run P w= .ok (.value x) w':=by
 simp only[Sem.run_bind,h,Result.andThen_ok,Sem.run_pure]
theorem af_0{s:Sem Unit}{w w':World}(h:s.run P w= .ok () w'):(do s;pure Next.skip:Sem Next).run P w= .ok .skip w':=by
 simp only[Sem.run_bind,h,Result.andThen_ok,Sem.run_pure]
def Does(P:Program)(k:K)(st st':St)(w:World)(s:Sem Next)(v:V):Prop:=
 ∃x w' k',(s.run P w= .ok (.value x) w'∨(s.run P w= .ok .skip w'∧x=undef))∧Later k k' st st' w w'∧VR k' v x
theorem Does.congr{s s':Sem Next}{v:V}(h:s.run P w=s'.run P w)(hd:Does P k st st' w s' v):Does P k st st' w s v:=by
 obtain⟨x,w',k',h1,h2⟩:=hd
 exact⟨x,w',k',by rw[h];exact h1,h2⟩
theorem aE_0(hT:T.Fits P)(hg:GlobOk T k)(hf:FR k fr a)(hw:WR k st w){o:Oper}{v:V}(h:b_7 T fr st o.op=some (v,st')):Does P k st st' w (execOp a.eval o) v:=by
 have hparts:∀{parts:Array (Nat×Operand)} {vs:List V},evArgs T fr (parts.toList.map (·.2))=some vs→
   ((parts.toList.map (·.1)).zip vs).map (·.1)=(parts.map fun(i,x)=>(i,a.eval x)).toList.map (·.1)∧VRs k (((parts.toList.map (·.1)).zip vs).map (·.2)) ((parts.map fun(i,x)=>(i,a.eval x)).toList.map (·.2)):=by
  intro parts vs e
  have hv:=y_3 hg hf e
  have hl:vs.length=parts.toList.length:=by have:=hv.length;simpa using this
  exact⟨by rw[List.map_fst_zip (by simp[hl])];simp[Function.comp_def],by rw[List.map_snd_zip (by simp[hl])];simpa[Function.comp_def]using hv⟩
 unfold execOp
 cases hop:o.op<;>rw[hop]at h<;>simp only[b_7]at h⊢<;>try(cases h;done)
 case load t x=>
  cases e:evArg T fr x with
  |none=>rw[e]at h;cases h
  |some ax=>
   rw[e]at h
   simp only[Option.bind_some,Option.map_eq_some_iff,Prod.mk.injEq]at h
   obtain⟨u,h1,rfl,rfl⟩:=h
   obtain⟨y,h2,h3⟩:=R_7 hT hw (a_4 hg hf e) h1
   exact⟨y,w,k, .inl (l_9 h2), .refl hw,h3⟩
 case store t x y=>
  split at h
  ·rename_i ax ay e1 e2
   simp only[Option.map_eq_some_iff,Prod.mk.injEq]at h
   obtain⟨u,h1,rfl,rfl⟩:=h
   obtain⟨w',h2,h3⟩:=at_2 hT hw (a_4 hg hf e1) (a_4 hg hf e2) h1
   exact⟨undef,w',k, .inr ⟨af_0 h2,rfl⟩,h3,L_2 k⟩
  ·cases h
 case alloc t=>
  cases e:T.ty t with
  |none=>rw[e]at h;cases h
  |some ti=>
   rw[e]at h
   simp only[Option.bind_some]at h
   split at h
   ·cases h
    obtain⟨x,w',k',h1,h2,h3⟩:=aQ_9 hT hw e
    exact⟨x,w',k', .inl (l_9 h1),h2,h3⟩
   ·cases h
 case box t x=>
  cases e:evArg T fr x with
  |none=>rw[e]at h;cases h
  |some ax=>
   rw[e]at h
   simp only[Option.bind_some]at h
   split at h
   ·cases h
    obtain⟨y,w',k',h1,h2,h3⟩:=bd_2 (P:=P) (t:=t) hw (a_4 hg hf e)
    exact⟨y,w',k', .inl (l_9 h1),h2,h3⟩
   ·cases h
 case buildSlice t len parts=>
  cases e:evArgs T fr (parts.toList.map (·.2))with
  |none=>rw[e]at h;cases h
  |some vs=>
   rw[e]at h
   simp only[Option.bind_some]at h
   split at h
   ·rename_i el ht
    cases hti:T.ty el with
    |none=>rw[hti]at h;cases h
    |some ti=>
     rw[hti]at h
     simp only[Option.bind_some]at h
     split at h
     ·rename_i hc
      obtain⟨hc1,hc2,hc3,hc4⟩:=hc
      split at h
      ·rename_i xs hxs
       cases h
       obtain⟨he,hr⟩:=hparts e
       have hsz:∀p∈(parts.toList.map (·.1)).zip vs,p.2.cells.length=ti.size:=fun p hp=>by
        have:=List.all_eq_true.1 hc3 p.2 (List.of_mem_zip hp).2
        simpa using this
       obtain⟨x,w',k',h1,h2,h3⟩:=aa_7 hT hw ht hti hc1 hc2 hc4 hsz he hr hxs
       exact⟨x,w',k', .inl (l_9 h1),h2,h3⟩
      ·cases h
     ·cases h
   ·cases h
 case makeMap t r=>
  split at h
  ·cases h
   obtain⟨x,w',k',h1,h2,h3⟩:=Z_0 (t:=t) (r:=none) hT hw (fun x e=>by cases e)
   exact⟨x,w',k', .inl (l_9 h1),h2,h3⟩
  ·rename_i ka kb x hu
   split at h
   ·rename_i kd n e
    cases h
    have hx:=a_4 hg hf e
    generalize hX:a.eval x=X at hx
    cases hx
    obtain⟨y,w',k',h1,h2,h3⟩:=Z_0 (t:=t) (r:=some (.int kd n)) hT hw (fun x e=>by cases e;exact⟨⟨_,_,rfl⟩,_,_,hu⟩)
    refine⟨y,w',k', .inl ?_,h2,h3⟩
    simp only[Option.map_some,hX]
    exact l_9 h1
   ·cases h
  ·cases h
 case makeSlice t l c=>
  split at h
  ·rename_i el n m ht e1 e2
   cases hti:T.ty el with
   |none=>rw[hti]at h;cases h
   |some ti=>
    rw[hti]at h
    simp only[Option.bind_some]at h
    split at h
    ·rename_i hc
     obtain⟨h0,hnm,hb,hm,hs,_⟩:=hc
     cases h
     have hx:=a_4 hg hf e1
     have hy:=a_4 hg hf e2
     generalize a.eval l=X at hx
     generalize a.eval c=Y at hy
     cases hx;cases hy
     obtain⟨y,w',k',h1,h2,h3⟩:=af_2 hT hw ht hti h0 hnm hb hm hs (hT.zs _ _ hti)
     exact⟨y,w',k', .inl (l_9 h1),h2,h3⟩
    ·cases h
  ·cases h
 case convert src dst x=>
  split at h
  ·cases h
  ·rename_i hs
   split at h
   ·rename_i el s hd e
    split at h
    ·rename_i he
     split at h
     ·rename_i hl
      cases h
      have hx:=a_4 hg hf e
      generalize a.eval x=X at hx
      cases hx with|str s=>
      obtain⟨y,w',k',h1,h2,h3⟩:=ag_1 (src:=src) (s:=s) hT hw (by cases hq:(T.und src).isSome with|true=>rfl|false=>exact absurd hq hs) hd he (by have e:s.data.toList.length=s.size:=rfl;omega)
      exact⟨y,w',k', .inl (l_9 h1),h2,h3⟩
     ·cases h
    ·cases h
   ·cases h
 case lookup t m kk ok=>
  split at h
  ·rename_i e1 e2
   simp only[Option.map_eq_some_iff,Prod.mk.injEq]at h
   obtain⟨u,h1,rfl,rfl⟩:=h
   obtain⟨y,h2,h3⟩:=ab_2 hT hw (a_4 hg hf e1) (a_4 hg hf e2) h1
   exact⟨y,w,k, .inl (l_9 h2), .refl hw,h3⟩
  ·cases h
 case mapUpdate t m kk x=>
  split at h
  ·rename_i e1 e2 e3
   simp only[Option.map_eq_some_iff,Prod.mk.injEq]at h
   obtain⟨u,h1,rfl,rfl⟩:=h
   obtain⟨w',h2,h3⟩:=K_0 hT hw (a_4 hg hf e1) (a_4 hg hf e2) (a_4 hg hf e3) h1
   exact⟨undef,w',k, .inr ⟨af_0 h2,rfl⟩,h3,L_2 k⟩
  ·cases h
 case insert t m kk x=>
  split at h
  ·rename_i e1 e2 e3
   simp only[Option.map_eq_some_iff,Prod.mk.injEq]at h
   obtain⟨u,h1,rfl,rfl⟩:=h
   obtain⟨w',h2,h3⟩:=K_0 hT hw (a_4 hg hf e1) (a_4 hg hf e2) (a_4 hg hf e3) h1
   exact⟨undef,w',k, .inr ⟨af_0 h2,rfl⟩,h3,L_2 k⟩
  ·cases h
 case call c=>
  obtain⟨callee,args,argTypes⟩:=c
  cases callee with
  |value f=>cases h
  |invoke r n=>cases h
  |builtin b=>
   have hargs:∀vs,evArgs T fr args.toList=some vs→VRs k vs (args.map a.eval).toList:=fun vs e=>by simpa using y_3 hg hf e
   refine Does.congr (s':=builtin b argTypes o.type (args.map fun| .const _=>true|_=>false) (args.map a.eval)) (by simp only[resolve,Sem.run_bind,Sem.run_pure,Result.andThen_ok,invoke]<;>rfl) ?_
   simp only at h
   split at h
   ·
    rename_i r e
    have hv:=hargs _ e
    generalize args.map a.eval=As at hv
    obtain⟨As⟩:=As
    cases hv with|cons hx hs=>cases hs with|nil=>
    cases hx with|map _ g hgr=>
    split at h
    ·rename_i es hes
     split at h
     ·rename_i km vm hu
      cases h
      obtain⟨ents,clock,hh,he⟩:=ax_ hw hgr hes
      cases hts:argTypes[0]? with
      |none=>rw[hts]at hu;cases hu
      |some t=>
       rw[hts]at hu
       refine⟨.int .i64 es.length,w,k, .inl (l_9 ?_), .refl hw, .int _ _⟩
       have hl:ents.size=es.length:=by simpa using he.1
       simp only[Builtin.len_,hts,List.getElem?_toArray,List.getElem?_cons_zero,Sem.run_bind,hT.runUnd hu,Result.andThen_ok,q_6 hh,Sem.run_pure,goInt,hl]
     ·cases h
    ·cases h
   ·
    rename_i x y e
    have hv:=hargs _ e
    generalize args.map a.eval=As at hv
    obtain⟨As⟩:=As
    cases hv with|cons hx hs=>cases hs with|cons hy hs=>cases hs with|nil=>
    cases hts0:argTypes[0]? with
    |none=>rw[hts0]at h;cases h
    |some t=>
    cases hts1:argTypes[1]? with
    |none=>rw[hts0,hts1]at h;cases h
    |some tx=>
     rw[hts0,hts1]at h
     simp only[Option.bind_some]at h
     split at h
     ·rename_i el hu hb
      cases hu
      obtain⟨z,w',k',h1,h2,h3⟩:=S_5 (ty:=o.type) hT hw hts0 hts1 hb (fun kd e=>by cases e) hx hy h
      exact⟨z,w',k', .inl (l_9 h1),h2,h3⟩
     ·rename_i hu hb
      cases hu
      obtain⟨z,w',k',h1,h2,h3⟩:=S_5 (ty:=o.type) hT hw hts0 hts1 hb (fun kd e=>by cases e) hx hy h
      exact⟨z,w',k', .inl (l_9 h1),h2,h3⟩
     ·rename_i kd hu hb
      cases hu
      obtain⟨z,w',k',h1,h2,h3⟩:=Z_8 (ty:=o.type) hT hw hts0 hts1 hb hx hy h
      exact⟨z,w',k', .inl (l_9 h1),h2,h3⟩
     ·cases h
   ·
    rename_i r s off len y e
    have hv:=hargs _ e
    generalize args.map a.eval=As at hv
    obtain⟨As⟩:=As
    cases hv with|cons hx hs=>cases hs with|cons hy hs=>cases hs with|nil=>
    split at h
    ·cases h
    ·rename_i hlk
     split at h
     ·rename_i el es src hu hes hsrc
      split at h
      ·rename_i hc
       obtain⟨hse,hs0,hall,hle⟩:=hc
       cases h
       cases hts0:argTypes[0]? with
       |none=>rw[hts0]at hu;cases hu
       |some t=>
        rw[hts0]at hu
        obtain⟨w',h1,h2⟩:=ba_ (ty:=o.type) hT hw hts0 hu hx hy (by simpa using hlk) hes hsrc hse hs0 hall hle
        exact⟨_,w',k, .inl (l_9 h1),h2, .int _ _⟩
      ·cases h
     ·cases h
   ·cases h
end
end Go.Abs
namespace Go.Abs
section
variable {P:Program} {T:Tab} {k:K} {st st':St} {w:World} {fr:Fr} {a:Act}
def FenceOk(k:K)(round:Option Nat)(F:Fence):Prop:=
 match round with
 |none=>F=Fence.wide
 |some l=>∃g,k.ρ l=some g∧F=Fence.wide.inRound g.b
theorem FenceOk.mono{k k':K}(hk:k.le k'){round:Option Nat}{F:Fence}(h:FenceOk k round F):FenceOk k' round F:=by
 cases round with
 |none=>exact h
 |some l=>obtain⟨g,h1,h2⟩:=h;exact⟨g,hk.ρ _ _ h1,h2⟩
theorem FenceOk.fn{round:Option Nat}{F:Fence}(h:FenceOk k round F)(f:FuncId):F.fn f:=by
 cases round with
 |none=>cases h;trivial
 |some l=>obtain⟨g,_,rfl⟩:=h;trivial
theorem FenceOk.depth{round:Option Nat}{F:Fence}(h:FenceOk k round F):F.depth=none:=by
 cases round with
 |none=>cases h;rfl
 |some l=>obtain⟨g,_,rfl⟩:=h;rfl
theorem FenceOk.calls{round:Option Nat}{F:Fence}(h:FenceOk k round F){n:Nat}{f:FuncId}{args:Array Value}{R:Ending→World→Prop}(hc:CallsIn Fence.wide n P f args w R):CallsIn F n P f args w R:=by
 cases round with
 |none=>cases h;exact hc
 |some l=>obtain⟨g,_,rfl⟩:=h;exact hc
inductive XRel:E→Exit→Prop
 |normal:XRel .normal .normal
 |exit (id:Nat):XRel (.exit id) (.exit id)
 |ret:XRel .ret .ret
def CodeOk(P:Program)(T:Tab)(S:S):Prop:=
 ∀round c fr st e fr' st',S.code round c fr st=some (e,fr',st')→∀k a w F n,GlobOk T k→WR k st w→FR k fr a→FenceOk k round F→
  c.wpIn F n P (fun x a' w'=>∃k',Later k k' st st' w w'∧FR k' fr' a'∧XRel e x) a w
def CallOk(P:Program)(T:Tab)(S:S):Prop:=
 ∀f args st v st',S.call f args st=some (v,st')→(∃fn,P.funcs[f]? =some fn∧fn.body.isSome=true∧fn.name≠ "runtime.NumGoroutine")∧
  ∀k w vs n,GlobOk T k→WR k st w→VRs k args vs→CallsIn Fence.wide n P f ⟨vs⟩ w fun e w'=>∃k' x,e= .returned x∧Later k k' st st' w w'∧VR k' v x
theorem am_(hf:FR k fr a)(ops:Array Oper)(j:Nat):evYielded ops fr j=yielded ops a.tmps j:=by
 unfold evYielded yielded
 cases(ops[j]?).bind (·.dst)with
 |none=>rfl
 |some d=>
  simp only[Option.bind_some]
  rcases Nat.lt_or_ge d fr.tmps.length with hl|hl
  ·obtain⟨x,h1,h2⟩:=hf.tmps.get d _ (List.getElem?_eq_getElem hl)
   have h1':a.tmps[d]? =some x:=by simpa using h1
   rw[List.getElem?_eq_getElem hl,h1']
   generalize fr.tmps[d]=v at h2
   cases h2<;>rfl
  ·have:a.tmps.size≤d:=by have:=hf.tmps.length;simp at this;omega
   rw[List.getElem?_eq_none hl,Array.getElem?_eq_none this]
theorem ap_6(hf:FR k fr a)(ops:Array Oper)(o:Oper):Region.wanted o (evYielded ops fr)=Region.wanted o (yielded ops a.tmps):=by
 unfold Region.wanted
 cases o.guard with
 |none=>rfl
 |some g=>obtain⟨j,b⟩:=g;simp only[am_ hf]
theorem S_7{f:FuncId}{fn:Func}(hf:P.funcs[f]? =some fn)(hb:fn.body.isSome=true)(hn:fn.name≠ "runtime.NumGoroutine")(args:Array Value):(callFunc f args).run P w= .ok (.enter f args) w:=by
 have h1:(fn.name== "runtime.NumGoroutine")=false:=by simpa using hn
 have h2:fn.body.isNone=false:=by cases h:fn.body with|none=>rw[h]at hb;cases hb|some c=>rfl
 simp only[callFunc,Sem.run_bind,run_program,Result.andThen_ok,hf,h1,Bool.false_eq_true,if_false,h2,Sem.run_pure]
theorem L_6:∀(ps:List Tmp) (xs:List Value) (arr:Array Value),((ps.zip xs).foldl (fun(t:Array Value) (p:Tmp×Value)=>t.setIfInBounds p.1 p.2) arr).toList=(ps.zip xs).foldl (fun(t:List Value) (p:Tmp×Value)=>t.set p.1 p.2) arr.toList
 |[],_,_=>rfl
 |_::_,[],_=>rfl
 |p::ps,x::xs,arr=>by
  simp only[List.zip_cons_cons,List.foldl_cons]
  rw[L_6 ps xs,Array.toList_setIfInBounds]
theorem R_6:∀(ps:List Tmp) {args:List V} {xs:List Value} {ts:List V} {us:List Value},VRs k args xs→VRs k ts us→
  VRs k (setParams ps args ts) ((ps.zip xs).foldl (fun(t:List Value) (p:Tmp×Value)=>t.set p.1 p.2) us)
 |[],_,_,_,_,_,h=>by simpa[setParams]using h
 |p::ps,_,_,_,_, .nil,h=>by simpa[setParams]using h
 |p::ps,_,_,_,_, .cons hx hs,h=>by
  simp only[setParams,List.zip_cons_cons,List.foldl_cons]
  exact R_6 ps hs (h.set p hx)
theorem O_4(hw:WR k st w){l:Nat}{g:G}(hg:k.ρ l=some g){r:L}(h:st.loop l=some r):st.store[l]? =some (.loop r)∧∃vs fn gd,k.ρ r.defers=some gd∧VRs k r.tmps vs∧
  w.heap[g.b]? =some (.loop {state:=r.state,pending:=r.pending,fn,tmps:=vs.toArray,params:=r.params,assign:=r.assign,body:=r.body,defers:=gd.b}):=by
 unfold St.loop at h
 split at h
 ·rename_i r' hr
  cases h
  obtain⟨ob,h1,h2⟩:=hw.obj l g hg
  rw[hr]at h1;cases h1
  cases h2 with
  |loop _ vs fn gd hd hv hh=>exact⟨hr,vs,fn,gd,hd,hv,hh⟩
 ·cases h
theorem A_1{b:Nat}{lp:Loop}(h:w.heap[b]? =some (.loop lp)):(Instr.getLoop b).run P w= .ok lp w:=by
 simp[Instr.getLoop,getObj,Sem.run,Sem.run_bind,h]
theorem M_8{b:Nat}{lp:Loop}(h:w.heap[b]? =some (.loop lp))(o:Obj):(setObj b o).run P w= .ok () {w with heap:=w.heap.setIfInBounds b o}:=by
 simp[setObj,Sem.run,h]
theorem X_3(hw:WR k st w){l:Nat}{g:G}(hg:k.ρ l=some g)(hlk:st.locked l=false){r:L}(hs:st.store[l]? =some (.loop r))(r':L){vs:List Value}{fn:FuncId}{gd:G}(hd:k.ρ r'.defers=some gd)(hv:VRs k r'.tmps vs){lp:Loop}(hh:w.heap[g.b]? =some (.loop lp)):
  Later k k st {st with store:=st.store.set l (.loop r')} w {w with heap:=w.heap.setIfInBounds g.b (.loop {state:=r'.state,pending:=r'.pending,fn,tmps:=vs.toArray,params:=r'.params,assign:=r'.assign,body:=r'.body,defers:=gd.b})}:=by
 have hlt:=hw.bound l g hg
 refine Later.turn hw hg hlk (by rw[hs];simp) (.loop r') rfl rfl rfl (by simp) (fun b hb=>by simp only;rw[Array.getElem?_setIfInBounds_ne (Ne.symm hb)]) (fun o v hi=> ?_) ?_
 ·have:=hw.imm _ _ _ hi
  rw[cell?_of hh]at this;cases this
 ·refine .loop r' vs fn gd hd hv ?_
  simp only
  rw[Array.getElem?_setIfInBounds_self_of_lt hlt]
theorem Later.lock{k k':K}{st st':St}{w w':World}(h:Later k k' st st' w w')(r:Nat):st'.locked r=st.locked r:=let⟨_,h⟩:=h;h.locked r
theorem au_3{S:S}(hc:CodeOk P T S)(hg:GlobOk T k)(hw:WR k st w){l:Nat}{g:G}(hl:k.ρ l=some g){args:List V}{xs:List Value}(ha:VRs k args xs){v:V}(h:evYield S l args st=some (v,st')){F:Fence}{round:Option Nat}(hF:FenceOk k round F)(n:Nat):
  ∃f tmps assign body,(Instr.yield g.b ⟨xs⟩).run P w= .ok (.round g.b f tmps assign body) w∧RoundIn F n P g.b f tmps assign body w fun e w'=>∃k' x,e= .returned x∧Later k k' st st' w w'∧VR k' v x:=by
 unfold evYield at h
 split at h
 ·cases h
 ·rename_i hlk
  have hlk0:st.locked l=false:=by simpa using hlk
  split at h
  ·cases h
  ·rename_i r hr
   split at h
   ·cases h
   ·rename_i hps
    obtain⟨_,vs,fn,gd,hd,hv,hh⟩:=O_4 hw hl hr
    split at h
    ·rename_i fr1 st1 e1
     split at h
     ·rename_i r1 hr1
      split at h
      ·rename_i hready
       split at h
       ·rename_i e fr2 st2 e2
        split at h
        ·rename_i r2 hr2
         cases h
         have hxs:xs.length=r.params.size:=by rw[←ha.length];simpa using hps
         refine⟨fn,(r.params.zip ⟨xs⟩).foldl (fun tmps (t,a)=>tmps.setIfInBounds t a) vs.toArray,r.assign,r.body,?_,?_⟩
         ·simp only[Instr.yield,Sem.run_bind,A_1 hh,Result.andThen_ok]
          rw[if_neg (by simp[hxs])]
          rfl
         ·refine roundIn_of_wpIn (hF.fn _) ?_
          have hFr:F.inRound g.b=Fence.wide.inRound g.b:=by
           cases round with
           |none=>cases hF;rfl
           |some l'=>obtain⟨g',_,rfl⟩:=hF;rfl
          rw[hFr]
          have hfr0:FR k {tmps:=setParams r.params.toList args r.tmps,marks:=[]} {tmps:=(r.params.zip ⟨xs⟩).foldl (fun tmps (t,a)=>tmps.setIfInBounds t a) vs.toArray,defers:=[]}:=by
           refine⟨?_,[],by simp,rfl,rfl⟩
           have:=R_6 (k:=k) r.params.toList ha hv
           have e:((r.params.zip ⟨xs⟩).foldl (fun(tmps:Array Value) (p:Tmp×Value)=>tmps.setIfInBounds p.1 p.2) vs.toArray).toList=(r.params.toList.zip xs).foldl (fun(t:List Value) (p:Tmp×Value)=>t.set p.1 p.2) vs:=by
            rw[←Array.foldl_toList,Array.toList_zip,L_6]
           rw[←e]at this
           exact this
          refine wpIn_mono (hc _ _ _ _ _ _ _ e1 k _ w _ n hg hw hfr0 ⟨g,hl,rfl⟩) ?_
          rintro x a1 w1 ⟨k1,hL1,hf1,hE⟩
          cases hE
          show∃w₂,_
          have hl1:=hL1.le.ρ _ _ hl
          obtain⟨hs1,vs1,fn1,gd1,hd1,hv1,hh1⟩:=O_4 hL1.wr hl1 hr1
          have hT2:=X_3 (fn:=fn1) (gd:=gd1) hL1.wr hl1 (by rw[hL1.lock];exact hlk0) hs1 {r1 with state:= .busy} hd1 hv1 hh1
          refine⟨_,?_,wpIn_mono (hc _ _ _ _ _ _ _ e2 k1 a1 _ _ n (hg.mono hL1.le) hT2.wr hf1 ⟨g,hl1,rfl⟩) ?_⟩
          ·simp only[Instr.beginRound,Sem.run_bind,A_1 hh1,Result.andThen_ok,M_8 hh1,hready]
           rfl
          ·rintro x a2 w2 ⟨k2,hL2,hf2,hE⟩
           have hl2:=hL2.le.ρ _ _ hl1
           obtain⟨hs2,vs2,fn2,gd2,hd2,hv2,hh2⟩:=O_4 hL2.wr hl2 hr2
           have hlk2:st2.locked l=false:=by rw[hL2.lock,hT2.lock,hL1.lock];exact hlk0
           have hT3:=X_3 (fn:=fn2) (gd:=gd2) hL2.wr hl2 hlk2 hs2 {r2 with state:=(roundEnd e).1,pending:=(roundEnd e).2.1} hd2 hv2 hh2
           have hall:=((hL1.trans hw hT2).trans hw hL2).trans hw hT3
           have hend:∀jump:Option Code,(Instr.endRound g.b jump).run P w2= .ok (.bool jump.isNone) {w2 with heap:=w2.heap.setIfInBounds g.b (.loop {state:=if jump.isNone then .ready else .done,pending:=jump,fn:=fn2,tmps:=vs2.toArray,params:=r2.params,assign:=r2.assign,body:=r2.body,defers:=gd2.b})}:=by
            intro jump
            simp only[Instr.endRound,Sem.run_bind,A_1 hh2,Result.andThen_ok,M_8 hh2,Sem.run_pure]
           cases hE with
           |normal=>exact⟨_,_,hend none,k2,_,rfl,hall, .bool _⟩
           |exit id=>exact⟨_,_,hend (some (.exit id)),k2,_,rfl,hall, .bool _⟩
           |ret=>exact⟨_,_,hend (some .ret),k2,_,rfl,hall, .bool _⟩
        ·cases h
       ·cases h
      ·cases h
     ·cases h
    ·cases h
end
end Go.Abs
