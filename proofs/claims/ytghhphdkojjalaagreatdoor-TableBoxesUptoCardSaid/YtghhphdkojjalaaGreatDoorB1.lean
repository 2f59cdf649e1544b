/- A shared part of the proofs of the Table statements: a verified evaluator, the code in parts, the functions walked. -/
import Derived.RangeFuncLeaves
import Derived.OrdersIn
import Derived.LoopNIn
import Derived.Deep.MidRow
import Derived.Laws.Strings
import Derived.Laws.Slices
import Derived.Laws.StructEq
import Derived.Laws.Tables
import Derived.TacticsIn
import Derived.Lib.Bytealg
import Derived.Scope
import Derived.Carry
import Derived.ProofKit
import Derived.LaidHandle
import Derived.LaidLaws
import Derived.Stop.Joined
import Derived.JoinedCond
import Derived.Deep.DeepHandedRow
import Derived.Test.YtghhphdkojjalaaGreatDoorRows
import Derived.Test.YtghhphdkojjalaaGreatDoor11
set_option linter.unusedVariables false
set_option linter.unusedSimpArgs false
set_option linter.unnecessarySimpa false
set_option linter.all false
namespace Go.Abs
section
variable {α β:Type} {T:Tab} {f:Nat→V} {n d t:Nat} {v:V} {m:List Nat} {st st':St} {rd:Option Nat} {fr:Fr} {rs:List ResultVar} {id:Nat}
theorem v_1{k:Bool→Option (Fr×St)}{k2}:thenS (branchO v k) k2=branchO v fun x=>thenS (k x) k2:=by unfold branchO;split<;>rfl
section
variable {a b c:Code} {i:Nat} {ops:Array Oper}
end
section
variable {lim:Option Nat} {k:Nat}
end
theorem Q_8{fl:Bool}{nl:Option Bool}{x:V}{xs:List V}{w:V}:top (.list fl nl (x::xs)) w=w:=by cases fl<;>rfl
end
section
variable {T:Tab} {S:Go.Abs.S} {fr fr':Fr} {st st':St} {W W':List Nat} {ops:Array Oper}
end
section
variable {T:Tab} {f:Nat→V} {n:Nat} {m:List Nat} {st:St} {rd:Option Nat} {c b:Code} {W:List Nat}
theorem Out.next{I:(Nat→V)→St→Prop}{P:E→(Nat→V)→St→Prop}(h:I f st):Out n m (fun e f' st'=>(e= .normal∧I f' st')∨P e f' st') (some (.normal,mk n f m,st)):=⟨_,_,_,rfl, .inl ⟨rfl,h⟩⟩
end
end Go.Abs
namespace Go.Abs
section
variable {α:Type}
def arrP(len s r off:Nat)(i:Int):Option V:=if 0≤i∧i<len then some (.ptr r (off+i.toNat * s))else none
def bdA(s:Nat)(zero:List V)(ps:List (Nat×V)):Option V:=(fill (fun i=>some (i * s,s)) zero ps).map .agg
end
section
variable {T:Tab} {st:St} {v:V} {cs:List V} {r i o n off:Nat}
theorem aa_2{s:Nat}{xs:List V}:idxL s xs 0=idxN s (xs[0]?):=k_8 (k:=0)
theorem aa_8{s:Nat}{xs:List V}:idxL s xs 1=idxN s (xs[1]?):=k_8 (k:=1)
end
theorem K_4{T:Tab}{n:Nat}{m:List Nat}{st:St}{rd:Option Nat}{c b:Code}{W:List Nat}(hc:c= .loop b)(hw:writes b=some W){α:Type}(xs:List α)(p:α→Bool)(ti id:Nat){f0:Nat→V}(J:St→Prop)(Qr:(Nat→V)→Prop)
  (hf:f0 ti= .int .i64 0) (hJ:J st)
  (round:∀(i:Nat) x f st,i<xs.length→xs[i]? =some x→x∈xs→(∀t,t<n→W.contains t=false→f t=f0 t)→f ti= .int .i64 (i:Nat)→intBin .add .i64 (i:Nat) 1=some (.int .i64 ((i:Int)+1))→J st→
   Out n m (fun e f' st'=>(p x=true∧e= .normal∧f' ti= .int .i64 ((i:Int)+1)∧J st')∨(p x=false∧e= .ret∧Qr f'∧J st')) ((run T).code rd b (mk n f m) st))
  (stop:∀f st,(∀t,t<n→W.contains t=false→f t=f0 t)→f ti= .int .i64 (xs.length:Nat)→J st→Out n m (fun e f' st'=>e= .exit id∧J st') ((run T).code rd b (mk n f m) st)) (hlen:xs.length<2^40):
  Out n m (fun e f' st'=>(J st'∧(e= .exit id∧xs.all p=true∨e= .ret∧xs.all p=false∧Qr f'))∧∀t,t<n→W.contains t=false→f' t=f0 t) ((run T).code rd c (mk n f0 m) st):=by
 refine b_3 hc hw xs.length (I:=fun i f st=>f ti= .int .i64 (i:Nat)∧J st∧(xs.take i).all p=true) ⟨hf,hJ,rfl⟩ ?_ ?_
 ·rintro i f st hi hk ⟨h1,h2,h3⟩
  have hx:xs[i]? =some xs[i]:=List.getElem?_eq_getElem hi
  have ha:intBin .add .i64 (i:Nat) 1=some (.int .i64 ((i:Int)+1)):=Q_4 (by omega) (by omega)
  refine(round i xs[i] f st hi hx (List.getElem_mem hi) hk h1 ha h2).mono ?_
  rintro e f' st' (⟨q1,q2,q3,q4⟩|⟨q1,q2,q3,q4⟩)
  ·refine .inl ⟨q2,?_,q4,?_⟩
   ·rw[q3];simp
   ·rw[List.take_succ_eq_append_getElem hi,List.all_append,h3,List.all_cons,q1];rfl
  ·subst q2
   refine .inr ⟨by simp,q4, .inr ⟨rfl,?_,q3⟩⟩
   rw[Bool.eq_false_iff];intro ha
   rw[List.all_eq_true]at ha
   rw[ha _ (List.getElem_mem hi)]at q1;cases q1
 ·rintro f st hk ⟨h1,h2,h3⟩
  refine(stop f st hk h1 h2).mono ?_
  rintro e f' st' ⟨rfl,q⟩
  rw[List.take_length]at h3
  exact⟨by simp,q, .inl ⟨rfl,h3⟩⟩
def Lies(S:List O)(st:St):Prop:=st.base=0∧st.prot=[]∧∀(i:Nat) (o:O),S[i]? =some o→st.store[i]? =some o
theorem Lies.box{S:List O}{st:St}(h:Lies S st)(cs:List V):Lies S (newBox st cs):=⟨h.1,h.2.1,fun i o hi=>by
 have:=h.2.2 i o hi
 show(st.store ++[.box cs])[i]? =_
 rw[List.getElem?_append_left (List.getElem?_eq_some_iff.1 this).1];exact this⟩
end Go.Abs
namespace Go.Abs
theorem Lies.one{st:St}{x:O}(h1:st.base=0)(h2:st.prot=[])(h3:st.store[0]? =some x):Lies [x] st:=⟨h1,h2,fun i o h=>by
 cases i with
 |zero=>simp only[List.getElem?_cons_zero,Option.some.injEq]at h;subst h;exact h3
 |succ i=>simp at h⟩
end Go.Abs
namespace Go.Abs
section
variable {T:Tab} {S:Go.Abs.S} {f:Nat→V} {n:Nat} {m:List Nat} {st:St} {dd:Option Nat} {ss:List Step}
theorem ab_8{k:IntKind}{a b:Int}:minmax false (.int k a) (.int k b)=some (.int k (if b<a then b else a)):=by simp[minmax]
theorem ab_4{x y:Operand}{ts:Array TypeId}:evSteps T S (⟨dd, .call {callee:= .builtin .min,args:= #[x,y],argTypes:=ts},none⟩::ss) (mk n f m) st=bindV (evArg T (mk n f m) x) fun x=>bindV (evArg T (mk n f m) y) fun y=>bindV (minmax false x y) fun v=>evSteps T S ss (mk n (putF f dd v) m) st:=by
 rw[D_5 rfl]
 simp only[evPure,evArgs]
 cases evArg T (mk n f m) x with
 |none=>rfl
 |some a=>cases evArg T (mk n f m) y with
  |none=>rfl
  |some b=>rfl
end
end Go.Abs
namespace Go.Abs
theorem Acc.nw{s:Nat}{st:St}{v:V}{es:List V}(h:Acc s st v es)(hne:es≠[])(sp:Bool):wayCase st sp v=false:=by
 rcases h with⟨nl,rfl,h⟩|⟨r,acc,rfl,h⟩
 ·exact absurd h hne
 ·simp[wayCase,h,isWay]
end Go.Abs
namespace Go.Abs
theorem bf_1{α:Type}(q:α→Bool)(xs:List α)(i:Nat)(hi:i<xs.length)(h:∀x∈xs.take i,q x=false)(hq:q xs[i]=true):xs.find? q=some xs[i]:=by
 have e:xs=xs.take i ++xs.drop i:=(List.take_append_drop i xs).symm
 have e2:xs.drop i=xs[i]::xs.drop (i+1):=List.drop_eq_getElem_cons hi
 have h1:(xs.take i).find? q=none:=by
  rw[List.find?_eq_none]
  intro x hx;rw[h x hx];decide
 generalize hy:xs[i]=y at *
 rw[e,List.find?_append,h1,e2,List.find?_cons,hq];rfl
def FindQ{α:Type}(o:Option α)(id:Nat)(J:(Nat→V)→St→Prop)(Qr:α→(Nat→V)→St→Prop)(e:E)(f:Nat→V)(st:St):Prop:=match o with
 |none=>e= .exit id∧J f st
 |some x=>e= .ret∧Qr x f st
theorem aG_1{T:Tab}{n:Nat}{m:List Nat}{st:St}{rd:Option Nat}{c b:Code}{W:List Nat}(hc:c= .loop b)(hw:writes b=some W){α:Type}(xs:List α)(q:α→Bool)(ti id:Nat){f0:Nat→V}(J:(Nat→V)→St→Prop)(Qr:α→(Nat→V)→St→Prop)
  (hi0:f0 ti= .int .i64 0) (hJ:J f0 st)
  (round:∀(i:Nat) x f st,i<xs.length→xs[i]? =some x→x∈xs→(∀t,t<n→W.contains t=false→f t=f0 t)→f ti= .int .i64 (i:Nat)→intBin .add .i64 (i:Nat) 1=some (.int .i64 ((i:Int)+1))→J f st→
   Out n m (fun e f' st'=>(q x=false∧e= .normal∧f' ti= .int .i64 ((i:Int)+1)∧J f' st')∨(q x=true∧e= .ret∧Qr x f' st')) ((run T).code rd b (mk n f m) st))
  (stop:∀f st,(∀t,t<n→W.contains t=false→f t=f0 t)→f ti= .int .i64 (xs.length:Nat)→J f st→Out n m (fun e f' st'=>e= .exit id∧J f' st') ((run T).code rd b (mk n f m) st)) (hlen:xs.length<2^40):
  Out n m (fun e f' st'=>FindQ (xs.find? q) id J Qr e f' st'∧∀t,t<n→W.contains t=false→f' t=f0 t) ((run T).code rd c (mk n f0 m) st):=by
 refine b_3 hc hw xs.length (I:=fun i f st=>f ti= .int .i64 (i:Nat)∧(∀x∈xs.take i,q x=false)∧J f st) ⟨hi0,by simp,hJ⟩ ?_ ?_
 ·rintro i f st hi hk ⟨h1,h2,h3⟩
  have hx:xs[i]? =some xs[i]:=List.getElem?_eq_getElem hi
  have ha:intBin .add .i64 (i:Nat) 1=some (.int .i64 ((i:Int)+1)):=Q_4 (by omega) (by omega)
  refine(round i xs[i] f st hi hx (List.getElem_mem hi) hk h1 ha h3).mono ?_
  rintro e f' st' (⟨q1,q2,q3,q4⟩|⟨q1,rfl,q3⟩)
  ·refine .inl ⟨q2,by rw[q3];simp,?_,q4⟩
   intro x hx
   rw[List.take_succ_eq_append_getElem hi]at hx
   rcases List.mem_append.1 hx with hx|hx
   ·exact h2 x hx
   ·rw[List.mem_singleton.1 hx];exact q1
  ·refine .inr ⟨by simp,?_⟩
   rw[bf_1 q xs i hi h2 q1]
   exact⟨rfl,q3⟩
 ·rintro f st hk ⟨h1,h2,h3⟩
  refine(stop f st hk h1 h3).mono ?_
  rintro e f' st' ⟨rfl,q3⟩
  refine⟨by simp,?_⟩
  rw[List.take_length]at h2
  have:xs.find? q=none:=by
   rw[List.find?_eq_none];intro x hx;rw[h2 x hx];decide
  rw[this];exact⟨rfl,q3⟩
end Go.Abs
namespace Go.Abs
open Go.RowKit Go.ChangeShapes Go.WideShapes
theorem liftedUpto{C:Checked}{T:Tab}(hT:T.Fits C.prog)(hl:laidOutB C.prog=true)(own:ownKnob C.prog.godebug=none){f:FuncId}{fn:Func}{s:ChangeSpec}{kc:(H:Type)→List (DataW H)→Bool}{L:List (String×DataW Unit)}{os:Os}(started:os.Started)
  {H:Type} {enc:TypeId×Value→H} {F:Stop.Interp} (hglob:∀W,laidMetH C.prog L W→GlobOk T (k0 W)) (noInit:C.prog.inits.idxOf? f=none) (hfn:C.prog.funcs[f]? =some fn) {bt:TypeId} (hres:fn.resultTypes= #[bt]) (hbt:C.prog.underlying bt=some .bool) (hvars:s.vars=[])
  (S:List TypeId) (hS:S.all (tyIn C.prog S)=true) (hp:fn.params.toList.all (fun t=>S.contains t&&C.prog.readableRec t&&decide (t<C.prog.types.size))=true)
  (hspec:∀ds:List (DataW H),ds.length=fn.params.toList.length→s.fn H ds={results:=[.lit (.bool true)],args:=ds})
  {B:DataW H→Nat} {N:Nat} (hB:BulkOk B) (hkB:∀ds:List (DataW H),kc H ds=true→(ds.map B).sum≤N)
  (hrun:∀xs:List V,xs.length=fn.params.toList.length→(∀(j:Nat) t x,fn.params.toList[j]? =some t→xs[j]? =some x→∃n,Shaped C.prog n t x)→V.bulks xs≤N→∃st',(run T).call f xs st0=some (.bool true,st'))
  (witness:∃(w:World) (tape:Tape) (i:Input),w.os=os∧(w.forCall tape i).Shaped C.prog∧i.vars=[]∧Input.okWide C.prog (w.forCall tape i) .any w.heap.size f i∧
   ({OpenSpec.ofChange s with cond:=some kc}:OpenSpec).preRow enc C.prog fn [] false L (w.forCall tape i).memory i.args∧({}:Assume).holds C.prog (lone (Frame.enter C.prog f i.args .normal) [] (w.forCall tape i))) {fresh handsOn:Bool}:
  ReturnsInHanded {} C os f .any (({OpenSpec.ofChange s with cond:=some kc}:OpenSpec).preRow enc C.prog fn [] false L) ((({OpenSpec.ofChange s with cond:=some kc}:OpenSpec).at F).post enc C.prog fn false fresh handsOn false):=by
 refine returnsInHanded_of_row (C:=C) (s:=({OpenSpec.ofChange s with cond:=some kc}:OpenSpec)) own started noInit hfn witness ?_
 intro W base args ds gs before hval hW0 _ hk _ hL _ _
 have hW:DataW.Whole enc C.prog fn.params.toList s.vars false W args.toList ds gs before:=hW0
 have hW':=hW
 obtain⟨p,q,hA,hV,rfl,hfz,hnd⟩:=hW
 have hpar:∀t∈fn.params.toList,t∈S∧C.prog.readableRec t=true∧t<C.prog.types.size:=fun t ht=>by
  have:=List.all_eq_true.1 hp t ht
  simp only[Bool.and_eq_true,decide_eq_true_eq,List.contains_iff_mem]at this
  exact⟨this.1.1,this.1.2,this.2⟩
 obtain⟨xs,hx,hlen,hdl,hsh,hbk⟩:=aq_1 hB hS (fun t ht=>(hpar t ht).1) (fun j t v a b=>hval j t v (by simpa using a) (by simpa using b)) hA
 obtain⟨rfl,rfl⟩:gs=[]∧q=[]:=by
  rw[hvars]at hV
  cases gs with
  |nil=>exact⟨rfl,hV⟩
  |cons g r=>exact absurd hV (by intro h;cases h)
 have hk2:=hk kc rfl
 rw[List.append_nil]at hk2
 obtain⟨st',hr⟩:=hrun xs hlen hsh (Nat.le_trans hbk (hkB ds hk2))
 obtain⟨n,hr⟩:=(T_4 T).call hr
 have hc:=aP_6 hT hr (hglob W hL) hx
 refine hc.mono fun e W' ⟨he,hb⟩=>⟨_,he,?_⟩
 have hpost:s.post enc C.prog fn false fresh handsOn false W args (.bool true) W':=by
  refine aC_ hl hres hbt hvars (fun t ht=>(hpar t ht).2) hW' ?_ hb
  rw[List.append_nil]
  exact hspec ds hdl
 exact hpost
end Go.Abs
