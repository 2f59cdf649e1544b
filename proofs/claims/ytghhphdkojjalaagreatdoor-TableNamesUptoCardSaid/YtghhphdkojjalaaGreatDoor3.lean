/- A shared part of the proofs of the Table statements: a verified evaluator, the code in parts, the functions walked. -/
import Derived.Test.YtghhphdkojjalaaGreatDoorRows
import Derived.Test.YtghhphdkojjalaaGreatDoor2
set_option linter.unusedVariables false
set_option linter.unusedSimpArgs false
set_option linter.unnecessarySimpa false
set_option linter.all false
namespace Go.Abs
section
variable {T:Tab} {S:Go.Abs.S} {f:Nat→V} {n:Nat} {m:List Nat} {st:St} {dd:Option Nat} {ss:List Step}
theorem C_9{k:IntKind}{a b:Int}:minmax true (.int k a) (.int k b)=some (.int k (if b>a then b else a)):=by simp[minmax]
theorem C_8{x y:Operand}{ts:Array TypeId}:evSteps T S (⟨dd, .call {callee:= .builtin .max,args:= #[x,y],argTypes:=ts},none⟩::ss) (mk n f m) st=bindV (evArg T (mk n f m) x) fun x=>bindV (evArg T (mk n f m) y) fun y=>bindV (minmax true x y) fun v=>evSteps T S ss (mk n (putF f dd v) m) st:=by
 rw[D_5 rfl]
 simp only[evPure,evArgs]
 cases evArg T (mk n f m) x with
 |none=>rfl
 |some a=>cases evArg T (mk n f m) y with
  |none=>rfl
  |some b=>rfl
theorem A_4{x y z:Operand}{ts:Array TypeId}:evSteps T S (⟨dd, .call {callee:= .builtin .max,args:= #[x,y,z],argTypes:=ts},none⟩::ss) (mk n f m) st=bindV (evArg T (mk n f m) x) fun x=>bindV (evArg T (mk n f m) y) fun y=>bindV (evArg T (mk n f m) z) fun z=>bindV (minmax true x y) fun w=>bindV (minmax true w z) fun v=>evSteps T S ss (mk n (putF f dd v) m) st:=by
 rw[D_5 rfl]
 simp only[evPure,evArgs]
 cases evArg T (mk n f m) x with
 |none=>rfl
 |some a=>cases evArg T (mk n f m) y with
  |none=>rfl
  |some b=>cases evArg T (mk n f m) z with
   |none=>rfl
   |some c=>
    simp only[List.foldl_cons,List.foldl_nil,a_7,Option.bind_some]
    cases minmax true a b with
    |none=>rfl
    |some w=>rfl
end
theorem t_0{b:Bool}:V.cells (.bool b)=[(.bool b)]:=rfl
theorem s_2{b:Bool}:V.oneCell (.bool b)=true:=rfl
theorem A_9{k:IntKind}{i:Int}:V.cells (.int k i)=[(.int k i)]:=rfl
theorem x_9{k:IntKind}{i:Int}:V.oneCell (.int k i)=true:=rfl
theorem y_0{s:List UInt8}:V.cells (.str s)=[(.str s)]:=rfl
theorem A_2{s:List UInt8}:V.oneCell (.str s)=true:=rfl
theorem u_6:V.cells .nilp=[.nilp]:=rfl
theorem q_2:V.oneCell .nilp=true:=rfl
theorem B_9{r o:Nat}:V.cells (.ptr r o)=[(.ptr r o)]:=rfl
theorem y_1{r o:Nat}:V.oneCell (.ptr r o)=true:=rfl
theorem r_0{r i o:Nat}:V.cells (.eptr r i o)=[(.eptr r i o)]:=rfl
theorem s_8{r i o:Nat}:V.oneCell (.eptr r i o)=true:=rfl
theorem r_6{cs:List V}:V.cells (.iptr cs)=[(.iptr cs)]:=rfl
theorem t_5{cs:List V}:V.oneCell (.iptr cs)=true:=rfl
theorem r_2{f:Bool}{nl:Option Bool}{xs:List V}:V.cells (.list f nl xs)=[(.list f nl xs)]:=rfl
theorem r_{f:Bool}{nl:Option Bool}{xs:List V}:V.oneCell (.list f nl xs)=true:=rfl
theorem n_6{r s o l:Nat}:V.cells (.slice r s o l)=[(.slice r s o l)]:=rfl
theorem m_5{r s o l:Nat}:V.oneCell (.slice r s o l)=true:=rfl
theorem z_7{r:Nat}:V.cells (.map r)=[(.map r)]:=rfl
theorem z_6{r:Nat}:V.oneCell (.map r)=true:=rfl
theorem j_3:V.cells .nilmap=[.nilmap]:=rfl
theorem i_7:V.oneCell .nilmap=true:=rfl
theorem s_3{g:Fn}{a b:List V}:V.cells (.func g a b)=[(.func g a b)]:=rfl
theorem r_8{g:Fn}{a b:List V}:V.oneCell (.func g a b)=true:=rfl
theorem f_9:V.cells .nilfunc=[.nilfunc]:=rfl
theorem f_0:V.oneCell .nilfunc=true:=rfl
theorem A_{cs:List V}:V.cells (.agg cs)=cs:=rfl
end Go.Abs
namespace Go.Abs
theorem k_2{α β:Type}(h:α→List β)(xs:List α)(i:Nat):((xs.take i).flatMap h).length≤(xs.flatMap h).length:=by
 have e:xs.flatMap h=(xs.take i).flatMap h ++(xs.drop i).flatMap h:=by rw[←List.flatMap_append,List.take_append_drop]
 rw[e,List.length_append];omega
theorem W_9{T:Tab}{n:Nat}{m:List Nat}{st:St}{rd:Option Nat}{c b:Code}{W:List Nat}(hc:c= .loop b)(hw:writes b=some W){α:Type}(xs:List α)(h:α→List UInt8)(ti ta id B:Nat){f0:Nat→V}{s0:List UInt8}(J:St→Prop)
  (hi0:f0 ti= .int .i64 0) (ha0:f0 ta= .str s0) (hJ:J st) (hB:s0.length+(xs.flatMap h).length≤B)
  (round:∀(i:Nat) x f st s,i<xs.length→xs[i]? =some x→x∈xs→(∀t,t<n→W.contains t=false→f t=f0 t)→f ti= .int .i64 (i:Nat)→f ta= .str s→s.length+(h x).length≤B→intBin .add .i64 (i:Nat) 1=some (.int .i64 ((i:Int)+1))→J st→
   Out n m (fun e f' st'=>e= .normal∧f' ti= .int .i64 ((i:Int)+1)∧f' ta= .str (s ++h x)∧J st') ((run T).code rd b (mk n f m) st))
  (stop:∀f st v,(∀t,t<n→W.contains t=false→f t=f0 t)→f ti= .int .i64 (xs.length:Nat)→f ta=v→J st→Out n m (fun e f' st'=>e= .exit id∧f' ta=v∧J st') ((run T).code rd b (mk n f m) st)) (hlen:xs.length<2^40):
  Out n m (fun e f' st'=>(J st'∧e= .exit id∧f' ta= .str (s0 ++xs.flatMap h))∧∀t,t<n→W.contains t=false→f' t=f0 t) ((run T).code rd c (mk n f0 m) st):=by
 refine b_3 hc hw xs.length (I:=fun i f st=>f ti= .int .i64 (i:Nat)∧f ta= .str (s0 ++(xs.take i).flatMap h)∧J st) ⟨hi0,by simpa using ha0,hJ⟩ ?_ ?_
 ·rintro i f st hi hk ⟨h1,h2,h3⟩
  have hx:xs[i]? =some xs[i]:=List.getElem?_eq_getElem hi
  have ha:intBin .add .i64 (i:Nat) 1=some (.int .i64 ((i:Int)+1)):=Q_4 (by omega) (by omega)
  have hl:(s0 ++(xs.take i).flatMap h).length+(h xs[i]).length≤B:=by
   have:=k_2 h xs (i+1)
   rw[List.take_succ_eq_append_getElem hi,List.flatMap_append]at this
   simp only[List.length_append,List.flatMap_cons,List.flatMap_nil,List.append_nil]at this⊢
   omega
  refine(round i xs[i] f st _ hi hx (List.getElem_mem hi) hk h1 h2 hl ha h3).mono ?_
  rintro e f' st' ⟨q1,q2,q3,q4⟩
  refine .inl ⟨q1,?_,?_,q4⟩
  ·rw[q2];simp
  ·rw[q3,List.take_succ_eq_append_getElem hi,List.flatMap_append];simp
 ·rintro f st hk ⟨h1,h2,h3⟩
  refine(stop f st _ hk h1 h2 h3).mono ?_
  rintro e f' st' ⟨rfl,q2,q3⟩
  rw[List.take_length]at q2
  exact⟨by simp,q3,rfl,q2⟩
theorem o_9{st:St}(h:st.prot=[]):setProt st []=st:=by cases st;simp only at h;subst h;rfl
theorem A_3:setProt emptySt []=emptySt:=rfl
theorem B_8{st:St}{cs:List V}{p:List Nat}:setProt (newBox st cs) p=newBox (setProt st p) cs:=rfl
theorem o_6{st:St}{r:Nat}{o:O}{p:List Nat}:setProt (setO st r o) p=setO (setProt st p) r o:=rfl
theorem o_7{st:St}{o:O}{p:List Nat}:setProt (addO st o) p=addO (setProt st p) o:=rfl
theorem remU{n:Nat}:intBin .rem .u64 (n:Int) 10=some (.int .u64 ((n%10:Nat):Int)):=by
 simp only[intBin]
 rw[if_neg (by decide)]
 have:(n:Int).tmod 10=((n%10:Nat):Int):=by
  rw[Int.tmod_eq_emod_of_nonneg (by omega)];omega
 rw[this]
theorem quoU{n:Nat}(h:n<2^64):intBin .quo .u64 (n:Int) 10=some (.int .u64 ((n/10:Nat):Int)):=by
 simp only[intBin]
 rw[if_neg (by decide)]
 have:(n:Int).tdiv 10=((n/10:Nat):Int):=by
  rw[Int.tdiv_eq_ediv_of_nonneg (by omega)];omega
 rw[this,wrapU _ (by omega) (by omega)]
end Go.Abs
namespace Go.Abs
def refOf:V→Option Nat| .slice r _ _ _=>some r|_=>none
def Acc(s:Nat)(st:St)(v:V)(es:List V):Prop:=(∃nl,v= .list true nl []∧es=[])∨(∃r acc,v= .slice r s 0 es.length∧st.store[r]? =some (.vec acc es))
structure Rest(ex:Option Nat)(a b:St):Prop where
 base:b.base=a.base
 prot:b.prot=a.prot
 len:a.store.length≤b.store.length
 get:∀(i:Nat) (o:O),a.store[i]? =some o→ex≠some i→b.store[i]? =some o
structure Boxes(a b:St):Prop where
 base:b.base=a.base
 prot:b.prot=a.prot
 len:a.store.length≤b.store.length
 get:∀(i:Nat) (cs:List V),a.store[i]? =some (O.box cs)→b.store[i]? =some (O.box cs)
theorem Boxes.refl(st:St):Boxes st st:=⟨rfl,rfl,Nat.le_refl _,fun _ _ h=>h⟩
theorem Boxes.trans{a b c:St}(h:Boxes a b)(h':Boxes b c):Boxes a c:=⟨h'.base.trans h.base,h'.prot.trans h.prot,Nat.le_trans h.len h'.len,fun i cs hi=>h'.get i cs (h.get i cs hi)⟩
theorem Boxes.box{a b:St}(h:Boxes a b)(cs:List V):Boxes a (newBox b cs):=⟨h.base,h.prot,Nat.le_trans h.len (by simp[newBox]),fun i ds hi=>by
 show(b.store ++[.box cs])[i]? =_
 exact a_3 (h.get i ds hi)⟩
theorem Rest.box(ex:Option Nat)(st:St)(cs:List V):Rest ex st (newBox st cs):=⟨rfl,rfl,by simp[newBox],fun i o hi _=>by
 show(st.store ++[.box cs])[i]? =_
 exact a_3 hi⟩
theorem Acc.rest{s:Nat}{st st':St}{v:V}{es:List V}{ex:Option Nat}(h:Acc s st v es)(hr:Rest ex st st')(hx:refOf v=none∨ex≠refOf v):Acc s st' v es:=by
 rcases h with h|⟨r,acc,rfl,h⟩
 ·exact .inl h
 ·refine .inr ⟨r,acc,rfl,hr.get _ _ h ?_⟩
  rcases hx with hx|hx
  ·cases hx
  ·exact hx
theorem Acc.box{s:Nat}{st:St}{v:V}{es:List V}(h:Acc s st v es)(cs:List V):Acc s (newBox st cs) v es:=h.rest (Rest.box none st cs) (by cases refOf v<;>simp)
theorem Acc.boxes{s:Nat}{st st':St}{v:V}{es:List V}(h:Acc s st v es)(hr:Rest (refOf v) st st'):Boxes st st':=⟨hr.base,hr.prot,hr.len,fun i cs hi=>hr.get i _ hi (by
 rcases h with⟨nl,rfl,h⟩|⟨r,acc,rfl,h⟩
 ·simp[refOf]
 ·intro e
  simp only[refOf,Option.some.injEq]at e
  subst e
  rw[h]at hi;cases hi)⟩
theorem Acc.ref_lt{s:Nat}{st:St}{v:V}{es:List V}(h:Acc s st v es){r:Nat}(hr:refOf v=some r):r<st.store.length:=by
 rcases h with⟨nl,rfl,h⟩|⟨q,acc,rfl,h⟩
 ·cases hr
 ·cases hr;exact(List.getElem?_eq_some_iff.1 h).1
theorem Acc.app{s bytes:Nat}{sp:Bool}{st:St}{v y:V}{es new:List V}(h:Acc s st v es)(hb0:st.base=0)(hp:st.prot=[])(hs:srcElems st y=some new)(hc:new.all (fun v=>v.cells.length==s&&v.cells.all V.oneCell)=true)(h0:s≠0)(hb:bytes≠0)(hl:(es.length+new.length)* bytes<2^40):
  ∃v' st',appV s bytes st sp v y=some (v',st')∧Acc s st' v' (es ++new)∧Rest (refOf v) st st'∧(refOf v'=refOf v∨∃r,refOf v'=some r∧st.store.length≤r):=by
 by_cases hn:new=[]
 ·subst hn
  refine⟨v,st,p_9 hs h0 hb ?_,by simpa using h,⟨rfl,rfl,Nat.le_refl _,fun _ _ h _=>h⟩, .inl rfl⟩
  rcases h with⟨nl,rfl,h⟩|⟨q,acc,rfl,h⟩<;>rfl
 rcases h with⟨nl,rfl,rfl⟩|⟨r,acc,rfl,h⟩
 ·refine⟨_,_,L_7 hs hn hc h0 hb (by simpa using hl), .inr ⟨_,!sp,by simp;rfl,by simp[addO]⟩,⟨rfl,rfl,by simp[addO],fun i o hi _=> ?_⟩, .inr ⟨_,rfl,Nat.le_refl _⟩⟩
  show(st.store ++_)[i]? =_
  exact a_3 hi
 ·have hr:r<st.store.length:=(List.getElem?_eq_some_iff.1 h).1
  refine⟨_,_,bf_8 hs hn hc h0 hb (by simp[St.locked,hb0,hp]) h rfl hl, .inr ⟨_,acc||es.isEmpty,by simp;rfl,by simp[addO,setO]⟩,⟨rfl,rfl,by simp[addO,setO],fun i o hi hne=> ?_⟩, .inr ⟨_,rfl,Nat.le_refl _⟩⟩
  show(st.store.set r .dead ++_)[i]? =_
  refine a_3 ?_
  rw[List.getElem?_set_ne (by intro e;subst e;exact hne rfl)];exact hi
theorem ai_6{s:Nat}{st:St}{nl:Option Bool}:Acc s st (.list true nl []) []:= .inl ⟨nl,rfl,rfl⟩
theorem E_6{α β:Type}{f:α→Option β}{g:α→β}:∀{xs:List α},(∀x∈xs,f x=some (g x))→xs.mapM f=some (xs.map g)
 |[],_=>rfl
 |x::xs,h=>by
  rw[List.mapM_cons,h x (by simp),E_6 fun y hy=>h y (by simp[hy])];rfl
theorem Acc.retV{s:Nat}{st st0:St}{v:V}{es:List V}{g:V→V}(h:Acc s st v es)(hg:∀x∈es,freeze st (some 0) 39 x=some (g x))(hbl:(es.map g).all (below 0 39)=true):
  ∃b nl,retV 0 st0 v (freeze st (some 0) 40 v)=some (.list b nl (es.map g),st0):=by
 rcases h with⟨nl,rfl,rfl⟩|⟨r,acc,rfl,h⟩
 ·exact⟨true,none,rfl⟩
 ·refine⟨false,none,?_⟩
  rw[d_7,h]
  have:frozenNow (some 0) acc r=true:=by simp[frozenNow]
  simp only[sliceO,rowA,this,if_true,Nat.zero_add,Nat.le_refl,List.drop_zero,List.take_length]
  rw[E_6 hg]
  simp only[listO,Go.Abs.retV]
  rw[if_pos]
  ·rw[g_7]
  ·rw[g_7];exact hbl
theorem aA_0{T:Tab}{n:Nat}{m:List Nat}{st:St}{rd:Option Nat}{c b:Code}{W:List Nat}(hc:c= .loop b)(hw:writes b=some W){α:Type}(xs:List α)(h:α→List V)(s ti ta id:Nat){f0:Nat→V}{v0:V}{es0:List V}(J:V→St→Prop)
  (hi0:f0 ti= .int .i64 0) (ha0:f0 ta=v0) (hA0:Acc s st v0 es0) (hJ:J v0 st)
  (round:∀(i:Nat) x f st v es,i<xs.length→xs[i]? =some x→x∈xs→(∀t,t<n→W.contains t=false→f t=f0 t)→f ti= .int .i64 (i:Nat)→f ta=v→Acc s st v es→es=es0 ++(xs.take i).flatMap h→intBin .add .i64 (i:Nat) 1=some (.int .i64 ((i:Int)+1))→J v st→
   Out n m (fun e f' st'=>e= .normal∧f' ti= .int .i64 ((i:Int)+1)∧∃v',f' ta=v'∧Acc s st' v' (es ++h x)∧J v' st') ((run T).code rd b (mk n f m) st))
  (stop:∀f st v,(∀t,t<n→W.contains t=false→f t=f0 t)→f ti= .int .i64 (xs.length:Nat)→f ta=v→J v st→Out n m (fun e f' st'=>e= .exit id∧f' ta=v∧st'=st) ((run T).code rd b (mk n f m) st)) (hlen:xs.length<2^40):
  Out n m (fun e f' st'=>(e= .exit id∧∃v,f' ta=v∧Acc s st' v (es0 ++xs.flatMap h)∧J v st')∧∀t,t<n→W.contains t=false→f' t=f0 t) ((run T).code rd c (mk n f0 m) st):=by
 refine(b_3 hc hw xs.length (I:=fun i f st=>f ti= .int .i64 (i:Nat)∧∃v,f ta=v∧Acc s st v (es0 ++(xs.take i).flatMap h)∧J v st) (Q:=fun e f' st'=>e= .exit id∧∃v,f' ta=v∧Acc s st' v (es0 ++xs.flatMap h)∧J v st') ⟨hi0,v0,ha0,by simpa using hA0,hJ⟩ ?_ ?_)
 ·rintro i f st hi hk ⟨h1,v,h2,hA,h3⟩
  have hx:xs[i]? =some xs[i]:=List.getElem?_eq_getElem hi
  have ha:intBin .add .i64 (i:Nat) 1=some (.int .i64 ((i:Int)+1)):=Q_4 (by omega) (by omega)
  refine(round i xs[i] f st v _ hi hx (List.getElem_mem hi) hk h1 h2 hA rfl ha h3).mono ?_
  rintro e f' st' ⟨q1,q2,v',q3,q4,q5⟩
  refine .inl ⟨q1,?_,v',q3,?_,q5⟩
  ·rw[q2];simp
  ·rw[List.take_succ_eq_append_getElem hi,List.flatMap_append,←List.append_assoc];simpa using q4
 ·rintro f st hk ⟨h1,v,h2,hA,h3⟩
  refine(stop f st v hk h1 h2 h3).mono ?_
  rintro e f' st' ⟨rfl,q2,rfl⟩
  rw[List.take_length]at hA
  exact⟨by simp,rfl,v,q2,hA,h3⟩
end Go.Abs
namespace Go.Abs
theorem addN(a b:Nat)(h:a+b<2^63):∃c:Nat,c=a+b∧intBin .add .i64 (a:Int) (b:Int)=some (.int .i64 (c:Int)):=
 ⟨a+b,rfl,by rw[Q_4 (by omega) (by omega)];simp⟩
theorem ag_8(l:List Nat)(i:Nat):(l.take i).sum≤l.sum:=by
 have e:l.sum=(l.take i).sum+(l.drop i).sum:=by rw[←List.sum_append,List.take_append_drop]
 omega
def NatV(B:Nat)(v:V):Prop:=∃N:Nat,v= .int .i64 (N:Nat)∧N≤B
theorem natV{B c:Nat}(h:c≤B):NatV B (.int .i64 (c:Int)):=⟨c,rfl,h⟩
theorem al_1{T:Tab}{n:Nat}{m:List Nat}{st:St}{rd:Option Nat}{c b:Code}{W:List Nat}(hc:c= .loop b)(hw:writes b=some W){α:Type}(xs:List α)(w:α→Nat)(ti ta id N0 B:Nat){f0:Nat→V}(J:St→Prop)(Qr:(Nat→V)→Prop)
  (hi0:f0 ti= .int .i64 0) (ha0:f0 ta= .int .i64 (N0:Nat)) (hJ:J st) (hB:N0+(xs.map w).sum≤B)
  (round:∀(i:Nat) x f st N,i<xs.length→xs[i]? =some x→x∈xs→(∀t,t<n→W.contains t=false→f t=f0 t)→f ti= .int .i64 (i:Nat)→f ta= .int .i64 (N:Nat)→N+w x≤B→intBin .add .i64 (i:Nat) 1=some (.int .i64 ((i:Int)+1))→J st→
   Out n m (fun e f' st'=>(e= .normal∧f' ti= .int .i64 ((i:Int)+1)∧NatV (N+w x) (f' ta)∧J st')∨(e= .ret∧Qr f')) ((run T).code rd b (mk n f m) st))
  (stop:∀f st v,(∀t,t<n→W.contains t=false→f t=f0 t)→f ti= .int .i64 (xs.length:Nat)→f ta=v→J st→Out n m (fun e f' st'=>e= .exit id∧f' ta=v∧J st') ((run T).code rd b (mk n f m) st)) (hlen:xs.length<2^40):
  Out n m (fun e f' st'=>((e= .exit id∧(∃N:Nat,f' ta= .int .i64 (N:Nat)∧N≤N0+(xs.map w).sum)∧J st')∨(e= .ret∧Qr f'))∧∀t,t<n→W.contains t=false→f' t=f0 t) ((run T).code rd c (mk n f0 m) st):=by
 refine b_3 hc hw xs.length (I:=fun i f st=>f ti= .int .i64 (i:Nat)∧(∃N:Nat,f ta= .int .i64 (N:Nat)∧N≤N0+((xs.map w).take i).sum)∧J st) ⟨hi0,⟨N0,ha0,by simp⟩,hJ⟩ ?_ ?_
 ·rintro i f st hi hk ⟨h1,⟨N,h2,hN⟩,h3⟩
  have hx:xs[i]? =some xs[i]:=List.getElem?_eq_getElem hi
  have ha:intBin .add .i64 (i:Nat) 1=some (.int .i64 ((i:Int)+1)):=Q_4 (by omega) (by omega)
  have hs:((xs.map w).take (i+1)).sum=((xs.map w).take i).sum+w xs[i]:=by
   rw[List.take_succ_eq_append_getElem (by simpa using hi),List.sum_append];simp
  have hl:=ag_8 (xs.map w) (i+1)
  refine(round i xs[i] f st N hi hx (List.getElem_mem hi) hk h1 h2 (by omega) ha h3).mono ?_
  rintro e f' st' (⟨q1,q2,⟨N',q3,q5⟩,q4⟩|⟨rfl,q⟩)
  ·refine .inl ⟨q1,?_,⟨N',q3,by omega⟩,q4⟩
   rw[q2];simp
  ·exact .inr ⟨by simp, .inr ⟨rfl,q⟩⟩
 ·rintro f st hk ⟨h1,⟨N,h2,hN⟩,h3⟩
  refine(stop f st _ hk h1 h2 h3).mono ?_
  rintro e f' st' ⟨rfl,q2,q3⟩
  have hl:=ag_8 (xs.map w) xs.length
  exact⟨by simp, .inl ⟨rfl,⟨N,q2,by omega⟩,q3⟩⟩
end Go.Abs
namespace Go.Abs
variable {T:Tab} {fid:FuncId} {fn:Func} {st:St}
theorem N_0(hf:T.fn fid=some fn)(hm:T.mode fid= .split){fl:Bool}{nl a b:Option Bool}{sa sb:St}
  (h1:evBody T (run T) fn [.list false (some true) []] {st with base:=st.store.length}=some (.list true a [],sa))
  (h2:evBody T (run T) fn [.list false (some false) []] {st with base:=st.store.length}=some (.list true b [],sb)):
  (run T).call fid [.list fl nl []] st=some (.list true none [],st):=by
 rw[H_]
 simp only[evCall,hf,hm,isEmptyList,if_true,h1,h2]
theorem J_5(hf:T.fn fid=some fn)(hm:T.mode fid= .split){fl:Bool}{nl:Option Bool}{x:V}{xs:List V}:
  (run T).call fid [.list fl nl (x::xs)] st=evBody T (run T) fn [.list fl nl (x::xs)] st:=by
 rw[H_]
 simp only[evCall,hf,hm,isEmptyList]
 rfl
theorem ah_(hf:T.fn fid=some fn)(hm:T.mode fid= .shut2){fl:Bool}{nl a b:Option Bool}{sa sb:St}
  (h1:evBody T (run T) fn [.list false (some true) []] emptySt=some (.list true a [],sa))
  (h2:evBody T (run T) fn [.list false (some false) []] emptySt=some (.list true b [],sb)):
  (run T).call fid [.list fl nl []] st=some (.list true none [],st):=by
 rw[H_]
 have h1':evBody T (run T) fn [.list false (some true) []] {store:=[],base:=0,prot:=[]}=_:=h1
 have h2':evBody T (run T) fn [.list false (some false) []] {store:=[],base:=0,prot:=[]}=_:=h2
 simp only[evCall,hf,hm,isEmptyList,if_true,h1',h2']
theorem Y_4(hf:T.fn fid=some fn)(hm:T.mode fid= .shut2){fl:Bool}{nl:Option Bool}{x:V}{xs:List V}
  (hb:(x::xs).all (below 0 39)=true) {v:V} {st':St} (h:evBody T (run T) fn [.list false none (x::xs)] emptySt=some (v,st')):
  (run T).call fid [.list fl nl (x::xs)] st=shutB st (some (v,st')):=by
 rw[H_]
 have h':evBody T (run T) fn [.list false none (x::xs)] {store:=[],base:=0,prot:=[]}=_:=h
 have hf2:[V.list fl nl (x::xs)].mapM (freeze st none 40)=some [.list false none (x::xs)]:=rfl
 have hb2:[V.list false none (x::xs)].all (below 0 40)=true:=by
  simp only[List.all_cons,List.all_nil,Bool.and_true]
  exact hb
 simp only[evCall,hf,hm,isEmptyList,evShut,deep,hf2,hb2,if_true,h']
 rfl
theorem Q_{s r:Nat}{acc:Bool}{st st0:St}{es:List V}{g:V→V}(h:st.store[r]? =some (.vec acc es))(hg:∀x∈es,freeze st (some 0) 39 x=some (g x))(hbl:(es.map g).all (below 0 39)=true):
  retV 0 st0 (.slice r s 0 es.length) (freeze st (some 0) 40 (.slice r s 0 es.length))=some (.list false none (es.map g),st0):=by
 rw[d_7,h]
 have:frozenNow (some 0) acc r=true:=by simp[frozenNow]
 simp only[sliceO,rowA,this,if_true,Nat.zero_add,Nat.le_refl,List.drop_zero,List.take_length]
 rw[E_6 hg]
 simp only[listO,Go.Abs.retV]
 rw[if_pos]
 ·rw[g_7]
 ·rw[g_7];exact hbl
theorem F_0{t e:TypeId}(h:T.und t=some (.slice e))(c fl g:Bool)(nl:Option Bool)(x:V)(xs ys:List V):binV T .eql t c (.list fl nl (x::xs)) (.list g (some true) ys)=some (.bool false):=by
 simp only[binV,evBin,eqVal]
 unfold Tab.und at h
 cases ht:T.ty t with
 |none=>rw[ht]at h;cases h
 |some ti=>
  rw[ht]at h
  simp only[Option.map_some,Option.some.injEq]at h
  simp only[h,Option.map_some]
theorem J_{t e:TypeId}(h:T.und t=some (.slice e))(c fl g b:Bool)(ys:List V):binV T .eql t c (.list fl (some b) []) (.list g (some true) ys)=some (.bool b):=by
 simp only[binV,evBin,eqVal]
 unfold Tab.und at h
 cases ht:T.ty t with
 |none=>rw[ht]at h;cases h
 |some ti=>
  rw[ht]at h
  simp only[Option.map_some,Option.some.injEq]at h
  simp only[h,Option.map_some]
end Go.Abs
namespace Go.Abs
variable {α:Type}
def getM(D:List (List UInt8×α))(k:List UInt8):Option α:=match D with
 |[]=>none
 |e::D=>if k==e.1 then some e.2 else getM D k
def putM(D:List (List UInt8×α))(k:List UInt8)(a:α):List (List UInt8×α):=match D with
 |[]=>[(k,a)]
 |e::D=>if k==e.1 then(k,a)::D else e::putM D k a
def entsM(g:α→V)(D:List (List UInt8×α)):List (V×V):=D.map fun e=>(.str e.1,g e.2)
def lookM(o:Option O)(zero:V)(k:V)(ok:Bool):Option V:=match o with
 |some (.map es)=>match findKey k es 0 with
  |some (some (_,v))=>some (if ok then .tup [v, .bool true]else v)
  |some none=>some (if ok then .tup [zero, .bool false]else zero)
  |none=>none
 |_=>none
def updM(st:St)(r:Nat)(o:Option O)(k v:V):Option St:=match o with
 |some (.map es)=>match findKey k es 0 with
  |some (some (i,_))=>some (setO st r (.map (es.set i (k,v))))
  |some none=>some (setO st r (.map (es ++[(k,v)])))
  |none=>none
 |_=>none
theorem ag_3(g:α→V)(k:List UInt8):∀(D:List (List UInt8×α)) (i:Nat),
  (getM D k=none∧findKey (.str k) (entsM g D) i=some none∧∀v,entsM g D ++[(.str k,g v)]=entsM g (putM D k v))∨
  (∃a j,getM D k=some a∧findKey (.str k) (entsM g D) i=some (some (i+j,g a))∧∀v,(entsM g D).set j (.str k,g v)=entsM g (putM D k v))
 |[],i=> .inl ⟨rfl,rfl,fun v=>rfl⟩
 |e::D,i=>by
  have hk:keyEq (.str k) (.str e.1)=some (k==e.1):=rfl
  cases h:k==e.1 with
  |true=>
   refine .inr ⟨e.2,0,by simp[getM,h],?_,fun v=> ?_⟩
   ·simp only[entsM,List.map_cons,findKey,hk,h];rfl
   ·simp only[entsM,List.map_cons,List.set_cons_zero,putM,h,if_true]
  |false=>
   rcases ag_3 g k D (i+1)with⟨h1,h2,h3⟩|⟨a,j,h1,h2,h3⟩
   ·refine .inl ⟨by simp[getM,h,h1],?_,fun v=> ?_⟩
    ·simp only[entsM,List.map_cons,findKey,hk,h];exact h2
    ·have:=h3 v
     simp only[entsM,putM,h,List.map_cons,List.cons_append]at this⊢
     simpa using this
   ·refine .inr ⟨a,j+1,by simp[getM,h,h1],?_,fun v=> ?_⟩
    ·simp only[entsM,List.map_cons,findKey,hk,h]
     have e:i+(j+1)=i+1+j:=by omega
     rw[e];exact h2
    ·have:=h3 v
     simp only[entsM,putM,h,List.map_cons,List.set_cons_succ]at this⊢
     simpa using this
theorem V_9(g:α→V)(D:List (List UInt8×α))(k:List UInt8)(zero:V)(ok:Bool):lookM (some (.map (entsM g D))) zero (.str k) ok=some (match getM D k with|some a=>if ok then .tup [g a, .bool true]else g a|none=>if ok then .tup [zero, .bool false]else zero):=by
 unfold lookM
 rcases ag_3 g k D 0 with⟨h1,h2, -⟩|⟨a,j,h1,h2, -⟩<;>simp only[h1,h2]
theorem ac_9(g:α→V)(D:List (List UInt8×α))(k:List UInt8)(a:α)(st:St)(r:Nat):updM st r (some (.map (entsM g D))) (.str k) (g a)=some (setO st r (.map (entsM g (putM D k a)))):=by
 unfold updM
 rcases ag_3 g k D 0 with⟨h1,h2,h3⟩|⟨b,j,h1,h2,h3⟩
 ·simp only[h2,h3 a]
 ·simp only[h2,Nat.zero_add,h3 a]
theorem P_7(D:List (List UInt8×α))(k k':List UInt8)(a:α):getM (putM D k a) k'=if k'==k then some a else getM D k':=by
 induction D with
 |nil=>simp[putM,getM]
 |cons e D ih=>
  unfold putM
  by_cases h:k=e.1
  ·subst h
   simp only[beq_self_eq_true,if_true,getM]
   split<;>rfl
  ·have h':(k==e.1)=false:=by simpa using h
   simp only[h',getM]
   by_cases h2:k'=e.1
   ·subst h2
    have:(e.1==k)=false:=by simp;exact fun h3=>h h3.symm
    simp[this,getM]
   ·have h2':(k'==e.1)=false:=by simpa using h2
    simp only[h2']
    simpa[getM,h2']using ih
end Go.Abs
namespace Go.Abs
def AccT(s:Nat)(st:St)(v:V)(es:List V):Prop:=(∃nl,v= .list true nl []∧es=[])∨(∃r,es≠[]∧v= .slice r s 0 es.length∧st.store[r]? =some (.vec true es))
theorem AccT.acc{s:Nat}{st:St}{v:V}{es:List V}(h:AccT s st v es):Acc s st v es:=by
 rcases h with h|⟨r,h1,h2,h3⟩
 ·exact .inl h
 ·exact .inr ⟨r,true,h2,h3⟩
theorem AccT.rest{s:Nat}{st st':St}{v:V}{es:List V}{ex:Option Nat}(h:AccT s st v es)(hr:Rest ex st st')(hx:refOf v=none∨ex≠refOf v):AccT s st' v es:=by
 rcases h with h|⟨r,h1,rfl,h⟩
 ·exact .inl h
 ·refine .inr ⟨r,h1,rfl,hr.get _ _ h ?_⟩
  rcases hx with hx|hx
  ·cases hx
  ·exact hx
theorem AccT.box{s:Nat}{st:St}{v:V}{es:List V}(h:AccT s st v es)(cs:List V):AccT s (newBox st cs) v es:=h.rest (Rest.box none st cs) (by cases refOf v<;>simp)
theorem AccT.lt{s:Nat}{st:St}{v:V}{es:List V}(h:AccT s st v es){r:Nat}(hr:refOf v=some r):r<st.store.length:=h.acc.ref_lt hr
theorem AccT.boxes{s:Nat}{st st':St}{v:V}{es:List V}(h:AccT s st v es)(hr:Rest (refOf v) st st'):Boxes st st':=h.acc.boxes hr
theorem AccT.app{s bytes:Nat}{st:St}{v y:V}{es new:List V}(h:AccT s st v es)(hb0:∀r,refOf v=some r→st.locked r=false)(hs:srcElems st y=some new)(hn:new≠[])(hc:new.all (fun v=>v.cells.length==s&&v.cells.all V.oneCell)=true)(h0:s≠0)(hb:bytes≠0)(hl:(es.length+new.length)* bytes<2^40):
  ∃v' st',appV s bytes st false v y=some (v',st')∧AccT s st' v' (es ++new)∧Rest (refOf v) st st'∧∃r,refOf v'=some r∧st.store.length≤r:=by
 rcases h with⟨nl,rfl,rfl⟩|⟨r,he,rfl,h⟩
 ·refine⟨_,_,L_7 hs hn hc h0 hb (by simpa using hl), .inr ⟨_,by simpa using hn,by simp;rfl,by simp[addO]⟩,⟨rfl,rfl,by simp[addO],fun i o hi _=> ?_⟩,_,rfl,Nat.le_refl _⟩
  show(st.store ++_)[i]? =_
  exact a_3 hi
 ·have hr:r<st.store.length:=(List.getElem?_eq_some_iff.1 h).1
  refine⟨_,_,bf_8 hs hn hc h0 hb (hb0 r rfl) h rfl hl, .inr ⟨_,by simp[he],by simp;rfl,by simp[addO,setO]⟩,⟨rfl,rfl,by simp[addO,setO],fun i o hi hne=> ?_⟩,_,rfl,Nat.le_refl _⟩
  show(st.store.set r .dead ++_)[i]? =_
  refine a_3 ?_
  rw[List.getElem?_set_ne (by intro e;subst e;exact hne rfl)];exact hi
theorem I_7{s:Nat}{st:St}{nl:Option Bool}:AccT s st (.list true nl []) []:= .inl ⟨nl,rfl,rfl⟩
theorem AccT.retV{s l:Nat}{st st0:St}{v:V}{es:List V}{g:V→V}(h:AccT s st v es)(hg:∀x∈es,freeze st (some l) 39 x=some (g x))(hbl:(es.map g).all (below l 39)=true):
  ∃b nl,retV l st0 v (freeze st (some l) 40 v)=some (.list b nl (es.map g),st0)∧(es=[]→b=true):=by
 rcases h with⟨nl,rfl,rfl⟩|⟨r,he,rfl,h⟩
 ·exact⟨true,none,rfl,fun _=>rfl⟩
 ·refine⟨false,none,?_,fun e=>absurd e he⟩
  rw[d_7,h]
  simp only[sliceO,rowA,frozenNow,Bool.true_or,if_true,Nat.zero_add,Nat.le_refl,List.drop_zero,List.take_length]
  rw[E_6 hg]
  simp only[listO,Go.Abs.retV]
  rw[if_pos]
  ·rw[g_7]
  ·rw[g_7];exact hbl
theorem AccT.frz{s:Nat}{st:St}{v:V}{es:List V}(h:AccT s st v es){g:V→V}(hg:∀x∈es,freeze st none 39 x=some (g x)):freeze st none 40 v=some (.list false none (es.map g)):=by
 rcases h with⟨nl,rfl,rfl⟩|⟨r,he,rfl,h⟩
 ·rfl
 ·rw[d_7,h]
  simp only[sliceO,rowA,frozenNow,Bool.true_or,if_true,Nat.zero_add,Nat.le_refl,List.drop_zero,List.take_length]
  rw[E_6 hg];rfl
theorem R_2{T:Tab}{f:FuncId}{a b:List V}{st:St}(hm:T.mode f= .shut)(h:a.mapM (freeze st none 40)=b.mapM (freeze st none 40)):(run T).call f a st=(run T).call f b st:=by
 rw[H_,H_]
 unfold evCall
 cases T.fn f with
 |none=>rfl
 |some fn=>
  simp only[hm,evShut]
  have h':a.mapM (freeze st none deep)=b.mapM (freeze st none deep):=h
  rw[h']
theorem bt_2{T:Tab}{n:Nat}{m:List Nat}{st:St}{rd:Option Nat}{c b:Code}{W:List Nat}(hc:c= .loop b)(hw:writes b=some W){α:Type}(xs:List α)(h:α→List V)(s ti ta id:Nat){f0:Nat→V}{v0:V}{es0:List V}(J:V→St→Prop)
  (hi0:f0 ti= .int .i64 0) (ha0:f0 ta=v0) (hA0:AccT s st v0 es0) (hJ:J v0 st)
  (round:∀(i:Nat) x f st v es,i<xs.length→xs[i]? =some x→x∈xs→(∀t,t<n→W.contains t=false→f t=f0 t)→f ti= .int .i64 (i:Nat)→f ta=v→AccT s st v es→es=es0 ++(xs.take i).flatMap h→intBin .add .i64 (i:Nat) 1=some (.int .i64 ((i:Int)+1))→J v st→
   Out n m (fun e f' st'=>e= .normal∧f' ti= .int .i64 ((i:Int)+1)∧∃v',f' ta=v'∧AccT s st' v' (es ++h x)∧J v' st') ((run T).code rd b (mk n f m) st))
  (stop:∀f st v,(∀t,t<n→W.contains t=false→f t=f0 t)→f ti= .int .i64 (xs.length:Nat)→f ta=v→J v st→Out n m (fun e f' st'=>e= .exit id∧f' ta=v∧st'=st) ((run T).code rd b (mk n f m) st)) (hlen:xs.length<2^40):
  Out n m (fun e f' st'=>(e= .exit id∧∃v,f' ta=v∧AccT s st' v (es0 ++xs.flatMap h)∧J v st')∧∀t,t<n→W.contains t=false→f' t=f0 t) ((run T).code rd c (mk n f0 m) st):=by
 refine(b_3 hc hw xs.length (I:=fun i f st=>f ti= .int .i64 (i:Nat)∧∃v,f ta=v∧AccT s st v (es0 ++(xs.take i).flatMap h)∧J v st) (Q:=fun e f' st'=>e= .exit id∧∃v,f' ta=v∧AccT s st' v (es0 ++xs.flatMap h)∧J v st') ⟨hi0,v0,ha0,by simpa using hA0,hJ⟩ ?_ ?_)
 ·rintro i f st hi hk ⟨h1,v,h2,hA,h3⟩
  have hx:xs[i]? =some xs[i]:=List.getElem?_eq_getElem hi
  have ha:intBin .add .i64 (i:Nat) 1=some (.int .i64 ((i:Int)+1)):=Q_4 (by omega) (by omega)
  refine(round i xs[i] f st v _ hi hx (List.getElem_mem hi) hk h1 h2 hA rfl ha h3).mono ?_
  rintro e f' st' ⟨q1,q2,v',q3,q4,q5⟩
  refine .inl ⟨q1,?_,v',q3,?_,q5⟩
  ·rw[q2];simp
  ·rw[List.take_succ_eq_append_getElem hi,List.flatMap_append,←List.append_assoc];simpa using q4
 ·rintro f st hk ⟨h1,v,h2,hA,h3⟩
  refine(stop f st v hk h1 h2 h3).mono ?_
  rintro e f' st' ⟨rfl,q2,rfl⟩
  rw[List.take_length]at hA
  exact⟨by simp,rfl,v,q2,hA,h3⟩
end Go.Abs
namespace Go.Proofs.YtghhphdkojjalaaGreatDoor
open Go.Abs
set_option maxRecDepth 1000000
def asciiNs:List Int:=[0,0,0,0,0,0,0,0,0,1,1,1,1,1,0,0,0,0,0,0,0,0,0,0,0,0,0,0,0,0,0,0,1] ++List.replicate 223 0
def roL:List Nat:=[23,24,29,30,33,44,66,111,113,115,117,132,161,188,219,221,234]
def splitL:List Nat:=[121,122,123,124,165,166]
def shut2L:List Nat:=[57,129,130]
def shutL:List Nat:=[9,10,12,13,14,16,18,20,22,25,27,28,31,32,34,35,36,37,38,39,40,42,46,47,48,49,50,51,53,54,56,58,59,60,61,62,63,64,67,68,69,71,72,73,74,75,76,77,78,79,80,81,82,83,84,85,86,87,89,91,92,93,94,95,96,97,98,99,100,101,102,103,118,119,120,125,126,127,128,134,135,136,137,138,139,140,141,142,143,162,163,164,167,168,169,170,171,172,173,174,175,176,177,189,190,191,192,193,194,195,196,215,216,217,225,232]
def modeOf(f:Nat):CallMode:=if shutL.contains f then .shut else if roL.contains f then .ro else if splitL.contains f then .split else if shut2L.contains f then .shut2 else .open_
noncomputable def tb0:Tab:=Tab.of Tryz.prog (fun g=>if g=0 then some (asciiNs.map (V.int .u8))else .none) modeOf (fun f=>if f=198 then some .indexByteString else .none) (fun t=>t==67)
theorem bx_3:∃T:Tab,T=tb0:=⟨tb0,rfl⟩
noncomputable def tb:Tab:=Classical.choose bx_3
theorem a_:tb=tb0:=Classical.choose_spec bx_3
def wordL:List (List UInt8):=["struct", "enum", "fn", "let", "safe", "hook", "int", "box", "ref", "mut", "add", "sub", "less", "use", "new", "tag", "out", "goto", "if", "match", "check", "call", "catch", "return"].map fun s=>s.toUTF8.data.toList
theorem bj_6(st:St):(ev tb 400).call 140 [] st=some (.list false none (wordL.map .str),st):=by rw[a_];kernel_rfl
end Go.Proofs.YtghhphdkojjalaaGreatDoor
namespace Go.Proofs.YtghhphdkojjalaaGreatDoor
open Go.Abs
set_option maxRecDepth 1000000
def memoL(l:List (Nat×List UInt8×V))(f:FuncId)(a:List V):Option V:=match a with
 |[]=>if f=140 then some (.list false none (wordL.map .str))else none
 |[.str s]=>(l.find? fun x=>x.1==f&&x.2.1==s).map fun x=>x.2.2
 |_=>none
theorem aw_4(st:St):(run tb).call 140 [] st=some (.list false none (wordL.map .str),st):=Q_0 (bj_6 st)
theorem V_8{l:List (Nat×List UInt8×V)}(h:∀x∈l,∀st,(run tb).call x.1 [.str x.2.1] st=some (x.2.2,st)):MemoOk tb (memoL l):=by
 intro f a v hv st
 unfold memoL at hv
 split at hv
 ·split at hv
  ·rename_i hf
   subst hf
   cases hv;exact aw_4 st
  ·cases hv
 ·rename_i s
  obtain⟨x,hx,rfl⟩:=Option.map_eq_some_iff.1 hv
  have h1:=List.find?_some hx
  simp only[Bool.and_eq_true]at h1
  have h2:=h x (List.mem_of_find?_eq_some hx) st
  rw[eq_of_beq h1.1,eq_of_beq h1.2]at h2
  exact h2
 ·cases hv
def src1:List UInt8:=[115,116,114,117,99,116,32,112,97,105,114,32,115,97,102,101,32,123,32,97,32,105,110,116,59,32,98,32,98,111,120,32,112,97,105,114,59,32,125,32,101,110,117,109,32,111,112,116,32,123,32,110,111,110,101,59,32,115,111,109,101,32,112,97,105,114,59,32,125,32,115,116,114,117,99,116,32,104,107,32,104,111,111,107,32,123,32,125]
def src2:List UInt8:=[115,116,114,117,99,116,32,97,32,123,32,98,32,98,59,32,125,32,115,116,114,117,99,116,32,98,32,123,32,97,32,97,59,32,125]
def src3:List UInt8:=[115,116,114,117,99,116,32,97,32,123,32,120,32,105,110,116,59,32,120,32,122,122,59,32,125]
def bv_9:V:=(.tup [(.list false none [(.agg [(.int .i64 2),(.int .i64 0),(.str [115,116,114,117,99,116]),(.int .i64 0)]),(.agg [(.int .i64 1),(.int .i64 7),(.str [112,97,105,114]),(.int .i64 0)]),(.agg [(.int .i64 2),(.int .i64 12),(.str [115,97,102,101]),(.int .i64 0)]),(.agg [(.int .i64 4),(.int .i64 17),(.str [123]),(.int .i64 0)]),(.agg [(.int .i64 1),(.int .i64 19),(.str [97]),(.int .i64 0)]),(.agg [(.int .i64 2),(.int .i64 21),(.str [105,110,116]),(.int .i64 0)]),(.agg [(.int .i64 4),(.int .i64 24),(.str [59]),(.int .i64 0)]),(.agg [(.int .i64 1),(.int .i64 26),(.str [98]),(.int .i64 0)]),(.agg [(.int .i64 2),(.int .i64 28),(.str [98,111,120]),(.int .i64 0)]),(.agg [(.int .i64 1),(.int .i64 32),(.str [112,97,105,114]),(.int .i64 0)]),(.agg [(.int .i64 4),(.int .i64 36),(.str [59]),(.int .i64 0)]),(.agg [(.int .i64 4),(.int .i64 38),(.str [125]),(.int .i64 0)]),(.agg [(.int .i64 2),(.int .i64 40),(.str [101,110,117,109]),(.int .i64 0)]),(.agg [(.int .i64 1),(.int .i64 45),(.str [111,112,116]),(.int .i64 0)]),(.agg [(.int .i64 4),(.int .i64 49),(.str [123]),(.int .i64 0)]),(.agg [(.int .i64 1),(.int .i64 51),(.str [110,111,110,101]),(.int .i64 0)]),(.agg [(.int .i64 4),(.int .i64 55),(.str [59]),(.int .i64 0)]),(.agg [(.int .i64 1),(.int .i64 57),(.str [115,111,109,101]),(.int .i64 0)]),(.agg [(.int .i64 1),(.int .i64 62),(.str [112,97,105,114]),(.int .i64 0)]),(.agg [(.int .i64 4),(.int .i64 66),(.str [59]),(.int .i64 0)]),(.agg [(.int .i64 4),(.int .i64 68),(.str [125]),(.int .i64 0)]),(.agg [(.int .i64 2),(.int .i64 70),(.str [115,116,114,117,99,116]),(.int .i64 0)]),(.agg [(.int .i64 1),(.int .i64 77),(.str [104,107]),(.int .i64 0)]),(.agg [(.int .i64 2),(.int .i64 80),(.str [104,111,111,107]),(.int .i64 0)]),(.agg [(.int .i64 4),(.int .i64 85),(.str [123]),(.int .i64 0)]),(.agg [(.int .i64 4),(.int .i64 87),(.str [125]),(.int .i64 0)])]),(.agg [(.int .i64 0),(.int .i64 0)])])
def bx_0:V:=(.tup [(.list false none [(.agg [(.int .i64 2),(.int .i64 0),(.str [115,116,114,117,99,116]),(.int .i64 0)]),(.agg [(.int .i64 1),(.int .i64 7),(.str [97]),(.int .i64 0)]),(.agg [(.int .i64 4),(.int .i64 9),(.str [123]),(.int .i64 0)]),(.agg [(.int .i64 1),(.int .i64 11),(.str [98]),(.int .i64 0)]),(.agg [(.int .i64 1),(.int .i64 13),(.str [98]),(.int .i64 0)]),(.agg [(.int .i64 4),(.int .i64 14),(.str [59]),(.int .i64 0)]),(.agg [(.int .i64 4),(.int .i64 16),(.str [125]),(.int .i64 0)]),(.agg [(.int .i64 2),(.int .i64 18),(.str [115,116,114,117,99,116]),(.int .i64 0)]),(.agg [(.int .i64 1),(.int .i64 25),(.str [98]),(.int .i64 0)]),(.agg [(.int .i64 4),(.int .i64 27),(.str [123]),(.int .i64 0)]),(.agg [(.int .i64 1),(.int .i64 29),(.str [97]),(.int .i64 0)]),(.agg [(.int .i64 1),(.int .i64 31),(.str [97]),(.int .i64 0)]),(.agg [(.int .i64 4),(.int .i64 32),(.str [59]),(.int .i64 0)]),(.agg [(.int .i64 4),(.int .i64 34),(.str [125]),(.int .i64 0)])]),(.agg [(.int .i64 0),(.int .i64 0)])])
def bA_0:V:=(.tup [(.list false none [(.agg [(.int .i64 2),(.int .i64 0),(.str [115,116,114,117,99,116]),(.int .i64 0)]),(.agg [(.int .i64 1),(.int .i64 7),(.str [97]),(.int .i64 0)]),(.agg [(.int .i64 4),(.int .i64 9),(.str [123]),(.int .i64 0)]),(.agg [(.int .i64 1),(.int .i64 11),(.str [120]),(.int .i64 0)]),(.agg [(.int .i64 2),(.int .i64 13),(.str [105,110,116]),(.int .i64 0)]),(.agg [(.int .i64 4),(.int .i64 16),(.str [59]),(.int .i64 0)]),(.agg [(.int .i64 1),(.int .i64 18),(.str [120]),(.int .i64 0)]),(.agg [(.int .i64 1),(.int .i64 20),(.str [122,122]),(.int .i64 0)]),(.agg [(.int .i64 4),(.int .i64 22),(.str [59]),(.int .i64 0)]),(.agg [(.int .i64 4),(.int .i64 24),(.str [125]),(.int .i64 0)])]),(.agg [(.int .i64 0),(.int .i64 0)])])
def by_3:V:=(.tup [(.agg [(.list false none [(.agg [(.int .i64 0),(.str [112,97,105,114]),(.bool true),(.bool false),(.list false none [(.agg [(.str [97]),(.str [105,110,116])]),(.agg [(.str [98]),(.str [98,111,120,32,112,97,105,114])])])]),(.agg [(.int .i64 70),(.str [104,107]),(.bool false),(.bool true),(.list false none [])])]),(.list false none [(.agg [(.int .i64 40),(.str [111,112,116]),(.list false none [(.agg [(.str [110,111,110,101]),(.str [])]),(.agg [(.str [115,111,109,101]),(.str [112,97,105,114])])])])]),(.list false none [])]),(.list true none [])])
def bz_2:V:=(.tup [(.agg [(.list false none [(.agg [(.int .i64 0),(.str [97]),(.bool false),(.bool false),(.list false none [(.agg [(.str [98]),(.str [98])])])]),(.agg [(.int .i64 18),(.str [98]),(.bool false),(.bool false),(.list false none [(.agg [(.str [97]),(.str [97])])])])]),(.list false none []),(.list false none [])]),(.list true none [])])
def bx_:V:=(.tup [(.agg [(.list false none [(.agg [(.int .i64 0),(.str [97]),(.bool false),(.bool false),(.list false none [(.agg [(.str [120]),(.str [105,110,116])]),(.agg [(.str [120]),(.str [122,122])])])])]),(.list false none []),(.list false none [])]),(.list true none [])])
end Go.Proofs.YtghhphdkojjalaaGreatDoor
