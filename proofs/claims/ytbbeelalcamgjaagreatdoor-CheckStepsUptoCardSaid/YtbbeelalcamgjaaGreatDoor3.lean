/- A shared part of the proofs of the Check statements: a verified evaluator, the code in parts, the functions walked. -/
import Derived.Deep.DeepHandedRow
import Derived.Stop.Joined
import Derived.Test.YtbbeelalcamgjaaGreatDoorRows
import Derived.Test.YtbbeelalcamgjaaGreatDoor2
set_option linter.unusedVariables false
set_option linter.unusedSimpArgs false
set_option linter.unnecessarySimpa false
set_option linter.all false
namespace Go.Abs
section
variable {T:Tab} {S:Go.Abs.S} {f:Nat→V} {n:Nat} {m:List Nat} {st:St} {dd:Option Nat} {ss:List Step}
theorem C_3{k:IntKind}{a b:Int}:minmax true (.int k a) (.int k b)=some (.int k (if b>a then b else a)):=by simp[minmax]
theorem G_3{x y:Operand}{ts:Array TypeId}:evSteps T S (⟨dd, .call {callee:= .builtin .max,args:= #[x,y],argTypes:=ts},none⟩::ss) (mk n f m) st=bindV (evArg T (mk n f m) x) fun x=>bindV (evArg T (mk n f m) y) fun y=>bindV (minmax true x y) fun v=>evSteps T S ss (mk n (putF f dd v) m) st:=by
 rw[q_4 rfl]
 simp only[evPure,evArgs]
 cases evArg T (mk n f m) x with
 |none=>rfl
 |some a=>cases evArg T (mk n f m) y with
  |none=>rfl
  |some b=>rfl
theorem G_8{x y z:Operand}{ts:Array TypeId}:evSteps T S (⟨dd, .call {callee:= .builtin .max,args:= #[x,y,z],argTypes:=ts},none⟩::ss) (mk n f m) st=bindV (evArg T (mk n f m) x) fun x=>bindV (evArg T (mk n f m) y) fun y=>bindV (evArg T (mk n f m) z) fun z=>bindV (minmax true x y) fun w=>bindV (minmax true w z) fun v=>evSteps T S ss (mk n (putF f dd v) m) st:=by
 rw[q_4 rfl]
 simp only[evPure,evArgs]
 cases evArg T (mk n f m) x with
 |none=>rfl
 |some a=>cases evArg T (mk n f m) y with
  |none=>rfl
  |some b=>cases evArg T (mk n f m) z with
   |none=>rfl
   |some c=>
    simp only[List.foldl_cons,List.foldl_nil,a_7,Option.bind_some]
    cases minmax true a b with
    |none=>rfl
    |some w=>rfl
end
theorem s_0{b:Bool}:V.cells (.bool b)=[(.bool b)]:=rfl
theorem s_2{b:Bool}:V.oneCell (.bool b)=true:=rfl
theorem E_{k:IntKind}{i:Int}:V.cells (.int k i)=[(.int k i)]:=rfl
theorem G_2{k:IntKind}{i:Int}:V.oneCell (.int k i)=true:=rfl
theorem G_0{s:List UInt8}:V.cells (.str s)=[(.str s)]:=rfl
theorem C_0{s:List UInt8}:V.oneCell (.str s)=true:=rfl
theorem x_0:V.cells .nilp=[.nilp]:=rfl
theorem v_8:V.oneCell .nilp=true:=rfl
theorem B_8{r o:Nat}:V.cells (.ptr r o)=[(.ptr r o)]:=rfl
theorem F_0{r o:Nat}:V.oneCell (.ptr r o)=true:=rfl
theorem x_4{r i o:Nat}:V.cells (.eptr r i o)=[(.eptr r i o)]:=rfl
theorem w_1{r i o:Nat}:V.oneCell (.eptr r i o)=true:=rfl
theorem t_{cs:List V}:V.cells (.iptr cs)=[(.iptr cs)]:=rfl
theorem w_5{cs:List V}:V.oneCell (.iptr cs)=true:=rfl
theorem t_1{f:Bool}{nl:Option Bool}{xs:List V}:V.cells (.list f nl xs)=[(.list f nl xs)]:=rfl
theorem u_4{f:Bool}{nl:Option Bool}{xs:List V}:V.oneCell (.list f nl xs)=true:=rfl
theorem n_6{r s o l:Nat}:V.cells (.slice r s o l)=[(.slice r s o l)]:=rfl
theorem n_0{r s o l:Nat}:V.oneCell (.slice r s o l)=true:=rfl
theorem C_9{r:Nat}:V.cells (.map r)=[(.map r)]:=rfl
theorem F_4{r:Nat}:V.oneCell (.map r)=true:=rfl
theorem i_3:V.cells .nilmap=[.nilmap]:=rfl
theorem i_:V.oneCell .nilmap=true:=rfl
theorem s_7{g:Fn}{a b:List V}:V.cells (.func g a b)=[(.func g a b)]:=rfl
theorem t_9{g:Fn}{a b:List V}:V.oneCell (.func g a b)=true:=rfl
theorem e_8:V.cells .nilfunc=[.nilfunc]:=rfl
theorem e_4:V.oneCell .nilfunc=true:=rfl
theorem D_3{cs:List V}:V.cells (.agg cs)=cs:=rfl
end Go.Abs
namespace Go.Abs
theorem k_9{α β:Type}(h:α→List β)(xs:List α)(i:Nat):((xs.take i).flatMap h).length≤(xs.flatMap h).length:=by
 have e:xs.flatMap h=(xs.take i).flatMap h ++(xs.drop i).flatMap h:=by rw[←List.flatMap_append,List.take_append_drop]
 rw[e,List.length_append];omega
theorem P_5{T:Tab}{n:Nat}{m:List Nat}{st:St}{rd:Option Nat}{c b:Code}{W:List Nat}(hc:c= .loop b)(hw:writes b=some W){α:Type}(xs:List α)(h:α→List UInt8)(ti ta id B:Nat){f0:Nat→V}{s0:List UInt8}(J:St→Prop)
  (hi0:f0 ti= .int .i64 0) (ha0:f0 ta= .str s0) (hJ:J st) (hB:s0.length+(xs.flatMap h).length≤B)
  (round:∀(i:Nat) x f st s,i<xs.length→xs[i]? =some x→x∈xs→(∀t,t<n→W.contains t=false→f t=f0 t)→f ti= .int .i64 (i:Nat)→f ta= .str s→s.length+(h x).length≤B→intBin .add .i64 (i:Nat) 1=some (.int .i64 ((i:Int)+1))→J st→
   Out n m (fun e f' st'=>e= .normal∧f' ti= .int .i64 ((i:Int)+1)∧f' ta= .str (s ++h x)∧J st') ((run T).code rd b (mk n f m) st))
  (stop:∀f st v,(∀t,t<n→W.contains t=false→f t=f0 t)→f ti= .int .i64 (xs.length:Nat)→f ta=v→J st→Out n m (fun e f' st'=>e= .exit id∧f' ta=v∧J st') ((run T).code rd b (mk n f m) st)) (hlen:xs.length<2^40):
  Out n m (fun e f' st'=>(J st'∧e= .exit id∧f' ta= .str (s0 ++xs.flatMap h))∧∀t,t<n→W.contains t=false→f' t=f0 t) ((run T).code rd c (mk n f0 m) st):=by
 refine a_8 hc hw xs.length (I:=fun i f st=>f ti= .int .i64 (i:Nat)∧f ta= .str (s0 ++(xs.take i).flatMap h)∧J st) ⟨hi0,by simpa using ha0,hJ⟩ ?_ ?_
 ·rintro i f st hi hk ⟨h1,h2,h3⟩
  have hx:xs[i]? =some xs[i]:=List.getElem?_eq_getElem hi
  have ha:intBin .add .i64 (i:Nat) 1=some (.int .i64 ((i:Int)+1)):=L_5 (by omega) (by omega)
  have hl:(s0 ++(xs.take i).flatMap h).length+(h xs[i]).length≤B:=by
   have:=k_9 h xs (i+1)
   rw[List.take_succ_eq_append_getElem hi,List.flatMap_append]at this
   simp only[List.length_append,List.flatMap_cons,List.flatMap_nil,List.append_nil]at this⊢
   omega
  refine(round i xs[i] f st _ hi hx (List.getElem_mem hi) hk h1 h2 hl ha h3).mono ?_
  rintro e f' st' ⟨q1,q2,q3,q4⟩
  refine .inl ⟨q1,?_,?_,q4⟩
  ·rw[q2];simp
  ·rw[q3,List.take_succ_eq_append_getElem hi,List.flatMap_append];simp
 ·rintro f st hk ⟨h1,h2,h3⟩
  refine(stop f st _ hk h1 h2 h3).mono ?_
  rintro e f' st' ⟨rfl,q2,q3⟩
  rw[List.take_length]at q2
  exact⟨by simp,q3,rfl,q2⟩
theorem o_7{st:St}(h:st.prot=[]):setProt st []=st:=by cases st;simp only at h;subst h;rfl
theorem A_3:setProt emptySt []=emptySt:=rfl
theorem B_5{st:St}{cs:List V}{p:List Nat}:setProt (newBox st cs) p=newBox (setProt st p) cs:=rfl
theorem p_0{st:St}{r:Nat}{o:O}{p:List Nat}:setProt (setO st r o) p=setO (setProt st p) r o:=rfl
theorem p_7{st:St}{o:O}{p:List Nat}:setProt (addO st o) p=addO (setProt st p) o:=rfl
theorem remU{n:Nat}:intBin .rem .u64 (n:Int) 10=some (.int .u64 ((n%10:Nat):Int)):=by
 simp only[intBin]
 rw[if_neg (by decide)]
 have:(n:Int).tmod 10=((n%10:Nat):Int):=by
  rw[Int.tmod_eq_emod_of_nonneg (by omega)];omega
 rw[this]
theorem quoU{n:Nat}(h:n<2^64):intBin .quo .u64 (n:Int) 10=some (.int .u64 ((n/10:Nat):Int)):=by
 simp only[intBin]
 rw[if_neg (by decide)]
 have:(n:Int).tdiv 10=((n/10:Nat):Int):=by
  rw[Int.tdiv_eq_ediv_of_nonneg (by omega)];omega
 rw[this,wrapU _ (by omega) (by omega)]
end Go.Abs
namespace Go.Abs
def refOf:V→Option Nat| .slice r _ _ _=>some r|_=>none
def Acc(s:Nat)(st:St)(v:V)(es:List V):Prop:=(∃nl,v= .list true nl []∧es=[])∨(∃r acc,v= .slice r s 0 es.length∧st.store[r]? =some (.vec acc es)∧es≠[])
structure Rest(ex:Option Nat)(a b:St):Prop where
 base:b.base=a.base
 prot:b.prot=a.prot
 len:a.store.length≤b.store.length
 get:∀(i:Nat) (o:O),a.store[i]? =some o→ex≠some i→b.store[i]? =some o
structure Boxes(a b:St):Prop where
 base:b.base=a.base
 prot:b.prot=a.prot
 len:a.store.length≤b.store.length
 get:∀(i:Nat) (cs:List V),a.store[i]? =some (O.box cs)→b.store[i]? =some (O.box cs)
theorem Boxes.refl(st:St):Boxes st st:=⟨rfl,rfl,Nat.le_refl _,fun _ _ h=>h⟩
theorem Boxes.trans{a b c:St}(h:Boxes a b)(h':Boxes b c):Boxes a c:=⟨h'.base.trans h.base,h'.prot.trans h.prot,Nat.le_trans h.len h'.len,fun i cs hi=>h'.get i cs (h.get i cs hi)⟩
theorem Boxes.box{a b:St}(h:Boxes a b)(cs:List V):Boxes a (newBox b cs):=⟨h.base,h.prot,Nat.le_trans h.len (by simp[newBox]),fun i ds hi=>by
 show(b.store ++[.box cs])[i]? =_
 exact a_2 (h.get i ds hi)⟩
theorem Rest.box(ex:Option Nat)(st:St)(cs:List V):Rest ex st (newBox st cs):=⟨rfl,rfl,by simp[newBox],fun i o hi _=>by
 show(st.store ++[.box cs])[i]? =_
 exact a_2 hi⟩
theorem Acc.rest{s:Nat}{st st':St}{v:V}{es:List V}{ex:Option Nat}(h:Acc s st v es)(hr:Rest ex st st')(hx:refOf v=none∨ex≠refOf v):Acc s st' v es:=by
 rcases h with h|⟨r,acc,rfl,h,hne⟩
 ·exact .inl h
 ·refine .inr ⟨r,acc,rfl,hr.get _ _ h ?_,hne⟩
  rcases hx with hx|hx
  ·cases hx
  ·exact hx
theorem Acc.box{s:Nat}{st:St}{v:V}{es:List V}(h:Acc s st v es)(cs:List V):Acc s (newBox st cs) v es:=h.rest (Rest.box none st cs) (by cases refOf v<;>simp)
theorem Acc.boxes{s:Nat}{st st':St}{v:V}{es:List V}(h:Acc s st v es)(hr:Rest (refOf v) st st'):Boxes st st':=⟨hr.base,hr.prot,hr.len,fun i cs hi=>hr.get i _ hi (by
 rcases h with⟨nl,rfl,h⟩|⟨r,acc,rfl,h,hne0⟩
 ·simp[refOf]
 ·intro e
  simp only[refOf,Option.some.injEq]at e
  subst e
  rw[h]at hi;cases hi)⟩
theorem Acc.app{s bytes:Nat}{sp:Bool}{st:St}{v y:V}{es new:List V}(h:Acc s st v es)(hb0:st.base=0)(hp:st.prot=[])(hs:srcElems st y=some new)(hc:new.all (fun v=>v.cells.length==s&&v.cells.all V.oneCell)=true)(h0:s≠0)(hb:bytes≠0)(hl:(es.length+new.length)* bytes<2^40):
  ∃v' st',appV s bytes st sp v y=some (v',st')∧Acc s st' v' (es ++new)∧Rest (refOf v) st st'∧(refOf v'=refOf v∨∃r,refOf v'=some r∧st.store.length≤r):=by
 by_cases hn:new=[]
 ·subst hn
  refine⟨v,st,g_4 hs h0 hb ?_,by simpa using h,⟨rfl,rfl,Nat.le_refl _,fun _ _ h _=>h⟩, .inl rfl⟩
  rcases h with⟨nl,rfl,h⟩|⟨q,acc,rfl,h,hne0⟩<;>rfl
 rcases h with⟨nl,rfl,rfl⟩|⟨r,acc,rfl,h,hne0⟩
 ·refine⟨_,_,A_5 hs hn hc h0 hb (by simpa using hl), .inr ⟨_,!sp,by simp;rfl,by simp[addO],by simpa using hn⟩,⟨rfl,rfl,by simp[addO],fun i o hi _=> ?_⟩, .inr ⟨_,rfl,Nat.le_refl _⟩⟩
  show(st.store ++_)[i]? =_
  exact a_2 hi
 ·have hr:r<st.store.length:=(List.getElem?_eq_some_iff.1 h).1
  refine⟨_,_,aQ_6 hs hn hc h0 hb (by simp[St.locked,hb0,hp]) h rfl hl, .inr ⟨_,acc||es.isEmpty,by simp;rfl,by simp[addO,setO],by simp[hn]⟩,⟨rfl,rfl,by simp[addO,setO],fun i o hi hne=> ?_⟩, .inr ⟨_,rfl,Nat.le_refl _⟩⟩
  show(st.store.set r .dead ++_)[i]? =_
  refine a_2 ?_
  rw[List.getElem?_set_ne (by intro e;subst e;exact hne rfl)];exact hi
theorem aR_7{s:Nat}{st:St}{nl:Option Bool}:Acc s st (.list true nl []) []:= .inl ⟨nl,rfl,rfl⟩
theorem x_8{α β:Type}{f:α→Option β}{g:α→β}:∀{xs:List α},(∀x∈xs,f x=some (g x))→xs.mapM f=some (xs.map g)
 |[],_=>rfl
 |x::xs,h=>by
  rw[List.mapM_cons,h x (by simp),x_8 fun y hy=>h y (by simp[hy])];rfl
theorem Acc.retV{s:Nat}{st st0:St}{v:V}{es:List V}{g:V→V}(h:Acc s st v es)(hg:∀x∈es,freeze st (some 0) 39 x=some (g x))(hbl:(es.map g).all (below 0 39)=true):
  ∃b nl,retV 0 st0 v (freeze st (some 0) 40 v)=some (.list b nl (es.map g),st0):=by
 rcases h with⟨nl,rfl,rfl⟩|⟨r,acc,rfl,h,hne0⟩
 ·exact⟨true,none,rfl⟩
 ·refine⟨false,none,?_⟩
  rw[c_7,h]
  have:frozenNow (some 0) acc r=true:=by simp[frozenNow]
  simp only[sliceO,rowA,this,if_true,Nat.zero_add,Nat.le_refl,List.drop_zero,List.take_length]
  rw[x_8 hg]
  simp only[listO,Go.Abs.retV]
  rw[if_pos]
  ·rw[f_]
  ·rw[f_];exact hbl
theorem bb_3{T:Tab}{n:Nat}{m:List Nat}{st:St}{rd:Option Nat}{c b:Code}{W:List Nat}(hc:c= .loop b)(hw:writes b=some W){α:Type}(xs:List α)(h:α→List V)(s ti ta id:Nat){f0:Nat→V}{v0:V}{es0:List V}(J:V→St→Prop)
  (hi0:f0 ti= .int .i64 0) (ha0:f0 ta=v0) (hA0:Acc s st v0 es0) (hJ:J v0 st)
  (round:∀(i:Nat) x f st v es,i<xs.length→xs[i]? =some x→x∈xs→(∀t,t<n→W.contains t=false→f t=f0 t)→f ti= .int .i64 (i:Nat)→f ta=v→Acc s st v es→es=es0 ++(xs.take i).flatMap h→intBin .add .i64 (i:Nat) 1=some (.int .i64 ((i:Int)+1))→J v st→
   Out n m (fun e f' st'=>e= .normal∧f' ti= .int .i64 ((i:Int)+1)∧∃v',f' ta=v'∧Acc s st' v' (es ++h x)∧J v' st') ((run T).code rd b (mk n f m) st))
  (stop:∀f st v,(∀t,t<n→W.contains t=false→f t=f0 t)→f ti= .int .i64 (xs.length:Nat)→f ta=v→J v st→Out n m (fun e f' st'=>e= .exit id∧f' ta=v∧st'=st) ((run T).code rd b (mk n f m) st)) (hlen:xs.length<2^40):
  Out n m (fun e f' st'=>(e= .exit id∧∃v,f' ta=v∧Acc s st' v (es0 ++xs.flatMap h)∧J v st')∧∀t,t<n→W.contains t=false→f' t=f0 t) ((run T).code rd c (mk n f0 m) st):=by
 refine(a_8 hc hw xs.length (I:=fun i f st=>f ti= .int .i64 (i:Nat)∧∃v,f ta=v∧Acc s st v (es0 ++(xs.take i).flatMap h)∧J v st) (Q:=fun e f' st'=>e= .exit id∧∃v,f' ta=v∧Acc s st' v (es0 ++xs.flatMap h)∧J v st') ⟨hi0,v0,ha0,by simpa using hA0,hJ⟩ ?_ ?_)
 ·rintro i f st hi hk ⟨h1,v,h2,hA,h3⟩
  have hx:xs[i]? =some xs[i]:=List.getElem?_eq_getElem hi
  have ha:intBin .add .i64 (i:Nat) 1=some (.int .i64 ((i:Int)+1)):=L_5 (by omega) (by omega)
  refine(round i xs[i] f st v _ hi hx (List.getElem_mem hi) hk h1 h2 hA rfl ha h3).mono ?_
  rintro e f' st' ⟨q1,q2,v',q3,q4,q5⟩
  refine .inl ⟨q1,?_,v',q3,?_,q5⟩
  ·rw[q2];simp
  ·rw[List.take_succ_eq_append_getElem hi,List.flatMap_append,←List.append_assoc];simpa using q4
 ·rintro f st hk ⟨h1,v,h2,hA,h3⟩
  refine(stop f st v hk h1 h2 h3).mono ?_
  rintro e f' st' ⟨rfl,q2,rfl⟩
  rw[List.take_length]at hA
  exact⟨by simp,rfl,v,q2,hA,h3⟩
end Go.Abs
namespace Go.Abs
theorem addN(a b:Nat)(h:a+b<2^63):∃c:Nat,c=a+b∧intBin .add .i64 (a:Int) (b:Int)=some (.int .i64 (c:Int)):=
 ⟨a+b,rfl,by rw[L_5 (by omega) (by omega)];simp⟩
theorem Z_4(l:List Nat)(i:Nat):(l.take i).sum≤l.sum:=by
 have e:l.sum=(l.take i).sum+(l.drop i).sum:=by rw[←List.sum_append,List.take_append_drop]
 omega
def NatV(B:Nat)(v:V):Prop:=∃N:Nat,v= .int .i64 (N:Nat)∧N≤B
theorem natV{B c:Nat}(h:c≤B):NatV B (.int .i64 (c:Int)):=⟨c,rfl,h⟩
theorem ae_2{T:Tab}{n:Nat}{m:List Nat}{st:St}{rd:Option Nat}{c b:Code}{W:List Nat}(hc:c= .loop b)(hw:writes b=some W){α:Type}(xs:List α)(w:α→Nat)(ti ta id N0 B:Nat){f0:Nat→V}(J:St→Prop)(Qr:(Nat→V)→Prop)
  (hi0:f0 ti= .int .i64 0) (ha0:f0 ta= .int .i64 (N0:Nat)) (hJ:J st) (hB:N0+(xs.map w).sum≤B)
  (round:∀(i:Nat) x f st N,i<xs.length→xs[i]? =some x→x∈xs→(∀t,t<n→W.contains t=false→f t=f0 t)→f ti= .int .i64 (i:Nat)→f ta= .int .i64 (N:Nat)→N+w x≤B→intBin .add .i64 (i:Nat) 1=some (.int .i64 ((i:Int)+1))→J st→
   Out n m (fun e f' st'=>(e= .normal∧f' ti= .int .i64 ((i:Int)+1)∧NatV (N+w x) (f' ta)∧J st')∨(e= .ret∧Qr f')) ((run T).code rd b (mk n f m) st))
  (stop:∀f st v,(∀t,t<n→W.contains t=false→f t=f0 t)→f ti= .int .i64 (xs.length:Nat)→f ta=v→J st→Out n m (fun e f' st'=>e= .exit id∧f' ta=v∧J st') ((run T).code rd b (mk n f m) st)) (hlen:xs.length<2^40):
  Out n m (fun e f' st'=>((e= .exit id∧(∃N:Nat,f' ta= .int .i64 (N:Nat)∧N≤N0+(xs.map w).sum)∧J st')∨(e= .ret∧Qr f'))∧∀t,t<n→W.contains t=false→f' t=f0 t) ((run T).code rd c (mk n f0 m) st):=by
 refine a_8 hc hw xs.length (I:=fun i f st=>f ti= .int .i64 (i:Nat)∧(∃N:Nat,f ta= .int .i64 (N:Nat)∧N≤N0+((xs.map w).take i).sum)∧J st) ⟨hi0,⟨N0,ha0,by simp⟩,hJ⟩ ?_ ?_
 ·rintro i f st hi hk ⟨h1,⟨N,h2,hN⟩,h3⟩
  have hx:xs[i]? =some xs[i]:=List.getElem?_eq_getElem hi
  have ha:intBin .add .i64 (i:Nat) 1=some (.int .i64 ((i:Int)+1)):=L_5 (by omega) (by omega)
  have hs:((xs.map w).take (i+1)).sum=((xs.map w).take i).sum+w xs[i]:=by
   rw[List.take_succ_eq_append_getElem (by simpa using hi),List.sum_append];simp
  have hl:=Z_4 (xs.map w) (i+1)
  refine(round i xs[i] f st N hi hx (List.getElem_mem hi) hk h1 h2 (by omega) ha h3).mono ?_
  rintro e f' st' (⟨q1,q2,⟨N',q3,q5⟩,q4⟩|⟨rfl,q⟩)
  ·refine .inl ⟨q1,?_,⟨N',q3,by omega⟩,q4⟩
   rw[q2];simp
  ·exact .inr ⟨by simp, .inr ⟨rfl,q⟩⟩
 ·rintro f st hk ⟨h1,⟨N,h2,hN⟩,h3⟩
  refine(stop f st _ hk h1 h2 h3).mono ?_
  rintro e f' st' ⟨rfl,q2,q3⟩
  have hl:=Z_4 (xs.map w) xs.length
  exact⟨by simp, .inl ⟨rfl,⟨N,q2,by omega⟩,q3⟩⟩
end Go.Abs
namespace Go.Abs
variable {T:Tab} {fid:FuncId} {fn:Func} {st:St}
theorem I_3(hf:T.fn fid=some fn)(hm:T.mode fid= .split){fl:Bool}{nl a b:Option Bool}{sa sb:St}
  (h1:evBody T (run T) fn [.list false (some true) []] {st with base:=st.store.length}=some (.list true a [],sa))
  (h2:evBody T (run T) fn [.list false (some false) []] {st with base:=st.store.length}=some (.list true b [],sb)):
  (run T).call fid [.list fl nl []] st=some (.list true none [],st):=by
 rw[H_4]
 simp only[evCall,hf,hm,isEmptyList,if_true,h1,h2]
theorem z_8(hf:T.fn fid=some fn)(hm:T.mode fid= .split){fl:Bool}{nl:Option Bool}{x:V}{xs:List V}:
  (run T).call fid [.list fl nl (x::xs)] st=evBody T (run T) fn [.list fl nl (x::xs)] st:=by
 rw[H_4]
 simp only[evCall,hf,hm,isEmptyList]
 rfl
theorem W_9(hf:T.fn fid=some fn)(hm:T.mode fid= .shut2){fl:Bool}{nl a b:Option Bool}{sa sb:St}
  (h1:evBody T (run T) fn [.list false (some true) []] emptySt=some (.list true a [],sa))
  (h2:evBody T (run T) fn [.list false (some false) []] emptySt=some (.list true b [],sb)):
  (run T).call fid [.list fl nl []] st=some (.list true none [],st):=by
 rw[H_4]
 have h1':evBody T (run T) fn [.list false (some true) []] {store:=[],base:=0,prot:=[]}=_:=h1
 have h2':evBody T (run T) fn [.list false (some false) []] {store:=[],base:=0,prot:=[]}=_:=h2
 simp only[evCall,hf,hm,isEmptyList,if_true,h1',h2']
theorem Q_5(hf:T.fn fid=some fn)(hm:T.mode fid= .shut2){fl:Bool}{nl:Option Bool}{x:V}{xs:List V}
  (hb:(x::xs).all (below 0 39)=true) {v:V} {st':St} (h:evBody T (run T) fn [.list false none (x::xs)] emptySt=some (v,st')):
  (run T).call fid [.list fl nl (x::xs)] st=shutB st (some (v,st')):=by
 rw[H_4]
 have h':evBody T (run T) fn [.list false none (x::xs)] {store:=[],base:=0,prot:=[]}=_:=h
 have hf2:[V.list fl nl (x::xs)].mapM (freeze st none 40)=some [.list false none (x::xs)]:=rfl
 have hb2:[V.list false none (x::xs)].all (below 0 40)=true:=by
  simp only[List.all_cons,List.all_nil,Bool.and_true]
  exact hb
 simp only[evCall,hf,hm,isEmptyList,evShut,deep,hf2,hb2,if_true,h']
 rfl
theorem J_5{s r:Nat}{acc:Bool}{st st0:St}{es:List V}{g:V→V}(h:st.store[r]? =some (.vec acc es))(hg:∀x∈es,freeze st (some 0) 39 x=some (g x))(hbl:(es.map g).all (below 0 39)=true):
  retV 0 st0 (.slice r s 0 es.length) (freeze st (some 0) 40 (.slice r s 0 es.length))=some (.list false none (es.map g),st0):=by
 rw[c_7,h]
 have:frozenNow (some 0) acc r=true:=by simp[frozenNow]
 simp only[sliceO,rowA,this,if_true,Nat.zero_add,Nat.le_refl,List.drop_zero,List.take_length]
 rw[x_8 hg]
 simp only[listO,Go.Abs.retV]
 rw[if_pos]
 ·rw[f_]
 ·rw[f_];exact hbl
theorem s_4{t e:TypeId}(h:T.und t=some (.slice e))(c fl g:Bool)(nl:Option Bool)(x:V)(xs ys:List V):binV T .eql t c (.list fl nl (x::xs)) (.list g (some true) ys)=some (.bool false):=by
 simp only[binV,evBin,eqVal]
 unfold Tab.und at h
 cases ht:T.ty t with
 |none=>rw[ht]at h;cases h
 |some ti=>
  rw[ht]at h
  simp only[Option.map_some,Option.some.injEq]at h
  simp only[h,Option.map_some]
theorem z_3{t e:TypeId}(h:T.und t=some (.slice e))(c fl g b:Bool)(ys:List V):binV T .eql t c (.list fl (some b) []) (.list g (some true) ys)=some (.bool b):=by
 simp only[binV,evBin,eqVal]
 unfold Tab.und at h
 cases ht:T.ty t with
 |none=>rw[ht]at h;cases h
 |some ti=>
  rw[ht]at h
  simp only[Option.map_some,Option.some.injEq]at h
  simp only[h,Option.map_some]
end Go.Abs
namespace Go.Abs
variable {α:Type}
def getM(D:List (List UInt8×α))(k:List UInt8):Option α:=match D with
 |[]=>none
 |e::D=>if k==e.1 then some e.2 else getM D k
def putM(D:List (List UInt8×α))(k:List UInt8)(a:α):List (List UInt8×α):=match D with
 |[]=>[(k,a)]
 |e::D=>if k==e.1 then(k,a)::D else e::putM D k a
def entsM(g:α→V)(D:List (List UInt8×α)):List (V×V):=D.map fun e=>(.str e.1,g e.2)
def lookM(o:Option O)(zero:V)(k:V)(ok:Bool):Option V:=match o with
 |some (.map es)=>match findKey k es 0 with
  |some (some (_,v))=>some (if ok then .tup [v, .bool true]else v)
  |some none=>some (if ok then .tup [zero, .bool false]else zero)
  |none=>none
 |_=>none
def updM(st:St)(r:Nat)(o:Option O)(k v:V):Option St:=match o with
 |some (.map es)=>match findKey k es 0 with
  |some (some (i,_))=>some (setO st r (.map (es.set i (k,v))))
  |some none=>some (setO st r (.map (es ++[(k,v)])))
  |none=>none
 |_=>none
theorem Y_(g:α→V)(k:List UInt8):∀(D:List (List UInt8×α)) (i:Nat),
  (getM D k=none∧findKey (.str k) (entsM g D) i=some none∧∀v,entsM g D ++[(.str k,g v)]=entsM g (putM D k v))∨
  (∃a j,getM D k=some a∧findKey (.str k) (entsM g D) i=some (some (i+j,g a))∧∀v,(entsM g D).set j (.str k,g v)=entsM g (putM D k v))
 |[],i=> .inl ⟨rfl,rfl,fun v=>rfl⟩
 |e::D,i=>by
  have hk:keyEq (.str k) (.str e.1)=some (k==e.1):=rfl
  cases h:k==e.1 with
  |true=>
   refine .inr ⟨e.2,0,by simp[getM,h],?_,fun v=> ?_⟩
   ·simp only[entsM,List.map_cons,findKey,hk,h];rfl
   ·simp only[entsM,List.map_cons,List.set_cons_zero,putM,h,if_true]
  |false=>
   rcases Y_ g k D (i+1)with⟨h1,h2,h3⟩|⟨a,j,h1,h2,h3⟩
   ·refine .inl ⟨by simp[getM,h,h1],?_,fun v=> ?_⟩
    ·simp only[entsM,List.map_cons,findKey,hk,h];exact h2
    ·have:=h3 v
     simp only[entsM,putM,h,List.map_cons,List.cons_append]at this⊢
     simpa using this
   ·refine .inr ⟨a,j+1,by simp[getM,h,h1],?_,fun v=> ?_⟩
    ·simp only[entsM,List.map_cons,findKey,hk,h]
     have e:i+(j+1)=i+1+j:=by omega
     rw[e];exact h2
    ·have:=h3 v
     simp only[entsM,putM,h,List.map_cons,List.set_cons_succ]at this⊢
     simpa using this
theorem aq_9(g:α→V)(D:List (List UInt8×α))(k:List UInt8)(zero:V)(ok:Bool):lookM (some (.map (entsM g D))) zero (.str k) ok=some (match getM D k with|some a=>if ok then .tup [g a, .bool true]else g a|none=>if ok then .tup [zero, .bool false]else zero):=by
 unfold lookM
 rcases Y_ g k D 0 with⟨h1,h2, -⟩|⟨a,j,h1,h2, -⟩<;>simp only[h1,h2]
theorem aA_2(g:α→V)(D:List (List UInt8×α))(k:List UInt8)(a:α)(st:St)(r:Nat):updM st r (some (.map (entsM g D))) (.str k) (g a)=some (setO st r (.map (entsM g (putM D k a)))):=by
 unfold updM
 rcases Y_ g k D 0 with⟨h1,h2,h3⟩|⟨b,j,h1,h2,h3⟩
 ·simp only[h2,h3 a]
 ·simp only[h2,Nat.zero_add,h3 a]
theorem aS_3(D:List (List UInt8×α))(k k':List UInt8)(a:α):getM (putM D k a) k'=if k'==k then some a else getM D k':=by
 induction D with
 |nil=>simp[putM,getM]
 |cons e D ih=>
  unfold putM
  by_cases h:k=e.1
  ·subst h
   simp only[beq_self_eq_true,if_true,getM]
   split<;>rfl
  ·have h':(k==e.1)=false:=by simpa using h
   simp only[h',getM]
   by_cases h2:k'=e.1
   ·subst h2
    have:(e.1==k)=false:=by simp;exact fun h3=>h h3.symm
    simp[this,getM]
   ·have h2':(k'==e.1)=false:=by simpa using h2
    simp only[h2']
    simpa[getM,h2']using ih
end Go.Abs
namespace Go.Abs
def AccT(s:Nat)(st:St)(v:V)(es:List V):Prop:=(∃nl,v= .list true nl []∧es=[])∨(∃r,es≠[]∧v= .slice r s 0 es.length∧st.store[r]? =some (.vec true es))
theorem AccT.acc{s:Nat}{st:St}{v:V}{es:List V}(h:AccT s st v es):Acc s st v es:=by
 rcases h with h|⟨r,h1,h2,h3⟩
 ·exact .inl h
 ·exact .inr ⟨r,true,h2,h3,h1⟩
theorem AccT.rest{s:Nat}{st st':St}{v:V}{es:List V}{ex:Option Nat}(h:AccT s st v es)(hr:Rest ex st st')(hx:refOf v=none∨ex≠refOf v):AccT s st' v es:=by
 rcases h with h|⟨r,h1,rfl,h⟩
 ·exact .inl h
 ·refine .inr ⟨r,h1,rfl,hr.get _ _ h ?_⟩
  rcases hx with hx|hx
  ·cases hx
  ·exact hx
theorem AccT.box{s:Nat}{st:St}{v:V}{es:List V}(h:AccT s st v es)(cs:List V):AccT s (newBox st cs) v es:=h.rest (Rest.box none st cs) (by cases refOf v<;>simp)
theorem AccT.boxes{s:Nat}{st st':St}{v:V}{es:List V}(h:AccT s st v es)(hr:Rest (refOf v) st st'):Boxes st st':=h.acc.boxes hr
theorem AccT.app{s bytes:Nat}{st:St}{v y:V}{es new:List V}(h:AccT s st v es)(hb0:∀r,refOf v=some r→st.locked r=false)(hs:srcElems st y=some new)(hn:new≠[])(hc:new.all (fun v=>v.cells.length==s&&v.cells.all V.oneCell)=true)(h0:s≠0)(hb:bytes≠0)(hl:(es.length+new.length)* bytes<2^40):
  ∃v' st',appV s bytes st false v y=some (v',st')∧AccT s st' v' (es ++new)∧Rest (refOf v) st st'∧∃r,refOf v'=some r∧st.store.length≤r:=by
 rcases h with⟨nl,rfl,rfl⟩|⟨r,he,rfl,h⟩
 ·refine⟨_,_,A_5 hs hn hc h0 hb (by simpa using hl), .inr ⟨_,by simpa using hn,by simp;rfl,by simp[addO]⟩,⟨rfl,rfl,by simp[addO],fun i o hi _=> ?_⟩,_,rfl,Nat.le_refl _⟩
  show(st.store ++_)[i]? =_
  exact a_2 hi
 ·have hr:r<st.store.length:=(List.getElem?_eq_some_iff.1 h).1
  refine⟨_,_,aQ_6 hs hn hc h0 hb (hb0 r rfl) h rfl hl, .inr ⟨_,by simp[he],by simp;rfl,by simp[addO,setO]⟩,⟨rfl,rfl,by simp[addO,setO],fun i o hi hne=> ?_⟩,_,rfl,Nat.le_refl _⟩
  show(st.store.set r .dead ++_)[i]? =_
  refine a_2 ?_
  rw[List.getElem?_set_ne (by intro e;subst e;exact hne rfl)];exact hi
theorem ah_5{s:Nat}{st:St}{nl:Option Bool}:AccT s st (.list true nl []) []:= .inl ⟨nl,rfl,rfl⟩
theorem AccT.retV{s l:Nat}{st st0:St}{v:V}{es:List V}{g:V→V}(h:AccT s st v es)(hg:∀x∈es,freeze st (some l) 39 x=some (g x))(hbl:(es.map g).all (below l 39)=true):
  ∃b nl,retV l st0 v (freeze st (some l) 40 v)=some (.list b nl (es.map g),st0)∧(es=[]→b=true):=by
 rcases h with⟨nl,rfl,rfl⟩|⟨r,he,rfl,h⟩
 ·exact⟨true,none,rfl,fun _=>rfl⟩
 ·refine⟨false,none,?_,fun e=>absurd e he⟩
  rw[c_7,h]
  simp only[sliceO,rowA,frozenNow,Bool.true_or,if_true,Nat.zero_add,Nat.le_refl,List.drop_zero,List.take_length]
  rw[x_8 hg]
  simp only[listO,Go.Abs.retV]
  rw[if_pos]
  ·rw[f_]
  ·rw[f_];exact hbl
theorem AccT.frz{s:Nat}{st:St}{v:V}{es:List V}(h:AccT s st v es){g:V→V}(hg:∀x∈es,freeze st none 39 x=some (g x)):freeze st none 40 v=some (.list false none (es.map g)):=by
 rcases h with⟨nl,rfl,rfl⟩|⟨r,he,rfl,h⟩
 ·rfl
 ·rw[c_7,h]
  simp only[sliceO,rowA,frozenNow,Bool.true_or,if_true,Nat.zero_add,Nat.le_refl,List.drop_zero,List.take_length]
  rw[x_8 hg];rfl
theorem bd_4{T:Tab}{n:Nat}{m:List Nat}{st:St}{rd:Option Nat}{c b:Code}{W:List Nat}(hc:c= .loop b)(hw:writes b=some W){α:Type}(xs:List α)(h:α→List V)(s ti ta id:Nat){f0:Nat→V}{v0:V}{es0:List V}(J:V→St→Prop)
  (hi0:f0 ti= .int .i64 0) (ha0:f0 ta=v0) (hA0:AccT s st v0 es0) (hJ:J v0 st)
  (round:∀(i:Nat) x f st v es,i<xs.length→xs[i]? =some x→x∈xs→(∀t,t<n→W.contains t=false→f t=f0 t)→f ti= .int .i64 (i:Nat)→f ta=v→AccT s st v es→es=es0 ++(xs.take i).flatMap h→intBin .add .i64 (i:Nat) 1=some (.int .i64 ((i:Int)+1))→J v st→
   Out n m (fun e f' st'=>e= .normal∧f' ti= .int .i64 ((i:Int)+1)∧∃v',f' ta=v'∧AccT s st' v' (es ++h x)∧J v' st') ((run T).code rd b (mk n f m) st))
  (stop:∀f st v,(∀t,t<n→W.contains t=false→f t=f0 t)→f ti= .int .i64 (xs.length:Nat)→f ta=v→J v st→Out n m (fun e f' st'=>e= .exit id∧f' ta=v∧st'=st) ((run T).code rd b (mk n f m) st)) (hlen:xs.length<2^40):
  Out n m (fun e f' st'=>(e= .exit id∧∃v,f' ta=v∧AccT s st' v (es0 ++xs.flatMap h)∧J v st')∧∀t,t<n→W.contains t=false→f' t=f0 t) ((run T).code rd c (mk n f0 m) st):=by
 refine(a_8 hc hw xs.length (I:=fun i f st=>f ti= .int .i64 (i:Nat)∧∃v,f ta=v∧AccT s st v (es0 ++(xs.take i).flatMap h)∧J v st) (Q:=fun e f' st'=>e= .exit id∧∃v,f' ta=v∧AccT s st' v (es0 ++xs.flatMap h)∧J v st') ⟨hi0,v0,ha0,by simpa using hA0,hJ⟩ ?_ ?_)
 ·rintro i f st hi hk ⟨h1,v,h2,hA,h3⟩
  have hx:xs[i]? =some xs[i]:=List.getElem?_eq_getElem hi
  have ha:intBin .add .i64 (i:Nat) 1=some (.int .i64 ((i:Int)+1)):=L_5 (by omega) (by omega)
  refine(round i xs[i] f st v _ hi hx (List.getElem_mem hi) hk h1 h2 hA rfl ha h3).mono ?_
  rintro e f' st' ⟨q1,q2,v',q3,q4,q5⟩
  refine .inl ⟨q1,?_,v',q3,?_,q5⟩
  ·rw[q2];simp
  ·rw[List.take_succ_eq_append_getElem hi,List.flatMap_append,←List.append_assoc];simpa using q4
 ·rintro f st hk ⟨h1,v,h2,hA,h3⟩
  refine(stop f st v hk h1 h2 h3).mono ?_
  rintro e f' st' ⟨rfl,q2,rfl⟩
  rw[List.take_length]at hA
  exact⟨by simp,rfl,v,q2,hA,h3⟩
end Go.Abs
namespace Go.Abs
open Go.RowKit Go.ChangeShapes Go.WideShapes
theorem liftedUpto{C:Checked}{T:Tab}(hT:T.Fits C.prog)(hl:laidOutB C.prog=true)(own:ownKnob C.prog.godebug=none){f:FuncId}{fn:Func}{s:ChangeSpec}{kc:(H:Type)→List (DataW H)→Bool}{L:List (String×DataW Unit)}{os:Os}(started:os.Started)
  {H:Type} {enc:TypeId×Value→H} {F:Stop.Interp} (hglob:∀W,laidMetH C.prog L W→GlobOk T (k0 W)) (noInit:C.prog.inits.idxOf? f=none) (hfn:C.prog.funcs[f]? =some fn) {bt:TypeId} (hres:fn.resultTypes= #[bt]) (hbt:C.prog.underlying bt=some .bool) (hvars:s.vars=[])
  (S:List TypeId) (hS:S.all (tyIn C.prog S)=true) (hp:fn.params.toList.all (fun t=>S.contains t&&C.prog.readableRec t&&decide (t<C.prog.types.size))=true)
  (hspec:∀ds:List (DataW H),ds.length=fn.params.toList.length→s.fn H ds={results:=[.lit (.bool true)],args:=ds})
  {B:DataW H→Nat} {N:Nat} (hB:BulkOk B) (hkB:∀ds:List (DataW H),kc H ds=true→(ds.map B).sum≤N)
  (hrun:∀xs:List V,xs.length=fn.params.toList.length→(∀(j:Nat) t x,fn.params.toList[j]? =some t→xs[j]? =some x→∃n,Shaped C.prog n t x)→V.bulks xs≤N→∃st',(run T).call f xs st0=some (.bool true,st'))
  (witness:∃(w:World) (tape:Tape) (i:Input),w.os=os∧(w.forCall tape i).Shaped C.prog∧i.vars=[]∧Input.okWide C.prog (w.forCall tape i) .any w.heap.size f i∧
   ({OpenSpec.ofChange s with cond:=some kc}:OpenSpec).preRow enc C.prog fn [] false L (w.forCall tape i).memory i.args∧({}:Assume).holds C.prog (lone (Frame.enter C.prog f i.args .normal) [] (w.forCall tape i))) {fresh handsOn:Bool}:
  ReturnsInHanded {} C os f .any (({OpenSpec.ofChange s with cond:=some kc}:OpenSpec).preRow enc C.prog fn [] false L) ((({OpenSpec.ofChange s with cond:=some kc}:OpenSpec).at F).post enc C.prog fn false fresh handsOn false):=by
 refine returnsInHanded_of_row (C:=C) (s:=({OpenSpec.ofChange s with cond:=some kc}:OpenSpec)) own started noInit hfn witness ?_
 intro W base args ds gs before hval hW0 _ hk _ hL _ _
 have hW:DataW.Whole enc C.prog fn.params.toList s.vars false W args.toList ds gs before:=hW0
 have hW':=hW
 obtain⟨p,q,hA,hV,rfl,hfz,hnd⟩:=hW
 have hpar:∀t∈fn.params.toList,t∈S∧C.prog.readableRec t=true∧t<C.prog.types.size:=fun t ht=>by
  have:=List.all_eq_true.1 hp t ht
  simp only[Bool.and_eq_true,decide_eq_true_eq,List.contains_iff_mem]at this
  exact⟨this.1.1,this.1.2,this.2⟩
 obtain⟨xs,hx,hlen,hdl,hsh,hbk⟩:=az_0 hB hS (fun t ht=>(hpar t ht).1) (fun j t v a b=>hval j t v (by simpa using a) (by simpa using b)) hA
 obtain⟨rfl,rfl⟩:gs=[]∧q=[]:=by
  rw[hvars]at hV
  cases gs with
  |nil=>exact⟨rfl,hV⟩
  |cons g r=>exact absurd hV (by intro h;cases h)
 have hk2:=hk kc rfl
 rw[List.append_nil]at hk2
 obtain⟨st',hr⟩:=hrun xs hlen hsh (Nat.le_trans hbk (hkB ds hk2))
 obtain⟨n,hr⟩:=(Q_3 T).call hr
 have hc:=aZ_5 hT hr (hglob W hL) hx
 refine hc.mono fun e W' ⟨he,hb⟩=>⟨_,he,?_⟩
 have hpost:s.post enc C.prog fn false fresh handsOn false W args (.bool true) W':=by
  refine aM_7 hl hres hbt hvars (fun t ht=>(hpar t ht).2) hW' ?_ hb
  rw[List.append_nil]
  exact hspec ds hdl
 exact hpost
end Go.Abs
namespace Go.Abs
section
variable {T:Tab} {S:S} {f:Nat→V} {n:Nat} {m:List Nat} {st:St} {dd:Option Nat} {ss:List Step}
def capV(T:Tab)(t:TypeId)(x:V):Option V:=match x with
 | .list true _ xs=>match T.und t with
  |some (.slice _)=>some (.int .i64 xs.length)
  |_=>none
 |_=>none
theorem aP_{x:Operand}{t:TypeId}:evSteps T S (⟨dd, .call {callee:= .builtin .cap,args:= #[x],argTypes:= #[t]},none⟩::ss) (mk n f m) st=bindV (evArg T (mk n f m) x) fun x=>bindV (capV T t x) fun v=>evSteps T S ss (mk n (putF f dd v) m) st:=by
 rw[q_4 rfl]
 have e2:((#[t]:Array TypeId)[0]?).bind T.und=T.und t:=rfl
 cases ha:evArg T (mk n f m) x with
 |none=>simp only[evPure,evArgs,ha];rfl
 |some a=>
  simp only[evPure,evArgs,ha,e2]
  unfold capV
  cases a with
  |list full nl xs=>
   cases full with
   |true=>
    rfl
   |false=>rfl
  |_=>rfl
theorem bh_8{x y:Operand}{t u:TypeId}{k:IntKind}(h:T.und u=some (.int k)):evSteps T S (⟨dd, .call {callee:= .builtin .append,args:= #[x,y],argTypes:= #[t,u]},none⟩::ss) (mk n f m) st=bindV (evArg T (mk n f m) x) fun x=>bindV (evArg T (mk n f m) y) fun y=>bindR (evAppendZeros T st t x y) fun v st=>evSteps T S ss (mk n (putF f dd v) m) st:=by
 have e1:evPure T (mk n f m) (.call {callee:= .builtin .append,args:= #[x,y],argTypes:= #[t,u]})=none:=by
  simp only[evPure]
  try cases evArgs T (mk n f m) [x,y]<;>rfl
 rw[E_7 e1 rfl]
 have e2:evMem T S (mk n f m) st (.call {callee:= .builtin .append,args:= #[x,y],argTypes:= #[t,u]})=b_7 T (mk n f m) st (.call {callee:= .builtin .append,args:= #[x,y],argTypes:= #[t,u]}):=rfl
 rw[e2]
 unfold b_7
 simp only[evArgs]
 cases evArg T (mk n f m) x with
 |none=>rfl
 |some a=>
  cases evArg T (mk n f m) y with
  |none=>rfl
  |some b=>
   have e3:((#[t,u]:Array TypeId)[1]?).bind T.und=some (.int k):=h
   simp only[e3,a_7]
   rfl
end
end Go.Abs
namespace Go.Abs
section
variable {α:Type} {l L:List α} {a b c d e x:α}
theorem ga0:(l ++a::L)[l.length]? =some a:=by simp
theorem ga1:(l ++a::b::L)[l.length+1]? =some b:=by
 rw[List.getElem?_append_right (by omega)];simp
theorem ga2:(l ++a::b::c::L)[l.length+2]? =some c:=by
 rw[List.getElem?_append_right (by omega)];simp
theorem ga3:(l ++a::b::c::d::L)[l.length+3]? =some d:=by
 rw[List.getElem?_append_right (by omega)];simp
theorem gs1:(l ++a::b::L).set (l.length+1) x=l ++a::x::L:=by
 rw[List.set_append_right _ _ (by omega)];simp
theorem gs2:(l ++a::b::c::L).set (l.length+2) x=l ++a::b::x::L:=by
 rw[List.set_append_right _ _ (by omega)];simp
theorem gs3:(l ++a::b::c::d::L).set (l.length+3) x=l ++a::b::c::x::L:=by
 rw[List.set_append_right _ _ (by omega)];simp
end
theorem ba_9(n k:Nat):(n+k<n)=False:=by simp
end Go.Abs
namespace Go.Proofs.YtbbeelalcamgjaaGreatDoor
open Go.Abs
set_option maxRecDepth 1000000
def asciiNs:List Int:=[0,0,0,0,0,0,0,0,0,1,1,1,1,1,0,0,0,0,0,0,0,0,0,0,0,0,0,0,0,0,0,0,1] ++List.replicate 223 0
def roL:List Nat:=[16,18,19,21,26,39,47,56,72,86,87,112,114,137,139,141,143,146,148,159,165,168,170,182,197,198,211,215,216,217,220,229,242,268,270,271,277,305,324]
def splitL:List Nat:=[119,120,121,122,128,184]
def shut2L:List Nat:=[62,75,127]
def shutL:List Nat:=[9,10,11,12,13,15,17,20,22,23,24,27,29,30,31,32,33,35,36,41,42,43,44,45,46,48,49,50,51,52,54,57,60,61,63,64,65,66,67,68,70,73,74,76,77,78,79,80,81,82,83,88,89,90,91,92,93,94,95,96,97,98,99,100,101,104,106,107,108,113,115,116,117,118,123,124,125,126,129,131,132,133,134,149,150,151,152,153,154,155,156,157,160,161,162,163,166,171,172,173,175,176,177,178,179,180,183,185,186,193,194,195,202,203,205,210,221,222,223,225,226,230,231,232,233,234,235,236,237,238,239,240,241,243,244,245,263,265,275,278,279,280,281,282,283,284,299,302,303,328]
def modeOf(f:Nat):CallMode:=if shutL.contains f then .shut else if roL.contains f then .ro else if splitL.contains f then .split else if shut2L.contains f then .shut2 else .open_
noncomputable def tb0:Tab:=Tab.of Tryz.prog (fun g=>if g=1 then some (asciiNs.map (V.int .u8))else .none) modeOf (fun f=>if f=306 then some .indexByteString else if f=262 then some .countString else .none) (fun t=>t==36)
theorem bn_0:∃T:Tab,T=tb0:=⟨tb0,rfl⟩
noncomputable def tb:Tab:=Classical.choose bn_0
theorem a_:tb=tb0:=Classical.choose_spec bn_0
def wordL:List (List UInt8):=["struct", "enum", "fn", "let", "safe", "hook", "int", "box", "ref", "mut", "add", "sub", "less", "use", "new", "tag", "out", "goto", "if", "match", "check", "call", "catch", "return"].map fun s=>s.toUTF8.data.toList
theorem aZ_0(st:St):(ev tb 400).call 225 [] st=some (.list false none (wordL.map .str),st):=by rw[a_];kernel_rfl
end Go.Proofs.YtbbeelalcamgjaaGreatDoor
namespace Go.Proofs.YtbbeelalcamgjaaGreatDoor
open Go.Abs
set_option maxRecDepth 1000000
def memoL(l:List (Nat×List UInt8×V))(f:FuncId)(a:List V):Option V:=match a with
 |[]=>if f=225 then some (.list false none (wordL.map .str))else none
 |[.str s]=>(l.find? fun x=>x.1==f&&x.2.1==s).map fun x=>x.2.2
 |_=>none
theorem Z_2(st:St):(run tb).call 225 [] st=some (.list false none (wordL.map .str),st):=M_3 (aZ_0 st)
theorem g_6{l:List (Nat×List UInt8×V)}(h:∀x∈l,∀st,(run tb).call x.1 [.str x.2.1] st=some (x.2.2,st)):MemoOk tb (memoL l):=by
 intro f a v hv st
 unfold memoL at hv
 split at hv
 ·split at hv
  ·rename_i hf
   subst hf
   cases hv;exact Z_2 st
  ·cases hv
 ·rename_i s
  obtain⟨x,hx,rfl⟩:=Option.map_eq_some_iff.1 hv
  have h1:=List.find?_some hx
  simp only[Bool.and_eq_true]at h1
  have h2:=h x (List.mem_of_find?_eq_some hx) st
  rw[eq_of_beq h1.1,eq_of_beq h1.2]at h2
  exact h2
 ·cases hv
end Go.Proofs.YtbbeelalcamgjaaGreatDoor
namespace Go.Proofs.YtbbeelalcamgjaaGreatDoor
open Go.Abs
set_option maxRecDepth 1000000
theorem ld2{st:St}{a:V}:evLoad tb st 2 a=q_0 st a:=by rw[a_];kernel_rfl
theorem und2:tb.und 2=some (.int .i64):=by rw[a_];kernel_rfl
theorem ld3{st:St}{a:V}:evLoad tb st 3 a=q_0 st a:=by rw[a_];kernel_rfl
theorem sr3{st:St}{a v:V}:evStore tb st 3 a v=storeN 1 st a v:=by rw[a_];kernel_rfl
theorem und3:tb.und 3=some (.int .i64):=by rw[a_];kernel_rfl
theorem ld4{st:St}{a:V}:evLoad tb st 4 a=q_0 st a:=by rw[a_];kernel_rfl
theorem sr4{st:St}{a v:V}:evStore tb st 4 a v=storeN 1 st a v:=by rw[a_];kernel_rfl
theorem und4:tb.und 4=some .bool:=by rw[a_];kernel_rfl
theorem ld9{st:St}{a:V}:evLoad tb st 9 a=q_0 st a:=by rw[a_];kernel_rfl
theorem und9:tb.und 9=some .string:=by rw[a_];kernel_rfl
theorem ln9{st:St}{s:List UInt8}:lenV tb 9 st (.str s)=some (.int .i64 (s.length:Nat)):=by rw[a_];kernel_rfl
theorem ix9{s:List UInt8}{k:IntKind}{i:Int}:evIndex tb 9 (.str s) (.int k i)=strIx s i:=by rw[a_];kernel_rfl
theorem ld22{st:St}{a:V}:evLoad tb st 22 a=q_0 st a:=by rw[a_];kernel_rfl
theorem ar_0:tb.und 22=some (.slice 78):=by rw[a_];kernel_rfl
theorem ia22{fl:Bool}{nl:Option Bool}{xs:List V}{k:IntKind}{i:Int}:evIndexAddr tb 22 (.list fl nl xs) (.int k i)=idxL 5 xs i:=by rw[a_];kernel_rfl
theorem ib22{r s o l:Nat}{k:IntKind}{i:Int}:evIndexAddr tb 22 (.slice r s o l) (.int k i)=idxS 5 r s o l i:=by rw[a_];kernel_rfl
theorem ln22{st:St}{fl:Bool}{nl:Option Bool}{xs:List V}:lenV tb 22 st (.list fl nl xs)=some (.int .i64 (xs.length:Nat)):=by rw[a_];kernel_rfl
theorem lo22{st:St}{r s o l:Nat}:lenV tb 22 st (.slice r s o l)=some (.int .i64 (l:Nat)):=by rw[a_];kernel_rfl
theorem ap22{st:St}{sp:Bool}{x y:V}:evAppend tb st 22 sp x y=appV 5 56 st sp x y:=by rw[a_];kernel_rfl
theorem bs22{fr:Fr}{st:St}{l:Nat}{ps:Array (Nat×Operand)}:b_7 tb fr st (.buildSlice 22 l ps)=bsV l 5 (.agg [(.int .i64 0),(.str []),(.bool false),(.bool false),(.list true (some true) [])]) (ps.toList.map (·.1)) st (evArgs tb fr (ps.toList.map (·.2))):=by rw[a_];kernel_rfl
theorem ld23{st:St}{a:V}:evLoad tb st 23 a=q_0 st a:=by rw[a_];kernel_rfl
theorem au_:tb.und 23=some (.slice 80):=by rw[a_];kernel_rfl
theorem ia23{fl:Bool}{nl:Option Bool}{xs:List V}{k:IntKind}{i:Int}:evIndexAddr tb 23 (.list fl nl xs) (.int k i)=idxL 3 xs i:=by rw[a_];kernel_rfl
theorem ib23{r s o l:Nat}{k:IntKind}{i:Int}:evIndexAddr tb 23 (.slice r s o l) (.int k i)=idxS 3 r s o l i:=by rw[a_];kernel_rfl
theorem ln23{st:St}{fl:Bool}{nl:Option Bool}{xs:List V}:lenV tb 23 st (.list fl nl xs)=some (.int .i64 (xs.length:Nat)):=by rw[a_];kernel_rfl
theorem lo23{st:St}{r s o l:Nat}:lenV tb 23 st (.slice r s o l)=some (.int .i64 (l:Nat)):=by rw[a_];kernel_rfl
theorem ap23{st:St}{sp:Bool}{x y:V}:evAppend tb st 23 sp x y=appV 3 48 st sp x y:=by rw[a_];kernel_rfl
theorem bs23{fr:Fr}{st:St}{l:Nat}{ps:Array (Nat×Operand)}:b_7 tb fr st (.buildSlice 23 l ps)=bsV l 3 (.agg [(.int .i64 0),(.str []),(.list true (some true) [])]) (ps.toList.map (·.1)) st (evArgs tb fr (ps.toList.map (·.2))):=by rw[a_];kernel_rfl
theorem ld24{st:St}{a:V}:evLoad tb st 24 a=q_0 st a:=by rw[a_];kernel_rfl
theorem ak_2:tb.und 24=some (.slice 35):=by rw[a_];kernel_rfl
theorem ia24{fl:Bool}{nl:Option Bool}{xs:List V}{k:IntKind}{i:Int}:evIndexAddr tb 24 (.list fl nl xs) (.int k i)=idxL 6 xs i:=by rw[a_];kernel_rfl
theorem ib24{r s o l:Nat}{k:IntKind}{i:Int}:evIndexAddr tb 24 (.slice r s o l) (.int k i)=idxS 6 r s o l i:=by rw[a_];kernel_rfl
theorem ln24{st:St}{fl:Bool}{nl:Option Bool}{xs:List V}:lenV tb 24 st (.list fl nl xs)=some (.int .i64 (xs.length:Nat)):=by rw[a_];kernel_rfl
theorem lo24{st:St}{r s o l:Nat}:lenV tb 24 st (.slice r s o l)=some (.int .i64 (l:Nat)):=by rw[a_];kernel_rfl
theorem ap24{st:St}{sp:Bool}{x y:V}:evAppend tb st 24 sp x y=appV 6 112 st sp x y:=by rw[a_];kernel_rfl
theorem bs24{fr:Fr}{st:St}{l:Nat}{ps:Array (Nat×Operand)}:b_7 tb fr st (.buildSlice 24 l ps)=bsV l 6 (.agg [(.int .i64 0),(.str []),(.list true (some true) []),(.list true (some true) []),(.str []),(.list true (some true) [])]) (ps.toList.map (·.1)) st (evArgs tb fr (ps.toList.map (·.2))):=by rw[a_];kernel_rfl
theorem ld26{st:St}{a:V}:evLoad tb st 26 a=loadN 3 st a:=by rw[a_];kernel_rfl
theorem sr26{st:St}{a v:V}:evStore tb st 26 a v=storeN 3 st a v:=by rw[a_];kernel_rfl
theorem al26{f:Nat→V}{n:Nat}{m:List Nat}{st:St}{dd:Option Nat}{ss:List Step}:evSteps tb (run tb) (⟨dd, .alloc 26,none⟩::ss) (mk n f m) st=evSteps tb (run tb) ss (mk n (putF f dd (.ptr st.store.length 0)) m) (newBox st [(.list true (some true) []),(.list true (some true) []),(.list true (some true) [])]):=z_ (by rw[a_];kernel_rfl) (by kernel_rfl)
theorem S_{x:V}:evFieldAddr tb 26 x 0=faV 0 x:=by rw[a_];kernel_rfl
theorem S_0{x:V}:evFieldAddr tb 26 x 1=faV 1 x:=by rw[a_];kernel_rfl
theorem R_8{x:V}:evFieldAddr tb 26 x 2=faV 2 x:=by rw[a_];kernel_rfl
theorem bd26{ps:List (Nat×V)}:evBuild tb 26 ps=bdV [(0,1),(1,1),(2,1)] [(.list true (some true) []),(.list true (some true) []),(.list true (some true) [])] ps:=by rw[a_];kernel_rfl
theorem aW_9:tb.und 30=some (.slice 76):=by rw[a_];kernel_rfl
theorem ln30{st:St}{fl:Bool}{nl:Option Bool}{xs:List V}:lenV tb 30 st (.list fl nl xs)=some (.int .i64 (xs.length:Nat)):=by rw[a_];kernel_rfl
theorem lo30{st:St}{r s o l:Nat}:lenV tb 30 st (.slice r s o l)=some (.int .i64 (l:Nat)):=by rw[a_];kernel_rfl
theorem ap30{st:St}{sp:Bool}{x y:V}:evAppend tb st 30 sp x y=appV 2 16 st sp x y:=by rw[a_];kernel_rfl
theorem bs30{fr:Fr}{st:St}{l:Nat}{ps:Array (Nat×Operand)}:b_7 tb fr st (.buildSlice 30 l ps)=bsV l 2 (.agg [(.int .i64 0),(.int .i64 0)]) (ps.toList.map (·.1)) st (evArgs tb fr (ps.toList.map (·.2))):=by rw[a_];kernel_rfl
theorem ld32{st:St}{a:V}:evLoad tb st 32 a=q_0 st a:=by rw[a_];kernel_rfl
theorem sr32{st:St}{a v:V}:evStore tb st 32 a v=storeN 1 st a v:=by rw[a_];kernel_rfl
theorem T_:tb.und 32=some (.slice 66):=by rw[a_];kernel_rfl
theorem ia32{fl:Bool}{nl:Option Bool}{xs:List V}{k:IntKind}{i:Int}:evIndexAddr tb 32 (.list fl nl xs) (.int k i)=idxL 2 xs i:=by rw[a_];kernel_rfl
theorem ln32{st:St}{fl:Bool}{nl:Option Bool}{xs:List V}:lenV tb 32 st (.list fl nl xs)=some (.int .i64 (xs.length:Nat)):=by rw[a_];kernel_rfl
theorem sl32{fl:Bool}{nl:Option Bool}{xs:List V}{lo hi mx:Option V}:evSlice tb 32 (.list fl nl xs) lo hi mx=sliceList 2 fl nl xs lo hi mx:=by rw[a_];kernel_rfl
theorem sv32{r s o l:Nat}{lo hi mx:Option V}:evSlice tb 32 (.slice r s o l) lo hi mx=sliceVec 2 r s o l lo hi mx:=by rw[a_];kernel_rfl
theorem ap32{st:St}{sp:Bool}{x y:V}:evAppend tb st 32 sp x y=appV 2 32 st sp x y:=by rw[a_];kernel_rfl
theorem bs32{fr:Fr}{st:St}{l:Nat}{ps:Array (Nat×Operand)}:b_7 tb fr st (.buildSlice 32 l ps)=bsV l 2 (.agg [(.str []),(.str [])]) (ps.toList.map (·.1)) st (evArgs tb fr (ps.toList.map (·.2))):=by rw[a_];kernel_rfl
theorem ld33{st:St}{a:V}:evLoad tb st 33 a=q_0 st a:=by rw[a_];kernel_rfl
theorem sr33{st:St}{a v:V}:evStore tb st 33 a v=storeN 1 st a v:=by rw[a_];kernel_rfl
theorem as_6:tb.und 33=some (.slice 63):=by rw[a_];kernel_rfl
theorem ia33{fl:Bool}{nl:Option Bool}{xs:List V}{k:IntKind}{i:Int}:evIndexAddr tb 33 (.list fl nl xs) (.int k i)=idxL 11 xs i:=by rw[a_];kernel_rfl
theorem ib33{r s o l:Nat}{k:IntKind}{i:Int}:evIndexAddr tb 33 (.slice r s o l) (.int k i)=idxS 11 r s o l i:=by rw[a_];kernel_rfl
theorem ln33{st:St}{fl:Bool}{nl:Option Bool}{xs:List V}:lenV tb 33 st (.list fl nl xs)=some (.int .i64 (xs.length:Nat)):=by rw[a_];kernel_rfl
theorem lo33{st:St}{r s o l:Nat}:lenV tb 33 st (.slice r s o l)=some (.int .i64 (l:Nat)):=by rw[a_];kernel_rfl
theorem ap33{st:St}{sp:Bool}{x y:V}:evAppend tb st 33 sp x y=appV 11 192 st sp x y:=by rw[a_];kernel_rfl
theorem bs33{fr:Fr}{st:St}{l:Nat}{ps:Array (Nat×Operand)}:b_7 tb fr st (.buildSlice 33 l ps)=bsV l 11 (.agg [(.int .i64 0),(.str []),(.list true (some true) []),(.int .i64 0),(.int .i64 0),(.str []),(.list true (some true) []),(.str []),(.list true (some true) []),(.list true (some true) []),(.list true (some true) [])]) (ps.toList.map (·.1)) st (evArgs tb fr (ps.toList.map (·.2))):=by rw[a_];kernel_rfl
theorem ld35{st:St}{a:V}:evLoad tb st 35 a=loadN 6 st a:=by rw[a_];kernel_rfl
theorem sr35{st:St}{a v:V}:evStore tb st 35 a v=storeN 6 st a v:=by rw[a_];kernel_rfl
theorem al35{f:Nat→V}{n:Nat}{m:List Nat}{st:St}{dd:Option Nat}{ss:List Step}:evSteps tb (run tb) (⟨dd, .alloc 35,none⟩::ss) (mk n f m) st=evSteps tb (run tb) ss (mk n (putF f dd (.ptr st.store.length 0)) m) (newBox st [(.int .i64 0),(.str []),(.list true (some true) []),(.list true (some true) []),(.str []),(.list true (some true) [])]):=z_ (by rw[a_];kernel_rfl) (by kernel_rfl)
theorem ae_3{x:V}:evFieldAddr tb 35 x 1=faV 1 x:=by rw[a_];kernel_rfl
theorem ac_4{x:V}:evFieldAddr tb 35 x 2=faV 2 x:=by rw[a_];kernel_rfl
theorem ad_9{x:V}:evFieldAddr tb 35 x 3=faV 3 x:=by rw[a_];kernel_rfl
theorem ad_4{x:V}:evFieldAddr tb 35 x 4=faV 4 x:=by rw[a_];kernel_rfl
theorem ae_0{x:V}:evFieldAddr tb 35 x 5=faV 5 x:=by rw[a_];kernel_rfl
theorem ld36{st:St}{a:V}:evLoad tb st 36 a=q_0 st a:=by rw[a_];kernel_rfl
theorem sr36{st:St}{a v:V}:evStore tb st 36 a v=storeN 1 st a v:=by rw[a_];kernel_rfl
theorem Q_2:tb.und 36=some (.slice 9):=by rw[a_];kernel_rfl
theorem ia36{fl:Bool}{nl:Option Bool}{xs:List V}{k:IntKind}{i:Int}:evIndexAddr tb 36 (.list fl nl xs) (.int k i)=idxL 1 xs i:=by rw[a_];kernel_rfl
theorem ib36{r s o l:Nat}{k:IntKind}{i:Int}:evIndexAddr tb 36 (.slice r s o l) (.int k i)=idxS 1 r s o l i:=by rw[a_];kernel_rfl
theorem ln36{st:St}{fl:Bool}{nl:Option Bool}{xs:List V}:lenV tb 36 st (.list fl nl xs)=some (.int .i64 (xs.length:Nat)):=by rw[a_];kernel_rfl
theorem lo36{st:St}{r s o l:Nat}:lenV tb 36 st (.slice r s o l)=some (.int .i64 (l:Nat)):=by rw[a_];kernel_rfl
theorem sl36{fl:Bool}{nl:Option Bool}{xs:List V}{lo hi mx:Option V}:evSlice tb 36 (.list fl nl xs) lo hi mx=sliceList 1 fl nl xs lo hi mx:=by rw[a_];kernel_rfl
theorem ap36{st:St}{sp:Bool}{x y:V}:evAppend tb st 36 sp x y=appW 1 16 st sp x y:=by rw[a_];kernel_rfl
theorem bs36{fr:Fr}{st:St}{l:Nat}{ps:Array (Nat×Operand)}:b_7 tb fr st (.buildSlice 36 l ps)=bsV l 1 (.str []) (ps.toList.map (·.1)) st (evArgs tb fr (ps.toList.map (·.2))):=by rw[a_];kernel_rfl
theorem ld38{st:St}{a:V}:evLoad tb st 38 a=loadN 2 st a:=by rw[a_];kernel_rfl
theorem sr38{st:St}{a v:V}:evStore tb st 38 a v=storeN 2 st a v:=by rw[a_];kernel_rfl
theorem al38{f:Nat→V}{n:Nat}{m:List Nat}{st:St}{dd:Option Nat}{ss:List Step}:evSteps tb (run tb) (⟨dd, .alloc 38,none⟩::ss) (mk n f m) st=evSteps tb (run tb) ss (mk n (putF f dd (.ptr st.store.length 0)) m) (newBox st [(.str []),(.list true (some true) [])]):=z_ (by rw[a_];kernel_rfl) (by kernel_rfl)
theorem aa_1{x:V}:evFieldAddr tb 38 x 0=faV 0 x:=by rw[a_];kernel_rfl
theorem X_2{x:V}:evFieldAddr tb 38 x 1=faV 1 x:=by rw[a_];kernel_rfl
theorem bd38{ps:List (Nat×V)}:evBuild tb 38 ps=bdV [(0,1),(1,1)] [(.str []),(.list true (some true) [])] ps:=by rw[a_];kernel_rfl
theorem ld39{st:St}{a:V}:evLoad tb st 39 a=q_0 st a:=by rw[a_];kernel_rfl
theorem sr39{st:St}{a v:V}:evStore tb st 39 a v=storeN 1 st a v:=by rw[a_];kernel_rfl
theorem al39{f:Nat→V}{n:Nat}{m:List Nat}{st:St}{dd:Option Nat}{ss:List Step}:evSteps tb (run tb) (⟨dd, .alloc 39,none⟩::ss) (mk n f m) st=evSteps tb (run tb) ss (mk n (putF f dd (.ptr st.store.length 0)) m) (newBox st [.nilp]):=z_ (by rw[a_];kernel_rfl) (by kernel_rfl)
theorem ld43{st:St}{a:V}:evLoad tb st 43 a=loadN 4 st a:=by rw[a_];kernel_rfl
theorem sr43{st:St}{a v:V}:evStore tb st 43 a v=storeN 4 st a v:=by rw[a_];kernel_rfl
theorem al43{f:Nat→V}{n:Nat}{m:List Nat}{st:St}{dd:Option Nat}{ss:List Step}:evSteps tb (run tb) (⟨dd, .alloc 43,none⟩::ss) (mk n f m) st=evSteps tb (run tb) ss (mk n (putF f dd (.ptr st.store.length 0)) m) (newBox st [(.str []),(.bool false),(.bool false),(.bool false)]):=z_ (by rw[a_];kernel_rfl) (by kernel_rfl)
theorem bb_6{x:V}:evFieldAddr tb 43 x 0=faV 0 x:=by rw[a_];kernel_rfl
theorem bc_0{x:V}:evFieldAddr tb 43 x 1=faV 1 x:=by rw[a_];kernel_rfl
theorem bb_7{x:V}:evFieldAddr tb 43 x 2=faV 2 x:=by rw[a_];kernel_rfl
theorem bc_1{x:V}:evFieldAddr tb 43 x 3=faV 3 x:=by rw[a_];kernel_rfl
theorem bd43{ps:List (Nat×V)}:evBuild tb 43 ps=bdV [(0,1),(1,1),(2,1),(3,1)] [(.str []),(.bool false),(.bool false),(.bool false)] ps:=by rw[a_];kernel_rfl
theorem ld54{st:St}{a:V}:evLoad tb st 54 a=q_0 st a:=by rw[a_];kernel_rfl
theorem ld57{st:St}{a:V}:evLoad tb st 57 a=q_0 st a:=by rw[a_];kernel_rfl
theorem sr57{st:St}{a v:V}:evStore tb st 57 a v=storeN 1 st a v:=by rw[a_];kernel_rfl
theorem av_2:tb.und 57=some (.slice 38):=by rw[a_];kernel_rfl
theorem ia57{fl:Bool}{nl:Option Bool}{xs:List V}{k:IntKind}{i:Int}:evIndexAddr tb 57 (.list fl nl xs) (.int k i)=idxL 2 xs i:=by rw[a_];kernel_rfl
theorem ib57{r s o l:Nat}{k:IntKind}{i:Int}:evIndexAddr tb 57 (.slice r s o l) (.int k i)=idxS 2 r s o l i:=by rw[a_];kernel_rfl
theorem ln57{st:St}{fl:Bool}{nl:Option Bool}{xs:List V}:lenV tb 57 st (.list fl nl xs)=some (.int .i64 (xs.length:Nat)):=by rw[a_];kernel_rfl
theorem lo57{st:St}{r s o l:Nat}:lenV tb 57 st (.slice r s o l)=some (.int .i64 (l:Nat)):=by rw[a_];kernel_rfl
theorem ap57{st:St}{sp:Bool}{x y:V}:evAppend tb st 57 sp x y=appV 2 40 st sp x y:=by rw[a_];kernel_rfl
theorem bs57{fr:Fr}{st:St}{l:Nat}{ps:Array (Nat×Operand)}:b_7 tb fr st (.buildSlice 57 l ps)=bsV l 2 (.agg [(.str []),(.list true (some true) [])]) (ps.toList.map (·.1)) st (evArgs tb fr (ps.toList.map (·.2))):=by rw[a_];kernel_rfl
theorem ld58{st:St}{a:V}:evLoad tb st 58 a=q_0 st a:=by rw[a_];kernel_rfl
theorem sr58{st:St}{a v:V}:evStore tb st 58 a v=storeN 1 st a v:=by rw[a_];kernel_rfl
theorem aV_2:tb.und 58=some (.slice 144):=by rw[a_];kernel_rfl
theorem ia58{fl:Bool}{nl:Option Bool}{xs:List V}{k:IntKind}{i:Int}:evIndexAddr tb 58 (.list fl nl xs) (.int k i)=idxL 3 xs i:=by rw[a_];kernel_rfl
theorem ln58{st:St}{fl:Bool}{nl:Option Bool}{xs:List V}:lenV tb 58 st (.list fl nl xs)=some (.int .i64 (xs.length:Nat)):=by rw[a_];kernel_rfl
theorem ap58{st:St}{sp:Bool}{x y:V}:evAppend tb st 58 sp x y=appV 3 48 st sp x y:=by rw[a_];kernel_rfl
theorem bs58{fr:Fr}{st:St}{l:Nat}{ps:Array (Nat×Operand)}:b_7 tb fr st (.buildSlice 58 l ps)=bsV l 3 (.agg [(.str []),(.str []),(.str [])]) (ps.toList.map (·.1)) st (evArgs tb fr (ps.toList.map (·.2))):=by rw[a_];kernel_rfl
theorem ld60{st:St}{a:V}:evLoad tb st 60 a=loadN 8 st a:=by rw[a_];kernel_rfl
theorem sr60{st:St}{a v:V}:evStore tb st 60 a v=storeN 8 st a v:=by rw[a_];kernel_rfl
theorem al60{f:Nat→V}{n:Nat}{m:List Nat}{st:St}{dd:Option Nat}{ss:List Step}:evSteps tb (run tb) (⟨dd, .alloc 60,none⟩::ss) (mk n f m) st=evSteps tb (run tb) ss (mk n (putF f dd (.ptr st.store.length 0)) m) (newBox st [(.int .i64 0),(.int .i64 0),(.str []),(.list true (some true) []),(.str []),(.list true (some true) []),(.list true (some true) []),(.list true (some true) [])]):=z_ (by rw[a_];kernel_rfl) (by kernel_rfl)
theorem aP_6{x:V}:evFieldAddr tb 60 x 1=faV 1 x:=by rw[a_];kernel_rfl
theorem aR_3{x:V}:evFieldAddr tb 60 x 2=faV 2 x:=by rw[a_];kernel_rfl
theorem aR_5{x:V}:evFieldAddr tb 60 x 3=faV 4 x:=by rw[a_];kernel_rfl
theorem aT_3{x:V}:evFieldAddr tb 60 x 4=faV 5 x:=by rw[a_];kernel_rfl
theorem aS_9{x:V}:evFieldAddr tb 60 x 5=faV 6 x:=by rw[a_];kernel_rfl
theorem aL_7{x:V}:evFieldAddr tb 60 x 6=faV 7 x:=by rw[a_];kernel_rfl
theorem ld61{st:St}{a:V}:evLoad tb st 61 a=q_0 st a:=by rw[a_];kernel_rfl
theorem sr61{st:St}{a v:V}:evStore tb st 61 a v=storeN 1 st a v:=by rw[a_];kernel_rfl
theorem aI_8:tb.und 61=some (.slice 70):=by rw[a_];kernel_rfl
theorem ia61{fl:Bool}{nl:Option Bool}{xs:List V}{k:IntKind}{i:Int}:evIndexAddr tb 61 (.list fl nl xs) (.int k i)=idxL 8 xs i:=by rw[a_];kernel_rfl
theorem ib61{r s o l:Nat}{k:IntKind}{i:Int}:evIndexAddr tb 61 (.slice r s o l) (.int k i)=idxS 8 r s o l i:=by rw[a_];kernel_rfl
theorem ln61{st:St}{fl:Bool}{nl:Option Bool}{xs:List V}:lenV tb 61 st (.list fl nl xs)=some (.int .i64 (xs.length:Nat)):=by rw[a_];kernel_rfl
theorem lo61{st:St}{r s o l:Nat}:lenV tb 61 st (.slice r s o l)=some (.int .i64 (l:Nat)):=by rw[a_];kernel_rfl
theorem ap61{st:St}{sp:Bool}{x y:V}:evAppend tb st 61 sp x y=appV 8 120 st sp x y:=by rw[a_];kernel_rfl
theorem bs61{fr:Fr}{st:St}{l:Nat}{ps:Array (Nat×Operand)}:b_7 tb fr st (.buildSlice 61 l ps)=bsV l 8 (.agg [(.int .i64 0),(.int .i64 0),(.str []),(.list true (some true) []),(.int .i64 0),(.str []),(.str []),(.list true (some true) [])]) (ps.toList.map (·.1)) st (evArgs tb fr (ps.toList.map (·.2))):=by rw[a_];kernel_rfl
theorem ld63{st:St}{a:V}:evLoad tb st 63 a=loadN 11 st a:=by rw[a_];kernel_rfl
theorem sr63{st:St}{a v:V}:evStore tb st 63 a v=storeN 11 st a v:=by rw[a_];kernel_rfl
theorem al63{f:Nat→V}{n:Nat}{m:List Nat}{st:St}{dd:Option Nat}{ss:List Step}:evSteps tb (run tb) (⟨dd, .alloc 63,none⟩::ss) (mk n f m) st=evSteps tb (run tb) ss (mk n (putF f dd (.ptr st.store.length 0)) m) (newBox st [(.int .i64 0),(.str []),(.list true (some true) []),(.int .i64 0),(.int .i64 0),(.str []),(.list true (some true) []),(.str []),(.list true (some true) []),(.list true (some true) []),(.list true (some true) [])]):=z_ (by rw[a_];kernel_rfl) (by kernel_rfl)
theorem ar_7{x:V}:evFieldAddr tb 63 x 1=faV 1 x:=by rw[a_];kernel_rfl
theorem am_9{x:V}:evFieldAddr tb 63 x 2=faV 2 x:=by rw[a_];kernel_rfl
theorem al_5{x:V}:evFieldAddr tb 63 x 3=faV 3 x:=by rw[a_];kernel_rfl
theorem ld66{st:St}{a:V}:evLoad tb st 66 a=loadN 2 st a:=by rw[a_];kernel_rfl
theorem sr66{st:St}{a v:V}:evStore tb st 66 a v=storeN 2 st a v:=by rw[a_];kernel_rfl
theorem al66{f:Nat→V}{n:Nat}{m:List Nat}{st:St}{dd:Option Nat}{ss:List Step}:evSteps tb (run tb) (⟨dd, .alloc 66,none⟩::ss) (mk n f m) st=evSteps tb (run tb) ss (mk n (putF f dd (.ptr st.store.length 0)) m) (newBox st [(.str []),(.str [])]):=z_ (by rw[a_];kernel_rfl) (by kernel_rfl)
theorem V_8{x:V}:evFieldAddr tb 66 x 0=faV 0 x:=by rw[a_];kernel_rfl
theorem V_4{x:V}:evFieldAddr tb 66 x 1=faV 1 x:=by rw[a_];kernel_rfl
theorem ld70{st:St}{a:V}:evLoad tb st 70 a=loadN 8 st a:=by rw[a_];kernel_rfl
theorem sr70{st:St}{a v:V}:evStore tb st 70 a v=storeN 8 st a v:=by rw[a_];kernel_rfl
theorem al70{f:Nat→V}{n:Nat}{m:List Nat}{st:St}{dd:Option Nat}{ss:List Step}:evSteps tb (run tb) (⟨dd, .alloc 70,none⟩::ss) (mk n f m) st=evSteps tb (run tb) ss (mk n (putF f dd (.ptr st.store.length 0)) m) (newBox st [(.int .i64 0),(.int .i64 0),(.str []),(.list true (some true) []),(.int .i64 0),(.str []),(.str []),(.list true (some true) [])]):=z_ (by rw[a_];kernel_rfl) (by kernel_rfl)
theorem aC_{x:V}:evFieldAddr tb 70 x 1=faV 1 x:=by rw[a_];kernel_rfl
theorem az_2{x:V}:evFieldAddr tb 70 x 2=faV 2 x:=by rw[a_];kernel_rfl
theorem aC_1{x:V}:evFieldAddr tb 70 x 3=faV 4 x:=by rw[a_];kernel_rfl
theorem aA_6{x:V}:evFieldAddr tb 70 x 4=faV 5 x:=by rw[a_];kernel_rfl
theorem az_{x:V}:evFieldAddr tb 70 x 5=faV 6 x:=by rw[a_];kernel_rfl
theorem aB_5{x:V}:evFieldAddr tb 70 x 6=faV 7 x:=by rw[a_];kernel_rfl
theorem bd76{ps:List (Nat×V)}:evBuild tb 76 ps=bdV [(0,1),(1,1)] [(.int .i64 0),(.int .i64 0)] ps:=by rw[a_];kernel_rfl
theorem ld78{st:St}{a:V}:evLoad tb st 78 a=loadN 5 st a:=by rw[a_];kernel_rfl
theorem sr78{st:St}{a v:V}:evStore tb st 78 a v=storeN 5 st a v:=by rw[a_];kernel_rfl
theorem al78{f:Nat→V}{n:Nat}{m:List Nat}{st:St}{dd:Option Nat}{ss:List Step}:evSteps tb (run tb) (⟨dd, .alloc 78,none⟩::ss) (mk n f m) st=evSteps tb (run tb) ss (mk n (putF f dd (.ptr st.store.length 0)) m) (newBox st [(.int .i64 0),(.str []),(.bool false),(.bool false),(.list true (some true) [])]):=z_ (by rw[a_];kernel_rfl) (by kernel_rfl)
theorem Y_3{x:V}:evFieldAddr tb 78 x 0=faV 0 x:=by rw[a_];kernel_rfl
theorem Z_5{x:V}:evFieldAddr tb 78 x 1=faV 1 x:=by rw[a_];kernel_rfl
theorem W_1{x:V}:evFieldAddr tb 78 x 2=faV 2 x:=by rw[a_];kernel_rfl
theorem V_5{x:V}:evFieldAddr tb 78 x 3=faV 3 x:=by rw[a_];kernel_rfl
theorem X_7{x:V}:evFieldAddr tb 78 x 4=faV 4 x:=by rw[a_];kernel_rfl
theorem bd78{ps:List (Nat×V)}:evBuild tb 78 ps=bdV [(0,1),(1,1),(2,1),(3,1),(4,1)] [(.int .i64 0),(.str []),(.bool false),(.bool false),(.list true (some true) [])] ps:=by rw[a_];kernel_rfl
theorem ld80{st:St}{a:V}:evLoad tb st 80 a=loadN 3 st a:=by rw[a_];kernel_rfl
theorem sr80{st:St}{a v:V}:evStore tb st 80 a v=storeN 3 st a v:=by rw[a_];kernel_rfl
theorem al80{f:Nat→V}{n:Nat}{m:List Nat}{st:St}{dd:Option Nat}{ss:List Step}:evSteps tb (run tb) (⟨dd, .alloc 80,none⟩::ss) (mk n f m) st=evSteps tb (run tb) ss (mk n (putF f dd (.ptr st.store.length 0)) m) (newBox st [(.int .i64 0),(.str []),(.list true (some true) [])]):=z_ (by rw[a_];kernel_rfl) (by kernel_rfl)
theorem al_6{x:V}:evFieldAddr tb 80 x 0=faV 0 x:=by rw[a_];kernel_rfl
theorem ap_{x:V}:evFieldAddr tb 80 x 1=faV 1 x:=by rw[a_];kernel_rfl
theorem ak_8{x:V}:evFieldAddr tb 80 x 2=faV 2 x:=by rw[a_];kernel_rfl
theorem ld88{st:St}{a:V}:evLoad tb st 88 a=q_0 st a:=by rw[a_];kernel_rfl
theorem bl_8:tb.und 88=some (.slice 96):=by rw[a_];kernel_rfl
theorem ia88{fl:Bool}{nl:Option Bool}{xs:List V}{k:IntKind}{i:Int}:evIndexAddr tb 88 (.list fl nl xs) (.int k i)=idxL 1 xs i:=by rw[a_];kernel_rfl
theorem ib88{r s o l:Nat}{k:IntKind}{i:Int}:evIndexAddr tb 88 (.slice r s o l) (.int k i)=idxS 1 r s o l i:=by rw[a_];kernel_rfl
theorem ln88{st:St}{fl:Bool}{nl:Option Bool}{xs:List V}:lenV tb 88 st (.list fl nl xs)=some (.int .i64 (xs.length:Nat)):=by rw[a_];kernel_rfl
theorem lo88{st:St}{r s o l:Nat}:lenV tb 88 st (.slice r s o l)=some (.int .i64 (l:Nat)):=by rw[a_];kernel_rfl
theorem ap88{st:St}{sp:Bool}{x y:V}:evAppend tb st 88 sp x y=appV 1 8 st sp x y:=by rw[a_];kernel_rfl
theorem bs88{fr:Fr}{st:St}{l:Nat}{ps:Array (Nat×Operand)}:b_7 tb fr st (.buildSlice 88 l ps)=bsV l 1 .nilp (ps.toList.map (·.1)) st (evArgs tb fr (ps.toList.map (·.2))):=by rw[a_];kernel_rfl
theorem ld90{st:St}{a:V}:evLoad tb st 90 a=q_0 st a:=by rw[a_];kernel_rfl
theorem ak_9{x:V}:evFieldAddr tb 92 x 0=faV 0 x:=by rw[a_];kernel_rfl
theorem al_2{x:V}:evFieldAddr tb 92 x 1=faV 3 x:=by rw[a_];kernel_rfl
theorem bd92{ps:List (Nat×V)}:evBuild tb 92 ps=bdV [(0,3),(3,1)] [(.list true (some true) []),(.list true (some true) []),(.list true (some true) []), .nilmap] ps:=by rw[a_];kernel_rfl
theorem ld96{st:St}{a:V}:evLoad tb st 96 a=q_0 st a:=by rw[a_];kernel_rfl
theorem aq_{x:V}:evFieldAddr tb 98 x 0=faV 0 x:=by rw[a_];kernel_rfl
theorem ao_4{x:V}:evFieldAddr tb 98 x 1=faV 1 x:=by rw[a_];kernel_rfl
theorem ao_{x:V}:evFieldAddr tb 98 x 2=faV 2 x:=by rw[a_];kernel_rfl
theorem al_{x:V}:evFieldAddr tb 98 x 3=faV 3 x:=by rw[a_];kernel_rfl
theorem al_0{x:V}:evFieldAddr tb 98 x 4=faV 4 x:=by rw[a_];kernel_rfl
theorem an_2{x:V}:evFieldAddr tb 98 x 5=faV 5 x:=by rw[a_];kernel_rfl
theorem am_1{x:V}:evFieldAddr tb 98 x 6=faV 6 x:=by rw[a_];kernel_rfl
theorem bd98{ps:List (Nat×V)}:evBuild tb 98 ps=bdV [(0,1),(1,1),(2,1),(3,1),(4,1),(5,1),(6,1)] [(.str []),(.int .i64 0),(.bool false),(.bool false),(.list true (some true) []),(.int .i64 0),(.bool false)] ps:=by rw[a_];kernel_rfl
theorem bl_4{fl:Bool}{nl:Option Bool}{xs:List V}{k:IntKind}{i:Int}:evIndexAddr tb 102 (.list fl nl xs) (.int k i)=idxL 1 xs i:=by rw[a_];kernel_rfl
theorem bm_3{st:St}{fl:Bool}{nl:Option Bool}{xs:List V}:lenV tb 102 st (.list fl nl xs)=some (.int .i64 (xs.length:Nat)):=by rw[a_];kernel_rfl
theorem bk_0{fr:Fr}{st:St}{l:Nat}{ps:Array (Nat×Operand)}:b_7 tb fr st (.buildSlice 102 l ps)=bsV l 1 (.list true (some true) []) (ps.toList.map (·.1)) st (evArgs tb fr (ps.toList.map (·.2))):=by rw[a_];kernel_rfl
theorem bm_8{st:St}{a:V}:evLoad tb st 115 a=q_0 st a:=by rw[a_];kernel_rfl
theorem bn_7{st:St}{a:V}:evLoad tb st 127 a=q_0 st a:=by rw[a_];kernel_rfl
theorem bk_2{st:St}{a:V}:evLoad tb st 130 a=q_0 st a:=by rw[a_];kernel_rfl
theorem bb_0:tb.und 136=some (.int .u64):=by rw[a_];kernel_rfl
theorem bj_5{st:St}{a:V}:evLoad tb st 144 a=loadN 3 st a:=by rw[a_];kernel_rfl
theorem aP_9{x:V}:evFieldAddr tb 144 x 0=faV 0 x:=by rw[a_];kernel_rfl
theorem aT_8{x:V}:evFieldAddr tb 144 x 1=faV 1 x:=by rw[a_];kernel_rfl
theorem aU_3{x:V}:evFieldAddr tb 144 x 2=faV 2 x:=by rw[a_];kernel_rfl
theorem bn_9{st:St}{a:V}:evLoad tb st 152 a=q_0 st a:=by rw[a_];kernel_rfl
theorem bj_0{st:St}{a:V}:evLoad tb st 153 a=q_0 st a:=by rw[a_];kernel_rfl
theorem bn_8{st:St}{a:V}:evLoad tb st 155 a=q_0 st a:=by rw[a_];kernel_rfl
theorem bo_5{st:St}{a:V}:evLoad tb st 209 a=q_0 st a:=by rw[a_];kernel_rfl
theorem bn_5{st:St}{a:V}:evLoad tb st 265 a=loadN 7 st a:=by rw[a_];kernel_rfl
theorem bo_4{st:St}{a v:V}:evStore tb st 265 a v=storeN 7 st a v:=by rw[a_];kernel_rfl
theorem bo_3{f:Nat→V}{n:Nat}{m:List Nat}{st:St}{dd:Option Nat}{ss:List Step}:evSteps tb (run tb) (⟨dd, .alloc 265,none⟩::ss) (mk n f m) st=evSteps tb (run tb) ss (mk n (putF f dd (.ptr st.store.length 0)) m) (newBox st [(.bool false),(.bool false),(.bool false),(.bool false),(.int .i64 0),(.int .i64 0),(.int .i64 0)]):=z_ (by rw[a_];kernel_rfl) (by kernel_rfl)
theorem bg_9{x:V}:evFieldAddr tb 265 x 0=faV 0 x:=by rw[a_];kernel_rfl
theorem be_3{x:V}:evFieldAddr tb 265 x 1=faV 1 x:=by rw[a_];kernel_rfl
theorem bh_{x:V}:evFieldAddr tb 265 x 2=faV 2 x:=by rw[a_];kernel_rfl
theorem be_5{x:V}:evFieldAddr tb 265 x 3=faV 3 x:=by rw[a_];kernel_rfl
theorem bc_8{x:V}:evFieldAddr tb 265 x 4=faV 4 x:=by rw[a_];kernel_rfl
theorem bd_{x:V}:evFieldAddr tb 265 x 5=faV 5 x:=by rw[a_];kernel_rfl
theorem bg_7{x:V}:evFieldAddr tb 265 x 6=faV 6 x:=by rw[a_];kernel_rfl
theorem bn_6{ps:List (Nat×V)}:evBuild tb 265 ps=bdV [(0,1),(1,1),(2,1),(3,1),(4,1),(5,1),(6,1)] [(.bool false),(.bool false),(.bool false),(.bool false),(.int .i64 0),(.int .i64 0),(.int .i64 0)] ps:=by rw[a_];kernel_rfl
theorem bo_1{st:St}{a:V}:evLoad tb st 270 a=q_0 st a:=by rw[a_];kernel_rfl
end Go.Proofs.YtbbeelalcamgjaaGreatDoor
namespace Go.Abs
theorem add1{i:Nat}(h:i+1<2^62):intBin .add .i64 (i:Nat) 1=some (.int .i64 ((i:Int)+1)):=L_5 (by omega) (by omega)
theorem getE{α:Type}{s:List α}{i:Nat}(h:i<s.length):s[i]? =some s[i]:=List.getElem?_eq_getElem h
def span(p:UInt8→Bool):List UInt8→Nat
 |[]=>0
 |c::s=>if p c then span p s+1 else 0
theorem aT_(p:UInt8→Bool):∀s,span p s≤s.length
 |[]=>Nat.le_refl _
 |c::s=>by
  have:=aT_ p s
  simp only[span,List.length_cons];split<;>omega
theorem al_9(p:UInt8→Bool):∀(s:List UInt8) (i:Nat) (hi:i<s.length),i≤span p s→p s[i]=true→i+1≤span p s
 |[],i,hi,_,_=>by simp at hi
 |c::s,0,hi,_,h=>by
  simp only[List.getElem_cons_zero]at h
  simp[span,h]
 |c::s,i+1,hi,hle,h=>by
  simp only[span]at hle⊢
  split at hle
  ·rename_i hc
   rw[if_pos hc]
   have:=al_9 p s i (by simpa using hi) (by omega) (by simpa using h)
   omega
  ·omega
theorem ap_4(p:UInt8→Bool):∀(s:List UInt8) (i:Nat) (hi:i<s.length),i≤span p s→p s[i]=false→span p s=i
 |[],i,hi,_,_=>by simp at hi
 |c::s,0,hi,_,h=>by
  simp only[List.getElem_cons_zero]at h
  simp[span,h]
 |c::s,i+1,hi,hle,h=>by
  simp only[span]at hle⊢
  split at hle
  ·rename_i hc
   rw[if_pos hc]
   have:=ap_4 p s i (by simpa using hi) (by omega) (by simpa using h)
   omega
  ·omega
theorem aA_8(p:UInt8→Bool):∀s,(span p s==s.length)=s.all p
 |[]=>rfl
 |c::s=>by
  have ih:=aA_8 p s
  simp only[span,List.all_cons,List.length_cons]
  cases h:p c with
  |true=>simpa using ih
  |false=>simp
def idx{α:Type}(p:α→Bool):List α→Nat
 |[]=>0
 |c::s=>if p c then 0 else idx p s+1
section
variable {α:Type}
theorem J_6(p:α→Bool):∀s,idx p s≤s.length
 |[]=>Nat.le_refl _
 |c::s=>by
  have:=J_6 p s
  simp only[idx,List.length_cons];split<;>omega
theorem q_9(p:α→Bool):∀(s:List α) (i:Nat) (hi:i<s.length),i≤idx p s→p s[i]=false→i+1≤idx p s
 |[],i,hi,_,_=>by simp at hi
 |c::s,0,hi,_,h=>by
  simp only[List.getElem_cons_zero]at h
  simp[idx,h]
 |c::s,i+1,hi,hle,h=>by
  simp only[idx]at hle⊢
  split at hle
  ·omega
  ·rename_i hc
   rw[if_neg hc]
   have:=q_9 p s i (by simpa using hi) (by omega) (by simpa using h)
   omega
theorem q_7(p:α→Bool):∀(s:List α) (i:Nat) (hi:i<s.length),i≤idx p s→p s[i]=true→idx p s=i
 |[],i,hi,_,_=>by simp at hi
 |c::s,0,hi,_,h=>by
  simp only[List.getElem_cons_zero]at h
  simp[idx,h]
 |c::s,i+1,hi,hle,h=>by
  simp only[idx]at hle⊢
  split at hle
  ·omega
  ·rename_i hc
   rw[if_neg hc]
   have:=q_7 p s i (by simpa using hi) (by omega) (by simpa using h)
   omega
theorem at_5(p:α→Bool):∀s,decide (idx p s<s.length)=s.any p
 |[]=>rfl
 |c::s=>by
  have ih:=at_5 p s
  simp only[idx,List.any_cons,List.length_cons]
  by_cases h:p c=true
  ·simp[h]
  ·simp only[h,if_false,←ih];simp
def idxI(p:α→Bool)(s:List α):Int:=if s.any p then(idx p s:Nat)else -1
theorem A_6(p:α→Bool)(s:List α):decide ((0:Int)≤idxI p s)=s.any p:=by
 unfold idxI
 cases s.any p with
 |true=>simp
 |false=>simp
theorem p_1{p:α→Bool}{s:List α}(h:idx p s=s.length):idxI p s= -1:=by
 have:=at_5 p s
 rw[h]at this
 unfold idxI
 rw[←this];simp
theorem p_8{p:α→Bool}{s:List α}{i:Nat}(h:idx p s=i)(hi:i<s.length):idxI p s=(i:Nat):=by
 have:=at_5 p s
 rw[h]at this
 unfold idxI
 rw[←this,h];simp[hi]
end
def hasPre(s p:List UInt8):Bool:=decide (p.length≤s.length)&&(s.take p.length==p)
def boxS:List UInt8:=[98,111,120,32]
theorem x_5{s p:List UInt8}(h:hasPre s p=true):p.length≤s.length:=by
 unfold hasPre at h
 simp only[Bool.and_eq_true,decide_eq_true_eq]at h
 exact h.1
def strip(s:List UInt8):List UInt8×Nat:=if h:hasPre s boxS=true then((strip (s.drop 4)).1,(strip (s.drop 4)).2+1)else(s,0)
termination_by s.length
decreasing_by
 all_goals
  have:4≤s.length:=x_5 h
  simp only[List.length_drop];omega
theorem N_2{s:List UInt8}(h:hasPre s boxS=true):strip s=((strip (s.drop 4)).1,(strip (s.drop 4)).2+1):=by rw[strip,dif_pos h]
theorem Q_0{s:List UInt8}(h:hasPre s boxS=false):strip s=(s,0):=by rw[strip,dif_neg (by simp[h])]
theorem an_9:∀(n:Nat) (s:List UInt8),s.length≤n→(strip s).1.length≤s.length
 |0,s,h=>by
  have:hasPre s boxS=false:=by
   cases hh:hasPre s boxS with
   |false=>rfl
   |true=>have h4:4≤s.length:=x_5 hh;omega
  rw[Q_0 this];exact Nat.le_refl _
 |n+1,s,h=>by
  cases hh:hasPre s boxS with
  |false=>rw[Q_0 hh];exact Nat.le_refl _
  |true=>
   have h4:4≤s.length:=x_5 hh
   have:=an_9 n (s.drop 4) (by simp;omega)
   rw[N_2 hh]
   simp only[List.length_drop]at this⊢
   omega
end Go.Abs
namespace Go.Proofs.YtbbeelalcamgjaaGreatDoor
open Go.Abs
theorem a_5{g:FuncId}{fs cs args:List V}{st:St}(h:g≠306)(h2:g≠262):evInvoke tb (run tb) (.func (.func g) fs cs) args st=(run tb).call g (fs ++args ++cs) st:=by
 have hx:tb.ext g=Option.none:=by rw[a_];simp[tb0,Tab.of,h,h2]
 show(match tb.ext g with|some e=>evExt e (fs ++args ++cs) st|Option.none=>_)=_
 rw[hx]
abbrev Str:=List UInt8
theorem a_3{k l:Nat}{xs:List Str}:xs.all (below k (l+1)∘V.str)=true:=by simp[n_4]
structure Var where
 name:Str
 type:Str
def Var.v(x:Var):V:= .agg [.str x.name, .str x.type]
structure Place where
 loc:Str
 nl:Option Bool
 steps:List Str
def Place.v(x:Place):V:= .agg [.str x.loc, .list false x.nl (x.steps.map .str)]
end Go.Proofs.YtbbeelalcamgjaaGreatDoor
namespace Go.Proofs.YtbbeelalcamgjaaGreatDoor
noncomputable section
open Go.Abs
set_option maxRecDepth 1000000
set_option linter.unusedSimpArgs false
variable {rd:Option Nat} {f:Nat→V} {m:List Nat} {st:St}
def c57_0:=bodyOf Tryz.f57
def run57{args:List V}{st:St}(ha:args.length≤20):=a_1 (T:=tb) (fid:=57) (st:=st) (by rw[a_];exact Tryz.func57) (by rw[a_];rfl) (c:=c57_0) (rs:= #[.tmp 2, .tmp 3]) rfl rfl rfl ha
def c57_2:=kid c57_0 1
def c57_3:=kid c57_2 0
def c57_5:=kid c57_3 1
def c57_6:=kid c57_5 0
def c57_10:=kid c57_2 1
def c57_12:=kid c57_10 1
def c57_14:=kid c57_12 1
noncomputable def L57_1:Lt (kid c57_0 0):= .mk _
noncomputable def L57_4:Lt (kid c57_3 0):= .mk _
noncomputable def L57_7:Lt (kid c57_6 0):= .mk _
noncomputable def L57_11:Lt (kid c57_10 0):= .mk _
noncomputable def L57_13:Lt (kid c57_12 0):= .mk _
noncomputable def L57_15:Lt (kid c57_14 0):= .mk _
theorem S57:D tb c57_0=D tb (.seq (Rg L57_1) c57_2)∧D tb c57_2=D tb (.seq c57_3 c57_10)∧D tb c57_3=D tb (.seq (Rg L57_4) c57_5)∧D tb c57_5=D tb (.cond (.tmp 8) c57_6 .skip)∧D tb c57_6=D tb (.seq (Rg L57_7) .ret)∧D tb c57_10=D tb (.seq (Rg L57_11) c57_12)∧D tb c57_12=D tb (.seq (Rg L57_13) c57_14)∧D tb c57_14=D tb (.seq (Rg L57_15) .ret):=⟨rfl,rfl,rfl,rfl,rfl,rfl,rfl,rfl⟩
def c94_0:=bodyOf Tryz.f94
def run94{args:List V}{st:St}(ha:args.length≤25):=a_1 (T:=tb) (fid:=94) (st:=st) (by rw[a_];exact Tryz.func94) (by rw[a_];rfl) (c:=c94_0) (rs:= #[.tmp 2]) rfl rfl rfl ha
def c94_2:=kid c94_0 1
def c94_3:=kid c94_2 0
def c94_5:=kid c94_3 1
def c94_6:=kid c94_5 0
def c94_10:=kid c94_2 1
noncomputable def L94_1:Lt (kid c94_0 0):= .mk _
noncomputable def L94_4:Lt (kid c94_3 0):= .mk _
noncomputable def L94_7:Lt (kid c94_6 0):= .mk _
noncomputable def L94_11:Lt (kid c94_10 0):= .mk _
theorem S94:D tb c94_0=D tb (.seq (Rg L94_1) c94_2)∧D tb c94_2=D tb (.seq c94_3 c94_10)∧D tb c94_3=D tb (.seq (Rg L94_4) c94_5)∧D tb c94_5=D tb (.cond (.tmp 19) c94_6 .skip)∧D tb c94_6=D tb (.seq (Rg L94_7) .ret)∧D tb c94_10=D tb (.seq (Rg L94_11) .ret):=⟨rfl,rfl,rfl,rfl,rfl,rfl⟩
def c103_0:=bodyOf Tryz.f103
def run103{args:List V}{st:St}(ha:args.length≤9):=a_6 (T:=tb) (fid:=103) (st:=st) (by rw[a_];exact Tryz.func103) (by rw[a_];rfl) (c:=c103_0) (rs:= #[.tmp 4]) rfl rfl rfl ha
def c103_2:=kid c103_0 1
noncomputable def L103_1:Lt (kid c103_0 0):= .mk _
noncomputable def L103_3:Lt (kid c103_2 0):= .mk _
theorem S103:D tb c103_0=D tb (.seq (Rg L103_1) c103_2)∧D tb c103_2=D tb (.seq (Rg L103_3) .ret):=⟨rfl,rfl⟩
def c104_0:=bodyOf Tryz.f104
def run104{args:List V}{st:St}(ha:args.length≤24):=a_1 (T:=tb) (fid:=104) (st:=st) (by rw[a_];exact Tryz.func104) (by rw[a_];rfl) (c:=c104_0) (rs:= #[.tmp 2]) rfl rfl rfl ha
def c104_2:=kid c104_0 1
def c104_4:=kid c104_2 1
def c104_5:=kid c104_4 0
def c104_6:=kid c104_5 0
def c104_8:=kid c104_6 1
def c104_9:=kid c104_8 0
def c104_12:=kid c104_8 1
def c104_14:=kid c104_12 1
def c104_15:=kid c104_14 0
def c104_18:=kid c104_14 1
def c104_20:=kid c104_18 1
def c104_21:=kid c104_20 0
def c104_24:=kid c104_20 1
def c104_26:=kid c104_24 1
def c104_27:=kid c104_26 0
def c104_31:=kid c104_4 1
noncomputable def L104_1:Lt (kid c104_0 0):= .mk _
noncomputable def L104_3:Lt (kid c104_2 0):= .mk _
noncomputable def L104_7:Lt (kid c104_6 0):= .mk _
noncomputable def L104_10:Lt (kid c104_9 0):= .mk _
noncomputable def L104_13:Lt (kid c104_12 0):= .mk _
noncomputable def L104_16:Lt (kid c104_15 0):= .mk _
noncomputable def L104_19:Lt (kid c104_18 0):= .mk _
noncomputable def L104_22:Lt (kid c104_21 0):= .mk _
noncomputable def L104_25:Lt (kid c104_24 0):= .mk _
noncomputable def L104_28:Lt (kid c104_27 0):= .mk _
noncomputable def L104_32:Lt (kid c104_31 0):= .mk _
theorem S104:D tb c104_0=D tb (.seq (Rg L104_1) c104_2)∧D tb c104_2=D tb (.seq (Rg L104_3) c104_4)∧D tb c104_4=D tb (.seq c104_5 c104_31)∧D tb c104_5=D tb (.block 0 c104_6)∧D tb c104_6=D tb (.seq (Rg L104_7) c104_8)∧D tb c104_8=D tb (.cond (.tmp 10) c104_9 c104_12)∧D tb c104_9=D tb (.seq (Rg L104_10) .ret)∧D tb c104_12=D tb (.seq (Rg L104_13) c104_14)∧D tb c104_14=D tb (.cond (.tmp 14) c104_15 c104_18)∧D tb c104_15=D tb (.seq (Rg L104_16) .ret)∧D tb c104_18=D tb (.seq (Rg L104_19) c104_20)∧D tb c104_20=D tb (.cond (.tmp 18) c104_21 c104_24)∧D tb c104_21=D tb (.seq (Rg L104_22) .ret)∧D tb c104_24=D tb (.seq (Rg L104_25) c104_26)∧D tb c104_26=D tb (.cond (.tmp 21) c104_27 .skip)∧D tb c104_27=D tb (.seq (Rg L104_28) .ret)∧D tb c104_31=D tb (.seq (Rg L104_32) .ret):=⟨rfl,rfl,rfl,rfl,rfl,rfl,rfl,rfl,rfl,rfl,rfl,rfl,rfl,rfl,rfl,rfl,rfl⟩
def c117_0:=bodyOf Tryz.f117
def run117{args:List V}{st:St}(ha:args.length≤23):=a_1 (T:=tb) (fid:=117) (st:=st) (by rw[a_];exact Tryz.func117) (by rw[a_];rfl) (c:=c117_0) (rs:= #[.tmp 2, .tmp 3]) rfl rfl rfl ha
def c117_2:=kid c117_0 1
def c117_3:=kid c117_2 0
def c117_5:=kid c117_3 1
def c117_7:=kid c117_5 1
def c117_8:=kid c117_7 0
def c117_12:=kid c117_2 1
def c117_13:=kid c117_12 0
def c117_15:=kid c117_13 1
def c117_17:=kid c117_15 1
def c117_18:=kid c117_17 0
def c117_22:=kid c117_12 1
noncomputable def L117_1:Lt (kid c117_0 0):= .mk _
noncomputable def L117_4:Lt (kid c117_3 0):= .mk _
noncomputable def L117_6:Lt (kid c117_5 0):= .mk _
noncomputable def L117_9:Lt (kid c117_8 0):= .mk _
noncomputable def L117_14:Lt (kid c117_13 0):= .mk _
noncomputable def L117_16:Lt (kid c117_15 0):= .mk _
noncomputable def L117_19:Lt (kid c117_18 0):= .mk _
noncomputable def L117_23:Lt (kid c117_22 0):= .mk _
theorem S117:D tb c117_0=D tb (.seq (Rg L117_1) c117_2)∧D tb c117_2=D tb (.seq c117_3 c117_12)∧D tb c117_3=D tb (.seq (Rg L117_4) c117_5)∧D tb c117_5=D tb (.seq (Rg L117_6) c117_7)∧D tb c117_7=D tb (.cond (.tmp 13) c117_8 .skip)∧D tb c117_8=D tb (.seq (Rg L117_9) .ret)∧D tb c117_12=D tb (.seq c117_13 c117_22)∧D tb c117_13=D tb (.seq (Rg L117_14) c117_15)∧D tb c117_15=D tb (.seq (Rg L117_16) c117_17)∧D tb c117_17=D tb (.cond (.tmp 20) c117_18 .skip)∧D tb c117_18=D tb (.seq (Rg L117_19) .ret)∧D tb c117_22=D tb (.seq (Rg L117_23) .ret):=⟨rfl,rfl,rfl,rfl,rfl,rfl,rfl,rfl,rfl,rfl,rfl,rfl⟩
def c118_0:=bodyOf Tryz.f118
def run118{args:List V}{st:St}(ha:args.length≤13):=a_1 (T:=tb) (fid:=118) (st:=st) (by rw[a_];exact Tryz.func118) (by rw[a_];rfl) (c:=c118_0) (rs:= #[.tmp 2, .tmp 3]) rfl rfl rfl ha
def c118_2:=kid c118_0 1
def c118_4:=kid c118_2 1
def c118_5:=kid c118_4 0
def c118_6:=kid c118_5 0
def c118_7:=kid c118_6 0
def c118_8:=kid c118_7 0
def c118_10:=kid c118_8 1
def c118_13:=kid c118_7 1
def c118_14:=kid c118_13 0
def c118_17:=kid c118_4 1
theorem p118_6:D tb c118_6 rd 13 f m st=loopK tb rd c118_6 13 f m st fun e fr st=>some (e,fr,st):=b_2
theorem e118_6:c118_6= .loop c118_7:=rfl
theorem w118_6:writes c118_7=some [5,6,7,8,0,9,10,4]:=by kernel_rfl
noncomputable def L118_1:Lt (kid c118_0 0):= .mk _
noncomputable def L118_3:Lt (kid c118_2 0):= .mk _
noncomputable def L118_9:Lt (kid c118_8 0):= .mk _
noncomputable def L118_15:Lt (kid c118_14 0):= .mk _
noncomputable def L118_16:Lt (kid c118_14 1):= .mk _
noncomputable def L118_18:Lt (kid c118_17 0):= .mk _
theorem S118:D tb c118_0=D tb (.seq (Rg L118_1) c118_2)∧D tb c118_2=D tb (.seq (Rg L118_3) c118_4)∧D tb c118_4=D tb (.seq c118_5 c118_17)∧D tb c118_5=D tb (.block 0 c118_6)∧D tb c118_7=D tb (.seq c118_8 c118_13)∧D tb c118_8=D tb (.seq (Rg L118_9) c118_10)∧D tb c118_10=D tb (.cond (.tmp 6) .skip (.exit 0))∧D tb c118_13=D tb (.block 1 c118_14)∧D tb c118_14=D tb (.seq (Rg L118_15) (Rg L118_16))∧D tb c118_17=D tb (.seq (Rg L118_18) .ret):=⟨rfl,rfl,rfl,rfl,rfl,rfl,rfl,rfl,rfl,rfl⟩
def c160_0:=bodyOf Tryz.f160
def run160{args:List V}{st:St}(ha:args.length≤9):=a_1 (T:=tb) (fid:=160) (st:=st) (by rw[a_];exact Tryz.func160) (by rw[a_];rfl) (c:=c160_0) (rs:= #[.tmp 2]) rfl rfl rfl ha
def c160_2:=kid c160_0 1
noncomputable def L160_1:Lt (kid c160_0 0):= .mk _
noncomputable def L160_3:Lt (kid c160_2 0):= .mk _
theorem S160:D tb c160_0=D tb (.seq (Rg L160_1) c160_2)∧D tb c160_2=D tb (.seq (Rg L160_3) .ret):=⟨rfl,rfl⟩
def c161_0:=bodyOf Tryz.f161
def run161{args:List V}{st:St}(ha:args.length≤6):=a_1 (T:=tb) (fid:=161) (st:=st) (by rw[a_];exact Tryz.func161) (by rw[a_];rfl) (c:=c161_0) (rs:= #[.tmp 2]) rfl rfl rfl ha
def c161_2:=kid c161_0 1
noncomputable def L161_1:Lt (kid c161_0 0):= .mk _
noncomputable def L161_3:Lt (kid c161_2 0):= .mk _
theorem S161:D tb c161_0=D tb (.seq (Rg L161_1) c161_2)∧D tb c161_2=D tb (.seq (Rg L161_3) .ret):=⟨rfl,rfl⟩
def c162_0:=bodyOf Tryz.f162
def run162{args:List V}{st:St}(ha:args.length≤20):=a_1 (T:=tb) (fid:=162) (st:=st) (by rw[a_];exact Tryz.func162) (by rw[a_];rfl) (c:=c162_0) (rs:= #[.tmp 4]) rfl rfl rfl ha
def c162_2:=kid c162_0 1
def c162_4:=kid c162_2 1
def c162_5:=kid c162_4 0
def c162_6:=kid c162_5 0
def c162_7:=kid c162_6 0
def c162_8:=kid c162_7 0
def c162_10:=kid c162_8 1
def c162_13:=kid c162_7 1
def c162_15:=kid c162_4 1
theorem p162_6:D tb c162_6 rd 20 f m st=loopK tb rd c162_6 20 f m st fun e fr st=>some (e,fr,st):=b_2
theorem e162_6:c162_6= .loop c162_7:=rfl
theorem w162_6:writes c162_7=some [6,7,8,9,10,11,12,13,14,15,16,17,18,5]:=by kernel_rfl
noncomputable def L162_1:Lt (kid c162_0 0):= .mk _
noncomputable def L162_3:Lt (kid c162_2 0):= .mk _
noncomputable def L162_9:Lt (kid c162_8 0):= .mk _
noncomputable def L162_14:Lt (kid c162_13 0):= .mk _
noncomputable def L162_16:Lt (kid c162_15 0):= .mk _
theorem S162:D tb c162_0=D tb (.seq (Rg L162_1) c162_2)∧D tb c162_2=D tb (.seq (Rg L162_3) c162_4)∧D tb c162_4=D tb (.seq c162_5 c162_15)∧D tb c162_5=D tb (.block 0 c162_6)∧D tb c162_7=D tb (.seq c162_8 c162_13)∧D tb c162_8=D tb (.seq (Rg L162_9) c162_10)∧D tb c162_10=D tb (.cond (.tmp 16) .skip (.exit 0))∧D tb c162_13=D tb (.block 1 (Rg L162_14))∧D tb c162_15=D tb (.seq (Rg L162_16) .ret):=⟨rfl,rfl,rfl,rfl,rfl,rfl,rfl,rfl,rfl⟩
def c163_0:=bodyOf Tryz.f163
def run163{args:List V}{st:St}(ha:args.length≤13):=a_1 (T:=tb) (fid:=163) (st:=st) (by rw[a_];exact Tryz.func163) (by rw[a_];rfl) (c:=c163_0) (rs:= #[.tmp 2]) rfl rfl rfl ha
def c163_2:=kid c163_0 1
noncomputable def L163_1:Lt (kid c163_0 0):= .mk _
noncomputable def L163_3:Lt (kid c163_2 0):= .mk _
theorem S163:D tb c163_0=D tb (.seq (Rg L163_1) c163_2)∧D tb c163_2=D tb (.seq (Rg L163_3) .ret):=⟨rfl,rfl⟩
def c166_0:=bodyOf Tryz.f166
def run166{args:List V}{st:St}(ha:args.length≤20):=a_1 (T:=tb) (fid:=166) (st:=st) (by rw[a_];exact Tryz.func166) (by rw[a_];rfl) (c:=c166_0) (rs:= #[.tmp 2]) rfl rfl rfl ha
def c166_2:=kid c166_0 1
def c166_4:=kid c166_2 1
noncomputable def L166_1:Lt (kid c166_0 0):= .mk _
noncomputable def L166_3:Lt (kid c166_2 0):= .mk _
noncomputable def L166_5:Lt (kid c166_4 0):= .mk _
theorem S166:D tb c166_0=D tb (.seq (Rg L166_1) c166_2)∧D tb c166_2=D tb (.seq (Rg L166_3) c166_4)∧D tb c166_4=D tb (.seq (Rg L166_5) .ret):=⟨rfl,rfl,rfl⟩
def c174_0:=bodyOf Tryz.f174
def run174{args:List V}{st:St}(ha:args.length≤19):=a_6 (T:=tb) (fid:=174) (st:=st) (by rw[a_];exact Tryz.func174) (by rw[a_];rfl) (c:=c174_0) (rs:= #[.tmp 4]) rfl rfl rfl ha
def c174_2:=kid c174_0 1
def c174_3:=kid c174_2 0
def c174_5:=kid c174_3 1
def c174_6:=kid c174_5 0
def c174_7:=kid c174_6 0
def c174_9:=kid c174_7 1
def c174_10:=kid c174_9 0
def c174_13:=kid c174_9 1
def c174_14:=kid c174_13 0
def c174_15:=kid c174_14 0
def c174_17:=kid c174_15 1
def c174_19:=kid c174_17 1
def c174_20:=kid c174_19 0
def c174_25:=kid c174_2 1
theorem p174_6:D tb c174_6 rd 19 f m st=loopK tb rd c174_6 19 f m st fun e fr st=>some (e,fr,st):=b_2
theorem e174_6:c174_6= .loop c174_7:=rfl
theorem w174_6:writes c174_7=some [9,10,5,11,12,13,14,15,16,17,4,18,8]:=by kernel_rfl
noncomputable def L174_1:Lt (kid c174_0 0):= .mk _
noncomputable def L174_4:Lt (kid c174_3 0):= .mk _
noncomputable def L174_8:Lt (kid c174_7 0):= .mk _
noncomputable def L174_16:Lt (kid c174_15 0):= .mk _
noncomputable def L174_18:Lt (kid c174_17 0):= .mk _
noncomputable def L174_21:Lt (kid c174_20 0):= .mk _
noncomputable def L174_24:Lt (kid c174_13 1):= .mk _
noncomputable def L174_26:Lt (kid c174_25 0):= .mk _
theorem S174:D tb c174_0=D tb (.seq (Rg L174_1) c174_2)∧D tb c174_2=D tb (.seq c174_3 c174_25)∧D tb c174_3=D tb (.seq (Rg L174_4) c174_5)∧D tb c174_5=D tb (.block 0 c174_6)∧D tb c174_7=D tb (.seq (Rg L174_8) c174_9)∧D tb c174_9=D tb (.seq c174_10 c174_13)∧D tb c174_10=D tb (.cond (.tmp 9) .skip (.exit 0))∧D tb c174_13=D tb (.seq c174_14 (Rg L174_24))∧D tb c174_14=D tb (.block 1 c174_15)∧D tb c174_15=D tb (.seq (Rg L174_16) c174_17)∧D tb c174_17=D tb (.seq (Rg L174_18) c174_19)∧D tb c174_19=D tb (.cond (.tmp 16) c174_20 .skip)∧D tb c174_20=D tb (.seq (Rg L174_21) .ret)∧D tb c174_25=D tb (.seq (Rg L174_26) .ret):=⟨rfl,rfl,rfl,rfl,rfl,rfl,rfl,rfl,rfl,rfl,rfl,rfl,rfl,rfl⟩
def c175_0:=bodyOf Tryz.f175
def run175{args:List V}{st:St}(ha:args.length≤8):=a_1 (T:=tb) (fid:=175) (st:=st) (by rw[a_];exact Tryz.func175) (by rw[a_];rfl) (c:=c175_0) (rs:= #[.tmp 4]) rfl rfl rfl ha
def c175_2:=kid c175_0 1
noncomputable def L175_1:Lt (kid c175_0 0):= .mk _
noncomputable def L175_3:Lt (kid c175_2 0):= .mk _
theorem S175:D tb c175_0=D tb (.seq (Rg L175_1) c175_2)∧D tb c175_2=D tb (.seq (Rg L175_3) .ret):=⟨rfl,rfl⟩
def c183_0:=bodyOf Tryz.f183
def run183{args:List V}{st:St}(ha:args.length≤11):=a_1 (T:=tb) (fid:=183) (st:=st) (by rw[a_];exact Tryz.func183) (by rw[a_];rfl) (c:=c183_0) (rs:= #[.tmp 4, .tmp 5]) rfl rfl rfl ha
def c183_2:=kid c183_0 1
noncomputable def L183_1:Lt (kid c183_0 0):= .mk _
noncomputable def L183_3:Lt (kid c183_2 0):= .mk _
theorem S183:D tb c183_0=D tb (.seq (Rg L183_1) c183_2)∧D tb c183_2=D tb (.seq (Rg L183_3) .ret):=⟨rfl,rfl⟩
def c226_0:=bodyOf Tryz.f226
def run226{args:List V}{st:St}(ha:args.length≤9):=a_1 (T:=tb) (fid:=226) (st:=st) (by rw[a_];exact Tryz.func226) (by rw[a_];rfl) (c:=c226_0) (rs:= #[.tmp 2]) rfl rfl rfl ha
def c226_2:=kid c226_0 1
noncomputable def L226_1:Lt (kid c226_0 0):= .mk _
noncomputable def L226_3:Lt (kid c226_2 0):= .mk _
theorem S226:D tb c226_0=D tb (.seq (Rg L226_1) c226_2)∧D tb c226_2=D tb (.seq (Rg L226_3) .ret):=⟨rfl,rfl⟩
def c233_0:=bodyOf Tryz.f233
def run233{args:List V}{st:St}(ha:args.length≤18):=a_1 (T:=tb) (fid:=233) (st:=st) (by rw[a_];exact Tryz.func233) (by rw[a_];rfl) (c:=c233_0) (rs:= #[.tmp 4]) rfl rfl rfl ha
def c233_2:=kid c233_0 1
noncomputable def L233_1:Lt (kid c233_0 0):= .mk _
noncomputable def L233_3:Lt (kid c233_2 0):= .mk _
theorem S233:D tb c233_0=D tb (.seq (Rg L233_1) c233_2)∧D tb c233_2=D tb (.seq (Rg L233_3) .ret):=⟨rfl,rfl⟩
def c243_0:=bodyOf Tryz.f243
def run243{args:List V}{st:St}(ha:args.length≤15):=a_1 (T:=tb) (fid:=243) (st:=st) (by rw[a_];exact Tryz.func243) (by rw[a_];rfl) (c:=c243_0) (rs:= #[.tmp 4, .tmp 5]) rfl rfl rfl ha
def c243_2:=kid c243_0 1
def c243_3:=kid c243_2 0
def c243_5:=kid c243_3 1
def c243_6:=kid c243_5 0
def c243_10:=kid c243_2 1
noncomputable def L243_1:Lt (kid c243_0 0):= .mk _
noncomputable def L243_4:Lt (kid c243_3 0):= .mk _
noncomputable def L243_7:Lt (kid c243_6 0):= .mk _
noncomputable def L243_11:Lt (kid c243_10 0):= .mk _
theorem S243:D tb c243_0=D tb (.seq (Rg L243_1) c243_2)∧D tb c243_2=D tb (.seq c243_3 c243_10)∧D tb c243_3=D tb (.seq (Rg L243_4) c243_5)∧D tb c243_5=D tb (.cond (.tmp 9) c243_6 .skip)∧D tb c243_6=D tb (.seq (Rg L243_7) .ret)∧D tb c243_10=D tb (.seq (Rg L243_11) .ret):=⟨rfl,rfl,rfl,rfl,rfl,rfl⟩
end
end Go.Proofs.YtbbeelalcamgjaaGreatDoor
namespace Go.Proofs.YtbbeelalcamgjaaGreatDoor
noncomputable section
open Go.Abs
set_option maxRecDepth 1000000
set_option linter.unusedSimpArgs false
variable {rd:Option Nat} {f:Nat→V} {m:List Nat} {st:St}
def c10_0:=bodyOf Tryz.f10
def run10{args:List V}{st:St}(ha:args.length≤177):=a_1 (T:=tb) (fid:=10) (st:=st) (by rw[a_];exact Tryz.func10) (by rw[a_];rfl) (c:=c10_0) (rs:= #[.tmp 2]) rfl rfl rfl ha
def c10_2:=kid c10_0 1
def c10_4:=kid c10_2 1
def c10_5:=kid c10_4 0
def c10_7:=kid c10_5 1
def c10_8:=kid c10_7 0
def c10_12:=kid c10_4 1
def c10_13:=kid c10_12 0
def c10_15:=kid c10_13 1
def c10_16:=kid c10_15 0
def c10_17:=kid c10_16 0
def c10_18:=kid c10_17 0
def c10_20:=kid c10_18 1
def c10_23:=kid c10_17 1
def c10_24:=kid c10_23 0
def c10_27:=kid c10_12 1
def c10_28:=kid c10_27 0
def c10_30:=kid c10_28 1
def c10_31:=kid c10_30 0
def c10_32:=kid c10_31 0
def c10_33:=kid c10_32 0
def c10_35:=kid c10_33 1
def c10_38:=kid c10_32 1
def c10_39:=kid c10_38 0
def c10_42:=kid c10_27 1
def c10_43:=kid c10_42 0
def c10_45:=kid c10_43 1
def c10_46:=kid c10_45 0
def c10_47:=kid c10_46 0
def c10_48:=kid c10_47 0
def c10_50:=kid c10_48 1
def c10_53:=kid c10_47 1
def c10_54:=kid c10_53 0
def c10_55:=kid c10_54 0
def c10_57:=kid c10_55 1
def c10_59:=kid c10_57 1
def c10_60:=kid c10_59 0
def c10_62:=kid c10_60 1
def c10_63:=kid c10_62 0
def c10_67:=kid c10_59 1
def c10_68:=kid c10_67 0
def c10_70:=kid c10_68 1
def c10_71:=kid c10_70 0
def c10_72:=kid c10_71 0
def c10_73:=kid c10_72 0
def c10_75:=kid c10_73 1
def c10_78:=kid c10_72 1
def c10_79:=kid c10_78 0
def c10_80:=kid c10_79 0
noncomputable def o10_81:=opsOf (kid c10_80 0)
def c10_82:=kid c10_80 1
def c10_83:=kid c10_82 0
def c10_85:=kid c10_83 1
def c10_86:=kid c10_85 0
def c10_90:=kid c10_82 1
def c10_92:=kid c10_90 1
def c10_93:=kid c10_92 0
def c10_94:=kid c10_93 0
def c10_95:=kid c10_94 0
def c10_97:=kid c10_95 1
def c10_100:=kid c10_94 1
def c10_101:=kid c10_100 0
def c10_105:=kid c10_67 1
def c10_107:=kid c10_105 1
def c10_109:=kid c10_107 1
def c10_110:=kid c10_109 0
def c10_111:=kid c10_110 0
def c10_112:=kid c10_111 0
def c10_114:=kid c10_112 1
def c10_117:=kid c10_111 1
def c10_118:=kid c10_117 0
def c10_122:=kid c10_42 1
theorem p10_16:D tb c10_16 rd 177 f m st=loopK tb rd c10_16 177 f m st fun e fr st=>some (e,fr,st):=b_2
theorem e10_16:c10_16= .loop c10_17:=rfl
theorem w10_16:writes c10_17=some [25,26,27,28,29,32,33,34,35,36,37,38,39,40,3,30,31,4]:=by kernel_rfl
theorem p10_31:D tb c10_31 rd 177 f m st=loopK tb rd c10_31 177 f m st fun e fr st=>some (e,fr,st):=b_2
theorem e10_31:c10_31= .loop c10_32:=rfl
theorem w10_31:writes c10_32=some [41,42,43,44,45,48,49,50,51,52,53,54,55,56,3,46,47,5]:=by kernel_rfl
theorem p10_46:D tb c10_46 rd 177 f m st=loopK tb rd c10_46 177 f m st fun e fr st=>some (e,fr,st):=b_2
theorem e10_46:c10_46= .loop c10_47:=rfl
theorem w10_46:writes c10_47=some [57,58,59,60,61,64,65,66,67,68,7,69,70,71,72,73,74,75,76,77,78,79,80,81,3,82,83,2,8,84,85,86,87,88,91,92,93,94,95,96,97,98,99,100,101,102,103,104,105,106,107,108,109,110,111,112,113,114,115,116,117,118,119,120,121,122,123,124,125,126,3,127,128,2,9,129,130,131,132,133,134,135,136,137,140,141,142,143,144,145,146,147,148,149,150,151,152,3,138,139,9,89,90,8,153,154,10,11,155,156,157,158,161,162,163,164,165,166,167,168,3,159,160,11,62,63,6]:=by kernel_rfl
theorem p10_71:D tb c10_71 rd 177 f m st=loopK tb rd c10_71 177 f m st fun e fr st=>some (e,fr,st):=b_2
theorem e10_71:c10_71= .loop c10_72:=rfl
theorem w10_71:writes c10_72=some [84,85,86,87,88,91,92,93,94,95,96,97,98,99,100,101,102,103,104,105,106,107,108,109,110,111,112,113,114,115,116,117,118,119,120,121,122,123,124,125,126,3,127,128,2,9,129,130,131,132,133,134,135,136,137,140,141,142,143,144,145,146,147,148,149,150,151,152,3,138,139,9,89,90,8]:=by kernel_rfl
noncomputable def l10_81:{l:List DStep//drawAt o10_81 [(0,0),(1,0),(2,2),(3,0),(4,14),(5,30),(6,62),(7,126),(8,0),(9,256),(10,0),(11,1792),(12,3840),(13,7936),(14,16128),(15,32512),(16,65534),(17,0),(18,131072),(19,0),(20,917504),(21,1966080),(22,4063232),(23,8257536),(24,16646144),(25,33554430),(26,0),(27,67108864),(28,0),(29,469762048),(30,1006632960),(31,2080374784),(32,4227858432),(33,8522825728),(34,17179869182),(35,34359738367),(36,68719476735)]=l}:=by refine⟨?_,?h⟩;case h=>simp only[drawAt,entsAt,o10_81,c10_80,c10_79,c10_78,c10_72,c10_71,c10_70,c10_68,c10_67,c10_59,c10_57,c10_55,c10_54,c10_53,c10_47,c10_46,c10_45,c10_43,c10_42,c10_27,c10_12,c10_4,c10_2,c10_0,opsOf,kid,bodyOf,Tryz.f10,Option.getD_some,List.map,stepOf,Option.map,List.getElem?_toArray,List.getElem?_cons_succ,List.getElem?_cons_zero,Option.bind_some];rfl
theorem q10_81:D tb (.region 22 o10_81 true) rd 177 f m st=regB (evDraws tb (run tb) l10_81.1 [] (mk 177 f m) st):=q_3 [(0,0),(1,0),(2,2),(3,0),(4,14),(5,30),(6,62),(7,126),(8,0),(9,256),(10,0),(11,1792),(12,3840),(13,7936),(14,16128),(15,32512),(16,65534),(17,0),(18,131072),(19,0),(20,917504),(21,1966080),(22,4063232),(23,8257536),(24,16646144),(25,33554430),(26,0),(27,67108864),(28,0),(29,469762048),(30,1006632960),(31,2080374784),(32,4227858432),(33,8522825728),(34,17179869182),(35,34359738367),(36,68719476735)] (by kernel_rfl) l10_81.2
theorem p10_93:D tb c10_93 rd 177 f m st=loopK tb rd c10_93 177 f m st fun e fr st=>some (e,fr,st):=b_2
theorem e10_93:c10_93= .loop c10_94:=rfl
theorem w10_93:writes c10_94=some [129,130,131,132,133,134,135,136,137,140,141,142,143,144,145,146,147,148,149,150,151,152,3,138,139,9]:=by kernel_rfl
theorem p10_110:D tb c10_110 rd 177 f m st=loopK tb rd c10_110 177 f m st fun e fr st=>some (e,fr,st):=b_2
theorem e10_110:c10_110= .loop c10_111:=rfl
theorem w10_110:writes c10_111=some [155,156,157,158,161,162,163,164,165,166,167,168,3,159,160,11]:=by kernel_rfl
noncomputable def L10_1:Lt (kid c10_0 0):= .mk _
noncomputable def L10_3:Lt (kid c10_2 0):= .mk _
noncomputable def L10_6:Lt (kid c10_5 0):= .mk _
noncomputable def L10_9:Lt (kid c10_8 0):= .mk _
noncomputable def L10_14:Lt (kid c10_13 0):= .mk _
noncomputable def L10_19:Lt (kid c10_18 0):= .mk _
noncomputable def L10_25:Lt (kid c10_24 0):= .mk _
noncomputable def L10_26:Lt (kid c10_23 1):= .mk _
noncomputable def L10_29:Lt (kid c10_28 0):= .mk _
noncomputable def L10_34:Lt (kid c10_33 0):= .mk _
noncomputable def L10_40:Lt (kid c10_39 0):= .mk _
noncomputable def L10_41:Lt (kid c10_38 1):= .mk _
noncomputable def L10_44:Lt (kid c10_43 0):= .mk _
noncomputable def L10_49:Lt (kid c10_48 0):= .mk _
noncomputable def L10_56:Lt (kid c10_55 0):= .mk _
noncomputable def L10_58:Lt (kid c10_57 0):= .mk _
noncomputable def L10_61:Lt (kid c10_60 0):= .mk _
noncomputable def L10_64:Lt (kid c10_63 0):= .mk _
noncomputable def L10_69:Lt (kid c10_68 0):= .mk _
noncomputable def L10_74:Lt (kid c10_73 0):= .mk _
noncomputable def L10_84:Lt (kid c10_83 0):= .mk _
noncomputable def L10_87:Lt (kid c10_86 0):= .mk _
noncomputable def L10_91:Lt (kid c10_90 0):= .mk _
noncomputable def L10_96:Lt (kid c10_95 0):= .mk _
noncomputable def L10_102:Lt (kid c10_101 0):= .mk _
noncomputable def L10_103:Lt (kid c10_100 1):= .mk _
noncomputable def L10_104:Lt (kid c10_78 1):= .mk _
noncomputable def L10_106:Lt (kid c10_105 0):= .mk _
noncomputable def L10_108:Lt (kid c10_107 0):= .mk _
noncomputable def L10_113:Lt (kid c10_112 0):= .mk _
noncomputable def L10_119:Lt (kid c10_118 0):= .mk _
noncomputable def L10_120:Lt (kid c10_117 1):= .mk _
noncomputable def L10_121:Lt (kid c10_53 1):= .mk _
noncomputable def L10_123:Lt (kid c10_122 0):= .mk _
theorem S10:D tb c10_0=D tb (.seq (Rg L10_1) c10_2)∧D tb c10_2=D tb (.seq (Rg L10_3) c10_4)∧D tb c10_4=D tb (.seq c10_5 c10_12)∧D tb c10_5=D tb (.seq (Rg L10_6) c10_7)∧D tb c10_7=D tb (.cond (.tmp 24) c10_8 .skip)∧D tb c10_8=D tb (.seq (Rg L10_9) .ret)∧D tb c10_12=D tb (.seq c10_13 c10_27)∧D tb c10_13=D tb (.seq (Rg L10_14) c10_15)∧D tb c10_15=D tb (.block 0 c10_16)∧D tb c10_17=D tb (.seq c10_18 c10_23)∧D tb c10_18=D tb (.seq (Rg L10_19) c10_20)∧D tb c10_20=D tb (.cond (.tmp 29) .skip (.exit 0))∧D tb c10_23=D tb (.seq c10_24 (Rg L10_26))∧D tb c10_24=D tb (.block 1 (Rg L10_25))∧D tb c10_27=D tb (.seq c10_28 c10_42)∧D tb c10_28=D tb (.seq (Rg L10_29) c10_30)∧D tb c10_30=D tb (.block 2 c10_31)∧D tb c10_32=D tb (.seq c10_33 c10_38)∧D tb c10_33=D tb (.seq (Rg L10_34) c10_35)∧D tb c10_35=D tb (.cond (.tmp 45) .skip (.exit 2))∧D tb c10_38=D tb (.seq c10_39 (Rg L10_41))∧D tb c10_39=D tb (.block 3 (Rg L10_40))∧D tb c10_42=D tb (.seq c10_43 c10_122)∧D tb c10_43=D tb (.seq (Rg L10_44) c10_45)∧D tb c10_45=D tb (.block 4 c10_46)∧D tb c10_47=D tb (.seq c10_48 c10_53)∧D tb c10_48=D tb (.seq (Rg L10_49) c10_50)∧D tb c10_50=D tb (.cond (.tmp 61) .skip (.exit 4))∧D tb c10_53=D tb (.seq c10_54 (Rg L10_121))∧D tb c10_54=D tb (.block 5 c10_55)∧D tb c10_55=D tb (.seq (Rg L10_56) c10_57)∧D tb c10_57=D tb (.seq (Rg L10_58) c10_59)∧D tb c10_59=D tb (.seq c10_60 c10_67)∧D tb c10_60=D tb (.seq (Rg L10_61) c10_62)∧D tb c10_62=D tb (.cond (.tmp 83) c10_63 .skip)∧D tb c10_63=D tb (.seq (Rg L10_64) .ret)∧D tb c10_67=D tb (.seq c10_68 c10_105)∧D tb c10_68=D tb (.seq (Rg L10_69) c10_70)∧D tb c10_70=D tb (.block 6 c10_71)∧D tb c10_72=D tb (.seq c10_73 c10_78)∧D tb c10_73=D tb (.seq (Rg L10_74) c10_75)∧D tb c10_75=D tb (.cond (.tmp 88) .skip (.exit 6))∧D tb c10_78=D tb (.seq c10_79 (Rg L10_104))∧D tb c10_79=D tb (.block 7 c10_80)∧D tb c10_80=D tb (.seq (.region 22 o10_81 true) c10_82)∧D tb c10_82=D tb (.seq c10_83 c10_90)∧D tb c10_83=D tb (.seq (Rg L10_84) c10_85)∧D tb c10_85=D tb (.cond (.tmp 128) c10_86 .skip)∧D tb c10_86=D tb (.seq (Rg L10_87) .ret)∧D tb c10_90=D tb (.seq (Rg L10_91) c10_92)∧D tb c10_92=D tb (.block 8 c10_93)∧D tb c10_94=D tb (.seq c10_95 c10_100)∧D tb c10_95=D tb (.seq (Rg L10_96) c10_97)∧D tb c10_97=D tb (.cond (.tmp 137) .skip (.exit 8))∧D tb c10_100=D tb (.seq c10_101 (Rg L10_103))∧D tb c10_101=D tb (.block 9 (Rg L10_102))∧D tb c10_105=D tb (.seq (Rg L10_106) c10_107)∧D tb c10_107=D tb (.seq (Rg L10_108) c10_109)∧D tb c10_109=D tb (.block 10 c10_110)∧D tb c10_111=D tb (.seq c10_112 c10_117)∧D tb c10_112=D tb (.seq (Rg L10_113) c10_114)∧D tb c10_114=D tb (.cond (.tmp 158) .skip (.exit 10))∧D tb c10_117=D tb (.seq c10_118 (Rg L10_120))∧D tb c10_118=D tb (.block 11 (Rg L10_119))∧D tb c10_122=D tb (.seq (Rg L10_123) .ret):=⟨rfl,rfl,rfl,rfl,rfl,rfl,rfl,rfl,rfl,rfl,rfl,rfl,rfl,rfl,rfl,rfl,rfl,rfl,rfl,rfl,rfl,rfl,rfl,rfl,rfl,rfl,rfl,rfl,rfl,rfl,rfl,rfl,rfl,rfl,rfl,rfl,rfl,rfl,rfl,rfl,rfl,rfl,rfl,rfl,rfl,rfl,rfl,rfl,rfl,rfl,rfl,rfl,rfl,rfl,rfl,rfl,rfl,rfl,rfl,rfl,rfl,rfl,rfl,rfl,rfl⟩
def c32_0:=bodyOf Tryz.f32
def run32{args:List V}{st:St}(ha:args.length≤69):=a_1 (T:=tb) (fid:=32) (st:=st) (by rw[a_];exact Tryz.func32) (by rw[a_];rfl) (c:=c32_0) (rs:= #[.tmp 2]) rfl rfl rfl ha
def c32_2:=kid c32_0 1
def c32_4:=kid c32_2 1
def c32_5:=kid c32_4 0
def c32_7:=kid c32_5 1
def c32_8:=kid c32_7 0
def c32_9:=kid c32_8 0
def c32_10:=kid c32_9 0
def c32_12:=kid c32_10 1
def c32_15:=kid c32_9 1
def c32_16:=kid c32_15 0
def c32_17:=kid c32_16 0
def c32_19:=kid c32_17 1
def c32_20:=kid c32_19 0
def c32_22:=kid c32_20 1
def c32_23:=kid c32_22 0
def c32_24:=kid c32_23 0
def c32_25:=kid c32_24 0
def c32_27:=kid c32_25 1
def c32_30:=kid c32_24 1
def c32_31:=kid c32_30 0
def c32_32:=kid c32_31 0
def c32_34:=kid c32_32 1
def c32_36:=kid c32_34 1
def c32_40:=kid c32_19 1
def c32_42:=kid c32_40 1
def c32_44:=kid c32_42 1
def c32_48:=kid c32_4 1
theorem p32_8:D tb c32_8 rd 69 f m st=loopK tb rd c32_8 69 f m st fun e fr st=>some (e,fr,st):=b_2
theorem e32_8:c32_8= .loop c32_9:=rfl
theorem w32_8:writes c32_9=some [8,9,10,11,12,15,16,17,18,19,5,6,20,21,22,23,24,27,28,29,30,31,32,33,34,3,35,36,37,38,39,40,41,42,43,44,45,46,47,48,49,50,51,3,25,26,6,52,53,54,55,56,3,57,58,59,60,61,62,63,64,65,66,67,3,13,14,4]:=by kernel_rfl
theorem p32_23:D tb c32_23 rd 69 f m st=loopK tb rd c32_23 69 f m st fun e fr st=>some (e,fr,st):=b_2
theorem e32_23:c32_23= .loop c32_24:=rfl
theorem w32_23:writes c32_24=some [20,21,22,23,24,27,28,29,30,31,32,33,34,3,35,36,37,38,39,40,41,42,43,44,45,46,47,48,49,50,51,3,25,26,6]:=by kernel_rfl
noncomputable def L32_1:Lt (kid c32_0 0):= .mk _
noncomputable def L32_3:Lt (kid c32_2 0):= .mk _
noncomputable def L32_6:Lt (kid c32_5 0):= .mk _
noncomputable def L32_11:Lt (kid c32_10 0):= .mk _
noncomputable def L32_18:Lt (kid c32_17 0):= .mk _
noncomputable def L32_21:Lt (kid c32_20 0):= .mk _
noncomputable def L32_26:Lt (kid c32_25 0):= .mk _
noncomputable def L32_33:Lt (kid c32_32 0):= .mk _
noncomputable def L32_35:Lt (kid c32_34 0):= .mk _
noncomputable def L32_37:Lt (kid c32_36 0):= .mk _
noncomputable def L32_39:Lt (kid c32_30 1):= .mk _
noncomputable def L32_41:Lt (kid c32_40 0):= .mk _
noncomputable def L32_43:Lt (kid c32_42 0):= .mk _
noncomputable def L32_45:Lt (kid c32_44 0):= .mk _
noncomputable def L32_47:Lt (kid c32_15 1):= .mk _
noncomputable def L32_49:Lt (kid c32_48 0):= .mk _
theorem S32:D tb c32_0=D tb (.seq (Rg L32_1) c32_2)∧D tb c32_2=D tb (.seq (Rg L32_3) c32_4)∧D tb c32_4=D tb (.seq c32_5 c32_48)∧D tb c32_5=D tb (.seq (Rg L32_6) c32_7)∧D tb c32_7=D tb (.block 0 c32_8)∧D tb c32_9=D tb (.seq c32_10 c32_15)∧D tb c32_10=D tb (.seq (Rg L32_11) c32_12)∧D tb c32_12=D tb (.cond (.tmp 12) .skip (.exit 0))∧D tb c32_15=D tb (.seq c32_16 (Rg L32_47))∧D tb c32_16=D tb (.block 1 c32_17)∧D tb c32_17=D tb (.seq (Rg L32_18) c32_19)∧D tb c32_19=D tb (.seq c32_20 c32_40)∧D tb c32_20=D tb (.seq (Rg L32_21) c32_22)∧D tb c32_22=D tb (.block 2 c32_23)∧D tb c32_24=D tb (.seq c32_25 c32_30)∧D tb c32_25=D tb (.seq (Rg L32_26) c32_27)∧D tb c32_27=D tb (.cond (.tmp 24) .skip (.exit 2))∧D tb c32_30=D tb (.seq c32_31 (Rg L32_39))∧D tb c32_31=D tb (.block 3 c32_32)∧D tb c32_32=D tb (.seq (Rg L32_33) c32_34)∧D tb c32_34=D tb (.seq (Rg L32_35) c32_36)∧D tb c32_36=D tb (.cond (.tmp 42) (Rg L32_37) .skip)∧D tb c32_40=D tb (.seq (Rg L32_41) c32_42)∧D tb c32_42=D tb (.seq (Rg L32_43) c32_44)∧D tb c32_44=D tb (.cond (.tmp 61) (Rg L32_45) .skip)∧D tb c32_48=D tb (.seq (Rg L32_49) .ret):=⟨rfl,rfl,rfl,rfl,rfl,rfl,rfl,rfl,rfl,rfl,rfl,rfl,rfl,rfl,rfl,rfl,rfl,rfl,rfl,rfl,rfl,rfl,rfl,rfl,rfl,rfl⟩
def c33_0:=bodyOf Tryz.f33
def run33{args:List V}{st:St}(ha:args.length≤253):=a_1 (T:=tb) (fid:=33) (st:=st) (by rw[a_];exact Tryz.func33) (by rw[a_];rfl) (c:=c33_0) (rs:= #[.tmp 2]) rfl rfl rfl ha
def c33_2:=kid c33_0 1
def c33_4:=kid c33_2 1
def c33_5:=kid c33_4 0
def c33_7:=kid c33_5 1
def c33_8:=kid c33_7 0
def c33_9:=kid c33_8 0
def c33_10:=kid c33_9 0
def c33_12:=kid c33_10 1
def c33_15:=kid c33_9 1
def c33_16:=kid c33_15 0
def c33_17:=kid c33_16 0
noncomputable def o33_19:=opsOf (kid c33_17 1)
def c33_21:=kid c33_4 1
def c33_23:=kid c33_21 1
def c33_24:=kid c33_23 0
def c33_26:=kid c33_24 1
def c33_27:=kid c33_26 0
def c33_28:=kid c33_27 0
def c33_29:=kid c33_28 0
def c33_31:=kid c33_29 1
def c33_34:=kid c33_28 1
def c33_35:=kid c33_34 0
noncomputable def o33_36:=opsOf (kid c33_35 0)
def c33_38:=kid c33_23 1
def c33_40:=kid c33_38 1
def c33_41:=kid c33_40 0
def c33_43:=kid c33_41 1
def c33_44:=kid c33_43 0
def c33_45:=kid c33_44 0
def c33_46:=kid c33_45 0
def c33_48:=kid c33_46 1
def c33_51:=kid c33_45 1
def c33_52:=kid c33_51 0
def c33_53:=kid c33_52 0
def c33_55:=kid c33_53 1
noncomputable def o33_56:=opsOf (kid c33_55 0)
def c33_57:=kid c33_55 1
def c33_59:=kid c33_57 1
def c33_60:=kid c33_59 0
def c33_61:=kid c33_60 0
def c33_62:=kid c33_61 0
def c33_64:=kid c33_62 1
def c33_67:=kid c33_61 1
def c33_68:=kid c33_67 0
def c33_69:=kid c33_68 0
def c33_71:=kid c33_69 1
noncomputable def o33_72:=opsOf (kid c33_71 0)
def c33_73:=kid c33_71 1
def c33_74:=kid c33_73 0
def c33_76:=kid c33_74 1
def c33_77:=kid c33_76 0
def c33_78:=kid c33_77 0
def c33_79:=kid c33_78 0
def c33_81:=kid c33_79 1
def c33_84:=kid c33_78 1
def c33_85:=kid c33_84 0
def c33_86:=kid c33_85 0
noncomputable def o33_88:=opsOf (kid c33_86 1)
def c33_90:=kid c33_73 1
def c33_92:=kid c33_90 1
noncomputable def o33_93:=opsOf (kid c33_92 0)
def c33_94:=kid c33_92 1
def c33_96:=kid c33_94 1
def c33_97:=kid c33_96 0
def c33_98:=kid c33_97 0
def c33_99:=kid c33_98 0
def c33_101:=kid c33_99 1
def c33_104:=kid c33_98 1
def c33_105:=kid c33_104 0
noncomputable def o33_106:=opsOf (kid c33_105 0)
def c33_110:=kid c33_40 1
theorem p33_8:D tb c33_8 rd 253 f m st=loopK tb rd c33_8 253 f m st fun e fr st=>some (e,fr,st):=b_2
theorem e33_8:c33_8= .loop c33_9:=rfl
theorem w33_8:writes c33_9=some [21,22,23,24,25,28,29,30,31,32,5,33,34,35,36,37,38,39,40,41,42,43,44,45,46,47,48,49,3,26,27,4]:=by kernel_rfl
noncomputable def l33_19:{l:List DStep//drawAt o33_19 [(0,0),(1,0),(2,2),(4,0),(5,16),(8,0),(9,256),(12,0),(13,4096),(3,6),(6,62),(7,126),(10,894),(11,2046),(14,14206),(15,32766),(16,65535),(17,131071)]=l}:=by refine⟨?_,?h⟩;case h=>simp only[drawAt,entsAt,o33_19,c33_17,c33_16,c33_15,c33_9,c33_8,c33_7,c33_5,c33_4,c33_2,c33_0,opsOf,kid,bodyOf,Tryz.f33,Option.getD_some,List.map,stepOf,Option.map,List.getElem?_toArray,List.getElem?_cons_succ,List.getElem?_cons_zero,Option.bind_some];rfl
theorem q33_19:D tb (.region 6 o33_19 true) rd 253 f m st=regB (evDraws tb (run tb) l33_19.1 [] (mk 253 f m) st):=q_3 [(0,0),(1,0),(2,2),(4,0),(5,16),(8,0),(9,256),(12,0),(13,4096),(3,6),(6,62),(7,126),(10,894),(11,2046),(14,14206),(15,32766),(16,65535),(17,131071)] (by kernel_rfl) l33_19.2
theorem p33_27:D tb c33_27 rd 253 f m st=loopK tb rd c33_27 253 f m st fun e fr st=>some (e,fr,st):=b_2
theorem e33_27:c33_27= .loop c33_28:=rfl
theorem w33_27:writes c33_28=some [58,59,60,61,62,65,66,67,68,69,70,71,72,73,74,75,76,77,78,79,80,81,3,63,64,6]:=by kernel_rfl
noncomputable def l33_36:{l:List DStep//drawAt o33_36 [(0,0),(1,0),(2,2),(3,0),(4,14),(5,30),(6,62),(8,0),(9,256),(10,0),(11,1792),(12,3840),(13,7936),(7,126),(14,16382),(15,32766),(16,65535),(17,131071)]=l}:=by refine⟨?_,?h⟩;case h=>simp only[drawAt,entsAt,o33_36,c33_35,c33_34,c33_28,c33_27,c33_26,c33_24,c33_23,c33_21,c33_4,c33_2,c33_0,opsOf,kid,bodyOf,Tryz.f33,Option.getD_some,List.map,stepOf,Option.map,List.getElem?_toArray,List.getElem?_cons_succ,List.getElem?_cons_zero,Option.bind_some];rfl
theorem q33_36:D tb (.region 11 o33_36 true) rd 253 f m st=regB (evDraws tb (run tb) l33_36.1 [] (mk 253 f m) st):=q_3 [(0,0),(1,0),(2,2),(3,0),(4,14),(5,30),(6,62),(8,0),(9,256),(10,0),(11,1792),(12,3840),(13,7936),(7,126),(14,16382),(15,32766),(16,65535),(17,131071)] (by kernel_rfl) l33_36.2
theorem p33_44:D tb c33_44 rd 253 f m st=loopK tb rd c33_44 253 f m st fun e fr st=>some (e,fr,st):=b_2
theorem e33_44:c33_44= .loop c33_45:=rfl
theorem w33_44:writes c33_45=some [90,91,92,93,94,97,98,99,100,101,8,102,103,104,105,106,107,108,109,110,111,112,113,114,115,116,117,118,119,120,121,122,123,124,125,3,9,126,127,128,129,130,133,134,135,136,137,10,138,139,140,141,142,143,144,145,146,147,148,149,3,11,150,151,152,153,154,157,158,159,160,161,12,162,163,164,165,166,167,168,169,170,171,172,173,174,175,176,177,178,179,180,181,182,183,184,185,186,187,188,3,155,156,11,189,190,13,191,192,193,194,195,196,197,198,199,200,201,202,203,204,205,206,207,208,209,210,211,212,213,214,215,216,217,218,219,3,14,220,221,222,223,224,227,228,229,230,231,232,233,234,235,236,237,238,239,240,241,242,243,244,245,246,247,248,249,250,251,3,225,226,14,131,132,9,95,96,7]:=by kernel_rfl
noncomputable def l33_56:{l:List DStep//drawAt o33_56 [(0,0),(1,0),(2,2),(4,0),(5,16),(8,0),(9,256),(12,0),(13,4096),(16,0),(17,65536),(18,196608),(19,458752),(3,6),(6,62),(7,126),(10,894),(11,2046),(14,14206),(15,32766),(20,1013630),(21,2097150),(22,4194302),(23,8388607),(24,16777215)]=l}:=by refine⟨?_,?h⟩;case h=>simp only[drawAt,entsAt,o33_56,c33_55,c33_53,c33_52,c33_51,c33_45,c33_44,c33_43,c33_41,c33_40,c33_38,c33_23,c33_21,c33_4,c33_2,c33_0,opsOf,kid,bodyOf,Tryz.f33,Option.getD_some,List.map,stepOf,Option.map,List.getElem?_toArray,List.getElem?_cons_succ,List.getElem?_cons_zero,Option.bind_some];rfl
theorem q33_56:D tb (.region 17 o33_56 true) rd 253 f m st=regB (evDraws tb (run tb) l33_56.1 [] (mk 253 f m) st):=q_3 [(0,0),(1,0),(2,2),(4,0),(5,16),(8,0),(9,256),(12,0),(13,4096),(16,0),(17,65536),(18,196608),(19,458752),(3,6),(6,62),(7,126),(10,894),(11,2046),(14,14206),(15,32766),(20,1013630),(21,2097150),(22,4194302),(23,8388607),(24,16777215)] (by kernel_rfl) l33_56.2
theorem p33_60:D tb c33_60 rd 253 f m st=loopK tb rd c33_60 253 f m st fun e fr st=>some (e,fr,st):=b_2
theorem e33_60:c33_60= .loop c33_61:=rfl
theorem w33_60:writes c33_61=some [126,127,128,129,130,133,134,135,136,137,10,138,139,140,141,142,143,144,145,146,147,148,149,3,11,150,151,152,153,154,157,158,159,160,161,12,162,163,164,165,166,167,168,169,170,171,172,173,174,175,176,177,178,179,180,181,182,183,184,185,186,187,188,3,155,156,11,189,190,13,191,192,193,194,195,196,197,198,199,200,201,202,203,204,205,206,207,208,209,210,211,212,213,214,215,216,217,218,219,3,14,220,221,222,223,224,227,228,229,230,231,232,233,234,235,236,237,238,239,240,241,242,243,244,245,246,247,248,249,250,251,3,225,226,14,131,132,9]:=by kernel_rfl
noncomputable def l33_72:{l:List DStep//drawAt o33_72 [(0,0),(1,0),(2,2),(4,0),(5,16),(6,48),(7,112),(3,6),(8,254),(9,510),(10,1022),(11,2047),(12,4095)]=l}:=by refine⟨?_,?h⟩;case h=>simp only[drawAt,entsAt,o33_72,c33_71,c33_69,c33_68,c33_67,c33_61,c33_60,c33_59,c33_57,c33_55,c33_53,c33_52,c33_51,c33_45,c33_44,c33_43,c33_41,c33_40,c33_38,c33_23,c33_21,c33_4,c33_2,c33_0,opsOf,kid,bodyOf,Tryz.f33,Option.getD_some,List.map,stepOf,Option.map,List.getElem?_toArray,List.getElem?_cons_succ,List.getElem?_cons_zero,Option.bind_some];rfl
theorem q33_72:D tb (.region 22 o33_72 true) rd 253 f m st=regB (evDraws tb (run tb) l33_72.1 [] (mk 253 f m) st):=q_3 [(0,0),(1,0),(2,2),(4,0),(5,16),(6,48),(7,112),(3,6),(8,254),(9,510),(10,1022),(11,2047),(12,4095)] (by kernel_rfl) l33_72.2
theorem p33_77:D tb c33_77 rd 253 f m st=loopK tb rd c33_77 253 f m st fun e fr st=>some (e,fr,st):=b_2
theorem e33_77:c33_77= .loop c33_78:=rfl
theorem w33_77:writes c33_78=some [150,151,152,153,154,157,158,159,160,161,12,162,163,164,165,166,167,168,169,170,171,172,173,174,175,176,177,178,179,180,181,182,183,184,185,186,187,188,3,155,156,11]:=by kernel_rfl
noncomputable def l33_88:{l:List DStep//drawAt o33_88 [(0,0),(1,0),(2,2),(4,0),(5,16),(6,48),(9,0),(10,512),(14,0),(15,16384),(18,0),(19,262144),(22,0),(23,4194304),(3,6),(7,126),(8,254),(11,1790),(12,4094),(13,8190),(16,52990),(17,131070),(20,904958),(21,2097150),(24,14536446),(25,33554430),(26,67108863),(27,134217727)]=l}:=by refine⟨?_,?h⟩;case h=>simp only[drawAt,entsAt,o33_88,c33_86,c33_85,c33_84,c33_78,c33_77,c33_76,c33_74,c33_73,c33_71,c33_69,c33_68,c33_67,c33_61,c33_60,c33_59,c33_57,c33_55,c33_53,c33_52,c33_51,c33_45,c33_44,c33_43,c33_41,c33_40,c33_38,c33_23,c33_21,c33_4,c33_2,c33_0,opsOf,kid,bodyOf,Tryz.f33,Option.getD_some,List.map,stepOf,Option.map,List.getElem?_toArray,List.getElem?_cons_succ,List.getElem?_cons_zero,Option.bind_some];rfl
theorem q33_88:D tb (.region 27 o33_88 true) rd 253 f m st=regB (evDraws tb (run tb) l33_88.1 [] (mk 253 f m) st):=q_3 [(0,0),(1,0),(2,2),(4,0),(5,16),(6,48),(9,0),(10,512),(14,0),(15,16384),(18,0),(19,262144),(22,0),(23,4194304),(3,6),(7,126),(8,254),(11,1790),(12,4094),(13,8190),(16,52990),(17,131070),(20,904958),(21,2097150),(24,14536446),(25,33554430),(26,67108863),(27,134217727)] (by kernel_rfl) l33_88.2
noncomputable def l33_93:{l:List DStep//drawAt o33_93 [(0,0),(1,0),(2,2),(4,0),(5,16),(6,48),(9,0),(10,512),(13,0),(14,8192),(17,0),(18,131072),(21,0),(22,2097152),(23,6291456),(24,14680064),(3,6),(7,126),(8,254),(11,1790),(12,4094),(15,28414),(16,65534),(19,454398),(20,1048574),(25,32435966),(26,67108862),(27,134217726),(28,268435455),(29,536870911)]=l}:=by refine⟨?_,?h⟩;case h=>simp only[drawAt,entsAt,o33_93,c33_92,c33_90,c33_73,c33_71,c33_69,c33_68,c33_67,c33_61,c33_60,c33_59,c33_57,c33_55,c33_53,c33_52,c33_51,c33_45,c33_44,c33_43,c33_41,c33_40,c33_38,c33_23,c33_21,c33_4,c33_2,c33_0,opsOf,kid,bodyOf,Tryz.f33,Option.getD_some,List.map,stepOf,Option.map,List.getElem?_toArray,List.getElem?_cons_succ,List.getElem?_cons_zero,Option.bind_some];rfl
theorem q33_93:D tb (.region 29 o33_93 true) rd 253 f m st=regB (evDraws tb (run tb) l33_93.1 [] (mk 253 f m) st):=q_3 [(0,0),(1,0),(2,2),(4,0),(5,16),(6,48),(9,0),(10,512),(13,0),(14,8192),(17,0),(18,131072),(21,0),(22,2097152),(23,6291456),(24,14680064),(3,6),(7,126),(8,254),(11,1790),(12,4094),(15,28414),(16,65534),(19,454398),(20,1048574),(25,32435966),(26,67108862),(27,134217726),(28,268435455),(29,536870911)] (by kernel_rfl) l33_93.2
theorem p33_97:D tb c33_97 rd 253 f m st=loopK tb rd c33_97 253 f m st fun e fr st=>some (e,fr,st):=b_2
theorem e33_97:c33_97= .loop c33_98:=rfl
theorem w33_97:writes c33_98=some [220,221,222,223,224,227,228,229,230,231,232,233,234,235,236,237,238,239,240,241,242,243,244,245,246,247,248,249,250,251,3,225,226,14]:=by kernel_rfl
noncomputable def l33_106:{l:List DStep//drawAt o33_106 [(0,0),(1,0),(2,2),(3,0),(4,14),(5,30),(6,62),(8,0),(9,256),(10,0),(11,1792),(12,3840),(13,7936),(16,0),(17,65536),(18,0),(19,458752),(20,983040),(21,2031616),(7,126),(14,16382),(15,32766),(22,4161534),(23,8388606),(24,16777215),(25,33554431)]=l}:=by refine⟨?_,?h⟩;case h=>simp only[drawAt,entsAt,o33_106,c33_105,c33_104,c33_98,c33_97,c33_96,c33_94,c33_92,c33_90,c33_73,c33_71,c33_69,c33_68,c33_67,c33_61,c33_60,c33_59,c33_57,c33_55,c33_53,c33_52,c33_51,c33_45,c33_44,c33_43,c33_41,c33_40,c33_38,c33_23,c33_21,c33_4,c33_2,c33_0,opsOf,kid,bodyOf,Tryz.f33,Option.getD_some,List.map,stepOf,Option.map,List.getElem?_toArray,List.getElem?_cons_succ,List.getElem?_cons_zero,Option.bind_some];rfl
theorem q33_106:D tb (.region 33 o33_106 true) rd 253 f m st=regB (evDraws tb (run tb) l33_106.1 [] (mk 253 f m) st):=q_3 [(0,0),(1,0),(2,2),(3,0),(4,14),(5,30),(6,62),(8,0),(9,256),(10,0),(11,1792),(12,3840),(13,7936),(16,0),(17,65536),(18,0),(19,458752),(20,983040),(21,2031616),(7,126),(14,16382),(15,32766),(22,4161534),(23,8388606),(24,16777215),(25,33554431)] (by kernel_rfl) l33_106.2
noncomputable def L33_1:Lt (kid c33_0 0):= .mk _
noncomputable def L33_3:Lt (kid c33_2 0):= .mk _
noncomputable def L33_6:Lt (kid c33_5 0):= .mk _
noncomputable def L33_11:Lt (kid c33_10 0):= .mk _
noncomputable def L33_18:Lt (kid c33_17 0):= .mk _
noncomputable def L33_20:Lt (kid c33_15 1):= .mk _
noncomputable def L33_22:Lt (kid c33_21 0):= .mk _
noncomputable def L33_25:Lt (kid c33_24 0):= .mk _
noncomputable def L33_30:Lt (kid c33_29 0):= .mk _
noncomputable def L33_37:Lt (kid c33_34 1):= .mk _
noncomputable def L33_39:Lt (kid c33_38 0):= .mk _
noncomputable def L33_42:Lt (kid c33_41 0):= .mk _
noncomputable def L33_47:Lt (kid c33_46 0):= .mk _
noncomputable def L33_54:Lt (kid c33_53 0):= .mk _
noncomputable def L33_58:Lt (kid c33_57 0):= .mk _
noncomputable def L33_63:Lt (kid c33_62 0):= .mk _
noncomputable def L33_70:Lt (kid c33_69 0):= .mk _
noncomputable def L33_75:Lt (kid c33_74 0):= .mk _
noncomputable def L33_80:Lt (kid c33_79 0):= .mk _
noncomputable def L33_87:Lt (kid c33_86 0):= .mk _
noncomputable def L33_89:Lt (kid c33_84 1):= .mk _
noncomputable def L33_91:Lt (kid c33_90 0):= .mk _
noncomputable def L33_95:Lt (kid c33_94 0):= .mk _
noncomputable def L33_100:Lt (kid c33_99 0):= .mk _
noncomputable def L33_107:Lt (kid c33_104 1):= .mk _
noncomputable def L33_108:Lt (kid c33_67 1):= .mk _
noncomputable def L33_109:Lt (kid c33_51 1):= .mk _
noncomputable def L33_111:Lt (kid c33_110 0):= .mk _
theorem S33:D tb c33_0=D tb (.seq (Rg L33_1) c33_2)∧D tb c33_2=D tb (.seq (Rg L33_3) c33_4)∧D tb c33_4=D tb (.seq c33_5 c33_21)∧D tb c33_5=D tb (.seq (Rg L33_6) c33_7)∧D tb c33_7=D tb (.block 0 c33_8)∧D tb c33_9=D tb (.seq c33_10 c33_15)∧D tb c33_10=D tb (.seq (Rg L33_11) c33_12)∧D tb c33_12=D tb (.cond (.tmp 25) .skip (.exit 0))∧D tb c33_15=D tb (.seq c33_16 (Rg L33_20))∧D tb c33_16=D tb (.block 1 c33_17)∧D tb c33_17=D tb (.seq (Rg L33_18) (.region 6 o33_19 true))∧D tb c33_21=D tb (.seq (Rg L33_22) c33_23)∧D tb c33_23=D tb (.seq c33_24 c33_38)∧D tb c33_24=D tb (.seq (Rg L33_25) c33_26)∧D tb c33_26=D tb (.block 2 c33_27)∧D tb c33_28=D tb (.seq c33_29 c33_34)∧D tb c33_29=D tb (.seq (Rg L33_30) c33_31)∧D tb c33_31=D tb (.cond (.tmp 62) .skip (.exit 2))∧D tb c33_34=D tb (.seq c33_35 (Rg L33_37))∧D tb c33_35=D tb (.block 3 (.region 11 o33_36 true))∧D tb c33_38=D tb (.seq (Rg L33_39) c33_40)∧D tb c33_40=D tb (.seq c33_41 c33_110)∧D tb c33_41=D tb (.seq (Rg L33_42) c33_43)∧D tb c33_43=D tb (.block 4 c33_44)∧D tb c33_45=D tb (.seq c33_46 c33_51)∧D tb c33_46=D tb (.seq (Rg L33_47) c33_48)∧D tb c33_48=D tb (.cond (.tmp 94) .skip (.exit 4))∧D tb c33_51=D tb (.seq c33_52 (Rg L33_109))∧D tb c33_52=D tb (.block 5 c33_53)∧D tb c33_53=D tb (.seq (Rg L33_54) c33_55)∧D tb c33_55=D tb (.seq (.region 17 o33_56 true) c33_57)∧D tb c33_57=D tb (.seq (Rg L33_58) c33_59)∧D tb c33_59=D tb (.block 6 c33_60)∧D tb c33_61=D tb (.seq c33_62 c33_67)∧D tb c33_62=D tb (.seq (Rg L33_63) c33_64)∧D tb c33_64=D tb (.cond (.tmp 130) .skip (.exit 6))∧D tb c33_67=D tb (.seq c33_68 (Rg L33_108))∧D tb c33_68=D tb (.block 7 c33_69)∧D tb c33_69=D tb (.seq (Rg L33_70) c33_71)∧D tb c33_71=D tb (.seq (.region 22 o33_72 true) c33_73)∧D tb c33_73=D tb (.seq c33_74 c33_90)∧D tb c33_74=D tb (.seq (Rg L33_75) c33_76)∧D tb c33_76=D tb (.block 8 c33_77)∧D tb c33_78=D tb (.seq c33_79 c33_84)∧D tb c33_79=D tb (.seq (Rg L33_80) c33_81)∧D tb c33_81=D tb (.cond (.tmp 154) .skip (.exit 8))∧D tb c33_84=D tb (.seq c33_85 (Rg L33_89))∧D tb c33_85=D tb (.block 9 c33_86)∧D tb c33_86=D tb (.seq (Rg L33_87) (.region 27 o33_88 true))∧D tb c33_90=D tb (.seq (Rg L33_91) c33_92)∧D tb c33_92=D tb (.seq (.region 29 o33_93 true) c33_94)∧D tb c33_94=D tb (.seq (Rg L33_95) c33_96)∧D tb c33_96=D tb (.block 10 c33_97)∧D tb c33_98=D tb (.seq c33_99 c33_104)∧D tb c33_99=D tb (.seq (Rg L33_100) c33_101)∧D tb c33_101=D tb (.cond (.tmp 224) .skip (.exit 10))∧D tb c33_104=D tb (.seq c33_105 (Rg L33_107))∧D tb c33_105=D tb (.block 11 (.region 33 o33_106 true))∧D tb c33_110=D tb (.seq (Rg L33_111) .ret):=⟨rfl,rfl,rfl,rfl,rfl,rfl,rfl,rfl,rfl,rfl,rfl,rfl,rfl,rfl,rfl,rfl,rfl,rfl,rfl,rfl,rfl,rfl,rfl,rfl,rfl,rfl,rfl,rfl,rfl,rfl,rfl,rfl,rfl,rfl,rfl,rfl,rfl,rfl,rfl,rfl,rfl,rfl,rfl,rfl,rfl,rfl,rfl,rfl,rfl,rfl,rfl,rfl,rfl,rfl,rfl,rfl,rfl,rfl,rfl⟩
def c41_0:=bodyOf Tryz.f41
def c41_2:=kid c41_0 1
def c41_10:=kid c41_2 1
def c41_11:=kid c41_10 0
def c41_13:=kid c41_11 1
def c41_14:=kid c41_13 0
def c41_15:=kid c41_14 0
def c41_33:=kid c41_10 1
def c41_34:=kid c41_33 0
def c41_36:=kid c41_34 1
def c41_37:=kid c41_36 0
def c41_38:=kid c41_37 0
def c41_56:=kid c41_33 1
def c41_57:=kid c41_56 0
def c41_59:=kid c41_57 1
def c41_60:=kid c41_59 0
def c41_61:=kid c41_60 0
theorem e41_14:c41_14= .loop c41_15:=rfl
theorem e41_37:c41_37= .loop c41_38:=rfl
theorem e41_60:c41_60= .loop c41_61:=rfl
def c42_0:=bodyOf Tryz.f42
def c42_2:=kid c42_0 1
def c42_3:=kid c42_2 0
def c42_5:=kid c42_3 1
def c42_6:=kid c42_5 0
def c42_7:=kid c42_6 0
theorem e42_6:c42_6= .loop c42_7:=rfl
def c50_0:=bodyOf Tryz.f50
def c50_2:=kid c50_0 1
def c50_4:=kid c50_2 1
def c50_28:=kid c50_4 1
def c50_30:=kid c50_28 1
def c50_31:=kid c50_30 0
def c50_33:=kid c50_31 1
def c50_34:=kid c50_33 0
def c50_35:=kid c50_34 0
theorem e50_34:c50_34= .loop c50_35:=rfl
def c77_0:=bodyOf Tryz.f77
def run77{args:List V}{st:St}(ha:args.length≤17):=a_1 (T:=tb) (fid:=77) (st:=st) (by rw[a_];exact Tryz.func77) (by rw[a_];rfl) (c:=c77_0) (rs:= #[.tmp 2]) rfl rfl rfl ha
def c77_2:=kid c77_0 1
def c77_4:=kid c77_2 1
def c77_5:=kid c77_4 0
def c77_6:=kid c77_5 0
def c77_7:=kid c77_6 0
def c77_9:=kid c77_7 1
def c77_11:=kid c77_9 1
def c77_13:=kid c77_11 1
def c77_14:=kid c77_13 0
theorem p77_5:D tb c77_5 rd 17 f m st=loopK tb rd c77_5 17 f m st fun e fr st=>some (e,fr,st):=b_2
theorem e77_5:c77_5= .loop c77_6:=rfl
theorem w77_5:writes c77_6=some [4,5,6,7,8,9,10,11,3,12,13,0,14,15,16,2]:=by kernel_rfl
noncomputable def L77_1:Lt (kid c77_0 0):= .mk _
noncomputable def L77_3:Lt (kid c77_2 0):= .mk _
noncomputable def L77_8:Lt (kid c77_7 0):= .mk _
noncomputable def L77_10:Lt (kid c77_9 0):= .mk _
noncomputable def L77_12:Lt (kid c77_11 0):= .mk _
noncomputable def L77_15:Lt (kid c77_14 0):= .mk _
theorem S77:D tb c77_0=D tb (.seq (Rg L77_1) c77_2)∧D tb c77_2=D tb (.seq (Rg L77_3) c77_4)∧D tb c77_4=D tb (.block 0 c77_5)∧D tb c77_6=D tb (.block 1 c77_7)∧D tb c77_7=D tb (.seq (Rg L77_8) c77_9)∧D tb c77_9=D tb (.seq (Rg L77_10) c77_11)∧D tb c77_11=D tb (.seq (Rg L77_12) c77_13)∧D tb c77_13=D tb (.cond (.tmp 15) c77_14 .skip)∧D tb c77_14=D tb (.seq (Rg L77_15) .ret):=⟨rfl,rfl,rfl,rfl,rfl,rfl,rfl,rfl,rfl⟩
def c78_0:=bodyOf Tryz.f78
def run78{args:List V}{st:St}(ha:args.length≤10):=a_1 (T:=tb) (fid:=78) (st:=st) (by rw[a_];exact Tryz.func78) (by rw[a_];rfl) (c:=c78_0) (rs:= #[.tmp 2]) rfl rfl rfl ha
def c78_2:=kid c78_0 1
noncomputable def L78_1:Lt (kid c78_0 0):= .mk _
noncomputable def L78_3:Lt (kid c78_2 0):= .mk _
theorem S78:D tb c78_0=D tb (.seq (Rg L78_1) c78_2)∧D tb c78_2=D tb (.seq (Rg L78_3) .ret):=⟨rfl,rfl⟩
def c79_0:=bodyOf Tryz.f79
def run79{args:List V}{st:St}(ha:args.length≤4):=a_1 (T:=tb) (fid:=79) (st:=st) (by rw[a_];exact Tryz.func79) (by rw[a_];rfl) (c:=c79_0) (rs:= #[.tmp 2]) rfl rfl rfl ha
def c79_2:=kid c79_0 1
def c79_3:=kid c79_2 0
def c79_5:=kid c79_3 1
def c79_6:=kid c79_5 0
def c79_10:=kid c79_2 1
noncomputable def L79_1:Lt (kid c79_0 0):= .mk _
noncomputable def L79_4:Lt (kid c79_3 0):= .mk _
noncomputable def L79_7:Lt (kid c79_6 0):= .mk _
noncomputable def L79_11:Lt (kid c79_10 0):= .mk _
theorem S79:D tb c79_0=D tb (.seq (Rg L79_1) c79_2)∧D tb c79_2=D tb (.seq c79_3 c79_10)∧D tb c79_3=D tb (.seq (Rg L79_4) c79_5)∧D tb c79_5=D tb (.cond (.tmp 3) c79_6 .skip)∧D tb c79_6=D tb (.seq (Rg L79_7) .ret)∧D tb c79_10=D tb (.seq (Rg L79_11) .ret):=⟨rfl,rfl,rfl,rfl,rfl,rfl⟩
def c80_0:=bodyOf Tryz.f80
def run80{args:List V}{st:St}(ha:args.length≤32):=a_1 (T:=tb) (fid:=80) (st:=st) (by rw[a_];exact Tryz.func80) (by rw[a_];rfl) (c:=c80_0) (rs:= #[.tmp 2]) rfl rfl rfl ha
def c80_2:=kid c80_0 1
def c80_4:=kid c80_2 1
def c80_5:=kid c80_4 0
def c80_7:=kid c80_5 1
def c80_8:=kid c80_7 0
def c80_9:=kid c80_8 0
def c80_10:=kid c80_9 0
def c80_12:=kid c80_10 1
def c80_15:=kid c80_9 1
def c80_16:=kid c80_15 0
noncomputable def o80_17:=opsOf (kid c80_16 0)
def c80_19:=kid c80_4 1
theorem p80_8:D tb c80_8 rd 32 f m st=loopK tb rd c80_8 32 f m st fun e fr st=>some (e,fr,st):=b_2
theorem e80_8:c80_8= .loop c80_9:=rfl
theorem w80_8:writes c80_9=some [10,11,12,13,16,17,18,19,20,21,22,23,24,25,26,27,28,29,30,3,14,15,4]:=by kernel_rfl
noncomputable def l80_17:{l:List DStep//drawAt o80_17 [(0,0),(1,0),(2,0),(3,6),(4,14),(5,30),(7,0),(8,0),(9,384),(10,896),(11,1920),(6,62),(12,4094),(13,8190),(14,16383),(15,32767)]=l}:=by refine⟨?_,?h⟩;case h=>simp only[drawAt,entsAt,o80_17,c80_16,c80_15,c80_9,c80_8,c80_7,c80_5,c80_4,c80_2,c80_0,opsOf,kid,bodyOf,Tryz.f80,Option.getD_some,List.map,stepOf,Option.map,List.getElem?_toArray,List.getElem?_cons_succ,List.getElem?_cons_zero,Option.bind_some];rfl
theorem q80_17:D tb (.region 5 o80_17 true) rd 32 f m st=regB (evDraws tb (run tb) l80_17.1 [] (mk 32 f m) st):=q_3 [(0,0),(1,0),(2,0),(3,6),(4,14),(5,30),(7,0),(8,0),(9,384),(10,896),(11,1920),(6,62),(12,4094),(13,8190),(14,16383),(15,32767)] (by kernel_rfl) l80_17.2
noncomputable def L80_1:Lt (kid c80_0 0):= .mk _
noncomputable def L80_3:Lt (kid c80_2 0):= .mk _
noncomputable def L80_6:Lt (kid c80_5 0):= .mk _
noncomputable def L80_11:Lt (kid c80_10 0):= .mk _
noncomputable def L80_18:Lt (kid c80_15 1):= .mk _
noncomputable def L80_20:Lt (kid c80_19 0):= .mk _
theorem S80:D tb c80_0=D tb (.seq (Rg L80_1) c80_2)∧D tb c80_2=D tb (.seq (Rg L80_3) c80_4)∧D tb c80_4=D tb (.seq c80_5 c80_19)∧D tb c80_5=D tb (.seq (Rg L80_6) c80_7)∧D tb c80_7=D tb (.block 0 c80_8)∧D tb c80_9=D tb (.seq c80_10 c80_15)∧D tb c80_10=D tb (.seq (Rg L80_11) c80_12)∧D tb c80_12=D tb (.cond (.tmp 13) .skip (.exit 0))∧D tb c80_15=D tb (.seq c80_16 (Rg L80_18))∧D tb c80_16=D tb (.block 1 (.region 5 o80_17 true))∧D tb c80_19=D tb (.seq (Rg L80_20) .ret):=⟨rfl,rfl,rfl,rfl,rfl,rfl,rfl,rfl,rfl,rfl,rfl⟩
def c81_0:=bodyOf Tryz.f81
def run81{args:List V}{st:St}(ha:args.length≤15):=a_1 (T:=tb) (fid:=81) (st:=st) (by rw[a_];exact Tryz.func81) (by rw[a_];rfl) (c:=c81_0) (rs:= #[.tmp 2]) rfl rfl rfl ha
def c81_2:=kid c81_0 1
def c81_3:=kid c81_2 0
def c81_5:=kid c81_3 1
def c81_6:=kid c81_5 0
def c81_10:=kid c81_2 1
noncomputable def L81_1:Lt (kid c81_0 0):= .mk _
noncomputable def L81_4:Lt (kid c81_3 0):= .mk _
noncomputable def L81_7:Lt (kid c81_6 0):= .mk _
noncomputable def L81_11:Lt (kid c81_10 0):= .mk _
theorem S81:D tb c81_0=D tb (.seq (Rg L81_1) c81_2)∧D tb c81_2=D tb (.seq c81_3 c81_10)∧D tb c81_3=D tb (.seq (Rg L81_4) c81_5)∧D tb c81_5=D tb (.cond (.tmp 4) c81_6 .skip)∧D tb c81_6=D tb (.seq (Rg L81_7) .ret)∧D tb c81_10=D tb (.seq (Rg L81_11) .ret):=⟨rfl,rfl,rfl,rfl,rfl,rfl⟩
def c82_0:=bodyOf Tryz.f82
def run82{args:List V}{st:St}(ha:args.length≤32):=a_1 (T:=tb) (fid:=82) (st:=st) (by rw[a_];exact Tryz.func82) (by rw[a_];rfl) (c:=c82_0) (rs:= #[.tmp 2]) rfl rfl rfl ha
def c82_2:=kid c82_0 1
def c82_4:=kid c82_2 1
def c82_5:=kid c82_4 0
def c82_7:=kid c82_5 1
def c82_8:=kid c82_7 0
def c82_9:=kid c82_8 0
def c82_10:=kid c82_9 0
def c82_12:=kid c82_10 1
def c82_15:=kid c82_9 1
def c82_16:=kid c82_15 0
noncomputable def o82_17:=opsOf (kid c82_16 0)
def c82_19:=kid c82_4 1
theorem p82_8:D tb c82_8 rd 32 f m st=loopK tb rd c82_8 32 f m st fun e fr st=>some (e,fr,st):=b_2
theorem e82_8:c82_8= .loop c82_9:=rfl
theorem w82_8:writes c82_9=some [10,11,12,13,16,17,18,19,20,21,22,23,24,25,26,27,28,29,30,3,14,15,4]:=by kernel_rfl
noncomputable def l82_17:{l:List DStep//drawAt o82_17 [(0,0),(1,0),(2,0),(3,6),(4,14),(5,30),(7,0),(8,0),(9,384),(10,896),(11,1920),(6,62),(12,4094),(13,8190),(14,16383),(15,32767)]=l}:=by refine⟨?_,?h⟩;case h=>simp only[drawAt,entsAt,o82_17,c82_16,c82_15,c82_9,c82_8,c82_7,c82_5,c82_4,c82_2,c82_0,opsOf,kid,bodyOf,Tryz.f82,Option.getD_some,List.map,stepOf,Option.map,List.getElem?_toArray,List.getElem?_cons_succ,List.getElem?_cons_zero,Option.bind_some];rfl
theorem q82_17:D tb (.region 5 o82_17 true) rd 32 f m st=regB (evDraws tb (run tb) l82_17.1 [] (mk 32 f m) st):=q_3 [(0,0),(1,0),(2,0),(3,6),(4,14),(5,30),(7,0),(8,0),(9,384),(10,896),(11,1920),(6,62),(12,4094),(13,8190),(14,16383),(15,32767)] (by kernel_rfl) l82_17.2
noncomputable def L82_1:Lt (kid c82_0 0):= .mk _
noncomputable def L82_3:Lt (kid c82_2 0):= .mk _
noncomputable def L82_6:Lt (kid c82_5 0):= .mk _
noncomputable def L82_11:Lt (kid c82_10 0):= .mk _
noncomputable def L82_18:Lt (kid c82_15 1):= .mk _
noncomputable def L82_20:Lt (kid c82_19 0):= .mk _
theorem S82:D tb c82_0=D tb (.seq (Rg L82_1) c82_2)∧D tb c82_2=D tb (.seq (Rg L82_3) c82_4)∧D tb c82_4=D tb (.seq c82_5 c82_19)∧D tb c82_5=D tb (.seq (Rg L82_6) c82_7)∧D tb c82_7=D tb (.block 0 c82_8)∧D tb c82_9=D tb (.seq c82_10 c82_15)∧D tb c82_10=D tb (.seq (Rg L82_11) c82_12)∧D tb c82_12=D tb (.cond (.tmp 13) .skip (.exit 0))∧D tb c82_15=D tb (.seq c82_16 (Rg L82_18))∧D tb c82_16=D tb (.block 1 (.region 5 o82_17 true))∧D tb c82_19=D tb (.seq (Rg L82_20) .ret):=⟨rfl,rfl,rfl,rfl,rfl,rfl,rfl,rfl,rfl,rfl,rfl⟩
def c83_0:=bodyOf Tryz.f83
def run83{args:List V}{st:St}(ha:args.length≤24):=a_1 (T:=tb) (fid:=83) (st:=st) (by rw[a_];exact Tryz.func83) (by rw[a_];rfl) (c:=c83_0) (rs:= #[.tmp 2]) rfl rfl rfl ha
def c83_2:=kid c83_0 1
def c83_4:=kid c83_2 1
def c83_5:=kid c83_4 0
def c83_7:=kid c83_5 1
def c83_8:=kid c83_7 0
def c83_9:=kid c83_8 0
def c83_10:=kid c83_9 0
def c83_12:=kid c83_10 1
def c83_15:=kid c83_9 1
def c83_16:=kid c83_15 0
def c83_19:=kid c83_4 1
theorem p83_8:D tb c83_8 rd 24 f m st=loopK tb rd c83_8 24 f m st fun e fr st=>some (e,fr,st):=b_2
theorem e83_8:c83_8= .loop c83_9:=rfl
theorem w83_8:writes c83_9=some [10,11,12,13,16,17,18,19,20,21,22,3,14,15,4]:=by kernel_rfl
noncomputable def L83_1:Lt (kid c83_0 0):= .mk _
noncomputable def L83_3:Lt (kid c83_2 0):= .mk _
noncomputable def L83_6:Lt (kid c83_5 0):= .mk _
noncomputable def L83_11:Lt (kid c83_10 0):= .mk _
noncomputable def L83_17:Lt (kid c83_16 0):= .mk _
noncomputable def L83_18:Lt (kid c83_15 1):= .mk _
noncomputable def L83_20:Lt (kid c83_19 0):= .mk _
theorem S83:D tb c83_0=D tb (.seq (Rg L83_1) c83_2)∧D tb c83_2=D tb (.seq (Rg L83_3) c83_4)∧D tb c83_4=D tb (.seq c83_5 c83_19)∧D tb c83_5=D tb (.seq (Rg L83_6) c83_7)∧D tb c83_7=D tb (.block 0 c83_8)∧D tb c83_9=D tb (.seq c83_10 c83_15)∧D tb c83_10=D tb (.seq (Rg L83_11) c83_12)∧D tb c83_12=D tb (.cond (.tmp 13) .skip (.exit 0))∧D tb c83_15=D tb (.seq c83_16 (Rg L83_18))∧D tb c83_16=D tb (.block 1 (Rg L83_17))∧D tb c83_19=D tb (.seq (Rg L83_20) .ret):=⟨rfl,rfl,rfl,rfl,rfl,rfl,rfl,rfl,rfl,rfl,rfl⟩
def c107_0:=bodyOf Tryz.f107
def c107_2:=kid c107_0 1
def c107_3:=kid c107_2 0
def c107_5:=kid c107_3 1
def c107_6:=kid c107_5 0
def c107_7:=kid c107_6 0
theorem e107_6:c107_6= .loop c107_7:=rfl
def c108_0:=bodyOf Tryz.f108
def c108_2:=kid c108_0 1
def c108_4:=kid c108_2 1
def c108_12:=kid c108_4 1
def c108_20:=kid c108_12 1
def c108_21:=kid c108_20 0
def c108_23:=kid c108_21 1
def c108_24:=kid c108_23 0
def c108_25:=kid c108_24 0
def c108_31:=kid c108_25 1
def c108_32:=kid c108_31 0
def c108_33:=kid c108_32 0
def c108_35:=kid c108_33 1
def c108_43:=kid c108_35 1
def c108_45:=kid c108_43 1
def c108_46:=kid c108_45 0
def c108_47:=kid c108_46 0
theorem e108_24:c108_24= .loop c108_25:=rfl
theorem e108_46:c108_46= .loop c108_47:=rfl
def c149_0:=bodyOf Tryz.f149
def c149_2:=kid c149_0 1
def c149_10:=kid c149_2 1
def c149_11:=kid c149_10 0
def c149_12:=kid c149_11 0
def c149_13:=kid c149_12 0
theorem e149_12:c149_12= .loop c149_13:=rfl
def c176_0:=bodyOf Tryz.f176
def c176_2:=kid c176_0 1
def c176_3:=kid c176_2 0
def c176_5:=kid c176_3 1
def c176_6:=kid c176_5 0
def c176_7:=kid c176_6 0
theorem e176_6:c176_6= .loop c176_7:=rfl
def c178_0:=bodyOf Tryz.f178
def c178_2:=kid c178_0 1
def c178_4:=kid c178_2 1
def c178_6:=kid c178_4 1
def c178_14:=kid c178_6 1
def c178_16:=kid c178_14 1
def c178_18:=kid c178_16 1
def c178_24:=kid c178_18 1
def c178_32:=kid c178_24 1
def c178_40:=kid c178_32 1
def c178_41:=kid c178_40 0
def c178_43:=kid c178_41 1
def c178_44:=kid c178_43 0
def c178_45:=kid c178_44 0
def c178_61:=kid c178_40 1
def c178_62:=kid c178_61 0
def c178_64:=kid c178_62 1
def c178_65:=kid c178_64 0
def c178_66:=kid c178_65 0
theorem e178_44:c178_44= .loop c178_45:=rfl
theorem e178_65:c178_65= .loop c178_66:=rfl
def c236_0:=bodyOf Tryz.f236
def c236_2:=kid c236_0 1
def c236_3:=kid c236_2 0
def c236_5:=kid c236_3 1
def c236_6:=kid c236_5 0
def c236_7:=kid c236_6 0
theorem e236_6:c236_6= .loop c236_7:=rfl
def c238_0:=bodyOf Tryz.f238
def c238_2:=kid c238_0 1
def c238_3:=kid c238_2 0
def c238_5:=kid c238_3 1
def c238_6:=kid c238_5 0
def c238_7:=kid c238_6 0
theorem e238_6:c238_6= .loop c238_7:=rfl
def c240_0:=bodyOf Tryz.f240
def c240_2:=kid c240_0 1
def c240_3:=kid c240_2 0
def c240_5:=kid c240_3 1
def c240_6:=kid c240_5 0
def c240_7:=kid c240_6 0
theorem e240_6:c240_6= .loop c240_7:=rfl
end
end Go.Proofs.YtbbeelalcamgjaaGreatDoor
namespace Go.Proofs.YtbbeelalcamgjaaGreatDoor
open Go.Abs
structure Stmt where
 at_:Int
 kind:Int
 to:Place
 n:Int
 name:Str
 variant:Str
 nl:Option Bool
 args:List Place
def Stmt.v(x:Stmt):V:= .agg [.int .i64 x.at_, .int .i64 x.kind, .str x.to.loc, .list false x.to.nl (x.to.steps.map .str), .int .i64 x.n, .str x.name, .str x.variant, .list false x.nl (x.args.map Place.v)]
structure Arm where
 variant:Str
 loc:Str
 block:Str
def Arm.v(x:Arm):V:= .agg [.str x.variant, .str x.loc, .str x.block]
structure Term where
 at_:Int
 kind:Int
 to:Place
 name:Str
 n1:Option Bool
 args:List Place
 n2:Option Bool
 blocks:List Str
 n3:Option Bool
 arms:List Arm
def Term.cs(x:Term):List V:=[.int .i64 x.at_, .int .i64 x.kind, .str x.to.loc, .list false x.to.nl (x.to.steps.map .str), .str x.name, .list false x.n1 (x.args.map Place.v), .list false x.n2 (x.blocks.map .str), .list false x.n3 (x.arms.map Arm.v)]
def Term.v(x:Term):V:= .agg [.int .i64 x.at_, .int .i64 x.kind, .str x.to.loc, .list false x.to.nl (x.to.steps.map .str), .str x.name, .list false x.n1 (x.args.map Place.v), .list false x.n2 (x.blocks.map .str), .list false x.n3 (x.arms.map Arm.v)]
structure Block where
 at_:Int
 name:Str
 nl:Option Bool
 stmts:List Stmt
 term:Term
def Block.v(x:Block):V:= .agg [.int .i64 x.at_, .str x.name, .list false x.nl (x.stmts.map Stmt.v), .int .i64 x.term.at_, .int .i64 x.term.kind, .str x.term.to.loc, .list false x.term.to.nl (x.term.to.steps.map .str), .str x.term.name, .list false x.term.n1 (x.term.args.map Place.v), .list false x.term.n2 (x.term.blocks.map .str), .list false x.term.n3 (x.term.arms.map Arm.v)]
structure Fun where
 at_:Int
 name:Str
 n1:Option Bool
 params:List Var
 n2:Option Bool
 locals:List Var
 result:Str
 n3:Option Bool
 blocks:List Block
def Fun.v(x:Fun):V:= .agg [.int .i64 x.at_, .str x.name, .list false x.n1 (x.params.map Var.v), .list false x.n2 (x.locals.map Var.v), .str x.result, .list false x.n3 (x.blocks.map Block.v)]
structure Struct where
 at_:Int
 name:Str
 safe:Bool
 hook:Bool
 nl:Option Bool
 fields:List Var
def Struct.v(x:Struct):V:= .agg [.int .i64 x.at_, .str x.name, .bool x.safe, .bool x.hook, .list false x.nl (x.fields.map Var.v)]
structure Enum where
 at_:Int
 name:Str
 nl:Option Bool
 variants:List Var
def Enum.v(x:Enum):V:= .agg [.int .i64 x.at_, .str x.name, .list false x.nl (x.variants.map Var.v)]
structure Prog where
 n1:Option Bool
 structs:List Struct
 n2:Option Bool
 enums:List Enum
 n3:Option Bool
 funcs:List Fun
def Prog.v(x:Prog):V:= .agg [.list false x.n1 (x.structs.map Struct.v), .list false x.n2 (x.enums.map Enum.v), .list false x.n3 (x.funcs.map Fun.v)]
section
variable {k l:Nat}
theorem al_7(x:Var):below k (l+2) x.v=true:=by simp[Var.v,q_2,n_4]
theorem T_4(x:Place):below k (l+3) x.v=true:=by simp[Place.v,q_2,n_4,k_8]
theorem ag_4(x:Stmt):below k (l+5) x.v=true:=by simp[Stmt.v,q_2,n_4,k_8,v_,T_4]
theorem aS_(x:Arm):below k (l+2) x.v=true:=by simp[Arm.v,q_2,n_4]
theorem U_8(x:Block):below k (l+7) x.v=true:=by simp[Block.v,q_2,n_4,k_8,v_,T_4,aS_,ag_4]
theorem aO_0(x:Fun):below k (l+9) x.v=true:=by simp[Fun.v,q_2,n_4,k_8,v_,al_7,U_8]
theorem W_6(x:Struct):below k (l+4) x.v=true:=by simp[Struct.v,q_2,n_4,k_8,v_,r_1,al_7]
theorem au_6(x:Enum):below k (l+4) x.v=true:=by simp[Enum.v,q_2,n_4,k_8,v_,al_7]
theorem d_5(xs:List Var):xs.all (below k (l+2)∘Var.v)=true:=by simp[al_7]
theorem b_3(xs:List Place):xs.all (below k (l+3)∘Place.v)=true:=by simp[T_4]
theorem z_1(xs:List Stmt):xs.all (below k (l+5)∘Stmt.v)=true:=by simp[ag_4]
theorem p_5(xs:List Arm):xs.all (below k (l+2)∘Arm.v)=true:=by simp[aS_]
theorem q_5(xs:List Block):xs.all (below k (l+7)∘Block.v)=true:=by simp[U_8]
theorem l_7(xs:List Fun):xs.all (below k (l+9)∘Fun.v)=true:=by simp[aO_0]
theorem c_5(xs:List Struct):xs.all (below k (l+4)∘Struct.v)=true:=by simp[W_6]
theorem g_9(xs:List Enum):xs.all (below k (l+4)∘Enum.v)=true:=by simp[au_6]
end
theorem x_9{α:Type}{g:α→V}:∀{xs:List α} {x:α},x∈xs→(g x).bulk≤V.bulks (xs.map g)
 |y::ys,x,h=>by
  simp only[List.map_cons,V.bulks]
  rcases List.mem_cons.1 h with rfl|h
  ·omega
  ·have:=x_9 (g:=g) h;omega
theorem y_0{α:Type}{g:α→V}(hg:∀x,1≤(g x).bulk):∀xs:List α,xs.length≤V.bulks (xs.map g)
 |[]=>Nat.zero_le _
 |y::ys=>by
  have:=y_0 hg ys
  have:=hg y
  simp only[List.map_cons,V.bulks,List.length_cons];omega
theorem U_9(s:Str):(V.str s).bulk=s.length+1:=rfl
def Var.size(x:Var):Nat:=x.v.bulk
theorem T_1(x:Var):x.v.bulk=x.name.length+x.type.length+2:=by simp[Var.v,V.bulk,V.bulks];omega
def Place.size(x:Place):Nat:=x.v.bulk
theorem Q_8(x:Place):x.v.bulk=x.loc.length+1+(V.bulks (x.steps.map V.str)+1):=by simp[Place.v,V.bulk,V.bulks]
def Stmt.size(x:Stmt):Nat:=x.v.bulk
theorem Y_9(x:Stmt):x.v.bulk=x.to.v.bulk+x.name.length+x.variant.length+V.bulks (x.args.map Place.v)+6:=by simp[Stmt.v,Place.v,V.bulk,V.bulks];omega
def Arm.size(x:Arm):Nat:=x.v.bulk
theorem ai_0(x:Arm):x.v.bulk=x.variant.length+x.loc.length+x.block.length+3:=by simp[Arm.v,V.bulk,V.bulks];omega
def Term.size(x:Term):Nat:=x.v.bulk
theorem Z_6(x:Term):x.v.bulk=x.to.v.bulk+x.name.length+V.bulks (x.args.map Place.v)+V.bulks (x.blocks.map V.str)+V.bulks (x.arms.map Arm.v)+6:=by simp[Term.v,Place.v,V.bulk,V.bulks];omega
def Block.size(x:Block):Nat:=x.v.bulk
theorem Q_6(x:Block):x.v.bulk=x.name.length+V.bulks (x.stmts.map Stmt.v)+x.term.v.bulk+3:=by simp[Block.v,Term.v,V.bulk,V.bulks];omega
def Fun.size(x:Fun):Nat:=x.v.bulk
theorem af_5(x:Fun):x.v.bulk=x.name.length+V.bulks (x.params.map Var.v)+V.bulks (x.locals.map Var.v)+x.result.length+V.bulks (x.blocks.map Block.v)+6:=by simp[Fun.v,V.bulk,V.bulks];omega
def Struct.size(x:Struct):Nat:=x.v.bulk
theorem B_4(x:Struct):x.v.bulk=x.name.length+V.bulks (x.fields.map Var.v)+5:=by simp[Struct.v,V.bulk,V.bulks];omega
def Enum.size(x:Enum):Nat:=x.v.bulk
theorem W_8(x:Enum):x.v.bulk=x.name.length+V.bulks (x.variants.map Var.v)+3:=by simp[Enum.v,V.bulk,V.bulks];omega
def Prog.size(x:Prog):Nat:=x.v.bulk
theorem aS_2(x:Prog):x.v.bulk=V.bulks (x.structs.map Struct.v)+V.bulks (x.enums.map Enum.v)+V.bulks (x.funcs.map Fun.v)+3:=by simp[Prog.v,V.bulk,V.bulks];omega
theorem x_(xs:List Str):xs.length≤V.bulks (xs.map V.str):=y_0 (fun x=>by rw[U_9];omega) xs
theorem b_8(xs:List Var):xs.length≤V.bulks (xs.map Var.v):=y_0 (fun x=>by rw[T_1];omega) xs
theorem l_6(xs:List Place):xs.length≤V.bulks (xs.map Place.v):=y_0 (fun x=>by rw[Q_8];omega) xs
theorem I_5(xs:List Stmt):xs.length≤V.bulks (xs.map Stmt.v):=y_0 (fun x=>by rw[Y_9];omega) xs
theorem N_3(xs:List Arm):xs.length≤V.bulks (xs.map Arm.v):=y_0 (fun x=>by rw[ai_0];omega) xs
theorem A_(xs:List Block):xs.length≤V.bulks (xs.map Block.v):=y_0 (fun x=>by rw[Q_6];omega) xs
theorem N_4(xs:List Fun):xs.length≤V.bulks (xs.map Fun.v):=y_0 (fun x=>by rw[af_5];omega) xs
theorem r_4(xs:List Struct):xs.length≤V.bulks (xs.map Struct.v):=y_0 (fun x=>by rw[B_4];omega) xs
theorem I_6(xs:List Enum):xs.length≤V.bulks (xs.map Enum.v):=y_0 (fun x=>by rw[W_8];omega) xs
theorem ai_{s:Str}{xs:List Str}(h:s∈xs):s.length+1≤V.bulks (xs.map V.str):=by have:=x_9 (g:=V.str) h;rwa [U_9]at this
theorem w_0(x:Var):x.size=x.name.length+x.type.length+2:=T_1 x
theorem B_1{x:Var}{xs:List Var}(h:x∈xs):x.size≤V.bulks (xs.map Var.v):=x_9 (g:=Var.v) h
theorem q_(x:Place):x.size=x.loc.length+1+(V.bulks (x.steps.map V.str)+1):=Q_8 x
theorem I_1{x:Place}{xs:List Place}(h:x∈xs):x.size≤V.bulks (xs.map Place.v):=x_9 (g:=Place.v) h
theorem t_5(x:Stmt):x.size=x.to.size+x.name.length+x.variant.length+V.bulks (x.args.map Place.v)+6:=Y_9 x
theorem J_3{x:Stmt}{xs:List Stmt}(h:x∈xs):x.size≤V.bulks (xs.map Stmt.v):=x_9 (g:=Stmt.v) h
theorem ai_1(x:Arm):x.size=x.variant.length+x.loc.length+x.block.length+3:=ai_0 x
theorem ax_2{x:Arm}{xs:List Arm}(h:x∈xs):x.size≤V.bulks (xs.map Arm.v):=x_9 (g:=Arm.v) h
theorem y_7(x:Term):x.size=x.to.size+x.name.length+V.bulks (x.args.map Place.v)+V.bulks (x.blocks.map V.str)+V.bulks (x.arms.map Arm.v)+6:=Z_6 x
theorem l_5(x:Block):x.size=x.name.length+V.bulks (x.stmts.map Stmt.v)+x.term.size+3:=Q_6 x
theorem A_8{x:Block}{xs:List Block}(h:x∈xs):x.size≤V.bulks (xs.map Block.v):=x_9 (g:=Block.v) h
theorem n_8(x:Fun):x.size=x.name.length+V.bulks (x.params.map Var.v)+V.bulks (x.locals.map Var.v)+x.result.length+V.bulks (x.blocks.map Block.v)+6:=af_5 x
theorem aa_3{x:Fun}{xs:List Fun}(h:x∈xs):x.size≤V.bulks (xs.map Fun.v):=x_9 (g:=Fun.v) h
theorem l_1(x:Struct):x.size=x.name.length+V.bulks (x.fields.map Var.v)+5:=B_4 x
theorem r_7{x:Struct}{xs:List Struct}(h:x∈xs):x.size≤V.bulks (xs.map Struct.v):=x_9 (g:=Struct.v) h
theorem A_2(x:Enum):x.size=x.name.length+V.bulks (x.variants.map Var.v)+3:=W_8 x
theorem L_0{x:Enum}{xs:List Enum}(h:x∈xs):x.size≤V.bulks (xs.map Enum.v):=x_9 (g:=Enum.v) h
theorem j_6(x:Prog):x.size=V.bulks (x.structs.map Struct.v)+V.bulks (x.enums.map Enum.v)+V.bulks (x.funcs.map Fun.v)+3:=aS_2 x
end Go.Proofs.YtbbeelalcamgjaaGreatDoor
namespace Go.Proofs.YtbbeelalcamgjaaGreatDoor
noncomputable section
open Go.Abs
set_option maxRecDepth 1000000
set_option linter.unusedSimpArgs false
variable {rd:Option Nat} {f:Nat→V} {m:List Nat} {st:St}
def c27_0:=bodyOf Tryz.f27
def run27{args:List V}{st:St}(ha:args.length≤13):=a_1 (T:=tb) (fid:=27) (st:=st) (by rw[a_];exact Tryz.func27) (by rw[a_];rfl) (c:=c27_0) (rs:= #[.cell 2 26]) rfl rfl rfl ha
def c27_2:=kid c27_0 1
noncomputable def o27_3:=opsOf (kid c27_2 0)
noncomputable def l27_3:{l:List DStep//drawAt o27_3 [(0,0),(1,1),(3,0),(4,8),(6,0),(7,64),(2,3),(5,31),(8,255),(9,511),(10,1023)]=l}:=by refine⟨?_,?h⟩;case h=>simp only[drawAt,entsAt,o27_3,c27_2,c27_0,opsOf,kid,bodyOf,Tryz.f27,Option.getD_some,List.map,stepOf,Option.map,List.getElem?_toArray,List.getElem?_cons_succ,List.getElem?_cons_zero,Option.bind_some];rfl
theorem q27_3:D tb (.region 1 o27_3 true) rd 13 f m st=regB (evDraws tb (run tb) l27_3.1 [] (mk 13 f m) st):=q_3 [(0,0),(1,1),(3,0),(4,8),(6,0),(7,64),(2,3),(5,31),(8,255),(9,511),(10,1023)] (by kernel_rfl) l27_3.2
noncomputable def L27_1:Lt (kid c27_0 0):= .mk _
theorem S27:D tb c27_0=D tb (.seq (Rg L27_1) c27_2)∧D tb c27_2=D tb (.seq (.region 1 o27_3 true) .ret):=⟨rfl,rfl⟩
def c36_0:=bodyOf Tryz.f36
def run36{args:List V}{st:St}(ha:args.length≤31):=a_1 (T:=tb) (fid:=36) (st:=st) (by rw[a_];exact Tryz.func36) (by rw[a_];rfl) (c:=c36_0) (rs:= #[.tmp 2]) rfl rfl rfl ha
def c36_2:=kid c36_0 1
def c36_3:=kid c36_2 0
def c36_5:=kid c36_3 1
def c36_6:=kid c36_5 0
def c36_10:=kid c36_2 1
def c36_12:=kid c36_10 1
def c36_14:=kid c36_12 1
noncomputable def L36_1:Lt (kid c36_0 0):= .mk _
noncomputable def L36_4:Lt (kid c36_3 0):= .mk _
noncomputable def L36_7:Lt (kid c36_6 0):= .mk _
noncomputable def L36_11:Lt (kid c36_10 0):= .mk _
noncomputable def L36_13:Lt (kid c36_12 0):= .mk _
noncomputable def L36_15:Lt (kid c36_14 0):= .mk _
theorem S36:D tb c36_0=D tb (.seq (Rg L36_1) c36_2)∧D tb c36_2=D tb (.seq c36_3 c36_10)∧D tb c36_3=D tb (.seq (Rg L36_4) c36_5)∧D tb c36_5=D tb (.cond (.tmp 15) c36_6 .skip)∧D tb c36_6=D tb (.seq (Rg L36_7) .ret)∧D tb c36_10=D tb (.seq (Rg L36_11) c36_12)∧D tb c36_12=D tb (.seq (Rg L36_13) c36_14)∧D tb c36_14=D tb (.seq (Rg L36_15) .ret):=⟨rfl,rfl,rfl,rfl,rfl,rfl,rfl,rfl⟩
def c46_0:=bodyOf Tryz.f46
def run46{args:List V}{st:St}(ha:args.length≤8):=a_1 (T:=tb) (fid:=46) (st:=st) (by rw[a_];exact Tryz.func46) (by rw[a_];rfl) (c:=c46_0) (rs:= #[.tmp 4]) rfl rfl rfl ha
def c46_2:=kid c46_0 1
noncomputable def L46_1:Lt (kid c46_0 0):= .mk _
noncomputable def L46_3:Lt (kid c46_2 0):= .mk _
theorem S46:D tb c46_0=D tb (.seq (Rg L46_1) c46_2)∧D tb c46_2=D tb (.seq (Rg L46_3) .ret):=⟨rfl,rfl⟩
def c55_0:=bodyOf Tryz.f55
def run55{args:List V}{st:St}(ha:args.length≤19):=a_6 (T:=tb) (fid:=55) (st:=st) (by rw[a_];exact Tryz.func55) (by rw[a_];rfl) (c:=c55_0) (rs:= #[.tmp 4]) rfl rfl rfl ha
def c55_2:=kid c55_0 1
def c55_3:=kid c55_2 0
def c55_5:=kid c55_3 1
def c55_6:=kid c55_5 0
def c55_7:=kid c55_6 0
def c55_9:=kid c55_7 1
def c55_10:=kid c55_9 0
def c55_13:=kid c55_9 1
def c55_14:=kid c55_13 0
def c55_15:=kid c55_14 0
def c55_17:=kid c55_15 1
def c55_19:=kid c55_17 1
def c55_20:=kid c55_19 0
def c55_25:=kid c55_2 1
theorem p55_6:D tb c55_6 rd 19 f m st=loopK tb rd c55_6 19 f m st fun e fr st=>some (e,fr,st):=b_2
theorem e55_6:c55_6= .loop c55_7:=rfl
theorem w55_6:writes c55_7=some [9,10,5,11,12,13,14,15,16,17,4,18,8]:=by kernel_rfl
noncomputable def L55_1:Lt (kid c55_0 0):= .mk _
noncomputable def L55_4:Lt (kid c55_3 0):= .mk _
noncomputable def L55_8:Lt (kid c55_7 0):= .mk _
noncomputable def L55_16:Lt (kid c55_15 0):= .mk _
noncomputable def L55_18:Lt (kid c55_17 0):= .mk _
noncomputable def L55_21:Lt (kid c55_20 0):= .mk _
noncomputable def L55_24:Lt (kid c55_13 1):= .mk _
noncomputable def L55_26:Lt (kid c55_25 0):= .mk _
theorem S55:D tb c55_0=D tb (.seq (Rg L55_1) c55_2)∧D tb c55_2=D tb (.seq c55_3 c55_25)∧D tb c55_3=D tb (.seq (Rg L55_4) c55_5)∧D tb c55_5=D tb (.block 0 c55_6)∧D tb c55_7=D tb (.seq (Rg L55_8) c55_9)∧D tb c55_9=D tb (.seq c55_10 c55_13)∧D tb c55_10=D tb (.cond (.tmp 9) .skip (.exit 0))∧D tb c55_13=D tb (.seq c55_14 (Rg L55_24))∧D tb c55_14=D tb (.block 1 c55_15)∧D tb c55_15=D tb (.seq (Rg L55_16) c55_17)∧D tb c55_17=D tb (.seq (Rg L55_18) c55_19)∧D tb c55_19=D tb (.cond (.tmp 16) c55_20 .skip)∧D tb c55_20=D tb (.seq (Rg L55_21) .ret)∧D tb c55_25=D tb (.seq (Rg L55_26) .ret):=⟨rfl,rfl,rfl,rfl,rfl,rfl,rfl,rfl,rfl,rfl,rfl,rfl,rfl,rfl⟩
def c60_0:=bodyOf Tryz.f60
def run60{args:List V}{st:St}(ha:args.length≤25):=a_1 (T:=tb) (fid:=60) (st:=st) (by rw[a_];exact Tryz.func60) (by rw[a_];rfl) (c:=c60_0) (rs:= #[.tmp 4]) rfl rfl rfl ha
def c60_2:=kid c60_0 1
def c60_4:=kid c60_2 1
def c60_5:=kid c60_4 0
def c60_7:=kid c60_5 1
def c60_8:=kid c60_7 0
def c60_9:=kid c60_8 0
def c60_11:=kid c60_9 1
def c60_12:=kid c60_11 0
def c60_15:=kid c60_11 1
def c60_16:=kid c60_15 0
def c60_17:=kid c60_16 0
def c60_21:=kid c60_4 1
theorem p60_8:D tb c60_8 rd 25 f m st=loopK tb rd c60_8 25 f m st fun e fr st=>some (e,fr,st):=b_2
theorem e60_8:c60_8= .loop c60_9:=rfl
theorem w60_8:writes c60_9=some [12,13,6,14,15,16,17,18,19,20,21,22,23,11]:=by kernel_rfl
noncomputable def L60_1:Lt (kid c60_0 0):= .mk _
noncomputable def L60_3:Lt (kid c60_2 0):= .mk _
noncomputable def L60_6:Lt (kid c60_5 0):= .mk _
noncomputable def L60_10:Lt (kid c60_9 0):= .mk _
noncomputable def L60_18:Lt (kid c60_17 0):= .mk _
noncomputable def L60_19:Lt (kid c60_17 1):= .mk _
noncomputable def L60_20:Lt (kid c60_15 1):= .mk _
noncomputable def L60_22:Lt (kid c60_21 0):= .mk _
theorem S60:D tb c60_0=D tb (.seq (Rg L60_1) c60_2)∧D tb c60_2=D tb (.seq (Rg L60_3) c60_4)∧D tb c60_4=D tb (.seq c60_5 c60_21)∧D tb c60_5=D tb (.seq (Rg L60_6) c60_7)∧D tb c60_7=D tb (.block 0 c60_8)∧D tb c60_9=D tb (.seq (Rg L60_10) c60_11)∧D tb c60_11=D tb (.seq c60_12 c60_15)∧D tb c60_12=D tb (.cond (.tmp 12) .skip (.exit 0))∧D tb c60_15=D tb (.seq c60_16 (Rg L60_20))∧D tb c60_16=D tb (.block 1 c60_17)∧D tb c60_17=D tb (.seq (Rg L60_18) (Rg L60_19))∧D tb c60_21=D tb (.seq (Rg L60_22) .ret):=⟨rfl,rfl,rfl,rfl,rfl,rfl,rfl,rfl,rfl,rfl,rfl,rfl⟩
def c61_0:=bodyOf Tryz.f61
def run61{args:List V}{st:St}(ha:args.length≤8):=a_1 (T:=tb) (fid:=61) (st:=st) (by rw[a_];exact Tryz.func61) (by rw[a_];rfl) (c:=c61_0) (rs:= #[.cell 2 78]) rfl rfl rfl ha
def c61_2:=kid c61_0 1
def c61_4:=kid c61_2 1
noncomputable def L61_1:Lt (kid c61_0 0):= .mk _
noncomputable def L61_3:Lt (kid c61_2 0):= .mk _
noncomputable def L61_5:Lt (kid c61_4 0):= .mk _
theorem S61:D tb c61_0=D tb (.seq (Rg L61_1) c61_2)∧D tb c61_2=D tb (.seq (Rg L61_3) c61_4)∧D tb c61_4=D tb (.seq (Rg L61_5) .ret):=⟨rfl,rfl,rfl⟩
def c62_0:=bodyOf Tryz.f62
theorem bb_{args:List V}{st:St}(ha:args.length≤8):evBody tb (run tb) Tryz.f62 args st=leave tb [.tmp 2] ((run tb).code none c62_0 (mk 8 (argF args) []) st):=w_6 (c:=c62_0) (rs:= #[.tmp 2]) rfl rfl rfl ha
theorem fn62:tb.fn 62=some Tryz.f62:=by rw[a_];exact Tryz.func62
theorem md62:tb.mode 62= .shut2:=by rw[a_];rfl
def c62_2:=kid c62_0 1
def c62_3:=kid c62_2 0
def c62_5:=kid c62_3 1
def c62_6:=kid c62_5 0
def c62_10:=kid c62_2 1
noncomputable def L62_1:Lt (kid c62_0 0):= .mk _
noncomputable def L62_4:Lt (kid c62_3 0):= .mk _
noncomputable def L62_7:Lt (kid c62_6 0):= .mk _
noncomputable def L62_11:Lt (kid c62_10 0):= .mk _
theorem S62:D tb c62_0=D tb (.seq (Rg L62_1) c62_2)∧D tb c62_2=D tb (.seq c62_3 c62_10)∧D tb c62_3=D tb (.seq (Rg L62_4) c62_5)∧D tb c62_5=D tb (.cond (.tmp 4) c62_6 .skip)∧D tb c62_6=D tb (.seq (Rg L62_7) .ret)∧D tb c62_10=D tb (.seq (Rg L62_11) .ret):=⟨rfl,rfl,rfl,rfl,rfl,rfl⟩
def c63_0:=bodyOf Tryz.f63
def run63{args:List V}{st:St}(ha:args.length≤25):=a_1 (T:=tb) (fid:=63) (st:=st) (by rw[a_];exact Tryz.func63) (by rw[a_];rfl) (c:=c63_0) (rs:= #[.tmp 4]) rfl rfl rfl ha
def c63_2:=kid c63_0 1
def c63_4:=kid c63_2 1
def c63_5:=kid c63_4 0
def c63_7:=kid c63_5 1
def c63_8:=kid c63_7 0
def c63_9:=kid c63_8 0
def c63_11:=kid c63_9 1
def c63_12:=kid c63_11 0
def c63_15:=kid c63_11 1
def c63_16:=kid c63_15 0
def c63_17:=kid c63_16 0
def c63_21:=kid c63_4 1
theorem p63_8:D tb c63_8 rd 25 f m st=loopK tb rd c63_8 25 f m st fun e fr st=>some (e,fr,st):=b_2
theorem e63_8:c63_8= .loop c63_9:=rfl
theorem w63_8:writes c63_9=some [12,13,6,14,15,16,17,18,19,20,21,22,23,11]:=by kernel_rfl
noncomputable def L63_1:Lt (kid c63_0 0):= .mk _
noncomputable def L63_3:Lt (kid c63_2 0):= .mk _
noncomputable def L63_6:Lt (kid c63_5 0):= .mk _
noncomputable def L63_10:Lt (kid c63_9 0):= .mk _
noncomputable def L63_18:Lt (kid c63_17 0):= .mk _
noncomputable def L63_19:Lt (kid c63_17 1):= .mk _
noncomputable def L63_20:Lt (kid c63_15 1):= .mk _
noncomputable def L63_22:Lt (kid c63_21 0):= .mk _
theorem S63:D tb c63_0=D tb (.seq (Rg L63_1) c63_2)∧D tb c63_2=D tb (.seq (Rg L63_3) c63_4)∧D tb c63_4=D tb (.seq c63_5 c63_21)∧D tb c63_5=D tb (.seq (Rg L63_6) c63_7)∧D tb c63_7=D tb (.block 0 c63_8)∧D tb c63_9=D tb (.seq (Rg L63_10) c63_11)∧D tb c63_11=D tb (.seq c63_12 c63_15)∧D tb c63_12=D tb (.cond (.tmp 12) .skip (.exit 0))∧D tb c63_15=D tb (.seq c63_16 (Rg L63_20))∧D tb c63_16=D tb (.block 1 c63_17)∧D tb c63_17=D tb (.seq (Rg L63_18) (Rg L63_19))∧D tb c63_21=D tb (.seq (Rg L63_22) .ret):=⟨rfl,rfl,rfl,rfl,rfl,rfl,rfl,rfl,rfl,rfl,rfl,rfl⟩
def c64_0:=bodyOf Tryz.f64
def run64{args:List V}{st:St}(ha:args.length≤8):=a_1 (T:=tb) (fid:=64) (st:=st) (by rw[a_];exact Tryz.func64) (by rw[a_];rfl) (c:=c64_0) (rs:= #[.cell 2 80]) rfl rfl rfl ha
def c64_2:=kid c64_0 1
def c64_4:=kid c64_2 1
noncomputable def L64_1:Lt (kid c64_0 0):= .mk _
noncomputable def L64_3:Lt (kid c64_2 0):= .mk _
noncomputable def L64_5:Lt (kid c64_4 0):= .mk _
theorem S64:D tb c64_0=D tb (.seq (Rg L64_1) c64_2)∧D tb c64_2=D tb (.seq (Rg L64_3) c64_4)∧D tb c64_4=D tb (.seq (Rg L64_5) .ret):=⟨rfl,rfl,rfl⟩
def c65_0:=bodyOf Tryz.f65
def run65{args:List V}{st:St}(ha:args.length≤25):=a_1 (T:=tb) (fid:=65) (st:=st) (by rw[a_];exact Tryz.func65) (by rw[a_];rfl) (c:=c65_0) (rs:= #[.tmp 4]) rfl rfl rfl ha
def c65_2:=kid c65_0 1
def c65_4:=kid c65_2 1
def c65_5:=kid c65_4 0
def c65_7:=kid c65_5 1
def c65_8:=kid c65_7 0
def c65_9:=kid c65_8 0
def c65_11:=kid c65_9 1
def c65_12:=kid c65_11 0
def c65_15:=kid c65_11 1
def c65_16:=kid c65_15 0
def c65_17:=kid c65_16 0
def c65_21:=kid c65_4 1
theorem p65_8:D tb c65_8 rd 25 f m st=loopK tb rd c65_8 25 f m st fun e fr st=>some (e,fr,st):=b_2
theorem e65_8:c65_8= .loop c65_9:=rfl
theorem w65_8:writes c65_9=some [12,13,6,14,15,16,17,18,19,20,21,22,23,11]:=by kernel_rfl
noncomputable def L65_1:Lt (kid c65_0 0):= .mk _
noncomputable def L65_3:Lt (kid c65_2 0):= .mk _
noncomputable def L65_6:Lt (kid c65_5 0):= .mk _
noncomputable def L65_10:Lt (kid c65_9 0):= .mk _
noncomputable def L65_18:Lt (kid c65_17 0):= .mk _
noncomputable def L65_19:Lt (kid c65_17 1):= .mk _
noncomputable def L65_20:Lt (kid c65_15 1):= .mk _
noncomputable def L65_22:Lt (kid c65_21 0):= .mk _
theorem S65:D tb c65_0=D tb (.seq (Rg L65_1) c65_2)∧D tb c65_2=D tb (.seq (Rg L65_3) c65_4)∧D tb c65_4=D tb (.seq c65_5 c65_21)∧D tb c65_5=D tb (.seq (Rg L65_6) c65_7)∧D tb c65_7=D tb (.block 0 c65_8)∧D tb c65_9=D tb (.seq (Rg L65_10) c65_11)∧D tb c65_11=D tb (.seq c65_12 c65_15)∧D tb c65_12=D tb (.cond (.tmp 12) .skip (.exit 0))∧D tb c65_15=D tb (.seq c65_16 (Rg L65_20))∧D tb c65_16=D tb (.block 1 c65_17)∧D tb c65_17=D tb (.seq (Rg L65_18) (Rg L65_19))∧D tb c65_21=D tb (.seq (Rg L65_22) .ret):=⟨rfl,rfl,rfl,rfl,rfl,rfl,rfl,rfl,rfl,rfl,rfl,rfl⟩
def c66_0:=bodyOf Tryz.f66
def run66{args:List V}{st:St}(ha:args.length≤16):=a_1 (T:=tb) (fid:=66) (st:=st) (by rw[a_];exact Tryz.func66) (by rw[a_];rfl) (c:=c66_0) (rs:= #[.cell 2 35]) rfl rfl rfl ha
def c66_2:=kid c66_0 1
noncomputable def o66_3:=opsOf (kid c66_2 0)
def c66_4:=kid c66_2 1
noncomputable def l66_3:{l:List DStep//drawAt o66_3 [(0,0),(1,1),(3,0),(4,8),(6,0),(7,64),(2,3),(9,223),(5,31),(8,255),(10,1023),(11,2047),(12,4095),(13,8191),(14,16383)]=l}:=by refine⟨?_,?h⟩;case h=>simp only[drawAt,entsAt,o66_3,c66_2,c66_0,opsOf,kid,bodyOf,Tryz.f66,Option.getD_some,List.map,stepOf,Option.map,List.getElem?_toArray,List.getElem?_cons_succ,List.getElem?_cons_zero,Option.bind_some];rfl
theorem q66_3:D tb (.region 1 o66_3 true) rd 16 f m st=regB (evDraws tb (run tb) l66_3.1 [] (mk 16 f m) st):=q_3 [(0,0),(1,1),(3,0),(4,8),(6,0),(7,64),(2,3),(9,223),(5,31),(8,255),(10,1023),(11,2047),(12,4095),(13,8191),(14,16383)] (by kernel_rfl) l66_3.2
noncomputable def L66_1:Lt (kid c66_0 0):= .mk _
noncomputable def L66_5:Lt (kid c66_4 0):= .mk _
theorem S66:D tb c66_0=D tb (.seq (Rg L66_1) c66_2)∧D tb c66_2=D tb (.seq (.region 1 o66_3 true) c66_4)∧D tb c66_4=D tb (.seq (Rg L66_5) .ret):=⟨rfl,rfl,rfl⟩
def c67_0:=bodyOf Tryz.f67
def run67{args:List V}{st:St}(ha:args.length≤25):=a_1 (T:=tb) (fid:=67) (st:=st) (by rw[a_];exact Tryz.func67) (by rw[a_];rfl) (c:=c67_0) (rs:= #[.tmp 4]) rfl rfl rfl ha
def c67_2:=kid c67_0 1
def c67_4:=kid c67_2 1
def c67_5:=kid c67_4 0
def c67_7:=kid c67_5 1
def c67_8:=kid c67_7 0
def c67_9:=kid c67_8 0
def c67_11:=kid c67_9 1
def c67_12:=kid c67_11 0
def c67_15:=kid c67_11 1
def c67_16:=kid c67_15 0
def c67_17:=kid c67_16 0
def c67_21:=kid c67_4 1
theorem p67_8:D tb c67_8 rd 25 f m st=loopK tb rd c67_8 25 f m st fun e fr st=>some (e,fr,st):=b_2
theorem e67_8:c67_8= .loop c67_9:=rfl
theorem w67_8:writes c67_9=some [12,13,6,14,15,16,17,18,19,20,21,22,23,11]:=by kernel_rfl
noncomputable def L67_1:Lt (kid c67_0 0):= .mk _
noncomputable def L67_3:Lt (kid c67_2 0):= .mk _
noncomputable def L67_6:Lt (kid c67_5 0):= .mk _
noncomputable def L67_10:Lt (kid c67_9 0):= .mk _
noncomputable def L67_18:Lt (kid c67_17 0):= .mk _
noncomputable def L67_19:Lt (kid c67_17 1):= .mk _
noncomputable def L67_20:Lt (kid c67_15 1):= .mk _
noncomputable def L67_22:Lt (kid c67_21 0):= .mk _
theorem S67:D tb c67_0=D tb (.seq (Rg L67_1) c67_2)∧D tb c67_2=D tb (.seq (Rg L67_3) c67_4)∧D tb c67_4=D tb (.seq c67_5 c67_21)∧D tb c67_5=D tb (.seq (Rg L67_6) c67_7)∧D tb c67_7=D tb (.block 0 c67_8)∧D tb c67_9=D tb (.seq (Rg L67_10) c67_11)∧D tb c67_11=D tb (.seq c67_12 c67_15)∧D tb c67_12=D tb (.cond (.tmp 12) .skip (.exit 0))∧D tb c67_15=D tb (.seq c67_16 (Rg L67_20))∧D tb c67_16=D tb (.block 1 c67_17)∧D tb c67_17=D tb (.seq (Rg L67_18) (Rg L67_19))∧D tb c67_21=D tb (.seq (Rg L67_22) .ret):=⟨rfl,rfl,rfl,rfl,rfl,rfl,rfl,rfl,rfl,rfl,rfl,rfl⟩
def c68_0:=bodyOf Tryz.f68
def run68{args:List V}{st:St}(ha:args.length≤42):=a_1 (T:=tb) (fid:=68) (st:=st) (by rw[a_];exact Tryz.func68) (by rw[a_];rfl) (c:=c68_0) (rs:= #[.cell 2 63]) rfl rfl rfl ha
def c68_2:=kid c68_0 1
def c68_4:=kid c68_2 1
def c68_6:=kid c68_4 1
noncomputable def o68_7:=opsOf (kid c68_6 0)
def c68_8:=kid c68_6 1
noncomputable def o68_9:=opsOf (kid c68_8 0)
def c68_10:=kid c68_8 1
noncomputable def l68_7:{l:List DStep//drawAt o68_7 [(0,0),(1,0),(2,0),(3,4),(4,12),(5,28),(7,0),(8,128),(9,384),(10,896),(6,60),(11,2044),(12,4093),(13,8189),(14,16381),(15,32767),(16,65535),(17,131071)]=l}:=by refine⟨?_,?h⟩;case h=>simp only[drawAt,entsAt,o68_7,c68_6,c68_4,c68_2,c68_0,opsOf,kid,bodyOf,Tryz.f68,Option.getD_some,List.map,stepOf,Option.map,List.getElem?_toArray,List.getElem?_cons_succ,List.getElem?_cons_zero,Option.bind_some];rfl
theorem q68_7:D tb (.region 3 o68_7 true) rd 42 f m st=regB (evDraws tb (run tb) l68_7.1 [] (mk 42 f m) st):=q_3 [(0,0),(1,0),(2,0),(3,4),(4,12),(5,28),(7,0),(8,128),(9,384),(10,896),(6,60),(11,2044),(12,4093),(13,8189),(14,16381),(15,32767),(16,65535),(17,131071)] (by kernel_rfl) l68_7.2
noncomputable def l68_9:{l:List DStep//drawAt o68_9 [(0,0),(1,0),(2,0),(3,4),(4,12),(5,28),(7,0),(8,128),(9,384),(10,896),(6,60),(11,2044),(12,4093),(13,8189),(14,16381),(15,32767),(16,65535),(17,131071)]=l}:=by refine⟨?_,?h⟩;case h=>simp only[drawAt,entsAt,o68_9,c68_8,c68_6,c68_4,c68_2,c68_0,opsOf,kid,bodyOf,Tryz.f68,Option.getD_some,List.map,stepOf,Option.map,List.getElem?_toArray,List.getElem?_cons_succ,List.getElem?_cons_zero,Option.bind_some];rfl
theorem q68_9:D tb (.region 4 o68_9 true) rd 42 f m st=regB (evDraws tb (run tb) l68_9.1 [] (mk 42 f m) st):=q_3 [(0,0),(1,0),(2,0),(3,4),(4,12),(5,28),(7,0),(8,128),(9,384),(10,896),(6,60),(11,2044),(12,4093),(13,8189),(14,16381),(15,32767),(16,65535),(17,131071)] (by kernel_rfl) l68_9.2
noncomputable def L68_1:Lt (kid c68_0 0):= .mk _
noncomputable def L68_3:Lt (kid c68_2 0):= .mk _
noncomputable def L68_5:Lt (kid c68_4 0):= .mk _
noncomputable def L68_11:Lt (kid c68_10 0):= .mk _
theorem S68:D tb c68_0=D tb (.seq (Rg L68_1) c68_2)∧D tb c68_2=D tb (.seq (Rg L68_3) c68_4)∧D tb c68_4=D tb (.seq (Rg L68_5) c68_6)∧D tb c68_6=D tb (.seq (.region 3 o68_7 true) c68_8)∧D tb c68_8=D tb (.seq (.region 4 o68_9 true) c68_10)∧D tb c68_10=D tb (.seq (Rg L68_11) .ret):=⟨rfl,rfl,rfl,rfl,rfl,rfl⟩
def c71_0:=bodyOf Tryz.f71
def run71{args:List V}{st:St}(ha:args.length≤19):=a_6 (T:=tb) (fid:=71) (st:=st) (by rw[a_];exact Tryz.func71) (by rw[a_];rfl) (c:=c71_0) (rs:= #[.tmp 4]) rfl rfl rfl ha
def c71_2:=kid c71_0 1
def c71_3:=kid c71_2 0
def c71_5:=kid c71_3 1
def c71_6:=kid c71_5 0
def c71_7:=kid c71_6 0
def c71_9:=kid c71_7 1
def c71_10:=kid c71_9 0
def c71_13:=kid c71_9 1
def c71_14:=kid c71_13 0
def c71_15:=kid c71_14 0
def c71_17:=kid c71_15 1
def c71_19:=kid c71_17 1
def c71_20:=kid c71_19 0
def c71_25:=kid c71_2 1
theorem p71_6:D tb c71_6 rd 19 f m st=loopK tb rd c71_6 19 f m st fun e fr st=>some (e,fr,st):=b_2
theorem e71_6:c71_6= .loop c71_7:=rfl
theorem w71_6:writes c71_7=some [9,10,5,11,12,13,14,15,16,17,4,18,8]:=by kernel_rfl
noncomputable def L71_1:Lt (kid c71_0 0):= .mk _
noncomputable def L71_4:Lt (kid c71_3 0):= .mk _
noncomputable def L71_8:Lt (kid c71_7 0):= .mk _
noncomputable def L71_16:Lt (kid c71_15 0):= .mk _
noncomputable def L71_18:Lt (kid c71_17 0):= .mk _
noncomputable def L71_21:Lt (kid c71_20 0):= .mk _
noncomputable def L71_24:Lt (kid c71_13 1):= .mk _
noncomputable def L71_26:Lt (kid c71_25 0):= .mk _
theorem S71:D tb c71_0=D tb (.seq (Rg L71_1) c71_2)∧D tb c71_2=D tb (.seq c71_3 c71_25)∧D tb c71_3=D tb (.seq (Rg L71_4) c71_5)∧D tb c71_5=D tb (.block 0 c71_6)∧D tb c71_7=D tb (.seq (Rg L71_8) c71_9)∧D tb c71_9=D tb (.seq c71_10 c71_13)∧D tb c71_10=D tb (.cond (.tmp 9) .skip (.exit 0))∧D tb c71_13=D tb (.seq c71_14 (Rg L71_24))∧D tb c71_14=D tb (.block 1 c71_15)∧D tb c71_15=D tb (.seq (Rg L71_16) c71_17)∧D tb c71_17=D tb (.seq (Rg L71_18) c71_19)∧D tb c71_19=D tb (.cond (.tmp 16) c71_20 .skip)∧D tb c71_20=D tb (.seq (Rg L71_21) .ret)∧D tb c71_25=D tb (.seq (Rg L71_26) .ret):=⟨rfl,rfl,rfl,rfl,rfl,rfl,rfl,rfl,rfl,rfl,rfl,rfl,rfl,rfl⟩
def c75_0:=bodyOf Tryz.f75
theorem bc_4{args:List V}{st:St}(ha:args.length≤8):evBody tb (run tb) Tryz.f75 args st=leave tb [.tmp 2] ((run tb).code none c75_0 (mk 8 (argF args) []) st):=w_6 (c:=c75_0) (rs:= #[.tmp 2]) rfl rfl rfl ha
theorem fn75:tb.fn 75=some Tryz.f75:=by rw[a_];exact Tryz.func75
theorem md75:tb.mode 75= .shut2:=by rw[a_];rfl
def c75_2:=kid c75_0 1
def c75_3:=kid c75_2 0
def c75_5:=kid c75_3 1
def c75_6:=kid c75_5 0
def c75_10:=kid c75_2 1
noncomputable def L75_1:Lt (kid c75_0 0):= .mk _
noncomputable def L75_4:Lt (kid c75_3 0):= .mk _
noncomputable def L75_7:Lt (kid c75_6 0):= .mk _
noncomputable def L75_11:Lt (kid c75_10 0):= .mk _
theorem S75:D tb c75_0=D tb (.seq (Rg L75_1) c75_2)∧D tb c75_2=D tb (.seq c75_3 c75_10)∧D tb c75_3=D tb (.seq (Rg L75_4) c75_5)∧D tb c75_5=D tb (.cond (.tmp 4) c75_6 .skip)∧D tb c75_6=D tb (.seq (Rg L75_7) .ret)∧D tb c75_10=D tb (.seq (Rg L75_11) .ret):=⟨rfl,rfl,rfl,rfl,rfl,rfl⟩
def c76_0:=bodyOf Tryz.f76
def run76{args:List V}{st:St}(ha:args.length≤19):=a_1 (T:=tb) (fid:=76) (st:=st) (by rw[a_];exact Tryz.func76) (by rw[a_];rfl) (c:=c76_0) (rs:= #[.tmp 2]) rfl rfl rfl ha
def c76_2:=kid c76_0 1
def c76_4:=kid c76_2 1
noncomputable def L76_1:Lt (kid c76_0 0):= .mk _
noncomputable def L76_3:Lt (kid c76_2 0):= .mk _
noncomputable def L76_5:Lt (kid c76_4 0):= .mk _
theorem S76:D tb c76_0=D tb (.seq (Rg L76_1) c76_2)∧D tb c76_2=D tb (.seq (Rg L76_3) c76_4)∧D tb c76_4=D tb (.seq (Rg L76_5) .ret):=⟨rfl,rfl,rfl⟩
def c92_0:=bodyOf Tryz.f92
def run92{args:List V}{st:St}(ha:args.length≤9):=a_1 (T:=tb) (fid:=92) (st:=st) (by rw[a_];exact Tryz.func92) (by rw[a_];rfl) (c:=c92_0) (rs:= #[.tmp 4]) rfl rfl rfl ha
def c92_2:=kid c92_0 1
noncomputable def L92_1:Lt (kid c92_0 0):= .mk _
noncomputable def L92_3:Lt (kid c92_2 0):= .mk _
theorem S92:D tb c92_0=D tb (.seq (Rg L92_1) c92_2)∧D tb c92_2=D tb (.seq (Rg L92_3) .ret):=⟨rfl,rfl⟩
def c93_0:=bodyOf Tryz.f93
def run93{args:List V}{st:St}(ha:args.length≤17):=a_1 (T:=tb) (fid:=93) (st:=st) (by rw[a_];exact Tryz.func93) (by rw[a_];rfl) (c:=c93_0) (rs:= #[.tmp 2]) rfl rfl rfl ha
def c93_2:=kid c93_0 1
noncomputable def L93_1:Lt (kid c93_0 0):= .mk _
noncomputable def L93_3:Lt (kid c93_2 0):= .mk _
theorem S93:D tb c93_0=D tb (.seq (Rg L93_1) c93_2)∧D tb c93_2=D tb (.seq (Rg L93_3) .ret):=⟨rfl,rfl⟩
def c95_0:=bodyOf Tryz.f95
def run95{args:List V}{st:St}(ha:args.length≤9):=a_1 (T:=tb) (fid:=95) (st:=st) (by rw[a_];exact Tryz.func95) (by rw[a_];rfl) (c:=c95_0) (rs:= #[.tmp 4]) rfl rfl rfl ha
def c95_2:=kid c95_0 1
noncomputable def L95_1:Lt (kid c95_0 0):= .mk _
noncomputable def L95_3:Lt (kid c95_2 0):= .mk _
theorem S95:D tb c95_0=D tb (.seq (Rg L95_1) c95_2)∧D tb c95_2=D tb (.seq (Rg L95_3) .ret):=⟨rfl,rfl⟩
def c96_0:=bodyOf Tryz.f96
def run96{args:List V}{st:St}(ha:args.length≤11):=a_1 (T:=tb) (fid:=96) (st:=st) (by rw[a_];exact Tryz.func96) (by rw[a_];rfl) (c:=c96_0) (rs:= #[.tmp 2]) rfl rfl rfl ha
def c96_2:=kid c96_0 1
noncomputable def L96_1:Lt (kid c96_0 0):= .mk _
noncomputable def L96_3:Lt (kid c96_2 0):= .mk _
theorem S96:D tb c96_0=D tb (.seq (Rg L96_1) c96_2)∧D tb c96_2=D tb (.seq (Rg L96_3) .ret):=⟨rfl,rfl⟩
def c97_0:=bodyOf Tryz.f97
def run97{args:List V}{st:St}(ha:args.length≤9):=a_1 (T:=tb) (fid:=97) (st:=st) (by rw[a_];exact Tryz.func97) (by rw[a_];rfl) (c:=c97_0) (rs:= #[.tmp 4]) rfl rfl rfl ha
def c97_2:=kid c97_0 1
noncomputable def L97_1:Lt (kid c97_0 0):= .mk _
noncomputable def L97_3:Lt (kid c97_2 0):= .mk _
theorem S97:D tb c97_0=D tb (.seq (Rg L97_1) c97_2)∧D tb c97_2=D tb (.seq (Rg L97_3) .ret):=⟨rfl,rfl⟩
def c98_0:=bodyOf Tryz.f98
def run98{args:List V}{st:St}(ha:args.length≤23):=a_1 (T:=tb) (fid:=98) (st:=st) (by rw[a_];exact Tryz.func98) (by rw[a_];rfl) (c:=c98_0) (rs:= #[.tmp 2]) rfl rfl rfl ha
def c98_2:=kid c98_0 1
noncomputable def L98_1:Lt (kid c98_0 0):= .mk _
noncomputable def L98_3:Lt (kid c98_2 0):= .mk _
theorem S98:D tb c98_0=D tb (.seq (Rg L98_1) c98_2)∧D tb c98_2=D tb (.seq (Rg L98_3) .ret):=⟨rfl,rfl⟩
def c99_0:=bodyOf Tryz.f99
def run99{args:List V}{st:St}(ha:args.length≤16):=a_1 (T:=tb) (fid:=99) (st:=st) (by rw[a_];exact Tryz.func99) (by rw[a_];rfl) (c:=c99_0) (rs:= #[.tmp 2]) rfl rfl rfl ha
def c99_2:=kid c99_0 1
noncomputable def L99_1:Lt (kid c99_0 0):= .mk _
noncomputable def L99_3:Lt (kid c99_2 0):= .mk _
theorem S99:D tb c99_0=D tb (.seq (Rg L99_1) c99_2)∧D tb c99_2=D tb (.seq (Rg L99_3) .ret):=⟨rfl,rfl⟩
def c100_0:=bodyOf Tryz.f100
def run100{args:List V}{st:St}(ha:args.length≤9):=a_1 (T:=tb) (fid:=100) (st:=st) (by rw[a_];exact Tryz.func100) (by rw[a_];rfl) (c:=c100_0) (rs:= #[.tmp 4]) rfl rfl rfl ha
def c100_2:=kid c100_0 1
noncomputable def L100_1:Lt (kid c100_0 0):= .mk _
noncomputable def L100_3:Lt (kid c100_2 0):= .mk _
theorem S100:D tb c100_0=D tb (.seq (Rg L100_1) c100_2)∧D tb c100_2=D tb (.seq (Rg L100_3) .ret):=⟨rfl,rfl⟩
def c101_0:=bodyOf Tryz.f101
def run101{args:List V}{st:St}(ha:args.length≤58):=a_1 (T:=tb) (fid:=101) (st:=st) (by rw[a_];exact Tryz.func101) (by rw[a_];rfl) (c:=c101_0) (rs:= #[.tmp 2]) rfl rfl rfl ha
def c101_2:=kid c101_0 1
def c101_4:=kid c101_2 1
def c101_6:=kid c101_4 1
noncomputable def L101_1:Lt (kid c101_0 0):= .mk _
noncomputable def L101_3:Lt (kid c101_2 0):= .mk _
noncomputable def L101_5:Lt (kid c101_4 0):= .mk _
noncomputable def L101_7:Lt (kid c101_6 0):= .mk _
theorem S101:D tb c101_0=D tb (.seq (Rg L101_1) c101_2)∧D tb c101_2=D tb (.seq (Rg L101_3) c101_4)∧D tb c101_4=D tb (.seq (Rg L101_5) c101_6)∧D tb c101_6=D tb (.seq (Rg L101_7) .ret):=⟨rfl,rfl,rfl,rfl⟩
def c111_0:=bodyOf Tryz.f111
def run111{args:List V}{st:St}(ha:args.length≤19):=a_6 (T:=tb) (fid:=111) (st:=st) (by rw[a_];exact Tryz.func111) (by rw[a_];rfl) (c:=c111_0) (rs:= #[.tmp 4]) rfl rfl rfl ha
def c111_2:=kid c111_0 1
def c111_3:=kid c111_2 0
def c111_5:=kid c111_3 1
def c111_6:=kid c111_5 0
def c111_7:=kid c111_6 0
def c111_9:=kid c111_7 1
def c111_10:=kid c111_9 0
def c111_13:=kid c111_9 1
def c111_14:=kid c111_13 0
def c111_15:=kid c111_14 0
def c111_17:=kid c111_15 1
def c111_19:=kid c111_17 1
def c111_20:=kid c111_19 0
def c111_25:=kid c111_2 1
theorem p111_6:D tb c111_6 rd 19 f m st=loopK tb rd c111_6 19 f m st fun e fr st=>some (e,fr,st):=b_2
theorem e111_6:c111_6= .loop c111_7:=rfl
theorem w111_6:writes c111_7=some [9,10,5,11,12,13,14,15,16,17,4,18,8]:=by kernel_rfl
noncomputable def L111_1:Lt (kid c111_0 0):= .mk _
noncomputable def L111_4:Lt (kid c111_3 0):= .mk _
noncomputable def L111_8:Lt (kid c111_7 0):= .mk _
noncomputable def L111_16:Lt (kid c111_15 0):= .mk _
noncomputable def L111_18:Lt (kid c111_17 0):= .mk _
noncomputable def L111_21:Lt (kid c111_20 0):= .mk _
noncomputable def L111_24:Lt (kid c111_13 1):= .mk _
noncomputable def L111_26:Lt (kid c111_25 0):= .mk _
theorem S111:D tb c111_0=D tb (.seq (Rg L111_1) c111_2)∧D tb c111_2=D tb (.seq c111_3 c111_25)∧D tb c111_3=D tb (.seq (Rg L111_4) c111_5)∧D tb c111_5=D tb (.block 0 c111_6)∧D tb c111_7=D tb (.seq (Rg L111_8) c111_9)∧D tb c111_9=D tb (.seq c111_10 c111_13)∧D tb c111_10=D tb (.cond (.tmp 9) .skip (.exit 0))∧D tb c111_13=D tb (.seq c111_14 (Rg L111_24))∧D tb c111_14=D tb (.block 1 c111_15)∧D tb c111_15=D tb (.seq (Rg L111_16) c111_17)∧D tb c111_17=D tb (.seq (Rg L111_18) c111_19)∧D tb c111_19=D tb (.cond (.tmp 16) c111_20 .skip)∧D tb c111_20=D tb (.seq (Rg L111_21) .ret)∧D tb c111_25=D tb (.seq (Rg L111_26) .ret):=⟨rfl,rfl,rfl,rfl,rfl,rfl,rfl,rfl,rfl,rfl,rfl,rfl,rfl,rfl⟩
def c112_0:=bodyOf Tryz.f112
def run112{args:List V}{st:St}(ha:args.length≤8):=m_0 (T:=tb) (fid:=112) (st:=st) (by rw[a_];exact Tryz.func112) (by rw[a_];rfl) (c:=c112_0) (rs:= #[.tmp 3]) rfl rfl rfl ha
def c112_2:=kid c112_0 1
noncomputable def L112_1:Lt (kid c112_0 0):= .mk _
noncomputable def L112_3:Lt (kid c112_2 0):= .mk _
theorem S112:D tb c112_0=D tb (.seq (Rg L112_1) c112_2)∧D tb c112_2=D tb (.seq (Rg L112_3) .ret):=⟨rfl,rfl⟩
def c119_0:=bodyOf Tryz.f119
theorem aQ_8{args:List V}{st:St}(ha:args.length≤8):evBody tb (run tb) Tryz.f119 args st=leave tb [.tmp 2] ((run tb).code none c119_0 (mk 8 (argF args) []) st):=w_6 (c:=c119_0) (rs:= #[.tmp 2]) rfl rfl rfl ha
theorem bm_5:tb.fn 119=some Tryz.f119:=by rw[a_];exact Tryz.func119
theorem bl_2:tb.mode 119= .split:=by rw[a_];rfl
def c119_2:=kid c119_0 1
def c119_3:=kid c119_2 0
def c119_5:=kid c119_3 1
def c119_6:=kid c119_5 0
def c119_10:=kid c119_2 1
noncomputable def L119_1:Lt (kid c119_0 0):= .mk _
noncomputable def L119_4:Lt (kid c119_3 0):= .mk _
noncomputable def L119_7:Lt (kid c119_6 0):= .mk _
noncomputable def L119_11:Lt (kid c119_10 0):= .mk _
theorem S119:D tb c119_0=D tb (.seq (Rg L119_1) c119_2)∧D tb c119_2=D tb (.seq c119_3 c119_10)∧D tb c119_3=D tb (.seq (Rg L119_4) c119_5)∧D tb c119_5=D tb (.cond (.tmp 4) c119_6 .skip)∧D tb c119_6=D tb (.seq (Rg L119_7) .ret)∧D tb c119_10=D tb (.seq (Rg L119_11) .ret):=⟨rfl,rfl,rfl,rfl,rfl,rfl⟩
def c120_0:=bodyOf Tryz.f120
theorem aV_3{args:List V}{st:St}(ha:args.length≤8):evBody tb (run tb) Tryz.f120 args st=leave tb [.tmp 2] ((run tb).code none c120_0 (mk 8 (argF args) []) st):=w_6 (c:=c120_0) (rs:= #[.tmp 2]) rfl rfl rfl ha
theorem bm_4:tb.fn 120=some Tryz.f120:=by rw[a_];exact Tryz.func120
theorem bl_5:tb.mode 120= .split:=by rw[a_];rfl
def c120_2:=kid c120_0 1
def c120_3:=kid c120_2 0
def c120_5:=kid c120_3 1
def c120_6:=kid c120_5 0
def c120_10:=kid c120_2 1
noncomputable def L120_1:Lt (kid c120_0 0):= .mk _
noncomputable def L120_4:Lt (kid c120_3 0):= .mk _
noncomputable def L120_7:Lt (kid c120_6 0):= .mk _
noncomputable def L120_11:Lt (kid c120_10 0):= .mk _
theorem S120:D tb c120_0=D tb (.seq (Rg L120_1) c120_2)∧D tb c120_2=D tb (.seq c120_3 c120_10)∧D tb c120_3=D tb (.seq (Rg L120_4) c120_5)∧D tb c120_5=D tb (.cond (.tmp 4) c120_6 .skip)∧D tb c120_6=D tb (.seq (Rg L120_7) .ret)∧D tb c120_10=D tb (.seq (Rg L120_11) .ret):=⟨rfl,rfl,rfl,rfl,rfl,rfl⟩
def c121_0:=bodyOf Tryz.f121
theorem aV_1{args:List V}{st:St}(ha:args.length≤8):evBody tb (run tb) Tryz.f121 args st=leave tb [.tmp 2] ((run tb).code none c121_0 (mk 8 (argF args) []) st):=w_6 (c:=c121_0) (rs:= #[.tmp 2]) rfl rfl rfl ha
theorem bj_9:tb.fn 121=some Tryz.f121:=by rw[a_];exact Tryz.func121
theorem bj_2:tb.mode 121= .split:=by rw[a_];rfl
def c121_2:=kid c121_0 1
def c121_3:=kid c121_2 0
def c121_5:=kid c121_3 1
def c121_6:=kid c121_5 0
def c121_10:=kid c121_2 1
noncomputable def L121_1:Lt (kid c121_0 0):= .mk _
noncomputable def L121_4:Lt (kid c121_3 0):= .mk _
noncomputable def L121_7:Lt (kid c121_6 0):= .mk _
noncomputable def L121_11:Lt (kid c121_10 0):= .mk _
theorem S121:D tb c121_0=D tb (.seq (Rg L121_1) c121_2)∧D tb c121_2=D tb (.seq c121_3 c121_10)∧D tb c121_3=D tb (.seq (Rg L121_4) c121_5)∧D tb c121_5=D tb (.cond (.tmp 4) c121_6 .skip)∧D tb c121_6=D tb (.seq (Rg L121_7) .ret)∧D tb c121_10=D tb (.seq (Rg L121_11) .ret):=⟨rfl,rfl,rfl,rfl,rfl,rfl⟩
def c122_0:=bodyOf Tryz.f122
theorem aL_1{args:List V}{st:St}(ha:args.length≤8):evBody tb (run tb) Tryz.f122 args st=leave tb [.tmp 2] ((run tb).code none c122_0 (mk 8 (argF args) []) st):=w_6 (c:=c122_0) (rs:= #[.tmp 2]) rfl rfl rfl ha
theorem bi_4:tb.fn 122=some Tryz.f122:=by rw[a_];exact Tryz.func122
theorem bj_8:tb.mode 122= .split:=by rw[a_];rfl
def c122_2:=kid c122_0 1
def c122_3:=kid c122_2 0
def c122_5:=kid c122_3 1
def c122_6:=kid c122_5 0
def c122_10:=kid c122_2 1
noncomputable def L122_1:Lt (kid c122_0 0):= .mk _
noncomputable def L122_4:Lt (kid c122_3 0):= .mk _
noncomputable def L122_7:Lt (kid c122_6 0):= .mk _
noncomputable def L122_11:Lt (kid c122_10 0):= .mk _
theorem S122:D tb c122_0=D tb (.seq (Rg L122_1) c122_2)∧D tb c122_2=D tb (.seq c122_3 c122_10)∧D tb c122_3=D tb (.seq (Rg L122_4) c122_5)∧D tb c122_5=D tb (.cond (.tmp 4) c122_6 .skip)∧D tb c122_6=D tb (.seq (Rg L122_7) .ret)∧D tb c122_10=D tb (.seq (Rg L122_11) .ret):=⟨rfl,rfl,rfl,rfl,rfl,rfl⟩
def c123_0:=bodyOf Tryz.f123
def run123{args:List V}{st:St}(ha:args.length≤25):=a_1 (T:=tb) (fid:=123) (st:=st) (by rw[a_];exact Tryz.func123) (by rw[a_];rfl) (c:=c123_0) (rs:= #[.tmp 4]) rfl rfl rfl ha
def c123_2:=kid c123_0 1
def c123_4:=kid c123_2 1
def c123_5:=kid c123_4 0
def c123_7:=kid c123_5 1
def c123_8:=kid c123_7 0
def c123_9:=kid c123_8 0
def c123_11:=kid c123_9 1
def c123_12:=kid c123_11 0
def c123_15:=kid c123_11 1
def c123_16:=kid c123_15 0
def c123_17:=kid c123_16 0
def c123_21:=kid c123_4 1
theorem p123_8:D tb c123_8 rd 25 f m st=loopK tb rd c123_8 25 f m st fun e fr st=>some (e,fr,st):=b_2
theorem e123_8:c123_8= .loop c123_9:=rfl
theorem w123_8:writes c123_9=some [12,13,6,14,15,16,17,18,19,20,21,22,23,11]:=by kernel_rfl
noncomputable def L123_1:Lt (kid c123_0 0):= .mk _
noncomputable def L123_3:Lt (kid c123_2 0):= .mk _
noncomputable def L123_6:Lt (kid c123_5 0):= .mk _
noncomputable def L123_10:Lt (kid c123_9 0):= .mk _
noncomputable def L123_18:Lt (kid c123_17 0):= .mk _
noncomputable def L123_19:Lt (kid c123_17 1):= .mk _
noncomputable def L123_20:Lt (kid c123_15 1):= .mk _
noncomputable def L123_22:Lt (kid c123_21 0):= .mk _
theorem S123:D tb c123_0=D tb (.seq (Rg L123_1) c123_2)∧D tb c123_2=D tb (.seq (Rg L123_3) c123_4)∧D tb c123_4=D tb (.seq c123_5 c123_21)∧D tb c123_5=D tb (.seq (Rg L123_6) c123_7)∧D tb c123_7=D tb (.block 0 c123_8)∧D tb c123_9=D tb (.seq (Rg L123_10) c123_11)∧D tb c123_11=D tb (.seq c123_12 c123_15)∧D tb c123_12=D tb (.cond (.tmp 12) .skip (.exit 0))∧D tb c123_15=D tb (.seq c123_16 (Rg L123_20))∧D tb c123_16=D tb (.block 1 c123_17)∧D tb c123_17=D tb (.seq (Rg L123_18) (Rg L123_19))∧D tb c123_21=D tb (.seq (Rg L123_22) .ret):=⟨rfl,rfl,rfl,rfl,rfl,rfl,rfl,rfl,rfl,rfl,rfl,rfl⟩
def c124_0:=bodyOf Tryz.f124
def run124{args:List V}{st:St}(ha:args.length≤12):=a_1 (T:=tb) (fid:=124) (st:=st) (by rw[a_];exact Tryz.func124) (by rw[a_];rfl) (c:=c124_0) (rs:= #[.cell 2 70]) rfl rfl rfl ha
def c124_2:=kid c124_0 1
noncomputable def o124_3:=opsOf (kid c124_2 0)
def c124_4:=kid c124_2 1
noncomputable def l124_3:{l:List DStep//drawAt o124_3 [(0,0),(1,1),(3,0),(4,8),(2,3),(6,31),(5,31),(7,127),(8,255),(9,511)]=l}:=by refine⟨?_,?h⟩;case h=>simp only[drawAt,entsAt,o124_3,c124_2,c124_0,opsOf,kid,bodyOf,Tryz.f124,Option.getD_some,List.map,stepOf,Option.map,List.getElem?_toArray,List.getElem?_cons_succ,List.getElem?_cons_zero,Option.bind_some];rfl
theorem q124_3:D tb (.region 1 o124_3 true) rd 12 f m st=regB (evDraws tb (run tb) l124_3.1 [] (mk 12 f m) st):=q_3 [(0,0),(1,1),(3,0),(4,8),(2,3),(6,31),(5,31),(7,127),(8,255),(9,511)] (by kernel_rfl) l124_3.2
noncomputable def L124_1:Lt (kid c124_0 0):= .mk _
noncomputable def L124_5:Lt (kid c124_4 0):= .mk _
theorem S124:D tb c124_0=D tb (.seq (Rg L124_1) c124_2)∧D tb c124_2=D tb (.seq (.region 1 o124_3 true) c124_4)∧D tb c124_4=D tb (.seq (Rg L124_5) .ret):=⟨rfl,rfl,rfl⟩
def c125_0:=bodyOf Tryz.f125
def run125{args:List V}{st:St}(ha:args.length≤8):=a_1 (T:=tb) (fid:=125) (st:=st) (by rw[a_];exact Tryz.func125) (by rw[a_];rfl) (c:=c125_0) (rs:= #[.cell 2 38]) rfl rfl rfl ha
def c125_2:=kid c125_0 1
def c125_4:=kid c125_2 1
noncomputable def L125_1:Lt (kid c125_0 0):= .mk _
noncomputable def L125_3:Lt (kid c125_2 0):= .mk _
noncomputable def L125_5:Lt (kid c125_4 0):= .mk _
theorem S125:D tb c125_0=D tb (.seq (Rg L125_1) c125_2)∧D tb c125_2=D tb (.seq (Rg L125_3) c125_4)∧D tb c125_4=D tb (.seq (Rg L125_5) .ret):=⟨rfl,rfl,rfl⟩
def c126_0:=bodyOf Tryz.f126
def run126{args:List V}{st:St}(ha:args.length≤25):=a_1 (T:=tb) (fid:=126) (st:=st) (by rw[a_];exact Tryz.func126) (by rw[a_];rfl) (c:=c126_0) (rs:= #[.tmp 4]) rfl rfl rfl ha
def c126_2:=kid c126_0 1
def c126_4:=kid c126_2 1
def c126_5:=kid c126_4 0
def c126_7:=kid c126_5 1
def c126_8:=kid c126_7 0
def c126_9:=kid c126_8 0
def c126_11:=kid c126_9 1
def c126_12:=kid c126_11 0
def c126_15:=kid c126_11 1
def c126_16:=kid c126_15 0
def c126_17:=kid c126_16 0
def c126_21:=kid c126_4 1
theorem p126_8:D tb c126_8 rd 25 f m st=loopK tb rd c126_8 25 f m st fun e fr st=>some (e,fr,st):=b_2
theorem e126_8:c126_8= .loop c126_9:=rfl
theorem w126_8:writes c126_9=some [12,13,6,14,15,16,17,18,19,20,21,22,23,11]:=by kernel_rfl
noncomputable def L126_1:Lt (kid c126_0 0):= .mk _
noncomputable def L126_3:Lt (kid c126_2 0):= .mk _
noncomputable def L126_6:Lt (kid c126_5 0):= .mk _
noncomputable def L126_10:Lt (kid c126_9 0):= .mk _
noncomputable def L126_18:Lt (kid c126_17 0):= .mk _
noncomputable def L126_19:Lt (kid c126_17 1):= .mk _
noncomputable def L126_20:Lt (kid c126_15 1):= .mk _
noncomputable def L126_22:Lt (kid c126_21 0):= .mk _
theorem S126:D tb c126_0=D tb (.seq (Rg L126_1) c126_2)∧D tb c126_2=D tb (.seq (Rg L126_3) c126_4)∧D tb c126_4=D tb (.seq c126_5 c126_21)∧D tb c126_5=D tb (.seq (Rg L126_6) c126_7)∧D tb c126_7=D tb (.block 0 c126_8)∧D tb c126_9=D tb (.seq (Rg L126_10) c126_11)∧D tb c126_11=D tb (.seq c126_12 c126_15)∧D tb c126_12=D tb (.cond (.tmp 12) .skip (.exit 0))∧D tb c126_15=D tb (.seq c126_16 (Rg L126_20))∧D tb c126_16=D tb (.block 1 c126_17)∧D tb c126_17=D tb (.seq (Rg L126_18) (Rg L126_19))∧D tb c126_21=D tb (.seq (Rg L126_22) .ret):=⟨rfl,rfl,rfl,rfl,rfl,rfl,rfl,rfl,rfl,rfl,rfl,rfl⟩
def c127_0:=bodyOf Tryz.f127
theorem aN_9{args:List V}{st:St}(ha:args.length≤8):evBody tb (run tb) Tryz.f127 args st=leave tb [.tmp 2] ((run tb).code none c127_0 (mk 8 (argF args) []) st):=w_6 (c:=c127_0) (rs:= #[.tmp 2]) rfl rfl rfl ha
theorem bi_3:tb.fn 127=some Tryz.f127:=by rw[a_];exact Tryz.func127
theorem bk_1:tb.mode 127= .shut2:=by rw[a_];rfl
def c127_2:=kid c127_0 1
def c127_3:=kid c127_2 0
def c127_5:=kid c127_3 1
def c127_6:=kid c127_5 0
def c127_10:=kid c127_2 1
noncomputable def L127_1:Lt (kid c127_0 0):= .mk _
noncomputable def L127_4:Lt (kid c127_3 0):= .mk _
noncomputable def L127_7:Lt (kid c127_6 0):= .mk _
noncomputable def L127_11:Lt (kid c127_10 0):= .mk _
theorem S127:D tb c127_0=D tb (.seq (Rg L127_1) c127_2)∧D tb c127_2=D tb (.seq c127_3 c127_10)∧D tb c127_3=D tb (.seq (Rg L127_4) c127_5)∧D tb c127_5=D tb (.cond (.tmp 4) c127_6 .skip)∧D tb c127_6=D tb (.seq (Rg L127_7) .ret)∧D tb c127_10=D tb (.seq (Rg L127_11) .ret):=⟨rfl,rfl,rfl,rfl,rfl,rfl⟩
def c128_0:=bodyOf Tryz.f128
theorem aR_9{args:List V}{st:St}(ha:args.length≤8):evBody tb (run tb) Tryz.f128 args st=leave tb [.tmp 2] ((run tb).code none c128_0 (mk 8 (argF args) []) st):=w_6 (c:=c128_0) (rs:= #[.tmp 2]) rfl rfl rfl ha
theorem bk_6:tb.fn 128=some Tryz.f128:=by rw[a_];exact Tryz.func128
theorem bj_7:tb.mode 128= .split:=by rw[a_];rfl
def c128_2:=kid c128_0 1
def c128_3:=kid c128_2 0
def c128_5:=kid c128_3 1
def c128_6:=kid c128_5 0
def c128_10:=kid c128_2 1
noncomputable def L128_1:Lt (kid c128_0 0):= .mk _
noncomputable def L128_4:Lt (kid c128_3 0):= .mk _
noncomputable def L128_7:Lt (kid c128_6 0):= .mk _
noncomputable def L128_11:Lt (kid c128_10 0):= .mk _
theorem S128:D tb c128_0=D tb (.seq (Rg L128_1) c128_2)∧D tb c128_2=D tb (.seq c128_3 c128_10)∧D tb c128_3=D tb (.seq (Rg L128_4) c128_5)∧D tb c128_5=D tb (.cond (.tmp 4) c128_6 .skip)∧D tb c128_6=D tb (.seq (Rg L128_7) .ret)∧D tb c128_10=D tb (.seq (Rg L128_11) .ret):=⟨rfl,rfl,rfl,rfl,rfl,rfl⟩
def c132_0:=bodyOf Tryz.f132
def run132{args:List V}{st:St}(ha:args.length≤9):=a_1 (T:=tb) (fid:=132) (st:=st) (by rw[a_];exact Tryz.func132) (by rw[a_];rfl) (c:=c132_0) (rs:= #[.tmp 2]) rfl rfl rfl ha
def c132_2:=kid c132_0 1
noncomputable def L132_1:Lt (kid c132_0 0):= .mk _
noncomputable def L132_3:Lt (kid c132_2 0):= .mk _
theorem S132:D tb c132_0=D tb (.seq (Rg L132_1) c132_2)∧D tb c132_2=D tb (.seq (Rg L132_3) .ret):=⟨rfl,rfl⟩
def c133_0:=bodyOf Tryz.f133
def run133{args:List V}{st:St}(ha:args.length≤9):=a_1 (T:=tb) (fid:=133) (st:=st) (by rw[a_];exact Tryz.func133) (by rw[a_];rfl) (c:=c133_0) (rs:= #[.tmp 4]) rfl rfl rfl ha
def c133_2:=kid c133_0 1
noncomputable def L133_1:Lt (kid c133_0 0):= .mk _
noncomputable def L133_3:Lt (kid c133_2 0):= .mk _
theorem S133:D tb c133_0=D tb (.seq (Rg L133_1) c133_2)∧D tb c133_2=D tb (.seq (Rg L133_3) .ret):=⟨rfl,rfl⟩
def c158_0:=bodyOf Tryz.f158
def run158{args:List V}{st:St}(ha:args.length≤9):=a_6 (T:=tb) (fid:=158) (st:=st) (by rw[a_];exact Tryz.func158) (by rw[a_];rfl) (c:=c158_0) (rs:= #[.tmp 4]) rfl rfl rfl ha
def c158_2:=kid c158_0 1
noncomputable def L158_1:Lt (kid c158_0 0):= .mk _
noncomputable def L158_3:Lt (kid c158_2 0):= .mk _
theorem S158:D tb c158_0=D tb (.seq (Rg L158_1) c158_2)∧D tb c158_2=D tb (.seq (Rg L158_3) .ret):=⟨rfl,rfl⟩
def c159_0:=bodyOf Tryz.f159
def run159{args:List V}{st:St}(ha:args.length≤8):=m_0 (T:=tb) (fid:=159) (st:=st) (by rw[a_];exact Tryz.func159) (by rw[a_];rfl) (c:=c159_0) (rs:= #[.tmp 3]) rfl rfl rfl ha
def c159_2:=kid c159_0 1
noncomputable def L159_1:Lt (kid c159_0 0):= .mk _
noncomputable def L159_3:Lt (kid c159_2 0):= .mk _
theorem S159:D tb c159_0=D tb (.seq (Rg L159_1) c159_2)∧D tb c159_2=D tb (.seq (Rg L159_3) .ret):=⟨rfl,rfl⟩
def c164_0:=bodyOf Tryz.f164
def run164{args:List V}{st:St}(ha:args.length≤9):=a_6 (T:=tb) (fid:=164) (st:=st) (by rw[a_];exact Tryz.func164) (by rw[a_];rfl) (c:=c164_0) (rs:= #[.tmp 4]) rfl rfl rfl ha
def c164_2:=kid c164_0 1
noncomputable def L164_1:Lt (kid c164_0 0):= .mk _
noncomputable def L164_3:Lt (kid c164_2 0):= .mk _
theorem S164:D tb c164_0=D tb (.seq (Rg L164_1) c164_2)∧D tb c164_2=D tb (.seq (Rg L164_3) .ret):=⟨rfl,rfl⟩
def c165_0:=bodyOf Tryz.f165
def run165{args:List V}{st:St}(ha:args.length≤8):=m_0 (T:=tb) (fid:=165) (st:=st) (by rw[a_];exact Tryz.func165) (by rw[a_];rfl) (c:=c165_0) (rs:= #[.tmp 3]) rfl rfl rfl ha
def c165_2:=kid c165_0 1
noncomputable def L165_1:Lt (kid c165_0 0):= .mk _
noncomputable def L165_3:Lt (kid c165_2 0):= .mk _
theorem S165:D tb c165_0=D tb (.seq (Rg L165_1) c165_2)∧D tb c165_2=D tb (.seq (Rg L165_3) .ret):=⟨rfl,rfl⟩
def c167_0:=bodyOf Tryz.f167
def run167{args:List V}{st:St}(ha:args.length≤9):=a_6 (T:=tb) (fid:=167) (st:=st) (by rw[a_];exact Tryz.func167) (by rw[a_];rfl) (c:=c167_0) (rs:= #[.tmp 4]) rfl rfl rfl ha
def c167_2:=kid c167_0 1
noncomputable def L167_1:Lt (kid c167_0 0):= .mk _
noncomputable def L167_3:Lt (kid c167_2 0):= .mk _
theorem S167:D tb c167_0=D tb (.seq (Rg L167_1) c167_2)∧D tb c167_2=D tb (.seq (Rg L167_3) .ret):=⟨rfl,rfl⟩
def c168_0:=bodyOf Tryz.f168
def run168{args:List V}{st:St}(ha:args.length≤8):=m_0 (T:=tb) (fid:=168) (st:=st) (by rw[a_];exact Tryz.func168) (by rw[a_];rfl) (c:=c168_0) (rs:= #[.tmp 3]) rfl rfl rfl ha
def c168_2:=kid c168_0 1
noncomputable def L168_1:Lt (kid c168_0 0):= .mk _
noncomputable def L168_3:Lt (kid c168_2 0):= .mk _
theorem S168:D tb c168_0=D tb (.seq (Rg L168_1) c168_2)∧D tb c168_2=D tb (.seq (Rg L168_3) .ret):=⟨rfl,rfl⟩
def c169_0:=bodyOf Tryz.f169
def run169{args:List V}{st:St}(ha:args.length≤9):=a_6 (T:=tb) (fid:=169) (st:=st) (by rw[a_];exact Tryz.func169) (by rw[a_];rfl) (c:=c169_0) (rs:= #[.tmp 4]) rfl rfl rfl ha
def c169_2:=kid c169_0 1
noncomputable def L169_1:Lt (kid c169_0 0):= .mk _
noncomputable def L169_3:Lt (kid c169_2 0):= .mk _
theorem S169:D tb c169_0=D tb (.seq (Rg L169_1) c169_2)∧D tb c169_2=D tb (.seq (Rg L169_3) .ret):=⟨rfl,rfl⟩
def c170_0:=bodyOf Tryz.f170
def run170{args:List V}{st:St}(ha:args.length≤8):=m_0 (T:=tb) (fid:=170) (st:=st) (by rw[a_];exact Tryz.func170) (by rw[a_];rfl) (c:=c170_0) (rs:= #[.tmp 3]) rfl rfl rfl ha
def c170_2:=kid c170_0 1
noncomputable def L170_1:Lt (kid c170_0 0):= .mk _
noncomputable def L170_3:Lt (kid c170_2 0):= .mk _
theorem S170:D tb c170_0=D tb (.seq (Rg L170_1) c170_2)∧D tb c170_2=D tb (.seq (Rg L170_3) .ret):=⟨rfl,rfl⟩
def c171_0:=bodyOf Tryz.f171
def run171{args:List V}{st:St}(ha:args.length≤12):=a_1 (T:=tb) (fid:=171) (st:=st) (by rw[a_];exact Tryz.func171) (by rw[a_];rfl) (c:=c171_0) (rs:= #[.tmp 2]) rfl rfl rfl ha
def c171_2:=kid c171_0 1
noncomputable def L171_1:Lt (kid c171_0 0):= .mk _
noncomputable def L171_3:Lt (kid c171_2 0):= .mk _
theorem S171:D tb c171_0=D tb (.seq (Rg L171_1) c171_2)∧D tb c171_2=D tb (.seq (Rg L171_3) .ret):=⟨rfl,rfl⟩
def c172_0:=bodyOf Tryz.f172
def run172{args:List V}{st:St}(ha:args.length≤9):=a_1 (T:=tb) (fid:=172) (st:=st) (by rw[a_];exact Tryz.func172) (by rw[a_];rfl) (c:=c172_0) (rs:= #[.tmp 4]) rfl rfl rfl ha
def c172_2:=kid c172_0 1
noncomputable def L172_1:Lt (kid c172_0 0):= .mk _
noncomputable def L172_3:Lt (kid c172_2 0):= .mk _
theorem S172:D tb c172_0=D tb (.seq (Rg L172_1) c172_2)∧D tb c172_2=D tb (.seq (Rg L172_3) .ret):=⟨rfl,rfl⟩
def c173_0:=bodyOf Tryz.f173
def run173{args:List V}{st:St}(ha:args.length≤22):=a_1 (T:=tb) (fid:=173) (st:=st) (by rw[a_];exact Tryz.func173) (by rw[a_];rfl) (c:=c173_0) (rs:= #[.tmp 2]) rfl rfl rfl ha
def c173_2:=kid c173_0 1
noncomputable def L173_1:Lt (kid c173_0 0):= .mk _
noncomputable def L173_3:Lt (kid c173_2 0):= .mk _
theorem S173:D tb c173_0=D tb (.seq (Rg L173_1) c173_2)∧D tb c173_2=D tb (.seq (Rg L173_3) .ret):=⟨rfl,rfl⟩
def c184_0:=bodyOf Tryz.f184
theorem aP_3{args:List V}{st:St}(ha:args.length≤8):evBody tb (run tb) Tryz.f184 args st=leave tb [.tmp 2] ((run tb).code none c184_0 (mk 8 (argF args) []) st):=w_6 (c:=c184_0) (rs:= #[.tmp 2]) rfl rfl rfl ha
theorem bj_1:tb.fn 184=some Tryz.f184:=by rw[a_];exact Tryz.func184
theorem bm_1:tb.mode 184= .split:=by rw[a_];rfl
def c184_2:=kid c184_0 1
def c184_3:=kid c184_2 0
def c184_5:=kid c184_3 1
def c184_6:=kid c184_5 0
def c184_10:=kid c184_2 1
noncomputable def L184_1:Lt (kid c184_0 0):= .mk _
noncomputable def L184_4:Lt (kid c184_3 0):= .mk _
noncomputable def L184_7:Lt (kid c184_6 0):= .mk _
noncomputable def L184_11:Lt (kid c184_10 0):= .mk _
theorem S184:D tb c184_0=D tb (.seq (Rg L184_1) c184_2)∧D tb c184_2=D tb (.seq c184_3 c184_10)∧D tb c184_3=D tb (.seq (Rg L184_4) c184_5)∧D tb c184_5=D tb (.cond (.tmp 4) c184_6 .skip)∧D tb c184_6=D tb (.seq (Rg L184_7) .ret)∧D tb c184_10=D tb (.seq (Rg L184_11) .ret):=⟨rfl,rfl,rfl,rfl,rfl,rfl⟩
def c196_0:=bodyOf Tryz.f196
def run196{args:List V}{st:St}(ha:args.length≤9):=a_6 (T:=tb) (fid:=196) (st:=st) (by rw[a_];exact Tryz.func196) (by rw[a_];rfl) (c:=c196_0) (rs:= #[.tmp 4]) rfl rfl rfl ha
def c196_2:=kid c196_0 1
noncomputable def L196_1:Lt (kid c196_0 0):= .mk _
noncomputable def L196_3:Lt (kid c196_2 0):= .mk _
theorem S196:D tb c196_0=D tb (.seq (Rg L196_1) c196_2)∧D tb c196_2=D tb (.seq (Rg L196_3) .ret):=⟨rfl,rfl⟩
def c197_0:=bodyOf Tryz.f197
def run197{args:List V}{st:St}(ha:args.length≤8):=m_0 (T:=tb) (fid:=197) (st:=st) (by rw[a_];exact Tryz.func197) (by rw[a_];rfl) (c:=c197_0) (rs:= #[.tmp 3]) rfl rfl rfl ha
def c197_2:=kid c197_0 1
noncomputable def L197_1:Lt (kid c197_0 0):= .mk _
noncomputable def L197_3:Lt (kid c197_2 0):= .mk _
theorem S197:D tb c197_0=D tb (.seq (Rg L197_1) c197_2)∧D tb c197_2=D tb (.seq (Rg L197_3) .ret):=⟨rfl,rfl⟩
def c214_0:=bodyOf Tryz.f214
def run214{args:List V}{st:St}(ha:args.length≤9):=a_6 (T:=tb) (fid:=214) (st:=st) (by rw[a_];exact Tryz.func214) (by rw[a_];rfl) (c:=c214_0) (rs:= #[.tmp 4]) rfl rfl rfl ha
def c214_2:=kid c214_0 1
noncomputable def L214_1:Lt (kid c214_0 0):= .mk _
noncomputable def L214_3:Lt (kid c214_2 0):= .mk _
theorem S214:D tb c214_0=D tb (.seq (Rg L214_1) c214_2)∧D tb c214_2=D tb (.seq (Rg L214_3) .ret):=⟨rfl,rfl⟩
def c224_0:=bodyOf Tryz.f224
def run224{args:List V}{st:St}(ha:args.length≤19):=a_6 (T:=tb) (fid:=224) (st:=st) (by rw[a_];exact Tryz.func224) (by rw[a_];rfl) (c:=c224_0) (rs:= #[.tmp 4]) rfl rfl rfl ha
def c224_2:=kid c224_0 1
def c224_3:=kid c224_2 0
def c224_5:=kid c224_3 1
def c224_6:=kid c224_5 0
def c224_7:=kid c224_6 0
def c224_9:=kid c224_7 1
def c224_10:=kid c224_9 0
def c224_13:=kid c224_9 1
def c224_14:=kid c224_13 0
def c224_15:=kid c224_14 0
def c224_17:=kid c224_15 1
def c224_19:=kid c224_17 1
def c224_20:=kid c224_19 0
def c224_25:=kid c224_2 1
theorem p224_6:D tb c224_6 rd 19 f m st=loopK tb rd c224_6 19 f m st fun e fr st=>some (e,fr,st):=b_2
theorem e224_6:c224_6= .loop c224_7:=rfl
theorem w224_6:writes c224_7=some [9,10,5,11,12,13,14,15,16,17,4,18,8]:=by kernel_rfl
noncomputable def L224_1:Lt (kid c224_0 0):= .mk _
noncomputable def L224_4:Lt (kid c224_3 0):= .mk _
noncomputable def L224_8:Lt (kid c224_7 0):= .mk _
noncomputable def L224_16:Lt (kid c224_15 0):= .mk _
noncomputable def L224_18:Lt (kid c224_17 0):= .mk _
noncomputable def L224_21:Lt (kid c224_20 0):= .mk _
noncomputable def L224_24:Lt (kid c224_13 1):= .mk _
noncomputable def L224_26:Lt (kid c224_25 0):= .mk _
theorem S224:D tb c224_0=D tb (.seq (Rg L224_1) c224_2)∧D tb c224_2=D tb (.seq c224_3 c224_25)∧D tb c224_3=D tb (.seq (Rg L224_4) c224_5)∧D tb c224_5=D tb (.block 0 c224_6)∧D tb c224_7=D tb (.seq (Rg L224_8) c224_9)∧D tb c224_9=D tb (.seq c224_10 c224_13)∧D tb c224_10=D tb (.cond (.tmp 9) .skip (.exit 0))∧D tb c224_13=D tb (.seq c224_14 (Rg L224_24))∧D tb c224_14=D tb (.block 1 c224_15)∧D tb c224_15=D tb (.seq (Rg L224_16) c224_17)∧D tb c224_17=D tb (.seq (Rg L224_18) c224_19)∧D tb c224_19=D tb (.cond (.tmp 16) c224_20 .skip)∧D tb c224_20=D tb (.seq (Rg L224_21) .ret)∧D tb c224_25=D tb (.seq (Rg L224_26) .ret):=⟨rfl,rfl,rfl,rfl,rfl,rfl,rfl,rfl,rfl,rfl,rfl,rfl,rfl,rfl⟩
def c227_0:=bodyOf Tryz.f227
def run227{args:List V}{st:St}(ha:args.length≤19):=a_6 (T:=tb) (fid:=227) (st:=st) (by rw[a_];exact Tryz.func227) (by rw[a_];rfl) (c:=c227_0) (rs:= #[.tmp 4]) rfl rfl rfl ha
def c227_2:=kid c227_0 1
def c227_3:=kid c227_2 0
def c227_5:=kid c227_3 1
def c227_6:=kid c227_5 0
def c227_7:=kid c227_6 0
def c227_9:=kid c227_7 1
def c227_10:=kid c227_9 0
def c227_13:=kid c227_9 1
def c227_14:=kid c227_13 0
def c227_15:=kid c227_14 0
def c227_17:=kid c227_15 1
def c227_19:=kid c227_17 1
def c227_20:=kid c227_19 0
def c227_25:=kid c227_2 1
theorem p227_6:D tb c227_6 rd 19 f m st=loopK tb rd c227_6 19 f m st fun e fr st=>some (e,fr,st):=b_2
theorem e227_6:c227_6= .loop c227_7:=rfl
theorem w227_6:writes c227_7=some [9,10,5,11,12,13,14,15,16,17,4,18,8]:=by kernel_rfl
noncomputable def L227_1:Lt (kid c227_0 0):= .mk _
noncomputable def L227_4:Lt (kid c227_3 0):= .mk _
noncomputable def L227_8:Lt (kid c227_7 0):= .mk _
noncomputable def L227_16:Lt (kid c227_15 0):= .mk _
noncomputable def L227_18:Lt (kid c227_17 0):= .mk _
noncomputable def L227_21:Lt (kid c227_20 0):= .mk _
noncomputable def L227_24:Lt (kid c227_13 1):= .mk _
noncomputable def L227_26:Lt (kid c227_25 0):= .mk _
theorem S227:D tb c227_0=D tb (.seq (Rg L227_1) c227_2)∧D tb c227_2=D tb (.seq c227_3 c227_25)∧D tb c227_3=D tb (.seq (Rg L227_4) c227_5)∧D tb c227_5=D tb (.block 0 c227_6)∧D tb c227_7=D tb (.seq (Rg L227_8) c227_9)∧D tb c227_9=D tb (.seq c227_10 c227_13)∧D tb c227_10=D tb (.cond (.tmp 9) .skip (.exit 0))∧D tb c227_13=D tb (.seq c227_14 (Rg L227_24))∧D tb c227_14=D tb (.block 1 c227_15)∧D tb c227_15=D tb (.seq (Rg L227_16) c227_17)∧D tb c227_17=D tb (.seq (Rg L227_18) c227_19)∧D tb c227_19=D tb (.cond (.tmp 16) c227_20 .skip)∧D tb c227_20=D tb (.seq (Rg L227_21) .ret)∧D tb c227_25=D tb (.seq (Rg L227_26) .ret):=⟨rfl,rfl,rfl,rfl,rfl,rfl,rfl,rfl,rfl,rfl,rfl,rfl,rfl,rfl⟩
def c228_0:=bodyOf Tryz.f228
def run228{args:List V}{st:St}(ha:args.length≤9):=a_6 (T:=tb) (fid:=228) (st:=st) (by rw[a_];exact Tryz.func228) (by rw[a_];rfl) (c:=c228_0) (rs:= #[.tmp 4]) rfl rfl rfl ha
def c228_2:=kid c228_0 1
noncomputable def L228_1:Lt (kid c228_0 0):= .mk _
noncomputable def L228_3:Lt (kid c228_2 0):= .mk _
theorem S228:D tb c228_0=D tb (.seq (Rg L228_1) c228_2)∧D tb c228_2=D tb (.seq (Rg L228_3) .ret):=⟨rfl,rfl⟩
def c229_0:=bodyOf Tryz.f229
def run229{args:List V}{st:St}(ha:args.length≤8):=m_0 (T:=tb) (fid:=229) (st:=st) (by rw[a_];exact Tryz.func229) (by rw[a_];rfl) (c:=c229_0) (rs:= #[.tmp 3]) rfl rfl rfl ha
def c229_2:=kid c229_0 1
noncomputable def L229_1:Lt (kid c229_0 0):= .mk _
noncomputable def L229_3:Lt (kid c229_2 0):= .mk _
theorem S229:D tb c229_0=D tb (.seq (Rg L229_1) c229_2)∧D tb c229_2=D tb (.seq (Rg L229_3) .ret):=⟨rfl,rfl⟩
def c230_0:=bodyOf Tryz.f230
def run230{args:List V}{st:St}(ha:args.length≤9):=a_1 (T:=tb) (fid:=230) (st:=st) (by rw[a_];exact Tryz.func230) (by rw[a_];rfl) (c:=c230_0) (rs:= #[.tmp 4]) rfl rfl rfl ha
def c230_2:=kid c230_0 1
noncomputable def L230_1:Lt (kid c230_0 0):= .mk _
noncomputable def L230_3:Lt (kid c230_2 0):= .mk _
theorem S230:D tb c230_0=D tb (.seq (Rg L230_1) c230_2)∧D tb c230_2=D tb (.seq (Rg L230_3) .ret):=⟨rfl,rfl⟩
def c231_0:=bodyOf Tryz.f231
def run231{args:List V}{st:St}(ha:args.length≤50):=a_1 (T:=tb) (fid:=231) (st:=st) (by rw[a_];exact Tryz.func231) (by rw[a_];rfl) (c:=c231_0) (rs:= #[.tmp 2]) rfl rfl rfl ha
def c231_2:=kid c231_0 1
def c231_4:=kid c231_2 1
def c231_6:=kid c231_4 1
noncomputable def L231_1:Lt (kid c231_0 0):= .mk _
noncomputable def L231_3:Lt (kid c231_2 0):= .mk _
noncomputable def L231_5:Lt (kid c231_4 0):= .mk _
noncomputable def L231_7:Lt (kid c231_6 0):= .mk _
theorem S231:D tb c231_0=D tb (.seq (Rg L231_1) c231_2)∧D tb c231_2=D tb (.seq (Rg L231_3) c231_4)∧D tb c231_4=D tb (.seq (Rg L231_5) c231_6)∧D tb c231_6=D tb (.seq (Rg L231_7) .ret):=⟨rfl,rfl,rfl,rfl⟩
def c232_0:=bodyOf Tryz.f232
def run232{args:List V}{st:St}(ha:args.length≤61):=a_1 (T:=tb) (fid:=232) (st:=st) (by rw[a_];exact Tryz.func232) (by rw[a_];rfl) (c:=c232_0) (rs:= #[.tmp 2]) rfl rfl rfl ha
def c232_2:=kid c232_0 1
def c232_4:=kid c232_2 1
def c232_6:=kid c232_4 1
def c232_7:=kid c232_6 0
def c232_9:=kid c232_7 1
def c232_12:=kid c232_6 1
noncomputable def L232_1:Lt (kid c232_0 0):= .mk _
noncomputable def L232_3:Lt (kid c232_2 0):= .mk _
noncomputable def L232_5:Lt (kid c232_4 0):= .mk _
noncomputable def L232_8:Lt (kid c232_7 0):= .mk _
noncomputable def L232_10:Lt (kid c232_9 0):= .mk _
noncomputable def L232_13:Lt (kid c232_12 0):= .mk _
theorem S232:D tb c232_0=D tb (.seq (Rg L232_1) c232_2)∧D tb c232_2=D tb (.seq (Rg L232_3) c232_4)∧D tb c232_4=D tb (.seq (Rg L232_5) c232_6)∧D tb c232_6=D tb (.seq c232_7 c232_12)∧D tb c232_7=D tb (.seq (Rg L232_8) c232_9)∧D tb c232_9=D tb (.cond (.tmp 18) (Rg L232_10) .skip)∧D tb c232_12=D tb (.seq (Rg L232_13) .ret):=⟨rfl,rfl,rfl,rfl,rfl,rfl,rfl⟩
def c264_0:=bodyOf Tryz.f264
def run264{args:List V}{st:St}(ha:args.length≤19):=a_6 (T:=tb) (fid:=264) (st:=st) (by rw[a_];exact Tryz.func264) (by rw[a_];rfl) (c:=c264_0) (rs:= #[.tmp 4]) rfl rfl rfl ha
def c264_2:=kid c264_0 1
def c264_3:=kid c264_2 0
def c264_5:=kid c264_3 1
def c264_6:=kid c264_5 0
def c264_7:=kid c264_6 0
def c264_9:=kid c264_7 1
def c264_10:=kid c264_9 0
def c264_13:=kid c264_9 1
def c264_14:=kid c264_13 0
def c264_15:=kid c264_14 0
def c264_17:=kid c264_15 1
def c264_19:=kid c264_17 1
def c264_20:=kid c264_19 0
def c264_25:=kid c264_2 1
theorem p264_6:D tb c264_6 rd 19 f m st=loopK tb rd c264_6 19 f m st fun e fr st=>some (e,fr,st):=b_2
theorem e264_6:c264_6= .loop c264_7:=rfl
theorem w264_6:writes c264_7=some [9,10,5,11,12,13,14,15,16,17,4,18,8]:=by kernel_rfl
noncomputable def L264_1:Lt (kid c264_0 0):= .mk _
noncomputable def L264_4:Lt (kid c264_3 0):= .mk _
noncomputable def L264_8:Lt (kid c264_7 0):= .mk _
noncomputable def L264_16:Lt (kid c264_15 0):= .mk _
noncomputable def L264_18:Lt (kid c264_17 0):= .mk _
noncomputable def L264_21:Lt (kid c264_20 0):= .mk _
noncomputable def L264_24:Lt (kid c264_13 1):= .mk _
noncomputable def L264_26:Lt (kid c264_25 0):= .mk _
theorem S264:D tb c264_0=D tb (.seq (Rg L264_1) c264_2)∧D tb c264_2=D tb (.seq c264_3 c264_25)∧D tb c264_3=D tb (.seq (Rg L264_4) c264_5)∧D tb c264_5=D tb (.block 0 c264_6)∧D tb c264_7=D tb (.seq (Rg L264_8) c264_9)∧D tb c264_9=D tb (.seq c264_10 c264_13)∧D tb c264_10=D tb (.cond (.tmp 9) .skip (.exit 0))∧D tb c264_13=D tb (.seq c264_14 (Rg L264_24))∧D tb c264_14=D tb (.block 1 c264_15)∧D tb c264_15=D tb (.seq (Rg L264_16) c264_17)∧D tb c264_17=D tb (.seq (Rg L264_18) c264_19)∧D tb c264_19=D tb (.cond (.tmp 16) c264_20 .skip)∧D tb c264_20=D tb (.seq (Rg L264_21) .ret)∧D tb c264_25=D tb (.seq (Rg L264_26) .ret):=⟨rfl,rfl,rfl,rfl,rfl,rfl,rfl,rfl,rfl,rfl,rfl,rfl,rfl,rfl⟩
def c267_0:=bodyOf Tryz.f267
def run267{args:List V}{st:St}(ha:args.length≤19):=a_6 (T:=tb) (fid:=267) (st:=st) (by rw[a_];exact Tryz.func267) (by rw[a_];rfl) (c:=c267_0) (rs:= #[.tmp 4]) rfl rfl rfl ha
def c267_2:=kid c267_0 1
def c267_3:=kid c267_2 0
def c267_5:=kid c267_3 1
def c267_6:=kid c267_5 0
def c267_7:=kid c267_6 0
def c267_9:=kid c267_7 1
def c267_10:=kid c267_9 0
def c267_13:=kid c267_9 1
def c267_14:=kid c267_13 0
def c267_15:=kid c267_14 0
def c267_17:=kid c267_15 1
def c267_19:=kid c267_17 1
def c267_20:=kid c267_19 0
def c267_25:=kid c267_2 1
theorem p267_6:D tb c267_6 rd 19 f m st=loopK tb rd c267_6 19 f m st fun e fr st=>some (e,fr,st):=b_2
theorem e267_6:c267_6= .loop c267_7:=rfl
theorem w267_6:writes c267_7=some [9,10,5,11,12,13,14,15,16,17,4,18,8]:=by kernel_rfl
noncomputable def L267_1:Lt (kid c267_0 0):= .mk _
noncomputable def L267_4:Lt (kid c267_3 0):= .mk _
noncomputable def L267_8:Lt (kid c267_7 0):= .mk _
noncomputable def L267_16:Lt (kid c267_15 0):= .mk _
noncomputable def L267_18:Lt (kid c267_17 0):= .mk _
noncomputable def L267_21:Lt (kid c267_20 0):= .mk _
noncomputable def L267_24:Lt (kid c267_13 1):= .mk _
noncomputable def L267_26:Lt (kid c267_25 0):= .mk _
theorem S267:D tb c267_0=D tb (.seq (Rg L267_1) c267_2)∧D tb c267_2=D tb (.seq c267_3 c267_25)∧D tb c267_3=D tb (.seq (Rg L267_4) c267_5)∧D tb c267_5=D tb (.block 0 c267_6)∧D tb c267_7=D tb (.seq (Rg L267_8) c267_9)∧D tb c267_9=D tb (.seq c267_10 c267_13)∧D tb c267_10=D tb (.cond (.tmp 9) .skip (.exit 0))∧D tb c267_13=D tb (.seq c267_14 (Rg L267_24))∧D tb c267_14=D tb (.block 1 c267_15)∧D tb c267_15=D tb (.seq (Rg L267_16) c267_17)∧D tb c267_17=D tb (.seq (Rg L267_18) c267_19)∧D tb c267_19=D tb (.cond (.tmp 16) c267_20 .skip)∧D tb c267_20=D tb (.seq (Rg L267_21) .ret)∧D tb c267_25=D tb (.seq (Rg L267_26) .ret):=⟨rfl,rfl,rfl,rfl,rfl,rfl,rfl,rfl,rfl,rfl,rfl,rfl,rfl,rfl⟩
def c276_0:=bodyOf Tryz.f276
def run276{args:List V}{st:St}(ha:args.length≤9):=a_6 (T:=tb) (fid:=276) (st:=st) (by rw[a_];exact Tryz.func276) (by rw[a_];rfl) (c:=c276_0) (rs:= #[.tmp 4]) rfl rfl rfl ha
def c276_2:=kid c276_0 1
noncomputable def L276_1:Lt (kid c276_0 0):= .mk _
noncomputable def L276_3:Lt (kid c276_2 0):= .mk _
theorem S276:D tb c276_0=D tb (.seq (Rg L276_1) c276_2)∧D tb c276_2=D tb (.seq (Rg L276_3) .ret):=⟨rfl,rfl⟩
def c277_0:=bodyOf Tryz.f277
def run277{args:List V}{st:St}(ha:args.length≤8):=m_0 (T:=tb) (fid:=277) (st:=st) (by rw[a_];exact Tryz.func277) (by rw[a_];rfl) (c:=c277_0) (rs:= #[.tmp 3]) rfl rfl rfl ha
def c277_2:=kid c277_0 1
noncomputable def L277_1:Lt (kid c277_0 0):= .mk _
noncomputable def L277_3:Lt (kid c277_2 0):= .mk _
theorem S277:D tb c277_0=D tb (.seq (Rg L277_1) c277_2)∧D tb c277_2=D tb (.seq (Rg L277_3) .ret):=⟨rfl,rfl⟩
def c278_0:=bodyOf Tryz.f278
def run278{args:List V}{st:St}(ha:args.length≤29):=a_1 (T:=tb) (fid:=278) (st:=st) (by rw[a_];exact Tryz.func278) (by rw[a_];rfl) (c:=c278_0) (rs:= #[.cell 2 265, .tmp 3]) rfl rfl rfl ha
def c278_2:=kid c278_0 1
def c278_3:=kid c278_2 0
def c278_5:=kid c278_3 1
def c278_6:=kid c278_5 0
def c278_8:=kid c278_6 1
def c278_9:=kid c278_8 0
def c278_12:=kid c278_8 1
def c278_13:=kid c278_12 0
def c278_15:=kid c278_13 1
def c278_17:=kid c278_15 1
def c278_19:=kid c278_17 1
def c278_22:=kid c278_12 1
def c278_23:=kid c278_22 0
def c278_26:=kid c278_22 1
def c278_27:=kid c278_26 0
def c278_29:=kid c278_27 1
def c278_31:=kid c278_29 1
def c278_33:=kid c278_31 1
def c278_35:=kid c278_33 1
def c278_37:=kid c278_35 1
def c278_40:=kid c278_26 1
def c278_41:=kid c278_40 0
def c278_44:=kid c278_40 1
def c278_46:=kid c278_44 1
def c278_47:=kid c278_46 0
def c278_50:=kid c278_46 1
def c278_52:=kid c278_50 1
def c278_53:=kid c278_52 0
def c278_56:=kid c278_52 1
def c278_58:=kid c278_56 1
def c278_59:=kid c278_58 0
def c278_63:=kid c278_2 1
noncomputable def L278_1:Lt (kid c278_0 0):= .mk _
noncomputable def L278_4:Lt (kid c278_3 0):= .mk _
noncomputable def L278_7:Lt (kid c278_6 0):= .mk _
noncomputable def L278_10:Lt (kid c278_9 0):= .mk _
noncomputable def L278_14:Lt (kid c278_13 0):= .mk _
noncomputable def L278_18:Lt (kid c278_17 0):= .mk _
noncomputable def L278_21:Lt (kid c278_19 1):= .mk _
noncomputable def L278_24:Lt (kid c278_23 0):= .mk _
noncomputable def L278_28:Lt (kid c278_27 0):= .mk _
noncomputable def L278_32:Lt (kid c278_31 0):= .mk _
noncomputable def L278_36:Lt (kid c278_35 0):= .mk _
noncomputable def L278_39:Lt (kid c278_37 1):= .mk _
noncomputable def L278_42:Lt (kid c278_41 0):= .mk _
noncomputable def L278_45:Lt (kid c278_44 0):= .mk _
noncomputable def L278_48:Lt (kid c278_47 0):= .mk _
noncomputable def L278_51:Lt (kid c278_50 0):= .mk _
noncomputable def L278_54:Lt (kid c278_53 0):= .mk _
noncomputable def L278_57:Lt (kid c278_56 0):= .mk _
noncomputable def L278_60:Lt (kid c278_59 0):= .mk _
noncomputable def L278_64:Lt (kid c278_63 0):= .mk _
theorem S278:D tb c278_0=D tb (.seq (Rg L278_1) c278_2)∧D tb c278_2=D tb (.seq c278_3 c278_63)∧D tb c278_3=D tb (.seq (Rg L278_4) c278_5)∧D tb c278_5=D tb (.block 0 c278_6)∧D tb c278_6=D tb (.seq (Rg L278_7) c278_8)∧D tb c278_8=D tb (.cond (.tmp 5) c278_9 c278_12)∧D tb c278_9=D tb (.seq (Rg L278_10) .ret)∧D tb c278_12=D tb (.seq c278_13 c278_22)∧D tb c278_13=D tb (.seq (Rg L278_14) c278_15)∧D tb c278_15=D tb (.cond (.tmp 8) .skip c278_17)∧D tb c278_17=D tb (.seq (Rg L278_18) c278_19)∧D tb c278_19=D tb (.cond (.tmp 8) .skip (Rg L278_21))∧D tb c278_22=D tb (.cond (.tmp 8) c278_23 c278_26)∧D tb c278_23=D tb (.seq (Rg L278_24) .ret)∧D tb c278_26=D tb (.seq c278_27 c278_40)∧D tb c278_27=D tb (.seq (Rg L278_28) c278_29)∧D tb c278_29=D tb (.cond (.tmp 13) .skip c278_31)∧D tb c278_31=D tb (.seq (Rg L278_32) c278_33)∧D tb c278_33=D tb (.cond (.tmp 13) .skip c278_35)∧D tb c278_35=D tb (.seq (Rg L278_36) c278_37)∧D tb c278_37=D tb (.cond (.tmp 13) .skip (Rg L278_39))∧D tb c278_40=D tb (.cond (.tmp 13) c278_41 c278_44)∧D tb c278_41=D tb (.seq (Rg L278_42) .ret)∧D tb c278_44=D tb (.seq (Rg L278_45) c278_46)∧D tb c278_46=D tb (.cond (.tmp 19) c278_47 c278_50)∧D tb c278_47=D tb (.seq (Rg L278_48) .ret)∧D tb c278_50=D tb (.seq (Rg L278_51) c278_52)∧D tb c278_52=D tb (.cond (.tmp 22) c278_53 c278_56)∧D tb c278_53=D tb (.seq (Rg L278_54) .ret)∧D tb c278_56=D tb (.seq (Rg L278_57) c278_58)∧D tb c278_58=D tb (.cond (.tmp 25) c278_59 .skip)∧D tb c278_59=D tb (.seq (Rg L278_60) .ret)∧D tb c278_63=D tb (.seq (Rg L278_64) .ret):=⟨rfl,rfl,rfl,rfl,rfl,rfl,rfl,rfl,rfl,rfl,rfl,rfl,rfl,rfl,rfl,rfl,rfl,rfl,rfl,rfl,rfl,rfl,rfl,rfl,rfl,rfl,rfl,rfl,rfl,rfl,rfl,rfl,rfl⟩
def c279_0:=bodyOf Tryz.f279
def run279{args:List V}{st:St}(ha:args.length≤10):=a_1 (T:=tb) (fid:=279) (st:=st) (by rw[a_];exact Tryz.func279) (by rw[a_];rfl) (c:=c279_0) (rs:= #[.tmp 4]) rfl rfl rfl ha
def c279_2:=kid c279_0 1
def c279_3:=kid c279_2 0
def c279_5:=kid c279_3 1
def c279_6:=kid c279_5 0
def c279_10:=kid c279_2 1
noncomputable def L279_1:Lt (kid c279_0 0):= .mk _
noncomputable def L279_4:Lt (kid c279_3 0):= .mk _
noncomputable def L279_7:Lt (kid c279_6 0):= .mk _
noncomputable def L279_11:Lt (kid c279_10 0):= .mk _
theorem S279:D tb c279_0=D tb (.seq (Rg L279_1) c279_2)∧D tb c279_2=D tb (.seq c279_3 c279_10)∧D tb c279_3=D tb (.seq (Rg L279_4) c279_5)∧D tb c279_5=D tb (.cond (.tmp 5) c279_6 .skip)∧D tb c279_6=D tb (.seq (Rg L279_7) .ret)∧D tb c279_10=D tb (.seq (Rg L279_11) .ret):=⟨rfl,rfl,rfl,rfl,rfl,rfl⟩
def c280_0:=bodyOf Tryz.f280
def run280{args:List V}{st:St}(ha:args.length≤41):=a_1 (T:=tb) (fid:=280) (st:=st) (by rw[a_];exact Tryz.func280) (by rw[a_];rfl) (c:=c280_0) (rs:= #[.tmp 8]) rfl rfl rfl ha
def c280_2:=kid c280_0 1
def c280_4:=kid c280_2 1
def c280_5:=kid c280_4 0
def c280_7:=kid c280_5 1
def c280_10:=kid c280_4 1
noncomputable def L280_1:Lt (kid c280_0 0):= .mk _
noncomputable def L280_3:Lt (kid c280_2 0):= .mk _
noncomputable def L280_6:Lt (kid c280_5 0):= .mk _
noncomputable def L280_8:Lt (kid c280_7 0):= .mk _
noncomputable def L280_11:Lt (kid c280_10 0):= .mk _
theorem S280:D tb c280_0=D tb (.seq (Rg L280_1) c280_2)∧D tb c280_2=D tb (.seq (Rg L280_3) c280_4)∧D tb c280_4=D tb (.seq c280_5 c280_10)∧D tb c280_5=D tb (.seq (Rg L280_6) c280_7)∧D tb c280_7=D tb (.cond (.tmp 13) (Rg L280_8) .skip)∧D tb c280_10=D tb (.seq (Rg L280_11) .ret):=⟨rfl,rfl,rfl,rfl,rfl,rfl⟩
def c281_0:=bodyOf Tryz.f281
def run281{args:List V}{st:St}(ha:args.length≤21):=a_1 (T:=tb) (fid:=281) (st:=st) (by rw[a_];exact Tryz.func281) (by rw[a_];rfl) (c:=c281_0) (rs:= #[.cell 2 265, .tmp 3]) rfl rfl rfl ha
def c281_2:=kid c281_0 1
def c281_3:=kid c281_2 0
def c281_5:=kid c281_3 1
def c281_6:=kid c281_5 0
def c281_7:=kid c281_6 0
def c281_9:=kid c281_7 1
def c281_12:=kid c281_6 1
def c281_13:=kid c281_12 0
def c281_16:=kid c281_12 1
def c281_18:=kid c281_16 1
def c281_19:=kid c281_18 0
def c281_22:=kid c281_18 1
def c281_23:=kid c281_22 0
def c281_25:=kid c281_23 1
def c281_28:=kid c281_22 1
def c281_29:=kid c281_28 0
def c281_32:=kid c281_28 1
def c281_33:=kid c281_32 0
def c281_35:=kid c281_33 1
def c281_38:=kid c281_32 1
def c281_39:=kid c281_38 0
def c281_43:=kid c281_2 1
noncomputable def L281_1:Lt (kid c281_0 0):= .mk _
noncomputable def L281_4:Lt (kid c281_3 0):= .mk _
noncomputable def L281_8:Lt (kid c281_7 0):= .mk _
noncomputable def L281_11:Lt (kid c281_9 1):= .mk _
noncomputable def L281_14:Lt (kid c281_13 0):= .mk _
noncomputable def L281_17:Lt (kid c281_16 0):= .mk _
noncomputable def L281_20:Lt (kid c281_19 0):= .mk _
noncomputable def L281_24:Lt (kid c281_23 0):= .mk _
noncomputable def L281_27:Lt (kid c281_25 1):= .mk _
noncomputable def L281_30:Lt (kid c281_29 0):= .mk _
noncomputable def L281_34:Lt (kid c281_33 0):= .mk _
noncomputable def L281_37:Lt (kid c281_35 1):= .mk _
noncomputable def L281_40:Lt (kid c281_39 0):= .mk _
noncomputable def L281_44:Lt (kid c281_43 0):= .mk _
theorem S281:D tb c281_0=D tb (.seq (Rg L281_1) c281_2)∧D tb c281_2=D tb (.seq c281_3 c281_43)∧D tb c281_3=D tb (.seq (Rg L281_4) c281_5)∧D tb c281_5=D tb (.block 0 c281_6)∧D tb c281_6=D tb (.seq c281_7 c281_12)∧D tb c281_7=D tb (.seq (Rg L281_8) c281_9)∧D tb c281_9=D tb (.cond (.tmp 5) .skip (Rg L281_11))∧D tb c281_12=D tb (.cond (.tmp 5) c281_13 c281_16)∧D tb c281_13=D tb (.seq (Rg L281_14) .ret)∧D tb c281_16=D tb (.seq (Rg L281_17) c281_18)∧D tb c281_18=D tb (.cond (.tmp 9) c281_19 c281_22)∧D tb c281_19=D tb (.seq (Rg L281_20) .ret)∧D tb c281_22=D tb (.seq c281_23 c281_28)∧D tb c281_23=D tb (.seq (Rg L281_24) c281_25)∧D tb c281_25=D tb (.cond (.tmp 12) .skip (Rg L281_27))∧D tb c281_28=D tb (.cond (.tmp 12) c281_29 c281_32)∧D tb c281_29=D tb (.seq (Rg L281_30) .ret)∧D tb c281_32=D tb (.seq c281_33 c281_38)∧D tb c281_33=D tb (.seq (Rg L281_34) c281_35)∧D tb c281_35=D tb (.cond (.tmp 16) .skip (Rg L281_37))∧D tb c281_38=D tb (.cond (.tmp 16) c281_39 .skip)∧D tb c281_39=D tb (.seq (Rg L281_40) .ret)∧D tb c281_43=D tb (.seq (Rg L281_44) .ret):=⟨rfl,rfl,rfl,rfl,rfl,rfl,rfl,rfl,rfl,rfl,rfl,rfl,rfl,rfl,rfl,rfl,rfl,rfl,rfl,rfl,rfl,rfl,rfl⟩
def c282_0:=bodyOf Tryz.f282
def run282{args:List V}{st:St}(ha:args.length≤9):=a_1 (T:=tb) (fid:=282) (st:=st) (by rw[a_];exact Tryz.func282) (by rw[a_];rfl) (c:=c282_0) (rs:= #[.tmp 4]) rfl rfl rfl ha
def c282_2:=kid c282_0 1
noncomputable def L282_1:Lt (kid c282_0 0):= .mk _
noncomputable def L282_3:Lt (kid c282_2 0):= .mk _
theorem S282:D tb c282_0=D tb (.seq (Rg L282_1) c282_2)∧D tb c282_2=D tb (.seq (Rg L282_3) .ret):=⟨rfl,rfl⟩
def c283_0:=bodyOf Tryz.f283
def run283{args:List V}{st:St}(ha:args.length≤21):=a_1 (T:=tb) (fid:=283) (st:=st) (by rw[a_];exact Tryz.func283) (by rw[a_];rfl) (c:=c283_0) (rs:= #[.tmp 2]) rfl rfl rfl ha
def c283_2:=kid c283_0 1
noncomputable def L283_1:Lt (kid c283_0 0):= .mk _
noncomputable def L283_3:Lt (kid c283_2 0):= .mk _
theorem S283:D tb c283_0=D tb (.seq (Rg L283_1) c283_2)∧D tb c283_2=D tb (.seq (Rg L283_3) .ret):=⟨rfl,rfl⟩
def c301_0:=bodyOf Tryz.f301
def run301{args:List V}{st:St}(ha:args.length≤19):=a_6 (T:=tb) (fid:=301) (st:=st) (by rw[a_];exact Tryz.func301) (by rw[a_];rfl) (c:=c301_0) (rs:= #[.tmp 4]) rfl rfl rfl ha
def c301_2:=kid c301_0 1
def c301_3:=kid c301_2 0
def c301_5:=kid c301_3 1
def c301_6:=kid c301_5 0
def c301_7:=kid c301_6 0
def c301_9:=kid c301_7 1
def c301_10:=kid c301_9 0
def c301_13:=kid c301_9 1
def c301_14:=kid c301_13 0
def c301_15:=kid c301_14 0
def c301_17:=kid c301_15 1
def c301_19:=kid c301_17 1
def c301_20:=kid c301_19 0
def c301_25:=kid c301_2 1
theorem p301_6:D tb c301_6 rd 19 f m st=loopK tb rd c301_6 19 f m st fun e fr st=>some (e,fr,st):=b_2
theorem e301_6:c301_6= .loop c301_7:=rfl
theorem w301_6:writes c301_7=some [9,10,5,11,12,13,14,15,16,17,4,18,8]:=by kernel_rfl
noncomputable def L301_1:Lt (kid c301_0 0):= .mk _
noncomputable def L301_4:Lt (kid c301_3 0):= .mk _
noncomputable def L301_8:Lt (kid c301_7 0):= .mk _
noncomputable def L301_16:Lt (kid c301_15 0):= .mk _
noncomputable def L301_18:Lt (kid c301_17 0):= .mk _
noncomputable def L301_21:Lt (kid c301_20 0):= .mk _
noncomputable def L301_24:Lt (kid c301_13 1):= .mk _
noncomputable def L301_26:Lt (kid c301_25 0):= .mk _
theorem S301:D tb c301_0=D tb (.seq (Rg L301_1) c301_2)∧D tb c301_2=D tb (.seq c301_3 c301_25)∧D tb c301_3=D tb (.seq (Rg L301_4) c301_5)∧D tb c301_5=D tb (.block 0 c301_6)∧D tb c301_7=D tb (.seq (Rg L301_8) c301_9)∧D tb c301_9=D tb (.seq c301_10 c301_13)∧D tb c301_10=D tb (.cond (.tmp 9) .skip (.exit 0))∧D tb c301_13=D tb (.seq c301_14 (Rg L301_24))∧D tb c301_14=D tb (.block 1 c301_15)∧D tb c301_15=D tb (.seq (Rg L301_16) c301_17)∧D tb c301_17=D tb (.seq (Rg L301_18) c301_19)∧D tb c301_19=D tb (.cond (.tmp 16) c301_20 .skip)∧D tb c301_20=D tb (.seq (Rg L301_21) .ret)∧D tb c301_25=D tb (.seq (Rg L301_26) .ret):=⟨rfl,rfl,rfl,rfl,rfl,rfl,rfl,rfl,rfl,rfl,rfl,rfl,rfl,rfl⟩
def c302_0:=bodyOf Tryz.f302
def run302{args:List V}{st:St}(ha:args.length≤12):=a_1 (T:=tb) (fid:=302) (st:=st) (by rw[a_];exact Tryz.func302) (by rw[a_];rfl) (c:=c302_0) (rs:= #[.tmp 2]) rfl rfl rfl ha
def c302_2:=kid c302_0 1
noncomputable def L302_1:Lt (kid c302_0 0):= .mk _
noncomputable def L302_3:Lt (kid c302_2 0):= .mk _
theorem S302:D tb c302_0=D tb (.seq (Rg L302_1) c302_2)∧D tb c302_2=D tb (.seq (Rg L302_3) .ret):=⟨rfl,rfl⟩
def c303_0:=bodyOf Tryz.f303
def run303{args:List V}{st:St}(ha:args.length≤9):=a_1 (T:=tb) (fid:=303) (st:=st) (by rw[a_];exact Tryz.func303) (by rw[a_];rfl) (c:=c303_0) (rs:= #[.tmp 4]) rfl rfl rfl ha
def c303_2:=kid c303_0 1
noncomputable def L303_1:Lt (kid c303_0 0):= .mk _
noncomputable def L303_3:Lt (kid c303_2 0):= .mk _
theorem S303:D tb c303_0=D tb (.seq (Rg L303_1) c303_2)∧D tb c303_2=D tb (.seq (Rg L303_3) .ret):=⟨rfl,rfl⟩
def c304_0:=bodyOf Tryz.f304
def run304{args:List V}{st:St}(ha:args.length≤9):=a_6 (T:=tb) (fid:=304) (st:=st) (by rw[a_];exact Tryz.func304) (by rw[a_];rfl) (c:=c304_0) (rs:= #[.tmp 4]) rfl rfl rfl ha
def c304_2:=kid c304_0 1
noncomputable def L304_1:Lt (kid c304_0 0):= .mk _
noncomputable def L304_3:Lt (kid c304_2 0):= .mk _
theorem S304:D tb c304_0=D tb (.seq (Rg L304_1) c304_2)∧D tb c304_2=D tb (.seq (Rg L304_3) .ret):=⟨rfl,rfl⟩
def c305_0:=bodyOf Tryz.f305
def run305{args:List V}{st:St}(ha:args.length≤8):=m_0 (T:=tb) (fid:=305) (st:=st) (by rw[a_];exact Tryz.func305) (by rw[a_];rfl) (c:=c305_0) (rs:= #[.tmp 3]) rfl rfl rfl ha
def c305_2:=kid c305_0 1
noncomputable def L305_1:Lt (kid c305_0 0):= .mk _
noncomputable def L305_3:Lt (kid c305_2 0):= .mk _
theorem S305:D tb c305_0=D tb (.seq (Rg L305_1) c305_2)∧D tb c305_2=D tb (.seq (Rg L305_3) .ret):=⟨rfl,rfl⟩
def c324_0:=bodyOf Tryz.f324
def run324{args:List V}{st:St}(ha:args.length≤8):=m_0 (T:=tb) (fid:=324) (st:=st) (by rw[a_];exact Tryz.func324) (by rw[a_];rfl) (c:=c324_0) (rs:= #[.tmp 3]) rfl rfl rfl ha
def c324_2:=kid c324_0 1
noncomputable def L324_1:Lt (kid c324_0 0):= .mk _
noncomputable def L324_3:Lt (kid c324_2 0):= .mk _
theorem S324:D tb c324_0=D tb (.seq (Rg L324_1) c324_2)∧D tb c324_2=D tb (.seq (Rg L324_3) .ret):=⟨rfl,rfl⟩
def c325_0:=bodyOf Tryz.f325
def run325{args:List V}{st:St}(ha:args.length≤19):=a_6 (T:=tb) (fid:=325) (st:=st) (by rw[a_];exact Tryz.func325) (by rw[a_];rfl) (c:=c325_0) (rs:= #[.tmp 4]) rfl rfl rfl ha
def c325_2:=kid c325_0 1
def c325_3:=kid c325_2 0
def c325_5:=kid c325_3 1
def c325_6:=kid c325_5 0
def c325_7:=kid c325_6 0
def c325_9:=kid c325_7 1
def c325_10:=kid c325_9 0
def c325_13:=kid c325_9 1
def c325_14:=kid c325_13 0
def c325_15:=kid c325_14 0
def c325_17:=kid c325_15 1
def c325_19:=kid c325_17 1
def c325_20:=kid c325_19 0
def c325_25:=kid c325_2 1
theorem p325_6:D tb c325_6 rd 19 f m st=loopK tb rd c325_6 19 f m st fun e fr st=>some (e,fr,st):=b_2
theorem e325_6:c325_6= .loop c325_7:=rfl
theorem w325_6:writes c325_7=some [9,10,5,11,12,13,14,15,16,17,4,18,8]:=by kernel_rfl
noncomputable def L325_1:Lt (kid c325_0 0):= .mk _
noncomputable def L325_4:Lt (kid c325_3 0):= .mk _
noncomputable def L325_8:Lt (kid c325_7 0):= .mk _
noncomputable def L325_16:Lt (kid c325_15 0):= .mk _
noncomputable def L325_18:Lt (kid c325_17 0):= .mk _
noncomputable def L325_21:Lt (kid c325_20 0):= .mk _
noncomputable def L325_24:Lt (kid c325_13 1):= .mk _
noncomputable def L325_26:Lt (kid c325_25 0):= .mk _
theorem S325:D tb c325_0=D tb (.seq (Rg L325_1) c325_2)∧D tb c325_2=D tb (.seq c325_3 c325_25)∧D tb c325_3=D tb (.seq (Rg L325_4) c325_5)∧D tb c325_5=D tb (.block 0 c325_6)∧D tb c325_7=D tb (.seq (Rg L325_8) c325_9)∧D tb c325_9=D tb (.seq c325_10 c325_13)∧D tb c325_10=D tb (.cond (.tmp 9) .skip (.exit 0))∧D tb c325_13=D tb (.seq c325_14 (Rg L325_24))∧D tb c325_14=D tb (.block 1 c325_15)∧D tb c325_15=D tb (.seq (Rg L325_16) c325_17)∧D tb c325_17=D tb (.seq (Rg L325_18) c325_19)∧D tb c325_19=D tb (.cond (.tmp 16) c325_20 .skip)∧D tb c325_20=D tb (.seq (Rg L325_21) .ret)∧D tb c325_25=D tb (.seq (Rg L325_26) .ret):=⟨rfl,rfl,rfl,rfl,rfl,rfl,rfl,rfl,rfl,rfl,rfl,rfl,rfl,rfl⟩
end
end Go.Proofs.YtbbeelalcamgjaaGreatDoor
