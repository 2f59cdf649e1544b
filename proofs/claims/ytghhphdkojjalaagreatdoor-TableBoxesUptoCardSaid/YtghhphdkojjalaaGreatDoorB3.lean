/- A shared part of the proofs of the Table statements: a verified evaluator, the code in parts, the functions walked. -/
import Derived.Test.YtghhphdkojjalaaGreatDoorRows
import Derived.Lay
import Derived.MakeChecks
import Derived.Test.YtghhphdkojjalaaGreatDoorB2
set_option linter.unusedVariables false
set_option linter.unusedSimpArgs false
set_option linter.unnecessarySimpa false
set_option linter.all false
namespace Go.Proofs.YtghhphdkojjalaaGreatDoor
open Go.Abs
attribute [local simp] K_0 L_0 q_ z_4 l_0 M_1 z_ y_2 t_9 c_7 j_7 m_9 c_ e_9 j_8 c_3 h_4 finish dropMarks resOf
 resList o_3 l_4 i_8 e_6 d_ c_1 n_5 j_ c_0 b_ a_9 c_4 v_1 c_2 f_7 f_5
 c_6 c_8 e_5 m_8 L_4 D_1 m_3 B_5 f_ M_0 s_un D_0 s_ c_9 d_2 q_7 r_9 j_6 z_2 r_3 K_5 B_ D_ L_1
 l_6 d_1 b_9 l_7 q_4 g_ i_2 m_0 m_7 m_4 m_6 a_7 d_0 f_6 e_4 e_2 j_5 j_1 i_4
 e_1 t_3 m_1 n_4 n_1 s_6 t_2 u_5 q_5 i_9 s_7 evArgs o_5 k_ l_8 f_3 g_9 v_2 ofValue ofValues isConst C_7 y_8
 x_8 x_4 A_0 z_3 C_0 y_3 z_1 B_0 C_2 z_8 C_6 A_5 A_6 y_ strBin bne C_3 B_3 B_6 convV evConv optArg a_6 argF B_4 s_9 q_8 p_
 n_2 x_5 t_4 p_4 l_2 k_0 i_0 g_1 j_4 g_5 d_8 y_5 u_0 i_5 k_1 okCells L_3 b_4 g_0 d_9 i_3 i_1
 f_1 i_6 j_0 l_ q_9 r_4 m_ t_6 s_5 n_0 t_ t_8 j_2 h_1 e_3 e_0 h_3 splice putElem k_8 aa_2 aa_8
 i_ l_1 g_6 t_7 e_8 bdV bdA arrP fill l_9 bsF setAll d_6 f_2 x_1 n_7 e_7 h_6 h_5 f_4 p_2 v_7 t_1 s_1
 x_7 r_5 s_0 p_6 j_9 q_3 x_2 C_4 p_5 g_8 d_7 p_3 v_8 p_0 u_2 h_8 z_5 q_0 n_3 y_4 u_4 u_3 C_5 l_5 r_1
 d_4 n_ h_7 B_1 q_6 C_1 A_8 B_7 g_7 r_7 q_1 y_7 y_6 y_9 x_6 u_1 l_3 u_7 Q_8 s_4 deep List.getD_cons_zero
 List.getD_cons_succ List.getElem?_cons_zero List.getElem?_cons_succ List.getElem?_nil t_0 s_2 A_9 x_9 y_0 A_2 u_6 q_2 B_9 y_1 r_0 s_8 r_6 t_5 r_2
 r_ n_6 m_5 z_7 z_6 j_3 i_7 s_3 r_8 f_9 f_0 A_ C_8 ab_4 A_4 C_9 ab_8 ld26 sr26 al26 F_8 G_ F_9 bd26 ld4 sr4 und4 ld62
 bd62 ap_6 ia30 ln30 lo30 ap30 bs30 ld35 sr35 Q_3 ia35 ib35 ln35 lo35 sl35 ap35 bs35 bA_ ib93 ap93 bs93 by_2 ib94 ap94 bs94 ld22 T_ ia22 ib22 ln22 lo22 ap22 bs22 ld3 sr3 und3 ld37 sr37 al37
 I_1 I_2 I_0 I_4 I_3 bd37 ld9 und9 ln9 ix9 ld49 sr49 al49 M_5 M_6 bd49 ld23 T_0 ia23 ib23 ln23 lo23 ap23 bs23 ld45 sr45 al45 K_8 K_9 K_3 bd45 o_9 A_3 B_8
 o_6 o_7 k_7 c_5 k_4 o_2 q12_75 l12_75 Y_7 O_4 O_2 X_5 kdOp kdOf isPure readsOf protS q12_99 l12_99 p12_22 p12_41 p12_60 p12_89 ld67 sr67 R_0 ia67 ib67 ln67
 lo67 sl67 sv67 ap67 bs67 lu99 mu99 mm99 p20_16 ld29 sr29 al29 pe29 bv_2 q4_31 l4_31 q7_45 l7_45 q7_47 l7_47 D_Rg S3 L3_1 L3_4 L3_7 L3_12 L3_15 L3_19 L3_21 L3_23 S4 L4_1 L4_4 L4_7 L4_12 L4_15 L4_19
 L4_22 L4_25 L4_29 S7 L7_1 L7_4 L7_7 L7_12 L7_15 L7_19 L7_22 L7_25 L7_29 L7_31 L7_33 L7_35 L7_37 L7_39 L7_41 L7_43 S8 L8_1 L8_4 L8_7 L8_12 L8_15 L8_19 L8_22 L8_25 L8_29 L8_31 L8_33 L8_36 L8_39 L8_43
 L8_45 S12 L12_1 L12_4 L12_7 L12_11 L12_13 L12_15 L12_17 L12_20 L12_25 L12_32 L12_34 L12_35 L12_36 L12_39 L12_44 L12_51 L12_53 L12_54 L12_55 L12_58 L12_63 L12_71 L12_73 L12_76 L12_79 L12_82 L12_87
 L12_92 L12_101 L12_103 L12_105 S20 L20_1 L20_4 L20_7 L20_11 L20_13 L20_19 L20_25 L20_27 L20_29 L20_32 L20_35 L20_40 L20_42 L20_44 L20_46
set_option maxRecDepth 100000
set_option linter.unusedSimpArgs false
set_option linter.unusedVariables false
set_option maxHeartbeats 4000000
theorem bs_1(p:Prog)(hn:p.structs.length≤16)(hn2:p.enums.length≤16)(F:Nat→V)(s:St)(g1:F 1= .ptr 0 0)(g8:F 8= .int .i64 0)(h:ThreeD p s (F 4) (F 5) (F 6) (p.structs.map Decl.ofS)):
  Out 152 [] (fun e f' st'=>(e= .exit 2∧ThreeD p st' (f' 4) (f' 5) (f' 6) (declsOf p))∧∀t,t<152→List.contains [55,56,57,58,59,62,63,64,65,66,67,68,69,70,71,4,72,73,74,75,76,77,78,79,80,5,81,82,83,84,85,86,87,88,89,6,60,61,8] t=false→f' t=F t) ((run tb).code none c12_41 (mk 152 F []) s):=by
 refine b_3 e12_41 w12_41 p.enums.length (I:=fun i f st'=>f 8= .int .i64 (i:Nat)∧ThreeD p st' (f 4) (f 5) (f 6) (p.structs.map Decl.ofS ++(p.enums.take i).map Decl.ofE)) ?_ ?_ ?_
 ·exact⟨g8,by simpa using h⟩
 ·rintro i f st1 hi hk ⟨h8,hT⟩
  have hx:p.enums[i]? =some p.enums[i]:=List.getElem?_eq_getElem hi
  have htk:=List.take_succ_eq_append_getElem hi
  have ha:=add1 (i:=i) (by omega)
  have g1':f 1= .ptr 0 0:=by simp[hk,g1]
  clear hk
  rw[htk,List.map_append,List.map_singleton,←List.append_assoc]
  generalize p.enums[i]=x at *
  obtain⟨a,hfa⟩:∃a,f 4=a:=⟨_,rfl⟩
  obtain⟨b,hfb⟩:∃a,f 5=a:=⟨_,rfl⟩
  obtain⟨c,hfc⟩:∃a,f 6=a:=⟨_,rfl⟩
  rw[hfa,hfb,hfc]at hT
  obtain⟨a',s1,b',s2,c',s3,e1,e2,e3,T3,B1,B2⟩:=hT.app (by simp;omega) (.ofE x)
  have k0:=hT.1.get 0 _ rfl
  have k1:=B1.get 0 _ rfl
  have k2:=B2.get 0 _ rfl
  unfold progCs at k0 k1 k2
  unfold nmV Decl.ofE at e1
  unfold atV Decl.ofE at e2
  unfold lsV Decl.ofE at e3
  clear hT htk
  generalize p.structs.map Decl.ofS ++(p.enums.take i).map Decl.ofE ++[Decl.ofE x]=ds at *
  simp[-List.getD_eq_getElem?_getD, -getElem?_pos,g1',h8,hfa,hfb,hfc,hx,hi,ha,k0,k1,k2,e1,e2,e3,Enum.v]
  refine Out.one ?_
  simp[*]
 ·rintro f st1 hk ⟨h8,hT⟩
  have g1':f 1= .ptr 0 0:=by simp[hk,g1]
  clear hk
  have k0:=hT.1.get 0 _ rfl
  unfold progCs at k0
  rw[List.take_length]at hT
  unfold declsOf
  simp[-List.getD_eq_getElem?_getD, -getElem?_pos,g1',h8,k0]
  refine Out.one ?_
  simp[*]
theorem bq_5(n:Str)(ds:List Decl):idxI (fun x:Var=>x.name==n) (ds.map fun d=>⟨d.name,[]⟩)=idxI (fun d:Decl=>d.name==n) ds:=aL_4 _ _ _
theorem ThreeD.rest{p:Prog}{st st':St}{a b c v:V}{ds:List Decl}{es:List V}{L:Nat}(h:ThreeD p st a b c ds)(hA:Go.Abs.Acc 2 st v es)(hr:∀r,refOf v=some r→L≤r)(ha:∀r,refOf a=some r→r<L)(hb:∀r,refOf b=some r→r<L)(hc:∀r,refOf c=some r→r<L)(hR:Go.Abs.Rest (refOf v) st st'):ThreeD p st' a b c ds:=by
 have key:∀x:V,(∀r,refOf x=some r→r<L)→refOf x=none∨refOf v≠refOf x:=fun x hx=>by
  cases hx2:refOf x with
  |none=>exact .inl rfl
  |some r=>exact .inr fun e=>by have:=hr r e;have:=hx r hx2;omega
 exact⟨h.1.trans (hA.boxes hR),h.2.fst.rest hR (key a ha),h.2.snd.rest hR (key b hb),h.2.trd.rest hR (key c hc),h.2.ab,h.2.ac,h.2.bc⟩
theorem bz_7{st st':St}{v:V}{es:List V}(h:AccT 2 st v es):lenV tb 35 st' v=some (.int .i64 (es.length:Nat)):=by
 rcases h with⟨nl,rfl,h⟩|⟨r,h0,rfl,h⟩
 ·subst h;simp
 ·simp
theorem _root_.Go.Abs.AccT.el{s:Nat}{st:St}{v:V}{es:List V}{i:Nat}(h:AccT s st v es)(hi:i<es.length):∃r,v= .slice r s 0 es.length∧st.store[r]? =some (.vec true es):=by
 rcases h with⟨nl,rfl,rfl⟩|⟨r,h0,h1,h2⟩
 ·simp at hi
 ·exact⟨r,h1,h2⟩
theorem bx_1(l:List Dg):(l.map Dg.v).all (fun v=>v.cells.length==2&&v.cells.all V.oneCell)=true:=by
 rw[List.all_eq_true]
 intro x hx
 obtain⟨d, -,rfl⟩:=List.mem_map.1 hx
 rfl
theorem aY_1(p:Prog)(h:p.size≤1048576)(hn:(declsOf p).length≤64)(F:Nat→V)(s:St)(a b c:V)(L:Nat)(g1:F 1= .ptr 0 0)(g3:F 3= .list true (some false) [])(g4:F 4=a)(g5:F 5=b)(g6:F 6=c)(g9:F 9= .int .i64 0)(hT:ThreeD p s a b c (declsOf p))(ha:∀r,refOf a=some r→r<L)(hb:∀r,refOf b=some r→r<L)(hc:∀r,refOf c=some r→r<L)(hL:L≤s.store.length):
  Out 152 [] (fun e f' st'=>(e= .exit 4∧ThreeD p st' a b c (declsOf p)∧Go.Abs.Acc 2 st' (f' 3) ((dg1 p (declsOf p)).map Dg.v)∧(∀r,refOf (f' 3)=some r→L≤r)∧L≤st'.store.length)∧∀t,t<152→List.contains [90,91,92,93,96,97,98,99,100,101,102,103,104,105,106,107,108,109,110,111,112,3,113,114,115,116,117,118,119,120,121,122,123,124,3,94,95,9] t=false→f' t=F t) ((run tb).code none c12_60 (mk 152 F []) s):=by
 have hzl:(declsOf p).zipIdx.length=(declsOf p).length:=List.length_zipIdx
 refine b_3 e12_60 w12_60 (declsOf p).length (I:=fun i f st'=>f 9= .int .i64 (i:Nat)∧ThreeD p st' a b c (declsOf p)∧Go.Abs.Acc 2 st' (f 3) ((((declsOf p).zipIdx.take i).flatMap (H_8 p (declsOf p))).map Dg.v)∧(∀r,refOf (f 3)=some r→L≤r)∧L≤st'.store.length) ?_ ?_ ?_
 ·refine⟨g9,hT,?_,(fun r hr=>by rw[g3]at hr;cases hr),hL⟩
  rw[g3];exact ai_6
 ·rintro i f st1 hi hk ⟨h9,hT,hA,hr,hL⟩
  have hd:(declsOf p)[i]? =some (declsOf p)[i]:=List.getElem?_eq_getElem hi
  have hdm:=List.getElem_mem hi
  have htk:(declsOf p).zipIdx.take (i+1)=(declsOf p).zipIdx.take i ++[((declsOf p)[i],i)]:=by
   rw[List.take_succ_eq_append_getElem (by omega)];simp
  rw[htk]
  generalize(declsOf p)[i]=d at *
  have hsd:=H_7 h hdm
  have hve:=aT_7 p d.parts d.at_
  have ha1:=add1 (i:=i) (by omega)
  have hel:(((((declsOf p).zipIdx.take i).flatMap (H_8 p (declsOf p))).map Dg.v)).length≤2^27+64:=by
   rw[List.length_map]
   have h3:=k_2 (H_8 p (declsOf p)) (declsOf p).zipIdx i
   have h4:=ag_2 (h:=H_8 p (declsOf p)) 2097153 (declsOf p).zipIdx (fun x hx=>by
    have hx2:x.1∈declsOf p:=by
     have:=List.mem_zipIdx hx
     rw[this.2.2];exact List.getElem_mem _
    have h5:=H_7 h hx2
    have h6:=P_1 (dgVar p x.1.parts x.1.at_) (N_8 p x.1.parts x.1.at_) x.1.parts.zipIdx
    have h7:=d_3 x.1.parts
    rw[List.length_zipIdx]at h6
    unfold H_8 dgVars
    rw[List.length_append]
    have h8:(if idxI (fun y:Decl=>y.name==x.1.name) (declsOf p)<(x.2:Int)then [(⟨x.1.at_,4⟩:Dg)]else []).length≤1:=by split<;>simp
    omega)
   omega
  rw[List.flatMap_append,List.map_append]
  have hone:([(d,i)].flatMap (H_8 p (declsOf p))).map Dg.v=(if idxI (fun y:Decl=>y.name==d.name) (declsOf p)<(i:Int)then [V.agg [.int .i64 d.at_, .int .i64 4]]else []) ++(dgVars p d.parts d.at_).map Dg.v:=by
   simp only[List.flatMap_cons,List.flatMap_nil,List.append_nil,H_8,List.map_append]
   split<;>rfl
  rw[hone,←List.append_assoc]
  generalize(((declsOf p).zipIdx.take i).flatMap (H_8 p (declsOf p))).map Dg.v=es at *
  obtain⟨v,hv⟩:∃v,f 3=v:=⟨_,rfl⟩
  rw[hv]at hA hr
  have g1':f 1= .ptr 0 0:=by simp[hk,g1]
  have g4':f 4=a:=by simp[hk,g4]
  have g5':f 5=b:=by simp[hk,g5]
  have g6':f 6=c:=by simp[hk,g6]
  clear hk htk
  have hvm:(declsOf p).map nmV=((declsOf p).map fun d=>(⟨d.name,[]⟩:Var)).map Var.v:=by rw[List.map_map];rfl
  have hFn:=fun st=>N_9 false none ((declsOf p).map fun d=>(⟨d.name,[]⟩:Var)) d.name (by rw[List.length_map];omega) st
  rw[bq_5,←hvm]at hFn
  have hFa:(run tb).call 47 [a, .str d.name] st1=some (.int .i64 (idxI (fun x:Decl=>x.name==d.name) (declsOf p)),st1):=by
   rw[←hFn st1]
   refine R_2 (by rw[a_];rfl) ?_
   have hfz:=hT.2.fst.frz (g:=id) (by
    intro x hx
    obtain⟨q, -,rfl⟩:=List.mem_map.1 hx
    rfl)
   rw[List.map_id]at hfz
   rw[n_7,n_7,hfz];rfl
  have i1:=hT.1.base
  have i2:=hT.1.prot
  generalize hq0:idxI (fun x:Decl=>x.name==d.name) (declsOf p)=q at *
  have key:∃v2 st2,(if q<(i:Int)then appV 2 16 st1 (spreadB (.list true (some false) [.agg [.int .i64 d.at_, .int .i64 4]])) v (.list true (some false) [.agg [.int .i64 d.at_, .int .i64 4]])=some (v2,st2)else v2=v∧st2=st1)∧Go.Abs.Acc 2 st2 v2 (es ++if q<(i:Int)then [V.agg [.int .i64 d.at_, .int .i64 4]]else [])∧ThreeD p st2 a b c (declsOf p)∧(∀r,refOf v2=some r→L≤r)∧L≤st2.store.length:=by
   by_cases c1:q<(i:Int)
   ·obtain⟨v3,st3,ap3,A3,R3,F3⟩:=hA.app (bytes:=16) (sp:=false) (y:= .list true (some false) [.agg [.int .i64 d.at_, .int .i64 4]]) i1 i2 rfl (by simp[V.cells,V.oneCell]) (by decide) (by decide) (by simp;omega)
    refine⟨v3,st3,by rw[if_pos c1];exact ap3,by rw[if_pos c1];exact A3,hT.rest hA hr ha hb hc R3,fun r0 h0=> ?_,Nat.le_trans hL R3.len⟩
    rcases F3 with F3|⟨r3,F3,F4⟩
    ·exact hr r0 (by rw[←F3];exact h0)
    ·rw[F3]at h0;cases h0;omega
   ·exact⟨v,st1,by rw[if_neg c1];exact⟨rfl,rfl⟩,by rw[if_neg c1,List.append_nil];exact hA,hT,hr,hL⟩
  obtain⟨v2,st2,hv2,A2,T2,r2,L2⟩:=key
  have hel2:(es ++if q<(i:Int)then [V.agg [.int .i64 d.at_, .int .i64 4]]else []).length≤2^28:=by
   rw[List.length_append];split<;>simp<;>omega
  generalize(es ++if q<(i:Int)then [V.agg [.int .i64 d.at_, .int .i64 4]]else [])=es2 at *
  obtain⟨bb,nn,hcv⟩:=hve false false false false none none none d.nl h hsd st2
  have m1:=T2.1.base
  have m2:=T2.1.prot
  have hgv:(dgVars p d.parts d.at_).length≤2^22:=by
   have h6:=P_1 (dgVar p d.parts d.at_) (N_8 p d.parts d.at_) d.parts.zipIdx
   have h7:=d_3 d.parts
   rw[List.length_zipIdx]at h6
   unfold dgVars;omega
  obtain⟨v4,st4,ap4,A4,R4,F4⟩:=A2.app (bytes:=16) (sp:=spreadB (.list bb nn ((dgVars p d.parts d.at_).map Dg.v))) (y:= .list bb nn ((dgVars p d.parts d.at_).map Dg.v)) m1 m2 rfl (bx_1 _) (by decide) (by decide) (by rw[List.length_map];omega)
  have T4:=T2.rest A2 r2 ha hb hc R4
  have hr4:∀r,refOf v4=some r→L≤r:=fun r0 h0=>by
   rcases F4 with F4|⟨r3,F4,F5⟩
   ·exact r2 r0 (by rw[←F4];exact h0)
   ·rw[F4]at h0;cases h0;omega
  have hL4:=Nat.le_trans L2 R4.len
  obtain⟨ra,rfl,qa⟩:=hT.2.fst.el (i:=i) (by rw[List.length_map];exact hi)
  obtain⟨rb,rfl,qb⟩:=hT.2.snd.el (i:=i) (by rw[List.length_map];exact hi)
  obtain⟨rc,rfl,qc⟩:=hT.2.trd.el (i:=i) (by rw[List.length_map];exact hi)
  obtain⟨ra2,ea,qa2⟩:=T2.2.fst.el (i:=i) (by rw[List.length_map];exact hi)
  obtain⟨rb2,eb,qb2⟩:=T2.2.snd.el (i:=i) (by rw[List.length_map];exact hi)
  obtain⟨rc2,ec,qc2⟩:=T2.2.trd.el (i:=i) (by rw[List.length_map];exact hi)
  simp only[V.slice.injEq]at ea eb ec
  obtain⟨rfl, -⟩:=ea
  obtain⟨rfl, -⟩:=eb
  obtain⟨rfl, -⟩:=ec
  have x1:=T2.1.get 0 _ rfl
  unfold progCs at x1
  have e1:((declsOf p).map nmV)[i]? =some (.agg [.str d.name, .str []]):=by rw[List.getElem?_map,hd];rfl
  have e2:((declsOf p).map atV)[i]? =some (.int .i64 d.at_):=by rw[List.getElem?_map,hd];rfl
  have e3:((declsOf p).map lsV)[i]? =some (.list false d.nl (d.parts.map Var.v)):=by rw[List.getElem?_map,hd];rfl
  clear hve hFn hvm
  simp only[List.length_map]at *
  have hsp:setProt st4 []=st4:=o_9 (R4.prot.trans m2)
  by_cases c1:q<(i:Int)
  ·rw[if_pos c1]at hv2
   simp[-List.getD_eq_getElem?_getD, -getElem?_pos,g1',g4',g5',g6',h9,hv,hi,ha1,hFa,c1,qa,qb,qb2,qc2,e1,e2,e3,m2,x1,hv2,hcv,ap4,Nat.testBit]
   repeat' (first|refine a_0 ?_ ?_|refine Out.branch ?_ ?_|refine Ret.branch ?_ ?_)<;>(intro hb;(try(simp only[NB]at hb));simp[-List.getD_eq_getElem?_getD, -getElem?_pos,g1',g4',g5',g6',h9,hv,hi,ha1,hFa,c1,qa,qb,qc,qa2,qb2,qc2,e1,e2,e3,i1,i2,m1,m2,x1,hv2,hcv,ap4,Nat.testBit,hb])
   all_goals try refine Out.one ?_
   all_goals try refine Ret.one ?_
   all_goals try(simp[-List.getD_eq_getElem?_getD, *];done)
   all_goals try simp[-List.getD_eq_getElem?_getD]
   all_goals try(intros;omega)
   rw[hsp]
   exact⟨T4,A4,hr4,hL4⟩
  ·rw[if_neg c1]at hv2
   obtain⟨z1,z2⟩:=hv2
   subst z1 z2
   simp[-List.getD_eq_getElem?_getD, -getElem?_pos,g1',g4',g5',g6',h9,hv,hi,ha1,hFa,c1,qa,qb,qc,e1,e2,e3,i2,x1,hcv,ap4,Nat.testBit]
   repeat' (first|refine a_0 ?_ ?_|refine Out.branch ?_ ?_|refine Ret.branch ?_ ?_)<;>(intro hb;(try(simp only[NB]at hb));simp[-List.getD_eq_getElem?_getD, -getElem?_pos,g1',g4',g5',g6',h9,hv,hi,ha1,hFa,c1,qa,qb,qc,e1,e2,e3,i1,i2,x1,hcv,ap4,Nat.testBit,hb])
   all_goals try refine Out.one ?_
   all_goals try refine Ret.one ?_
   all_goals try(simp[-List.getD_eq_getElem?_getD, *];done)
   all_goals try simp[-List.getD_eq_getElem?_getD]
   all_goals try(intros;omega)
   rw[hsp]
   exact⟨T4,A4,hr4,hL4⟩
 ·rintro f st1 hk ⟨h9,hT,hA,hr,hL⟩
  have g4':f 4=a:=by simp[hk,g4]
  clear hk
  have hl35:=fun st'=>bz_7 (st':=st') hT.2.fst
  rw[List.length_map]at hl35
  rw[List.take_of_length_le (by omega)]at hA
  simp[-List.getD_eq_getElem?_getD, -getElem?_pos,g4',h9,hl35]
  repeat' (first|refine a_0 ?_ ?_|refine Out.branch ?_ ?_|refine Ret.branch ?_ ?_)<;>(intro hb;(try(simp only[NB]at hb));simp[-List.getD_eq_getElem?_getD, -getElem?_pos,g4',h9,hl35,hb])
  all_goals try refine Out.one ?_
  all_goals try refine Ret.one ?_
  all_goals try(simp[-List.getD_eq_getElem?_getD, *];done)
  all_goals try simp[-List.getD_eq_getElem?_getD]
  all_goals try(intros;omega)
  exact⟨hT,hA,hr,hL⟩
theorem V_5{p:Prog}(hf:Fine p):AllKnown p:=by
 intro n t ht
 cases hd:declOf p n with
 |none=>
  have h1:=v_5 p n
  rw[hd]at h1
  unfold parts at ht
  cases hs:p.st n with
  |some s=>rw[hs]at h1;cases h1
  |none=>
   rw[hs]at h1 ht
   cases he:p.en n with
   |some e=>rw[he]at h1;cases h1
   |none=>rw[he]at ht;simp[Enum.z,partTypes]at ht
 |some d=>
  rw[(w_3 hd).1]at ht
  have hm:=g_2 hd
  have hsz:=H_7 hf.size hm
  have hlen:∀v∈d.parts,v.type.length<2^40:=fun v hv=>by
   have:=E_9 hv
   rw[D_3]at this;omega
  unfold partsOf at ht
  split at ht
  ·unfold partTypes at ht
   obtain⟨v,hv,hu⟩:=List.mem_flatMap.1 ht
   split at hu
   ·cases hu
   ·rename_i hne
    rw[List.mem_singleton.1 hu]
    exact⟨hf.known d hm v hv hne,hlen v hv⟩
  ·rename_i he
   obtain⟨v,hv,rfl⟩:=List.mem_map.1 ht
   exact⟨hf.known d hm v hv ((M_8 hf.right hm).2.2 (by simpa using he) v hv),hlen v hv⟩
theorem bw_7{st st':St}{v:V}{es:List V}(h:Go.Abs.Acc 2 st v es):lenV tb 30 st' v=some (.int .i64 (es.length:Nat)):=by
 rcases h with⟨nl,rfl,h⟩|⟨r,acc,rfl,h⟩
 ·subst h;simp
 ·simp
theorem bc_5(p:Prog)(hf:Fine p)(hn:(declsOf p).length≤64)(F:Nat→V)(s:St)(a b c:V)(L:Nat)(g1:F 1= .ptr 0 0)(hA0:Go.Abs.Acc 2 s (F 3) [])(hr0:∀r,refOf (F 3)=some r→L≤r)(g4:F 4=a)(g5:F 5=b)(g10:F 10= .int .i64 0)(hT:ThreeD p s a b c (declsOf p))(ha:∀r,refOf a=some r→r<L)(hb:∀r,refOf b=some r→r<L)(hc:∀r,refOf c=some r→r<L)(hL:L≤s.store.length):
  Out 152 [] (fun e f' st'=>(e= .exit 6∧Go.Abs.Acc 2 st' (f' 3) ((dg2 p (declsOf p)).map Dg.v))∧∀t,t<152→List.contains [129,130,131,132,135,136,137,138,139,140,141,142,143,144,145,146,147,148,149,150,3,133,134,10] t=false→f' t=F t) ((run tb).code none c12_89 (mk 152 F []) s):=by
 refine b_3 e12_89 w12_89 (declsOf p).length (I:=fun i f st'=>f 10= .int .i64 (i:Nat)∧ThreeD p st' a b c (declsOf p)∧Go.Abs.Acc 2 st' (f 3) ((((declsOf p).take i).flatMap (G_4 p)).map Dg.v)∧(∀r,refOf (f 3)=some r→L≤r)∧L≤st'.store.length) ?_ ?_ ?_
 ·exact⟨g10,hT,hA0,hr0,hL⟩
 ·rintro i f st1 hi hk ⟨h10,hT,hA,hr,hL⟩
  have hd:(declsOf p)[i]? =some (declsOf p)[i]:=List.getElem?_eq_getElem hi
  have hdm:=List.getElem_mem hi
  have htk:=List.take_succ_eq_append_getElem hi
  rw[htk]
  generalize(declsOf p)[i]=d at *
  have hsl:=T_5 hf (ae_ hf hdm)
  have hnl:d.name.length<2^40:=by
   have h1:=(M_8 hf.right hdm).1
   cases hdn:d.name with
   |nil=>simp
   |cons x xs=>
    rw[hdn]at h1
    unfold isName at h1
    simp only[Bool.and_eq_true,Bool.not_eq_true',decide_eq_false_iff_not]at h1
    omega
  have hS:=fun f1 f2 f3 n1 n2 n3=>Z_0 p d.name f1 f2 f3 n1 n2 n3 hf.size (V_5 hf) hnl
  rw[hsl]at hS
  have ha1:=add1 (i:=i) (by omega)
  rw[List.flatMap_append,List.map_append]
  have hes:((((declsOf p).take i).flatMap (G_4 p)).map Dg.v).length≤64:=by
   rw[List.length_map]
   have h3:=k_2 (G_4 p) (declsOf p) i
   have h4:=ag_2 (h:=G_4 p) 1 (declsOf p) fun x _=>by unfold G_4;split<;>simp
   omega
  generalize(((declsOf p).take i).flatMap (G_4 p)).map Dg.v=es at *
  obtain⟨v,hv⟩:∃v,f 3=v:=⟨_,rfl⟩
  rw[hv]at hA hr
  have g1':f 1= .ptr 0 0:=by simp[hk,g1]
  have g4':f 4=a:=by simp[hk,g4]
  have g5':f 5=b:=by simp[hk,g5]
  clear hk htk
  have i1:=hT.1.base
  have i2:=hT.1.prot
  have x1:=hT.1.get 0 _ rfl
  unfold progCs at x1
  obtain⟨v4,st4,ap4,A4,R4,F4⟩:=hA.app (bytes:=16) (sp:=false) (y:= .list true (some false) [.agg [.int .i64 d.at_, .int .i64 11]]) i1 i2 rfl (by simp[V.cells,V.oneCell]) (by decide) (by decide) (by simp;omega)
  have ap4':appV 2 16 st1 (spreadB (.list true (some false) [.agg [.int .i64 d.at_, .int .i64 11]])) v (.list true (some false) [.agg [.int .i64 d.at_, .int .i64 11]])=some (v4,st4):=ap4
  have T4:=hT.rest hA hr ha hb hc R4
  have hr4:∀r,refOf v4=some r→L≤r:=fun r0 h0=>by
   rcases F4 with F4|⟨r3,F4,F5⟩
   ·exact hr r0 (by rw[←F4];exact h0)
   ·rw[F4]at h0;cases h0;omega
  have hL4:=Nat.le_trans hL R4.len
  obtain⟨ra,rfl,qa⟩:=hT.2.fst.el (i:=i) (by rw[List.length_map];exact hi)
  obtain⟨rb,rfl,qb⟩:=hT.2.snd.el (i:=i) (by rw[List.length_map];exact hi)
  have e1:((declsOf p).map nmV)[i]? =some (.agg [.str d.name, .str []]):=by rw[List.getElem?_map,hd];rfl
  have e2:((declsOf p).map atV)[i]? =some (.int .i64 d.at_):=by rw[List.getElem?_map,hd];rfl
  simp only[List.length_map]at *
  by_cases h32:32<sz p d.name
  ·have hone:([d].flatMap (G_4 p)).map Dg.v=[V.agg [.int .i64 d.at_, .int .i64 11]]:=by simp[G_4,h32,Dg.v]
   rw[hone]
   generalize sz p d.name=n at *
   have h32':(32:Int)<(n:Nat):=by omega
   simp[-List.getD_eq_getElem?_getD, -getElem?_pos,g1',g4',g5',h10,hv,hi,ha1,qa,qb,e1,e2,i2,x1,hS,h32',ap4',Nat.testBit]
   repeat' (first|refine a_0 ?_ ?_|refine Out.branch ?_ ?_|refine Ret.branch ?_ ?_)<;>(intro hb;(try(simp only[NB]at hb));simp[-List.getD_eq_getElem?_getD, -getElem?_pos,g1',g4',g5',h10,hv,hi,ha1,qa,qb,e1,e2,i1,i2,x1,hS,h32',ap4',Nat.testBit,hb])
   all_goals try refine Out.one ?_
   all_goals try refine Ret.one ?_
   all_goals try(simp[-List.getD_eq_getElem?_getD, *];done)
   all_goals try simp[-List.getD_eq_getElem?_getD]
   all_goals try(intros;omega)
   exact⟨T4,A4,hr4,hL4⟩
  ·have hone:([d].flatMap (G_4 p)).map Dg.v=[]:=by simp[G_4,h32]
   rw[hone,List.append_nil]
   generalize sz p d.name=n at *
   have h32':¬(32:Int)<(n:Nat):=by omega
   simp[-List.getD_eq_getElem?_getD, -getElem?_pos,g1',g4',h10,hi,ha1,qa,e1,i2,x1,hS,h32',Nat.testBit]
   repeat' (first|refine a_0 ?_ ?_|refine Out.branch ?_ ?_|refine Ret.branch ?_ ?_)<;>(intro hb;(try(simp only[NB]at hb));simp[-List.getD_eq_getElem?_getD, -getElem?_pos,g1',g4',g5',h10,hv,hi,ha1,qa,qb,e1,e2,i1,i2,x1,hS,h32',Nat.testBit,hb])
   all_goals try refine Out.one ?_
   all_goals try refine Ret.one ?_
   all_goals try(simp[-List.getD_eq_getElem?_getD, *];done)
   all_goals try simp[-List.getD_eq_getElem?_getD,hv]
   all_goals try(intros;omega)
   exact⟨hT,hA,hr,hL⟩
 ·rintro f st1 hk ⟨h10,hT,hA,hr,hL⟩
  have g4':f 4=a:=by simp[hk,g4]
  clear hk
  have hl35:=fun st'=>bz_7 (st':=st') hT.2.fst
  rw[List.length_map]at hl35
  rw[List.take_length]at hA
  simp[-List.getD_eq_getElem?_getD, -getElem?_pos,g4',h10,hl35]
  refine Out.one ?_
  simp[*]
  exact hA
theorem Z_6(p:Prog)(f1 f2 f3:Bool)(n1 n2 n3:Option Bool)(h:p.size≤1048576)(st:St):∃b nl,(run tb).call 12 [.agg [.list f1 n1 (p.structs.map Struct.v), .list f2 n2 (p.enums.map Enum.v), .list f3 n3 (p.funcs.map Fun.v)]] st=some (.list b nl ((dgAll p).map Dg.v),st):=by
 have hh:Ret (fun v st'=>st'=st∧IsL ((dgAll p).map Dg.v) v) ((run tb).call 12 [.agg [.list f1 n1 (p.structs.map Struct.v), .list f2 n2 (p.enums.map Enum.v), .list f3 n3 (p.funcs.map Fun.v)]] st):=by
  have hR:=fun f1 f2 f3 n1 n2 n3=>aU_4 p f1 f2 f3 n1 n2 n3 h
  cases hr:right p with
  |false=>
   rw[hr]at hR
   have hd:dgAll p=[⟨0,2⟩]:=by unfold dgAll;rw[if_pos hr]
   rw[hd]
   rw[run12 (by simp)]
   simp[-List.getD_eq_getElem?_getD, -getElem?_pos,hR]
   exact Ret.one ⟨rfl,_,_,rfl⟩
  |true=>
   rw[hr]at hR
   have hall:p.structs.length≤16∧p.enums.length≤16:=by
    unfold right few at hr
    simp only[Bool.and_eq_true,Bool.not_eq_true',decide_eq_false_iff_not]at hr
    obtain⟨⟨⟨c1,c2⟩,c3⟩, -⟩:=hr
    omega
   have hdl:(declsOf p).length≤64:=by
    unfold declsOf
    rw[List.length_append,List.length_map,List.length_map];omega
   have hT0:ThreeD p (newBox emptySt (progCs p)) (.list true (some false) []) (.list true (some false) []) (.list true (some false) []) []:=⟨Boxes.refl _,I_7,I_7,I_7,(fun r hr=>by cases hr),(fun r hr=>by cases hr),(fun r hr=>by cases hr)⟩
   obtain⟨s0,hs0⟩:∃s0,s0=newBox emptySt (progCs p):=⟨_,rfl⟩
   have x0:s0.store[0]? =some (.box (progCs p)):=by rw[hs0];rfl
   rw[←hs0]at hT0
   unfold progCs at hs0 x0
   rw[run12 (by simp)]
   simp[-List.getD_eq_getElem?_getD, -getElem?_pos,hR,hs0.symm,x0]
   refine Ret.loop (bv_3 p hall.1 _ s0 (by simp) (by simp) (by simpa[g_9,v_2]using hT0)) ?_
   rintro e f s1 ⟨⟨rfl,hT1⟩,hk⟩
   have g1:f 1= .ptr 0 0:=by simp[hk]
   have g3:f 3= .list true (some false) []:=by simp[hk]
   clear hk
   simp[-List.getD_eq_getElem?_getD, -getElem?_pos]
   refine Ret.loop (bs_1 p hall.1 hall.2 _ s1 (by simp[g1]) (by simp) (by simpa[g_9,v_2]using hT1)) ?_
   rintro e f' s2 ⟨⟨rfl,hT2⟩,hk⟩
   have g1:f' 1= .ptr 0 0:=by simp[hk,g1]
   have g3:f' 3= .list true (some false) []:=by simp[hk,g3]
   clear hk
   obtain⟨a,hfa⟩:∃a,f' 4=a:=⟨_,rfl⟩
   obtain⟨b,hfb⟩:∃a,f' 5=a:=⟨_,rfl⟩
   obtain⟨c,hfc⟩:∃a,f' 6=a:=⟨_,rfl⟩
   rw[hfa,hfb,hfc]at hT2
   have ha:∀r,refOf a=some r→r<s2.store.length:=fun r hr=>hT2.2.fst.lt hr
   have hb:∀r,refOf b=some r→r<s2.store.length:=fun r hr=>hT2.2.snd.lt hr
   have hc:∀r,refOf c=some r→r<s2.store.length:=fun r hr=>hT2.2.trd.lt hr
   simp[-List.getD_eq_getElem?_getD, -getElem?_pos]
   refine Ret.loop (aY_1 p h hdl _ s2 a b c s2.store.length (by simp[g1]) (by simp[g3]) (by simp[hfa]) (by simp[hfb]) (by simp[hfc]) (by simp) hT2 ha hb hc (Nat.le_refl _)) ?_
   rintro e f3 s3 ⟨⟨rfl,hT3,hA3,hr3,hL3⟩,hk⟩
   have g1:f3 1= .ptr 0 0:=by simp[hk,g1]
   have g4:f3 4=a:=by simp[hk,hfa]
   have g5:f3 5=b:=by simp[hk,hfb]
   clear hk
   obtain⟨w,hw⟩:∃w,f3 3=w:=⟨_,rfl⟩
   have hA3':=hA3
   have hr3':=hr3
   rw[hw]at hA3 hr3
   have hl:=fun st'=>bw_7 (st':=st') hA3
   by_cases hd1:dg1 p (declsOf p)=[]
   ·have hfine:=aq_5 h hr hd1
    have hdAll:dgAll p=dg2 p (declsOf p):=by unfold dgAll;rw[if_neg (by rw[hr];decide),if_pos hd1]
    rw[hdAll]
    rw[hd1]at hl hA3'
    simp only[List.map_nil,List.length_nil]at hl hA3'
    simp[-List.getD_eq_getElem?_getD, -getElem?_pos,hw,hl]
    refine Ret.loop (bc_5 p hfine hdl _ s3 a b c s2.store.length (by simp[g1]) (by simpa[g_9,v_2,hw]using hA3') (by simpa[g_9,v_2,hw]using hr3') (by simp[g4]) (by simp[g5]) (by simp) hT3 ha hb hc hL3) ?_
    rintro e f4 s4 ⟨⟨rfl,hA4⟩,hk⟩
    clear hk
    obtain⟨b,nl,hRt⟩:=hA4.retV (st0:=st) (g:=id) (by
     intro x hx
     obtain⟨q, -,rfl⟩:=List.mem_map.1 hx
     rfl) (by simp[ba_4])
    rw[List.map_id]at hRt
    simp[-List.getD_eq_getElem?_getD, -getElem?_pos]
    exact⟨_,_,hRt,rfl,b,nl,rfl⟩
   ·have hdAll:dgAll p=dg1 p (declsOf p):=by unfold dgAll;rw[if_neg (by rw[hr];decide),if_neg hd1]
    rw[hdAll]
    have hpos:(dg1 p (declsOf p)).length≠0:=fun e=>hd1 (List.length_eq_zero_iff.1 e)
    have hpos2:0<(dg1 p (declsOf p)).length:=by omega
    obtain⟨b,nl,hRt⟩:=hA3.retV (st0:=st) (g:=id) (by
     intro x hx
     obtain⟨q, -,rfl⟩:=List.mem_map.1 hx
     rfl) (by simp[ba_4])
    rw[List.map_id]at hRt
    simp only[List.length_map]at hl
    simp[-List.getD_eq_getElem?_getD, -getElem?_pos,hw,hl,hpos2]
    exact⟨_,_,hRt,rfl,b,nl,rfl⟩
 obtain⟨v,st',e,rfl,b,nl,rfl⟩:=hh
 exact⟨b,nl,e⟩
def TodoAt(st:St)(v:V)(xs:List Str):Prop:=(∃nl,nl≠some true∧v= .list true nl (xs.map .str))∨(∃r off acc es,v= .slice r 1 off xs.length∧st.store[r]? =some (.vec acc es)∧es.drop off=xs.map .str∧off+xs.length=es.length)
theorem bi_(l:List Str):(l.map V.str).all (fun v=>v.cells.length==1&&v.cells.all V.oneCell)=true:=by
 rw[List.all_eq_true]
 intro x hx
 obtain⟨d, -,rfl⟩:=List.mem_map.1 hx
 rfl
theorem bi_5{st:St}{v:V}{xs:List Str}(h:TodoAt st v xs)(hb:st.base=0)(hp:st.prot=[])(b:Bool)(nl:Option Bool)(ps:List Str)(hl:xs.length+ps.length≤2^20):
  ∃v' st',appW 1 16 st (spreadB (.list b nl (ps.map .str))) v (.list b nl (ps.map .str))=some (v',st')∧TodoAt st' v' (xs ++ps)∧Go.Abs.Rest (refOf v) st st':=by
 have hw:∀sp,wayCase st sp v=false:=fun sp=>by
  rcases h with⟨nl,hn,rfl⟩|⟨r,off,acc,es,rfl,h1, -⟩
  ·cases xs with
   |nil=>
    cases nl with
    |none=>rfl
    |some b=>cases b with
     |true=>exact absurd rfl hn
     |false=>rfl
   |cons x xs=>cases nl with
    |none=>rfl
    |some b=>cases b<;>rfl
  ·simp[wayCase,h1,isWay]
 rw[ao_5 (hw _)]
 have hall:((ps.map V.str).all fun v=>v.cells.length==1&&v.cells.all V.oneCell)=true:=bi_ ps
 have hall2:((xs.map V.str).all fun v=>v.cells.length==1&&v.cells.all V.oneCell)=true:=bi_ xs
 cases ps with
 |nil=>
  refine⟨v,st,p_9 rfl (by decide) (by decide) ?_,by simpa using h,⟨rfl,rfl,Nat.le_refl _,fun _ _ h _=>h⟩⟩
  rcases h with⟨nl,hn,rfl⟩|⟨r,off,acc,es,rfl,h1, -⟩<;>rfl
 |cons q ps=>
  generalize spreadB (.list b nl ((q::ps).map V.str))=sp
  rcases h with⟨nl2,hn,rfl⟩|⟨r,off,acc,es,rfl,h1,h2,h3⟩
  ·refine⟨.slice st.store.length 1 0 (xs.length+(q::ps).length),addO st (.vec (!sp) ((xs ++(q::ps)).map .str)),?_, .inr ⟨st.store.length,0,!sp,_,by simp,b_4,by simp,by simp⟩,⟨rfl,rfl,by simp[addO],fun i o hi _=>a_3 hi⟩⟩
   unfold appV
   simp only[srcElems]
   rw[if_neg (by rw[hall];simp),if_neg (by simp),if_pos ⟨by simp;simp at hl;omega,hall2⟩]
   simp[addO]
  ·refine⟨.slice st.store.length 1 0 (xs.length+(q::ps).length),addO (setO st r .dead) (.vec (acc||es.isEmpty) ((xs ++(q::ps)).map .str)),?_, .inr ⟨st.store.length,0,acc||es.isEmpty,(xs ++(q::ps)).map .str,by simp,?_,by simp,by simp⟩,⟨rfl,rfl,by simp[addO,setO],fun i o hi hne=> ?_⟩⟩
   ·unfold appV
    simp only[srcElems]
    rw[if_neg (by rw[hall];simp),if_neg (by simp),if_neg (by simp[St.locked,hb,hp]),h1]
    simp only
    rw[if_pos ⟨h3,by simp;simp at hl;omega⟩,h2]
    simp[addO,setO]
   ·have:st.store.length=(setO st r .dead).store.length:=by simp[setO]
    rw[this];exact b_4
   ·show(st.store.set r .dead ++_)[i]? =_
    refine a_3 ?_
    rw[List.getElem?_set_ne (by intro e;subst e;exact hne rfl)];exact hi
theorem aM_4(n:Nat):bounds (n+1) (n+1) (some (.int .i64 1)) none=some (1,n+1):=by
 have h:(1:Int)≤((n+1:Nat):Int):=by omega
 unfold bounds bound
 simp only[asIdx]
 rw[if_pos ⟨by decide,h⟩];rfl
theorem bm_0{st st':St}{v:V}{xs:List Str}(h:TodoAt st v xs):lenV tb 67 st' v=some (.int .i64 (xs.length:Nat)):=by
 rcases h with⟨nl,hn,rfl⟩|⟨r,off,acc,es,rfl, -⟩
 ·simp
 ·simp
theorem bf_0{st:St}{v:V}{x:Str}{xs:List Str}(h:TodoAt st v (x::xs)):∃v',evSlice tb 67 v (some (.int .i64 1)) none none=some v'∧TodoAt st v' xs∧refOf v'=refOf v:=by
 rcases h with⟨nl,hn,rfl⟩|⟨r,off,acc,es,rfl,h1,h2,h3⟩
 ·refine⟨.list true nl (xs.map .str),?_, .inl ⟨nl,hn,rfl⟩,rfl⟩
  have h1:=aM_4 xs.length
  simp[sliceList,sizeFits,V.cells,h1,List.take_of_length_le]
 ·refine⟨.slice r 1 (off+1) xs.length,?_, .inr ⟨r,off+1,acc,es,rfl,h1,?_,by simp at h3;omega⟩,rfl⟩
  ·have h1:=aM_4 xs.length
   simp[sliceVec,h1]
  ·rw[←List.drop_drop,h2];rfl
theorem bb_2{st:St}{v:V}{x:Str}{xs:List Str}(h:TodoAt st v (x::xs)):∃a,evIndexAddr tb 67 v (.int .i64 0)=some a∧B_2 st a=some (.str x):=by
 rcases h with⟨nl,hn,rfl⟩|⟨r,off,acc,es,rfl,h1,h2,h3⟩
 ·exact⟨.iptr [.str x],by simp,p_⟩
 ·refine⟨.eptr r off 0,by
   rw[ib67]
   unfold idxS
   rw[if_pos ⟨by decide,by simp only[List.length_cons];omega,rfl⟩];rfl,?_⟩
  rw[p_4,h1,g_1]
  have:es[off]? =some (.str x):=by
   have:=congrArg (fun l=>l[0]?) h2
   simpa using this
  rw[this];rfl
def Struct.ks3(x:Struct):List V:=[.int .i64 x.at_, .str x.name, .bool x.safe, .bool x.hook, .list false none (x.fields.map Var.v)]
def Direct(p:Prog)(u:Str):Prop:=(∃s,p.st u=some s∧s.hook=true)∨(kindOf u=3∧known p u=true)
def seenB(S:List (Str×Bool))(u:Str):Bool:=(getM S u).getD false
structure DrInv(p:Prog)(typ:Str)(S:List (Str×Bool))(xs:List Str):Prop where
 closed:∀u,seenB S u=true→¬Direct p u∧(kindOf u=2→∀w∈parts p u,seenB S w=true∨w∈xs)
 here:seenB S typ=true∨typ∈xs
 from_:∀u∈xs,Need p u→Need p typ
 len:∀u∈xs,u.length<2^40
def todoN(p:Prog)(S:List (Str×Bool))(xs:List Str):Nat:=(((declsOf p).map Decl.name).filter fun n=> !seenB S n).length * 32+xs.length
theorem aG_2{p:Prog}{typ:Str}{S:List (Str×Bool)}(h:DrInv p typ S []):need p typ=false:=by
 unfold need
 rw[decide_eq_false_iff_not]
 have key:∀u,Need p u→seenB S u=true→False:=by
  intro u hn
  induction hn with
  |hook h1 h2=>intro hs;exact(h.closed _ hs).1 (.inl ⟨_,h1,h2⟩)
  |box h1 h2=>intro hs;exact(h.closed _ hs).1 (.inr ⟨h1,h2⟩)
  |part h1 h2 _ ih=>
   intro hs
   rcases(h.closed _ hs).2 h1 _ h2 with h3|h3
   ·exact ih h3
   ·cases h3
 intro hn
 rcases h.here with h1|h1
 ·exact key _ hn h1
 ·cases h1
theorem az_9{p:Prog}{t:Str}(h:Need p t):need p t=true:=by
 unfold need;simpa using h
theorem af_9{p:Prog}{u:Str}(h:Direct p u):Need p u:=by
 rcases h with⟨s,h1,h2⟩|⟨h1,h2⟩
 ·exact .hook h1 h2
 ·exact .box h1 h2
theorem N_5(S:List (Str×Bool))(n u:Str):seenB (putM S n true) u=(u==n||seenB S u):=by
 unfold seenB
 rw[P_7]
 cases u==n<;>rfl
theorem DrInv.step{p:Prog}(hf:Fine p){typ x:Str}{S:List (Str×Bool)}{xs:List Str}(h:DrInv p typ S (x::xs))(hd:¬Direct p x):DrInv p typ (putM S x true) (xs ++if seenB S x=false∧kindOf x=2 then parts p x else []):=by
 refine⟨fun u hu=> ?_,?_,fun u hu hn=> ?_,fun u hu=> ?_⟩
 ·rw[N_5]at hu
  simp only[Bool.or_eq_true,beq_iff_eq]at hu
  have hold:seenB S u=true→¬Direct p u∧(kindOf u=2→∀w∈parts p u,seenB (putM S x true) w=true∨w∈xs ++if seenB S x=false∧kindOf x=2 then parts p x else []):=fun hs=>by
   obtain⟨h1,h2⟩:=h.closed u hs
   refine⟨h1,fun hk w hw=> ?_⟩
   rw[N_5]
   rcases h2 hk w hw with h3|h3
   ·left;simp[h3]
   ·rcases List.mem_cons.1 h3 with h3|h3
    ·left;simp[h3]
    ·right;exact List.mem_append_left _ h3
  rcases hu with rfl|hu
  ·cases hs:seenB S u with
   |true=>exact hs▸hold hs
   |false=>
    refine⟨hd,fun hk w hw=> .inr ?_⟩
    rw[if_pos ⟨rfl,hk⟩]
    exact List.mem_append_right _ hw
  ·exact hold hu
 ·rw[N_5]
  rcases h.here with h1|h1
  ·left;simp[h1]
  ·rcases List.mem_cons.1 h1 with h1|h1
   ·left;simp[h1]
   ·right;exact List.mem_append_left _ h1
 ·rcases List.mem_append.1 hu with hu|hu
  ·exact h.from_ u (List.mem_cons_of_mem _ hu) hn
  ·split at hu
   ·rename_i hc
    exact h.from_ x (List.mem_cons_self ..) (.part hc.2 hu hn)
   ·cases hu
 ·rcases List.mem_append.1 hu with hu|hu
  ·exact h.len u (List.mem_cons_of_mem _ hu)
  ·split at hu
   ·exact(V_5 hf x u hu).2
   ·cases hu
theorem bd_2{p:Prog}(hf:Fine p)(n:Str):(parts p n).length≤16∧(parts p n≠[]→n∈(declsOf p).map Decl.name):=by
 cases hd:declOf p n with
 |none=>
  have h1:=v_5 p n
  rw[hd]at h1
  have:parts p n=[]:=by
   unfold parts
   cases hs:p.st n with
   |some s=>rw[hs]at h1;cases h1
   |none=>
    rw[hs]at h1
    cases he:p.en n with
    |some e=>rw[he]at h1;cases h1
    |none=>simp[Enum.z,partTypes]
  rw[this];simp
 |some d=>
  refine⟨?_,fun _=>List.mem_map.2 ⟨d,g_2 hd,E_1 hd⟩⟩
  rw[(w_3 hd).1]
  have h16:=(M_8 hf.right (g_2 hd)).2.1
  unfold partsOf
  split
  ·have:=O_8 d.parts;omega
  ·rw[List.length_map];exact h16
theorem aZ_5{p:Prog}(hf:Fine p)(S:List (Str×Bool))(x:Str)(xs:List Str):todoN p (putM S x true) (xs ++if seenB S x=false∧kindOf x=2 then parts p x else [])<todoN p S (x::xs):=by
 have hle:(((declsOf p).map Decl.name).filter fun n=> !seenB (putM S x true) n).length≤(((declsOf p).map Decl.name).filter fun n=> !seenB S n).length:=ae_7 _ fun u hu=>by
  rw[N_5]at hu
  simp at hu⊢;exact hu.2
 unfold todoN
 rw[List.length_append,List.length_cons]
 split
 ·rename_i hc
  by_cases he:parts p x=[]
  ·rw[he];simp;omega
  ·have h1:=bd_2 hf x
   have hlt:(((declsOf p).map Decl.name).filter fun n=> !seenB (putM S x true) n).length<(((declsOf p).map Decl.name).filter fun n=> !seenB S n).length:=V_2 (t:=x) _ (fun u hu=>by
    rw[N_5]at hu
    simp at hu⊢;exact hu.2) (h1.2 he) (by rw[hc.1];rfl) (by rw[N_5];simp)
   omega
 ·simp;omega
structure DrSt(p:Prog)(st:St)(S:List (Str×Bool)):Prop where
 base:st.base=0
 prot:st.prot=[]
 x0:st.store[0]? =some (.box (progCs p))
 x1:st.store[1]? =some (.map (entsM V.bool S))
theorem DrSt.rest{p:Prog}{a b:St}{S:List (Str×Bool)}{v:V}{xs:List Str}(h:DrSt p a S)(hT:TodoAt a v xs)(hR:Go.Abs.Rest (refOf v) a b):DrSt p b S:=by
 have key:∀(i:Nat) (o:O),a.store[i]? =some o→(∀acc es,o≠ .vec acc es)→b.store[i]? =some o:=fun i o hi ho=>hR.get i o hi fun e=>by
  rcases hT with⟨nl, -,rfl⟩|⟨r,off,acc,es,rfl,h1, -⟩
  ·cases e
  ·cases e;rw[hi]at h1;cases h1;exact ho _ _ rfl
 exact⟨hR.base.trans h.base,hR.prot.trans h.prot,key _ _ h.x0 (fun _ _ e=>by cases e),key _ _ h.x1 (fun _ _ e=>by cases e)⟩
theorem TodoAt.grow{a b:St}{v:V}{xs:List Str}(h:TodoAt a v xs)(hg:∀(i:Nat) (o:O),a.store[i]? =some o→(∃acc es,o= .vec acc es)→b.store[i]? =some o):TodoAt b v xs:=by
 rcases h with h|⟨r,off,acc,es,h1,h2,h3⟩
 ·exact .inl h
 ·exact .inr ⟨r,off,acc,es,h1,hg _ _ h2 ⟨_,_,rfl⟩,h3⟩
def DrI(p:Prog)(typ:Str)(k:Nat)(v:V)(st:St):Prop:=k≤4096∧∃S xs,TodoAt st v xs∧DrSt p st S∧DrInv p typ S xs∧todoN p S xs≤k
theorem ap_{p:Prog}(hf:Fine p){typ x:Str}{S:List (Str×Bool)}{xs:List Str}{k:Nat}(hk:k≤4096)(hI:DrInv p typ S (x::xs))(hd:¬Direct p x)(hN:todoN p S (x::xs)≤k){s3:St}{v3:V}(hT:TodoAt s3 v3 (xs ++if seenB S x=false∧kindOf x=2 then parts p x else []))(hS:DrSt p s3 S):
  ∃j,j<k∧DrI p typ j v3 (setO s3 1 (.map (entsM V.bool (putM S x true)))):=by
 have h1:=aZ_5 hf S x xs
 refine⟨_,Nat.lt_of_lt_of_le h1 hN,by omega,putM S x true,_,hT.grow fun i o hi ho=> ?_,⟨hS.base,hS.prot,?_,?_⟩,hI.step hf hd,Nat.le_refl _⟩
 ·show(s3.store.set 1 _)[i]? =_
  rw[List.getElem?_set_ne (by
   intro e;subst e
   obtain⟨_,_,rfl⟩:=ho
   rw[hS.x1]at hi;cases hi)]
  exact hi
 ·show(s3.store.set 1 _)[0]? =_
  rw[List.getElem?_set_ne (by decide)];exact hS.x0
 ·show(s3.store.set 1 _)[1]? =_
  rw[List.getElem?_set_self (List.getElem?_eq_some_iff.1 hS.x1).1]
theorem aQ_9(p:Prog)(hf:Fine p)(typ:Str)(F:Nat→V)(g2:F 2= .ptr 0 0)(g5:F 5= .map 1):∀(k:Nat) (f:Nat→V) (st:St),(∀t,t<64→List.contains [22,23,24,25,26,27,7,28,29,6,31,32,33,30,34,35,8,9,36,37,38,39,40,41,42,43,44,45,46,47,4,48,49,50,51,52,53,54,55,56,57,58,59,60,61,6,62,63] t=false→f t=F t)→DrI p typ k (f 6) st→
  Out 64 [] (fun e f' st'=>((e= .exit 0∧need p typ=false)∨(e= .ret∧f' 4= .bool true∧need p typ=true))∧∀t,t<64→List.contains [22,23,24,25,26,27,7,28,29,6,31,32,33,30,34,35,8,9,36,37,38,39,40,41,42,43,44,45,46,47,4,48,49,50,51,52,53,54,55,56,57,58,59,60,61,6,62,63] t=false→f' t=F t) ((run tb).code none c20_16 (mk 64 f []) st):=by
 refine aj_ e20_16 w20_16 F (I:=fun k f st=>DrI p typ k (f 6) st) ?_
 rintro k f st1 hk ⟨hk4,S,xs,hT,hS,hI,hN⟩
 have g2':f 2= .ptr 0 0:=by simp[hk,g2]
 have g5':f 5= .map 1:=by simp[hk,g5]
 clear hk
 obtain⟨v,hv⟩:∃v,f 6=v:=⟨_,rfl⟩
 rw[hv]at hT
 have hl:=fun st'=>bm_0 (st':=st') hT
 cases xs with
 |nil=>
  have hfin:=aG_2 hI
  simp[-List.getD_eq_getElem?_getD, -getElem?_pos,hv,hl]
  refine Out.one ?_
  simp[*]
 |cons x xs=>
  obtain⟨a,ha1,ha2⟩:=bb_2 hT
  obtain⟨v2,hv2,hT2,hr2⟩:=bf_0 hT
  have hxl:=hI.len x (List.mem_cons_self ..)
  have hst:=fun f1 f2 f3 n1 n2 n3=>E_ p x f1 f2 f3 n1 n2 n3 hf.size
  unfold stV at hst
  have hKd:=n_9 x hxl
  have hKn:=fun f1 f2 f3 n1 n2 n3=>J_2 p x f1 f2 f3 n1 n2 n3 hf.size hxl
  have x0:=hS.x0
  have x1:=hS.x1
  have b1:=hS.base
  have p1:=hS.prot
  unfold progCs at x0
  have hlk:=ak_ S x
  have hpos:(0:Int)<((x::xs).length:Nat):=by simp
  have hsn:(getM S x).getD false=seenB S x:=rfl
  rw[hsn]at hlk
  have hhk:(((p.st x).getD .z).hook=true↔∃s,p.st x=some s∧s.hook=true):=by
   cases p.st x with
   |none=>simp[Struct.z]
   |some s=>simp
  generalize hy:(p.st x).getD .z=y at *
  generalize(p.st x).isSome=ys at *
  by_cases hook:y.hook=true
  ·have hneed:need p typ=true:=by
    exact az_9 (hI.from_ x (List.mem_cons_self ..) (af_9 (.inl (hhk.1 hook))))
   simp[-List.getD_eq_getElem?_getD, -getElem?_pos,g2',hv,hl,ha1,ha2,hv2,hst,x0,b1,p1,hook,Struct.nrm,Struct.v]
   refine Out.one ?_
   simp[*]
  ·have hook':y.hook=false:=by simpa using hook
   have hnh:¬∃s,p.st x=some s∧s.hook=true:=fun h=>hook (hhk.2 h)
   have hsb:DrSt p (newBox st1 y.ks3) S:=⟨b1,p1,a_3 hS.x0,a_3 hS.x1⟩
   have hTb:TodoAt (newBox st1 y.ks3) v2 xs:=hT2.grow fun i o hi _=>a_3 hi
   obtain⟨sb,hsbe⟩:∃sb,sb=newBox st1 y.ks3:=⟨_,rfl⟩
   have hset:∀zs:List V,setO (newBox st1 zs) st1.store.length (.box y.ks3)=sb:=fun zs=>by rw[hsbe];exact g_0
   have hgb:sb.store[st1.store.length]? =some (.box y.ks3):=by rw[hsbe];exact b_4
   rw[←hsbe]at hsb hTb
   have c0:=hsb.x0
   have c1:=hsb.x1
   have cb:=hsb.base
   have cp:=hsb.prot
   unfold progCs at c0
   unfold Struct.ks3 at hset hgb
   simp only[hook']at hset hgb
   clear hsbe
   have hu:∀st:St,updM st 1 (some (.map (entsM V.bool S))) (.str x) (.bool true)=some (setO st 1 (.map (entsM V.bool (putM S x true)))):=fun s=>ac_9 V.bool S x true s 1
   by_cases k3:kindOf x=3
   ·cases hkn:known p x with
    |true=>
     have hneed:need p typ=true:=az_9 (hI.from_ x (List.mem_cons_self ..) (af_9 (.inr ⟨k3,hkn⟩)))
     rw[hkn]at hKn
     simp[-List.getD_eq_getElem?_getD, -getElem?_pos,g2',hv,hl,ha1,ha2,hv2,hst,x0,b1,p1,hook',hset,hgb,c0,hKd,k3,hKn,Struct.nrm,Struct.v]
     refine Out.one ?_
     simp[*]
    |false=>
     have hnd:¬Direct p x:=by
      rintro(h|⟨-,h⟩)
      ·exact hnh h
      ·rw[hkn]at h;cases h
     have hxs:(xs ++if seenB S x=false∧kindOf x=2 then parts p x else [])=xs:=by
      rw[if_neg (by rintro⟨-,h⟩;omega)];simp
     have hnext:=ap_ hf hk4 hI hnd hN (s3:=sb) (v3:=v2) (by rw[hxs];exact hTb) hsb
     rw[hkn]at hKn
     cases hsx:seenB S x with
     |true=>
      rw[hsx]at hlk
      simp[-List.getD_eq_getElem?_getD, -getElem?_pos,g2',g5',hv,hl,ha1,ha2,hv2,hst,x0,b1,p1,hook',hset,hgb,c0,c1,cb,cp,hKd,k3,hKn,hlk,hu,Struct.nrm,Struct.v]
      refine Out.one ?_
      simp[*]
     |false=>
      rw[hsx]at hlk
      simp[-List.getD_eq_getElem?_getD, -getElem?_pos,g2',g5',hv,hl,ha1,ha2,hv2,hst,x0,b1,p1,hook',hset,hgb,c0,c1,cb,cp,hKd,k3,hKn,hlk,hu,Struct.nrm,Struct.v]
      refine Out.one ?_
      simp[*]
   ·have hnd:¬Direct p x:=by
     rintro(h|⟨h, -⟩)
     ·exact hnh h
     ·exact k3 h
    have k3':(kindOf x==3)=false:=by simpa using k3
    cases hsx:seenB S x with
    |true=>
     have hxs:(xs ++if seenB S x=false∧kindOf x=2 then parts p x else [])=xs:=by
      rw[if_neg (by rintro⟨h, -⟩;rw[hsx]at h;cases h)];simp
     have hnext:=ap_ hf hk4 hI hnd hN (s3:=sb) (v3:=v2) (by rw[hxs];exact hTb) hsb
     rw[hsx]at hlk
     simp[-List.getD_eq_getElem?_getD, -getElem?_pos,g2',g5',hv,hl,ha1,ha2,hv2,hst,x0,b1,p1,hook',hset,hgb,c1,cb,cp,hKd,k3',hlk,hu,Struct.nrm,Struct.v]
     refine Out.one ?_
     simp[*]
    |false=>
     rw[hsx]at hlk
     by_cases k2:kindOf x=2
     ·have hxs:(if seenB S x=false∧kindOf x=2 then parts p x else [])=parts p x:=if_pos ⟨hsx,k2⟩
      obtain⟨bb,nn,hps⟩:=ao_2 p x false false false none none none hf.size sb
      have h16:=bd_2 hf x
      have hxl2:xs.length+(parts p x).length≤2^20:=by
       unfold todoN at hN
       rw[List.length_cons]at hN
       omega
      obtain⟨v4,s4,ap4,T4,R4⟩:=bi_5 hTb cb cp bb nn (parts p x) hxl2
      have hS4:=hsb.rest hTb R4
      have hnext:=ap_ hf hk4 hI hnd hN (s3:=s4) (v3:=v4) (by rw[hxs];exact T4) hS4
      have d0:=hS4.x0
      have d1:=hS4.x1
      have db:=hS4.base
      have dp:=hS4.prot
      rw[k2]at hKd
      simp[-List.getD_eq_getElem?_getD, -getElem?_pos,g2',g5',hv,hl,ha1,ha2,hv2,hst,x0,b1,p1,hook',hset,hgb,c0,c1,hKd,hlk,hu,hps,ap4,d1,db,dp,Struct.nrm,Struct.v]
      refine Out.one ?_
      simp[*]
     ·have k2':(kindOf x==2)=false:=by simpa using k2
      have hxs:(xs ++if seenB S x=false∧kindOf x=2 then parts p x else [])=xs:=by
       rw[if_neg (by rintro⟨-,h⟩;exact k2 h)];simp
      have hnext:=ap_ hf hk4 hI hnd hN (s3:=sb) (v3:=v2) (by rw[hxs];exact hTb) hsb
      simp[-List.getD_eq_getElem?_getD, -getElem?_pos,g2',g5',hv,hl,ha1,ha2,hv2,hst,x0,b1,p1,hook',hset,hgb,c1,cb,cp,hKd,k3',k2',hlk,hu,Struct.nrm,Struct.v]
      refine Out.one ?_
      simp[*]
theorem aS_(p:Prog)(hf:Fine p)(t:Str)(f1 f2 f3:Bool)(n1 n2 n3:Option Bool)(ht:t.length<2^40)(st:St):(run tb).call 20 [.agg [.list f1 n1 (p.structs.map Struct.v), .list f2 n2 (p.enums.map Enum.v), .list f3 n3 (p.funcs.map Fun.v)], .str t] st=some (.bool (dropsF p t),st):=by
 have hKn:=fun f1 f2 f3 n1 n2 n3=>J_2 p t f1 f2 f3 n1 n2 n3 hf.size ht
 have hKd:=n_9 t ht
 have hans:known p t=true→kindOf t≤3→dropsF p t=need p t:=fun h1 h2=>by
  unfold dropsF
  by_cases k3:kindOf t=3
  ·rw[if_pos k3,ar_ hf.right k3]
  ·by_cases k2:kindOf t=2
   ·rw[if_neg k3,if_pos k2,h1];rfl
   ·rw[if_neg k3,if_neg k2,Q_9 hf.right k2 k3]
 cases hk:known p t with
 |false=>
  have:dropsF p t=false:=by unfold dropsF;rw[hk];split<;>simp
  rw[this]
  rw[hk]at hKn
  rw[run20 (by simp)]
  simp[-List.getD_eq_getElem?_getD, -getElem?_pos,hKn]
 |true=>
  rw[hk]at hKn
  by_cases h3:(3:Int)<kindOf t
  ·have:dropsF p t=false:=by unfold dropsF;rw[if_neg (by omega),if_neg (by omega)]
   rw[this]
   rw[run20 (by simp)]
   simp[-List.getD_eq_getElem?_getD, -getElem?_pos,hKn,hKd,h3]
  ·rw[hans hk (by omega)]
   obtain⟨s0,hs0⟩:∃s0,s0=addO (newBox emptySt (progCs p)) (.map []):=⟨_,rfl⟩
   have hS:DrSt p s0 []:=by rw[hs0];exact⟨rfl,rfl,rfl,rfl⟩
   have hI:DrI p t 4096 (.list true (some false) [.str t]) s0:=by
    refine⟨Nat.le_refl _,[],[t], .inl ⟨some false,by simp,rfl⟩,hS,⟨(fun u hu=>by cases hu), .inr (by simp),fun u hu hn=> ?_,fun u hu=> ?_⟩,?_⟩
    ·rw[List.mem_singleton.1 hu]at hn;exact hn
    ·rw[List.mem_singleton.1 hu];exact ht
    ·unfold todoN
     have h1:=List.length_filter_le (fun n=> !seenB [] n) ((declsOf p).map Decl.name)
     have h2:(declsOf p).length≤32:=by
      have hr:=hf.right
      unfold right few at hr
      simp only[Bool.and_eq_true,Bool.not_eq_true',decide_eq_false_iff_not]at hr
      obtain⟨⟨⟨c1,c2⟩,c3⟩, -⟩:=hr
      unfold declsOf
      rw[List.length_append,List.length_map,List.length_map];omega
     rw[List.length_map]at h1
     simp only[List.length_cons,List.length_nil];omega
   unfold progCs at hs0
   rw[run20 (by simp)]
   simp[-List.getD_eq_getElem?_getD, -getElem?_pos,hKn,hKd,h3,hs0.symm]
   refine b_8 (aQ_9 p hf t _ (by simp) (by simp) 4096 _ s0 (fun _ _ _=>rfl) (by simpa[g_9,v_2]using hI)) ?_
   rintro e f st' ⟨⟨rfl,hn⟩|⟨rfl,h4,hn⟩,hk⟩
   ·rw[hn]
    simp[-List.getD_eq_getElem?_getD, -getElem?_pos]
   ·rw[hn]
    simp[-List.getD_eq_getElem?_getD, -getElem?_pos,h4]
theorem DgV.frz{st:St}{v:V}{l:List Dg}(h:DgV st v l):Go.Abs.freeze st none 40 v=some (.list false none (l.map Dg.v)):=by
 rcases h with h|⟨b,nl,rfl⟩
 ·have:=h.frz (g:=id) (by
   intro x hx
   obtain⟨d, -,rfl⟩:=List.mem_map.1 hx
   rfl)
  rw[List.map_id]at this
  exact this
 ·rfl
theorem az_0{p:Prog}(h:p.size≤1048576):(dgAll p).length<2^40:=by
 unfold dgAll
 split
 ·simp
 ·rename_i hr
  have hall:(declsOf p).length≤64:=by
   have hr:right p=true:=by simpa using hr
   unfold right few at hr
   simp only[Bool.and_eq_true,Bool.not_eq_true',decide_eq_false_iff_not]at hr
   obtain⟨⟨⟨c1,c2⟩,c3⟩, -⟩:=hr
   unfold declsOf
   rw[List.length_append,List.length_map,List.length_map];omega
  split
  ·have h4:=ag_2 (h:=G_4 p) 1 (declsOf p) fun x _=>by unfold G_4;split<;>simp
   unfold dg2;omega
  ·have h4:=ag_2 (h:=H_8 p (declsOf p)) 2097153 (declsOf p).zipIdx (fun x hx=>by
    have hx2:x.1∈declsOf p:=by
     have:=List.mem_zipIdx hx
     rw[this.2.2];exact List.getElem_mem _
    have h5:=H_7 h hx2
    have h6:=P_1 (dgVar p x.1.parts x.1.at_) (N_8 p x.1.parts x.1.at_) x.1.parts.zipIdx
    have h7:=d_3 x.1.parts
    rw[List.length_zipIdx]at h6
    unfold H_8 dgVars
    rw[List.length_append]
    have h8:(if idxI (fun y:Decl=>y.name==x.1.name) (declsOf p)<(x.2:Int)then [(⟨x.1.at_,4⟩:Dg)]else []).length≤1:=by split<;>simp
    omega)
   rw[List.length_zipIdx]at h4
   unfold dg1;omega
theorem aY_(p:Prog)(f1 f2 f3:Bool)(n1 n2 n3:Option Bool)(h:p.size≤1048576)(hw:p.wf):∃st',(run tb).call 3 [.agg [.list f1 n1 (p.structs.map Struct.v), .list f2 n2 (p.enums.map Enum.v), .list f3 n3 (p.funcs.map Fun.v)]] st0=some (.bool true,st'):=by
 have hh:Ret (fun v st'=>v= .bool true) ((run tb).call 3 [.agg [.list f1 n1 (p.structs.map Struct.v), .list f2 n2 (p.enums.map Enum.v), .list f3 n3 (p.funcs.map Fun.v)]] st0):=by
  obtain⟨s0,hs0⟩:∃s0,s0=newBox st0 [.list f1 n1 (p.structs.map Struct.v), .list f2 n2 (p.enums.map Enum.v), .list f3 n3 (p.funcs.map Fun.v)]:=⟨_,rfl⟩
  have hx0:s0.store[0]? =some (.box [.list f1 n1 (p.structs.map Struct.v), .list f2 n2 (p.enums.map Enum.v), .list f3 n3 (p.funcs.map Fun.v)]):=by rw[hs0];rfl
  have b0:s0.base=0:=by rw[hs0];rfl
  have p0:s0.prot=[]:=by rw[hs0];rfl
  have hal:=O_3 s0
  have hl0:st0.store.length=0:=rfl
  obtain⟨gb,hgr⟩:=O_ p f1 f2 f3 n1 n2 n3 h hw s0
  obtain⟨nv,s2,hnew,hG,hN⟩:=Y_0 p f1 f2 f3 n1 n2 n3 h s0 b0 p0
  have hx2:=hG.at_ hx0
  obtain⟨eb,enl,hdi⟩:=Z_6 p f1 f2 f3 n1 n2 n3 h s2
  have hsm:=fun st=>bn_0 (dgAll p) (dgAll p) false eb none enl (az_0 h) (az_0 h) st
  rw[show(dgAll p==dgAll p)=true from by simp]at hsm
  rw[run3 (by simp)]
  cases gb with
  |true=>
   simp[-List.getD_eq_getElem?_getD, -getElem?_pos,hs0.symm,hl0,hal,hx0,hgr]
   exact Ret.one rfl
  |false=>
   rcases hN with⟨hd,hf,r,m,D,Dc,rfl,hT⟩|⟨hd,w,rfl,hw⟩
   ·have hS:(run tb).call 13 [.list true (some true) [], .list eb enl ((dgAll p).map Dg.v)] s2=some (.bool true,s2):=by
     rw[←hsm s2]
     refine R_2 (by rw[a_];rfl) ?_
     rw[hd];rfl
    rw[hd]at hdi hS
    simp only[List.map_nil]at hS hdi
    simp[-List.getD_eq_getElem?_getD, -getElem?_pos,hs0.symm,hl0,hal,hx0,hgr,hnew,hx2,hdi,hS]
    exact Ret.one rfl
   ·have hS:(run tb).call 13 [w, .list eb enl ((dgAll p).map Dg.v)] s2=some (.bool true,s2):=by
     rw[←hsm s2]
     refine R_2 (by rw[a_];rfl) ?_
     rw[n_7,n_7,hw.frz];rfl
    have hpos:0<(dgAll p).length:=by
     have:(dgAll p).length≠0:=fun e=>hd (List.length_eq_zero_iff.1 e)
     omega
    simp[-List.getD_eq_getElem?_getD, -getElem?_pos,hs0.symm,hl0,hal,hx0,hgr,hnew,hx2,hdi,hS,hpos]
    exact Ret.one rfl
 obtain⟨v,st',e,rfl⟩:=hh
 exact⟨st',e⟩
theorem aZ_7(p:Prog)(t:Str)(f1 f2 f3:Bool)(n1 n2 n3:Option Bool)(h:p.size≤1048576)(hw:p.wf)(ht:t.length≤1048576):∃st',(run tb).call 4 [.agg [.list f1 n1 (p.structs.map Struct.v), .list f2 n2 (p.enums.map Enum.v), .list f3 n3 (p.funcs.map Fun.v)], .str t] st0=some (.bool true,st'):=by
 have hh:Ret (fun v st'=>v= .bool true) ((run tb).call 4 [.agg [.list f1 n1 (p.structs.map Struct.v), .list f2 n2 (p.enums.map Enum.v), .list f3 n3 (p.funcs.map Fun.v)], .str t] st0):=by
  obtain⟨s0,hs0⟩:∃s0,s0=newBox st0 [.list f1 n1 (p.structs.map Struct.v), .list f2 n2 (p.enums.map Enum.v), .list f3 n3 (p.funcs.map Fun.v)]:=⟨_,rfl⟩
  have hx0:s0.store[0]? =some (.box [.list f1 n1 (p.structs.map Struct.v), .list f2 n2 (p.enums.map Enum.v), .list f3 n3 (p.funcs.map Fun.v)]):=by rw[hs0];rfl
  have b0:s0.base=0:=by rw[hs0];rfl
  have p0:s0.prot=[]:=by rw[hs0];rfl
  have hal:=O_3 s0
  have hl0:st0.store.length=0:=rfl
  obtain⟨gb,hgr⟩:=O_ p f1 f2 f3 n1 n2 n3 h hw s0
  obtain⟨nv,s2,hnew,hG,hN⟩:=Y_0 p f1 f2 f3 n1 n2 n3 h s0 b0 p0
  have hx2:=hG.at_ hx0
  obtain⟨eb,enl,hdi⟩:=Z_6 p f1 f2 f3 n1 n2 n3 h s2
  rw[run4 (by simp)]
  cases gb with
  |true=>
   simp[-List.getD_eq_getElem?_getD, -getElem?_pos,hs0.symm,hl0,hal,hx0,hgr]
   exact Ret.one rfl
  |false=>
   by_cases h300:(300:Int)<(t.length:Nat)
   ·simp[-List.getD_eq_getElem?_getD, -getElem?_pos,hs0.symm,hl0,hal,hx0,hgr,h300]
    exact Ret.one rfl
   rcases hN with⟨hd,hf,r,m,D,Dc,rfl,hT⟩|⟨hd,w,rfl,hw⟩
   ·have b2:=hT.ms.base
    have p2:=hT.ms.prot
    have hst:=fun f1 f2 f3 n1 n2 n3=>E_ p t f1 f2 f3 n1 n2 n3 h
    unfold stV at hst
    obtain⟨s3,hs3⟩:∃s3,s3=newBox s2 ((p.st t).getD .z).ks3:=⟨_,rfl⟩
    have hset:∀zs:List V,setO (newBox s2 zs) s2.store.length (.box ((p.st t).getD .z).ks3)=s3:=fun zs=>by rw[hs3];exact g_0
    have hgb:s3.store[s2.store.length]? =some (.box ((p.st t).getD .z).ks3):=by rw[hs3];exact b_4
    have hx3:s3.store[0]? =some (.box [.list f1 n1 (p.structs.map Struct.v), .list f2 n2 (p.enums.map Enum.v), .list f3 n3 (p.funcs.map Fun.v)]):=by rw[hs3];exact a_3 hx2
    have hbox3:s3.store[r]? =some (.box [.list false none ((p.structs.map Struct.nrm).map Struct.v), .list false none ((p.enums.map Enum.nrm).map Enum.v), .list false none ((p.funcs.map Fun.nrm).map Fun.v), .map m]):=by rw[hs3];exact a_3 hT.box
    have hT3:TabSt s3 r m D Dc:=by rw[hs3];exact hT.ms.tab.grow (p_1 (Grows.refl _) _)
    have b3:s3.base=0:=by rw[hs3];exact b2
    have p3:s3.prot=[]:=by rw[hs3];exact p2
    have hlen3:s3.store.length=s2.store.length+1:=by rw[hs3];simp[newBox]
    have hTP:∀P,TabSt (setProt s3 P) r m D Dc:=fun P=>⟨hT3.box,hT3.ents,hT3.decl⟩
    have ht2:t.length<2^40:=by omega
    have k15:=fun P=>E_5 r m _ _ _ D t ht2 (setProt s3 P) hbox3 hT3.ents
    have k17:=fun P=>E_4 r m D Dc t ht2 _ (hTP P)
    have k19:=fun P=>G_3 r m D Dc t ht2 _ (hTP P)
    have k21:=fun P=>L_5 r m D Dc t ht2 _ (hTP P)
    have k16:=fun f1 f2 f3 n1 n2 n3=>J_2 p t f1 f2 f3 n1 n2 n3 h ht2
    have k18:=fun f1 f2 f3 n1 n2 n3=>Z_0 p t f1 f2 f3 n1 n2 n3 h (V_5 hf) ht2
    have k20:=fun f1 f2 f3 n1 n2 n3=>aS_ p hf t f1 f2 f3 n1 n2 n3 ht2
    have k22:=fun f1 f2 f3 n1 n2 n3=>aF_4 p t f1 f2 f3 n1 n2 n3 h ht2
    have hcp:copiedM D t=copied p t:=by unfold copiedM copied;rw[w_8 hT.ms]
    rw[H_2 hf hT]at k17
    rw[R_6 hf hT]at k19
    rw[w_8 hT.ms]at k15
    rw[hcp]at k21
    have hbk:V.bulks ((p.structs.map Struct.nrm).map Struct.v)≤1048576:=by
     rw[N_6]
     have:=h
     rw[b_6]at this;omega
    have k23:=ai_5 r (p.structs.map Struct.nrm) false none _ _ _ t hbk s3 (by rw[p3];simp) hbox3
    rw[ac_]at k23
    have hsf:(((p.st t).map Struct.nrm).isSome&&(((p.st t).map Struct.nrm).getD .z).safe)=((p.st t).isSome&&((p.st t).getD .z).safe):=by cases p.st t<;>rfl
    rw[hsf]at k23
    unfold Struct.ks3 at hset hgb
    clear hs3
    generalize(p.st t).isSome=ok at *
    generalize(p.st t).getD .z=y at *
    generalize known p t=kn at *
    generalize slotsD p t=sl at *
    generalize dropsF p t=dr at *
    generalize copied p t=cp at *
    cases ok with
    |true=>
     simp[-List.getD_eq_getElem?_getD, -getElem?_pos,hs0.symm,hl0,hal,hx0,hgr,h300,hnew,hx2,hst,b2,p2,hset,hx3,hgb,b3,p3,k15,k16,k17,k18,k19,k20,k21,k22,k23,Struct.nrm,Struct.v,Nat.testBit]
     exact Ret.one rfl
    |false=>
     simp[-List.getD_eq_getElem?_getD, -getElem?_pos,hs0.symm,hl0,hal,hx0,hgr,h300,hnew,hx2,hst,b2,p2,hset,hx3,hgb,b3,p3,k15,k16,k17,k18,k19,k20,k21,k22,k23,Struct.nrm,Struct.v,Nat.testBit]
     exact Ret.one rfl
   ·have hpos:0<(dgAll p).length:=by
     have:(dgAll p).length≠0:=fun e=>hd (List.length_eq_zero_iff.1 e)
     omega
    simp[-List.getD_eq_getElem?_getD, -getElem?_pos,hs0.symm,hl0,hal,hx0,hgr,h300,hnew,hx2,hdi,hpos]
    exact Ret.one rfl
 obtain⟨v,st',e,rfl⟩:=hh
 exact⟨st',e⟩
theorem bi_3{t:Str}(hp:plain t=true):kindOf (refS ++t)=4:=by
 rw[as_3 (as_0 refS t),ad_9 rfl,hp];rfl
theorem bh_0{t:Str}(hp:plain t=true):kindOf (mutS ++t)=5:=by
 rw[ar_5 (as_0 mutS t),ad_9 rfl,hp];rfl
theorem bk_7(p:Prog){t:Str}(hp:plain t=true):∃B,withW refS t=(B,true)∧B.length≤t.length+4∧known p B=known p t∧slotsD p B=(if known p t=true then 1 else 0)∧dropsF p B=false∧copied p B=known p t:=by
 have h:=bi_3 hp
 have e:withW refS t=(refS ++t,true):=by unfold withW;rw[h,hp];rfl
 have hk:=Z_3 (p:=p) rfl hp (show(3:Int)≤kindOf (refS ++t)by omega)
 refine⟨refS ++t,e,by simp[refS],hk,?_,?_,?_⟩
 ·unfold slotsD val;rw[hk,h];simp
 ·unfold dropsF;rw[h];simp
 ·unfold copied;rw[hk,h];simp
theorem bm_7(p:Prog){t:Str}(hp:plain t=true):∃B,withW mutS t=(B,true)∧B.length≤t.length+4∧known p B=known p t∧slotsD p B=(if known p t=true then 1 else 0)∧dropsF p B=false∧copied p B=false:=by
 have h:=bh_0 hp
 have e:withW mutS t=(mutS ++t,true):=by unfold withW;rw[h,hp];rfl
 have hk:=Z_3 (p:=p) rfl hp (show(3:Int)≤kindOf (mutS ++t)by omega)
 refine⟨mutS ++t,e,by simp[mutS],hk,?_,?_,?_⟩
 ·unfold slotsD val;rw[hk,h];simp
 ·unfold dropsF;rw[h];simp
 ·unfold copied;rw[h];simp
theorem aV_6{p:Prog}{t:Str}(h:known p t=false):slotsD p t=0:=by
 unfold slotsD;rw[h];rfl
theorem ba_1(p:Prog)(t:Str)(f1 f2 f3:Bool)(n1 n2 n3:Option Bool)(h:p.size≤1048576)(hw:p.wf)(ht:t.length≤1048576):∃st',(run tb).call 8 [.agg [.list f1 n1 (p.structs.map Struct.v), .list f2 n2 (p.enums.map Enum.v), .list f3 n3 (p.funcs.map Fun.v)], .str t] st0=some (.bool true,st'):=by
 have hh:Ret (fun v st'=>v= .bool true) ((run tb).call 8 [.agg [.list f1 n1 (p.structs.map Struct.v), .list f2 n2 (p.enums.map Enum.v), .list f3 n3 (p.funcs.map Fun.v)], .str t] st0):=by
  obtain⟨s0,hs0⟩:∃s0,s0=newBox st0 [.list f1 n1 (p.structs.map Struct.v), .list f2 n2 (p.enums.map Enum.v), .list f3 n3 (p.funcs.map Fun.v)]:=⟨_,rfl⟩
  have hx0:s0.store[0]? =some (.box [.list f1 n1 (p.structs.map Struct.v), .list f2 n2 (p.enums.map Enum.v), .list f3 n3 (p.funcs.map Fun.v)]):=by rw[hs0];rfl
  have b0:s0.base=0:=by rw[hs0];rfl
  have p0:s0.prot=[]:=by rw[hs0];rfl
  have hal:=O_3 s0
  have hl0:st0.store.length=0:=rfl
  obtain⟨gb,hgr⟩:=O_ p f1 f2 f3 n1 n2 n3 h hw s0
  obtain⟨nv,s2,hnew,hG,hN⟩:=Y_0 p f1 f2 f3 n1 n2 n3 h s0 b0 p0
  have hx2:=hG.at_ hx0
  have ht2:t.length<2^40:=by omega
  have ht3:t.length<2^30:=by omega
  have k35:=fun st=>O_6 t ht2 st
  rw[run8 (by simp)]
  cases gb with
  |true=>
   simp[-List.getD_eq_getElem?_getD, -getElem?_pos,hs0.symm,hl0,hal,hx0,hgr]
   exact Ret.one rfl
  |false=>
   by_cases h300:(300:Int)<(t.length:Nat)
   ·simp[-List.getD_eq_getElem?_getD, -getElem?_pos,hs0.symm,hl0,hal,hx0,hgr,h300]
    exact Ret.one rfl
   rcases hN with⟨hd,hf,r,m,D,Dc,rfl,hT⟩|⟨hd,w,rfl,hw⟩
   ·cases hpl:plain t with
    |false=>
     rw[hpl]at k35
     simp[-List.getD_eq_getElem?_getD, -getElem?_pos,hs0.symm,hl0,hal,hx0,hgr,h300,hnew,hx2,k35]
     exact Ret.one rfl
    |true=>
     rw[hpl]at k35
     have k25:=fun st=>be_3 t ht3 st
     have k36:=fun st=>br_6 t ht3 st
     have k37:=fun st=>br_3 t ht3 st
     obtain⟨B,ok,eB,lB,b1,b2,b3,b4⟩:=aP_8 p hpl
     obtain⟨R,eR,lR,r1,r2,r3,r4⟩:=bk_7 p hpl
     obtain⟨M,eM,lM,m1,m2,m3,m4⟩:=bm_7 p hpl
     rw[eB]at k25;rw[eR]at k36;rw[eM]at k37
     have K15:∀u:Str,u.length<2^40→(run tb).call 15 [.ptr r 0, .str u] s2=some (.bool (known p u),s2):=fun u hu=>by
      obtain⟨l1,l2,l3,e⟩:=hT.ms.tab.box
      rw[←w_8 hT.ms];exact E_5 r m l1 l2 l3 D u hu s2 e hT.ms.tab.ents
     have K17:∀u:Str,u.length<2^40→(run tb).call 17 [.ptr r 0, .str u] s2=some (.int .i64 ((slotsD p u:Nat):Int),s2):=fun u hu=>by
      rw[←H_2 hf hT];exact E_4 r m D Dc u hu s2 hT.ms.tab
     have K19:∀u:Str,u.length<2^40→(run tb).call 19 [.ptr r 0, .str u] s2=some (.bool (dropsF p u),s2):=fun u hu=>by
      rw[←R_6 hf hT];exact G_3 r m D Dc u hu s2 hT.ms.tab
     have K21:∀u:Str,u.length<2^40→(run tb).call 21 [.ptr r 0, .str u] s2=some (.bool (copied p u),s2):=fun u hu=>by
      have hcp:copiedM D u=copied p u:=by unfold copiedM copied;rw[w_8 hT.ms]
      rw[←hcp];exact L_5 r m D Dc u hu s2 hT.ms.tab
     have t15:=K15 t ht2
     have t17:=K17 t ht2
     have B15:=K15 B (by omega)
     have B17:=K17 B (by omega)
     have B19:=K19 B (by omega)
     have B21:=K21 B (by omega)
     have R15:=K15 R (by omega)
     have R17:=K17 R (by omega)
     have R19:=K19 R (by omega)
     have R21:=K21 R (by omega)
     have M15:=K15 M (by omega)
     have M17:=K17 M (by omega)
     have M19:=K19 M (by omega)
     have M21:=K21 M (by omega)
     clear K15 K17 K19 K21
     rw[b1]at B15;rw[b2]at B17;rw[b3]at B19;rw[b4]at B21
     rw[r1]at R15;rw[r2]at R17;rw[r3]at R19;rw[r4]at R21
     rw[m1]at M15;rw[m2]at M17;rw[m3]at M19;rw[m4]at M21
     have hpos:=fun h:known p t=true=>au_7 h
     have hno:=fun h:known p t=false=>aV_6 h
     clear b1 b2 b3 b4 r1 r2 r3 r4 m1 m2 m3 m4 eB eR eM
     generalize known p t=kn at *
     generalize slotsD p t=sl at *
     cases kn with
     |false=>
      have hsl:=hno rfl
      subst hsl
      simp only[Bool.and_false,Bool.false_eq_true,if_false]at B15 B17 B19 B21 R15 R17 R19 R21 M15 M17 M19 M21
      simp[-List.getD_eq_getElem?_getD, -getElem?_pos,hs0.symm,hl0,hal,hx0,hgr,h300,hnew,hx2,k35,k25,k36,k37,t15,t17,B15,B17,B19,B21,R15,R17,R19,R21,M15,M17,M19,M21]
      exact Ret.one rfl
     |true=>
      have hsl:((1:Int)≤(sl:Nat)):=by have:=hpos rfl;omega
      cases ok with
      |false=>
       simp only[Bool.false_and,Bool.false_eq_true,if_false,if_true]at B15 B17 B19 B21 R15 R17 R19 R21 M15 M17 M19 M21
       simp[-List.getD_eq_getElem?_getD, -getElem?_pos,hs0.symm,hl0,hal,hx0,hgr,h300,hnew,hx2,k35,k25,k36,k37,t15,t17,B15,B17,B19,B21,R15,R17,R19,R21,M15,M17,M19,M21,hsl]
       exact Ret.one rfl
      |true=>
       simp only[Bool.true_and,if_true]at B15 B17 B19 B21 R15 R17 R19 R21 M15 M17 M19 M21
       simp[-List.getD_eq_getElem?_getD, -getElem?_pos,hs0.symm,hl0,hal,hx0,hgr,h300,hnew,hx2,k35,k25,k36,k37,t15,t17,B15,B17,B19,B21,R15,R17,R19,R21,M15,M17,M19,M21,hsl]
       exact Ret.one rfl
   ·simp[-List.getD_eq_getElem?_getD, -getElem?_pos,hs0.symm,hl0,hal,hx0,hgr,h300,hnew,hx2]
    exact Ret.one rfl
 obtain⟨v,st',e,rfl⟩:=hh
 exact⟨st',e⟩
theorem an_4:∀(n:Nat) (s:Str),s.length≤n→s.length=(strip s).1.length+4 *(strip s).2
 |0,s,h=>by
  cases s with
  |nil=>rw[x_3 (by decide)];rfl
  |cons c r=>simp at h
 |n+1,s,h=>by
  cases hb:hasPre s boxS with
  |false=>rw[x_3 hb];simp
  |true=>
   have h1:=p_8 hb
   have h2:boxS.length=4:=rfl
   have ih:=an_4 n (s.drop 4) (by rw[List.length_drop];omega)
   rw[L_6 hb]
   rw[List.length_drop]at ih
   simp only
   omega
theorem ac_4{s:Str}(h:isName s=true):s.length≤16:=by
 cases s with
 |nil=>simp
 |cons c r=>
  unfold isName at h
  simp only[Bool.and_eq_true,Bool.not_eq_true',decide_eq_false_iff_not]at h
  have:=h.1.1.1
  omega
theorem aZ_4{t:Str}(h:plain t=true):t.length≤48:=by
 have h1:=an_4 t.length t (Nat.le_refl _)
 unfold plain at h
 simp only[Bool.and_eq_true,Bool.or_eq_true,decide_eq_true_eq]at h
 obtain⟨a,b⟩:=h
 have:(strip t).1.length≤16:=by
  rcases b with b|b
  ·rw[eq_of_beq b];decide
  ·exact ac_4 b
 omega
theorem bb_3{b:Bool}{v:Var}(h:varOk true b v=true):v.v.bulk≤66:=by
 unfold varOk at h
 simp only[if_true,Bool.and_eq_true,Bool.or_eq_true]at h
 have h1:=ac_4 h.1
 have h2:v.type.length≤48:=by
  rcases h.2 with h2|h2
  ·exact aZ_4 h2
  ·rw[eq_of_beq h2.2];simp
 rw[P_9];omega
theorem Z_7{b:Bool}:∀{l:List Var},l.all (varOk true b)=true→V.bulks (l.map Var.v)≤66 * l.length
 |[],_=>by simp[V.bulks]
 |x::l,h=>by
  simp only[List.all_cons,Bool.and_eq_true]at h
  have h1:=bb_3 h.1
  have h2:=Z_7 h.2
  simp only[List.map_cons,V.bulks,List.length_cons];omega
theorem bm_4{p:Prog}(hf:Fine p){t:Str}{s:Struct}(h:p.st t=some s):s.size≤2000:=by
 have hr:=hf.right
 unfold right at hr
 simp only[Bool.and_eq_true]at hr
 have hs:=List.all_eq_true.1 hr.2.1.1 s (List.mem_of_find?_eq_some h)
 unfold structOk at hs
 simp only[Bool.and_eq_true,Bool.not_eq_true',decide_eq_false_iff_not]at hs
 have h1:=ac_4 hs.1.1
 have h2:=Z_7 hs.2
 rw[g_4];omega
theorem bj_2{p:Prog}(hf:Fine p){t:Str}{s:Enum}(h:p.en t=some s):s.size≤2000:=by
 have hr:=hf.right
 unfold right at hr
 simp only[Bool.and_eq_true]at hr
 have hs:=List.all_eq_true.1 hr.2.1.2 s (List.mem_of_find?_eq_some h)
 unfold enumOk at hs
 simp only[Bool.and_eq_true,Bool.not_eq_true',decide_eq_false_iff_not]at hs
 have h1:=ac_4 hs.1.1.1
 have h2:=Z_7 hs.2
 rw[o_1];omega
theorem av_5{p:Prog}(hf:Fine p)(t:Str):((p.st t).getD .z).nrm.size≤2000:=by
 have e:∀x:Struct,x.nrm.size=x.size:=fun x=>by rw[g_4,g_4];rfl
 rw[e]
 cases h:p.st t with
 |none=>decide
 |some s=>exact bm_4 hf h
theorem az_6{p:Prog}(hf:Fine p)(t:Str):((p.en t).getD .z).nrm.size≤2000:=by
 have e:∀x:Enum,x.nrm.size=x.size:=fun x=>by rw[o_1,o_1];rfl
 rw[e]
 cases h:p.en t with
 |none=>decide
 |some s=>exact bj_2 hf h
theorem bv_1{y:Struct}{w:Enum}(h1:y.size≤2000)(h2:w.size≤2000):∃K:Str,∀f1 f2 f3 n1 n2 n3 st,(run tb).call 32 [.agg [.list f1 n1 [y.v], .list f2 n2 [w.v], .list f3 n3 []]] st=some (.str K,st):=by
 have hp:(⟨none,[y],none,[w],none,[]⟩:Prog).size≤1048576:=by
  rw[b_6]
  simp only[List.map_cons,List.map_nil,V.bulks]
  have e1:y.v.bulk=y.size:=rfl
  have e2:w.v.bulk=w.size:=rfl
  omega
 refine⟨keyProg ⟨none,[y],none,[w],none,[]⟩,fun f1 f2 f3 n1 n2 n3 st=> ?_⟩
 exact aa_5 ⟨none,[y],none,[w],none,[]⟩ f1 f2 f3 n1 n2 n3 hp (by intro f hf;cases hf) st
theorem an_5:∀l:List Enum,V.bulks ((l.map Enum.nrm).map Enum.v)=V.bulks (l.map Enum.v)
 |[]=>rfl
 |x::l=>by
  have h:(Enum.nrm x).v.bulk=x.v.bulk:=by rw[K_2,K_2];rfl
  simp only[List.map_cons,V.bulks,h,an_5 l]
theorem aY_5(p:Prog)(t:Str):((p.enums.map Enum.nrm).find? fun x=>x.name==t)=(p.en t).map Enum.nrm:=by
 rw[List.find?_map];rfl
def Enum.ks3(x:Enum):List V:=[.int .i64 x.at_, .str x.name, .list false none (x.variants.map Var.v)]
theorem be_5(p:Prog)(t n:Str)(f1 f2 f3:Bool)(n1 n2 n3:Option Bool)(h:p.size≤1048576)(hw:p.wf)(ht:t.length≤1048576)(hn:n.length≤1048576):∃st',(run tb).call 7 [.agg [.list f1 n1 (p.structs.map Struct.v), .list f2 n2 (p.enums.map Enum.v), .list f3 n3 (p.funcs.map Fun.v)], .str t, .str n] st0=some (.bool true,st'):=by
 have hh:Ret (fun v st'=>v= .bool true) ((run tb).call 7 [.agg [.list f1 n1 (p.structs.map Struct.v), .list f2 n2 (p.enums.map Enum.v), .list f3 n3 (p.funcs.map Fun.v)], .str t, .str n] st0):=by
  obtain⟨s0,hs0⟩:∃s0,s0=newBox st0 [.list f1 n1 (p.structs.map Struct.v), .list f2 n2 (p.enums.map Enum.v), .list f3 n3 (p.funcs.map Fun.v)]:=⟨_,rfl⟩
  have hx0:s0.store[0]? =some (.box [.list f1 n1 (p.structs.map Struct.v), .list f2 n2 (p.enums.map Enum.v), .list f3 n3 (p.funcs.map Fun.v)]):=by rw[hs0];rfl
  have b0:s0.base=0:=by rw[hs0];rfl
  have p0:s0.prot=[]:=by rw[hs0];rfl
  have hal:=O_3 s0
  have hl0:st0.store.length=0:=rfl
  obtain⟨gb,hgr⟩:=O_ p f1 f2 f3 n1 n2 n3 h hw s0
  obtain⟨nv,s2,hnew,hG,hN⟩:=Y_0 p f1 f2 f3 n1 n2 n3 h s0 b0 p0
  have hx2:=hG.at_ hx0
  obtain⟨eb,enl,hdi⟩:=Z_6 p f1 f2 f3 n1 n2 n3 h s2
  rw[run7 (by simp)]
  cases gb with
  |true=>
   simp[-List.getD_eq_getElem?_getD, -getElem?_pos,hs0.symm,hl0,hal,hx0,hgr]
   exact Ret.one rfl
  |false=>
   by_cases h300:(300:Int)<(t.length:Nat)
   ·simp[-List.getD_eq_getElem?_getD, -getElem?_pos,hs0.symm,hl0,hal,hx0,hgr,h300]
    exact Ret.one rfl
   by_cases g300:(300:Int)<(n.length:Nat)
   ·simp[-List.getD_eq_getElem?_getD, -getElem?_pos,hs0.symm,hl0,hal,hx0,hgr,h300,g300]
    exact Ret.one rfl
   rcases hN with⟨hd,hf,r,m,D,Dc0,rfl,hT0⟩|⟨hd,w,rfl,hw⟩
   ·obtain⟨Dc,hT,hlen⟩:=hT0.trim h
    have b2:=hT.ms.base
    have p2:=hT.ms.prot
    obtain⟨y,hy⟩:∃y,y=(p.st t).getD .z:=⟨_,rfl⟩
    obtain⟨w,hwE⟩:∃w,w=(p.en t).getD .z:=⟨_,rfl⟩
    have k14:=fun f1 f2 f3 n1 n2 n3=>E_ p t f1 f2 f3 n1 n2 n3 h
    have k31:=fun f1 f2 f3 n1 n2 n3=>W_8 p t f1 f2 f3 n1 n2 n3 h
    unfold stV at k14
    unfold enV at k31
    rw[←hy]at k14
    rw[←hwE]at k31
    obtain⟨s3,hs3⟩:∃s3,s3=newBox s2 y.ks3:=⟨_,rfl⟩
    obtain⟨s4,hs4⟩:∃s4,s4=newBox s3 y.ks3:=⟨_,rfl⟩
    obtain⟨s5,hs5⟩:∃s5,s5=newBox s4 w.ks3:=⟨_,rfl⟩
    obtain⟨s6,hs6⟩:∃s6,s6=newBox s5 w.ks3:=⟨_,rfl⟩
    have hset3:∀zs:List V,setO (newBox s2 zs) s2.store.length (.box y.ks3)=s3:=fun zs=>by rw[hs3];exact g_0
    have hset4:∀zs:List V,setO (newBox s3 zs) s3.store.length (.box y.ks3)=s4:=fun zs=>by rw[hs4];exact g_0
    have hset5:∀zs:List V,setO (newBox s4 zs) s4.store.length (.box w.ks3)=s5:=fun zs=>by rw[hs5];exact g_0
    have hset6:∀zs:List V,setO (newBox s5 zs) s5.store.length (.box w.ks3)=s6:=fun zs=>by rw[hs6];exact g_0
    have up3:∀{i:Nat} {o:O},s2.store[i]? =some o→s3.store[i]? =some o:=fun h=>by rw[hs3];exact a_3 h
    have up4:∀{i:Nat} {o:O},s3.store[i]? =some o→s4.store[i]? =some o:=fun h=>by rw[hs4];exact a_3 h
    have up5:∀{i:Nat} {o:O},s4.store[i]? =some o→s5.store[i]? =some o:=fun h=>by rw[hs5];exact a_3 h
    have up6:∀{i:Nat} {o:O},s5.store[i]? =some o→s6.store[i]? =some o:=fun h=>by rw[hs6];exact a_3 h
    have g3:s6.store[s2.store.length]? =some (.box y.ks3):=up6 (up5 (up4 (by rw[hs3];exact b_4)))
    have g4:s6.store[s3.store.length]? =some (.box y.ks3):=up6 (up5 (by rw[hs4];exact b_4))
    have g5:s6.store[s4.store.length]? =some (.box w.ks3):=up6 (by rw[hs5];exact b_4)
    have g6:s6.store[s5.store.length]? =some (.box w.ks3):=by rw[hs6];exact b_4
    have x3:=up3 hx2
    have x4:=up4 x3
    have x5:=up5 x4
    have x6:=up6 x5
    have bx2:=hT.box
    have bx4:=up4 (up3 bx2)
    have bx6:=up6 (up5 bx4)
    have b3:s3.base=0:=by rw[hs3];exact b2
    have p3:s3.prot=[]:=by rw[hs3];exact p2
    have b4:s4.base=0:=by rw[hs4];exact b3
    have p4:s4.prot=[]:=by rw[hs4];exact p3
    have b5:s5.base=0:=by rw[hs5];exact b4
    have p5:s5.prot=[]:=by rw[hs5];exact p4
    have b6:s6.base=0:=by rw[hs6];exact b5
    have p6:s6.prot=[]:=by rw[hs6];exact p5
    have k24:=am_9 r m D Dc t n s2 p2 hT.ms.tab (fun k=>by have:=(hlen k).1;omega) (fun t=>by rw[H_2 hf hT];have:=O_5 p t;omega) (fun k v hv=>by have:=(hlen k).2 v hv;omega)
    have k26:=aa_6 r m D Dc t n s2 hT.ms.tab (fun k=>by have:=(hlen k).1;omega)
    have k27:=fun f1 f2 f3 n1 n2 n3=>aR_1 p t n f1 f2 f3 n1 n2 n3 h (V_5 hf)
    have k28:=fun f1 f2 f3 n1 n2 n3=>ax_3 p t n f1 f2 f3 n1 n2 n3 h
    rw[aP_0 hf hT]at k24
    rw[am_5 hf hT]at k26
    have hbk:V.bulks ((p.structs.map Struct.nrm).map Struct.v)≤1048576:=by
     rw[N_6]
     have:=h
     rw[b_6]at this;omega
    have hbe:V.bulks ((p.enums.map Enum.nrm).map Enum.v)≤1048576:=by
     rw[an_5]
     have:=h
     rw[b_6]at this;omega
    have hll:(p.structs.map Struct.nrm).length<2^40:=by
     have:=m_2 (p.structs.map Struct.nrm)
     omega
    have k29:=ae_9 r (p.structs.map Struct.nrm) false none _ _ _ t hbk s2 (by rw[p2];simp) bx2
    have k30:=aZ_0 r (p.enums.map Enum.nrm) false none _ _ _ t hbe s4 p4 bx4
    have k33:=fun P=>ai_8 r (p.structs.map Struct.nrm) false none _ _ _ t hll (setProt s6 P) bx6
    have k34:=fun f1 f2 f3 n1 n2 n3=>aI_6 p t f1 f2 f3 n1 n2 n3 h
    have hnum:idxI (fun x:Struct=>x.name==t) (p.structs.map Struct.nrm)=number p t:=by
     rw[aL_4];rfl
    rw[hnum]at k33
    have e29:stV ((p.structs.map Struct.nrm).find? fun x=>x.name==t)= .tup [y.nrm.v, .bool (p.st t).isSome]:=by
     rw[ac_,hy];unfold stV;cases p.st t<;>rfl
    have e30:enV ((p.enums.map Enum.nrm).find? fun x=>x.name==t)= .tup [w.nrm.v, .bool (p.en t).isSome]:=by
     rw[aY_5,hwE];unfold enV;cases p.en t<;>rfl
    rw[e29]at k29
    rw[e30]at k30
    obtain⟨K,k32⟩:=bv_1 (y:=y.nrm) (w:=w.nrm) (by rw[hy];exact av_5 hf t) (by rw[hwE];exact az_6 hf t)
    obtain⟨fa,fb,fc,hF⟩:∃fa fb fc,fieldD p t n= .tup [.str fa, .int .i64 fb, .bool fc]:=by
     unfold fieldD noPart;split
     ·exact⟨_,_,_,rfl⟩
     ·split<;>exact⟨_,_,_,rfl⟩
    obtain⟨va,vb,vc,hV⟩:∃fa fb fc,variantD p t n= .tup [.str fa, .int .i64 fb, .bool fc]:=by
     unfold variantD noPart;split
     ·exact⟨_,_,_,rfl⟩
     ·split<;>exact⟨_,_,_,rfl⟩
    rw[hF]at k24 k27
    rw[hV]at k26 k28
    have hc1:=fun fl nl=>S_ fl nl y.fields (by have:=av_5 hf t;rw[←hy,g_4]at this;have h2:=d_3 y.fields;simp only[Struct.nrm]at this;omega)
    have hc2:=fun fl nl=>S_ fl nl w.variants (by have:=az_6 hf t;rw[←hwE,o_1]at this;have h2:=d_3 w.variants;simp only[Enum.nrm]at this;omega)
    unfold Struct.ks3 at hset3 hset4 g3 g4
    unfold Enum.ks3 at hset5 hset6 g5 g6
    clear hs3 hs4 hs5 hs6 up3 up4 up5 up6 hT hT0 e29 e30 hF hV
    generalize number p t=nb at *
    generalize(p.st t).isSome=i1 at *
    generalize(p.en t).isSome=i2 at *
    simp only[Struct.nrm,Struct.v,Enum.nrm,Enum.v]at k32
    simp(maxSteps:=2000000) [-List.getD_eq_getElem?_getD, -getElem?_pos,hs0.symm,hl0,hal,hx0,hgr,h300,g300,hnew,hx2,k14,k24,k26,k27,k28,k29,k30,k31,k32,k33,k34,hset3,hset4,hset5,hset6,x3,x4,x5,x6,g3,g4,g5,g6,b2,b3,b4,b5,b6,p2,p3,p4,p5,p6,hc1,hc2,Struct.nrm,Struct.v,Enum.nrm,Enum.v,Nat.testBit]
    exact Ret.one rfl
   ·have hpos:0<(dgAll p).length:=by
     have:(dgAll p).length≠0:=fun e=>hd (List.length_eq_zero_iff.1 e)
     omega
    simp[-List.getD_eq_getElem?_getD, -getElem?_pos,hs0.symm,hl0,hal,hx0,hgr,h300,g300,hnew,hx2,hdi,hpos]
    exact Ret.one rfl
 obtain⟨v,st',e,rfl⟩:=hh
 exact⟨st',e⟩
end Go.Proofs.YtghhphdkojjalaaGreatDoor
namespace Go.Proofs.YtghhphdkojjalaaGreatDoor
open Go Go.Abs
set_option maxRecDepth 100000
theorem a_4{P:Program}{n:Nat}{t:TypeId}{x:V}(ht:P.underlying t=some .string)(h:Shaped P n t x):∃s:Str,x= .str s:=by
 cases n with
 |zero=>exact h.elim
 |succ n=>
  unfold Shaped at h
  rw[ht]at h
  obtain⟨s,rfl,_⟩:=h
  exact⟨s,rfl⟩
theorem K_7{P:Program}{n:Nat}{t:TypeId}{x:V}(ht:P.underlying t=some .bool)(h:Shaped P n t x):∃b:Bool,x= .bool b:=by
 cases n with
 |zero=>exact h.elim
 |succ n=>
  unfold Shaped at h
  rw[ht]at h
  exact h
theorem b_7{P:Program}{n:Nat}{t:TypeId}{fs:Array Field}{x:V}(ht:P.underlying t=some (.struct fs))(h:Shaped P n t x):∃ys:List V,x= .agg (ys.flatMap V.cells)∧ys.length=fs.size∧∀(i:Nat) (f:Field) (y:V),fs[i]? =some f→ys[i]? =some y→Shaped P (n-1) f.type y:=by
 cases n with
 |zero=>exact h.elim
 |succ n=>
  unfold Shaped at h
  rw[ht]at h
  exact h
theorem b_0{P:Program}{α:Type}{g:α→V}{Q:α→Prop}{n:Nat}{t e:TypeId}{x:V}(ht:P.underlying t=some (.slice e))(he:∀n y,Shaped P n e y→∃a,y=g a∧Q a)(h:Shaped P n t x):∃(nl:Bool) (xs:List α),x= .list false (some nl) (xs.map g)∧∀a∈xs,Q a:=by
 cases n with
 |zero=>exact h.elim
 |succ n=>
  unfold Shaped at h
  rw[ht]at h
  obtain⟨nl,xs,rfl,_,_,hx⟩:=h
  have:∀xs:List V,(∀y∈xs,Shaped P n e y)→∃bs:List α,xs=bs.map g∧∀a∈bs,Q a:=by
   intro xs
   induction xs with
   |nil=>intro _;exact⟨[],rfl,fun a h=>by cases h⟩
   |cons y ys ih=>
    intro h
    obtain⟨a,rfl,hq⟩:=he n y (h y (by simp))
    obtain⟨bs,rfl,hqs⟩:=ih fun z hz=>h z (by simp[hz])
    refine⟨a::bs,rfl,fun b hb=> ?_⟩
    rcases List.mem_cons.1 hb with rfl|hb
    ·exact hq
    ·exact hqs b hb
  obtain⟨bs,rfl,hq⟩:=this xs hx
  exact⟨nl,bs,rfl,hq⟩
theorem D_2{n:Nat}{x:V}(h:Shaped Tryz.prog n 49 x):∃a:Var,x=a.v∧True:=by
 obtain⟨ys,rfl,hl,hf⟩:=b_7 Tryz.underlying49 h
 have hl':ys.length=2:=hl
 rcases ys with _|⟨y0,_|⟨y1,_|⟨z,r⟩⟩⟩
 ·simp at hl'
 ·simp at hl'
 ·have h0:=hf 0 _ y0 rfl rfl
  have h1:=hf 1 _ y1 rfl rfl
  obtain⟨a0,rfl⟩:=a_4 Tryz.underlying9 h0
  obtain⟨a1,rfl⟩:=a_4 Tryz.underlying9 h1
  exact⟨⟨a0,a1⟩,by simp[Var.v,V.cells],trivial⟩
 ·simp at hl'
theorem v_4{n:Nat}{x:V}(h:Shaped Tryz.prog n 69 x):∃a:Place,x=a.v∧True:=by
 obtain⟨ys,rfl,hl,hf⟩:=b_7 Tryz.underlying69 h
 have hl':ys.length=2:=hl
 rcases ys with _|⟨y0,_|⟨y1,_|⟨z,r⟩⟩⟩
 ·simp at hl'
 ·simp at hl'
 ·have h0:=hf 0 _ y0 rfl rfl
  have h1:=hf 1 _ y1 rfl rfl
  obtain⟨a0,rfl⟩:=a_4 Tryz.underlying9 h0
  obtain⟨nl1,a1,rfl,q1⟩:=b_0 (g:=V.str) (Q:=fun _=>True) Tryz.underlying67 (fun n y h=>by obtain⟨a,rfl⟩:=a_4 Tryz.underlying9 h;exact⟨a,rfl,trivial⟩) h1
  exact⟨⟨a0,some nl1,a1⟩,by simp[Place.v,V.cells],trivial⟩
 ·simp at hl'
theorem Y_2{n:Nat}{x:V}(h:Shaped Tryz.prog n 114 x):∃a:Arm,x=a.v∧True:=by
 obtain⟨ys,rfl,hl,hf⟩:=b_7 Tryz.underlying114 h
 have hl':ys.length=3:=hl
 rcases ys with _|⟨y0,_|⟨y1,_|⟨y2,_|⟨z,r⟩⟩⟩⟩
 ·simp at hl'
 ·simp at hl'
 ·simp at hl'
 ·have h0:=hf 0 _ y0 rfl rfl
  have h1:=hf 1 _ y1 rfl rfl
  have h2:=hf 2 _ y2 rfl rfl
  obtain⟨a0,rfl⟩:=a_4 Tryz.underlying9 h0
  obtain⟨a1,rfl⟩:=a_4 Tryz.underlying9 h1
  obtain⟨a2,rfl⟩:=a_4 Tryz.underlying9 h2
  exact⟨⟨a0,a1,a2⟩,by simp[Arm.v,V.cells],trivial⟩
 ·simp at hl'
theorem U_0{n:Nat}{x:V}(h:Shaped Tryz.prog n 77 x):∃a:Stmt,x=a.v∧a.wf:=by
 obtain⟨ys,rfl,hl,hf⟩:=b_7 Tryz.underlying77 h
 have hl':ys.length=7:=hl
 rcases ys with _|⟨y0,_|⟨y1,_|⟨y2,_|⟨y3,_|⟨y4,_|⟨y5,_|⟨y6,_|⟨z,r⟩⟩⟩⟩⟩⟩⟩⟩
 ·simp at hl'
 ·simp at hl'
 ·simp at hl'
 ·simp at hl'
 ·simp at hl'
 ·simp at hl'
 ·simp at hl'
 ·have h0:=hf 0 _ y0 rfl rfl
  have h1:=hf 1 _ y1 rfl rfl
  have h2:=hf 2 _ y2 rfl rfl
  have h3:=hf 3 _ y3 rfl rfl
  have h4:=hf 4 _ y4 rfl rfl
  have h5:=hf 5 _ y5 rfl rfl
  have h6:=hf 6 _ y6 rfl rfl
  obtain⟨a0,rfl,b0,c0⟩:=k_6 Tryz.underlying3 h0
  obtain⟨a1,rfl,b1,c1⟩:=k_6 Tryz.underlying3 h1
  obtain⟨a2,rfl,q2⟩:=v_4 h2
  obtain⟨a3,rfl,b3,c3⟩:=k_6 Tryz.underlying2 h3
  obtain⟨a4,rfl⟩:=a_4 Tryz.underlying9 h4
  obtain⟨a5,rfl⟩:=a_4 Tryz.underlying9 h5
  obtain⟨nl6,a6,rfl,q6⟩:=b_0 (g:=Place.v) (Q:=fun _=>True) Tryz.underlying70 (fun n y h=>v_4 h) h6
  exact⟨⟨a0,a1,a2,a3,a4,a5,some nl6,a6⟩,by simp[Stmt.v,Place.v,V.cells],⟨⟨b1,c1⟩,⟨b3,c3⟩⟩⟩
 ·simp at hl'
theorem U_2{n:Nat}{x:V}(h:Shaped Tryz.prog n 73 x):∃a:Term,x=a.v∧a.wf:=by
 obtain⟨ys,rfl,hl,hf⟩:=b_7 Tryz.underlying73 h
 have hl':ys.length=7:=hl
 rcases ys with _|⟨y0,_|⟨y1,_|⟨y2,_|⟨y3,_|⟨y4,_|⟨y5,_|⟨y6,_|⟨z,r⟩⟩⟩⟩⟩⟩⟩⟩
 ·simp at hl'
 ·simp at hl'
 ·simp at hl'
 ·simp at hl'
 ·simp at hl'
 ·simp at hl'
 ·simp at hl'
 ·have h0:=hf 0 _ y0 rfl rfl
  have h1:=hf 1 _ y1 rfl rfl
  have h2:=hf 2 _ y2 rfl rfl
  have h3:=hf 3 _ y3 rfl rfl
  have h4:=hf 4 _ y4 rfl rfl
  have h5:=hf 5 _ y5 rfl rfl
  have h6:=hf 6 _ y6 rfl rfl
  obtain⟨a0,rfl,b0,c0⟩:=k_6 Tryz.underlying3 h0
  obtain⟨a1,rfl,b1,c1⟩:=k_6 Tryz.underlying3 h1
  obtain⟨a2,rfl,q2⟩:=v_4 h2
  obtain⟨a3,rfl⟩:=a_4 Tryz.underlying9 h3
  obtain⟨nl4,a4,rfl,q4⟩:=b_0 (g:=Place.v) (Q:=fun _=>True) Tryz.underlying70 (fun n y h=>v_4 h) h4
  obtain⟨nl5,a5,rfl,q5⟩:=b_0 (g:=V.str) (Q:=fun _=>True) Tryz.underlying67 (fun n y h=>by obtain⟨a,rfl⟩:=a_4 Tryz.underlying9 h;exact⟨a,rfl,trivial⟩) h5
  obtain⟨nl6,a6,rfl,q6⟩:=b_0 (g:=Arm.v) (Q:=fun _=>True) Tryz.underlying71 (fun n y h=>Y_2 h) h6
  exact⟨⟨a0,a1,a2,a3,some nl4,a4,some nl5,a5,some nl6,a6⟩,by simp[Term.v,Place.v,V.cells],⟨b1,c1⟩⟩
 ·simp at hl'
theorem R_{n:Nat}{x:V}(h:Shaped Tryz.prog n 75 x):∃a:Block,x=a.v∧a.wf:=by
 obtain⟨ys,rfl,hl,hf⟩:=b_7 Tryz.underlying75 h
 have hl':ys.length=4:=hl
 rcases ys with _|⟨y0,_|⟨y1,_|⟨y2,_|⟨y3,_|⟨z,r⟩⟩⟩⟩⟩
 ·simp at hl'
 ·simp at hl'
 ·simp at hl'
 ·simp at hl'
 ·have h0:=hf 0 _ y0 rfl rfl
  have h1:=hf 1 _ y1 rfl rfl
  have h2:=hf 2 _ y2 rfl rfl
  have h3:=hf 3 _ y3 rfl rfl
  obtain⟨a0,rfl,b0,c0⟩:=k_6 Tryz.underlying3 h0
  obtain⟨a1,rfl⟩:=a_4 Tryz.underlying9 h1
  obtain⟨nl2,a2,rfl,q2⟩:=b_0 (g:=Stmt.v) (Q:=Stmt.wf) Tryz.underlying66 (fun n y h=>U_0 h) h2
  obtain⟨a3,rfl,q3⟩:=U_2 h3
  exact⟨⟨a0,a1,some nl2,a2,a3⟩,by simp[Block.v,Term.v,V.cells],⟨q2,q3⟩⟩
 ·simp at hl'
theorem Z_{n:Nat}{x:V}(h:Shaped Tryz.prog n 65 x):∃a:Fun,x=a.v∧a.wf:=by
 obtain⟨ys,rfl,hl,hf⟩:=b_7 Tryz.underlying65 h
 have hl':ys.length=6:=hl
 rcases ys with _|⟨y0,_|⟨y1,_|⟨y2,_|⟨y3,_|⟨y4,_|⟨y5,_|⟨z,r⟩⟩⟩⟩⟩⟩⟩
 ·simp at hl'
 ·simp at hl'
 ·simp at hl'
 ·simp at hl'
 ·simp at hl'
 ·simp at hl'
 ·have h0:=hf 0 _ y0 rfl rfl
  have h1:=hf 1 _ y1 rfl rfl
  have h2:=hf 2 _ y2 rfl rfl
  have h3:=hf 3 _ y3 rfl rfl
  have h4:=hf 4 _ y4 rfl rfl
  have h5:=hf 5 _ y5 rfl rfl
  obtain⟨a0,rfl,b0,c0⟩:=k_6 Tryz.underlying3 h0
  obtain⟨a1,rfl⟩:=a_4 Tryz.underlying9 h1
  obtain⟨nl2,a2,rfl,q2⟩:=b_0 (g:=Var.v) (Q:=fun _=>True) Tryz.underlying35 (fun n y h=>D_2 h) h2
  obtain⟨nl3,a3,rfl,q3⟩:=b_0 (g:=Var.v) (Q:=fun _=>True) Tryz.underlying35 (fun n y h=>D_2 h) h3
  obtain⟨a4,rfl⟩:=a_4 Tryz.underlying9 h4
  obtain⟨nl5,a5,rfl,q5⟩:=b_0 (g:=Block.v) (Q:=Block.wf) Tryz.underlying63 (fun n y h=>R_ h) h5
  exact⟨⟨a0,a1,some nl2,a2,some nl3,a3,a4,some nl5,a5⟩,by simp[Fun.v,V.cells],q5⟩
 ·simp at hl'
theorem U_4{n:Nat}{x:V}(h:Shaped Tryz.prog n 37 x):∃a:Struct,x=a.v∧True:=by
 obtain⟨ys,rfl,hl,hf⟩:=b_7 Tryz.underlying37 h
 have hl':ys.length=5:=hl
 rcases ys with _|⟨y0,_|⟨y1,_|⟨y2,_|⟨y3,_|⟨y4,_|⟨z,r⟩⟩⟩⟩⟩⟩
 ·simp at hl'
 ·simp at hl'
 ·simp at hl'
 ·simp at hl'
 ·simp at hl'
 ·have h0:=hf 0 _ y0 rfl rfl
  have h1:=hf 1 _ y1 rfl rfl
  have h2:=hf 2 _ y2 rfl rfl
  have h3:=hf 3 _ y3 rfl rfl
  have h4:=hf 4 _ y4 rfl rfl
  obtain⟨a0,rfl,b0,c0⟩:=k_6 Tryz.underlying3 h0
  obtain⟨a1,rfl⟩:=a_4 Tryz.underlying9 h1
  obtain⟨a2,rfl⟩:=K_7 Tryz.underlying4 h2
  obtain⟨a3,rfl⟩:=K_7 Tryz.underlying4 h3
  obtain⟨nl4,a4,rfl,q4⟩:=b_0 (g:=Var.v) (Q:=fun _=>True) Tryz.underlying35 (fun n y h=>D_2 h) h4
  exact⟨⟨a0,a1,a2,a3,some nl4,a4⟩,by simp[Struct.v,V.cells],trivial⟩
 ·simp at hl'
theorem T_7{n:Nat}{x:V}(h:Shaped Tryz.prog n 45 x):∃a:Enum,x=a.v∧True:=by
 obtain⟨ys,rfl,hl,hf⟩:=b_7 Tryz.underlying45 h
 have hl':ys.length=3:=hl
 rcases ys with _|⟨y0,_|⟨y1,_|⟨y2,_|⟨z,r⟩⟩⟩⟩
 ·simp at hl'
 ·simp at hl'
 ·simp at hl'
 ·have h0:=hf 0 _ y0 rfl rfl
  have h1:=hf 1 _ y1 rfl rfl
  have h2:=hf 2 _ y2 rfl rfl
  obtain⟨a0,rfl,b0,c0⟩:=k_6 Tryz.underlying3 h0
  obtain⟨a1,rfl⟩:=a_4 Tryz.underlying9 h1
  obtain⟨nl2,a2,rfl,q2⟩:=b_0 (g:=Var.v) (Q:=fun _=>True) Tryz.underlying35 (fun n y h=>D_2 h) h2
  exact⟨⟨a0,a1,some nl2,a2⟩,by simp[Enum.v,V.cells],trivial⟩
 ·simp at hl'
theorem E_0{n:Nat}{x:V}(h:Shaped Tryz.prog n 26 x):∃a:Prog,x=a.v∧a.wf:=by
 obtain⟨ys,rfl,hl,hf⟩:=b_7 Tryz.underlying26 h
 have hl':ys.length=3:=hl
 rcases ys with _|⟨y0,_|⟨y1,_|⟨y2,_|⟨z,r⟩⟩⟩⟩
 ·simp at hl'
 ·simp at hl'
 ·simp at hl'
 ·have h0:=hf 0 _ y0 rfl rfl
  have h1:=hf 1 _ y1 rfl rfl
  have h2:=hf 2 _ y2 rfl rfl
  obtain⟨nl0,a0,rfl,q0⟩:=b_0 (g:=Struct.v) (Q:=fun _=>True) Tryz.underlying22 (fun n y h=>U_4 h) h0
  obtain⟨nl1,a1,rfl,q1⟩:=b_0 (g:=Enum.v) (Q:=fun _=>True) Tryz.underlying23 (fun n y h=>T_7 h) h1
  obtain⟨nl2,a2,rfl,q2⟩:=b_0 (g:=Fun.v) (Q:=Fun.wf) Tryz.underlying24 (fun n y h=>Z_ h) h2
  exact⟨⟨some nl0,a0,some nl1,a1,some nl2,a2⟩,by simp[Prog.v,V.cells],q2⟩
 ·simp at hl'
end Go.Proofs.YtghhphdkojjalaaGreatDoor
namespace Go.Proofs.YtghhphdkojjalaaGreatDoor
open Go Go.Abs Go.ChangeShapes Go.WideShapes Go.RowKit
set_option maxRecDepth 1000000
theorem as_1:(Tryz.prog.funcs.toList.all fun F=>F.name != "runtime.NumGoroutine")=true:=by kernel_rfl
theorem U_8:(asciiNs.map (V.int .u8)).all (below 0 deep)=true:=by
 rw[List.all_eq_true]
 intro x hx
 obtain⟨i, -,rfl⟩:=List.mem_map.1 hx
 rfl
theorem own:ownKnob Tryz.prog.godebug=none:=by kernel_rfl
theorem ah_3:Tryz.prog.globalNamed "strings.asciiSpace" =some 0:=by kernel_rfl
theorem aX_9(args:Array Value)(w:World):(callFunc 198 args).run Tryz.prog w=((do pure (Next.value (←extSem .indexByteString args))):Sem Next).run Tryz.prog w:=by
 have hf:Tryz.prog.funcs[198]? =some Tryz.f198:=Tryz.func198
 have h1:(Tryz.f198.name== "runtime.NumGoroutine")=false:=by kernel_rfl
 have h2:Tryz.f198.body.isNone=true:=by kernel_rfl
 have h3:(Extern.findNext Tryz.f198).isNone=true:=by kernel_rfl
 have h4:Extern.find Tryz.f198=some Extern.BytealgIndexByte.indexByte:=by rfl
 rw[Option.isNone_iff_eq_none]at h3
 simp only[callFunc,Sem.run_bind,run_program,Result.andThen_ok,hf,h1,Bool.false_eq_true,if_false,h2,if_true,h3,h4]
 rfl
theorem T_8:tb.Fits Tryz.prog:=a_▸Tab.of_fits (fun f F h=>by
  have:=List.all_eq_true.1 as_1 F (List.mem_of_getElem? (i:=f) (by simpa using h))
  simpa using this) (fun f e h args w=>by
  split at h
  ·rename_i hf
   cases h
   subst hf
   exact aX_9 args w
  ·cases h) (by kernel_rfl) (fun g cs h=>by
  split at h
  ·cases h;exact U_8
  ·cases h)
theorem U_7{W:World}(h:laidMetH Tryz.prog Rows.tableDiagsUptoRow.laid W):GlobOk tb (k0 W):=by
 rw[MakeChecks.laidMetH_plain _ _ _ (by kernel_rfl)]at h
 intro g cs hg
 rw[a_]at hg
 simp only[tb0,Tab.of]at hg
 split at hg
 ·rename_i e
  subst e;cases hg
  obtain⟨ps,⟨_,_,_,_,_,_,_,_,_,_,⟨_,_,_,_,_,_,_,_,_,_,⟨_,_,_,_,_,_,_,_,_,_,⟨_,_,_,_,_,_,_,_,_,_,⟨_,_,_,_,_,_,_,_,_,_,⟨_,_,_,_,_,_,_,_,_,_,⟨g,t,cs,fuel,p,q,h1,h2,h3,h4,_⟩,_⟩,_⟩,_⟩,_⟩,_⟩,_⟩,_⟩:=h
  rw[ah_3]at h1;cases h1
  have ht:t=216:=by
   have h5:(Tryz.prog.globals[0]?).map (·.type)=some 216:=by kernel_rfl
   rw[h5]at h2;exact(Option.some.inj h2).symm
  subst ht
  exact aw_1 ah_3 h3 (aa_7 (n:=256) Tryz.underlying216 (e:=5) (by kernel_rfl) (by kernel_rfl) (by kernel_rfl) h4)
 ·cases hg
theorem uptoAll{H:Type}:∀l:List (DataW H),Rows.uptoBulkAll l=(l.map Rows.uptoBulk).sum
 |[]=>by simp[Rows.uptoBulkAll]
 |d::r=>by rw[Rows.uptoBulkAll,uptoAll r];simp
theorem U_6{H:Type}:BulkOk (Rows.uptoBulk (H:=H)) where
 str bytes:=by simp[Rows.uptoBulk]
 lit l:=by cases l<;>simp[Rows.uptoBulk]
 nil:=by simp[Rows.uptoBulk]
 ptr d:=by simp[Rows.uptoBulk]
 slice es sp:=by simp only[Rows.uptoBulk,uptoAll];omega
 agg ps:=by simp only[Rows.uptoBulk,uptoAll];omega
theorem G_2{H:Type}(ds:List (DataW H))(h:Rows.uptoSmall H ds=true):(ds.map Rows.uptoBulk).sum≤1048576:=by
 have h1:Rows.uptoBulkAll ds≤1048576:=of_decide_eq_true h
 rw[←uptoAll];exact h1
def tyL:List TypeId:=[26,22,23,24,37,45,65,35,49,63,75,66,77,69,67,70,73,71,114,9,3,2,4]
theorem P_2:tyL.all (tyIn Tryz.prog tyL)=true:=by kernel_rfl
noncomputable def laidWorld(os:Os):World:=World.laidAll Tryz.prog os Rows.tableDiagsUptoRow.laid
theorem w_6(os:Os)(args:Array Value):laidMetH Tryz.prog Rows.tableDiagsUptoRow.laid ((laidWorld os).forCall (fun _ _=>0) ⟨#[],args,[]⟩).memory:=by
 rw[MakeChecks.laidMetH_plain _ _ _ (by kernel_rfl)]
 exact laidMet_laidAll _ (by kernel_rfl) (by kernel_rfl)
theorem P_6:laidOutB Tryz.prog=true:=by kernel_rfl
end Go.Proofs.YtghhphdkojjalaaGreatDoor
