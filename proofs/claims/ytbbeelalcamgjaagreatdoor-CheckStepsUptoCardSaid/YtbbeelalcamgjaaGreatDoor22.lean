/- A shared part of the proofs of the Check statements: a verified evaluator, the code in parts, the functions walked. -/
import Derived.Test.YtbbeelalcamgjaaGreatDoor21
set_option linter.unusedVariables false
set_option linter.unusedSimpArgs false
set_option linter.unnecessarySimpa false
set_option linter.all false
namespace Go.Proofs.YtbbeelalcamgjaaGreatDoor
open Go.Abs
attribute [local simp] N_6 O_3 v_9 H_6 l_0 P_0 F_5 E_3 u_1 d_0 k_2 o_3 c_3 f_0 i_2 c_0 i_4 finish dropMarks resOf
 resList m_1 o_1 h_4 f_9 d_ c_1 n_2 h_5 c_ b_1 b_0 b_9 c_4 f_6 f_4 d_4
 d_2 g_2 o_8 P_4 C_4 m_4 F_1 f_5 P_8 s_un G_ t_7 d_3 d_7 v_5 t_0 i_5 B_9 w_3 O_8 F_6 C_8 P_ n_9
 c_9 c_2 m_3 x_3 e_3 j_4 o_0 p_ o_9 n_5 a_7 c_8 f_8 e_5 f_3 k_ j_ h_8 g_0
 w_ m_7 m_8 n_7 u_6 u_8 u_5 i_9 v_7 evArgs m_ h_3 o_2 f_2 o_ C_7 ofValue ofValues isConst D_5 E_5 H_ C_ G_9
 E_9 E_4 E_0 G_5 G_4 D_7 E_2 C_5 D_0 F_9 H_5 strBin bne E_6 D_4 C_6 convV evConv optArg a_5 argF D_1 v_4 s_3 r_0 n_3 B_7 v_1
 x_1 m_9 h_6 j_7 k_0 i_7 j_0 g_ F_3 u_0 i_6 k_1 okCells P_9 d_6 l_8 g_3 k_3 j_3 g_1 i_0
 j_2 m_2 s_1 u_9 o_5 w_9 s_9 n_ u_ v_6 h_0 j_8 e_7 e_2 j_9 splice putElem k_6 H_3 E_8 k_4 m_6
 g_7 v_2 e_6 bdV fill o_6 bsF setAll d_8 f_7 F_2 e_9 i_1 i_8 f_1 r_ w_2 q_1 s_5 F_8 t_2 u_3 p_4 j_1
 r_9 F_7 D_ w_4 e_1 c_7 r_1 v_ n_4 s_ h_7 G_6 u_7 n_1 D_2 t_4 q_2 D_9 k_8 w_7 c_6 o_4 j_5 G_1
 v_3 F_ B_6 E_1 f_ x_2 t_6 H_1 D_6 H_0 C_2 s_8 m_5 w_8 t_8 deep List.getD_cons_zero List.getD_cons_succ List.getElem?_cons_zero
 List.getElem?_cons_succ List.getElem?_nil s_0 s_2 E_ G_2 G_0 C_0 x_0 v_8 B_8 F_0 x_4 w_1 t_ w_5 t_1 u_4 n_6 n_0 C_9 F_4
 i_3 i_ s_7 t_9 e_8 e_4 D_3 G_3 G_8 C_3 ld35 sr35 al35 ae_3 ac_4 ad_9 ad_4 ae_0 ld32 sr32 T_ ia32 ln32 sl32 sv32 ap32 bs32 ld33 sr33 as_6
 ia33 ib33 ln33 lo33 ap33 bs33 ld3 sr3 und3 ld63 sr63 al63 ar_7 am_9 al_5 ld9 und9 ln9 ix9 o_7 A_3 B_5 p_0 p_7 ae_8 af_3 ae_7 aB_1 T_3 P_7 ai_9
 K_6 U_ a_3 d_5 p_5 b_3 z_1 q_5 l_7 c_5 g_9 q48_3 l48_3 as_ S_9 S_2 as_2 kdOp kdOf isPure readsOf protS ld26 sr26 al26 S_
 S_0 R_8 bd26 ld38 sr38 al38 aa_1 X_2 bd38 ld66 sr66 al66 V_8 V_4 ld36 sr36 Q_2 ia36 ib36 ln36 lo36 sl36 ap36 bs36 ld4 sr4 und4 ld78 sr78 al78 Y_3 Z_5 W_1 V_5 X_7 bd78
 bl_4 bm_3 bk_0 bk_2 ld24 ak_2 ia24 ib24 ln24 lo24 ap24 bs24 bm_8 ld43 sr43 al43 bb_6 bc_0 bb_7 bc_1 bd43 ld39 sr39 al39 ga0 ga1 ga2 ga3 gs1 gs2 gs3 ba_9 p16_20 p18_8 D_Rg S16 L16_1
 L16_3 L16_5 L16_8 L16_11 L16_15 L16_18 L16_22 L16_30 L16_32 L16_34 L16_36 L16_39 L16_42 L16_44 S18 L18_1 L18_3 L18_6 L18_11 L18_18 L18_21 L18_24 L18_26 S45 L45_1 L45_3 S47 L47_1 L47_4 L47_7 L47_10
 L47_13 L47_17 L47_19 L47_23 L47_26 L47_29 L47_33 L47_36 L47_39 L47_43 S48 L48_1 S113 L113_1 L113_4 L113_7 L113_11
set_option maxRecDepth 100000
set_option linter.unusedSimpArgs false
set_option linter.unusedVariables false
set_option maxHeartbeats 4000000
theorem aI_{s b:Nat}{st:St}{P:List Nat}{sp fl fl':Bool}{nl nl':Option Bool}{xs ys:List V}:appV s b (setProt st P) sp (.list fl nl xs) (.list fl' nl' ys)=(appV s b st sp (.list fl nl xs) (.list fl' nl' ys)).map fun p=>(p.1,setProt p.2 P):=by
 unfold appV srcElems
 simp only
 split
 ·rfl
 ·split
  ·rfl
  ·cases fl
   ·rfl
   ·simp only
    split<;>rfl
theorem aM_0(x:Fun)(g1 g2 g3:Bool)(m1 m2 m3:Option Bool)(hp:x.size≤1048576)(st:St):∃b nl,(run tb).call 48 [.agg [.int .i64 x.at_, .str x.name, .list g1 m1 (x.params.map Var.v), .list g2 m2 (x.locals.map Var.v), .str x.result, .list g3 m3 (x.blocks.map Block.v)]] st=some (.list b nl (x.vars.map Var.v),st):=by
 have hh:Ret (fun v st'=>st'=st∧IsL (x.vars.map Var.v) v) ((run tb).call 48 [.agg [.int .i64 x.at_, .str x.name, .list g1 m1 (x.params.map Var.v), .list g2 m2 (x.locals.map Var.v), .str x.result, .list g3 m3 (x.blocks.map Block.v)]] st):=by
  rw[n_8]at hp
  have l1:=b_8 x.params
  have l2:=b_8 x.locals
  have hA0:Go.Abs.Acc 2 (newBox emptySt (funCs x)) (.list true (some false) []) []:=aR_7
  obtain⟨v3,st3,ap3,A3,R3,F3⟩:=hA0.app (bytes:=32) (sp:=spreadB (.list false none (x.params.map Var.v))) (y:= .list false none (x.params.map Var.v)) rfl rfl rfl (by simp[Var.v,V.cells,V.oneCell]) (by decide) (by decide) (by simp;omega)
  have B3:=hA0.boxes R3
  have j1:st3.base=0:=B3.base
  have j2:st3.prot=[]:=B3.prot
  have j4:st3.store[0]? =some (.box (funCs x)):=B3.get 0 _ rfl
  obtain⟨v4,st4,ap4,A4,R4,F4⟩:=A3.app (bytes:=32) (sp:=spreadB (.list false none (x.locals.map Var.v))) (y:= .list false none (x.locals.map Var.v)) j1 j2 rfl (by simp[Var.v,V.cells,V.oneCell]) (by decide) (by decide) (by simp;omega)
  have ap3':appV 2 32 (newBox (setProt emptySt [0]) (funCs x)) (spreadB (.list false none (x.params.map Var.v))) (.list true (some false) []) (.list false none (x.params.map Var.v))=some (v3,setProt st3 [0]):=by
   have h:=aI_ (s:=2) (b:=32) (st:=newBox emptySt (funCs x)) (P:=[0]) (sp:=spreadB (.list false none (x.params.map Var.v))) (fl:=true) (nl:=some false) (xs:=[]) (fl':=false) (nl':=none) (ys:=x.params.map Var.v)
   rw[ap3]at h
   exact h
  unfold funCs at ap3' j4
  rw[run48 (by simp)]
  simp[-List.getD_eq_getElem?_getD, -getElem?_pos,ap3',j1,j2,j4,ap4,Nat.testBit]
  have hl:([] ++x.params.map Var.v) ++x.locals.map Var.v=x.vars.map Var.v:=by unfold Fun.vars;rw[List.map_append];rfl
  rw[hl]at A4
  obtain⟨b,nl,hR⟩:=A4.retV (st0:=st) (g:=id) (by
   intro v hv
   obtain⟨p, -,rfl⟩:=List.mem_map.1 hv
   rfl) (by simp)
  exact⟨_,_,hR,rfl,b,nl,by rw[List.map_id]⟩
 obtain⟨v,st',e,rfl,b,nl,rfl⟩:=hh
 exact⟨b,nl,e⟩
def Ty.cs(x:Ty):List V:=[.str x.type, .bool x.sh, .bool x.le, .bool x.ho]
def plCs(q:Place):List V:=[.str q.loc, .list false none (q.steps.map .str)]
theorem aM_3(x:Fun)(g1 g2 g3:Bool)(m1 m2 m3:Option Bool)(hp:x.size≤1048576)(st:St):∃b nl,(run tb).call 45 [.agg [.int .i64 x.at_, .str x.name, .list g1 m1 (x.params.map Var.v), .list g2 m2 (x.locals.map Var.v), .str x.result, .list g3 m3 (x.blocks.map Block.v)]] st=some (.list b nl (x.vars.map Var.v),st):=by
 have hh:Ret (fun v st'=>st'=st∧IsL (x.vars.map Var.v) v) ((run tb).call 45 [.agg [.int .i64 x.at_, .str x.name, .list g1 m1 (x.params.map Var.v), .list g2 m2 (x.locals.map Var.v), .str x.result, .list g3 m3 (x.blocks.map Block.v)]] st):=by
  rw[n_8]at hp
  have l1:=b_8 x.params
  have l2:=b_8 x.locals
  by_cases h0:x.params.length+x.locals.length=0
  ·have e1:x.params=[]:=List.length_eq_zero_iff.1 (by omega)
   have e2:x.locals=[]:=List.length_eq_zero_iff.1 (by omega)
   have hv:x.vars=[]:=by unfold Fun.vars;rw[e1,e2];rfl
   have hC:=fun st=>at_4 false false true none none (some false) st
   rw[hv,e1,e2]
   rw[run45 (by simp)]
   simp[-List.getD_eq_getElem?_getD, -getElem?_pos,hC]
   exact Ret.one ⟨rfl,_,_,rfl⟩
  ·have hC:=aG_2 x.params x.locals false false true none none (some false) (by omega) (by omega) (newBox emptySt (funCs x)) (Nat.zero_le _) rfl
   have hA:Go.Abs.Acc 2 (addO (newBox emptySt (funCs x)) (.vec false (x.params.map Var.v ++x.locals.map Var.v))) (.slice 1 2 0 (x.params.length+x.locals.length)) (x.vars.map Var.v):=by
    have e:x.vars.map Var.v=x.params.map Var.v ++x.locals.map Var.v:=by unfold Fun.vars;rw[List.map_append]
    rw[e]
    refine .inr ⟨1,false,by simp,rfl,?_⟩
    intro h
    have:=congrArg List.length h
    simp at this
    simp[this]at h0
   obtain⟨b,nl,hR⟩:=hA.retV (st0:=st) (g:=id) (by
    intro v hv
    obtain⟨p, -,rfl⟩:=List.mem_map.1 hv
    rfl) (by simp)
   unfold funCs at hC hR
   rw[run45 (by simp)]
   simp[-List.getD_eq_getElem?_getD, -getElem?_pos,hC]
   exact⟨_,_,hR,rfl,b,nl,by rw[List.map_id]⟩
 obtain⟨v,st',e,rfl,b,nl,rfl⟩:=hh
 exact⟨b,nl,e⟩
theorem aN_(t:Str)(ht:t.length<2^40)(st:St):(run tb).call 113 [.str t] st=some (.tup [.str (elemW t).1, .bool (elemW t).2],st):=by
 have h2:=H_2 t ht
 by_cases hk:kindOf t<3
 ·have e:elemW t=([],false):=by unfold elemW;rw[if_pos hk]
  rw[e]
  generalize kindOf t=k at *
  rw[run113 (by simp)]
  simp[-List.getD_eq_getElem?_getD, -getElem?_pos,h2,hk]
  repeat' (first|refine a_0 ?_ ?_|refine Out.branch ?_ ?_|refine Ret.branch ?_ ?_)<;>(intro hb;(try(simp only[NB]at hb));simp[-List.getD_eq_getElem?_getD, -getElem?_pos,h2,hk,hb])
  all_goals try refine Out.one ?_
  all_goals try refine Ret.one ?_
  all_goals try(simp[-List.getD_eq_getElem?_getD,h2,hk, *];done)
  all_goals try simp[-List.getD_eq_getElem?_getD,h2,hk]
  all_goals try(intros;omega)
 ·have e:elemW t=(t.drop 4,true):=by unfold elemW;rw[if_neg hk]
  have h4:4≤t.length:=(ap_3 (by omega)).1
  rw[e]
  have hs:=M_1 (T:=tb) (k:= .i64) und9 (by decide:(0:Int)≤4) (by omega:(4:Int)≤(t.length:Nat))
  generalize kindOf t=k at *
  rw[run113 (by simp)]
  simp[-List.getD_eq_getElem?_getD, -getElem?_pos,h2,hk,hs]
  repeat' (first|refine a_0 ?_ ?_|refine Out.branch ?_ ?_|refine Ret.branch ?_ ?_)<;>(intro hb;(try(simp only[NB]at hb));simp[-List.getD_eq_getElem?_getD, -getElem?_pos,h2,hk,hs,hb])
  all_goals try refine Out.one ?_
  all_goals try refine Ret.one ?_
  all_goals try(simp[-List.getD_eq_getElem?_getD,h2,hk,hs, *];done)
  all_goals try simp[-List.getD_eq_getElem?_getD,h2,hk,hs]
  all_goals try(intros;omega)
theorem aN_0(p:Prog)(r:Nat)(y:Ty)(s:Str)(hy:y.type.length≤1048576)(st:St)(hT:Tbl p r st)(hp:PB st):(run tb).call 47 [y.v, .ptr r 0, .str s] st=some (.tup [(stepD p y s).1.v, .int .i64 (stepD p y s).2],st):=by
 have h:=hT.fine.size
 have hT2:=fun cs=>hT.ro.box cs
 have np:=hp.np
 have np0:=hp.np0
 unfold Ty.v
 by_cases hs:s=starS
 ·subst hs
  have hE:=fun st=>aN_ y.type (by omega) st
  have hK:=fun st=>H_2 y.type (by omega) st
  have hd:stepD p y starS=if(elemW y.type).2=true then(⟨(elemW y.type).1,y.sh||kindOf y.type==4,y.le||kindOf y.type==5,y.ho⟩,0)else(Ty.z,6):=by unfold stepD;rw[if_pos rfl]
  rw[hd]
  clear hd
  generalize elemW y.type=ew at *
  obtain⟨e1,e2⟩:=ew
  simp only at hE⊢
  cases e2 with
  |false=>
   rw[run47 (by simp)]
   simp[-List.getD_eq_getElem?_getD, -getElem?_pos,hE,starS,Ty.z,np,np0]
   repeat' (first|refine a_0 ?_ ?_|refine Out.branch ?_ ?_|refine Ret.branch ?_ ?_)<;>(intro hb;(try(simp only[NB]at hb));simp[-List.getD_eq_getElem?_getD, -getElem?_pos,hE,starS,Ty.z,np,np0,hb])
   all_goals try refine Out.one ?_
   all_goals try refine Ret.one ?_
   all_goals try(simp[-List.getD_eq_getElem?_getD,hE,starS,Ty.z,np,np0, *];done)
   all_goals try simp[-List.getD_eq_getElem?_getD,hE,starS,Ty.z,np,np0]
   all_goals try(intros;omega)
  |true=>
   generalize kindOf y.type=K at *
   rw[run47 (by simp)]
   simp[-List.getD_eq_getElem?_getD, -getElem?_pos,hE,hK,starS,Ty.z,np,np0]
   repeat' (first|refine a_0 ?_ ?_|refine Out.branch ?_ ?_|refine Ret.branch ?_ ?_)<;>(intro hb;(try(simp only[NB]at hb));simp[-List.getD_eq_getElem?_getD, -getElem?_pos,hE,hK,starS,Ty.z,np,np0,hb])
   all_goals try refine Out.one ?_
   all_goals try refine Ret.one ?_
   all_goals try(simp[-List.getD_eq_getElem?_getD,hE,hK,starS,Ty.z,np,np0, *];done)
   all_goals try simp[-List.getD_eq_getElem?_getD,hE,hK,starS,Ty.z,np,np0]
   all_goals try(intros;omega)
 ·have hs':(s==[42])=false:=by simpa[starS]using hs
  have hS:=fun cs ds=>tblStruct ((hT2 cs).box ds) ((hp.ro.box cs).box ds) y.type
  cases hps:p.st y.type with
  |none=>
   rw[hps]at hS
   have hd:stepD p y s=(Ty.z,6):=by unfold stepD;rw[if_neg hs,hps]
   rw[hd]
   simp only[stV,Option.getD_none,Struct.z,Struct.nrm,Struct.v,Option.isSome_none]at hS
   rw[run47 (by simp)]
   simp[-List.getD_eq_getElem?_getD, -getElem?_pos,hs',hS,Ty.z,np,np0]
   repeat' (first|refine a_0 ?_ ?_|refine Out.branch ?_ ?_|refine Ret.branch ?_ ?_)<;>(intro hb;(try(simp only[NB]at hb));simp[-List.getD_eq_getElem?_getD, -getElem?_pos,hs',hS,Ty.z,np,np0,hb])
   all_goals try refine Out.one ?_
   all_goals try refine Ret.one ?_
   all_goals try(simp[-List.getD_eq_getElem?_getD,hs',hS,Ty.z,np,np0, *];done)
   all_goals try simp[-List.getD_eq_getElem?_getD,hs',hS,Ty.z,np,np0]
   all_goals try(intros;omega)
  |some d=>
   rw[hps]at hS
   simp only[stV,Option.getD_some,Struct.nrm,Struct.v,Option.isSome_some]at hS
   have hF:∀cs ds es o,(run tb).call 26 [.ptr r 0, .str y.type, .str s] (setO (newBox (newBox (newBox (roSt st) cs) ds) es) (st.store.length+2) o)=some (fieldD p y.type s,setO (newBox (newBox (newBox (roSt st) cs) ds) es) (st.store.length+2) o):=fun cs ds es o=>tblField (hT.ro.grow ((g_5 (g_5 (g_5 (Grows.refl (roSt st)) cs) ds) es).set (i:=st.store.length+2) (Nat.le_add_right _ _) o)) (fun q hq=>by have:=hp q hq;simp[setO,newBox,roSt];omega) y.type s
   rcases Z_7 hps s with⟨e1,e2⟩|⟨z,o,e1,e2⟩
   ·have hd:stepD p y s=(Ty.z,5):=by unfold stepD;rw[if_neg hs,hps];simp only[e1]
    rw[hd]
    rw[e2]at hF
    unfold noPart at hF
    rw[run47 (by simp)]
    simp[-List.getD_eq_getElem?_getD, -getElem?_pos,hs',hS,hF,Ty.z,np,np0]
    repeat' (first|refine a_0 ?_ ?_|refine Out.branch ?_ ?_|refine Ret.branch ?_ ?_)<;>(intro hb;(try(simp only[NB]at hb));simp[-List.getD_eq_getElem?_getD, -getElem?_pos,hs',hS,hF,Ty.z,np,np0,hb])
    all_goals try refine Out.one ?_
    all_goals try refine Ret.one ?_
    all_goals try(simp[-List.getD_eq_getElem?_getD,hs',hS,hF,Ty.z,np,np0, *];done)
    all_goals try simp[-List.getD_eq_getElem?_getD,hs',hS,hF,Ty.z,np,np0]
    all_goals try(intros;omega)
   ·have hd:stepD p y s=(⟨z.type,y.sh,y.le,y.ho||d.hook⟩,0):=by unfold stepD;rw[if_neg hs,hps];simp only[e1]
    rw[hd]
    rw[e2]at hF
    rw[run47 (by simp)]
    simp[-List.getD_eq_getElem?_getD, -getElem?_pos,hs',hS,hF,Ty.z,np,np0]
    repeat' (first|refine a_0 ?_ ?_|refine Out.branch ?_ ?_|refine Ret.branch ?_ ?_)<;>(intro hb;(try(simp only[NB]at hb));simp[-List.getD_eq_getElem?_getD, -getElem?_pos,hs',hS,hF,Ty.z,np,np0,hb])
    all_goals try refine Out.one ?_
    all_goals try refine Ret.one ?_
    all_goals try(simp[-List.getD_eq_getElem?_getD,hs',hS,hF,Ty.z,np,np0, *];done)
    all_goals try simp[-List.getD_eq_getElem?_getD,hs',hS,hF,Ty.z,np,np0]
    all_goals try(intros;omega)
theorem ad_7(p:Prog)(r:Nat)(x:Fun)(q:Place)(g1 g2 g3:Bool)(m1 m2 m3:Option Bool)(fq:Bool)(nq:Option Bool)(hx:x.size≤1048576)(hq:q.size≤1048576)(st:St)(hT:Tbl p r st)(hp:PB st):(run tb).call 16 [.ptr r 0, .agg [.int .i64 x.at_, .str x.name, .list g1 m1 (x.params.map Var.v), .list g2 m2 (x.locals.map Var.v), .str x.result, .list g3 m3 (x.blocks.map Block.v)], .agg [.str q.loc, .list fq nq (q.steps.map .str)]] st=some (.tup [(placeD p x q).1.v, .int .i64 (placeD p x q).2],st):=by
 have h:=hT.fine.size
 have np:=hp.np
 have np0:=hp.np0
 have set3:∀a b c d e,setO (newBox (newBox (newBox (newBox (roSt st) a) b) c) d) (st.store.length+3) (.box e)=newBox (newBox (newBox (newBox (roSt st) a) b) c) e:=by
  intro a b c d e
  simp only[setO,newBox,roSt,List.append_assoc,List.cons_append,List.nil_append,gs3]
 have set2:∀a b c d e,setO (newBox (newBox (newBox (newBox (roSt st) a) b) c) d) (st.store.length+2) (.box e)=newBox (newBox (newBox (newBox (roSt st) a) b) e) d:=by
  intro a b c d e
  simp only[setO,newBox,roSt,List.append_assoc,List.cons_append,List.nil_append,gs2]
 have set2':∀a b c e,setO (newBox (newBox (newBox (roSt st) a) b) c) (st.store.length+2) (.box e)=newBox (newBox (newBox (roSt st) a) b) e:=by
  intro a b c e
  simp only[setO,newBox,roSt,List.append_assoc,List.cons_append,List.nil_append,gs2]
 obtain⟨b,nl,hV⟩:=aM_3 x false false false none none none hx (newBox (newBox (newBox (roSt st) (funCs x)) (plCs q)) Ty.z.cs)
 have hvl:x.vars.length<2^40:=by
  have h1:=hx
  rw[n_8]at h1
  have l1:=b_8 x.params
  have l2:=b_8 x.locals
  unfold Fun.vars
  rw[List.length_append];omega
 have hsl:q.steps.length<2^40:=by
  have h1:=hq
  rw[q_]at h1
  have:=x_ q.steps
  omega
 have hF:=aj_4 b nl x.vars q.loc hvl (newBox (newBox (newBox (roSt st) (funCs x)) (plCs q)) Ty.z.cs)
 rcases af_1 (fun y:Var=>y.name==q.loc) x.vars with⟨h1,h2⟩|⟨k,y,h1,h2,h3,h4⟩
 ·have e:placeD p x q=(Ty.z,5):=by unfold placeD;rw[h1]
  rw[e]
  rw[h2]at hF
  unfold funCs plCs at hV hF
  simp only[Ty.cs,Ty.z]at hV hF
  rw[run16 (by simp)]
  simp[-List.getD_eq_getElem?_getD, -getElem?_pos,hV,hF,set2',np,np0,Ty.v,Ty.z]
  repeat' (first|refine a_0 ?_ ?_|refine Out.branch ?_ ?_|refine Ret.branch ?_ ?_)<;>(intro hb;(try(simp only[NB]at hb));simp[-List.getD_eq_getElem?_getD, -getElem?_pos,hV,hF,set2',np,np0,Ty.v,Ty.z,hb])
  all_goals try refine Out.one ?_
  all_goals try refine Ret.one ?_
  all_goals try(simp[-List.getD_eq_getElem?_getD,hV,hF,set2',np,np0,Ty.v,Ty.z, *];done)
  all_goals try simp[-List.getD_eq_getElem?_getD,hV,hF,set2',np,np0,Ty.v,Ty.z]
  all_goals try(intros;omega)
 ·have e:placeD p x q=stepsD p ⟨y.type,false,false,false⟩ q.steps:=by unfold placeD;rw[h1]
  rw[e]
  generalize hS:stepsD p ⟨y.type,false,false,false⟩ q.steps=T
  rw[h3]at hF
  have hyl:y.type.length≤1048576:=by
   have:=ag_8 hx (List.mem_of_find?_eq_some h1)
   rw[w_0]at this;omega
  have hk0:¬((k:Int)<0):=by omega
  unfold funCs plCs at hV hF
  simp only[Ty.cs,Ty.z]at hV hF
  rw[run16 (by simp)]
  simp[-List.getD_eq_getElem?_getD, -getElem?_pos,hV,hF,h2,h4,hk0,set3,np,np0,Var.v]
  refine a_9 (a_8 e16_20 w16_20 q.steps.length (I:=fun i f st'=>∃z:Ty,st'=newBox (newBox (newBox (newBox (roSt st) (funCs x)) (plCs q)) Ty.z.cs) z.cs∧f 32= .int .i64 (i:Nat)∧z.type.length≤1048576∧T=stepsD p z (q.steps.drop i)) (Q:=fun e f st'=>(e= .exit 0∧∃z:Ty,st'=newBox (newBox (newBox (newBox (roSt st) (funCs x)) (plCs q)) Ty.z.cs) z.cs∧T=(z,0))∨(e= .ret∧∃z:Ty,st'=newBox (newBox (newBox (newBox (roSt st) (funCs x)) (plCs q)) Ty.z.cs) z.cs∧∃c:Int,f 7= .int .i64 c∧T=(Ty.z,c))) ?_ ?_ ?_) ?_
  ·exact⟨⟨y.type,false,false,false⟩,rfl,by simp,hyl,by simp[hS]⟩
  ·rintro i f st' hi hk ⟨z,rfl,h32,hzl,hs⟩
   have hz:=getE hi
   have ha:=add1 (i:=i) (by omega)
   have k0:f 0= .ptr r 0:=by simp[hk]
   have k5:f 5= .ptr (st.store.length+1) 0:=by simp[hk]
   have k6:f 6= .ptr (st.store.length+2) 0:=by simp[hk]
   have k10:f 10= .ptr (st.store.length+3) 0:=by simp[hk]
   have k30:f 30= .list false none (q.steps.map .str):=by simp[hk]
   have k31:f 31= .int .i64 (q.steps.length:Nat):=by simp[hk]
   clear hk hV hF hS h1 h2 e
   rw[List.drop_eq_getElem_cons hi,stepsD]at hs
   generalize q.steps[i]=s at *
   have hst:=aN_0 p r z s hzl (newBox (newBox (newBox (newBox (roSt st) (funCs x)) (plCs q)) Ty.z.cs) z.cs) ((((hT.ro.box _).box _).box _).box _) ((((hp.ro.box _).box _).box _).box _)
   have hlen:=as_0 h z s hzl
   generalize stepD p z s=sd at *
   obtain⟨z2,c⟩:=sd
   simp only[Ty.v,Ty.cs,Ty.z,funCs,plCs]at hst hs hlen
   by_cases hc:c=0
   ·subst hc
    rw[if_pos rfl]at hs
    simp[-List.getD_eq_getElem?_getD, -getElem?_pos,h32,k0,k5,k6,k10,k30,k31,hz,hi,ha,hs,hst,set3,np,np0,Ty.cs,Ty.z,funCs,plCs]
    repeat' (first|refine a_0 ?_ ?_|refine Out.branch ?_ ?_|refine Ret.branch ?_ ?_)<;>(intro hb;(try(simp only[NB]at hb));simp[-List.getD_eq_getElem?_getD, -getElem?_pos,h32,k0,k5,k6,k10,k30,k31,hz,hi,ha,hs,hst,set3,np,np0,Ty.cs,Ty.z,funCs,plCs,hb])
    all_goals try refine Out.one ?_
    all_goals try refine Ret.one ?_
    all_goals try(simp[-List.getD_eq_getElem?_getD,h32,k0,k5,k6,k10,k30,k31,hz,hi,ha,hs,hst,set3,np,np0,Ty.cs,Ty.z,funCs,plCs, *];done)
    all_goals try simp[-List.getD_eq_getElem?_getD,h32,k0,k5,k6,k10,k30,k31,hz,hi,ha,hs,hst,set3,np,np0,Ty.cs,Ty.z,funCs,plCs]
    all_goals try(intros;omega)
    exact⟨z2,by simp[Ty.cs,Ty.z,funCs,plCs],hlen,rfl⟩
   ·have hc':(c==0)=false:=by simpa using hc
    rw[if_neg hc]at hs
    simp[-List.getD_eq_getElem?_getD, -getElem?_pos,h32,k0,k5,k6,k10,k30,k31,hz,hi,ha,hs,hst,hc,hc',set3,set2,np,np0,Ty.cs,Ty.z,funCs,plCs]
    repeat' (first|refine a_0 ?_ ?_|refine Out.branch ?_ ?_|refine Ret.branch ?_ ?_)<;>(intro hb;(try(simp only[NB]at hb));simp[-List.getD_eq_getElem?_getD, -getElem?_pos,h32,k0,k5,k6,k10,k30,k31,hz,hi,ha,hs,hst,hc,hc',set3,set2,np,np0,Ty.cs,Ty.z,funCs,plCs,hb])
    all_goals try refine Out.one ?_
    all_goals try refine Ret.one ?_
    all_goals try(simp[-List.getD_eq_getElem?_getD,h32,k0,k5,k6,k10,k30,k31,hz,hi,ha,hs,hst,hc,hc',set3,set2,np,np0,Ty.cs,Ty.z,funCs,plCs, *];done)
    all_goals try simp[-List.getD_eq_getElem?_getD,h32,k0,k5,k6,k10,k30,k31,hz,hi,ha,hs,hst,hc,hc',set3,set2,np,np0,Ty.cs,Ty.z,funCs,plCs]
    all_goals try(intros;omega)
    exact⟨z2,by simp[Ty.cs,Ty.z,funCs,plCs]⟩
  ·rintro f st' hk ⟨z,rfl,h32,hzl,hs⟩
   rw[List.drop_length,stepsD]at hs
   have k31:f 31= .int .i64 (q.steps.length:Nat):=by simp[hk]
   clear hk hV hF hS e h1 h2
   simp[-List.getD_eq_getElem?_getD, -getElem?_pos,h32,k31,hs]
   repeat' (first|refine a_0 ?_ ?_|refine Out.branch ?_ ?_|refine Ret.branch ?_ ?_)<;>(intro hb;(try(simp only[NB]at hb));simp[-List.getD_eq_getElem?_getD, -getElem?_pos,h32,k31,hs,hb])
   all_goals try refine Out.one ?_
   all_goals try refine Ret.one ?_
   all_goals try(simp[-List.getD_eq_getElem?_getD,h32,k31,hs, *];done)
   all_goals try simp[-List.getD_eq_getElem?_getD,h32,k31,hs]
   all_goals try(intros;omega)
  ·rintro e f st' ⟨⟨rfl,z,rfl,hs⟩|⟨rfl,z,rfl,c,h7,hs⟩,hk⟩
   ·have k6:f 6= .ptr (st.store.length+2) 0:=by simp[hk]
    have k10:f 10= .ptr (st.store.length+3) 0:=by simp[hk]
    clear hk hV hF hS h1 h2
    simp[-List.getD_eq_getElem?_getD, -getElem?_pos,k6,k10,hs,set2,np,np0,Ty.v,Ty.cs,Ty.z,funCs,plCs]
    repeat' (first|refine a_0 ?_ ?_|refine Out.branch ?_ ?_|refine Ret.branch ?_ ?_)<;>(intro hb;(try(simp only[NB]at hb));simp[-List.getD_eq_getElem?_getD, -getElem?_pos,k6,k10,hs,set2,np,np0,Ty.v,Ty.cs,Ty.z,funCs,plCs,hb])
    all_goals try refine Out.one ?_
    all_goals try refine Ret.one ?_
    all_goals try(simp[-List.getD_eq_getElem?_getD,k6,k10,hs,set2,np,np0,Ty.v,Ty.cs,Ty.z,funCs,plCs, *];done)
    all_goals try simp[-List.getD_eq_getElem?_getD,k6,k10,hs,set2,np,np0,Ty.v,Ty.cs,Ty.z,funCs,plCs]
    all_goals try(intros;omega)
   ·have k6:f 6= .ptr (st.store.length+2) 0:=by simp[hk]
    clear hk hV hF hS h1 h2
    simp[-List.getD_eq_getElem?_getD, -getElem?_pos,k6,h7,hs,np,np0,Ty.v,Ty.cs,Ty.z,funCs,plCs]
    repeat' (first|refine a_0 ?_ ?_|refine Out.branch ?_ ?_|refine Ret.branch ?_ ?_)<;>(intro hb;(try(simp only[NB]at hb));simp[-List.getD_eq_getElem?_getD, -getElem?_pos,k6,h7,hs,np,np0,Ty.v,Ty.cs,Ty.z,funCs,plCs,hb])
    all_goals try refine Out.one ?_
    all_goals try refine Ret.one ?_
    all_goals try(simp[-List.getD_eq_getElem?_getD,k6,h7,hs,np,np0,Ty.v,Ty.cs,Ty.z,funCs,plCs, *];done)
    all_goals try simp[-List.getD_eq_getElem?_getD,k6,h7,hs,np,np0,Ty.v,Ty.cs,Ty.z,funCs,plCs]
    all_goals try(intros;omega)
theorem aI_6(p:Prog)(r:Nat)(x:Fun)(g1 g2 g3:Bool)(m1 m2 m3:Option Bool)(hx:x.size≤1048576)(st:St)(hT:Tbl p r st):(run tb).call 18 [.ptr r 0, .agg [.int .i64 x.at_, .str x.name, .list g1 m1 (x.params.map Var.v), .list g2 m2 (x.locals.map Var.v), .str x.result, .list g3 m3 (x.blocks.map Block.v)]] st=some (.bool (knownF p x),st):=by
 obtain⟨b,nl,hV⟩:=aM_0 x false false false none none none hx (newBox (roSt st) (funCs x))
 have hvl:x.vars.length≤1048576:=by
  rw[n_8]at hx
  have l1:=b_8 x.params
  have l2:=b_8 x.locals
  unfold Fun.vars
  rw[List.length_append];omega
 generalize hS:knownF p x=T
 unfold funCs at hV
 rw[run18 (by simp)]
 simp[-List.getD_eq_getElem?_getD, -getElem?_pos,hV]
 refine a_9 (a_8 e18_8 w18_8 x.vars.length (I:=fun i f st'=>st'=newBox (roSt st) (funCs x)∧f 6= .int .i64 (i:Nat)∧T=(x.vars.drop i).all fun v=>known p v.type) (Q:=fun e f st'=>st'=newBox (roSt st) (funCs x)∧(e= .exit 0∧T=true∨e= .ret∧f 4= .bool false∧T=false)) ?_ ?_ ?_) ?_
 ·exact⟨rfl,by simp,by rw[←hS];rfl⟩
 ·rintro i f st' hi hk ⟨rfl,h6,hs⟩
  have hz:=getE hi
  have ha:=add1 (i:=i) (by omega)
  have k0:f 0= .ptr r 0:=by simp[hk]
  have k5:f 5= .list b nl (x.vars.map Var.v):=by simp[hk]
  have hvm:=ag_8 hx (List.getElem_mem hi)
  clear hk hV hS
  rw[List.drop_eq_getElem_cons hi,List.all_cons]at hs
  generalize x.vars[i]=v at *
  rw[w_0]at hvm
  have hK:=tblKnown (hT.ro.box (funCs x)) v.type (by omega)
  generalize known p v.type=kn at *
  unfold funCs at hK
  cases kn with
  |true=>
   rw[Bool.true_and]at hs
   simp[-List.getD_eq_getElem?_getD, -getElem?_pos,h6,k0,k5,hi,hz,ha,hK,hs,funCs,Var.v]
   repeat' (first|refine a_0 ?_ ?_|refine Out.branch ?_ ?_|refine Ret.branch ?_ ?_)<;>(intro hb;(try(simp only[NB]at hb));simp[-List.getD_eq_getElem?_getD, -getElem?_pos,h6,k0,k5,hi,hz,ha,hK,hs,funCs,Var.v,hb])
   all_goals try refine Out.one ?_
   all_goals try refine Ret.one ?_
   all_goals try(simp[-List.getD_eq_getElem?_getD,h6,k0,k5,hi,hz,ha,hK,hs,funCs,Var.v, *];done)
   all_goals try simp[-List.getD_eq_getElem?_getD,h6,k0,k5,hi,hz,ha,hK,hs,funCs,Var.v]
   all_goals try(intros;omega)
  |false=>
   rw[Bool.false_and]at hs
   simp[-List.getD_eq_getElem?_getD, -getElem?_pos,h6,k0,k5,hi,hz,ha,hK,hs,funCs,Var.v]
   repeat' (first|refine a_0 ?_ ?_|refine Out.branch ?_ ?_|refine Ret.branch ?_ ?_)<;>(intro hb;(try(simp only[NB]at hb));simp[-List.getD_eq_getElem?_getD, -getElem?_pos,h6,k0,k5,hi,hz,ha,hK,hs,funCs,Var.v,hb])
   all_goals try refine Out.one ?_
   all_goals try refine Ret.one ?_
   all_goals try(simp[-List.getD_eq_getElem?_getD,h6,k0,k5,hi,hz,ha,hK,hs,funCs,Var.v, *];done)
   all_goals try simp[-List.getD_eq_getElem?_getD,h6,k0,k5,hi,hz,ha,hK,hs,funCs,Var.v]
   all_goals try(intros;omega)
 ·rintro f st' hk ⟨rfl,h6,hs⟩
  have k5:f 5= .list b nl (x.vars.map Var.v):=by simp[hk]
  clear hk hV hS
  rw[List.drop_length]at hs
  have hs0:T=true:=hs
  simp[-List.getD_eq_getElem?_getD, -getElem?_pos,h6,k5,hs0,funCs]
  repeat' (first|refine a_0 ?_ ?_|refine Out.branch ?_ ?_|refine Ret.branch ?_ ?_)<;>(intro hb;(try(simp only[NB]at hb));simp[-List.getD_eq_getElem?_getD, -getElem?_pos,h6,k5,hs0,funCs,hb])
  all_goals try refine Out.one ?_
  all_goals try refine Ret.one ?_
  all_goals try(simp[-List.getD_eq_getElem?_getD,h6,k5,hs0,funCs, *];done)
  all_goals try simp[-List.getD_eq_getElem?_getD,h6,k5,hs0,funCs]
  all_goals try(intros;omega)
 ·rintro e f st' ⟨⟨rfl,⟨rfl,hs⟩|⟨rfl,h4,hs⟩⟩,hk⟩
  ·clear hk hV hS
   simp[-List.getD_eq_getElem?_getD, -getElem?_pos,hs]
   repeat' (first|refine a_0 ?_ ?_|refine Out.branch ?_ ?_|refine Ret.branch ?_ ?_)<;>(intro hb;(try(simp only[NB]at hb));simp[-List.getD_eq_getElem?_getD, -getElem?_pos,hs,hb])
   all_goals try refine Out.one ?_
   all_goals try refine Ret.one ?_
   all_goals try(simp[-List.getD_eq_getElem?_getD,hs, *];done)
   all_goals try simp[-List.getD_eq_getElem?_getD,hs]
   all_goals try(intros;omega)
  ·clear hk hV hS
   simp[-List.getD_eq_getElem?_getD, -getElem?_pos,h4,hs]
   repeat' (first|refine a_0 ?_ ?_|refine Out.branch ?_ ?_|refine Ret.branch ?_ ?_)<;>(intro hb;(try(simp only[NB]at hb));simp[-List.getD_eq_getElem?_getD, -getElem?_pos,h4,hs,hb])
   all_goals try refine Out.one ?_
   all_goals try refine Ret.one ?_
   all_goals try(simp[-List.getD_eq_getElem?_getD,h4,hs, *];done)
   all_goals try simp[-List.getD_eq_getElem?_getD,h4,hs]
   all_goals try(intros;omega)
end Go.Proofs.YtbbeelalcamgjaaGreatDoor
namespace Go.Proofs.YtbbeelalcamgjaaGreatDoor
open Go.Abs
attribute [local simp] N_6 O_3 v_9 H_6 l_0 P_0 F_5 E_3 u_1 d_0 k_2 o_3 c_3 f_0 i_2 c_0 i_4 finish dropMarks resOf
 resList m_1 o_1 h_4 f_9 d_ c_1 n_2 h_5 c_ b_1 b_0 b_9 c_4 f_6 f_4 d_4
 d_2 g_2 o_8 P_4 C_4 m_4 F_1 f_5 P_8 s_un G_ t_7 d_3 d_7 v_5 t_0 i_5 B_9 w_3 O_8 F_6 C_8 P_ n_9
 c_9 c_2 m_3 x_3 e_3 j_4 o_0 p_ o_9 n_5 a_7 c_8 f_8 e_5 f_3 k_ j_ h_8 g_0
 w_ m_7 m_8 n_7 u_6 u_8 u_5 i_9 v_7 evArgs m_ h_3 o_2 f_2 o_ C_7 ofValue ofValues isConst D_5 E_5 H_ C_ G_9
 E_9 E_4 E_0 G_5 G_4 D_7 E_2 C_5 D_0 F_9 H_5 strBin bne E_6 D_4 C_6 convV evConv optArg a_5 argF D_1 v_4 s_3 r_0 n_3 B_7 v_1
 x_1 m_9 h_6 j_7 k_0 i_7 j_0 g_ F_3 u_0 i_6 k_1 okCells P_9 d_6 l_8 g_3 k_3 j_3 g_1 i_0
 j_2 m_2 s_1 u_9 o_5 w_9 s_9 n_ u_ v_6 h_0 j_8 e_7 e_2 j_9 splice putElem k_6 H_3 E_8 k_4 m_6
 g_7 v_2 e_6 bdV fill o_6 bsF setAll d_8 f_7 F_2 e_9 i_1 i_8 f_1 r_ w_2 q_1 s_5 F_8 t_2 u_3 p_4 j_1
 r_9 F_7 D_ w_4 e_1 c_7 r_1 v_ n_4 s_ h_7 G_6 u_7 n_1 D_2 t_4 q_2 D_9 k_8 w_7 c_6 o_4 j_5 G_1
 v_3 F_ B_6 E_1 f_ x_2 t_6 H_1 D_6 H_0 C_2 s_8 m_5 w_8 t_8 deep List.getD_cons_zero List.getD_cons_succ List.getElem?_cons_zero
 List.getElem?_cons_succ List.getElem?_nil s_0 s_2 E_ G_2 G_0 C_0 x_0 v_8 B_8 F_0 x_4 w_1 t_ w_5 t_1 u_4 n_6 n_0 C_9 F_4
 i_3 i_ s_7 t_9 e_8 e_4 D_3 G_3 G_8 C_3 ld26 sr26 al26 S_ S_0 R_8 bd26 ld35 sr35 al35 ae_3 ac_4 ad_9 ad_4 ae_0 ld38 sr38 al38 aa_1
 X_2 bd38 ld4 sr4 und4 ld24 ak_2 ia24 ib24 ln24 lo24 ap24 bs24 ld36 sr36 Q_2 ia36 ib36 ln36 lo36 sl36 ap36 bs36 ld3 sr3 und3 ld39 sr39 al39 aW_9 ln30 lo30 ap30 bs30 ld43 sr43 al43 bb_6 bc_0
 bb_7 bc_1 bd43 ld9 und9 ln9 ix9 o_7 A_3 B_5 p_0 p_7 ae_8 af_3 ae_7 aB_1 T_3 P_7 ai_9 K_6 U_ a_3 d_5 p_5 b_3
 z_1 q_5 l_7 c_5 g_9 ga0 ga1 ga2 ga3 gs1 gs2 gs3 ba_9 q5_46 l5_46 q5_68 l5_68 p5_36 as_ S_9 S_2 as_2 kdOp kdOf isPure readsOf protS D_Rg S5 L5_1 L5_4 L5_7 L5_12
 L5_15 L5_19 L5_22 L5_25 L5_29 L5_31 L5_34 L5_39 L5_49 L5_52 L5_57 L5_60 L5_65 L5_70 L5_73 L5_77 L5_78 L5_80
set_option maxRecDepth 100000
set_option linter.unusedSimpArgs false
set_option linter.unusedVariables false
set_option maxHeartbeats 4000000
theorem pe39{c:Bool}:binV tb .eql 39 c .nilp .nilp=some (.bool true):=by rw[a_];kernel_rfl
theorem bm_2{c:Bool}{k:Nat}:binV tb .eql 39 c (.ptr k 0) .nilp=some (.bool false):=by rw[a_];kernel_rfl
theorem aZ_{x:Fun}(h:x.size+3≤1048576):(⟨none,[],none,[],none,[x]⟩:Prog).size≤1048576:=by
 rw[j_6]
 simp only[List.map_nil,List.map_cons,V.bulks]
 have:x.v.bulk=x.size:=rfl
 omega
theorem ab_7:∀(l:List Str) (i:Nat),V.bulks ((l.take i).map V.str)≤V.bulks (l.map V.str)
 |[],i=>by simp
 |x::l,0=>by simp[V.bulks]
 |x::l,i+1=>by
  have:=ab_7 l i
  simp only[List.take_succ_cons,List.map_cons,V.bulks];omega
theorem aK_2(nl:Option Bool)(l:List Str)(i:Nat)(h:i≤l.length):sliceList 1 false nl (l.map .str) none (some (.int .i64 (i:Int))) none=some (.list false nl ((l.take i).map .str)):=by
 have h1:sizeFits 1 (l.map V.str)=true:=by cases l<;>rfl
 have h2:bounds (l.map V.str).length (l.map V.str).length none (some (.int .i64 (i:Int)))=some (0,i):=by
  simp[bounds,bound,asIdx,h]
 unfold sliceList
 rw[if_pos h1,h2]
 simp[List.map_take]
theorem aC_8{p:Prog}{f:Fun}{q:Place}{i:Nat}(hi:i<q.steps.length)(h0:(frontD p f q i).2=0)(h1:(frontD p f q (i+1)).2=0):
  ((frontD p f q i).1.sh=true→(frontD p f q (i+1)).1.sh=true)∧((frontD p f q i).1.le=true→(frontD p f q (i+1)).1.le=true)∧((frontD p f q i).1.ho=true→(frontD p f q (i+1)).1.ho=true)∧
  (q.steps[i]≠starS→∃o,fieldD p (frontD p f q i).1.type q.steps[i]= .tup [.str (frontD p f q (i+1)).1.type, .int .i64 o, .bool true]):=by
 have e:=aF_6 hi h0
 generalize frontD p f q i=w at *
 generalize frontD p f q (i+1)=z at *
 generalize q.steps[i]=s at *
 subst e
 by_cases hs0:(stepD p w.1 s).2=0
 ·rw[if_pos hs0]at h1⊢
  simp only
  by_cases hs:s=starS
  ·have hd:stepD p w.1 s=if(elemW w.1.type).2=true then(⟨(elemW w.1.type).1,w.1.sh||kindOf w.1.type==4,w.1.le||kindOf w.1.type==5,w.1.ho⟩,0)else(Ty.z,6):=by unfold stepD;rw[if_pos hs]
   rw[hd]at hs0⊢
   by_cases he:(elemW w.1.type).2=true
   ·rw[if_pos he]
    simp only
    exact⟨fun h=>by simp[h],fun h=>by simp[h],fun h=>h,fun h=>absurd hs h⟩
   ·rw[if_neg he]at hs0;cases hs0
  ·cases hps:p.st w.1.type with
   |none=>
    have hd:stepD p w.1 s=(Ty.z,6):=by unfold stepD;rw[if_neg hs,hps]
    rw[hd]at hs0;cases hs0
   |some d=>
    rcases Z_7 hps s with⟨e1,e2⟩|⟨y,o,e1,e2⟩
    ·have hd:stepD p w.1 s=(Ty.z,5):=by unfold stepD;rw[if_neg hs,hps];simp only[e1]
     rw[hd]at hs0;cases hs0
    ·have hd:stepD p w.1 s=(⟨y.type,w.1.sh,w.1.le,w.1.ho||d.hook⟩,0):=by unfold stepD;rw[if_neg hs,hps];simp only[e1]
     rw[hd]
     simp only
     exact⟨fun h=>h,fun h=>h,fun h=>by simp[h],fun _=>⟨o,e2⟩⟩
 ·rw[if_neg hs0]at h1
  exact absurd h1 hs0
theorem aO_2(p:Prog)(x:Fun)(q:Place)(f1 f2 f3:Bool)(n1 n2 n3:Option Bool)(h:p.size≤1048576)(hw:p.wf)(hx3:x.size+3≤1048576)(hxw:x.wf)(hq:q.size≤1048576):∃st',(run tb).call 5 [.agg [.list f1 n1 (p.structs.map Struct.v), .list f2 n2 (p.enums.map Enum.v), .list f3 n3 (p.funcs.map Fun.v)], .agg [.int .i64 x.at_, .str x.name, .list false x.n1 (x.params.map Var.v), .list false x.n2 (x.locals.map Var.v), .str x.result, .list false x.n3 (x.blocks.map Block.v)], .agg [.str q.loc, .list false q.nl (q.steps.map .str)]] st0=some (.bool true,st'):=by
 have hh:Ret (fun v st'=>v= .bool true) ((run tb).call 5 [.agg [.list f1 n1 (p.structs.map Struct.v), .list f2 n2 (p.enums.map Enum.v), .list f3 n3 (p.funcs.map Fun.v)], .agg [.int .i64 x.at_, .str x.name, .list false x.n1 (x.params.map Var.v), .list false x.n2 (x.locals.map Var.v), .str x.result, .list false x.n3 (x.blocks.map Block.v)], .agg [.str q.loc, .list false q.nl (q.steps.map .str)]] st0):=by
  have hx:x.size≤1048576:=by omega
  obtain⟨s0,hs0⟩:∃s0,s0=newBox (newBox (newBox st0 [.list f1 n1 (p.structs.map Struct.v), .list f2 n2 (p.enums.map Enum.v), .list f3 n3 (p.funcs.map Fun.v)]) [.int .i64 x.at_, .str x.name, .list false x.n1 (x.params.map Var.v), .list false x.n2 (x.locals.map Var.v), .str x.result, .list false x.n3 (x.blocks.map Block.v)]) [.str q.loc, .list false q.nl (q.steps.map .str)]:=⟨_,rfl⟩
  have hx0:s0.store[0]? =some (.box [.list f1 n1 (p.structs.map Struct.v), .list f2 n2 (p.enums.map Enum.v), .list f3 n3 (p.funcs.map Fun.v)]):=by rw[hs0];rfl
  have hx1:s0.store[1]? =some (.box [.int .i64 x.at_, .str x.name, .list false x.n1 (x.params.map Var.v), .list false x.n2 (x.locals.map Var.v), .str x.result, .list false x.n3 (x.blocks.map Block.v)]):=by rw[hs0];rfl
  have hx2:s0.store[2]? =some (.box [.str q.loc, .list false q.nl (q.steps.map .str)]):=by rw[hs0];rfl
  have b0:s0.base=0:=by rw[hs0];rfl
  have p0:s0.prot=[]:=by rw[hs0];rfl
  have hal:=aU_0 s0
  have hl0:st0.store.length=0:=rfl
  obtain⟨gb,hgr⟩:=ak_5 p f1 f2 f3 n1 n2 n3 h hw s0
  obtain⟨gb2,hgr2⟩:=ak_5 ⟨none,[],none,[],none,[x]⟩ true true true (some true) (some true) (some false) (aZ_ hx3) (by intro f hf;rw[List.mem_singleton.1 hf];exact hxw) s0
  simp only[List.map_nil,List.map_cons,Fun.v]at hgr2
  obtain⟨nv,s2,hnew,hG,hN⟩:=bf_4 p f1 f2 f3 n1 n2 n3 h s0 b0 p0
  have hy0:=hG.at_ hx0
  have hy1:=hG.at_ hx1
  have hy2:=hG.at_ hx2
  rw[run5 (by simp)]
  cases gb with
  |true=>
   simp[-List.getD_eq_getElem?_getD, -getElem?_pos,hs0.symm,hl0,hal,hx0,hgr]
   exact Ret.one rfl
  |false=>
   cases gb2 with
   |true=>
    simp[-List.getD_eq_getElem?_getD, -getElem?_pos,hs0.symm,hl0,hal,hx0,hx1,hgr,hgr2]
    exact Ret.one rfl
   |false=>
    by_cases h100:(100:Int)<(q.steps.length:Nat)
    ·simp[-List.getD_eq_getElem?_getD, -getElem?_pos,hs0.symm,hl0,hal,hx0,hx1,hx2,hgr,hgr2,h100]
     exact Ret.one rfl
    ·rcases hN with⟨hd,hf,r,m,D,Dc0,rfl,hT0⟩|⟨hd,w,rfl,hw⟩
     ·have hT:=Tbl.of hf hT0
      have b2:=hT0.ms.base
      have p2:=hT0.ms.prot
      have hpn:=o_7 p2
      have hl3:3≤s2.store.length:=by
       have:=hG.len
       rw[hs0]at this
       exact this
      have hK:=aI_6 p r x false false false x.n1 x.n2 x.n3 hx s2 hT
      cases hkn:knownF p x with
      |false=>
       rw[hkn]at hK
       simp[-List.getD_eq_getElem?_getD, -getElem?_pos,hs0.symm,hl0,hal,hx0,hx1,hx2,hgr,hgr2,h100,hnew,hy0,hy1,hy2,bm_2,b2,p2,hpn,hK]
       exact Ret.one rfl
      |true=>
       rw[hkn]at hK
       have hP:=ad_7 p r x q false false false x.n1 x.n2 x.n3 false q.nl hx hq s2 hT (PB.nil p2)
       have w0:∀L,(s2.store ++L)[0]? =some (.box [.list f1 n1 (p.structs.map Struct.v), .list f2 n2 (p.enums.map Enum.v), .list f3 n3 (p.funcs.map Fun.v)]):=fun L=>a_2 hy0
       have w1:∀L,(s2.store ++L)[1]? =some (.box [.int .i64 x.at_, .str x.name, .list false x.n1 (x.params.map Var.v), .list false x.n2 (x.locals.map Var.v), .str x.result, .list false x.n3 (x.blocks.map Block.v)]):=fun L=>a_2 hy1
       have w2:∀L,(s2.store ++L)[2]? =some (.box [.str q.loc, .list false q.nl (q.steps.map .str)]):=fun L=>a_2 hy2
       have set1:∀a b c,setO (newBox (newBox s2 a) b) (s2.store.length+1) (.box c)=newBox (newBox s2 a) c:=by
        intro a b c
        simp only[setO,newBox,List.append_assoc,List.cons_append,List.nil_append,gs1]
       simp only[Ty.v]at hP
       simp[-List.getD_eq_getElem?_getD, -getElem?_pos,hs0.symm,hl0,hal,hx0,hx1,hx2,hgr,hgr2,h100,hnew,hy0,hy1,hy2,bm_2,b2,p2,hpn,hK,hP,w0,w1,w2,set1]
       generalize hCode:(placeD p x q).2=code
       refine Ret.loop (a_8 e5_36 w5_36 (q.steps.length+1) (I:=fun i f st'=>∃w:Ty,Grows s2 st'∧st'.store[s2.store.length+1]? =some (.box w.cs)∧f 12= .int .i64 (i:Nat)∧(i=0∧w=Ty.z∨∃j,i=j+1∧(frontD p x q j).2=0∧w=(frontD p x q j).1)) (Q:=fun e f st'=>(e= .exit 0∧code=0∨e= .ret∧f 6= .bool true)) ?_ ?_ ?_) ?_
       ·refine⟨Ty.z,g_5 (g_5 (Grows.refl s2) _) _,?_,by simp, .inl ⟨rfl,rfl⟩⟩
        simp[newBox,Ty.cs,Ty.z]
       ·rintro i f st' hi hk ⟨w,hG1,hwS,h12,hc3⟩
        have hil:i≤q.steps.length:=by omega
        have ha:=add1 (i:=i) (by have:=x_ q.steps;have h9:=hq;rw[q_]at h9;omega)
        have k4:f 4= .ptr 1 0:=by simp[hk]
        have k5:f 5= .ptr 2 0:=by simp[hk]
        have k7:f 7= .ptr r 0:=by simp[hk]
        have k10:f 10= .int .i64 code:=by simp[hk,hCode]
        have k11:f 11= .ptr (s2.store.length+1) 0:=by simp[hk]
        clear hk
        have hz1:=hG1.at_ hy1
        have hz2:=hG1.at_ hy2
        have u1:∀M,(st'.store ++M)[1]? =some (.box [.int .i64 x.at_, .str x.name, .list false x.n1 (x.params.map Var.v), .list false x.n2 (x.locals.map Var.v), .str x.result, .list false x.n3 (x.blocks.map Block.v)]):=fun M=>a_2 hz1
        have u2:∀M,(st'.store ++M)[2]? =some (.box [.str q.loc, .list false q.nl (q.steps.map .str)]):=fun M=>a_2 hz2
        have hwl:=U_7 hwS
        have uw:∀M,(st'.store ++M)[s2.store.length+1]? =some (.box w.cs):=fun M=>a_2 hwS
        have c2:st'.base=0:=hG1.base.trans b2
        have d2:st'.prot=[]:=hG1.prot.trans p2
        have hpn1:=o_7 d2
        have hT1:=hT.grow hG1
        have hsl:=aK_2 q.nl q.steps i hil
        have hqs:(⟨q.loc,q.nl,q.steps.take i⟩:Place).size≤1048576:=by
         rw[q_]at hq⊢
         have hb:=ab_7 q.steps i
         simp only
         omega
        have hPl:=fun cs=>ad_7 p r x ⟨q.loc,q.nl,q.steps.take i⟩ false false false x.n1 x.n2 x.n3 false q.nl hx hqs (newBox st' cs) (hT1.box cs) (PB.nil d2)
        have e1:placeD p x ⟨q.loc,q.nl,q.steps.take i⟩=frontD p x q i:=ay_0 _ _ _ _ rfl rfl
        rw[e1]at hPl
        simp only[Ty.v,List.map_take]at hPl hsl
        have hbad:=aL_9 (p:=p) (f:=x) (q:=q) (i:=i)
        rw[hCode]at hbad
        have hlen:(frontD p x q i).1.type.length≤1048576:=aE_1 h hx _
        have hkz:(frontD p x q i).2=0→known p (frontD p x q i).1.type=true:=fun e=>as_4 hf hkn e
        have hK1:=fun cs=>tblKnown (hT1.box cs) (frontD p x q i).1.type (by omega)
        have hGf:∀cs o,Grows s2 (setO (newBox st' cs) (s2.store.length+1) o):=fun cs o=>(g_5 hG1 cs).set (Nat.le_add_right _ _) o
        have hwf:∀cs o,(setO (newBox st' cs) (s2.store.length+1) o).store[s2.store.length+1]? =some o:=fun cs o=>List.getElem?_set_self (by simp[newBox];omega)
        by_cases hb0:(frontD p x q i).2=0
        ·have hkn1:=hkz hb0
         rw[hkn1]at hK1
         have hsw:∀(M:List O) o,(st'.store.set (s2.store.length+1) o ++M)[s2.store.length+1]? =some o:=fun M o=>a_2 (List.getElem?_set_self hwl)
         rcases hc3 with⟨e0,rfl⟩|⟨j,e0,e2,rfl⟩
         ·have hni:¬(0<i):=by omega
          generalize hfr:frontD p x q i=fr at *
          obtain⟨⟨ty,sh,le,ho⟩,c⟩:=fr
          simp only[Ty.cs]at *
          subst hb0
          simp[-List.getD_eq_getElem?_getD, -getElem?_pos,h12,k4,k5,k7,k10,k11,ha,hi,hil,hz1,hz2,u1,u2,uw,hwS,hwl,c2,d2,hpn1,hsl,hPl,hK1,hni,Ty.z,Nat.testBit,hfr,hsw,hGf]
          repeat' (first|refine a_0 ?_ ?_|refine Out.branch ?_ ?_|refine Ret.branch ?_ ?_)<;>(intro hb;(try(simp only[NB]at hb));simp[-List.getD_eq_getElem?_getD, -getElem?_pos,h12,k4,k5,k7,k10,k11,ha,hi,hil,hz1,hz2,u1,u2,uw,hwS,hwl,c2,d2,hpn1,hsl,hPl,hK1,hni,Ty.z,Nat.testBit,hfr,hsw,hGf,hb])
          all_goals try refine Out.one ?_
          all_goals try refine Ret.one ?_
          all_goals try(simp[-List.getD_eq_getElem?_getD,h12,k4,k5,k7,k10,k11,ha,hi,hil,hz1,hz2,u1,u2,uw,hwS,hwl,c2,d2,hpn1,hsl,hPl,hK1,hni,Ty.z,Nat.testBit,hfr,hsw,hGf, *];done)
          all_goals try simp[-List.getD_eq_getElem?_getD,h12,k4,k5,k7,k10,k11,ha,hi,hil,hz1,hz2,u1,u2,uw,hwS,hwl,c2,d2,hpn1,hsl,hPl,hK1,hni,Ty.z,Nat.testBit,hfr,hsw,hGf]
          all_goals try(intros;omega)
         ·have hjl:j<q.steps.length:=by omega
          have hpi:0<i:=by omega
          have hzj:=getE hjl
          have hsub:intBin .sub .i64 (i:Nat) 1=some (.int .i64 (j:Nat)):=by
           have hqz:=hq
           rw[q_]at hqz
           have:=x_ q.steps
           have h9:=aY_3 (x:=(i:Nat)) (y:=1) (by omega) (by omega)
           rw[h9];congr 2;omega
          have hfs:=aC_8 (p:=p) (f:=x) (q:=q) hjl e2 (by rw[←e0];exact hb0)
          rw[←e0]at hfs
          have hFd:=fun cs=>tblField (hT1.box cs) ((PB.nil d2).box cs) (frontD p x q j).1.type q.steps[j]
          generalize hfr:frontD p x q i=fr at *
          generalize frontD p x q j=gr at *
          generalize q.steps[j]=sj at *
          obtain⟨⟨ty,sh,le,ho⟩,c⟩:=fr
          obtain⟨⟨ty0,sh0,le0,ho0⟩,c0⟩:=gr
          simp only[Ty.cs]at *
          subst hb0
          obtain⟨m1,m2,m3,m4⟩:=hfs
          by_cases hsj:sj=starS
          ·subst hsj
           clear m4
           simp[-List.getD_eq_getElem?_getD, -getElem?_pos,h12,k4,k5,k7,k10,k11,ha,hi,hil,hz1,hz2,u1,u2,uw,hwS,hwl,c2,d2,hpn1,hsl,hPl,hK1,hpi,hzj,hjl,hsub,starS,Nat.testBit,hfr,hsw,hGf]
           repeat' (first|refine a_0 ?_ ?_|refine Out.branch ?_ ?_|refine Ret.branch ?_ ?_)<;>(intro hb;(try(simp only[NB]at hb));simp[-List.getD_eq_getElem?_getD, -getElem?_pos,h12,k4,k5,k7,k10,k11,ha,hi,hil,hz1,hz2,u1,u2,uw,hwS,hwl,c2,d2,hpn1,hsl,hPl,hK1,hpi,hzj,hjl,hsub,starS,Nat.testBit,hfr,hsw,hGf,hb])
           all_goals try refine Out.one ?_
           all_goals try refine Ret.one ?_
           all_goals try(simp[-List.getD_eq_getElem?_getD,h12,k4,k5,k7,k10,k11,ha,hi,hil,hz1,hz2,u1,u2,uw,hwS,hwl,c2,d2,hpn1,hsl,hPl,hK1,hpi,hzj,hjl,hsub,starS,Nat.testBit,hfr,hsw,hGf, *];done)
           all_goals try simp[-List.getD_eq_getElem?_getD,h12,k4,k5,k7,k10,k11,ha,hi,hil,hz1,hz2,u1,u2,uw,hwS,hwl,c2,d2,hpn1,hsl,hPl,hK1,hpi,hzj,hjl,hsub,starS,Nat.testBit,hfr,hsw,hGf]
           all_goals try(intros;omega)
           all_goals simp_all
          ·obtain⟨o,m5⟩:=m4 hsj
           rw[m5]at hFd
           have hsj':(sj==[42])=false:=by simpa[starS]using hsj
           clear m4 m5
           simp[-List.getD_eq_getElem?_getD, -getElem?_pos,h12,k4,k5,k7,k10,k11,ha,hi,hil,hz1,hz2,u1,u2,uw,hwS,hwl,c2,d2,hpn1,hsl,hPl,hK1,hpi,hzj,hjl,hsub,hsj',hFd,Nat.testBit,hfr,hsw,hGf]
           repeat' (first|refine a_0 ?_ ?_|refine Out.branch ?_ ?_|refine Ret.branch ?_ ?_)<;>(intro hb;(try(simp only[NB]at hb));simp[-List.getD_eq_getElem?_getD, -getElem?_pos,h12,k4,k5,k7,k10,k11,ha,hi,hil,hz1,hz2,u1,u2,uw,hwS,hwl,c2,d2,hpn1,hsl,hPl,hK1,hpi,hzj,hjl,hsub,hsj',hFd,Nat.testBit,hfr,hsw,hGf,hb])
           all_goals try refine Out.one ?_
           all_goals try refine Ret.one ?_
           all_goals try(simp[-List.getD_eq_getElem?_getD,h12,k4,k5,k7,k10,k11,ha,hi,hil,hz1,hz2,u1,u2,uw,hwS,hwl,c2,d2,hpn1,hsl,hPl,hK1,hpi,hzj,hjl,hsub,hsj',hFd,Nat.testBit,hfr,hsw,hGf, *];done)
           all_goals try simp[-List.getD_eq_getElem?_getD,h12,k4,k5,k7,k10,k11,ha,hi,hil,hz1,hz2,u1,u2,uw,hwS,hwl,c2,d2,hpn1,hsl,hPl,hK1,hpi,hzj,hjl,hsub,hsj',hFd,Nat.testBit,hfr,hsw,hGf]
           all_goals try(intros;omega)
           all_goals simp_all
        ·have hcode:=hbad hb0
         have hb0':((frontD p x q i).2==0)=false:=by simpa using hb0
         generalize frontD p x q i=fr at *
         obtain⟨⟨ty,sh,le,ho⟩,c⟩:=fr
         simp only at *
         simp[-List.getD_eq_getElem?_getD, -getElem?_pos,h12,k4,k5,k7,k10,k11,ha,hi,hil,hz1,hz2,u1,u2,uw,hwS,hwl,c2,d2,hpn1,hsl,hPl,hb0,hb0',hcode,Nat.testBit]
         repeat' (first|refine a_0 ?_ ?_|refine Out.branch ?_ ?_|refine Ret.branch ?_ ?_)<;>(intro hb;(try(simp only[NB]at hb));simp[-List.getD_eq_getElem?_getD, -getElem?_pos,h12,k4,k5,k7,k10,k11,ha,hi,hil,hz1,hz2,u1,u2,uw,hwS,hwl,c2,d2,hpn1,hsl,hPl,hb0,hb0',hcode,Nat.testBit,hb])
         all_goals try refine Out.one ?_
         all_goals try refine Ret.one ?_
         all_goals try(simp[-List.getD_eq_getElem?_getD,h12,k4,k5,k7,k10,k11,ha,hi,hil,hz1,hz2,u1,u2,uw,hwS,hwl,c2,d2,hpn1,hsl,hPl,hb0,hb0',hcode,Nat.testBit, *];done)
         all_goals try simp[-List.getD_eq_getElem?_getD,h12,k4,k5,k7,k10,k11,ha,hi,hil,hz1,hz2,u1,u2,uw,hwS,hwl,c2,d2,hpn1,hsl,hPl,hb0,hb0',hcode,Nat.testBit]
         all_goals try(intros;omega)
       ·rintro f st' hk ⟨w,hG1,hwS,h12,hc3⟩
        have k5:f 5= .ptr 2 0:=by simp[hk]
        clear hk
        have hz2:=hG1.at_ hy2
        have h0:code=0:=by
         rcases hc3 with⟨e, -⟩|⟨j,e,e2, -⟩
         ·omega
         ·have:j=q.steps.length:=by omega
          rw[this,aL_5,hCode]at e2
          exact e2
        have hle:¬((q.steps.length:Int)+1≤(q.steps.length:Int)):=by omega
        simp[-List.getD_eq_getElem?_getD, -getElem?_pos,h12,k5,hz2,h0,hle]
        repeat' (first|refine a_0 ?_ ?_|refine Out.branch ?_ ?_|refine Ret.branch ?_ ?_)<;>(intro hb;(try(simp only[NB]at hb));simp[-List.getD_eq_getElem?_getD, -getElem?_pos,h12,k5,hz2,h0,hle,hb])
        all_goals try refine Out.one ?_
        all_goals try refine Ret.one ?_
        all_goals try(simp[-List.getD_eq_getElem?_getD,h12,k5,hz2,h0,hle, *];done)
        all_goals try simp[-List.getD_eq_getElem?_getD,h12,k5,hz2,h0,hle]
        all_goals try(intros;omega)
       ·rintro e f st' ⟨⟨rfl,h0⟩|⟨rfl,h6⟩,hk⟩
        ·have k10:f 10= .int .i64 code:=by simp[hk,hCode]
         clear hk
         simp[-List.getD_eq_getElem?_getD, -getElem?_pos,k10,h0]
         exact Ret.one rfl
        ·clear hk
         simp[-List.getD_eq_getElem?_getD, -getElem?_pos,h6]
         exact Ret.one rfl
     ·simp[-List.getD_eq_getElem?_getD, -getElem?_pos,hs0.symm,hl0,hal,hx0,hx1,hx2,hgr,hgr2,h100,hnew,hy0,pe39]
      exact Ret.one rfl
 obtain⟨v,st',e,rfl⟩:=hh
 exact⟨st',e⟩
end Go.Proofs.YtbbeelalcamgjaaGreatDoor
