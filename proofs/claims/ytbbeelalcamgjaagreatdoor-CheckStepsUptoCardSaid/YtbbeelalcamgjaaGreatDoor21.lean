/- A shared part of the proofs of the Check statements: a verified evaluator, the code in parts, the functions walked. -/
import Derived.Test.YtbbeelalcamgjaaGreatDoorRows
import Derived.Lay
import Derived.MakeChecks
import Derived.Test.YtbbeelalcamgjaaGreatDoor20
set_option linter.unusedVariables false
set_option linter.unusedSimpArgs false
set_option linter.unnecessarySimpa false
set_option linter.all false
namespace Go.Proofs.YtbbeelalcamgjaaGreatDoor
open Go.Abs
attribute [local simp] N_6 O_3 v_9 H_6 l_0 P_0 F_5 E_3 u_1 d_0 k_2 o_3 c_3 f_0 i_2 c_0 i_4 finish dropMarks resOf
 resList m_1 o_1 h_4 f_9 d_ c_1 n_2 h_5 c_ b_1 b_0 b_9 c_4 f_6 f_4 d_4
 d_2 g_2 o_8 P_4 C_4 m_4 F_1 f_5 P_8 s_un G_ t_7 d_3 d_7 v_5 t_0 i_5 B_9 w_3 O_8 F_6 C_8 P_ n_9
 c_9 c_2 m_3 x_3 e_3 j_4 o_0 p_ o_9 n_5 a_7 c_8 f_8 e_5 f_3 k_ j_ h_8 g_0
 w_ m_7 m_8 n_7 u_6 u_8 u_5 i_9 v_7 evArgs m_ h_3 o_2 f_2 o_ C_7 ofValue ofValues isConst D_5 E_5 H_ C_ G_9
 E_9 E_4 E_0 G_5 G_4 D_7 E_2 C_5 D_0 F_9 H_5 strBin bne E_6 D_4 C_6 convV evConv optArg a_5 argF D_1 v_4 s_3 r_0 n_3 B_7 v_1
 x_1 m_9 h_6 j_7 k_0 i_7 j_0 g_ F_3 u_0 i_6 k_1 okCells P_9 d_6 l_8 g_3 k_3 j_3 g_1 i_0
 j_2 m_2 s_1 u_9 o_5 w_9 s_9 n_ u_ v_6 h_0 j_8 e_7 e_2 j_9 splice putElem k_6 H_3 E_8 k_4 m_6
 g_7 v_2 e_6 bdV fill o_6 bsF setAll d_8 f_7 F_2 e_9 i_1 i_8 f_1 r_ w_2 q_1 s_5 F_8 t_2 u_3 p_4 j_1
 r_9 F_7 D_ w_4 e_1 c_7 r_1 v_ n_4 s_ h_7 G_6 u_7 n_1 D_2 t_4 q_2 D_9 k_8 w_7 c_6 o_4 j_5 G_1
 v_3 F_ B_6 E_1 f_ x_2 t_6 H_1 D_6 H_0 C_2 s_8 m_5 w_8 t_8 deep List.getD_cons_zero List.getD_cons_succ List.getElem?_cons_zero
 List.getElem?_cons_succ List.getElem?_nil s_0 s_2 E_ G_2 G_0 C_0 x_0 v_8 B_8 F_0 x_4 w_1 t_ w_5 t_1 u_4 n_6 n_0 C_9 F_4
 i_3 i_ s_7 t_9 e_8 e_4 D_3 G_3 G_8 C_3 ld22 ar_0 ia22 ib22 ln22 lo22 ap22 bs22 ld3 sr3 und3 ld78 sr78 al78 Y_3 Z_5 W_1 V_5 X_7 bd78 ld23
 au_ ia23 ib23 ln23 lo23 ap23 bs23 ld80 sr80 al80 al_6 ap_ ak_8 ld24 ak_2 ia24 ib24 ln24 lo24 ap24 bs24 ld35 sr35 al35 ae_3 ac_4 ad_9 ad_4 ae_0 ld33 sr33 as_6 ia33 ib33 ln33 lo33
 ap33 bs33 ld63 sr63 al63 ar_7 am_9 al_5 ld61 sr61 aI_8 ia61 ib61 ln61 lo61 ap61 bs61 ld70 sr70 al70 aC_ az_2 aC_1 aA_6 az_ aB_5 ld57 sr57 av_2 ia57 ib57 ln57 lo57 ap57 bs57 ld38
 sr38 al38 aa_1 X_2 bd38 p60_8 p63_8 p65_8 p67_8 p123_8 p126_8 D_Rg S60 L60_1 L60_3 L60_6 L60_10 L60_18 L60_19 L60_20 L60_22 S63 L63_1 L63_3 L63_6 L63_10 L63_18 L63_19 L63_20 L63_22 S65 L65_1
 L65_3 L65_6 L65_10 L65_18 L65_19 L65_20 L65_22 S67 L67_1 L67_3 L67_6 L67_10 L67_18 L67_19 L67_20 L67_22 S123 L123_1 L123_3 L123_6 L123_10 L123_18 L123_19 L123_20 L123_22 S126 L126_1 L126_3 L126_6
 L126_10 L126_18 L126_19 L126_20 L126_22
set_option maxRecDepth 100000
set_option linter.unusedSimpArgs false
set_option linter.unusedVariables false
set_option maxHeartbeats 4000000
def mixed{α:Type}(g:α→V)(t:α→α)(xs:List α)(k:Nat):List V:=(xs.take k).map (fun x=>g (t x)) ++(xs.drop k).map g
theorem I_0{α:Type}(g:α→V)(t:α→α)(xs:List α)(k:Nat)(h:k<xs.length):(mixed g t xs k)[k]? =some (g xs[k]):=by
 unfold mixed
 rw[List.getElem?_append_right (by simp;omega)]
 have:k-((xs.take k).map fun x=>g (t x)).length=0:=by simp;omega
 rw[this,List.getElem?_map,List.getElem?_drop]
 simp[h]
theorem l_4{α:Type}(g:α→V)(t:α→α)(xs:List α)(k:Nat)(h:k≤xs.length):(mixed g t xs k).length=xs.length:=by
 simp[mixed];omega
theorem H_9{α:Type}(g:α→V)(t:α→α)(xs:List α)(k:Nat)(h:k<xs.length):(mixed g t xs k).set k (g (t xs[k]))=mixed g t xs (k+1):=by
 unfold mixed
 rw[List.set_append_right _ _ (by simp;omega)]
 have:k-((xs.take k).map fun x=>g (t x)).length=0:=by simp;omega
 rw[this,List.drop_eq_getElem_cons h,List.map_cons,List.set_cons_zero,List.take_succ_eq_append_getElem h,List.map_append]
 simp
theorem V_{α:Type}(fl:Bool)(nl:Option Bool)(xs:List α)(g:α→V)(t:α→α)(fv:V)(hv:∀st,Go.Abs.freeze st none 40 fv=some fv)(hvb:below 0 40 fv=true)(hp:∀x∈xs,∀st,evInvoke tb (run tb) fv [g x] st=some (g (t x),st))(hc:∀x,(g x).cells.length=5∧(g x).cells.all V.oneCell=true)(hd:∀x,V.agg (List.take 5 (g x).cells)=g x)(hpe:∀x y,putElem (g x) (splice (g x).cells 0 (g y).cells)=g y)(hz:∀(st:St) x,Go.Abs.freeze st (some 0) 39 (g (t x))=some (g (t x)))(hbl:∀x,below 0 39 (g x)=true)(hl:xs.length * 56<2^40)(st:St):
  (run tb).call 60 [.list fl nl (xs.map g),fv] st=some (.list xs.isEmpty none ((xs.map t).map g),st):=by
 have hba:xs.all (below 0 39∘g)=true:=by simp[hbl]
 by_cases hn:xs=[]
 ·subst hn
  rw[run60 (by simp)]
  simp[-List.getD_eq_getElem?_getD, -getElem?_pos,hv,hvb,ah_4]
  refine a_9 (a_8 e60_8 w60_8 0 (I:=fun i f st'=>st'=emptySt∧f 11= .int .i64 0∧f 10= .int .i64 0) (Q:=fun e f st'=>st'=emptySt∧e= .exit 0∧f 10= .int .i64 0) ?_ ?_ ?_) ?_
  ·simp
  ·intro i f st' hi;omega
  ·rintro f st' hk ⟨rfl,h1,h2⟩
   simp[-List.getD_eq_getElem?_getD, -getElem?_pos,h1,h2]
   refine Out.one ?_
   simp[*]
  ·rintro e f st' ⟨⟨rfl,rfl,h2⟩,hk⟩
   have h5:f 5= .list true none []:=by simp[hk]
   simp[-List.getD_eq_getElem?_getD, -getElem?_pos,h5]
 ·have hcl:∀(nl:Option Bool) (st:St),(run tb).call 119 [.list false nl (xs.map g)] st=some (.slice st.store.length 5 0 xs.length,addO st (.vec false (xs.map g))):=by
   intro nl st
   cases xs with
   |nil=>exact absurd rfl hn
   |cons x0 xs0=>simpa using ab_ nl (g x0) (xs0.map g) (by simp[hc]) (by simpa using hl) st
  have h0:xs.isEmpty=false:=by simpa using hn
  rw[h0]
  rw[run60 (by simp)]
  simp[-List.getD_eq_getElem?_getD, -getElem?_pos,hv,hvb,hcl,hba]
  refine a_9 (a_8 e60_8 w60_8 xs.length (I:=fun i f st'=>st'=addO emptySt (.vec false (mixed g t xs i))∧f 11= .int .i64 (i:Nat)) (Q:=fun e f st'=>st'=addO emptySt (.vec false (mixed g t xs xs.length))∧e= .exit 0) ?_ ?_ ?_) ?_
  ·simp[mixed]
  ·rintro i f st' hi hk ⟨rfl,h1⟩
   have h5:f 5= .slice 0 5 0 xs.length:=by simp[hk]
   have h10:f 10= .int .i64 xs.length:=by simp[hk]
   have hf:f 1=fv:=by simp[hk]
   clear hk
   have hx:=I_0 g t xs i hi
   have hs:=H_9 g t xs i hi
   have hm:=l_4 g t xs i (by omega)
   have ha:intBin .add .i64 (i:Nat) 1=some (.int .i64 ((i:Int)+1)):=L_5 (by omega) (by omega)
   have hpx:=hp xs[i] (List.getElem_mem hi)
   generalize hy:xs[i]=y at *
   simp[-List.getD_eq_getElem?_getD, -getElem?_pos,h1,h5,h10,hf,hx,ha,hpx,hd y,(hc y).1,(hc (t y)).1,(hc (t y)).2,hi]
   refine Out.one (Or.inl ⟨rfl,?_,by simp⟩)
   have hq:=hpe y (t y)
   simp[(hc (t y)).1,(hc y).1]at hq
   rw[hq,hs];rfl
  ·rintro f st' hk ⟨rfl,h1⟩
   have h10:f 10= .int .i64 xs.length:=by simp[hk]
   clear hk
   simp[-List.getD_eq_getElem?_getD, -getElem?_pos,h1,h10]
   refine Out.one ?_
   simp[*]
  ·rintro e f st' ⟨⟨rfl,rfl⟩,hk⟩
   have h5:f 5= .slice 0 5 0 xs.length:=by simp[hk]
   clear hk
   have hm:=l_4 g t xs xs.length (Nat.le_refl _)
   have hM:mixed g t xs xs.length=xs.map (g∘t):=by simp[mixed]
   have hr:=J_5 (s:=5) (r:=0) (acc:=false) (st:=addO emptySt (.vec false (mixed g t xs xs.length))) (st0:=st) (g:=id) rfl (by
    rw[hM]
    intro v hv
    obtain⟨x, -,rfl⟩:=List.mem_map.1 hv
    exact hz _ x) (by
    rw[hM];simp[hbl])
   rw[hm,List.map_id,c_7]at hr
   rw[←List.map_map]at hM
   rw[hM]at hr⊢
   simp[-List.getD_eq_getElem?_getD, -getElem?_pos,h5]
   simpa using hr
theorem aj_3{α:Type}(fl:Bool)(nl:Option Bool)(xs:List α)(g:α→V)(t:α→α)(fv:V)(hv:∀st,Go.Abs.freeze st none 40 fv=some fv)(hvb:below 0 40 fv=true)(hp:∀x∈xs,∀st,evInvoke tb (run tb) fv [g x] st=some (g (t x),st))(hc:∀x,(g x).cells.length=3∧(g x).cells.all V.oneCell=true)(hd:∀x,V.agg (List.take 3 (g x).cells)=g x)(hpe:∀x y,putElem (g x) (splice (g x).cells 0 (g y).cells)=g y)(hz:∀(st:St) x,Go.Abs.freeze st (some 0) 39 (g (t x))=some (g (t x)))(hbl:∀x,below 0 39 (g x)=true)(hl:xs.length * 48<2^40)(st:St):
  (run tb).call 63 [.list fl nl (xs.map g),fv] st=some (.list xs.isEmpty none ((xs.map t).map g),st):=by
 have hba:xs.all (below 0 39∘g)=true:=by simp[hbl]
 by_cases hn:xs=[]
 ·subst hn
  rw[run63 (by simp)]
  simp[-List.getD_eq_getElem?_getD, -getElem?_pos,hv,hvb,ay_]
  refine a_9 (a_8 e63_8 w63_8 0 (I:=fun i f st'=>st'=emptySt∧f 11= .int .i64 0∧f 10= .int .i64 0) (Q:=fun e f st'=>st'=emptySt∧e= .exit 0∧f 10= .int .i64 0) ?_ ?_ ?_) ?_
  ·simp
  ·intro i f st' hi;omega
  ·rintro f st' hk ⟨rfl,h1,h2⟩
   simp[-List.getD_eq_getElem?_getD, -getElem?_pos,h1,h2]
   refine Out.one ?_
   simp[*]
  ·rintro e f st' ⟨⟨rfl,rfl,h2⟩,hk⟩
   have h5:f 5= .list true none []:=by simp[hk]
   simp[-List.getD_eq_getElem?_getD, -getElem?_pos,h5]
 ·have hcl:∀(nl:Option Bool) (st:St),(run tb).call 120 [.list false nl (xs.map g)] st=some (.slice st.store.length 3 0 xs.length,addO st (.vec false (xs.map g))):=by
   intro nl st
   cases xs with
   |nil=>exact absurd rfl hn
   |cons x0 xs0=>simpa using aq_8 nl (g x0) (xs0.map g) (by simp[hc]) (by simpa using hl) st
  have h0:xs.isEmpty=false:=by simpa using hn
  rw[h0]
  rw[run63 (by simp)]
  simp[-List.getD_eq_getElem?_getD, -getElem?_pos,hv,hvb,hcl,hba]
  refine a_9 (a_8 e63_8 w63_8 xs.length (I:=fun i f st'=>st'=addO emptySt (.vec false (mixed g t xs i))∧f 11= .int .i64 (i:Nat)) (Q:=fun e f st'=>st'=addO emptySt (.vec false (mixed g t xs xs.length))∧e= .exit 0) ?_ ?_ ?_) ?_
  ·simp[mixed]
  ·rintro i f st' hi hk ⟨rfl,h1⟩
   have h5:f 5= .slice 0 3 0 xs.length:=by simp[hk]
   have h10:f 10= .int .i64 xs.length:=by simp[hk]
   have hf:f 1=fv:=by simp[hk]
   clear hk
   have hx:=I_0 g t xs i hi
   have hs:=H_9 g t xs i hi
   have hm:=l_4 g t xs i (by omega)
   have ha:intBin .add .i64 (i:Nat) 1=some (.int .i64 ((i:Int)+1)):=L_5 (by omega) (by omega)
   have hpx:=hp xs[i] (List.getElem_mem hi)
   generalize hy:xs[i]=y at *
   simp[-List.getD_eq_getElem?_getD, -getElem?_pos,h1,h5,h10,hf,hx,ha,hpx,hd y,(hc y).1,(hc (t y)).1,(hc (t y)).2,hi]
   refine Out.one (Or.inl ⟨rfl,?_,by simp⟩)
   have hq:=hpe y (t y)
   simp[(hc (t y)).1,(hc y).1]at hq
   rw[hq,hs];rfl
  ·rintro f st' hk ⟨rfl,h1⟩
   have h10:f 10= .int .i64 xs.length:=by simp[hk]
   clear hk
   simp[-List.getD_eq_getElem?_getD, -getElem?_pos,h1,h10]
   refine Out.one ?_
   simp[*]
  ·rintro e f st' ⟨⟨rfl,rfl⟩,hk⟩
   have h5:f 5= .slice 0 3 0 xs.length:=by simp[hk]
   clear hk
   have hm:=l_4 g t xs xs.length (Nat.le_refl _)
   have hM:mixed g t xs xs.length=xs.map (g∘t):=by simp[mixed]
   have hr:=J_5 (s:=3) (r:=0) (acc:=false) (st:=addO emptySt (.vec false (mixed g t xs xs.length))) (st0:=st) (g:=id) rfl (by
    rw[hM]
    intro v hv
    obtain⟨x, -,rfl⟩:=List.mem_map.1 hv
    exact hz _ x) (by
    rw[hM];simp[hbl])
   rw[hm,List.map_id,c_7]at hr
   rw[←List.map_map]at hM
   rw[hM]at hr⊢
   simp[-List.getD_eq_getElem?_getD, -getElem?_pos,h5]
   simpa using hr
theorem ar_1{α:Type}(fl:Bool)(nl:Option Bool)(xs:List α)(g:α→V)(t:α→α)(fv:V)(hv:∀st,Go.Abs.freeze st none 40 fv=some fv)(hvb:below 0 40 fv=true)(hp:∀x∈xs,∀st,evInvoke tb (run tb) fv [g x] st=some (g (t x),st))(hc:∀x,(g x).cells.length=6∧(g x).cells.all V.oneCell=true)(hd:∀x,V.agg (List.take 6 (g x).cells)=g x)(hpe:∀x y,putElem (g x) (splice (g x).cells 0 (g y).cells)=g y)(hz:∀(st:St) x,Go.Abs.freeze st (some 0) 39 (g (t x))=some (g (t x)))(hbl:∀x,below 0 39 (g x)=true)(hl:xs.length * 112<2^40)(st:St):
  (run tb).call 65 [.list fl nl (xs.map g),fv] st=some (.list xs.isEmpty none ((xs.map t).map g),st):=by
 have hba:xs.all (below 0 39∘g)=true:=by simp[hbl]
 by_cases hn:xs=[]
 ·subst hn
  rw[run65 (by simp)]
  simp[-List.getD_eq_getElem?_getD, -getElem?_pos,hv,hvb,aF_9]
  refine a_9 (a_8 e65_8 w65_8 0 (I:=fun i f st'=>st'=emptySt∧f 11= .int .i64 0∧f 10= .int .i64 0) (Q:=fun e f st'=>st'=emptySt∧e= .exit 0∧f 10= .int .i64 0) ?_ ?_ ?_) ?_
  ·simp
  ·intro i f st' hi;omega
  ·rintro f st' hk ⟨rfl,h1,h2⟩
   simp[-List.getD_eq_getElem?_getD, -getElem?_pos,h1,h2]
   refine Out.one ?_
   simp[*]
  ·rintro e f st' ⟨⟨rfl,rfl,h2⟩,hk⟩
   have h5:f 5= .list true none []:=by simp[hk]
   simp[-List.getD_eq_getElem?_getD, -getElem?_pos,h5]
 ·have hcl:∀(nl:Option Bool) (st:St),(run tb).call 121 [.list false nl (xs.map g)] st=some (.slice st.store.length 6 0 xs.length,addO st (.vec false (xs.map g))):=by
   intro nl st
   cases xs with
   |nil=>exact absurd rfl hn
   |cons x0 xs0=>simpa using au_1 nl (g x0) (xs0.map g) (by simp[hc]) (by simpa using hl) st
  have h0:xs.isEmpty=false:=by simpa using hn
  rw[h0]
  rw[run65 (by simp)]
  simp[-List.getD_eq_getElem?_getD, -getElem?_pos,hv,hvb,hcl,hba]
  refine a_9 (a_8 e65_8 w65_8 xs.length (I:=fun i f st'=>st'=addO emptySt (.vec false (mixed g t xs i))∧f 11= .int .i64 (i:Nat)) (Q:=fun e f st'=>st'=addO emptySt (.vec false (mixed g t xs xs.length))∧e= .exit 0) ?_ ?_ ?_) ?_
  ·simp[mixed]
  ·rintro i f st' hi hk ⟨rfl,h1⟩
   have h5:f 5= .slice 0 6 0 xs.length:=by simp[hk]
   have h10:f 10= .int .i64 xs.length:=by simp[hk]
   have hf:f 1=fv:=by simp[hk]
   clear hk
   have hx:=I_0 g t xs i hi
   have hs:=H_9 g t xs i hi
   have hm:=l_4 g t xs i (by omega)
   have ha:intBin .add .i64 (i:Nat) 1=some (.int .i64 ((i:Int)+1)):=L_5 (by omega) (by omega)
   have hpx:=hp xs[i] (List.getElem_mem hi)
   generalize hy:xs[i]=y at *
   simp[-List.getD_eq_getElem?_getD, -getElem?_pos,h1,h5,h10,hf,hx,ha,hpx,hd y,(hc y).1,(hc (t y)).1,(hc (t y)).2,hi]
   refine Out.one (Or.inl ⟨rfl,?_,by simp⟩)
   have hq:=hpe y (t y)
   simp[(hc (t y)).1,(hc y).1]at hq
   rw[hq,hs];rfl
  ·rintro f st' hk ⟨rfl,h1⟩
   have h10:f 10= .int .i64 xs.length:=by simp[hk]
   clear hk
   simp[-List.getD_eq_getElem?_getD, -getElem?_pos,h1,h10]
   refine Out.one ?_
   simp[*]
  ·rintro e f st' ⟨⟨rfl,rfl⟩,hk⟩
   have h5:f 5= .slice 0 6 0 xs.length:=by simp[hk]
   clear hk
   have hm:=l_4 g t xs xs.length (Nat.le_refl _)
   have hM:mixed g t xs xs.length=xs.map (g∘t):=by simp[mixed]
   have hr:=J_5 (s:=6) (r:=0) (acc:=false) (st:=addO emptySt (.vec false (mixed g t xs xs.length))) (st0:=st) (g:=id) rfl (by
    rw[hM]
    intro v hv
    obtain⟨x, -,rfl⟩:=List.mem_map.1 hv
    exact hz _ x) (by
    rw[hM];simp[hbl])
   rw[hm,List.map_id,c_7]at hr
   rw[←List.map_map]at hM
   rw[hM]at hr⊢
   simp[-List.getD_eq_getElem?_getD, -getElem?_pos,h5]
   simpa using hr
theorem aa_8{α:Type}(fl:Bool)(nl:Option Bool)(xs:List α)(g:α→V)(t:α→α)(fv:V)(hv:∀st,Go.Abs.freeze st none 40 fv=some fv)(hvb:below 0 40 fv=true)(hp:∀x∈xs,∀st,evInvoke tb (run tb) fv [g x] st=some (g (t x),st))(hc:∀x,(g x).cells.length=11∧(g x).cells.all V.oneCell=true)(hd:∀x,V.agg (List.take 11 (g x).cells)=g x)(hpe:∀x y,putElem (g x) (splice (g x).cells 0 (g y).cells)=g y)(hz:∀(st:St) x,Go.Abs.freeze st (some 0) 39 (g (t x))=some (g (t x)))(hbl:∀x,below 0 39 (g x)=true)(hl:xs.length * 192<2^40)(st:St):
  (run tb).call 67 [.list fl nl (xs.map g),fv] st=some (.list xs.isEmpty none ((xs.map t).map g),st):=by
 have hba:xs.all (below 0 39∘g)=true:=by simp[hbl]
 by_cases hn:xs=[]
 ·subst hn
  rw[run67 (by simp)]
  simp[-List.getD_eq_getElem?_getD, -getElem?_pos,hv,hvb,ao_0]
  refine a_9 (a_8 e67_8 w67_8 0 (I:=fun i f st'=>st'=emptySt∧f 11= .int .i64 0∧f 10= .int .i64 0) (Q:=fun e f st'=>st'=emptySt∧e= .exit 0∧f 10= .int .i64 0) ?_ ?_ ?_) ?_
  ·simp
  ·intro i f st' hi;omega
  ·rintro f st' hk ⟨rfl,h1,h2⟩
   simp[-List.getD_eq_getElem?_getD, -getElem?_pos,h1,h2]
   refine Out.one ?_
   simp[*]
  ·rintro e f st' ⟨⟨rfl,rfl,h2⟩,hk⟩
   have h5:f 5= .list true none []:=by simp[hk]
   simp[-List.getD_eq_getElem?_getD, -getElem?_pos,h5]
 ·have hcl:∀(nl:Option Bool) (st:St),(run tb).call 122 [.list false nl (xs.map g)] st=some (.slice st.store.length 11 0 xs.length,addO st (.vec false (xs.map g))):=by
   intro nl st
   cases xs with
   |nil=>exact absurd rfl hn
   |cons x0 xs0=>simpa using ag_ nl (g x0) (xs0.map g) (by simp[hc]) (by simpa using hl) st
  have h0:xs.isEmpty=false:=by simpa using hn
  rw[h0]
  rw[run67 (by simp)]
  simp[-List.getD_eq_getElem?_getD, -getElem?_pos,hv,hvb,hcl,hba]
  refine a_9 (a_8 e67_8 w67_8 xs.length (I:=fun i f st'=>st'=addO emptySt (.vec false (mixed g t xs i))∧f 11= .int .i64 (i:Nat)) (Q:=fun e f st'=>st'=addO emptySt (.vec false (mixed g t xs xs.length))∧e= .exit 0) ?_ ?_ ?_) ?_
  ·simp[mixed]
  ·rintro i f st' hi hk ⟨rfl,h1⟩
   have h5:f 5= .slice 0 11 0 xs.length:=by simp[hk]
   have h10:f 10= .int .i64 xs.length:=by simp[hk]
   have hf:f 1=fv:=by simp[hk]
   clear hk
   have hx:=I_0 g t xs i hi
   have hs:=H_9 g t xs i hi
   have hm:=l_4 g t xs i (by omega)
   have ha:intBin .add .i64 (i:Nat) 1=some (.int .i64 ((i:Int)+1)):=L_5 (by omega) (by omega)
   have hpx:=hp xs[i] (List.getElem_mem hi)
   generalize hy:xs[i]=y at *
   simp[-List.getD_eq_getElem?_getD, -getElem?_pos,h1,h5,h10,hf,hx,ha,hpx,hd y,(hc y).1,(hc (t y)).1,(hc (t y)).2,hi]
   refine Out.one (Or.inl ⟨rfl,?_,by simp⟩)
   have hq:=hpe y (t y)
   simp[(hc (t y)).1,(hc y).1]at hq
   rw[hq,hs];rfl
  ·rintro f st' hk ⟨rfl,h1⟩
   have h10:f 10= .int .i64 xs.length:=by simp[hk]
   clear hk
   simp[-List.getD_eq_getElem?_getD, -getElem?_pos,h1,h10]
   refine Out.one ?_
   simp[*]
  ·rintro e f st' ⟨⟨rfl,rfl⟩,hk⟩
   have h5:f 5= .slice 0 11 0 xs.length:=by simp[hk]
   clear hk
   have hm:=l_4 g t xs xs.length (Nat.le_refl _)
   have hM:mixed g t xs xs.length=xs.map (g∘t):=by simp[mixed]
   have hr:=J_5 (s:=11) (r:=0) (acc:=false) (st:=addO emptySt (.vec false (mixed g t xs xs.length))) (st0:=st) (g:=id) rfl (by
    rw[hM]
    intro v hv
    obtain⟨x, -,rfl⟩:=List.mem_map.1 hv
    exact hz _ x) (by
    rw[hM];simp[hbl])
   rw[hm,List.map_id,c_7]at hr
   rw[←List.map_map]at hM
   rw[hM]at hr⊢
   simp[-List.getD_eq_getElem?_getD, -getElem?_pos,h5]
   simpa using hr
theorem ah_9{α:Type}(fl:Bool)(nl:Option Bool)(xs:List α)(g:α→V)(t:α→α)(fv:V)(hv:∀st,Go.Abs.freeze st none 40 fv=some fv)(hvb:below 0 40 fv=true)(hp:∀x∈xs,∀st,evInvoke tb (run tb) fv [g x] st=some (g (t x),st))(hc:∀x,(g x).cells.length=8∧(g x).cells.all V.oneCell=true)(hd:∀x,V.agg (List.take 8 (g x).cells)=g x)(hpe:∀x y,putElem (g x) (splice (g x).cells 0 (g y).cells)=g y)(hz:∀(st:St) x,Go.Abs.freeze st (some 0) 39 (g (t x))=some (g (t x)))(hbl:∀x,below 0 39 (g x)=true)(hl:xs.length * 120<2^40)(st:St):
  (run tb).call 123 [.list fl nl (xs.map g),fv] st=some (.list xs.isEmpty none ((xs.map t).map g),st):=by
 have hba:xs.all (below 0 39∘g)=true:=by simp[hbl]
 by_cases hn:xs=[]
 ·subst hn
  rw[run123 (by simp)]
  simp[-List.getD_eq_getElem?_getD, -getElem?_pos,hv,hvb,av_1]
  refine a_9 (a_8 e123_8 w123_8 0 (I:=fun i f st'=>st'=emptySt∧f 11= .int .i64 0∧f 10= .int .i64 0) (Q:=fun e f st'=>st'=emptySt∧e= .exit 0∧f 10= .int .i64 0) ?_ ?_ ?_) ?_
  ·simp
  ·intro i f st' hi;omega
  ·rintro f st' hk ⟨rfl,h1,h2⟩
   simp[-List.getD_eq_getElem?_getD, -getElem?_pos,h1,h2]
   refine Out.one ?_
   simp[*]
  ·rintro e f st' ⟨⟨rfl,rfl,h2⟩,hk⟩
   have h5:f 5= .list true none []:=by simp[hk]
   simp[-List.getD_eq_getElem?_getD, -getElem?_pos,h5]
 ·have hcl:∀(nl:Option Bool) (st:St),(run tb).call 184 [.list false nl (xs.map g)] st=some (.slice st.store.length 8 0 xs.length,addO st (.vec false (xs.map g))):=by
   intro nl st
   cases xs with
   |nil=>exact absurd rfl hn
   |cons x0 xs0=>simpa using an_0 nl (g x0) (xs0.map g) (by simp[hc]) (by simpa using hl) st
  have h0:xs.isEmpty=false:=by simpa using hn
  rw[h0]
  rw[run123 (by simp)]
  simp[-List.getD_eq_getElem?_getD, -getElem?_pos,hv,hvb,hcl,hba]
  refine a_9 (a_8 e123_8 w123_8 xs.length (I:=fun i f st'=>st'=addO emptySt (.vec false (mixed g t xs i))∧f 11= .int .i64 (i:Nat)) (Q:=fun e f st'=>st'=addO emptySt (.vec false (mixed g t xs xs.length))∧e= .exit 0) ?_ ?_ ?_) ?_
  ·simp[mixed]
  ·rintro i f st' hi hk ⟨rfl,h1⟩
   have h5:f 5= .slice 0 8 0 xs.length:=by simp[hk]
   have h10:f 10= .int .i64 xs.length:=by simp[hk]
   have hf:f 1=fv:=by simp[hk]
   clear hk
   have hx:=I_0 g t xs i hi
   have hs:=H_9 g t xs i hi
   have hm:=l_4 g t xs i (by omega)
   have ha:intBin .add .i64 (i:Nat) 1=some (.int .i64 ((i:Int)+1)):=L_5 (by omega) (by omega)
   have hpx:=hp xs[i] (List.getElem_mem hi)
   generalize hy:xs[i]=y at *
   simp[-List.getD_eq_getElem?_getD, -getElem?_pos,h1,h5,h10,hf,hx,ha,hpx,hd y,(hc y).1,(hc (t y)).1,(hc (t y)).2,hi]
   refine Out.one (Or.inl ⟨rfl,?_,by simp⟩)
   have hq:=hpe y (t y)
   simp[(hc (t y)).1,(hc y).1]at hq
   rw[hq,hs];rfl
  ·rintro f st' hk ⟨rfl,h1⟩
   have h10:f 10= .int .i64 xs.length:=by simp[hk]
   clear hk
   simp[-List.getD_eq_getElem?_getD, -getElem?_pos,h1,h10]
   refine Out.one ?_
   simp[*]
  ·rintro e f st' ⟨⟨rfl,rfl⟩,hk⟩
   have h5:f 5= .slice 0 8 0 xs.length:=by simp[hk]
   clear hk
   have hm:=l_4 g t xs xs.length (Nat.le_refl _)
   have hM:mixed g t xs xs.length=xs.map (g∘t):=by simp[mixed]
   have hr:=J_5 (s:=8) (r:=0) (acc:=false) (st:=addO emptySt (.vec false (mixed g t xs xs.length))) (st0:=st) (g:=id) rfl (by
    rw[hM]
    intro v hv
    obtain⟨x, -,rfl⟩:=List.mem_map.1 hv
    exact hz _ x) (by
    rw[hM];simp[hbl])
   rw[hm,List.map_id,c_7]at hr
   rw[←List.map_map]at hM
   rw[hM]at hr⊢
   simp[-List.getD_eq_getElem?_getD, -getElem?_pos,h5]
   simpa using hr
theorem ab_1{α:Type}(fl:Bool)(nl:Option Bool)(xs:List α)(g:α→V)(t:α→α)(fv:V)(hv:∀st,Go.Abs.freeze st none 40 fv=some fv)(hvb:below 0 40 fv=true)(hp:∀x∈xs,∀st,evInvoke tb (run tb) fv [g x] st=some (g (t x),st))(hc:∀x,(g x).cells.length=2∧(g x).cells.all V.oneCell=true)(hd:∀x,V.agg (List.take 2 (g x).cells)=g x)(hpe:∀x y,putElem (g x) (splice (g x).cells 0 (g y).cells)=g y)(hz:∀(st:St) x,Go.Abs.freeze st (some 0) 39 (g (t x))=some (g (t x)))(hbl:∀x,below 0 39 (g x)=true)(hl:xs.length * 40<2^40)(st:St):
  (run tb).call 126 [.list fl nl (xs.map g),fv] st=some (.list xs.isEmpty none ((xs.map t).map g),st):=by
 have hba:xs.all (below 0 39∘g)=true:=by simp[hbl]
 by_cases hn:xs=[]
 ·subst hn
  rw[run126 (by simp)]
  simp[-List.getD_eq_getElem?_getD, -getElem?_pos,hv,hvb,ak_4]
  refine a_9 (a_8 e126_8 w126_8 0 (I:=fun i f st'=>st'=emptySt∧f 11= .int .i64 0∧f 10= .int .i64 0) (Q:=fun e f st'=>st'=emptySt∧e= .exit 0∧f 10= .int .i64 0) ?_ ?_ ?_) ?_
  ·simp
  ·intro i f st' hi;omega
  ·rintro f st' hk ⟨rfl,h1,h2⟩
   simp[-List.getD_eq_getElem?_getD, -getElem?_pos,h1,h2]
   refine Out.one ?_
   simp[*]
  ·rintro e f st' ⟨⟨rfl,rfl,h2⟩,hk⟩
   have h5:f 5= .list true none []:=by simp[hk]
   simp[-List.getD_eq_getElem?_getD, -getElem?_pos,h5]
 ·have hcl:∀(nl:Option Bool) (st:St),(run tb).call 128 [.list false nl (xs.map g)] st=some (.slice st.store.length 2 0 xs.length,addO st (.vec false (xs.map g))):=by
   intro nl st
   cases xs with
   |nil=>exact absurd rfl hn
   |cons x0 xs0=>simpa using ai_2 nl (g x0) (xs0.map g) (by simp[hc]) (by simpa using hl) st
  have h0:xs.isEmpty=false:=by simpa using hn
  rw[h0]
  rw[run126 (by simp)]
  simp[-List.getD_eq_getElem?_getD, -getElem?_pos,hv,hvb,hcl,hba]
  refine a_9 (a_8 e126_8 w126_8 xs.length (I:=fun i f st'=>st'=addO emptySt (.vec false (mixed g t xs i))∧f 11= .int .i64 (i:Nat)) (Q:=fun e f st'=>st'=addO emptySt (.vec false (mixed g t xs xs.length))∧e= .exit 0) ?_ ?_ ?_) ?_
  ·simp[mixed]
  ·rintro i f st' hi hk ⟨rfl,h1⟩
   have h5:f 5= .slice 0 2 0 xs.length:=by simp[hk]
   have h10:f 10= .int .i64 xs.length:=by simp[hk]
   have hf:f 1=fv:=by simp[hk]
   clear hk
   have hx:=I_0 g t xs i hi
   have hs:=H_9 g t xs i hi
   have hm:=l_4 g t xs i (by omega)
   have ha:intBin .add .i64 (i:Nat) 1=some (.int .i64 ((i:Int)+1)):=L_5 (by omega) (by omega)
   have hpx:=hp xs[i] (List.getElem_mem hi)
   generalize hy:xs[i]=y at *
   simp[-List.getD_eq_getElem?_getD, -getElem?_pos,h1,h5,h10,hf,hx,ha,hpx,hd y,(hc y).1,(hc (t y)).1,(hc (t y)).2,hi]
   refine Out.one (Or.inl ⟨rfl,?_,by simp⟩)
   have hq:=hpe y (t y)
   simp[(hc (t y)).1,(hc y).1]at hq
   rw[hq,hs];rfl
  ·rintro f st' hk ⟨rfl,h1⟩
   have h10:f 10= .int .i64 xs.length:=by simp[hk]
   clear hk
   simp[-List.getD_eq_getElem?_getD, -getElem?_pos,h1,h10]
   refine Out.one ?_
   simp[*]
  ·rintro e f st' ⟨⟨rfl,rfl⟩,hk⟩
   have h5:f 5= .slice 0 2 0 xs.length:=by simp[hk]
   clear hk
   have hm:=l_4 g t xs xs.length (Nat.le_refl _)
   have hM:mixed g t xs xs.length=xs.map (g∘t):=by simp[mixed]
   have hr:=J_5 (s:=2) (r:=0) (acc:=false) (st:=addO emptySt (.vec false (mixed g t xs xs.length))) (st0:=st) (g:=id) rfl (by
    rw[hM]
    intro v hv
    obtain⟨x, -,rfl⟩:=List.mem_map.1 hv
    exact hz _ x) (by
    rw[hM];simp[hbl])
   rw[hm,List.map_id,c_7]at hr
   rw[←List.map_map]at hM
   rw[hM]at hr⊢
   simp[-List.getD_eq_getElem?_getD, -getElem?_pos,h5]
   simpa using hr
end Go.Proofs.YtbbeelalcamgjaaGreatDoor
namespace Go.Proofs.YtbbeelalcamgjaaGreatDoor
open Go.Abs
def Place.nrm(p:Place):Place:={p with nl:=none}
def Stmt.nrm(s:Stmt):Stmt:={s with to:=s.to.nrm,nl:=none,args:=s.args.map Place.nrm}
def Term.nrm(s:Term):Term:={s with to:=s.to.nrm,n1:=none,args:=s.args.map Place.nrm,n2:=none,n3:=none}
def Block.nrm(b:Block):Block:={b with nl:=none,stmts:=b.stmts.map Stmt.nrm,term:=b.term.nrm}
def Fun.nrm(f:Fun):Fun:={f with n1:=none,n2:=none,n3:=none,blocks:=f.blocks.map Block.nrm}
def Struct.nrm(s:Struct):Struct:={s with nl:=none}
def Enum.nrm(s:Enum):Enum:={s with nl:=none}
def Prog.nrm(p:Prog):Prog:={p with n1:=none,structs:=p.structs.map Struct.nrm,n2:=none,enums:=p.enums.map Enum.nrm,n3:=none,funcs:=p.funcs.map Fun.nrm}
theorem p_4{α:Type}{g:α→V}{st:St}{l:Option Nat}{k:Nat}(h:∀x,Go.Abs.freeze st l k (g x)=some (g x))(xs:List α):(xs.map g).mapM (Go.Abs.freeze st l k)=some (xs.map g):=by
 have:=x_8 (f:=Go.Abs.freeze st l k) (g:=id) (xs:=xs.map g) (by
  intro x hx
  obtain⟨y, -,rfl⟩:=List.mem_map.1 hx
  exact h y)
 simpa using this
theorem M_{st:St}{l:Option Nat}{k:Nat}{cs ds:List V}(h:cs.mapM (Go.Abs.freeze st l k)=some ds):Go.Abs.freeze st l (k+1) (.agg cs)=some (.agg ds):=by
 show(match cs.mapM (Go.Abs.freeze st l k)with|some cs=>_|none=>none)=_
 rw[h]
section
variable {st:St} {l k:Nat}
theorem bb_5(x:Var):Go.Abs.freeze st (some l) (k+2) x.v=some x.v:=M_ (by simp only[List.mapM_cons,List.mapM_nil,q_1];rfl)
theorem bc_6(x:Arm):Go.Abs.freeze st (some l) (k+2) x.v=some x.v:=M_ (by simp only[List.mapM_cons,List.mapM_nil,q_1];rfl)
theorem W_2(xs:List Var):(xs.map Var.v).mapM (Go.Abs.freeze st (some l) (k+2))=some (xs.map Var.v):=p_4 bb_5 xs
theorem aT_0(xs:List Arm):(xs.map Arm.v).mapM (Go.Abs.freeze st (some l) (k+2))=some (xs.map Arm.v):=p_4 bc_6 xs
theorem bk_9(x:Place):Go.Abs.freeze st (some l) (k+3) x.nrm.v=some x.nrm.v:=aA_5 x.nrm
theorem aT_7(xs:List Place):(xs.map (Place.v∘Place.nrm)).mapM (Go.Abs.freeze st (some l) (k+3))=some (xs.map (Place.v∘Place.nrm)):=p_4 (g:=Place.v∘Place.nrm) bk_9 xs
theorem aM_(x:Stmt):Go.Abs.freeze st (some l) (k+5) x.nrm.v=some x.nrm.v:=by
 have h:=aT_7 (st:=st) (l:=l) (k:=k) x.args
 rw[←List.map_map]at h
 exact M_ (by
  simp only[Stmt.nrm,Place.nrm,List.mapM_cons,List.mapM_nil,q_1,w_2,e_1,aj_5]
  rw[h]
  rfl)
theorem aB_9(xs:List Stmt):(xs.map (Stmt.v∘Stmt.nrm)).mapM (Go.Abs.freeze st (some l) (k+5))=some (xs.map (Stmt.v∘Stmt.nrm)):=p_4 (g:=Stmt.v∘Stmt.nrm) aM_ xs
theorem aB_(x:Block):Go.Abs.freeze st (some l) (k+7) x.nrm.v=some x.nrm.v:=by
 have h:=aB_9 (st:=st) (l:=l) (k:=k) x.stmts
 have h2:=aT_7 (st:=st) (l:=l) (k:=k+2) x.term.args
 have h3:=aT_0 (st:=st) (l:=l) (k:=k+3) x.term.arms
 rw[←List.map_map]at h h2
 exact M_ (by
  simp only[Block.nrm,Term.nrm,Place.nrm,List.mapM_cons,List.mapM_nil,q_1,w_2,e_1,aj_5]
  rw[h,h2,h3]
  rfl)
theorem ao_2(xs:List Block):(xs.map (Block.v∘Block.nrm)).mapM (Go.Abs.freeze st (some l) (k+7))=some (xs.map (Block.v∘Block.nrm)):=p_4 (g:=Block.v∘Block.nrm) aB_ xs
theorem bb_4(x:Fun):Go.Abs.freeze st (some l) (k+9) x.nrm.v=some x.nrm.v:=by
 have h:=ao_2 (st:=st) (l:=l) (k:=k) x.blocks
 have h2:=W_2 (st:=st) (l:=l) (k:=k+5) x.params
 have h3:=W_2 (st:=st) (l:=l) (k:=k+5) x.locals
 rw[←List.map_map]at h
 exact M_ (by
  simp only[Fun.nrm,List.mapM_cons,List.mapM_nil,q_1,w_2,e_1]
  rw[h,h2,h3]
  rfl)
theorem bc_7(xs:List Fun):(xs.map (Fun.v∘Fun.nrm)).mapM (Go.Abs.freeze st (some l) (k+9))=some (xs.map (Fun.v∘Fun.nrm)):=p_4 (g:=Fun.v∘Fun.nrm) bb_4 xs
theorem ap_8(x:Struct):Go.Abs.freeze st (some l) (k+4) x.nrm.v=some x.nrm.v:=by
 have h2:=W_2 (st:=st) (l:=l) (k:=k) x.fields
 exact M_ (by
  simp only[Struct.nrm,List.mapM_cons,List.mapM_nil,q_1,w_2,r_,e_1]
  rw[h2];rfl)
theorem aD_4(xs:List Struct):(xs.map (Struct.v∘Struct.nrm)).mapM (Go.Abs.freeze st (some l) (k+4))=some (xs.map (Struct.v∘Struct.nrm)):=p_4 (g:=Struct.v∘Struct.nrm) ap_8 xs
theorem aM_6(x:Enum):Go.Abs.freeze st (some l) (k+4) x.nrm.v=some x.nrm.v:=by
 have h2:=W_2 (st:=st) (l:=l) (k:=k) x.variants
 exact M_ (by
  simp only[Enum.nrm,List.mapM_cons,List.mapM_nil,q_1,w_2,e_1]
  rw[h2];rfl)
theorem aW_4(xs:List Enum):(xs.map (Enum.v∘Enum.nrm)).mapM (Go.Abs.freeze st (some l) (k+4))=some (xs.map (Enum.v∘Enum.nrm)):=p_4 (g:=Enum.v∘Enum.nrm) aM_6 xs
theorem ae_8(xs:List Str):xs.mapM (Go.Abs.freeze st (some l) (k+1)∘V.str)=some (xs.map V.str):=by rw[←List.mapM_map];exact aj_5 xs
theorem af_3(xs:List Var):xs.mapM (Go.Abs.freeze st (some l) (k+2)∘Var.v)=some (xs.map Var.v):=by rw[←List.mapM_map];exact W_2 xs
theorem ae_7(xs:List Arm):xs.mapM (Go.Abs.freeze st (some l) (k+2)∘Arm.v)=some (xs.map Arm.v):=by rw[←List.mapM_map];exact aT_0 xs
theorem aB_1(xs:List Place):xs.mapM (Go.Abs.freeze st (some l) (k+3)∘(Place.v∘Place.nrm))=some (xs.map (Place.v∘Place.nrm)):=by rw[←List.mapM_map];exact aT_7 xs
theorem T_3(xs:List Stmt):xs.mapM (Go.Abs.freeze st (some l) (k+5)∘(Stmt.v∘Stmt.nrm))=some (xs.map (Stmt.v∘Stmt.nrm)):=by rw[←List.mapM_map];exact aB_9 xs
theorem P_7(xs:List Block):xs.mapM (Go.Abs.freeze st (some l) (k+7)∘(Block.v∘Block.nrm))=some (xs.map (Block.v∘Block.nrm)):=by rw[←List.mapM_map];exact ao_2 xs
theorem ai_9(xs:List Fun):xs.mapM (Go.Abs.freeze st (some l) (k+9)∘(Fun.v∘Fun.nrm))=some (xs.map (Fun.v∘Fun.nrm)):=by rw[←List.mapM_map];exact bc_7 xs
theorem K_6(xs:List Struct):xs.mapM (Go.Abs.freeze st (some l) (k+4)∘(Struct.v∘Struct.nrm))=some (xs.map (Struct.v∘Struct.nrm)):=by rw[←List.mapM_map];exact aD_4 xs
theorem U_(xs:List Enum):xs.mapM (Go.Abs.freeze st (some l) (k+4)∘(Enum.v∘Enum.nrm))=some (xs.map (Enum.v∘Enum.nrm)):=by rw[←List.mapM_map];exact aW_4 xs
end
theorem aO_1(fl:Bool)(nl:Option Bool)(xs:List Str)(h:xs.length<2^24)(st:St):(run tb).call 75 [.list fl nl (xs.map .str)] st=some (.list xs.isEmpty none (xs.map .str),st):=by
 have:=aJ_2 fl nl (xs.map .str) (by simp[V.cells,V.oneCell]) (fun st x hx=>by obtain⟨y, -,rfl⟩:=List.mem_map.1 hx;rfl) (by simp[n_4]) (by simp;omega) st
 simpa using this
theorem Z_(fl:Bool)(nl:Option Bool)(xs:List Var)(h:xs.length<2^24)(st:St):(run tb).call 62 [.list fl nl (xs.map Var.v)] st=some (.list xs.isEmpty none (xs.map Var.v),st):=by
 have:=aI_1 fl nl (xs.map Var.v) (by simp[Var.v,V.cells,V.oneCell]) (fun st x hx=>by obtain⟨y, -,rfl⟩:=List.mem_map.1 hx;exact bb_5 y) (by simp[al_7]) (by simp;omega) st
 simpa using this
theorem bf_7(fl:Bool)(nl:Option Bool)(xs:List Arm)(h:xs.length<2^24)(st:St):(run tb).call 127 [.list fl nl (xs.map Arm.v)] st=some (.list xs.isEmpty none (xs.map Arm.v),st):=by
 have:=aE_6 fl nl (xs.map Arm.v) (by simp[Arm.v,V.cells,V.oneCell]) (fun st x hx=>by obtain⟨y, -,rfl⟩:=List.mem_map.1 hx;exact bc_6 y) (by simp[aS_]) (by simp;omega) st
 simpa using this
end Go.Proofs.YtbbeelalcamgjaaGreatDoor
namespace Go.Proofs.YtbbeelalcamgjaaGreatDoor
open Go.Abs
attribute [local simp] N_6 O_3 v_9 H_6 l_0 P_0 F_5 E_3 u_1 d_0 k_2 o_3 c_3 f_0 i_2 c_0 i_4 finish dropMarks resOf
 resList m_1 o_1 h_4 f_9 d_ c_1 n_2 h_5 c_ b_1 b_0 b_9 c_4 f_6 f_4 d_4
 d_2 g_2 o_8 P_4 C_4 m_4 F_1 f_5 P_8 s_un G_ t_7 d_3 d_7 v_5 t_0 i_5 B_9 w_3 O_8 F_6 C_8 P_ n_9
 c_9 c_2 m_3 x_3 e_3 j_4 o_0 p_ o_9 n_5 a_7 c_8 f_8 e_5 f_3 k_ j_ h_8 g_0
 w_ m_7 m_8 n_7 u_6 u_8 u_5 i_9 v_7 evArgs m_ h_3 o_2 f_2 o_ C_7 ofValue ofValues isConst D_5 E_5 H_ C_ G_9
 E_9 E_4 E_0 G_5 G_4 D_7 E_2 C_5 D_0 F_9 H_5 strBin bne E_6 D_4 C_6 convV evConv optArg a_5 argF D_1 v_4 s_3 r_0 n_3 B_7 v_1
 x_1 m_9 h_6 j_7 k_0 i_7 j_0 g_ F_3 u_0 i_6 k_1 okCells P_9 d_6 l_8 g_3 k_3 j_3 g_1 i_0
 j_2 m_2 s_1 u_9 o_5 w_9 s_9 n_ u_ v_6 h_0 j_8 e_7 e_2 j_9 splice putElem k_6 H_3 E_8 k_4 m_6
 g_7 v_2 e_6 bdV fill o_6 bsF setAll d_8 f_7 F_2 e_9 i_1 i_8 f_1 r_ w_2 q_1 s_5 F_8 t_2 u_3 p_4 j_1
 r_9 F_7 D_ w_4 e_1 c_7 r_1 v_ n_4 s_ h_7 G_6 u_7 n_1 D_2 t_4 q_2 D_9 k_8 w_7 c_6 o_4 j_5 G_1
 v_3 F_ B_6 E_1 f_ x_2 t_6 H_1 D_6 H_0 C_2 s_8 m_5 w_8 t_8 deep List.getD_cons_zero List.getD_cons_succ List.getElem?_cons_zero
 List.getElem?_cons_succ List.getElem?_nil s_0 s_2 E_ G_2 G_0 C_0 x_0 v_8 B_8 F_0 x_4 w_1 t_ w_5 t_1 u_4 n_6 n_0 C_9 F_4
 i_3 i_ s_7 t_9 e_8 e_4 D_3 G_3 G_8 C_3 ld38 sr38 al38 aa_1 X_2 bd38 ld36 sr36 Q_2 ia36 ib36 ln36 lo36 sl36 ap36 bs36 ld70 sr70 al70 aC_ az_2
 aC_1 aA_6 az_ aB_5 ld57 sr57 av_2 ia57 ib57 ln57 lo57 ap57 bs57 ld63 sr63 al63 ar_7 am_9 al_5 ld61 sr61 aI_8 ia61 ib61 ln61 lo61 ap61 bs61 ld60 sr60 al60 aP_6 aR_3 aR_5 aT_3
 aS_9 aL_7 ld58 sr58 aV_2 ia58 ln58 ap58 bs58 ld78 sr78 al78 Y_3 Z_5 W_1 V_5 X_7 bd78 ld32 sr32 T_ ia32 ln32 sl32 sv32 ap32 bs32 ld80 sr80 al80 al_6 ap_ ak_8 ld35 sr35
 al35 ae_3 ac_4 ad_9 ad_4 ae_0 ld33 sr33 as_6 ia33 ib33 ln33 lo33 ap33 bs33 ld26 sr26 al26 S_ S_0 R_8 bd26 ld22 ar_0 ia22 ib22 ln22 lo22 ap22 bs22 ld23 au_ ia23 ib23 ln23 lo23
 ap23 bs23 ld24 ak_2 ia24 ib24 ln24 lo24 ap24 bs24 o_7 A_3 B_5 p_0 p_7 ae_8 af_3 ae_7 aB_1 T_3 P_7 ai_9 K_6 U_ a_3 d_5 p_5
 b_3 z_1 q_5 l_7 c_5 g_9 q124_3 l124_3 as_ S_9 S_2 as_2 kdOp kdOf isPure readsOf protS q68_7 l68_7 q68_9 l68_9 q66_3 l66_3 q27_3 l27_3 ld3 sr3 und3 ld9 und9
 ln9 ix9 ld66 sr66 al66 V_8 V_4 aW_9 ln30 lo30 ap30 bs30 bd76 ld4 sr4 und4 ak_9 al_2 bd92 ld90 ld96 ld39 sr39 al39 aq_ ao_4 ao_ al_ al_0 an_2 am_1 bd98 D_Rg S25 L25_1 L25_3
 L25_5 S27 L27_1 S59 L59_1 L59_5 L59_8 L59_11 L59_14 L59_18 S61 L61_1 L61_3 L61_5 S64 L64_1 L64_3 L64_5 S66 L66_1 L66_5 S68 L68_1 L68_3 L68_5 L68_11 S105 L105_1 L105_4 L105_7 L105_10 L105_13 L105_16
 L105_20 S124 L124_1 L124_5 S125 L125_1 L125_3 L125_5
set_option maxRecDepth 100000
set_option linter.unusedSimpArgs false
set_option linter.unusedVariables false
set_option maxHeartbeats 4000000
theorem H_8(p:Place)(f1:Bool)(n1:Option Bool)(h:p.size≤1048576)(st:St):(run tb).call 125 [.agg [.str p.loc, .list f1 n1 (p.steps.map .str)]] st=some (p.nrm.v,st):=by
 rw[q_]at h
 have hl:=x_ p.steps
 have hc:=fun fl nl=>aO_1 fl nl p.steps (by omega)
 rw[run125 (by simp)]
 simp[-List.getD_eq_getElem?_getD, -getElem?_pos,hc,Place.nrm,Place.v]
theorem X_5(fl:Bool)(nl:Option Bool)(xs:List Place)(h:V.bulks (xs.map Place.v)≤1048576)(st:St):(run tb).call 126 [.list fl nl (xs.map Place.v), .func (.func 125) [] []] st=some (.list xs.isEmpty none (xs.map (Place.v∘Place.nrm)),st):=by
 have hl:=l_6 xs
 have:=ab_1 fl nl xs Place.v Place.nrm (.func (.func 125) [] []) (fun _=>rfl) rfl (fun x hx st=>by
  have hm:=I_1 hx
  rw[a_5 (by decide) (by decide)]
  exact H_8 x _ _ (by omega) st) (fun x=>⟨rfl,rfl⟩) (fun x=>rfl) (fun x y=>rfl) (fun st x=>bk_9 x) (fun x=>T_4 x) (by omega) st
 rw[List.map_map]at this
 exact this
theorem ag_5(s:Stmt)(f1 f2:Bool)(n1 n2:Option Bool)(h:s.size≤1048576)(st:St):(run tb).call 124 [.agg [.int .i64 s.at_, .int .i64 s.kind, .str s.to.loc, .list f1 n1 (s.to.steps.map .str), .int .i64 s.n, .str s.name, .str s.variant, .list f2 n2 (s.args.map Place.v)]] st=some (s.nrm.v,st):=by
 rw[t_5]at h
 have hc:=fun f1 n1=>H_8 s.to f1 n1 (by omega)
 have he:=fun fl nl=>X_5 fl nl s.args (by omega)
 rw[run124 (by simp)]
 simp[-List.getD_eq_getElem?_getD, -getElem?_pos,Nat.testBit,hc,he,Stmt.nrm,Stmt.v,Place.v,Place.nrm]
theorem aI_2(fl:Bool)(nl:Option Bool)(xs:List Stmt)(h:V.bulks (xs.map Stmt.v)≤1048576)(st:St):(run tb).call 123 [.list fl nl (xs.map Stmt.v), .func (.func 124) [] []] st=some (.list xs.isEmpty none (xs.map (Stmt.v∘Stmt.nrm)),st):=by
 have hl:=I_5 xs
 have:=ah_9 fl nl xs Stmt.v Stmt.nrm (.func (.func 124) [] []) (fun _=>rfl) rfl (fun x hx st=>by
  have hm:=J_3 hx
  rw[a_5 (by decide) (by decide)]
  exact ag_5 x _ _ _ _ (by omega) st) (fun x=>⟨rfl,rfl⟩) (fun x=>rfl) (fun x y=>rfl) (fun st x=>aM_ x) (fun x=>ag_4 x) (by omega) st
 rw[List.map_map]at this
 exact this
theorem ab_0(x:Block)(f1 f2 f3 f4 f5:Bool)(n1 n2 n3 n4 n5:Option Bool)(h:x.size≤1048576)(st:St):(run tb).call 68 [.agg [.int .i64 x.at_, .str x.name, .list f1 n1 (x.stmts.map Stmt.v), .int .i64 x.term.at_, .int .i64 x.term.kind, .str x.term.to.loc, .list f2 n2 (x.term.to.steps.map .str), .str x.term.name, .list f3 n3 (x.term.args.map Place.v), .list f4 n4 (x.term.blocks.map .str), .list f5 n5 (x.term.arms.map Arm.v)]] st=some (x.nrm.v,st):=by
 rw[l_5,y_7]at h
 have l1:=x_ x.term.blocks
 have l2:=N_3 x.term.arms
 have h1:=fun fl nl=>aI_2 fl nl x.stmts (by omega)
 have h2:=fun f1 n1=>H_8 x.term.to f1 n1 (by omega)
 have h3:=fun fl nl=>X_5 fl nl x.term.args (by omega)
 have h4:=fun fl nl=>aO_1 fl nl x.term.blocks (by omega)
 have h5:=fun fl nl=>bf_7 fl nl x.term.arms (by omega)
 rw[run68 (by simp)]
 simp[-List.getD_eq_getElem?_getD, -getElem?_pos,Nat.testBit,h1,h2,h3,h4,h5,Block.nrm,Block.v,Term.nrm,Place.v,Place.nrm]
 exact fun y _=>ag_4 y.nrm
theorem av_(fl:Bool)(nl:Option Bool)(xs:List Block)(h:V.bulks (xs.map Block.v)≤1048576)(st:St):(run tb).call 67 [.list fl nl (xs.map Block.v), .func (.func 68) [] []] st=some (.list xs.isEmpty none (xs.map (Block.v∘Block.nrm)),st):=by
 have hl:=A_ xs
 have:=aa_8 fl nl xs Block.v Block.nrm (.func (.func 68) [] []) (fun _=>rfl) rfl (fun x hx st=>by
  have hm:=A_8 hx
  rw[a_5 (by decide) (by decide)]
  exact ab_0 x _ _ _ _ _ _ _ _ _ _ (by omega) st) (fun x=>⟨rfl,rfl⟩) (fun x=>rfl) (fun x y=>rfl) (fun st x=>aB_ x) (fun x=>U_8 x) (by omega) st
 rw[List.map_map]at this
 exact this
theorem Z_9(x:Struct)(f1:Bool)(n1:Option Bool)(h:x.size≤1048576)(st:St):(run tb).call 61 [.agg [.int .i64 x.at_, .str x.name, .bool x.safe, .bool x.hook, .list f1 n1 (x.fields.map Var.v)]] st=some (x.nrm.v,st):=by
 rw[l_1]at h
 have l1:=b_8 x.fields
 have h1:=fun fl nl=>Z_ fl nl x.fields (by omega)
 rw[run61 (by simp)]
 simp[-List.getD_eq_getElem?_getD, -getElem?_pos,h1,Struct.nrm,Struct.v]
theorem ae_9(x:Enum)(f1:Bool)(n1:Option Bool)(h:x.size≤1048576)(st:St):(run tb).call 64 [.agg [.int .i64 x.at_, .str x.name, .list f1 n1 (x.variants.map Var.v)]] st=some (x.nrm.v,st):=by
 rw[A_2]at h
 have l1:=b_8 x.variants
 have h1:=fun fl nl=>Z_ fl nl x.variants (by omega)
 rw[run64 (by simp)]
 simp[-List.getD_eq_getElem?_getD, -getElem?_pos,h1,Enum.nrm,Enum.v]
theorem aj_7(x:Fun)(f1 f2 f3:Bool)(n1 n2 n3:Option Bool)(h:x.size≤1048576)(st:St):(run tb).call 66 [.agg [.int .i64 x.at_, .str x.name, .list f1 n1 (x.params.map Var.v), .list f2 n2 (x.locals.map Var.v), .str x.result, .list f3 n3 (x.blocks.map Block.v)]] st=some (x.nrm.v,st):=by
 rw[n_8]at h
 have l1:=b_8 x.params
 have l2:=b_8 x.locals
 have h1:=fun fl nl=>Z_ fl nl x.params (by omega)
 have h2:=fun fl nl=>Z_ fl nl x.locals (by omega)
 have h3:=fun fl nl=>av_ fl nl x.blocks (by omega)
 rw[run66 (by simp)]
 simp[-List.getD_eq_getElem?_getD, -getElem?_pos,Nat.testBit,h1,h2,h3,Fun.nrm,Fun.v]
 exact fun y _=>U_8 y.nrm
theorem ak_0(fl:Bool)(nl:Option Bool)(xs:List Struct)(h:V.bulks (xs.map Struct.v)≤1048576)(st:St):(run tb).call 60 [.list fl nl (xs.map Struct.v), .func (.func 61) [] []] st=some (.list xs.isEmpty none (xs.map (Struct.v∘Struct.nrm)),st):=by
 have hl:=r_4 xs
 have:=V_ fl nl xs Struct.v Struct.nrm (.func (.func 61) [] []) (fun _=>rfl) rfl (fun x hx st=>by
  have hm:=r_7 hx
  rw[a_5 (by decide) (by decide)]
  exact Z_9 x _ _ (by omega) st) (fun x=>⟨rfl,rfl⟩) (fun x=>rfl) (fun x y=>rfl) (fun st x=>ap_8 x) (fun x=>W_6 x) (by omega) st
 rw[List.map_map]at this
 exact this
theorem aK_1(fl:Bool)(nl:Option Bool)(xs:List Enum)(h:V.bulks (xs.map Enum.v)≤1048576)(st:St):(run tb).call 63 [.list fl nl (xs.map Enum.v), .func (.func 64) [] []] st=some (.list xs.isEmpty none (xs.map (Enum.v∘Enum.nrm)),st):=by
 have hl:=I_6 xs
 have:=aj_3 fl nl xs Enum.v Enum.nrm (.func (.func 64) [] []) (fun _=>rfl) rfl (fun x hx st=>by
  have hm:=L_0 hx
  rw[a_5 (by decide) (by decide)]
  exact ae_9 x _ _ (by omega) st) (fun x=>⟨rfl,rfl⟩) (fun x=>rfl) (fun x y=>rfl) (fun st x=>aM_6 x) (fun x=>au_6 x) (by omega) st
 rw[List.map_map]at this
 exact this
theorem aM_1(fl:Bool)(nl:Option Bool)(xs:List Fun)(h:V.bulks (xs.map Fun.v)≤1048576)(st:St):(run tb).call 65 [.list fl nl (xs.map Fun.v), .func (.func 66) [] []] st=some (.list xs.isEmpty none (xs.map (Fun.v∘Fun.nrm)),st):=by
 have hl:=N_4 xs
 have:=ar_1 fl nl xs Fun.v Fun.nrm (.func (.func 66) [] []) (fun _=>rfl) rfl (fun x hx st=>by
  have hm:=aa_3 hx
  rw[a_5 (by decide) (by decide)]
  exact aj_7 x _ _ _ _ _ _ (by omega) st) (fun x=>⟨rfl,rfl⟩) (fun x=>rfl) (fun x y=>rfl) (fun st x=>bb_4 x) (fun x=>aO_0 x) (by omega) st
 rw[List.map_map]at this
 exact this
theorem aN_4(x:Prog)(f1 f2 f3:Bool)(n1 n2 n3:Option Bool)(h:x.size≤1048576)(st:St):(run tb).call 27 [.agg [.list f1 n1 (x.structs.map Struct.v), .list f2 n2 (x.enums.map Enum.v), .list f3 n3 (x.funcs.map Fun.v)]] st=some (x.nrm.v,st):=by
 rw[j_6]at h
 have h1:=fun fl nl=>ak_0 fl nl x.structs (by omega)
 have h2:=fun fl nl=>aK_1 fl nl x.enums (by omega)
 have h3:=fun fl nl=>aM_1 fl nl x.funcs (by omega)
 rw[run27 (by simp)]
 simp[-List.getD_eq_getElem?_getD, -getElem?_pos,Nat.testBit,h1,h2,h3,Prog.nrm,Prog.v]
 exact⟨fun y _=>W_6 y.nrm,fun y _=>au_6 y.nrm,fun y _=>aO_0 y.nrm⟩
def Struct.z:Struct:=⟨0,[],false,false,none,[]⟩
def Enum.z:Enum:=⟨0,[],none,[]⟩
def Prog.st(p:Prog)(n:Str):Option Struct:=p.structs.find? fun x=>x.name==n
def Prog.en(p:Prog)(n:Str):Option Enum:=p.enums.find? fun x=>x.name==n
def stV(o:Option Struct):V:= .tup [(o.getD .z).nrm.v, .bool o.isSome]
def known(p:Prog)(t:Str):Bool:=(baseOf t).2&&((baseOf t).1==intS||((p.st (baseOf t).1).isSome||(p.en (baseOf t).1).isSome))
def Struct.ks(x:Struct):List V:=[.int .i64 x.at_, .str x.name, .bool x.safe, .bool x.hook, .list false x.nl (x.fields.map Var.v)]
def Enum.ks(x:Enum):List V:=[.int .i64 x.at_, .str x.name, .list false x.nl (x.variants.map Var.v)]
def partTypes(l:List Var):List Str:=l.flatMap fun v=>if v.type=[]then []else [v.type]
def parts(p:Prog)(n:Str):List Str:=match p.st n with
 |some s=>s.fields.map Var.type
 |none=>partTypes ((p.en n).getD .z).variants
structure Dg where
 at_:Int
 code:Int
 deriving DecidableEq
def Dg.v(d:Dg):V:= .agg [.int .i64 d.at_, .int .i64 d.code]
theorem bn_4{k l:Nat}(x:Dg):below k (l+2) x.v=true:=by simp[Dg.v]
def dgVar(p:Prog)(l:List Var)(at_:Int)(x:Var×Nat):List Dg:=(if idxI (fun y:Var=>y.name==x.1.name) l<(x.2:Int)then [⟨at_,4⟩]else []) ++(if x.1.type≠[]∧known p x.1.type=false then [⟨at_,5⟩]else [])
def dgVars(p:Prog)(l:List Var)(at_:Int):List Dg:=l.zipIdx.flatMap (dgVar p l at_)
theorem am_5(p:Prog)(l:List Var)(at_:Int)(x:Var×Nat):(dgVar p l at_ x).length≤2:=by
 unfold dgVar;split<;>split<;>simp
theorem ah_8{α β:Type}(h:α→List β)(hh:∀x,(h x).length≤2):∀xs:List α,(xs.flatMap h).length≤2 * xs.length
 |[]=>by simp
 |x::xs=>by
  have:=ah_8 h hh xs
  have:=hh x
  simp only[List.flatMap_cons,List.length_append,List.length_cons];omega
theorem lu90{st:St}{r:Nat}{k:Str}{ok:Bool}:evLookup tb st 90 (.map r) (.str k) ok=lookM (st.store[r]?) .nilp (.str k) ok:=by rw[a_];kernel_rfl
theorem bl_9{st:St}{r:Nat}{k:Str}{ok:Bool}:evLookup tb st 158 (.map r) (.str k) ok=lookM (st.store[r]?) (.bool false) (.str k) ok:=by rw[a_];kernel_rfl
theorem bm_0{st:St}{r:Nat}{k:Str}{v:V}:evMapUpdate tb st 158 (.map r) (.str k) v=if st.locked r=true then none else updM st r (st.store[r]?) (.str k) v:=by rw[a_];kernel_rfl
theorem mu90{st:St}{r:Nat}{k:Str}{v:V}:evMapUpdate tb st 90 (.map r) (.str k) v=if st.locked r=true then none else updM st r (st.store[r]?) (.str k) v:=by rw[a_];kernel_rfl
theorem pn96{c:Bool}:binV tb .neq 96 c .nilp .nilp=some (.bool false):=by rw[a_];kernel_rfl
theorem aN_2{c:Bool}{k:Nat}:binV tb .neq 96 c (.ptr k 0) .nilp=some (.bool true):=by rw[a_];kernel_rfl
def ptrV(o:Option Nat):V:=match o with|some k=> .ptr k 0|none=> .nilp
theorem P_3(D:List (Str×Nat))(k:Str):lookM (some (.map (entsM (fun i=>V.ptr i 0) D))) .nilp (.str k) false=some (ptrV (getM D k)):=by
 rw[aq_9];cases getM D k<;>rfl
attribute [local simp] lu90 bl_9 bm_0 mu90 pn96 aN_2
def knownM(D:List (Str×Nat))(t:Str):Bool:=(baseOf t).2&&((baseOf t).1==intS||(getM D (baseOf t).1).isSome)
theorem L_1(r m:Nat)(l1 l2 l3:V)(D:List (Str×Nat))(t:Str)(ht:t.length<2^40)(st:St)(h1:st.store[r]? =some (.box [l1,l2,l3, .map m]))(h2:st.store[m]? =some (.map (entsM (fun i=>V.ptr i 0) D))):(run tb).call 25 [.ptr r 0, .str t] st=some (.bool (knownM D t),st):=by
 have h3:=aX_1 t ht
 have hS:knownM D t=((baseOf t).2&&((baseOf t).1==intS||(getM D (baseOf t).1).isSome)):=rfl
 generalize baseOf t=b at *
 obtain⟨b1,b2⟩:=b
 simp only at h3 hS
 have h4:=P_3 D b1
 cases hg:getM D b1 with
 |none=>
  rw[hg]at h4 hS
  rw[run25 (by simp)]
  simp[-List.getD_eq_getElem?_getD, -getElem?_pos,h3,hS,intS]
  repeat' (first|refine a_0 ?_ ?_|refine Out.branch ?_ ?_|refine Ret.branch ?_ ?_)<;>(intro hb;(try(simp only[NB]at hb));simp[-List.getD_eq_getElem?_getD, -getElem?_pos,h1,h2,h4,ptrV,hb])
 |some k=>
  rw[hg]at h4 hS
  rw[run25 (by simp)]
  simp[-List.getD_eq_getElem?_getD, -getElem?_pos,h3,hS,intS]
  repeat' (first|refine a_0 ?_ ?_|refine Out.branch ?_ ?_|refine Ret.branch ?_ ?_)<;>(intro hb;(try(simp only[NB]at hb));simp[-List.getD_eq_getElem?_getD, -getElem?_pos,h1,h2,h4,ptrV,hb])
structure Decl where
 name:Str
 at_:Int
 enum:Bool
 hook:Bool
 nl:Option Bool
 parts:List Var
 slots:Int
 drops:Bool
def Decl.cs(d:Decl):List V:=[.str d.name, .int .i64 d.at_, .bool d.enum, .bool d.hook, .list false d.nl (d.parts.map Var.v), .int .i64 d.slots, .bool d.drops]
theorem aF_2{t:Str}(h:kindOf t=2):baseOf t=(t,true)∧(t==intS)=false:=by
 unfold kindOf at h
 split at h
 ·simp at h
 rename_i hp
 by_cases h1:((front t).1 !=0)=true
 ·rw[if_pos h1]at h
  unfold front at h
  split at h
  ·simp at h
  ·split at h<;>simp at h
 rw[if_neg h1]at h
 have hf:front t=(0,t):=by
  unfold front at h1⊢
  split at h1
  ·simp at h1
  ·split at h1
   ·simp at h1
   ·rename_i a b;rw[if_neg a,if_neg b]
 rw[hf]at h hp
 simp only at h hp
 by_cases h2:(t==intS)=true
 ·rw[if_pos h2]at h;simp at h
 rw[if_neg h2]at h
 by_cases h3:hasPre t boxS=true
 ·rw[if_pos h3]at h;simp at h
 refine⟨?_,by simpa using h2⟩
 have hk:(kindOf t==0)=false:=by
  unfold kindOf
  rw[hf];simp only
  rw[if_neg hp]
  simp[h2,h3]
 unfold baseOf
 rw[if_neg (by simp[hk]),hf]
 unfold strip
 simp[h3]
structure TabSt(st:St)(r m:Nat)(D:List (Str×Nat))(Dc:Nat→Decl):Prop where
 box:∃l1 l2 l3,st.store[r]? =some (.box [l1,l2,l3, .map m])
 ents:st.store[m]? =some (.map (entsM (fun i=>V.ptr i 0) D))
 decl:∀n k,getM D n=some k→st.store[k]? =some (.box (Dc k).cs)
def slotsM(D:List (Str×Nat))(Dc:Nat→Decl)(t:Str):Int:=if knownM D t=false then 0 else if kindOf t=2 then(match getM D t with|some k=>(Dc k).slots|none=>0)else 1
theorem R_3(r m:Nat)(D:List (Str×Nat))(Dc:Nat→Decl)(t:Str)(ht:t.length<2^40)(st:St)(h:TabSt st r m D Dc):(run tb).call 59 [.ptr r 0, .str t] st=some (.int .i64 (slotsM D Dc t),st):=by
 obtain⟨⟨l1,l2,l3,h1⟩,h2,h3⟩:=h
 have hk:=L_1 r m l1 l2 l3 D t ht st h1 h2
 have hK:=H_2 t ht
 have h4:=P_3 D t
 unfold slotsM
 cases hkn:knownM D t with
 |false=>
  rw[hkn]at hk
  rw[run59 (by simp)]
  simp[-List.getD_eq_getElem?_getD, -getElem?_pos,hk]
  trace_state
 |true=>
  rw[hkn]at hk
  by_cases hk2:kindOf t=2
  ·have hg:∃k,getM D t=some k:=by
    unfold knownM at hkn
    rw[(aF_2 hk2).1]at hkn
    simp only[(aF_2 hk2).2,Bool.true_and,Bool.false_or]at hkn
    exact Option.isSome_iff_exists.1 hkn
   obtain⟨k,hg⟩:=hg
   have h5:=h3 t k hg
   rw[hg]at h4
   unfold Decl.cs at h5
   rw[run59 (by simp)]
   simp[-List.getD_eq_getElem?_getD, -getElem?_pos,h1,h2,hk,hK,hk2,h4,h5,ptrV,hg]
   trace_state
  ·have hk2':(kindOf t==2)=false:=by simpa using hk2
   rw[run59 (by simp)]
   simp[-List.getD_eq_getElem?_getD, -getElem?_pos,hk,hK,hk2,hk2']
   trace_state
attribute [local simp] lu90 pn96 aN_2
theorem aV_{D:List (Str×Nat)}{t:Str}(hk:knownM D t=true)(hk2:kindOf t=2):∃k,getM D t=some k:=by
 unfold knownM at hk
 rw[(aF_2 hk2).1]at hk
 simp only[(aF_2 hk2).2,Bool.true_and,Bool.false_or]at hk
 exact Option.isSome_iff_exists.1 hk
def dropsM(D:List (Str×Nat))(Dc:Nat→Decl)(t:Str):Bool:=if kindOf t=3 then knownM D t else if kindOf t=2 then knownM D t&&(match getM D t with|some k=>(Dc k).drops|none=>false)else false
theorem ae_5(r m:Nat)(D:List (Str×Nat))(Dc:Nat→Decl)(t:Str)(ht:t.length<2^40)(st:St)(h:TabSt st r m D Dc):(run tb).call 105 [.ptr r 0, .str t] st=some (.bool (dropsM D Dc t),st):=by
 obtain⟨⟨l1,l2,l3,h1⟩,h2,h3⟩:=h
 have hk:=L_1 r m l1 l2 l3 D t ht st h1 h2
 have hK:=H_2 t ht
 have h4:=P_3 D t
 unfold dropsM
 by_cases k3:kindOf t=3
 ·rw[if_pos k3]
  rw[k3]at hK
  rw[run105 (by simp)]
  simp[-List.getD_eq_getElem?_getD, -getElem?_pos,hk,hK]
 ·rw[if_neg k3]
  have k3':(kindOf t==3)=false:=by simpa using k3
  by_cases hk2:kindOf t=2
  ·rw[if_pos hk2]
   rw[hk2]at hK
   cases hkn:knownM D t with
   |false=>
    rw[hkn]at hk
    rw[run105 (by simp)]
    simp[-List.getD_eq_getElem?_getD, -getElem?_pos,hk,hK]
   |true=>
    rw[hkn]at hk
    obtain⟨k,hg⟩:=aV_ hkn hk2
    have h5:=h3 t k hg
    rw[hg]at h4
    unfold Decl.cs at h5
    rw[run105 (by simp)]
    simp[-List.getD_eq_getElem?_getD, -getElem?_pos,h1,h2,hk,hK,h4,h5,ptrV,hg]
  ·have hk2':(kindOf t==2)=false:=by simpa using hk2
   rw[run105 (by simp)]
   simp[-List.getD_eq_getElem?_getD, -getElem?_pos,hK,hk2,hk2',k3']
end Go.Proofs.YtbbeelalcamgjaaGreatDoor
namespace Go.Proofs.YtbbeelalcamgjaaGreatDoor
open Go.Abs
def val(s:Str→Nat)(t:Str):Nat:=if kindOf t=2 then s t else 1
def comb(st:Bool)(l:List Nat):Nat:=if l.any (fun k=>decide (32<k))=true then 33 else min (max (if st=true then l.sum else l.foldl max 0+1) 1) 33
def nextS(p:Prog)(s:Str→Nat)(n:Str):Nat:=comb (p.st n).isSome ((parts p n).map (val s))
def S(p:Prog):Nat→Str→Nat
 |0=>fun _=>33
 |j+1=>nextS p (S p j)
theorem bd_7(st:Bool)(l:List Nat):comb st l≤33:=by
 unfold comb;split<;>omega
theorem S_le(p:Prog)(j:Nat)(n:Str):S p j n≤33:=by
 cases j with
 |zero=>exact Nat.le_refl _
 |succ j=>exact bd_7 _ _
theorem aG_6{st:Bool}{l:List Nat}(h:comb st l≤32):∀k∈l,k≤32:=by
 intro k hk
 unfold comb at h
 split at h
 ·omega
 ·rename_i hn
  rcases Nat.lt_or_ge 32 k with hlt|hge
  ·exact absurd (List.any_eq_true.2 ⟨k,hk,by simpa using hlt⟩) hn
  ·exact hge
theorem aQ_2(p:Prog):∀(j:Nat) (n:Str),S p j n≤32→S p (j+1) n=S p j n
 |0,n,h=>by
  have:S p 0 n=33:=rfl
  omega
 |j+1,n,h=>by
  have hp:=aG_6 (st:=(p.st n).isSome) (l:=(parts p n).map (val (S p j))) h
  have:(parts p n).map (val (S p (j+1)))=(parts p n).map (val (S p j)):=by
   apply List.map_congr_left
   intro t ht
   have h2:=hp _ (List.mem_map_of_mem ht)
   unfold val at h2⊢
   split
   ·rename_i hk
    rw[if_pos hk]at h2
    exact aQ_2 p j t h2
   ·rfl
  show nextS p (S p (j+1)) n=nextS p (S p j) n
  unfold nextS
  rw[this]
theorem ac_6(p:Prog){j:Nat}{n:Str}(h:S p j n≤32):∀i,S p (j+i) n=S p j n
 |0=>rfl
 |i+1=>by
  have h1:=ac_6 p h i
  have h2:=aQ_2 p (j+i) n (by omega)
  rw[←Nat.add_assoc,h2,h1]
open Classical in
noncomputable def sz(p:Prog)(n:Str):Nat:=if h:∃j,S p j n≤32 then S p (Classical.choose h) n else 33
theorem bg_{p:Prog}{n:Str}{j:Nat}(h:S p j n≤32):sz p n=S p j n:=by
 have he:∃j,S p j n≤32:=⟨j,h⟩
 unfold sz
 rw[dif_pos he]
 have h2:=Classical.choose_spec he
 generalize Classical.choose he=i at *
 rcases Nat.le_total i j with hij|hij
 ·obtain⟨d,rfl⟩:=Nat.exists_eq_add_of_le hij
  exact(ac_6 p h2 d).symm
 ·obtain⟨d,rfl⟩:=Nat.exists_eq_add_of_le hij
  exact ac_6 p h d
theorem aS_0{p:Prog}{n:Str}(h:∀j,S p j n=33):sz p n=33:=by
 unfold sz
 rw[dif_neg]
 rintro⟨j,hj⟩
 have:=h j;omega
theorem ai_7(p:Prog)(n:Str):(∃j,S p j n≤32∧sz p n=S p j n)∨(sz p n=33∧∀j,S p j n=33):=by
 by_cases h:∃j,S p j n≤32
 ·obtain⟨j,hj⟩:=h
  exact .inl ⟨j,hj,bg_ hj⟩
 ·have:∀j,S p j n=33:=fun j=>by
   have:=S_le p j n
   by_cases hj:S p j n≤32
   ·exact absurd ⟨j,hj⟩ h
   ·omega
  exact .inr ⟨aS_0 this,this⟩
theorem bo_0(p:Prog)(n:Str):sz p n≤33:=by
 rcases ai_7 p n with⟨j,h1,h2⟩|⟨h, -⟩<;>omega
theorem bc_3(p:Prog):∀l:List Str,∃J,∀t∈l,∀j,J≤j→val (S p j) t=val (sz p) t
 |[]=>⟨0,fun t ht=>by cases ht⟩
 |t::l=>by
  obtain⟨J,hJ⟩:=bc_3 p l
  have h1:∃J1,∀j,J1≤j→S p j t=sz p t:=by
   rcases ai_7 p t with⟨j,h1,h2⟩|⟨h1,h2⟩
   ·refine⟨j,fun i hi=> ?_⟩
    obtain⟨d,rfl⟩:=Nat.exists_eq_add_of_le hi
    rw[ac_6 p h1 d,h2]
   ·exact⟨0,fun j _=>by rw[h1,h2 j]⟩
  obtain⟨J1,hJ1⟩:=h1
  refine⟨max J J1,fun u hu j hj=> ?_⟩
  rcases List.mem_cons.1 hu with rfl|hu
  ·unfold val
   split
   ·exact hJ1 j (by omega)
   ·rfl
  ·exact hJ u hu j (by omega)
theorem bh_7(p:Prog)(n:Str):sz p n=nextS p (sz p) n:=by
 obtain⟨J,hJ⟩:=bc_3 p (parts p n)
 have h1:∀j,J≤j→S p (j+1) n=nextS p (sz p) n:=fun j hj=>by
  show nextS p (S p j) n=_
  unfold nextS
  rw[List.map_congr_left fun t ht=>hJ t ht j hj]
 rcases ai_7 p n with⟨j,h2,h3⟩|⟨h2,h3⟩
 ·have h4:=ac_6 p h2 (J+1)
  rw[h3,←h4,←h1 (j+J) (by omega)];rfl
 ·rw[h2,←h3 (J+1),h1 J (Nat.le_refl _)]
def Part(p:Prog)(n t:Str):Prop:=t∈parts p n∧kindOf t=2
inductive Way(p:Prog):Str→Str→Prop
 |one {a b:Str}:Part p a b→Way p a b
 |cons {a b c:Str}:Part p a b→Way p b c→Way p a c
theorem aS_8{p:Prog}{a b:Str}(h:Part p a b){j:Nat}(hb:S p j b=33):S p (j+1) a=33:=by
 show nextS p (S p j) a=33
 unfold nextS comb
 rw[if_pos]
 exact List.any_eq_true.2 ⟨S p j b,List.mem_map.2 ⟨b,h.1,by unfold val;rw[if_pos h.2]⟩,by rw[hb];decide⟩
theorem bi_2{p:Prog}{a b:Str}(h:Way p a b){j:Nat}(hb:S p j b=33):∃i,S p (j+i+1) a=33:=by
 induction h with
 |one h=>exact⟨0,aS_8 h hb⟩
 |cons h _ ih=>
  obtain⟨i,hi⟩:=ih hb
  exact⟨i+1,aS_8 h hi⟩
theorem S_33{p:Prog}{i j:Nat}{n:Str}(hij:i≤j)(h:S p j n=33):S p i n=33:=by
 have hl:=S_le p i n
 by_cases h2:S p i n≤32
 ·obtain⟨d,rfl⟩:=Nat.exists_eq_add_of_le hij
  rw[ac_6 p h2 d]at h;omega
 ·omega
theorem ba_0{p:Prog}{a:Str}(h:Way p a a):sz p a=33:=by
 have h1:∀j,S p j a=33:=by
  intro j
  induction j with
  |zero=>rfl
  |succ j ih=>
   obtain⟨i,hi⟩:=bi_2 h ih
   exact S_33 (by omega) hi
 exact aS_0 h1
end Go.Proofs.YtbbeelalcamgjaaGreatDoor
namespace Go.Proofs.YtbbeelalcamgjaaGreatDoor
open Go.Abs
open Classical in
attribute [local simp] N_6 O_3 v_9 H_6 l_0 P_0 F_5 E_3 u_1 d_0 k_2 o_3 c_3 f_0 i_2 c_0 i_4 finish dropMarks resOf
 resList m_1 o_1 h_4 f_9 d_ c_1 n_2 h_5 c_ b_1 b_0 b_9 c_4 f_6 f_4 d_4
 d_2 g_2 o_8 P_4 C_4 m_4 F_1 f_5 P_8 s_un G_ t_7 d_3 d_7 v_5 t_0 i_5 B_9 w_3 O_8 F_6 C_8 P_ n_9
 c_9 c_2 m_3 x_3 e_3 j_4 o_0 p_ o_9 n_5 a_7 c_8 f_8 e_5 f_3 k_ j_ h_8 g_0
 w_ m_7 m_8 n_7 u_6 u_8 u_5 i_9 v_7 evArgs m_ h_3 o_2 f_2 o_ C_7 ofValue ofValues isConst D_5 E_5 H_ C_ G_9
 E_9 E_4 E_0 G_5 G_4 D_7 E_2 C_5 D_0 F_9 H_5 strBin bne E_6 D_4 C_6 convV evConv optArg a_5 argF D_1 v_4 s_3 r_0 n_3 B_7 v_1
 x_1 m_9 h_6 j_7 k_0 i_7 j_0 g_ F_3 u_0 i_6 k_1 okCells P_9 d_6 l_8 g_3 k_3 j_3 g_1 i_0
 j_2 m_2 s_1 u_9 o_5 w_9 s_9 n_ u_ v_6 h_0 j_8 e_7 e_2 j_9 splice putElem k_6 H_3 E_8 k_4 m_6
 g_7 v_2 e_6 bdV fill o_6 bsF setAll d_8 f_7 F_2 e_9 i_1 i_8 f_1 r_ w_2 q_1 s_5 F_8 t_2 u_3 p_4 j_1
 r_9 F_7 D_ w_4 e_1 c_7 r_1 v_ n_4 s_ h_7 G_6 u_7 n_1 D_2 t_4 q_2 D_9 k_8 w_7 c_6 o_4 j_5 G_1
 v_3 F_ B_6 E_1 f_ x_2 t_6 H_1 D_6 H_0 C_2 s_8 m_5 w_8 t_8 deep List.getD_cons_zero List.getD_cons_succ List.getElem?_cons_zero
 List.getElem?_cons_succ List.getElem?_nil s_0 s_2 E_ G_2 G_0 C_0 x_0 v_8 B_8 F_0 x_4 w_1 t_ w_5 t_1 u_4 n_6 n_0 C_9 F_4
 i_3 i_ s_7 t_9 e_8 e_4 D_3 G_3 G_8 C_3 ld26 sr26 al26 S_ S_0 R_8 bd26 ld9 und9 ln9 ix9 ld3 sr3 und3 ld78 sr78 al78 Y_3 Z_5 W_1 V_5
 X_7 bd78 ld36 sr36 Q_2 ia36 ib36 ln36 lo36 sl36 ap36 bs36 ld4 sr4 und4 o_7 A_3 B_5 p_0 p_7 ae_8 af_3 ae_7 aB_1 T_3 P_7 ai_9 K_6 U_
 a_3 d_5 p_5 b_3 z_1 q_5 l_7 c_5 g_9 ak_9 al_2 bd92 ld22 ar_0 ia22 ib22 ln22 lo22 ap22 bs22 bj_0 ld39 sr39 al39 ld32 sr32 T_ ia32 ln32 sl32 sv32
 ap32 bs32 lu90 pn96 aN_2 ld90 ld96 aq_ ao_4 ao_ al_ al_0 an_2 am_1 bd98 ld66 sr66 al66 V_8 V_4 p26_18 D_Rg S26 L26_1 L26_3 L26_6 L26_9 L26_13 L26_16 L26_20 L26_28 L26_29 L26_30
 L26_32 S58 L58_1 L58_3 L58_6 L58_9 L58_13 S114 L114_1 L114_3 L114_6 L114_9 L114_13 L114_15 L114_17 S182 L182_1 L182_3 S242 L242_1 L242_3
set_option maxRecDepth 100000
set_option linter.unusedSimpArgs false
set_option linter.unusedVariables false
set_option maxHeartbeats 4000000
def pt(os:Bool)(l:List Nat):Nat:=if os=true then l.sum else l.foldl max 0
theorem bi_7(os:Bool)(l:List Nat)(k:Nat):pt os (l ++[k])=if os=true then pt os l+k else max (pt os l) k:=by
 cases os<;>simp[pt,List.foldl_append]
theorem aC_0:∀(l:List Nat),(∀k∈l,k≤32)→l.sum≤32 * l.length
 |[],_=>by simp
 |k::l,h=>by
  have:=aC_0 l fun x hx=>h x (by simp[hx])
  have:=h k (by simp)
  simp only[List.sum_cons,List.length_cons];omega
theorem aA_4:∀(l:List Nat) (a:Nat),a≤32→(∀k∈l,k≤32)→l.foldl max a≤32
 |[],a,ha,_=>ha
 |k::l,a,ha,h=>by
  have:=h k (by simp)
  exact aA_4 l (max a k) (by omega) fun x hx=>h x (by simp[hx])
theorem bd_0(os:Bool)(l:List Nat)(h:∀k∈l,k≤32):pt os l≤32 * l.length+32:=by
 unfold pt
 split
 ·have:=aC_0 l h;omega
 ·have:=aA_4 l 0 (by omega) h;omega
theorem am_7{α:Type}{q r:α→Bool}:∀(l:List α),(∀x,q x=true→r x=true)→(l.filter q).length≤(l.filter r).length
 |[],_=>by simp
 |x::l,h=>by
  have:=am_7 l h
  have hx:=h x
  simp only[List.filter_cons]
  split
  ·rename_i h1;rw[if_pos (hx h1)];simp;omega
  ·split<;>simp<;>omega
theorem ao_3{α:Type}{q r:α→Bool}{t:α}:∀(l:List α),(∀x,q x=true→r x=true)→t∈l→r t=true→q t=false→(l.filter q).length<(l.filter r).length
 |x::l,h,ht,h1,h2=>by
  have hle:=am_7 l h
  simp only[List.filter_cons]
  rcases List.mem_cons.1 ht with rfl|ht
  ·rw[if_pos h1,if_neg (by simp[h2])];simp;omega
  ·have:=ao_3 l h ht h1 h2
   have hx:=h x
   split
   ·rename_i h3;rw[if_pos (hx h3)];simp;omega
   ·split<;>simp<;>omega
theorem aV_7{p:Prog}{a b c:Str}(h:Way p a b)(h2:Part p b c):Way p a c:=by
 induction h with
 |one h=>exact .cons h (.one h2)
 |cons h _ ih=>exact .cons h (ih h2)
theorem bo_7:tb.und 158=some (.map 9 4):=by rw[a_];kernel_rfl
theorem bl_{S:Go.Abs.S}{dd:Option Nat}{ss:List Step}{n:Nat}{f:Nat→V}{m:List Nat}{st:St}:evSteps tb S (⟨dd, .makeMap 158 none,none⟩::ss) (mk n f m) st=evSteps tb S ss (mk n (putF f dd (.map st.store.length)) m) (addO st (.map [])):=aj_9 bo_7
theorem un90:tb.und 90=some (.map 9 96):=by rw[a_];kernel_rfl
theorem mm90{S:Go.Abs.S}{dd:Option Nat}{ss:List Step}{n:Nat}{f:Nat→V}{m:List Nat}{st:St}:evSteps tb S (⟨dd, .makeMap 90 none,none⟩::ss) (mk n f m) st=evSteps tb S ss (mk n (putF f dd (.map st.store.length)) m) (addO st (.map [])):=aj_9 un90
attribute [local simp] mm90 bl_
noncomputable def slotsD(p:Prog)(t:Str):Nat:=if known p t=true then val (sz p) t else 0
theorem aU_2(x:Struct)(s:Str)(r:Nat)(st:St)(h:st.store[r]? =some (.box [.str s]))(f1:Bool)(n1:Option Bool):(run tb).call 242 [.agg [.int .i64 x.at_, .str x.name, .bool x.safe, .bool x.hook, .list f1 n1 (x.fields.map Var.v)], .ptr r 0] st=some (.bool (x.name==s),st):=by
 rw[run242 (by simp)]
 simp[-List.getD_eq_getElem?_getD, -getElem?_pos,h,a_2 h]
 repeat' (first|refine a_0 ?_ ?_|refine Out.branch ?_ ?_|refine Ret.branch ?_ ?_)<;>(intro hb;(try(simp only[NB]at hb));simp[-List.getD_eq_getElem?_getD, -getElem?_pos,h,a_2 h,hb])
 all_goals try refine Out.one ?_
 all_goals try refine Ret.one ?_
 all_goals try(simp[-List.getD_eq_getElem?_getD,h,a_2 h, *];done)
 all_goals try simp[-List.getD_eq_getElem?_getD,h,a_2 h]
 all_goals try(intros;omega)
theorem av_3(r:Nat)(ss:List Struct)(b:Bool)(nl:Option Bool)(l2 l3 l4:V)(n:Str)(hl:ss.length<2^40)(st:St)(h:st.store[r]? =some (.box [.list b nl (ss.map Struct.v),l2,l3,l4])):(run tb).call 182 [.ptr r 0, .str n] st=some (.int .i64 (idxI (fun x:Struct=>x.name==n) ss),st):=by
 have h1:=fun fl nl=>X_0 fl nl ss Struct.v Struct.ks (.func (.func 242) [] [.ptr st.store.length 0]) (fun x=>x.name==n) (newBox (roSt st) [.str n]) (fun _=>rfl) (fun _ _=>rfl)
  (fun x _=>by rw[a_5 (by decide) (by decide)];exact aU_2 x n _ _ (by simp[newBox,roSt]) _ _) hl
 have hr:r<st.store.length:=(List.getElem?_eq_some_iff.1 h).1
 rw[run182 (by simp)]
 simp[-List.getD_eq_getElem?_getD, -getElem?_pos,h,a_2 h,h1,hr]
 repeat' (first|refine a_0 ?_ ?_|refine Out.branch ?_ ?_|refine Ret.branch ?_ ?_)<;>(intro hb;(try(simp only[NB]at hb));simp[-List.getD_eq_getElem?_getD, -getElem?_pos,h,a_2 h,h1,hr,hb])
 all_goals try refine Out.one ?_
 all_goals try refine Ret.one ?_
 all_goals try(simp[-List.getD_eq_getElem?_getD,h,a_2 h,h1,hr, *];done)
 all_goals try simp[-List.getD_eq_getElem?_getD,h,a_2 h,h1,hr]
 all_goals try(intros;omega)
theorem aj_2{α:Type}(p:α→Bool):∀xs:List α,(idxI p xs= -1∧xs.find? p=none)∨(∃(i:Nat) (x:α),idxI p xs=(i:Int)∧xs[i]? =some x∧xs.find? p=some x)
 |[]=> .inl ⟨rfl,rfl⟩
 |x::xs=>by
  cases hp:p x with
  |true=>exact .inr ⟨0,x,by simp[idxI,idx,hp],rfl,by simp[hp]⟩
  |false=>
   rcases aj_2 p xs with⟨h1,h2⟩|⟨i,y,h1,h2,h3⟩
   ·exact .inl ⟨by
    unfold idxI at h1⊢
    simp only[List.any_cons,hp,Bool.false_or,idx]at h1⊢
    split at h1
    ·omega
    ·rename_i h3;rw[if_neg h3],by simp[hp,h2]⟩
   ·refine .inr ⟨i+1,y,?_,by simpa using h2,by simp[hp,h3]⟩
    unfold idxI at h1⊢
    simp only[List.any_cons,hp,Bool.false_or,idx]at h1⊢
    split at h1
    ·rename_i h3;rw[if_pos h3];simp at h1⊢;omega
    ·omega
theorem O_9{l:List O}{a b:O}:(l ++[a,b])[l.length+1]? =some b:=by
 rw[List.getElem?_append_right (by omega)]
 have:l.length+1-l.length=1:=by omega
 rw[this];rfl
theorem N_1{l:List O}{a b:O}:(l ++[a,b])[l.length]? =some a:=by
 rw[List.getElem?_append_right (by omega),Nat.sub_self];rfl
theorem av_6(r:Nat)(ss:List Struct)(b:Bool)(nl:Option Bool)(l2 l3 l4:V)(n:Str)(hl:V.bulks (ss.map Struct.v)≤1048576)(st:St)(hp:∀q∈st.prot,q<st.store.length)(h:st.store[r]? =some (.box [.list b nl (ss.map Struct.v),l2,l3,l4])):(run tb).call 114 [.ptr r 0, .str n] st=some (stV (ss.find? fun x=>x.name==n),st):=by
 have hll:=r_4 ss
 have hp0:¬st.store.length∈st.prot:=fun h=>by have:=hp _ h;omega
 have hp1:¬st.store.length+1∈st.prot:=fun h=>by have:=hp _ h;omega
 have h1:=av_3 r ss b nl l2 l3 l4 n (by omega)
 have hx1:¬(st.store.length+1<st.store.length):=by omega
 have hset:∀zz zs cs:List V,setO (newBox (newBox (roSt st) zz) zs) (st.store.length+1) (.box cs)=newBox (newBox (roSt st) zz) cs:=by
  intro zz zs cs
  have:st.store.length+1=(newBox (roSt st) zz).store.length:=by simp[newBox,roSt]
  rw[this];exact l_8
 have hset0:∀zz zs cs:List V,setO (newBox (newBox (roSt st) zz) zs) st.store.length (.box cs)=newBox (newBox (roSt st) cs) zs:=by
  intro zz zs cs
  simp[setO,newBox,roSt]
 have hr:r<st.store.length:=(List.getElem?_eq_some_iff.1 h).1
 rcases aj_2 (fun x:Struct=>x.name==n) ss with⟨h2,h3⟩|⟨i,x,h2,h3,h4⟩
 ·rw[h2]at h1
  rw[h3]
  rw[run114 (by simp)]
  simp[-List.getD_eq_getElem?_getD, -getElem?_pos,h,a_2 h,h1,hr,hp0,hp1,stV,Struct.z,Struct.nrm,Struct.v]
  repeat' (first|refine a_0 ?_ ?_|refine Out.branch ?_ ?_|refine Ret.branch ?_ ?_)<;>(intro hb;(try(simp only[NB]at hb));simp[-List.getD_eq_getElem?_getD, -getElem?_pos,h,a_2 h,h1,hr,hp0,hp1,stV,Struct.z,Struct.nrm,Struct.v,hb])
  all_goals try refine Out.one ?_
  all_goals try refine Ret.one ?_
  all_goals try(simp[-List.getD_eq_getElem?_getD,h,a_2 h,h1,hr,hp0,hp1,stV,Struct.z,Struct.nrm,Struct.v, *];done)
  all_goals try simp[-List.getD_eq_getElem?_getD,h,a_2 h,h1,hr,hp0,hp1,stV,Struct.z,Struct.nrm,Struct.v]
  all_goals try(intros;omega)
 ·rw[h2]at h1
  rw[h4]
  have hm:=List.mem_of_find?_eq_some h4
  have hxm:=r_7 hm
  rw[l_1]at hxm
  have hv:=b_8 x.fields
  have hc:=fun fl nl=>Z_ fl nl x.fields (by omega)
  have hi:i<ss.length:=(List.getElem?_eq_some_iff.1 h3).1
  have hne:((i:Int)== -1)=false:=by simp
  rw[run114 (by simp)]
  simp[-List.getD_eq_getElem?_getD, -getElem?_pos,h,a_2 h,h1,hr,hp0,hp1,hx1,hset,hset0,N_1,O_9,hc,h3,hi,hne,stV,Struct.nrm,Struct.v]
  repeat' (first|refine a_0 ?_ ?_|refine Out.branch ?_ ?_|refine Ret.branch ?_ ?_)<;>(intro hb;(try(simp only[NB]at hb));simp[-List.getD_eq_getElem?_getD, -getElem?_pos,h,a_2 h,h1,hr,hp0,hp1,hx1,hset,hset0,N_1,O_9,hc,h3,hi,hne,stV,Struct.nrm,Struct.v,hb])
  all_goals try refine Out.one ?_
  all_goals try refine Ret.one ?_
  all_goals try(simp[-List.getD_eq_getElem?_getD,h,a_2 h,h1,hr,hp0,hp1,hx1,hset,hset0,N_1,O_9,hc,h3,hi,hne,stV,Struct.nrm,Struct.v, *];done)
  all_goals try simp[-List.getD_eq_getElem?_getD,h,a_2 h,h1,hr,hp0,hp1,hx1,hset,hset0,N_1,O_9,hc,h3,hi,hne,stV,Struct.nrm,Struct.v]
  all_goals try(intros;omega)
theorem pe96{c:Bool}:binV tb .eql 96 c .nilp .nilp=some (.bool true):=by rw[a_];kernel_rfl
theorem bi_9{c:Bool}{k:Nat}:binV tb .eql 96 c (.ptr k 0) .nilp=some (.bool false):=by rw[a_];kernel_rfl
def partM(D:List (Str×Nat))(Dc:Nat→Decl)(t n:Str)(e:Bool):V:=match getM D t with
 |none=> .tup [.nilp, .int .i64 (-1)]
 |some k=>if(Dc k).enum=e then .tup [.ptr k 0, .int .i64 (idxI (fun x:Var=>x.name==n) (Dc k).parts)]else .tup [.nilp, .int .i64 (-1)]
theorem aO_5(r m:Nat)(D:List (Str×Nat))(Dc:Nat→Decl)(t n:Str)(e:Bool)(st:St)(h:TabSt st r m D Dc)(hl:∀k,(Dc k).parts.length<2^40):(run tb).call 58 [.ptr r 0, .str t, .str n, .bool e] st=some (partM D Dc t n e,st):=by
 obtain⟨⟨l1,l2,l3,h1⟩,h2,h3⟩:=h
 have h4:=P_3 D t
 unfold partM
 cases hg:getM D t with
 |none=>
  rw[hg]at h4
  rw[run58 (by simp)]
  simp[-List.getD_eq_getElem?_getD, -getElem?_pos,h1,h2,h4,ptrV,pe96]
 |some k=>
  rw[hg]at h4
  have h5:=h3 t k hg
  unfold Decl.cs at h5
  have hF:=fun fl nl=>aj_4 fl nl (Dc k).parts n (hl k)
  by_cases he:(Dc k).enum=e
  ·simp only[he,if_true]
   rw[he]at h5
   cases e
   all_goals
    rw[run58 (by simp)]
    simp[-List.getD_eq_getElem?_getD, -getElem?_pos,h1,h2,h4,h5,hF,ptrV,bi_9]
  ·simp only[he,if_false]
   have he':(Dc k).enum= !e:=by cases h6:(Dc k).enum<;>cases e<;>simp_all
   rw[he']at h5
   cases e
   all_goals
    rw[run58 (by simp)]
    simp[-List.getD_eq_getElem?_getD, -getElem?_pos,h1,h2,h4,h5,ptrV,bi_9]
theorem aX_9(p:Var→Bool)(xs:List Var):(idxI p xs= -1)∨(∃(i:Nat) (x:Var),idxI p xs=(i:Int)∧xs[i]? =some x∧i<xs.length):=by
 rcases aj_2 p xs with⟨h1, -⟩|⟨i,x,h1,h2, -⟩
 ·exact .inl h1
 ·exact .inr ⟨i,x,h1,h2,(List.getElem?_eq_some_iff.1 h2).1⟩
def noPart:V:= .tup [.str [], .int .i64 0, .bool false]
def sumS(D:List (Str×Nat))(Dc:Nat→Decl)(l:List Var):Int:=(l.map fun v=>slotsM D Dc v.type).sum
def fieldM(D:List (Str×Nat))(Dc:Nat→Decl)(t n:Str):V:=match getM D t with
 |none=>noPart
 |some k=>if(Dc k).enum=false then(if idxI (fun x:Var=>x.name==n) (Dc k).parts= -1 then noPart else .tup [.str (((Dc k).parts[(idxI (fun x:Var=>x.name==n) (Dc k).parts).toNat]?).getD ⟨[],[]⟩).type, .int .i64 (sumS D Dc ((Dc k).parts.take (idxI (fun x:Var=>x.name==n) (Dc k).parts).toNat)), .bool true])else noPart
theorem at_6(nl:Option Bool)(l:List Var)(i:Nat)(h:i≤l.length):sliceList 2 false nl (l.map Var.v) none (some (.int .i64 (i:Int))) none=some (.list false nl ((l.take i).map Var.v)):=by
 have h1:sizeFits 2 (l.map Var.v)=true:=by cases l<;>rfl
 have h2:bounds (l.map Var.v).length (l.map Var.v).length none (some (.int .i64 (i:Int)))=some (0,i):=by
  simp[bounds,bound,asIdx,h]
 unfold sliceList
 rw[if_pos h1,h2]
 simp[List.map_take]
theorem aP_2(D:List (Str×Nat))(Dc:Nat→Decl)(l:List Var)(x:Var):sumS D Dc (l ++[x])=sumS D Dc l+slotsM D Dc x.type:=by
 simp[sumS]
theorem aS_7(D:List (Str×Nat))(Dc:Nat→Decl)(hb:∀t,0≤slotsM D Dc t∧slotsM D Dc t≤1024):∀l:List Var,0≤sumS D Dc l∧sumS D Dc l≤1024 * l.length
 |[]=>by simp[sumS]
 |x::l=>by
  have:=aS_7 D Dc hb l
  have:=hb x.type
  have h:sumS D Dc (x::l)=slotsM D Dc x.type+sumS D Dc l:=by simp[sumS]
  rw[h];simp only[List.length_cons];omega
theorem TabSt.grow{a b:St}{r m:Nat}{D:List (Str×Nat)}{Dc:Nat→Decl}(h:TabSt a r m D Dc)(g:Grows a b):TabSt b r m D Dc:=by
 obtain⟨⟨l1,l2,l3,h1⟩,h2,h3⟩:=h
 exact⟨⟨l1,l2,l3,g.at_ h1⟩,g.at_ h2,fun n k hk=>g.at_ (h3 n k hk)⟩
theorem aD_0(r m:Nat)(D:List (Str×Nat))(Dc:Nat→Decl)(t n:Str)(st:St)(hp0:∀q∈st.prot,q<st.store.length)(h:TabSt st r m D Dc)(hl:∀k,(Dc k).parts.length<2^30)(hb:∀t,0≤slotsM D Dc t∧slotsM D Dc t≤1024)(hty:∀k,∀v∈(Dc k).parts,v.type.length<2^40):(run tb).call 26 [.ptr r 0, .str t, .str n] st=some (fieldM D Dc t n,st):=by
 have h':TabSt (roSt st) r m D Dc:=⟨h.box,h.ents,h.decl⟩
 have hp:=aO_5 r m D Dc t n false (roSt st) h' (fun k=>by have:=hl k;omega)
 obtain⟨⟨l1,l2,l3,h1⟩,h2,h3⟩:=h
 unfold fieldM
 unfold partM at hp
 cases hg:getM D t with
 |none=>
  rw[hg]at hp
  rw[run26 (by simp)]
  simp[-List.getD_eq_getElem?_getD, -getElem?_pos,hp,noPart]
  repeat' (first|refine a_0 ?_ ?_|refine Out.branch ?_ ?_|refine Ret.branch ?_ ?_)<;>(intro hb;(try(simp only[NB]at hb));simp[-List.getD_eq_getElem?_getD, -getElem?_pos,hp,noPart,hb])
  all_goals try refine Out.one ?_
  all_goals try refine Ret.one ?_
  all_goals try(simp[-List.getD_eq_getElem?_getD,hp,noPart, *];done)
  all_goals try simp[-List.getD_eq_getElem?_getD,hp,noPart]
  all_goals try(intros;omega)
 |some k=>
  rw[hg]at hp
  have h5:=h3 t k hg
  unfold Decl.cs at h5
  cases he:(Dc k).enum with
  |true=>
   simp only[he,Bool.true_eq_false,if_false]at hp⊢
   rw[run26 (by simp)]
   simp[-List.getD_eq_getElem?_getD, -getElem?_pos,hp,noPart]
   repeat' (first|refine a_0 ?_ ?_|refine Out.branch ?_ ?_|refine Ret.branch ?_ ?_)<;>(intro hb;(try(simp only[NB]at hb));simp[-List.getD_eq_getElem?_getD, -getElem?_pos,hp,noPart,hb])
   all_goals try refine Out.one ?_
   all_goals try refine Ret.one ?_
   all_goals try(simp[-List.getD_eq_getElem?_getD,hp,noPart, *];done)
   all_goals try simp[-List.getD_eq_getElem?_getD,hp,noPart]
   all_goals try(intros;omega)
  |false=>
   simp only[he,if_true]at hp⊢
   rcases aX_9 (fun x:Var=>x.name==n) (Dc k).parts with hi|⟨i,x,hi,hx,hlt⟩
   ·rw[hi]at hp⊢
    rw[run26 (by simp)]
    simp[-List.getD_eq_getElem?_getD, -getElem?_pos,hp,noPart]
    repeat' (first|refine a_0 ?_ ?_|refine Out.branch ?_ ?_|refine Ret.branch ?_ ?_)<;>(intro hb;(try(simp only[NB]at hb));simp[-List.getD_eq_getElem?_getD, -getElem?_pos,hp,noPart,hb])
    all_goals try refine Out.one ?_
    all_goals try refine Ret.one ?_
    all_goals try(simp[-List.getD_eq_getElem?_getD,hp,noPart, *];done)
    all_goals try simp[-List.getD_eq_getElem?_getD,hp,noPart]
    all_goals try(intros;omega)
   ·rw[hi]at hp⊢
    have hne:((i:Int)== -1)=false:=by simp
    have hne':¬(i:Int)= -1:=by omega
    rw[if_neg hne']
    simp only[Int.toNat_natCast,hx,Option.getD_some]
    rw[run26 (by simp)]
    have hsl:=at_6 (Dc k).nl (Dc k).parts i (by omega)
    have hlk:=hl k
    simp[-List.getD_eq_getElem?_getD, -getElem?_pos,hp,hne,h5,hx,hlt,hsl]
    have hmin:min i (Dc k).parts.length=i:=by omega
    refine a_9 (a_8 e26_18 w26_18 i (I:=fun j f st'=>Grows (roSt st) st'∧f 30= .int .i64 (j:Nat)∧f 11= .int .i64 (sumS D Dc ((Dc k).parts.take j))) (Q:=fun e f st'=>Grows (roSt st) st'∧e= .exit 0∧f 11= .int .i64 (sumS D Dc ((Dc k).parts.take i))) ?_ ?_ ?_) ?_
    ·exact⟨Grows.refl _,by simp,by simp[sumS]⟩
    ·rintro j f st' hj hk ⟨hG,h30,h11⟩
     have k1:st'.base=st.store.length:=hG.base
     have k2:¬st'.store.length∈st'.prot:=fun e=>by
      have e2:st'.store.length∈st.prot:=by rw[hG.prot]at e;exact e
      have:=hp0 _ e2
      have:=hG.len
      simp[roSt]at this;omega
     have k3:¬st'.store.length<st.store.length:=by have:=hG.len;simp[roSt]at this;omega
     have hy:(Dc k).parts[j]? =some (Dc k).parts[j]:=List.getElem?_eq_getElem (by omega)
     have hy2:((Dc k).parts.take i)[j]? =some (Dc k).parts[j]:=by rw[List.getElem?_take_of_lt hj];exact hy
     have hym:=List.getElem_mem (l:=(Dc k).parts) (n:=j) (by omega)
     have htk:=List.take_succ_eq_append_getElem (l:=(Dc k).parts) (i:=j) (by omega)
     have g0:f 0= .ptr r 0:=by simp[hk]
     generalize(Dc k).parts[j]=y at *
     have hG2:Grows (roSt st) (newBox st' [.str y.name, .str y.type]):=hG.app [.box [.str y.name, .str y.type]]
     have hS:=R_3 r m D Dc y.type (hty k y hym) _ (h'.grow hG2)
     have ha:=add1 (i:=j) (by omega)
     have hs1:=aS_7 D Dc hb ((Dc k).parts.take j)
     have hs2:=hb y.type
     have hlt2:((Dc k).parts.take j).length≤j:=by simp;omega
     have hadd:=L_5 (x:=sumS D Dc ((Dc k).parts.take j)) (y:=slotsM D Dc y.type) (by omega) (by omega)
     rw[htk,aP_2]
     simp[-List.getD_eq_getElem?_getD, -getElem?_pos,hk,h30,h11,hy,hy2,hj,hmin,g0,hS,ha,hadd,k1,k2,k3,hG2,Var.v]
     repeat' (first|refine a_0 ?_ ?_|refine Out.branch ?_ ?_|refine Ret.branch ?_ ?_)<;>(intro hb;(try(simp only[NB]at hb));simp[-List.getD_eq_getElem?_getD, -getElem?_pos,hk,h30,h11,hy,hy2,hj,hmin,g0,hS,ha,hadd,k1,k2,k3,hG2,Var.v,hb])
     all_goals try refine Out.one ?_
     all_goals try refine Ret.one ?_
     all_goals try(simp[-List.getD_eq_getElem?_getD,hk,h30,h11,hy,hy2,hj,hmin,g0,hS,ha,hadd,k1,k2,k3,hG2,Var.v, *];done)
     all_goals try simp[-List.getD_eq_getElem?_getD,hk,h30,h11,hy,hy2,hj,hmin,g0,hS,ha,hadd,k1,k2,k3,hG2,Var.v]
     all_goals try(intros;omega)
    ·rintro f st' hk ⟨hG,h30,h11⟩
     simp[-List.getD_eq_getElem?_getD, -getElem?_pos,hk,h30,h11,hmin,hG]
     repeat' (first|refine a_0 ?_ ?_|refine Out.branch ?_ ?_|refine Ret.branch ?_ ?_)<;>(intro hb;(try(simp only[NB]at hb));simp[-List.getD_eq_getElem?_getD, -getElem?_pos,hk,h30,h11,hmin,hG,hb])
     all_goals try refine Out.one ?_
     all_goals try refine Ret.one ?_
     all_goals try(simp[-List.getD_eq_getElem?_getD,hk,h30,h11,hmin,hG, *];done)
     all_goals try simp[-List.getD_eq_getElem?_getD,hk,h30,h11,hmin,hG]
     all_goals try(intros;omega)
    ·rintro e f st' ⟨⟨hG,rfl,h11⟩,hk⟩
     have j5:=hG.at_ (show(roSt st).store[k]? =_ from h5)
     simp[-List.getD_eq_getElem?_getD, -getElem?_pos,hk,h11,j5,hx,hlt,Var.v]
     repeat' (first|refine a_0 ?_ ?_|refine Out.branch ?_ ?_|refine Ret.branch ?_ ?_)<;>(intro hb;(try(simp only[NB]at hb));simp[-List.getD_eq_getElem?_getD, -getElem?_pos,hk,h11,j5,hx,hlt,Var.v,hb])
     all_goals try refine Out.one ?_
     all_goals try refine Ret.one ?_
     all_goals try(simp[-List.getD_eq_getElem?_getD,hk,h11,j5,hx,hlt,Var.v, *];done)
     all_goals try simp[-List.getD_eq_getElem?_getD,hk,h11,j5,hx,hlt,Var.v]
     all_goals try(intros;omega)
end Go.Proofs.YtbbeelalcamgjaaGreatDoor
namespace Go.Proofs.YtbbeelalcamgjaaGreatDoor
open Go.Abs
attribute [local simp] N_6 O_3 v_9 H_6 l_0 P_0 F_5 E_3 u_1 d_0 k_2 o_3 c_3 f_0 i_2 c_0 i_4 finish dropMarks resOf
 resList m_1 o_1 h_4 f_9 d_ c_1 n_2 h_5 c_ b_1 b_0 b_9 c_4 f_6 f_4 d_4
 d_2 g_2 o_8 P_4 C_4 m_4 F_1 f_5 P_8 s_un G_ t_7 d_3 d_7 v_5 t_0 i_5 B_9 w_3 O_8 F_6 C_8 P_ n_9
 c_9 c_2 m_3 x_3 e_3 j_4 o_0 p_ o_9 n_5 a_7 c_8 f_8 e_5 f_3 k_ j_ h_8 g_0
 w_ m_7 m_8 n_7 u_6 u_8 u_5 i_9 v_7 evArgs m_ h_3 o_2 f_2 o_ C_7 ofValue ofValues isConst D_5 E_5 H_ C_ G_9
 E_9 E_4 E_0 G_5 G_4 D_7 E_2 C_5 D_0 F_9 H_5 strBin bne E_6 D_4 C_6 convV evConv optArg a_5 argF D_1 v_4 s_3 r_0 n_3 B_7 v_1
 x_1 m_9 h_6 j_7 k_0 i_7 j_0 g_ F_3 u_0 i_6 k_1 okCells P_9 d_6 l_8 g_3 k_3 j_3 g_1 i_0
 j_2 m_2 s_1 u_9 o_5 w_9 s_9 n_ u_ v_6 h_0 j_8 e_7 e_2 j_9 splice putElem k_6 H_3 E_8 k_4 m_6
 g_7 v_2 e_6 bdV fill o_6 bsF setAll d_8 f_7 F_2 e_9 i_1 i_8 f_1 r_ w_2 q_1 s_5 F_8 t_2 u_3 p_4 j_1
 r_9 F_7 D_ w_4 e_1 c_7 r_1 v_ n_4 s_ h_7 G_6 u_7 n_1 D_2 t_4 q_2 D_9 k_8 w_7 c_6 o_4 j_5 G_1
 v_3 F_ B_6 E_1 f_ x_2 t_6 H_1 D_6 H_0 C_2 s_8 m_5 w_8 t_8 deep List.getD_cons_zero List.getD_cons_succ List.getElem?_cons_zero
 List.getElem?_cons_succ List.getElem?_nil s_0 s_2 E_ G_2 G_0 C_0 x_0 v_8 B_8 F_0 x_4 w_1 t_ w_5 t_1 u_4 n_6 n_0 C_9 F_4
 i_3 i_ s_7 t_9 e_8 e_4 D_3 G_3 G_8 C_3 ld26 sr26 al26 S_ S_0 R_8 bd26 ld9 und9 ln9 ix9 ld78 sr78 al78 Y_3 Z_5 W_1 V_5 X_7 bd78
 ld32 sr32 T_ ia32 ln32 sl32 sv32 ap32 bs32 ld4 sr4 und4 ld3 sr3 und3 ld66 sr66 al66 V_8 V_4 o_7 A_3 B_5 p_0 p_7 d_5 c_5 g_9 l_7 ld22 ar_0 ia22
 ib22 ln22 lo22 ap22 bs22 aq_ ao_4 ao_ al_ al_0 an_2 am_1 bd98 ld88 bl_8 ia88 ib88 ln88 lo88 ap88 bs88 ld23 au_ ia23 ib23 ln23 lo23 ap23 bs23 ld80 sr80 al80 al_6 ap_ ak_8
 p37_8 p37_25 ld96 p102_3 bd76 aW_9 ln30 lo30 ap30 bs30 ld90 ak_9 al_2 bd92 ld39 sr39 al39 ld36 sr36 Q_2 ia36 ib36 ln36 lo36 sl36 ap36 bs36 lu90 mu90 q14_21 l14_21 as_ S_9 S_2 as_2 kdOp
 kdOf isPure readsOf protS bl_9 bm_0 bl_ q39_45 l39_45 p39_10 p39_32 D_Rg S14 L14_1 L14_4 L14_7 L14_11 L14_13 L14_16 L14_19 M14_19 L14_23 L14_26 L14_29 L14_33 L14_41 L14_43 L14_45 L14_47 L14_51
 L14_54 L14_58 S37 L37_1 L37_3 L37_6 L37_10 L37_18 L37_19 L37_20 L37_23 L37_27 L37_35 L37_36 L37_37 L37_39 S38 L38_1 L38_3 S39 L39_1 L39_3 L39_5 L39_8 L39_12 L39_20 L39_23 L39_25 L39_28 L39_30 L39_34
 L39_42 L39_47 L39_50 L39_52 L39_54 L39_55 L39_57 S102 L102_1 L102_6 L102_13 L102_17
set_option maxRecDepth 100000
set_option linter.unusedSimpArgs false
set_option linter.unusedVariables false
set_option maxHeartbeats 4000000
noncomputable def sumD(p:Prog)(l:List Var):Nat:=(l.map fun v=>slotsD p v.type).sum
noncomputable def fieldD(p:Prog)(t n:Str):V:=match p.st t with
 |none=>noPart
 |some e=>if idxI (fun x:Var=>x.name==n) e.fields= -1 then noPart else .tup [.str ((e.fields[(idxI (fun x:Var=>x.name==n) e.fields).toNat]?).getD ⟨[],[]⟩).type, .int .i64 ((sumD p (e.fields.take (idxI (fun x:Var=>x.name==n) e.fields).toNat):Nat):Int), .bool true]
theorem aQ_(p:Prog)(t:Str):slotsD p t≤33:=by
 unfold slotsD val;split
 ·split
  ·exact bo_0 p t
  ·omega
 ·omega
def Decl.ofS(x:Struct):Decl:=⟨x.name,x.at_,false,x.hook,x.nl,x.fields,0,false⟩
def Decl.ofE(x:Enum):Decl:=⟨x.name,x.at_,true,false,x.nl,x.variants,0,false⟩
def declsOf(p:Prog):List Decl:=p.structs.map Decl.ofS ++p.enums.map Decl.ofE
theorem _root_.Go.Abs.Grows.rest{a b c:St}{ex:Option Nat}(g:Grows a b)(r:Go.Abs.Rest ex b c)(hx:∀r,ex=some r→a.store.length≤r):Grows a c:=
 ⟨r.base.trans g.base,r.prot.trans g.prot,Nat.le_trans g.len r.len,fun i hi=>by
  have hb:i<b.store.length:=Nat.lt_of_lt_of_le hi g.len
  have h1:=List.getElem?_eq_getElem hb
  rw[r.get i _ h1 (by intro e;have:=hx i e;omega),←g.get i hi,h1]⟩
structure DeclsAt(st0 st:St)(v:V)(al:List Nat)(ds:List Decl):Prop where
 acc:AccT 1 st v (al.map fun k=> .ptr k 0)
 ref:∀r,refOf v=some r→st0.store.length≤r
 grows:Grows st0 st
 len:al.length=ds.length
 at_:∀(i k:Nat) (d:Decl),al[i]? =some k→ds[i]? =some d→st.store[k]? =some (.box d.cs)
 nodup:al.Nodup
 lt:∀k∈al,st0.store.length≤k∧k<st.store.length
theorem DeclsAt.snoc{st0 st:St}{v:V}{al:List Nat}{ds:List Decl}{d:Decl}{cs:List V}(h:DeclsAt st0 st v al ds)(hb:st.base=0)(hp:st.prot=[])(hl:al.length≤2^30):
  ∃v3 st3,appV 1 8 (newBox (newBox st cs) d.cs) (spreadB (.list true (some false) [.ptr (st.store.length+1) 0])) v (.list true (some false) [.ptr (st.store.length+1) 0])=some (v3,st3)∧DeclsAt st0 st3 v3 (al ++[st.store.length+1]) (ds ++[d]):=by
 have hA:=(h.acc.box cs).box d.cs
 obtain⟨v3,st3,ap3,A3,R3,r3,F3,F4⟩:=hA.app (bytes:=8) (y:= .list true (some false) [.ptr (st.store.length+1) 0]) (fun r _=>by simp[St.locked,newBox,hb,hp]) rfl (by simp) (by simp[V.cells,V.oneCell]) (by decide) (by decide) (by simp;omega)
 have hG:Grows st0 (newBox (newBox st cs) d.cs):=(h.grows.app [.box cs]).app [.box d.cs]
 have hl2:(newBox (newBox st cs) d.cs).store.length=st.store.length+2:=by simp[newBox]
 have hg2:(newBox (newBox st cs) d.cs).store[st.store.length+1]? =some (.box d.cs):=by
  have:st.store.length+1=(newBox st cs).store.length:=by simp[newBox]
  rw[this]
  show((newBox st cs).store ++[.box d.cs])[_]? =_
  exact d_6
 have hR:=hA.boxes R3
 have hkeep:∀(k:Nat) (es:List V),st.store[k]? =some (.box es)→st3.store[k]? =some (.box es):=fun k es hk=>hR.get _ _ (a_2 (a_2 hk))
 refine⟨v3,st3,ap3,?_,?_,hG.rest R3 h.ref,by simp[h.len],?_,?_,?_⟩
 ·simpa using A3
 ·intro r hr
  rw[F3]at hr;cases hr
  have:=h.grows.len;omega
 ·intro i k e hk he
  rcases Nat.lt_or_ge i al.length with hi|hi
  ·rw[List.getElem?_append_left hi]at hk
   rw[List.getElem?_append_left (by rw[←h.len];exact hi)]at he
   exact hkeep _ _ (h.at_ i k e hk he)
  ·rw[List.getElem?_append_right hi]at hk
   rw[List.getElem?_append_right (by rw[←h.len];exact hi)]at he
   have h0:i-al.length=0:=by
    have:=(List.getElem?_eq_some_iff.1 hk).1
    simp at this;omega
   rw[h0]at hk
   rw[←h.len,h0]at he
   simp only[List.getElem?_cons_zero,Option.some.injEq]at hk he
   subst hk he
   exact hR.get _ _ hg2
 ·rw[List.nodup_append]
  refine⟨h.nodup,by simp,?_⟩
  intro a ha b hb
  simp only[List.mem_singleton]at hb
  have:=(h.lt a ha).2
  omega
 ·intro k hk
  have:=R3.len
  rcases List.mem_append.1 hk with hk|hk
  ·have:=h.lt k hk;omega
  ·simp only[List.mem_singleton]at hk
   have:=h.grows.len;omega
def DeclsV(st0 st:St)(v:V)(ds:List Decl):Prop:=∃al,DeclsAt st0 st v al ds
theorem DeclsAt.weak{a b st:St}{v:V}{al:List Nat}{ds:List Decl}(g:Grows a b)(h:DeclsAt b st v al ds):DeclsAt a st v al ds:=
 ⟨h.acc,fun r hr=>Nat.le_trans g.len (h.ref r hr),g.trans h.grows,h.len,h.at_,h.nodup,fun k hk=>⟨Nat.le_trans g.len (h.lt k hk).1,(h.lt k hk).2⟩⟩
theorem aT_5(p:Prog)(f1 f2 f3:Bool)(n1 n2 n3:Option Bool)(h:p.size≤1048576)(st:St)(hb:st.base=0)(hp:st.prot=[]):Ret (fun v st'=>DeclsV st st' v (declsOf p)) ((run tb).call 37 [.agg [.list f1 n1 (p.structs.map Struct.v), .list f2 n2 (p.enums.map Enum.v), .list f3 n3 (p.funcs.map Fun.v)]] st):=by
 have hz:=h
 rw[j_6]at hz
 have l1:=r_4 p.structs
 have l2:=I_6 p.enums
 have hbx:=d_6 (l:=st.store) (a:=O.box [.list f1 n1 (p.structs.map Struct.v), .list f2 n2 (p.enums.map Enum.v), .list f3 n3 (p.funcs.map Fun.v)])
 rw[run37 (by simp)]
 simp[-List.getD_eq_getElem?_getD, -getElem?_pos]
 obtain⟨s0,hs0⟩:∃s0,s0=newBox st [.list f1 n1 (p.structs.map Struct.v), .list f2 n2 (p.enums.map Enum.v), .list f3 n3 (p.funcs.map Fun.v)]:=⟨_,rfl⟩
 have hg0:Grows st s0:=by rw[hs0];exact g_5 (Grows.refl _) _
 have hbx:s0.store[st.store.length]? =some (.box [.list f1 n1 (p.structs.map Struct.v), .list f2 n2 (p.enums.map Enum.v), .list f3 n3 (p.funcs.map Fun.v)]):=by rw[hs0];exact d_6
 rw[←hs0]
 have i1:s0.base=0:=hg0.base.trans hb
 have i2:s0.prot=[]:=hg0.prot.trans hp
 clear hs0
 refine Ret.loop (a_8 e37_8 w37_8 p.structs.length
  (I:=fun i f st'=>f 11= .int .i64 (i:Nat)∧DeclsV s0 st' (f 3) ((p.structs.take i).map Decl.ofS))
  (Q:=fun e f st'=>e= .exit 0∧DeclsV s0 st' (f 3) (p.structs.map Decl.ofS)) ?_ ?_ ?_) ?_
 ·refine⟨by simp,[],?_⟩
  simp only[List.take_zero,List.map_nil]
  exact⟨ah_5,(fun r hr=>by cases hr),Grows.refl _,rfl,(fun i k d hk=>by simp at hk),by simp,(fun k hk=>by simp at hk)⟩
 ·rintro i f st1 hi hk ⟨h11,al,hD⟩
  have hx:p.structs[i]? =some p.structs[i]:=List.getElem?_eq_getElem hi
  have htk:=List.take_succ_eq_append_getElem hi
  have ha:=add1 (i:=i) (by omega)
  have j1:st1.base=0:=hD.grows.base.trans i1
  have j2:st1.prot=[]:=hD.grows.prot.trans i2
  have g9:f 9= .list f1 n1 (p.structs.map Struct.v):=by simp[hk]
  have g10:f 10= .int .i64 (p.structs.length:Nat):=by simp[hk]
  clear hk
  rw[htk,List.map_append,List.map_singleton]
  generalize p.structs[i]=x at *
  obtain⟨v,hv⟩:∃v,f 3=v:=⟨_,rfl⟩
  rw[hv]at hD
  obtain⟨v3,st3,ap3,D3⟩:=hD.snoc (d:= .ofS x) (cs:=x.ks) j1 j2 (by rw[hD.len];simp;omega)
  have hD3:DeclsV s0 st3 v3 ((p.structs.take i).map Decl.ofS ++[.ofS x]):=⟨_,D3⟩
  simp only[Struct.ks,Decl.cs,Decl.ofS]at ap3
  clear D3 hD htk
  generalize(p.structs.take i).map Decl.ofS ++[Decl.ofS x]=ds at *
  simp[-List.getD_eq_getElem?_getD, -getElem?_pos,g9,g10,h11,hv,hx,hi,ha,j1,j2,ap3,Struct.v]
  refine Out.one ?_
  simp[*]
 ·rintro f st1 hk ⟨h11,hD⟩
  have g10:f 10= .int .i64 (p.structs.length:Nat):=by simp[hk]
  clear hk
  rw[List.take_length]at hD
  simp[-List.getD_eq_getElem?_getD, -getElem?_pos,g10,h11]
  refine Out.one ?_
  simp[*]
 ·rintro e f st1 ⟨⟨rfl,al,hD⟩,hk⟩
  have i3:st1.base=0:=hD.grows.base.trans i1
  have i4:st1.prot=[]:=hD.grows.prot.trans i2
  have j4:=hD.grows.at_ hbx
  obtain⟨v,hv⟩:∃v,f 3=v:=⟨_,rfl⟩
  rw[hv]at hD
  have hD0:DeclsV s0 st1 v (p.structs.map Decl.ofS ++(p.enums.take 0).map Decl.ofE):=⟨al,by simpa using hD⟩
  clear hD
  have g1:f 1= .ptr st.store.length 0:=by simp[hk]
  clear hk
  simp[-List.getD_eq_getElem?_getD, -getElem?_pos,g1,j4]
  refine Ret.loop (a_8 e37_25 w37_25 p.enums.length
   (I:=fun i f st'=>f 32= .int .i64 (i:Nat)∧DeclsV s0 st' (f 3) (p.structs.map Decl.ofS ++(p.enums.take i).map Decl.ofE))
   (Q:=fun e f st'=>e= .exit 2∧DeclsV s0 st' (f 3) (declsOf p)) ?_ ?_ ?_) ?_
  ·refine⟨by simp,?_⟩
   simp[hv]
   simpa using hD0
  ·rintro i f st1 hi hk ⟨h11,al,hD⟩
   have hx:p.enums[i]? =some p.enums[i]:=List.getElem?_eq_getElem hi
   have htk:=List.take_succ_eq_append_getElem hi
   have ha:=add1 (i:=i) (by omega)
   have j1:st1.base=0:=hD.grows.base.trans i1
   have j2:st1.prot=[]:=hD.grows.prot.trans i2
   have g9:f 30= .list f2 n2 (p.enums.map Enum.v):=by simp[hk]
   have g10:f 31= .int .i64 (p.enums.length:Nat):=by simp[hk]
   clear hk
   rw[htk,List.map_append,List.map_singleton,←List.append_assoc]
   generalize p.enums[i]=x at *
   obtain⟨v,hv⟩:∃v,f 3=v:=⟨_,rfl⟩
   rw[hv]at hD
   obtain⟨v3,st3,ap3,D3⟩:=hD.snoc (d:= .ofE x) (cs:=x.ks) j1 j2 (by rw[hD.len];simp;omega)
   have hD3:DeclsV s0 st3 v3 (p.structs.map Decl.ofS ++(p.enums.take i).map Decl.ofE ++[.ofE x]):=⟨_,D3⟩
   simp only[Enum.ks,Decl.cs,Decl.ofE]at ap3
   clear D3 hD htk
   generalize p.structs.map Decl.ofS ++(p.enums.take i).map Decl.ofE ++[Decl.ofE x]=ds at *
   simp[-List.getD_eq_getElem?_getD, -getElem?_pos,g9,g10,h11,hv,hx,hi,ha,j1,j2,ap3,Enum.v]
   refine Out.one ?_
   simp[*]
  ·rintro f st1 hk ⟨h11,hD⟩
   have g10:f 31= .int .i64 (p.enums.length:Nat):=by simp[hk]
   clear hk
   rw[List.take_length]at hD
   unfold declsOf
   simp[-List.getD_eq_getElem?_getD, -getElem?_pos,g10,h11]
   refine Out.one ?_
   simp[*]
  ·rintro e f st1 ⟨⟨rfl,al,hD⟩,hk⟩
   have hD2:DeclsV st st1 (f 3) (declsOf p):=⟨al,hD.weak hg0⟩
   simp[-List.getD_eq_getElem?_getD, -getElem?_pos]
   refine Ret.one ?_
   simp[*]
theorem bk_{S:Go.Abs.S}{l:Nat}{args:List V}{st:St}:evInvoke tb S (V.func (Fn.yield l) [] []) args st=evYield S l args st:=rfl
attribute [local simp] bk_
theorem aq_5(v:V)(hv:v.cells=[v])(hv2:v.oneCell=true)(st:St):(run tb).call 38 [v] st=some (.func (.func 102) [] [.ptr st.store.length 0],newBox st [v]):=by
 rw[run38 (by simp)]
 simp[-List.getD_eq_getElem?_getD, -getElem?_pos,hv,hv2]
theorem bm_{st st':St}{v:V}{al:List Nat}(h:Go.Abs.Acc 1 st v (al.map fun k=> .ptr k 0)):lenV tb 88 st' v=some (.int .i64 (al.length:Nat)):=by
 rcases h with⟨nl,rfl,h⟩|⟨r,acc,rfl,h,hne0⟩
 ·have:al=[]:=by simpa using h
  subst this
  simp
 ·simp
theorem aY_0(l kb:Nat)(v:V)(al:List Nat)(K:Nat→St→Prop)(hl:al.length<2^30)
  (hbox:∀i st,K i st→st.store[kb]? =some (.box [v])∧Go.Abs.Acc 1 st v (al.map fun k=> .ptr k 0))
  (hy:∀(i k:Nat) (st:St),al[i]? =some k→K (i+1) st→∃st',evYield (run tb) l [.int .i64 (i:Nat), .ptr k 0] st=some (.bool true,st')∧K i st') (st:St) (h:K al.length st):
  Ret (fun _ st'=>K 0 st') ((run tb).call 102 [.func (.yield l) [] [], .ptr kb 0] st):=by
 obtain⟨h1,hA0⟩:=hbox _ _ h
 have hlen:=fun st'=>bm_ (st':=st') hA0
 clear hA0
 have hs0:intBin .sub .i64 (al.length:Nat) 1=some (.int .i64 ((al.length:Int)-1)):=aY_3 (by omega) (by omega)
 rw[run102 (by simp)]
 simp[-List.getD_eq_getElem?_getD, -getElem?_pos,h1,hlen,hs0]
 refine Ret.loop (a_8 e102_3 w102_3 al.length
  (I:=fun j f st'=>∃i:Nat,i+j=al.length∧f 3= .int .i64 ((i:Int)-1)∧K i st')
  (Q:=fun e f st'=>e= .exit 0∧K 0 st') ?_ ?_ ?_) ?_
 ·exact⟨al.length,rfl,by simp,h⟩
 ·rintro j f st1 hj hk ⟨i,hi,h3,hK⟩
  obtain⟨i,rfl⟩:∃i',i=i'+1:=⟨i-1,by omega⟩
  have h3:f 3= .int .i64 (i:Nat):=by rw[h3];simp
  have hx:al[i]? =some al[i]:=List.getElem?_eq_getElem (by omega)
  generalize al[i]=k at *
  obtain⟨st2,hy2,hK2⟩:=hy i k st1 hx hK
  obtain⟨h1,hA⟩:=hbox _ _ hK
  have g0:f 0= .func (.yield l) [] []:=by simp[hk]
  have g1:f 1= .ptr kb 0:=by simp[hk]
  have hs1:intBin .sub .i64 (i:Nat) 1=some (.int .i64 ((i:Int)-1)):=aY_3 (by omega) (by omega)
  have hil:i<al.length:=by omega
  have hfin:∃i2:Nat,i2+(j+1)=al.length∧(i:Int)-1=(i2:Int)-1∧K i2 st2:=⟨i,by omega,rfl,hK2⟩
  clear hk
  rcases hA with⟨nl,rfl,hA⟩|⟨r,acc,rfl,hA,hne0⟩
  ·have:al=[]:=by simpa using hA
   subst this;simp at hil
  ·rw[List.length_map]at *
   simp[-List.getD_eq_getElem?_getD, -getElem?_pos,g0,g1,h1,hA,h3,hx,hil,hy2,hs1]
   repeat' (first|refine a_0 ?_ ?_|refine Out.branch ?_ ?_|refine Ret.branch ?_ ?_)<;>(intro hb;(try(simp only[NB]at hb));simp[-List.getD_eq_getElem?_getD, -getElem?_pos,g0,g1,h1,hA,h3,hx,hil,hy2,hs1,hb])
   all_goals try refine Out.one ?_
   all_goals try refine Ret.one ?_
   all_goals try(simp[-List.getD_eq_getElem?_getD,g0,g1,h1,hA,h3,hx,hil,hy2,hs1, *];done)
   all_goals try simp[-List.getD_eq_getElem?_getD,g0,g1,h1,hA,h3,hx,hil,hy2,hs1]
   all_goals try(intros;omega)
   exact⟨i,by omega,rfl,hK2⟩
 ·rintro f st1 hk ⟨i,hi,h3,hK⟩
  have:i=0:=by omega
  subst this
  simp[-List.getD_eq_getElem?_getD, -getElem?_pos,h3,hK]
  repeat' (first|refine a_0 ?_ ?_|refine Out.branch ?_ ?_|refine Ret.branch ?_ ?_)<;>(intro hb;(try(simp only[NB]at hb));simp[-List.getD_eq_getElem?_getD, -getElem?_pos,h3,hK,hb])
  all_goals try refine Out.one ?_
  all_goals try refine Ret.one ?_
  all_goals try(simp[-List.getD_eq_getElem?_getD,h3,hK, *];done)
  all_goals try simp[-List.getD_eq_getElem?_getD,h3,hK]
  all_goals try(intros;omega)
 ·rintro e f st1 ⟨⟨rfl,hK⟩,hk⟩
  simp[-List.getD_eq_getElem?_getD, -getElem?_pos,hK]
  repeat' (first|refine a_0 ?_ ?_|refine Out.branch ?_ ?_|refine Ret.branch ?_ ?_)<;>(intro hb;(try(simp only[NB]at hb));simp[-List.getD_eq_getElem?_getD, -getElem?_pos,hK,hb])
  all_goals try refine Out.one ?_
  all_goals try refine Ret.one ?_
  all_goals try(simp[-List.getD_eq_getElem?_getD,hK, *];done)
  all_goals try simp[-List.getD_eq_getElem?_getD,hK]
  all_goals try(intros;omega)
attribute [local simp] bk_
theorem ba_2{s:List O}{l m:Nat}{b X o:O}(hne:l≠m)(h:s[l]? =some o):((s.set l b).set m X).set l o=s.set m X:=by
 rw[List.set_comm _ _ hne,List.set_set]
 exact aK_7 (by rw[List.getElem?_set_ne (Ne.symm hne)];exact h)
noncomputable def fillLp(F:Nat→V)(ds:Nat):L:=V_0 (mk 66 F []).tmps #[25,26] (.region 6 o14_19 false) c14_20 ds
def ptrs(D:List (Str×Nat)):O:= .map (entsM (fun i=>V.ptr i 0) D)
theorem aD_7(F:Nat→V)(ds l r m b5 i k:Nat)(l1 l2 l3:V)(D:List (Str×Nat))(d:Decl)(st:St)(hb:st.base=0)(hp:st.prot=[])(hlp:st.store[l]? =some (.loop (fillLp F ds)))(h5:F 5= .ptr b5 0)(hb5:st.store[b5]? =some (.box [.ptr r 0]))
  (hr:st.store[r]? =some (.box [l1,l2,l3, .map m])) (hm:st.store[m]? =some (ptrs D)) (hk:st.store[k]? =some (.box d.cs)):
  evYield (run tb) l [.int .i64 (i:Nat), .ptr k 0] st=some (.bool true,setO st m (ptrs (putM D d.name k))):=by
 have hlm:l≠m:=by intro e;subst e;rw[hlp]at hm;cases hm
 have hlk:∀j,st.locked j=false:=fun j=>by simp[St.locked,hb,hp]
 have hu:∀st:St,updM st m (some (.map (entsM (fun i=>V.ptr i 0) D))) (.str d.name) (.ptr k 0)=some (setO st m (.map (entsM (fun i=>V.ptr i 0) (putM D d.name k)))):=fun st=>aA_2 (fun i=>V.ptr i 0) D d.name k st m
 have key:∀(x:Nat) (cs:List V) (o:O),st.store[x]? =some (.box cs)→(st.store.set l o)[x]? =some (.box cs):=fun x cs o h=>by
  rw[List.getElem?_set_ne (by intro e;subst e;rw[hlp]at h;cases h)];exact h
 unfold fillLp at hlp
 rw[aO_4 (fr1:=mk 66 (upd (upd (upd F 25 (.int .i64 (i:Nat))) 26 (.ptr k 0)) 7 (.ptr k 0)) []) (hlk l) (aw_0 hlp) rfl rfl]
 ·obtain⟨bz,hbz⟩:∃bz,bz=O.loop {(V_0 (mk 66 F []).tmps #[25,26] (.region 6 o14_19 false) c14_20 ds)with state:= .busy}:=⟨_,rfl⟩
  show yieldEnd l ((run tb).code (some l) c14_20 _ (setO st l (O.loop {(V_0 (mk 66 F []).tmps #[25,26] (.region 6 o14_19 false) c14_20 ds)with state:= .busy})))=_
  rw[←hbz]
  have g5:=key b5 _ bz hb5
  have gr:=key r _ bz hr
  have gk:=key k _ bz hk
  have gm:(st.store.set l bz)[m]? =some (ptrs D):=by rw[List.getElem?_set_ne hlm];exact hm
  have hl2:(setO st l bz).locked m=false:=by simp[St.locked,setO,hb,hp]
  unfold ptrs at *
  unfold Decl.cs at gk
  generalize putM D d.name k=D2 at *
  simp[-List.getD_eq_getElem?_getD, -getElem?_pos,h5,g5,gr,gk,gm,hu,hp,hb,Nat.testBit]
  rw[bd_1 (lp:={(V_0 (mk 66 F []).tmps #[25,26] (.region 6 o14_19 false) c14_20 ds)with state:= .busy})]
  ·simp only[roundEnd]
   subst hbz
   exact congrArg (fun z=>some (V.bool true,({store:=z,base:=st.base,prot:=st.prot}:St))) (ba_2 hlm hlp)
  ·subst hbz
   show((st.store.set l _).set m _)[l]? =_
   rw[List.getElem?_set_ne (Ne.symm hlm),List.getElem?_set_self (U_7 hlp)]
 ·show(run tb).code (some l) (.region 6 o14_19 false) {tmps:=setParams [25,26] _ (mk 66 F []).tmps,marks:=[]} st=_
  rw[aS_6]
  simp[-List.getD_eq_getElem?_getD, -getElem?_pos,updAll]
theorem al_8(D:List (Str×Bool))(k:Str):lookM (some (.map (entsM V.bool D))) (.bool false) (.str k) false=some (.bool ((getM D k).getD false)):=by
 rw[aq_9];cases getM D k<;>rfl
structure Nm(st a:St)(ms:Nat)(ns:List Str):Prop where
 base:a.base=st.store.length
 prot:a.prot=[]
 len:st.store.length≤a.store.length
 get:∀(i:Nat) (o:O),st.store[i]? =some o→a.store[i]? =some o
 seen:∃S:List (Str×Bool),a.store[ms]? =some (.map (entsM V.bool S))∧∀n,(getM S n).getD false=ns.contains n
theorem Nm.rest{st a b:St}{ms:Nat}{ns:List Str}{v:V}{es:List V}(h:Nm st a ms ns)(hA:AccT 2 a v es)(hr:∀r,refOf v=some r→st.store.length≤r)(hR:Go.Abs.Rest (refOf v) a b):Nm st b ms ns:=by
 obtain⟨S,h1,h2⟩:=h.seen
 refine⟨hR.base.trans h.base,hR.prot.trans h.prot,Nat.le_trans h.len hR.len,fun i o hi=>hR.get i o (h.get i o hi) ?_,S,hR.get _ _ h1 ?_,h2⟩
 ·intro e
  have:=hr i e
  have:=(List.getElem?_eq_some_iff.1 hi).1
  omega
 ·intro e
  rcases hA with⟨nl,rfl, -⟩|⟨r, -,rfl,h3⟩
  ·cases e
  ·cases e;rw[h3]at h1;cases h1
theorem Nm.box{st a:St}{ms:Nat}{ns:List Str}(h:Nm st a ms ns)(cs:List V):Nm st (newBox a cs) ms ns:=by
 obtain⟨S,h1,h2⟩:=h.seen
 exact⟨h.base,h.prot,Nat.le_trans h.len (by simp[newBox]),fun i o hi=>a_2 (h.get i o hi),S,a_2 h1,h2⟩
theorem Nm.free{st a:St}{ms:Nat}{ns:List Str}{r:Nat}(h:Nm st a ms ns)(hr:st.store.length≤r):a.locked r=false:=by
 simp[St.locked,h.base,h.prot];omega
def Var.ks2(x:Var):List V:=[.str x.name, .str x.type]
theorem Y_0(p:Prog)(D:List (Str×Nat))(hkn:∀t,knownM D t=known p t)(st:St)(r m ms k:Nat)(l1 l2 l3:V)(d:Decl)(ns:List Str)(f0:Nat→V)(st1:St)(v0:V)(es0:List V)
  (h1:st.store[r]? =some (.box [l1,l2,l3, .map m])) (h2:st.store[m]? =some (ptrs D)) (h3:st.store[k]? =some (.box d.cs)) (hsz:V.bulks (d.parts.map Var.v)≤1048576)
  (g0:f0 0= .ptr r 0) (g8:f0 8= .ptr k 0) (g40:f0 40= .list false d.nl (d.parts.map Var.v)) (g41:f0 41= .int .i64 (d.parts.length:Nat)) (g42:f0 42= .int .i64 0) (g5:f0 5=v0)
  (hN:Nm st st1 ms ns) (hA:AccT 2 st1 v0 es0) (hr0:∀r,refOf v0=some r→st.store.length≤r) (hes0:es0.length≤2^28):
  Out 85 [] (fun e f' st'=>(e= .exit 2∧∃v,f' 5=v∧AccT 2 st' v (es0 ++(dgVars p d.parts d.at_).map Dg.v)∧(Nm st st' ms ns∧∀r,refOf v=some r→st.store.length≤r))∧∀t,t<85→List.contains [43,44,45,46,10,9,47,48,49,50,51,52,53,54,55,56,57,58,59,60,61,62,63,5,64,65,66,67,68,69,70,71,72,73,74,75,76,77,78,79,80,81,5,82,42] t=false→f' t=f0 t) ((run tb).code none c39_32 (mk 85 f0 []) st1):=by
 have hll:=b_8 d.parts
 have hzl:d.parts.zipIdx.length=d.parts.length:=List.length_zipIdx
 have hfl:(d.parts.zipIdx.flatMap fun x=>(dgVar p d.parts d.at_ x).map Dg.v)=(dgVars p d.parts d.at_).map Dg.v:=by rw[dgVars,List.map_flatMap]
 rw[←hfl]
 refine bd_4 e39_32 w39_32 d.parts.zipIdx (fun x=>(dgVar p d.parts d.at_ x).map Dg.v) 2 42 5 2 (v0:=v0) (es0:=es0) (fun v st'=>Nm st st' ms ns∧∀r,refOf v=some r→st.store.length≤r) g42 g5 hA ⟨hN,hr0⟩ ?_ ?_ (by omega)
 ·rintro i x f st1 v es hi hx hm hk h42 h5 hA hes ha ⟨hN,hr⟩
  rw[hzl]at hi
  rw[List.getElem?_zipIdx]at hx
  have hx0:d.parts[i]? =some d.parts[i]:=List.getElem?_eq_getElem hi
  rw[hx0]at hx
  simp only[Option.map_some,Option.some.injEq,Nat.zero_add]at hx
  subst hx
  have hy:=List.getElem_mem hi
  generalize d.parts[i]=y at *
  have hym:=B_1 hy
  rw[w_0]at hym
  have hF:=fun fl nl=>aj_4 fl nl d.parts y.name (by omega)
  have j1:st1.base=st.store.length:=hN.base
  have j2:st1.prot=[]:=hN.prot
  have k4:¬st1.store.length<st.store.length:=by have:=hN.len;omega
  have k1:=hN.get _ _ h1
  have k2:=hN.get _ _ h2
  have k3:=hN.get _ _ h3
  have g0':f 0= .ptr r 0:=by simp[hk,g0]
  have g8':f 8= .ptr k 0:=by simp[hk,g8]
  have g40':f 40= .list false d.nl (d.parts.map Var.v):=by simp[hk,g40]
  have g41':f 41= .int .i64 (d.parts.length:Nat):=by simp[hk,g41]
  clear hk
  have hel:es.length≤2^28+2 * 1048576:=by
   rw[hes]
   have:=k_9 (fun x=>(dgVar p d.parts d.at_ x).map Dg.v) d.parts.zipIdx i
   have h2:=ah_8 (fun x=>(dgVar p d.parts d.at_ x).map Dg.v) (fun x=>by simpa using am_5 p d.parts d.at_ x) d.parts.zipIdx
   simp only[List.length_append];omega
  clear hes
  have hD:(dgVar p d.parts d.at_ (y,i)).map Dg.v=(if idxI (fun z:Var=>z.name==y.name) d.parts<(i:Int)then [V.agg [.int .i64 d.at_, .int .i64 4]]else []) ++(if y.type≠[]∧known p y.type=false then [V.agg [.int .i64 d.at_, .int .i64 5]]else []):=by
   unfold dgVar;simp only;split<;>split<;>rfl
  rw[hD]
  clear hD
  have hNb:=hN.box y.ks2
  have hAb:=hA.box y.ks2
  obtain⟨sb,hsb⟩:∃sb,sb=newBox st1 y.ks2:=⟨_,rfl⟩
  have hgb:sb.store[st1.store.length]? =some (.box y.ks2):=by rw[hsb];exact d_6
  rw[←hsb]at hNb hAb
  have hK:=L_1 r m l1 l2 l3 D y.type (by omega)
  rw[hkn]at hK
  generalize hF0:idxI (fun z:Var=>z.name==y.name) d.parts=q at *
  generalize hk0:known p y.type=kn at *
  have hset:∀zs:List V,setO (newBox st1 zs) st1.store.length (.box y.ks2)=sb:=fun zs=>by rw[hsb];exact l_8
  have hlb:st1.store.length+1=sb.store.length:=by rw[hsb];simp[newBox]
  clear hsb
  have key:∃v2 st2,(if q<(i:Int)then appV 2 16 sb (spreadB (.list true (some false) [.agg [.int .i64 d.at_, .int .i64 4]])) v (.list true (some false) [.agg [.int .i64 d.at_, .int .i64 4]])=some (v2,st2)else v2=v∧st2=sb)∧AccT 2 st2 v2 (es ++if q<(i:Int)then [V.agg [.int .i64 d.at_, .int .i64 4]]else [])∧Nm st st2 ms ns∧(∀r,refOf v2=some r→st.store.length≤r)∧st2.store[st1.store.length]? =some (.box y.ks2):=by
   by_cases c1:q<(i:Int)
   ·obtain⟨v3,st3,ap3,A3,R3,r3,F3,F4⟩:=hAb.app (bytes:=16) (y:= .list true (some false) [.agg [.int .i64 d.at_, .int .i64 4]]) (fun r0 h0=>hNb.free (hr r0 h0)) rfl (by simp) (by simp[V.cells,V.oneCell]) (by decide) (by decide) (by simp;omega)
    exact⟨v3,st3,by rw[if_pos c1];exact ap3,by rw[if_pos c1];exact A3,hNb.rest hAb hr R3,fun r0 h0=>by rw[F3]at h0;cases h0;have:=hNb.len;omega,(hAb.boxes R3).get _ _ hgb⟩
   ·exact⟨v,sb,by rw[if_neg c1];exact⟨rfl,rfl⟩,by rw[if_neg c1,List.append_nil];exact hAb,hNb,hr,hgb⟩
  obtain⟨v2,st2,hv2,A2,N2,r2,b2⟩:=key
  have i1:st2.base=st.store.length:=N2.base
  have i2:st2.prot=[]:=N2.prot
  have m1:=N2.get _ _ h1
  have m2:=N2.get _ _ h2
  have m3:=N2.get _ _ h3
  have n1:=hNb.base
  have n2:=hNb.prot
  have n3:=hNb.get _ _ h3
  have hel2:(es ++if q<(i:Int)then [V.agg [.int .i64 d.at_, .int .i64 4]]else []).length≤2^28+2 * 1048576+1:=by
   rw[List.length_append];split<;>simp<;>omega
  rw[←List.append_assoc]
  generalize(es ++if q<(i:Int)then [V.agg [.int .i64 d.at_, .int .i64 4]]else [])=es2 at *
  obtain⟨v4,st4,ap4,A4,R4,r4,F4,F5⟩:=A2.app (bytes:=16) (y:= .list true (some false) [.agg [.int .i64 d.at_, .int .i64 5]]) (fun r0 h0=>N2.free (r2 r0 h0)) rfl (by simp) (by simp[V.cells,V.oneCell]) (by decide) (by decide) (by simp;omega)
  have ap4':appV 2 16 st2 (spreadB (.list true (some false) [.agg [.int .i64 d.at_, .int .i64 5]])) v2 (.list true (some false) [.agg [.int .i64 d.at_, .int .i64 5]])=some (v4,st4):=ap4
  have N4:=N2.rest A2 r2 R4
  have hr4:∀r,refOf v4=some r→st.store.length≤r:=fun r0 h0=>by rw[F4]at h0;cases h0;have:=N2.len;omega
  have hK2:=hK st2 m1 m2
  clear F4 R4 ap4 hN hA hAb h1 h2 h3
  unfold Decl.cs at k3 m3 n3
  unfold Var.ks2 at hset hgb b2
  by_cases c2:y.type≠[]∧kn=false
  ·rw[if_pos c2]
   obtain⟨c2,c3⟩:=c2
   have c2':(y.type==[])=false:=by simpa using c2
   by_cases c1:q<(i:Int)
   ·rw[if_pos c1]at hv2
    simp[-List.getD_eq_getElem?_getD, -getElem?_pos,g0',g8',g40',g41',h42,h5,hi,hx0,ha,hF,hK2,j1,j2,k4,n2,n3,m3,hset,hgb,b2,hv2,ap4',c1,c2',c3,Nat.testBit,Var.v]
    refine Out.one ?_
    simp[*]
    exact hr4
   ·rw[if_neg c1]at hv2
    obtain⟨rfl,rfl⟩:=hv2
    simp[-List.getD_eq_getElem?_getD, -getElem?_pos,g0',g8',g40',g41',h42,h5,hi,hx0,ha,hF,hK2,j1,j2,k4,n2,n3,hset,hgb,ap4',c1,c2',c3,Nat.testBit,Var.v]
    refine Out.one ?_
    simp[*]
    exact hr4
  ·rw[if_neg c2,List.append_nil]
   by_cases c2':y.type=[]
   ·have c2'':(y.type==[])=true:=by simpa using c2'
    simp only[c2']at hset hgb b2
    by_cases c1:q<(i:Int)
    ·rw[if_pos c1]at hv2
     simp[-List.getD_eq_getElem?_getD, -getElem?_pos,g8',g40',g41',h42,h5,hi,hx0,ha,hF,j1,j2,k4,n2,n3,hset,hgb,b2,hv2,c1,c2',Nat.testBit,Var.v]
     refine Out.one ?_
     simp[*]
     exact r2
    ·rw[if_neg c1]at hv2
     obtain⟨rfl,rfl⟩:=hv2
     simp[-List.getD_eq_getElem?_getD, -getElem?_pos,g8',g40',g41',h42,hi,hx0,ha,hF,j1,j2,k4,n2,n3,hset,hgb,c1,c2',Nat.testBit,Var.v]
     refine Out.one ?_
     simp[*]
     exact r2
   ·have c2'':(y.type==[])=false:=by simpa using c2'
    have c3:kn=true:=by
     cases hkn:kn with
     |true=>rfl
     |false=>exact absurd ⟨c2',hkn⟩ c2
    by_cases c1:q<(i:Int)
    ·rw[if_pos c1]at hv2
     simp[-List.getD_eq_getElem?_getD, -getElem?_pos,g0',g8',g40',g41',h42,h5,hi,hx0,ha,hF,hK2,j1,j2,k4,n2,n3,hset,hgb,b2,hv2,c1,c2'',c3,Nat.testBit,Var.v]
     refine Out.one ?_
     simp[*]
     exact r2
    ·rw[if_neg c1]at hv2
     obtain⟨rfl,rfl⟩:=hv2
     simp[-List.getD_eq_getElem?_getD, -getElem?_pos,g0',g8',g40',g41',h42,hi,hx0,ha,hF,hK2,j1,j2,k4,n2,n3,hset,hgb,c1,c2'',c3,Nat.testBit,Var.v]
     refine Out.one ?_
     simp[*]
     exact r2
 ·rintro f st1 v hk h42 h5 ⟨hN,hr⟩
  rw[hzl]at h42
  have g41':f 41= .int .i64 (d.parts.length:Nat):=by simp[hk,g41]
  clear hk
  simp[-List.getD_eq_getElem?_getD, -getElem?_pos,g41',h42]
  refine Out.one ?_
  simp[*]
def N_7(p:Prog)(ds:List Decl)(x:Decl×Nat):List Dg:=(if idxI (fun y:Decl=>y.name==x.1.name) ds<(x.2:Int)then [⟨x.1.at_,4⟩]else []) ++dgVars p x.1.parts x.1.at_
def dg1(p:Prog)(ds:List Decl):List Dg:=ds.zipIdx.flatMap (N_7 p ds)
theorem ae_6(n:Str):∀(ds:List Decl) (i:Nat) (d:Decl),ds[i]? =some d→d.name=n→((ds.take i).map Decl.name).contains n=decide (idxI (fun y:Decl=>y.name==n) ds<(i:Int))
 |[],i,d,h,_=>by simp at h
 |x::ds,0,d,h,hn=>by
  have:0≤idxI (fun y:Decl=>y.name==n) (x::ds):=by
   simp only[List.getElem?_cons_zero,Option.some.injEq]at h
   subst h
   unfold idxI
   rw[if_pos (by simp[hn])]
   simp
  simp[this]
 |x::ds,i+1,d,h,hn=>by
  simp only[List.getElem?_cons_succ]at h
  have ih:=ae_6 n ds i d h hn
  have hm:d∈ds:=List.mem_of_getElem? h
  have ha:ds.any (fun y:Decl=>y.name==n)=true:=List.any_eq_true.2 ⟨d,hm,by simpa using hn⟩
  have ha2:(x::ds).any (fun y:Decl=>y.name==n)=true:=by rw[List.any_cons,ha,Bool.or_true]
  rw[List.take_succ_cons,List.map_cons,List.contains_cons,ih]
  unfold idxI
  rw[if_pos ha,if_pos ha2]
  have h3:idx (fun y:Decl=>y.name==n) (x::ds)=if x.name=n then 0 else idx (fun y:Decl=>y.name==n) ds+1:=by simp[idx]
  rw[h3]
  by_cases hx:x.name=n
  ·have:(n==x.name)=true:=by simp[hx]
   rw[if_pos hx,this]
   simp
  ·have:(n==x.name)=false:=by simpa using fun e=>hx e.symm
   rw[if_neg hx,this,Bool.false_or,decide_eq_decide]
   omega
theorem Nm.put{st a:St}{ms:Nat}{ns:List Str}{S:List (Str×Bool)}{n:Str}(h:Nm st a ms ns)(hms:st.store.length≤ms)(h1:a.store[ms]? =some (.map (entsM V.bool S)))(h2:∀n,(getM S n).getD false=ns.contains n):Nm st (setO a ms (.map (entsM V.bool (putM S n true)))) ms (ns ++[n]):=by
 refine⟨h.base,h.prot,by simp[setO];exact h.len,fun i o hi=> ?_,putM S n true,?_,fun k=> ?_⟩
 ·show(a.store.set ms _)[i]? =_
  rw[List.getElem?_set_ne (by have:=(List.getElem?_eq_some_iff.1 hi).1;omega)]
  exact h.get i o hi
 ·show(a.store.set ms _)[ms]? =_
  rw[List.getElem?_set_self (List.getElem?_eq_some_iff.1 h1).1]
 ·rw[aS_3]
  have:=h2 k
  rw[Bool.eq_iff_iff]at this⊢
  by_cases hk:k=n
  ·subst hk;simp
  ·have:(k==n)=false:=by simpa using hk
   simp[this,hk,h2 k]
theorem aZ_7{s:Nat}{a:St}{v:V}{es:List V}{ms:Nat}{o:O}{x:List (V×V)}(h:AccT s a v es)(h1:a.store[ms]? =some (.map x)):AccT s (setO a ms o) v es:=by
 rcases h with h|⟨r,h2,rfl,h3⟩
 ·exact .inl h
 ·refine .inr ⟨r,h2,rfl,?_⟩
  show(a.store.set ms _)[r]? =_
  rw[List.getElem?_set_ne (by intro e;subst e;rw[h1]at h3;cases h3)];exact h3
theorem aS_5{α β:Type}{h:α→List β}(k:Nat):∀xs:List α,(∀x∈xs,(h x).length≤k)→(xs.flatMap h).length≤k * xs.length
 |[],_=>by simp
 |x::xs,hh=>by
  have h1:=aS_5 k xs fun y hy=>hh y (by simp[hy])
  have h2:=hh x (by simp)
  rw[List.flatMap_cons,List.length_append,List.length_cons,Nat.mul_succ];omega
def IsLb(l:List V)(v:V):Prop:=∃b nl,v= .list b nl l∧(l=[]→b=true)
theorem aP_7(p:Prog)(D:List (Str×Nat))(hkn:∀t,knownM D t=known p t)(st:St)(hp:st.prot=[])(r m:Nat)(l1 l2 l3:V)(h1:st.store[r]? =some (.box [l1,l2,l3, .map m]))(h2:st.store[m]? =some (ptrs D))
  (lv:V) (al:List Nat) (ds:List Decl) (hA:AccT 1 st lv (al.map fun k=> .ptr k 0)) (hlen:al.length=ds.length) (hat:∀(i k:Nat) (d:Decl),al[i]? =some k→ds[i]? =some d→st.store[k]? =some (.box d.cs)) (hsz:∀d∈ds,V.bulks (d.parts.map Var.v)≤1048576) (hn:ds.length≤64):
  Ret (fun v st'=>st'=st∧IsLb ((dg1 p ds).map Dg.v) v) ((run tb).call 39 [.ptr r 0,lv] st):=by
 have hfz:=hA.frz (g:=id) (by
  intro x hx
  obtain⟨k, -,rfl⟩:=List.mem_map.1 hx
  rfl)
 rw[List.map_id]at hfz
 have hal:al.length=ds.length:=hlen
 rw[run39 (by simp)]
 simp[-List.getD_eq_getElem?_getD, -getElem?_pos,hfz]
 have hN1:Nm st (addO (roSt st) (.map [])) st.store.length []:=⟨rfl,hp,by simp[addO,roSt],fun i o hi=>a_2 hi,[],by simp[addO,roSt,entsM],fun n=>by simp[getM]⟩
 obtain⟨s1,hs1⟩:∃s1,s1=addO (roSt st) (.map []):=⟨_,rfl⟩
 rw[←hs1]at hN1
 rw[←hs1]
 clear hs1
 have hzl:ds.zipIdx.length=ds.length:=List.length_zipIdx
 refine Ret.loop (a_8 e39_10 w39_10 ds.length
  (I:=fun i f st'=>f 14= .int .i64 (i:Nat)∧AccT 2 st' (f 5) (((ds.zipIdx.take i).flatMap (N_7 p ds)).map Dg.v)∧(∀r,refOf (f 5)=some r→st.store.length≤r)∧Nm st st' st.store.length ((ds.take i).map Decl.name))
  (Q:=fun e f st'=>e= .exit 0∧AccT 2 st' (f 5) ((dg1 p ds).map Dg.v)) ?_ ?_ ?_) ?_
 ·refine⟨by simp,?_,?_,by simpa using hN1⟩
  ·simp;exact ah_5
  ·simp[refOf]
 ·rintro i f st1 hi hk ⟨h14,hA2,hr2,hN⟩
  have hd:ds[i]? =some ds[i]:=List.getElem?_eq_getElem hi
  have hdm:=List.getElem_mem hi
  have htk:ds.zipIdx.take (i+1)=ds.zipIdx.take i ++[(ds[i],i)]:=by
   rw[List.take_succ_eq_append_getElem (by omega)];simp
  have htk2:=List.take_succ_eq_append_getElem hi
  have hil:i<al.length:=by omega
  have hx:al[i]? =some al[i]:=List.getElem?_eq_getElem hil
  have hdk:=hat i _ _ hx hd
  have hseen:=ae_6 ds[i].name ds i _ hd rfl
  rw[htk,htk2]
  generalize ds[i]=d at *
  generalize al[i]=k at *
  have hsd:=hsz d hdm
  have ha:=add1 (i:=i) (by omega)
  obtain⟨v,hv⟩:∃v,f 5=v:=⟨_,rfl⟩
  rw[hv]at hA2 hr2
  have g0:f 0= .ptr r 0:=by simp[hk]
  have g6:f 6= .map st.store.length:=by simp[hk]
  have g12:f 12= .list false none (al.map fun k=> .ptr k 0):=by simp[hk]
  have g13:f 13= .int .i64 (al.length:Nat):=by simp[hk]
  clear hk htk htk2
  obtain⟨S,hS1,hS2⟩:=hN.seen
  have hlk:=al_8 S d.name
  rw[hS2,hseen]at hlk
  have j1:st1.base=st.store.length:=hN.base
  have j2:st1.prot=[]:=hN.prot
  have k3:=hN.get _ _ hdk
  rw[List.flatMap_append,List.map_append,List.map_append]
  have hone:([(d,i)].flatMap (N_7 p ds)).map Dg.v=(if idxI (fun y:Decl=>y.name==d.name) ds<(i:Int)then [V.agg [.int .i64 d.at_, .int .i64 4]]else []) ++(dgVars p d.parts d.at_).map Dg.v:=by
   simp only[List.flatMap_cons,List.flatMap_nil,List.append_nil,N_7,List.map_append]
   split<;>rfl
  rw[hone,←List.append_assoc]
  have hl0:((ds.zipIdx.take i).flatMap (N_7 p ds)).map Dg.v=((ds.zipIdx.take i).flatMap fun x=>(N_7 p ds x).map Dg.v):=by rw[List.map_flatMap]
  have hel:(((ds.zipIdx.take i).flatMap (N_7 p ds)).map Dg.v).length≤2^27+64:=by
   rw[List.length_map]
   have h3:=k_9 (N_7 p ds) ds.zipIdx i
   have h4:=aS_5 (h:=N_7 p ds) 2097153 ds.zipIdx (fun x hx=>by
    have hx2:x.1∈ds:=by
     have:=List.mem_zipIdx hx
     rw[this.2.2];exact List.getElem_mem _
    have h5:=hsz x.1 hx2
    have h6:=ah_8 (dgVar p x.1.parts x.1.at_) (am_5 p x.1.parts x.1.at_) x.1.parts.zipIdx
    have h7:=b_8 x.1.parts
    rw[List.length_zipIdx]at h6
    unfold N_7 dgVars
    rw[List.length_append]
    have h8:(if idxI (fun y:Decl=>y.name==x.1.name) ds<(x.2:Int)then [(⟨x.1.at_,4⟩:Dg)]else []).length≤1:=by split<;>simp
    omega)
   omega
  generalize((ds.zipIdx.take i).flatMap (N_7 p ds)).map Dg.v=es at *
  generalize hc0:idxI (fun y:Decl=>y.name==d.name) ds=q at *
  have key:∃v2 st2,(if q<(i:Int)then appV 2 16 st1 (spreadB (.list true (some false) [.agg [.int .i64 d.at_, .int .i64 4]])) v (.list true (some false) [.agg [.int .i64 d.at_, .int .i64 4]])=some (v2,st2)else v2=v∧st2=st1)∧AccT 2 st2 v2 (es ++if q<(i:Int)then [V.agg [.int .i64 d.at_, .int .i64 4]]else [])∧Nm st st2 st.store.length ((ds.take i).map Decl.name)∧(∀r,refOf v2=some r→st.store.length≤r):=by
   by_cases c1:q<(i:Int)
   ·obtain⟨v3,st3,ap3,A3,R3,r3,F3,F4⟩:=hA2.app (bytes:=16) (y:= .list true (some false) [.agg [.int .i64 d.at_, .int .i64 4]]) (fun r0 h0=>hN.free (hr2 r0 h0)) rfl (by simp) (by simp[V.cells,V.oneCell]) (by decide) (by decide) (by simp;omega)
    exact⟨v3,st3,by rw[if_pos c1];exact ap3,by rw[if_pos c1];exact A3,hN.rest hA2 hr2 R3,fun r0 h0=>by rw[F3]at h0;cases h0;have:=hN.len;omega⟩
   ·exact⟨v,st1,by rw[if_neg c1];exact⟨rfl,rfl⟩,by rw[if_neg c1,List.append_nil];exact hA2,hN,hr2⟩
  obtain⟨v2,st2,hv2,A2,N2,r2⟩:=key
  obtain⟨S2,hT1,hT2⟩:=N2.seen
  have N3:=N2.put (n:=d.name) (Nat.le_refl _) hT1 hT2
  have A3:=aZ_7 (o:= .map (entsM V.bool (putM S2 d.name true))) A2 hT1
  have i1:st2.base=st.store.length:=N2.base
  have i2:st2.prot=[]:=N2.prot
  have m3:=N2.get _ _ hdk
  have m4:=N3.get _ _ hdk
  have hel2:(es ++if q<(i:Int)then [V.agg [.int .i64 d.at_, .int .i64 4]]else []).length≤2^28:=by
   rw[List.length_append];split<;>simp<;>omega
  generalize(es ++if q<(i:Int)then [V.agg [.int .i64 d.at_, .int .i64 4]]else [])=es2 at *
  obtain⟨s3,hs3⟩:∃s3,s3=setO st2 st.store.length (.map (entsM V.bool (putM S2 d.name true))):=⟨_,rfl⟩
  rw[←hs3]at N3 A3 m4
  have hu2:updM st2 st.store.length (some (.map (entsM V.bool S2))) (.str d.name) (.bool true)=some s3:=by rw[hs3];exact aA_2 V.bool S2 d.name true st2 _
  clear hs3
  have i3:s3.base=st.store.length:=N3.base
  have i4:s3.prot=[]:=N3.prot
  unfold Decl.cs at k3 m3 m4
  by_cases c1:q<(i:Int)
  ·rw[if_pos c1]at hv2
   have c1':decide (q<(i:Int))=true:=by simpa using c1
   rw[c1']at hlk
   simp[-List.getD_eq_getElem?_getD, -getElem?_pos,g6,g12,g13,h14,hv,hx,hil,hlk,hS1,hT1,k3,i1,i2,m3,hv2,hu2,m4]
   refine Out.loop (Y_0 p D hkn st r m st.store.length k l1 l2 l3 d ((ds.take i).map Decl.name ++[d.name]) _ s3 v2 es2 h1 h2 hdk hsd (by simp[g0]) (by simp) (by simp) (by simp) (by simp) (by simp) N3 A3 r2 hel2) ?_
   rintro e f2 st4 ⟨⟨rfl,v4,q5,A4,N4,r4⟩,hk2⟩
   have q14:f2 14= .int .i64 (i:Nat):=by simp[hk2,h14]
   clear hk2
   rw[List.map_take]at N4
   simp[-List.getD_eq_getElem?_getD, -getElem?_pos,q14,ha]
   repeat' (first|refine a_0 ?_ ?_|refine Out.branch ?_ ?_|refine Ret.branch ?_ ?_)<;>(intro hb;(try(simp only[NB]at hb));simp[-List.getD_eq_getElem?_getD, -getElem?_pos,q5,q14,ha,hb])
   all_goals try refine Out.one ?_
   all_goals try refine Ret.one ?_
   all_goals try(simp[-List.getD_eq_getElem?_getD, *];done)
   all_goals try simp[-List.getD_eq_getElem?_getD,q5]
   all_goals try(intros;omega)
   exact⟨A4,r4,N4⟩
  ·rw[if_neg c1]at hv2
   obtain⟨e1,e2⟩:=hv2
   subst e1 e2
   have c1':decide (q<(i:Int))=false:=by simpa using c1
   have hlk2:=al_8 S2 d.name
   rw[hT2,hseen,c1']at hlk2
   simp[-List.getD_eq_getElem?_getD, -getElem?_pos,g6,g12,g13,h14,hx,hil,hlk2,hT1,j1,j2,k3,hu2,m4]
   refine Out.loop (Y_0 p D hkn st r m st.store.length k l1 l2 l3 d ((ds.take i).map Decl.name ++[d.name]) _ s3 v2 es2 h1 h2 hdk hsd (by simp[g0]) (by simp) (by simp) (by simp) (by simp) (by simp[hv]) N3 A3 r2 hel2) ?_
   rintro e f2 st4 ⟨⟨rfl,v4,q5,A4,N4,r4⟩,hk2⟩
   have q14:f2 14= .int .i64 (i:Nat):=by simp[hk2,h14]
   clear hk2
   rw[List.map_take]at N4
   simp[-List.getD_eq_getElem?_getD, -getElem?_pos,q14,ha]
   repeat' (first|refine a_0 ?_ ?_|refine Out.branch ?_ ?_|refine Ret.branch ?_ ?_)<;>(intro hb;(try(simp only[NB]at hb));simp[-List.getD_eq_getElem?_getD, -getElem?_pos,q5,q14,ha,hb])
   all_goals try refine Out.one ?_
   all_goals try refine Ret.one ?_
   all_goals try(simp[-List.getD_eq_getElem?_getD, *];done)
   all_goals try simp[-List.getD_eq_getElem?_getD,q5]
   all_goals try(intros;omega)
   exact⟨A4,r4,N4⟩
 ·rintro f st1 hk ⟨h14,hA2,hr2,hN⟩
  have g13:f 13= .int .i64 (al.length:Nat):=by simp[hk]
  clear hk
  rw[List.take_of_length_le (by omega)]at hA2
  rw[←hal]at h14
  simp[-List.getD_eq_getElem?_getD, -getElem?_pos,g13,h14]
  refine Out.one ?_
  simp[*]
  exact hA2
 ·rintro e f st1 ⟨⟨rfl,hA2⟩,hk⟩
  clear hk
  obtain⟨b,nl,hR,hb⟩:=hA2.retV (l:=st.store.length) (st0:=st) (g:=id) (by
   intro x hx
   obtain⟨q, -,rfl⟩:=List.mem_map.1 hx
   rfl) (by simp[bn_4])
  rw[List.map_id]at hR
  simp[-List.getD_eq_getElem?_getD, -getElem?_pos]
  exact⟨_,_,hR,rfl,b,nl,rfl,hb⟩
end Go.Proofs.YtbbeelalcamgjaaGreatDoor
namespace Go.Proofs.YtbbeelalcamgjaaGreatDoor
open Go.Abs
set_option maxRecDepth 100000
inductive Need(p:Prog):Str→Prop
 |hook {t:Str} {s:Struct} (h:p.st t=some s) (h2:s.hook=true):Need p t
 |box {t:Str} (h:kindOf t=3) (h2:known p t=true):Need p t
 |part {t u:Str} (h:kindOf t=2) (h2:u∈parts p t) (h3:Need p u):Need p t
open Classical in
noncomputable def need(p:Prog)(t:Str):Bool:=decide (Need p t)
def declOf(p:Prog)(n:Str):Option Decl:=(declsOf p).find? fun d=>d.name==n
def partsOf(d:Decl):List Str:=if d.enum=true then partTypes d.parts else d.parts.map Var.type
theorem B_3(p:Prog)(n:Str):declOf p n=match p.st n with|some s=>some (.ofS s)|none=>(p.en n).map .ofE:=by
 unfold declOf declsOf
 rw[List.find?_append,List.find?_map,List.find?_map]
 have h1:((fun d:Decl=>d.name==n)∘Decl.ofS)=fun x:Struct=>x.name==n:=rfl
 have h2:((fun d:Decl=>d.name==n)∘Decl.ofE)=fun x:Enum=>x.name==n:=rfl
 rw[h1,h2]
 show((p.st n).map Decl.ofS).or ((p.en n).map Decl.ofE)=_
 cases p.st n<;>rfl
theorem M_9{p:Prog}{n:Str}{d:Decl}(h:declOf p n=some d):d.name=n:=by
 have:=List.find?_some h
 simpa using this
theorem l_{p:Prog}{n:Str}{d:Decl}(h:declOf p n=some d):d∈declsOf p:=List.mem_of_find?_eq_some h
theorem C_1{p:Prog}{n:Str}{d:Decl}(h:declOf p n=some d):parts p n=partsOf d∧(p.st n).isSome= !d.enum∧(d.hook=true↔∃s,p.st n=some s∧s.hook=true)∧d.slots=0∧d.drops=false:=by
 rw[B_3]at h
 unfold parts partsOf
 cases hs:p.st n with
 |some s=>
  rw[hs]at h
  simp only[Option.some.injEq]at h
  subst h
  exact⟨rfl,rfl,by simp[Decl.ofS],rfl,rfl⟩
 |none=>
  rw[hs]at h
  cases he:p.en n with
  |none=>rw[he]at h;cases h
  |some e=>
   rw[he]at h
   simp only[Option.map_some,Option.some.injEq]at h
   subst h
   exact⟨rfl,rfl,by simp[Decl.ofE],rfl,rfl⟩
theorem ad_8{p:Prog}{t:Str}(hk:known p t=true)(h2:kindOf t=2):∃d,declOf p t=some d:=by
 unfold known at hk
 rw[(aF_2 h2).1]at hk
 simp only[(aF_2 h2).2,Bool.true_and,Bool.false_or]at hk
 rw[B_3]
 cases hs:p.st t with
 |some s=>exact⟨_,rfl⟩
 |none=>
  cases he:p.en t with
  |none=>rw[hs,he]at hk;cases hk
  |some e=>exact⟨_,rfl⟩
theorem aw_7{s w:Str}(hw:(32:UInt8)∈w)(hs:s.all inner=true):hasPre s w=false:=by
 cases h:hasPre s w with
 |false=>rfl
 |true=>
  unfold hasPre at h
  simp only[Bool.and_eq_true,decide_eq_true_eq,beq_iff_eq]at h
  have hm:(32:UInt8)∈s:=by
   have:(32:UInt8)∈s.take w.length:=by rw[h.2];exact hw
   exact List.mem_of_mem_take this
  have:=List.all_eq_true.1 hs _ hm
  revert this;decide
theorem aH_2{s:Str}(h:isName s=true):s.all inner=true∧word s=false∧s≠[]:=by
 cases s with
 |nil=>cases h
 |cons c r=>
  unfold isName at h
  simp only[Bool.and_eq_true,Bool.not_eq_true']at h
  obtain⟨⟨⟨h1,h2⟩,h3⟩,h4⟩:=h
  refine⟨?_,h3,by simp⟩
  exact h4
theorem al_1{s:Str}(h:isName s=true):kindOf s=2:=by
 obtain⟨h1,h2,h3⟩:=aH_2 h
 have p1:hasPre s refS=false:=aw_7 (by decide) h1
 have p2:hasPre s mutS=false:=aw_7 (by decide) h1
 have p3:hasPre s boxS=false:=aw_7 (by decide) h1
 have hf:front s=(0,s):=by unfold front;simp[p1,p2]
 have hi:(s==intS)=false:=by
  cases hc:s==intS with
  |false=>rfl
  |true=>
   rw[eq_of_beq hc]at h2
   revert h2;decide
 have hp:plain s=true:=by
  unfold plain
  rw[Q_0 p3]
  simp[h]
 unfold kindOf
 rw[hf]
 simp[hp,hi,p3]
theorem J_1:kindOf []=0:=by
 have hf:front []=(0,[]):=by decide
 unfold kindOf
 rw[hf]
 simp[ao_9]
theorem W_{p:Prog}(hr:right p=true){d:Decl}(hd:d∈declsOf p):isName d.name=true∧d.parts.length≤16∧(d.enum=false→∀v∈d.parts,v.type≠[]):=by
 unfold right at hr
 simp only[Bool.and_eq_true]at hr
 obtain⟨-,⟨h1,h2⟩, -⟩:=hr
 unfold declsOf at hd
 rcases List.mem_append.1 hd with hd|hd
 ·obtain⟨x,hx,rfl⟩:=List.mem_map.1 hd
  have:=List.all_eq_true.1 h1 x hx
  unfold structOk at this
  simp only[Bool.and_eq_true,Bool.not_eq_true',decide_eq_false_iff_not]at this
  obtain⟨⟨a,b⟩,c⟩:=this
  refine⟨a,by show x.fields.length≤16;omega,fun _ v hv e=> ?_⟩
  have:=List.all_eq_true.1 c v hv
  unfold varOk at this
  rw[e]at this
  simp only[Bool.and_eq_true,Bool.or_eq_true,Bool.false_and]at this
  rcases this.2 with h|h
  ·simp[ao_9]at h
  ·cases h
 ·obtain⟨x,hx,rfl⟩:=List.mem_map.1 hd
  have:=List.all_eq_true.1 h2 x hx
  unfold enumOk at this
  simp only[Bool.and_eq_true,Bool.not_eq_true',decide_eq_false_iff_not]at this
  obtain⟨⟨⟨a,b⟩,b'⟩,c⟩:=this
  exact⟨a,by show x.variants.length≤16;omega,fun h=>by cases h⟩
theorem aR_8{p:Prog}(hr:right p=true){t:Str}{s:Struct}(h:p.st t=some s):kindOf t=2:=by
 have h1:declOf p t=some (.ofS s):=by rw[B_3,h]
 have:=(W_ hr (l_ h1)).1
 rw[M_9 h1]at this
 exact al_1 this
theorem aa_4{p:Prog}(hr:right p=true){t:Str}(h2:kindOf t≠2)(h3:kindOf t≠3):need p t=false:=by
 unfold need
 rw[decide_eq_false_iff_not]
 intro h
 cases h with
 |hook h _=>exact h2 (aR_8 hr h)
 |box h _=>exact h3 h
 |part h _ _=>exact h2 h
theorem aZ_6{p:Prog}(hr:right p=true){t:Str}(h3:kindOf t=3):need p t=known p t:=by
 unfold need
 cases hk:known p t with
 |true=>simp;exact .box h3 hk
 |false=>
  rw[decide_eq_false_iff_not]
  intro h
  cases h with
  |hook h _=>have:=aR_8 hr h;omega
  |box _ h=>rw[hk]at h;cases h
  |part h _ _=>omega
theorem aL_3{p:Prog}{n:Str}{d:Decl}(h:declOf p n=some d)(h2:kindOf n=2):need p n=(d.hook||(partsOf d).any (need p)):=by
 obtain⟨e1, -,e3, -⟩:=C_1 h
 unfold need
 rw[Bool.eq_iff_iff]
 simp only[decide_eq_true_eq,Bool.or_eq_true,List.any_eq_true]
 constructor
 ·intro hn
  cases hn with
  |hook h1 h3=>exact .inl (e3.2 ⟨_,h1,h3⟩)
  |box h1 _=>omega
  |part _ h3 h4=>rw[e1]at h3;exact .inr ⟨_,h3,h4⟩
 ·rintro(hh|⟨u,hu,hn⟩)
  ·obtain⟨s,h1,h3⟩:=e3.1 hh
   exact .hook h1 h3
  ·exact .part h2 (by rw[e1];exact hu) hn
noncomputable def sv(p:Prog)(v:Var):Nat:=if v.type=[]then 0 else val (sz p) v.type
theorem aO_3{p:Prog}(hr:right p=true)(d:Decl):(partsOf d).any (need p)=d.parts.any fun v=>need p v.type:=by
 have h0:need p []=false:=aa_4 hr (by rw[J_1];decide) (by rw[J_1];decide)
 unfold partsOf
 split
 ·unfold partTypes
  generalize d.parts=l
  induction l with
  |nil=>rfl
  |cons v l ih=>
   rw[List.flatMap_cons,List.any_append,ih,List.any_cons]
   split
   ·rename_i e;rw[e,h0];rfl
   ·simp
 ·rw[List.any_map];rfl
theorem ar_6(l:List Nat):∀a:Nat,l.foldl max a=max a (l.foldl max 0):=by
 induction l with
 |nil=>intro a;simp
 |cons x l ih=>intro a;rw[List.foldl_cons,ih,List.foldl_cons,ih (max 0 x)];omega
theorem aP_5{p:Prog}(hr:right p=true){d:Decl}(hd:d∈declsOf p):pt (!d.enum) (d.parts.map (sv p))=pt (!d.enum) ((partsOf d).map (val (sz p))):=by
 unfold partsOf
 cases he:d.enum with
 |false=>
  have h1:=(W_ hr hd).2.2 he
  simp only[Bool.false_eq_true,if_false,List.map_map]
  congr 1
  apply List.map_congr_left
  intro v hv
  unfold sv;rw[if_neg (h1 v hv)];rfl
 |true=>
  simp only[if_true,pt,Bool.not_true,Bool.false_eq_true,if_false]
  unfold partTypes
  generalize d.parts=l
  induction l with
  |nil=>rfl
  |cons v l ih=>
   rw[List.map_cons,List.foldl_cons,ar_6,ih,List.flatMap_cons,List.map_append,List.foldl_append]
   unfold sv
   split
   ·simp
   ·rw[List.map_singleton,List.foldl_cons,List.foldl_nil,ar_6 (List.map _ _) (max 0 _)]
structure Fine(p:Prog):Prop where
 size:p.size≤1048576
 right:right p=true
 names:((declsOf p).map Decl.name).Nodup
 known:∀d∈declsOf p,∀v∈d.parts,v.type≠[]→known p v.type=true
end Go.Proofs.YtbbeelalcamgjaaGreatDoor
namespace Go.Proofs.YtbbeelalcamgjaaGreatDoor
open Go.Abs
attribute [local simp] N_6 O_3 v_9 H_6 l_0 P_0 F_5 E_3 u_1 d_0 k_2 o_3 c_3 f_0 i_2 c_0 i_4 finish dropMarks resOf
 resList m_1 o_1 h_4 f_9 d_ c_1 n_2 h_5 c_ b_1 b_0 b_9 c_4 f_6 f_4 d_4
 d_2 g_2 o_8 P_4 C_4 m_4 F_1 f_5 P_8 s_un G_ t_7 d_3 d_7 v_5 t_0 i_5 B_9 w_3 O_8 F_6 C_8 P_ n_9
 c_9 c_2 m_3 x_3 e_3 j_4 o_0 p_ o_9 n_5 a_7 c_8 f_8 e_5 f_3 k_ j_ h_8 g_0
 w_ m_7 m_8 n_7 u_6 u_8 u_5 i_9 v_7 evArgs m_ h_3 o_2 f_2 o_ C_7 ofValue ofValues isConst D_5 E_5 H_ C_ G_9
 E_9 E_4 E_0 G_5 G_4 D_7 E_2 C_5 D_0 F_9 H_5 strBin bne E_6 D_4 C_6 convV evConv optArg a_5 argF D_1 v_4 s_3 r_0 n_3 B_7 v_1
 x_1 m_9 h_6 j_7 k_0 i_7 j_0 g_ F_3 u_0 i_6 k_1 okCells P_9 d_6 l_8 g_3 k_3 j_3 g_1 i_0
 j_2 m_2 s_1 u_9 o_5 w_9 s_9 n_ u_ v_6 h_0 j_8 e_7 e_2 j_9 splice putElem k_6 H_3 E_8 k_4 m_6
 g_7 v_2 e_6 bdV fill o_6 bsF setAll d_8 f_7 F_2 e_9 i_1 i_8 f_1 r_ w_2 q_1 s_5 F_8 t_2 u_3 p_4 j_1
 r_9 F_7 D_ w_4 e_1 c_7 r_1 v_ n_4 s_ h_7 G_6 u_7 n_1 D_2 t_4 q_2 D_9 k_8 w_7 c_6 o_4 j_5 G_1
 v_3 F_ B_6 E_1 f_ x_2 t_6 H_1 D_6 H_0 C_2 s_8 m_5 w_8 t_8 deep List.getD_cons_zero List.getD_cons_succ List.getElem?_cons_zero
 List.getElem?_cons_succ List.getElem?_nil s_0 s_2 E_ G_2 G_0 C_0 x_0 v_8 B_8 F_0 x_4 w_1 t_ w_5 t_1 u_4 n_6 n_0 C_9 F_4
 i_3 i_ s_7 t_9 e_8 e_4 D_3 G_3 G_8 C_3 aq_ ao_4 ao_ al_ al_0 an_2 am_1 bd98 ld3 sr3 und3 ld9 und9 ln9 ix9 ld36 sr36 Q_2 ia36 ib36 ln36
 lo36 sl36 ap36 bs36 ld4 sr4 und4 ld32 sr32 T_ ia32 ln32 sl32 sv32 ap32 bs32 ld66 sr66 al66 V_8 V_4 ak_9 al_2 bd92 ld90 ld39 sr39 al39 ld96 lu90 pn96 aN_2 o_7 A_3 B_5
 p_0 p_7 d_5 c_5 g_9 l_7 q40_18 l40_18 p40_23 as_ S_9 S_2 kdOp kdOf isPure readsOf q40_36 l40_36 as_2 protS D_Rg S40 L40_1 L40_5 L40_8 L40_11 L40_14 L40_21
 L40_25 L40_33 L40_39 L40_43 L40_45 L40_47 L40_48 L40_49 L40_52 L40_54 L40_57 L40_59
set_option maxRecDepth 100000
set_option linter.unusedSimpArgs false
set_option linter.unusedVariables false
set_option maxHeartbeats 4000000
theorem aT_4(p:Prog)(n:Str):1≤sz p n:=by
 rw[bh_7];unfold nextS comb;split<;>omega
theorem ba_1{p:Prog}(hr:right p=true){n:Str}{d:Decl}(h:declOf p n=some d)(hle:∀v∈d.parts,v.type≠[]→val (sz p) v.type≤32):sz p n=min (max (if d.enum=true then pt (!d.enum) (d.parts.map (sv p))+1 else pt (!d.enum) (d.parts.map (sv p))) 1) 33:=by
 obtain⟨e1,e2, -⟩:=C_1 h
 rw[aP_5 hr (l_ h),bh_7]
 unfold nextS comb
 rw[e1,e2,if_neg]
 ·cases d.enum<;>rfl
 ·intro hc
  obtain⟨k,hk1,hk2⟩:=List.any_eq_true.1 hc
  obtain⟨u,hu,rfl⟩:=List.mem_map.1 hk1
  simp only[decide_eq_true_eq]at hk2
  unfold partsOf at hu
  split at hu
  ·unfold partTypes at hu
   obtain⟨v,hv,hu⟩:=List.mem_flatMap.1 hu
   split at hu
   ·cases hu
   ·rename_i hne
    rw[List.mem_singleton.1 hu]at hk2
    have:=hle v hv hne;omega
  ·rename_i he
   obtain⟨v,hv,rfl⟩:=List.mem_map.1 hu
   have:=hle v hv ((W_ hr (l_ h)).2.2 (by simpa using he) v hv);omega
theorem aj_1{p:Prog}{n:Str}{d:Decl}(h:declOf p n=some d){v:Var}(hv:v∈d.parts)(hne:v.type≠[]):v.type∈parts p n:=by
 rw[(C_1 h).1]
 unfold partsOf
 split
 ·exact List.mem_flatMap.2 ⟨v,hv,by rw[if_neg hne];simp⟩
 ·exact List.mem_map_of_mem hv
theorem bn_1{p:Prog}{n:Str}{d:Decl}(h:declOf p n=some d){v:Var}(hv:v∈d.parts)(hne:v.type≠[])(h2:32<val (sz p) v.type):sz p n=33:=by
 rw[bh_7]
 unfold nextS comb
 rw[if_pos]
 exact List.any_eq_true.2 ⟨_,List.mem_map_of_mem (aj_1 h hv hne),by simpa using h2⟩
def WayAt(st:St)(wv:V)(path:List Str):Prop:=(wv= .list true (some true) []∧path=[])∨∃r,wv= .slice r 1 0 path.length∧st.store[r]? =some (.way (path.map .str))
theorem be_{st:St}{wv:V}{path:List Str}(h:WayAt st wv path)(hb:st.base=0)(hp:st.prot=[])(hl:path.length≤2^20)(n:Str):
  ∃w' s2,(∀P:List Nat,P.all (fun i=> !isWay (st.store[i]?))=true→appW 1 16 (setProt st P) (spreadB (.list true (some false) [.str n])) wv (.list true (some false) [.str n])=some (w',setProt s2 P))∧WayAt s2 w' (path ++[n])∧(∃r,refOf w'=some r∧st.store.length≤r)∧s2.base=0∧s2.prot=[]∧st.store.length≤s2.store.length∧
   (∀(i:Nat) (o:O),st.store[i]? =some o→(isWay (some o)=true→∀r,refOf wv=some r→i≤r)→s2.store[i]? =some o):=by
 rcases h with⟨rfl,rfl⟩|⟨r,rfl,hr⟩
 ·refine⟨.slice st.store.length 1 0 1,addO st (.way [.str n]),fun P hP=> ?_, .inr ⟨st.store.length,rfl,d_6⟩,⟨_,rfl,Nat.le_refl _⟩,hb,hp,by simp[addO],fun i o hi _=>a_2 hi⟩
  exact aY_6 (st:=setProt st P) (new:=[.str n]) rfl (by simp) (by simp[V.cells,V.oneCell]) (by decide) (by decide) (by simp)
 ·have hlt:r<st.store.length:=(List.getElem?_eq_some_iff.1 hr).1
  refine⟨.slice st.store.length 1 0 (path.length+1),addO (killSt r st) (.way (path.map .str ++[.str n])),fun P hP=> ?_, .inr ⟨st.store.length,by simp,?_⟩,⟨_,rfl,Nat.le_refl _⟩,hb,hp,by simp[addO,killSt,I_4],fun i o hi hw=> ?_⟩
  ·have hnot:r∉P:=fun hm=>by
    have:=List.all_eq_true.1 hP r hm
    rw[hr]at this;cases this
   exact aV_4 (st:=setProt st P) (new:=[.str n]) (sp:=false) rfl (by simp) (by simp[V.cells,V.oneCell]) (by decide) (by decide) (by simp[St.locked,setProt,hb,hnot]) hr (by simp) (by simp;omega) (by
    rw[List.all_eq_true]
    intro i hi
    have:=List.all_eq_true.1 hP i hi
    show(decide (i≤r)|| !isWay (st.store[i]?))=true
    rw[this];simp)
  ·show(killW r st.store ++[_])[st.store.length]? =_
   rw[List.getElem?_append_right (by rw[I_4];exact Nat.le_refl _),I_4];simp
  ·show(killW r st.store ++[_])[i]? =_
   refine a_2 ?_
   rw[B_0,hi]
   simp only[Option.map_some]
   rw[if_neg]
   rintro⟨h1,h2⟩
   have:=hw h2 r rfl
   omega
theorem wcontains{st:St}{wv:V}{path:List Str}(h:WayAt st wv path)(hl:path.length≤2^20)(n:Str):(run tb).call 103 [wv, .str n] st=some (.bool (path.any fun x=>n==x),st):=by
 rcases h with⟨rfl,rfl⟩|⟨r,rfl,hr⟩
 ·exact K_ _ _ [] (by decide) n st
 ·exact ah_0 r path (by omega) n st hr
def Meas(p:Prog)(n:Str)(s:Int)(b:Bool):Prop:=(s=0∧b=false)∨(sz p n≤32∧s=(sz p n:Nat)∧b=need p n)∨(sz p n=33∧32<s∧s<2^40)
structure MSt(p:Prog)(r m:Nat)(D:List (Str×Nat))(st:St)(Dc:Nat→Decl):Prop where
 tab:TabSt st r m D Dc
 base:st.base=0
 prot:st.prot=[]
 ok:∀n k,getM D n=some k→∃d0 s b,declOf p n=some d0∧Dc k={d0 with slots:=s,drops:=b}∧Meas p n s b
 dom:∀n d0,declOf p n=some d0→∃k,getM D n=some k
 inj:∀n n' k,getM D n=some k→getM D n'=some k→n=n'
structure Keep(D:List (Str×Nat))(wv:V)(a b:St):Prop where
 base:b.base=a.base
 prot:b.prot=a.prot
 len:a.store.length≤b.store.length
 get:∀(i:Nat) (o:O),a.store[i]? =some o→(∀n,getM D n≠some i)→(isWay (some o)=true→∀r,refOf wv=some r→i≤r)→b.store[i]? =some o
theorem Y_8{p:Prog}{r m:Nat}{D:List (Str×Nat)}{st:St}{Dc:Nat→Decl}(h:MSt p r m D st Dc)(t:Str):knownM D t=known p t:=by
 unfold knownM known
 congr 2
 generalize(baseOf t).1=n
 have h1:=B_3 p n
 cases hg:getM D n with
 |some k=>
  obtain⟨d0,s,b,h2, -⟩:=h.ok n k hg
  rw[h2]at h1
  cases hs:p.st n with
  |some s=>rfl
  |none=>
   rw[hs]at h1
   cases he:p.en n with
   |none=>rw[he]at h1;cases h1
   |some e=>rfl
 |none=>
  have h3:declOf p n=none:=by
   cases hd:declOf p n with
   |none=>rfl
   |some d0=>obtain⟨k,hk⟩:=h.dom n d0 hd;rw[hg]at hk;cases hk
  rw[h3]at h1
  cases hs:p.st n with
  |some s=>rw[hs]at h1;cases h1
  |none=>
   rw[hs]at h1
   cases he:p.en n with
   |none=>rfl
   |some e=>rw[he]at h1;cases h1
theorem Keep.way{p:Prog}{r m:Nat}{D:List (Str×Nat)}{wv:V}{a b:St}{Dc:Nat→Decl}{path:List Str}(h:Keep D wv a b)(hM:MSt p r m D a Dc)(hW:WayAt a wv path):WayAt b wv path:=by
 rcases hW with hW|⟨q,rfl,hq⟩
 ·exact .inl hW
 ·refine .inr ⟨q,rfl,h.get _ _ hq (fun n hn=> ?_) fun _ r' hr=>by cases hr;exact Nat.le_refl _⟩
  rw[hM.tab.decl n q hn]at hq;cases hq
theorem Keep.box{D:List (Str×Nat)}{wv:V}{a b:St}(h:Keep D wv a b)(cs:List V):Keep D wv a (newBox b cs):=
 ⟨h.base,h.prot,Nat.le_trans h.len (by simp[newBox]),fun i o hi h1 h2=>a_2 (h.get i o hi h1 h2)⟩
theorem MSt.to{p:Prog}{r m:Nat}{D:List (Str×Nat)}{a b:St}{Dc:Nat→Decl}(h:MSt p r m D a Dc)(hb:b.base=0)(hp:b.prot=[])(hg:∀(i:Nat) (o:O),a.store[i]? =some o→isWay (some o)=false→b.store[i]? =some o):MSt p r m D b Dc:=by
 obtain⟨l1,l2,l3,h1⟩:=h.tab.box
 exact⟨⟨⟨l1,l2,l3,hg _ _ h1 rfl⟩,hg _ _ h.tab.ents rfl,fun n k hk=>hg _ _ (h.tab.decl n k hk) rfl⟩,hb,hp,h.ok,h.dom,h.inj⟩
def Mono(Dca Dc:Nat→Decl):Prop:=∀x,(Dca x).slots≠0→Dc x=Dca x
def MK(p:Prog)(r m:Nat)(D:List (Str×Nat))(wv:V)(Dca:Nat→Decl)(a b:St):Prop:=∃Dc,MSt p r m D b Dc∧Keep D wv a b∧Mono Dca Dc
theorem Keep.ofNew{D:List (Str×Nat)}{wv w':V}{a b c d:St}{r:Nat}(h:Keep D wv a b)(hb:c.base=b.base)(hp:c.prot=b.prot)(hl:b.store.length≤c.store.length)(hg:∀(i:Nat) (o:O),b.store[i]? =some o→(isWay (some o)=true→∀r,refOf wv=some r→i≤r)→c.store[i]? =some o)
  (hr:refOf w'=some r) (hr2:b.store.length≤r) (h2:Keep D w' c d):Keep D wv a d:=
 ⟨h2.base.trans (hb.trans h.base),h2.prot.trans (hp.trans h.prot),Nat.le_trans h.len (Nat.le_trans hl h2.len),fun i o hi h3 h4=>by
  have h5:=h.get i o hi h3 h4
  refine h2.get i o (hg i o h5 h4) h3 fun _ r' hr'=> ?_
  rw[hr]at hr';cases hr'
  have:=(List.getElem?_eq_some_iff.1 h5).1
  omega⟩
theorem X_9{p:Prog}(h:p.size≤1048576){d:Decl}(hd:d∈declsOf p):V.bulks (d.parts.map Var.v)≤1048576:=by
 rw[j_6]at h
 unfold declsOf at hd
 rcases List.mem_append.1 hd with hd|hd
 ·obtain⟨x,hx,rfl⟩:=List.mem_map.1 hd
  have:=r_7 hx
  rw[l_1]at this
  show V.bulks (x.fields.map Var.v)≤_
  omega
 ·obtain⟨x,hx,rfl⟩:=List.mem_map.1 hd
  have:=L_0 hx
  rw[A_2]at this
  show V.bulks (x.variants.map Var.v)≤_
  omega
theorem ad_5{p:Prog}(hf:Fine p){r m:Nat}{D:List (Str×Nat)}{st:St}{Dc:Nat→Decl}(h:MSt p r m D st Dc){d:Decl}(hd:d∈declsOf p){v:Var}(hv:v∈d.parts)(h2:kindOf v.type=2→∃k,getM D v.type=some k∧(Dc k).slots=(sz p v.type:Nat)∧(Dc k).drops=need p v.type):
  slotsM D Dc v.type=(sv p v:Nat)∧dropsM D Dc v.type=need p v.type:=by
 unfold slotsM dropsM sv val
 rw[Y_8 h]
 by_cases he:v.type=[]
 ·have hk:known p []=false:=by unfold known baseOf;rw[J_1];rfl
  rw[he,hk,J_1]
  simp only[if_true]
  refine⟨rfl,?_⟩
  rw[if_neg (by decide),if_neg (by decide)]
  exact(aa_4 hf.right (by rw[J_1];decide) (by rw[J_1];decide)).symm
 ·have hk:=hf.known d hd v hv he
  rw[hk,if_neg (by decide),if_neg he]
  by_cases k2:kindOf v.type=2
  ·obtain⟨k,h3,h4,h5⟩:=h2 k2
   rw[if_pos k2,if_pos k2,if_neg (by rw[k2];decide),if_pos k2,h3]
   exact⟨h4,by simpa using h5⟩
  ·rw[if_neg k2,if_neg k2,if_neg k2]
   refine⟨rfl,?_⟩
   by_cases k3:kindOf v.type=3
   ·rw[if_pos k3,aZ_6 hf.right k3,hk]
   ·rw[if_neg k3,aa_4 hf.right k2 k3]
def MOut(p:Prog)(r m:Nat)(D:List (Str×Nat))(wv:V)(n:Str)(k:Nat)(Dca:Nat→Decl)(a b:St):Prop:=∃Dc',MSt p r m D b Dc'∧(sz p n≤32→(Dc' k).slots=(sz p n:Nat)∧(Dc' k).drops=need p n)∧Keep D wv a b∧Mono Dca Dc'
theorem Keep.put{D:List (Str×Nat)}{wv:V}{a b:St}{n:Str}{k:Nat}(h:Keep D wv a b)(hg:getM D n=some k)(o:O):Keep D wv a (setO b k o):=
 ⟨h.base,h.prot,by simp[setO];exact h.len,fun i x hi h1 h2=>by
  show(b.store.set k o)[i]? =_
  rw[List.getElem?_set_ne (by intro e;subst e;exact h1 n hg)]
  exact h.get i x hi h1 h2⟩
theorem MSt.put{p:Prog}{r m:Nat}{D:List (Str×Nat)}{st:St}{Dc:Nat→Decl}(h:MSt p r m D st Dc){n:Str}{k:Nat}(hg:getM D n=some k){d0:Decl}(hd:declOf p n=some d0){s:Int}{b:Bool}(hS:Meas p n s b):
  MSt p r m D (setO st k (.box ({d0 with slots:=s,drops:=b}:Decl).cs)) (fun x=>if x=k then{d0 with slots:=s,drops:=b}else Dc x):=by
 obtain⟨l1,l2,l3,h1⟩:=h.tab.box
 have hk:=h.tab.decl n k hg
 have hrk:k≠r:=by intro e;subst e;rw[h1]at hk;simp[Decl.cs]at hk
 have hmk:k≠m:=by intro e;subst e;rw[h.tab.ents]at hk;cases hk
 refine⟨⟨⟨l1,l2,l3,?_⟩,?_,fun n' k' hn'=> ?_⟩,h.base,h.prot,fun n' k' hn'=> ?_,h.dom,h.inj⟩
 ·show(st.store.set k _)[r]? =_
  rw[List.getElem?_set_ne hrk];exact h1
 ·show(st.store.set k _)[m]? =_
  rw[List.getElem?_set_ne hmk];exact h.tab.ents
 ·show(st.store.set k _)[k']? =_
  by_cases e:k'=k
  ·subst e
   rw[if_pos rfl,List.getElem?_set_self (List.getElem?_eq_some_iff.1 hk).1]
  ·rw[if_neg e,List.getElem?_set_ne (Ne.symm e)];exact h.tab.decl n' k' hn'
 ·by_cases e:k'=k
  ·subst e
   have:=h.inj n n' k' hg hn'
   subst this
   exact⟨d0,s,b,hd,by rw[if_pos rfl],hS⟩
  ·rw[if_neg e];exact h.ok n' k' hn'
theorem au_2(p:Prog)(hf:Fine p)(r m:Nat)(D:List (Str×Nat)):∀(fuel:Nat) (n:Str) (k:Nat) (path:List Str) (wv:V) (Dc:Nat→Decl) (st:St),
  (((declsOf p).map Decl.name).filter (fun x=> !path.contains x)).length≤fuel→path.length+fuel≤64→getM D n=some k→MSt p r m D st Dc→WayAt st wv path→(∀u∈path,Way p u n)→
  Ret (fun v st'=>v= .bool (decide (sz p n≤32))∧MOut p r m D wv n k Dc st st') ((run tb).call 40 [.ptr r 0, .ptr k 0,wv] st):=by
 intro fuel
 induction fuel using Nat.strongRecOn with
 |_ fuel ih=>
  intro n k path wv Dc st hfu hpl hg hM hW hP
  obtain⟨d0,s,b,hd,hDk,hS⟩:=hM.ok n k hg
  have hbk:=hM.tab.decl n k hg
  rw[hDk]at hbk
  have hbk0:=hbk
  unfold Decl.cs at hbk
  simp only at hbk
  by_cases hs0:s=0
  ·have hb0:b=false:=by
    rcases hS with⟨-,h1⟩|⟨-,h1, -⟩|⟨-,h1, -⟩
    ·exact h1
    ·have:=aT_4 p n;omega
    ·omega
   subst hs0 hb0
   have hnm:=M_9 hd
   have hC:=wcontains hW (by omega) n
   by_cases hc:(path.any fun x=>n==x)=true
   ·rw[hc]at hC
    have hin:n∈path:=by
     obtain⟨x,hx,he⟩:=List.any_eq_true.1 hc
     rw[eq_of_beq he];exact hx
    have h33:=ba_0 (hP n hin)
    have hfin:MOut p r m D wv n k Dc st st:=⟨Dc,hM,fun h=>by omega,⟨rfl,rfl,Nat.le_refl _,fun _ _ h _ _=>h⟩,fun _ _=>rfl⟩
    rw[h33]
    rw[run40 (by simp)]
    simp[-List.getD_eq_getElem?_getD, -getElem?_pos,hbk,hnm,hC]
    exact Ret.one ⟨rfl,hfin⟩
   ·have hc:(path.any fun x=>n==x)=false:=Bool.eq_false_iff.2 hc
    rw[hc]at hC
    have hok:=W_ hf.right (l_ hd)
    rw[run40 (by simp)]
    simp[-List.getD_eq_getElem?_getD, -getElem?_pos,hbk,hnm,hC]
    have hMK:MK p r m D wv Dc st st:=⟨Dc,hM,⟨rfl,rfl,Nat.le_refl _,fun _ _ h _ _=>h⟩,fun _ _=>rfl⟩
    refine Ret.loop (a_8 e40_23 w40_23 d0.parts.length
     (I:=fun i f st'=>f 38= .int .i64 (i:Nat)∧f 7= .int .i64 ((pt (!d0.enum) ((d0.parts.take i).map (sv p)):Nat):Int)∧f 8= .bool (d0.hook||(d0.parts.take i).any fun v=>need p v.type)∧(∀v∈d0.parts.take i,v.type≠[]→val (sz p) v.type≤32)∧MK p r m D wv Dc st st')
     (Q:=fun e f st'=>(e= .exit 1∧f 7= .int .i64 ((pt (!d0.enum) (d0.parts.map (sv p)):Nat):Int)∧f 8= .bool (d0.hook||d0.parts.any fun v=>need p v.type)∧(∀v∈d0.parts,v.type≠[]→val (sz p) v.type≤32)∧MK p r m D wv Dc st st')∨(e= .ret∧f 6= .bool false∧sz p n=33∧MK p r m D wv Dc st st')) ?_ ?_ ?_) ?_
    ·refine⟨by simp,?_,by simp,by simp,hMK⟩
     cases d0.enum<;>simp[pt]
    ·rintro i f st1 hi hk ⟨h38,h7,h8,hle,Dc1,hM1,hK1,hO1⟩
     have hx:d0.parts[i]? =some d0.parts[i]:=List.getElem?_eq_getElem hi
     have hym:=List.getElem_mem hi
     have htk:=List.take_succ_eq_append_getElem hi
     have ha:=add1 (i:=i) (by omega)
     have g0:f 0= .ptr r 0:=by simp[hk]
     have g1:f 1= .ptr k 0:=by simp[hk]
     have g2:f 2=wv:=by simp[hk]
     have g36:f 36= .list false d0.nl (d0.parts.map Var.v):=by simp[hk]
     have g37:f 37= .int .i64 (d0.parts.length:Nat):=by simp[hk]
     clear hk
     rw[htk,List.map_append,List.map_singleton,bi_7,List.any_append]
     generalize d0.parts[i]=y at *
     have htl:y.type.length<2^40:=by
      have h1:=B_1 hym
      rw[w_0]at h1
      have h2:=X_9 hf.size (l_ hd)
      omega
     have hall:(y.type≠[]→val (sz p) y.type≤32)→∀v,v∈d0.parts.take i∨v=y→¬v.type=[]→val (sz p) v.type≤32:=by
      rintro h v (hv|rfl) hne
      ·exact hle v hv hne
      ·exact h hne
     have hKi:=H_2 y.type htl
     have j1:=hM1.base
     have j2:=hM1.prot
     obtain⟨sa,hsa⟩:∃sa,sa=newBox st1 y.ks2:=⟨_,rfl⟩
     have hset:∀zs:List V,setO (newBox st1 zs) st1.store.length (.box y.ks2)=sa:=fun zs=>by rw[hsa];exact l_8
     have hga:∀(i:Nat) (o:O),st1.store[i]? =some o→sa.store[i]? =some o:=fun i o h=>by rw[hsa];exact a_2 h
     have hbox:sa.store[st1.store.length]? =some (.box y.ks2):=by rw[hsa];exact d_6
     have hMa:MSt p r m D sa Dc1:=hM1.to (by rw[hsa];exact j1) (by rw[hsa];exact j2) fun i o h _=>hga i o h
     have hKa:Keep D wv st sa:=by rw[hsa];exact hK1.box _
     have hWa:=hKa.way hM hW
     have hlen:st1.store.length<sa.store.length:=(List.getElem?_eq_some_iff.1 hbox).1
     have hbD:∀n,getM D n≠some st1.store.length:=fun n' hn'=>by
      have:=(List.getElem?_eq_some_iff.1 (hM1.tab.decl n' _ hn')).1
      omega
     clear hsa
     unfold Var.ks2 at hset hbox
     by_cases k2:kindOf y.type=2
     ·have hne:y.type≠[]:=fun e=>by rw[e,J_1]at k2;cases k2
      have hnp:path.contains n=false:=by
       cases h5:path.contains n with
       |false=>rfl
       |true=>
        have:(path.any fun x=>n==x)=true:=List.any_eq_true.2 ⟨n,by simpa using h5,by simp⟩
        rw[hc]at this;cases this
      have hnd:n∈(declsOf p).map Decl.name:=List.mem_map.2 ⟨d0,l_ hd,hnm⟩
      have hlt:(((declsOf p).map Decl.name).filter (fun x=> !(path ++[n]).contains x)).length<(((declsOf p).map Decl.name).filter (fun x=> !path.contains x)).length:=
       ao_3 (t:=n) _ (fun x hx=>by simp at hx⊢;exact hx.1) hnd (by rw[hnp];rfl) (by simp)
      have hkn:=hf.known d0 (l_ hd) y hym hne
      obtain⟨d1,hd1⟩:=ad_8 hkn k2
      obtain⟨k',hg'⟩:=hMa.dom _ _ hd1
      obtain⟨w',s2,hap,hW2,⟨rw',hrw,hrl⟩,b2,p2,l2,hget2⟩:=be_ hWa hMa.base hMa.prot (by omega) n
      have hM2:MSt p r m D s2 Dc1:=hMa.to b2 p2 fun i o h hw=>hget2 i o h fun hc=>by rw[hw]at hc;cases hc
      have hps2:setProt s2 []=s2:=o_7 p2
      obtain⟨rv,s3,hcall,rfl,Dc3,hM3,hsz3,hK3,hO3⟩:=ih (fuel-1) (by omega) y.type k' (path ++[n]) w' Dc1 s2 (by omega) (by rw[List.length_append];simp;omega) hg' hM2 hW2 (by
       intro u hu
       rcases List.mem_append.1 hu with hu|hu
       ·exact aV_7 (hP u hu) ⟨aj_1 hd hym hne,k2⟩
       ·rw[List.mem_singleton.1 hu];exact .one ⟨aj_1 hd hym hne,k2⟩)
      have hK13:Keep D wv st s3:=hKa.ofNew (b2.trans hMa.base.symm) (p2.trans hMa.prot.symm) l2 hget2 hrw hrl hK3
      have hO13:Mono Dc Dc3:=fun x hx=>(hO3 x (by rw[hO1 x hx];exact hx)).trans (hO1 x hx)
      have hbox3:=hK3.get _ _ (hget2 _ _ hbox fun hc=>by cases hc) hbD fun hc=>by cases hc
      obtain⟨l1,l2',l3,hr1⟩:=hMa.tab.box
      have hr2:=hMa.tab.ents
      have hap2:=hap [m,st1.store.length,r] (by simp[hr2,hbox,hr1,isWay])
      have pa:=hMa.prot
      have ba:=hMa.base
      have p3:=hM3.prot
      have b3:=hM3.base
      have hlk:=P_3 D y.type
      rw[hg']at hlk
      have hbka:=hMa.tab.decl n k hg
      obtain⟨dd,ss,bb,hdd,hDk1, -⟩:=hM1.ok n k hg
      rw[hd]at hdd;cases hdd
      rw[hDk1]at hbka
      unfold Decl.cs at hbka
      simp only at hbka
      rw[hnm]at hbka
      by_cases h32:sz p y.type≤32
      ·have hdec:decide (sz p y.type≤32)=true:=by simpa using h32
       rw[hdec]at hcall
       have hsd:kindOf y.type=2→∃k,getM D y.type=some k∧(Dc3 k).slots=(sz p y.type:Nat)∧(Dc3 k).drops=need p y.type:=fun _=>⟨k',hg',hsz3 h32⟩
       have hyv:y.type≠[]→val (sz p) y.type≤32:=fun _=>by unfold val;rw[if_pos k2];exact h32
       have hsp:=ad_5 hf hM3 (l_ hd) hym hsd
       have hsl:=R_3 r m D Dc3 y.type htl s3 hM3.tab
       have hdr:=ae_5 r m D Dc3 y.type htl s3 hM3.tab
       rw[hsp.1]at hsl
       rw[hsp.2]at hdr
       have hMK3:MK p r m D wv Dc st s3:=⟨Dc3,hM3,hK13,hO13⟩
       have hbk3:=hM3.tab.decl n k hg
       obtain⟨dd3,ss3,bb3,hdd3,hDk3, -⟩:=hM3.ok n k hg
       rw[hd]at hdd3;cases hdd3
       rw[hDk3]at hbk3
       unfold Decl.cs at hbk3
       simp only at hbk3
       have hfin:=hall hyv
       have hT:=bd_0 (!d0.enum) ((d0.parts.take i).map (sv p)) (by
        intro x hx
        obtain⟨v,hv,rfl⟩:=List.mem_map.1 hx
        unfold sv
        split
        ·omega
        ·rename_i hne;exact hle v hv hne)
       have hVb:sv p y≤32:=by
        unfold sv
        split
        ·omega
        ·rename_i hne;exact hyv hne
       have htl2:((d0.parts.take i).map (sv p)).length≤16:=by have:=hok.2.1;simp;omega
       rw[List.map_take]at h7 hT htl2⊢
       generalize pt (!d0.enum) ((d0.parts.map (sv p)).take i)=T at *
       generalize sv p y=Vy at *
       obtain⟨c,hcc,hadd⟩:=addN T Vy (by omega)
       simp only[List.any_cons,List.any_nil,Bool.or_false]
       rw[←Bool.or_assoc]
       generalize hc8:(d0.hook||(d0.parts.take i).any fun v=>need p v.type)=c8 at *
       generalize need p y.type=ny at *
       cases he:d0.enum with
       |true=>
        rw[he]at hbk3
        have hmx:(if T<Vy then(Vy:Int)else(T:Int))=((max T Vy:Nat):Int):=by split<;>omega
        cases c8 with
        |true=>
         simp[-List.getD_eq_getElem?_getD, -getElem?_pos,g0,g1,g2,g36,g37,h38,h7,h8,hx,hi,ha,j1,j2,hset,hbox,hKi,hbox3,k2,hr1,hr2,hlk,ptrV,hbka,hap2,pa,p2,hps2,hcall,p3,hsl,hbk3,hmx,he,Var.v,Nat.testBit]
         repeat' (first|refine a_0 ?_ ?_|refine Out.branch ?_ ?_|refine Ret.branch ?_ ?_)<;>(intro hb;(try(simp only[NB]at hb));simp[-List.getD_eq_getElem?_getD, -getElem?_pos,g0,g1,g2,g36,g37,h38,h7,h8,hx,hi,ha,j1,j2,hset,hbox,hKi,hbox3,k2,hr1,hr2,hlk,ptrV,hbka,hap2,pa,ba,p2,b2,hps2,hcall,p3,b3,hsl,hdr,hbk3,hmx,he,Var.v,Nat.testBit,hb])
         all_goals try refine Out.one ?_
         all_goals try refine Ret.one ?_
         all_goals try(simp[-List.getD_eq_getElem?_getD, *];done)
         all_goals try simp[-List.getD_eq_getElem?_getD]
         all_goals try(intros;omega)
         exact⟨hfin,hMK3⟩
        |false=>
         simp[-List.getD_eq_getElem?_getD, -getElem?_pos,g0,g1,g2,g36,g37,h38,h7,h8,hx,hi,ha,j1,j2,hset,hbox,hKi,hbox3,k2,hr1,hr2,hlk,ptrV,hbka,hap2,pa,p2,hps2,hcall,p3,hsl,hdr,hbk3,hmx,he,Var.v,Nat.testBit]
         repeat' (first|refine a_0 ?_ ?_|refine Out.branch ?_ ?_|refine Ret.branch ?_ ?_)<;>(intro hb;(try(simp only[NB]at hb));simp[-List.getD_eq_getElem?_getD, -getElem?_pos,g0,g1,g2,g36,g37,h38,h7,h8,hx,hi,ha,j1,j2,hset,hbox,hKi,hbox3,k2,hr1,hr2,hlk,ptrV,hbka,hap2,pa,ba,p2,b2,hps2,hcall,p3,b3,hsl,hdr,hbk3,hmx,he,Var.v,Nat.testBit,hb])
         all_goals try refine Out.one ?_
         all_goals try refine Ret.one ?_
         all_goals try(simp[-List.getD_eq_getElem?_getD, *];done)
         all_goals try simp[-List.getD_eq_getElem?_getD]
         all_goals try(intros;omega)
         exact⟨hfin,hMK3⟩
       |false=>
        rw[he]at hbk3
        rw[hcc]at hadd
        cases c8 with
        |true=>
         simp[-List.getD_eq_getElem?_getD, -getElem?_pos,g0,g1,g2,g36,g37,h38,h7,h8,hx,hi,ha,j1,j2,hset,hbox,hKi,hbox3,k2,hr1,hr2,hlk,ptrV,hbka,hap2,pa,p2,hps2,hcall,p3,hsl,hbk3,hadd,he,Var.v,Nat.testBit]
         repeat' (first|refine a_0 ?_ ?_|refine Out.branch ?_ ?_|refine Ret.branch ?_ ?_)<;>(intro hb;(try(simp only[NB]at hb));simp[-List.getD_eq_getElem?_getD, -getElem?_pos,g0,g1,g2,g36,g37,h38,h7,h8,hx,hi,ha,j1,j2,hset,hbox,hKi,hbox3,k2,hr1,hr2,hlk,ptrV,hbka,hap2,pa,ba,p2,b2,hps2,hcall,p3,b3,hsl,hdr,hbk3,hadd,he,Var.v,Nat.testBit,hb])
         all_goals try refine Out.one ?_
         all_goals try refine Ret.one ?_
         all_goals try(simp[-List.getD_eq_getElem?_getD, *];done)
         all_goals try simp[-List.getD_eq_getElem?_getD]
         all_goals try(intros;omega)
         exact⟨hfin,hMK3⟩
        |false=>
         simp[-List.getD_eq_getElem?_getD, -getElem?_pos,g0,g1,g2,g36,g37,h38,h7,h8,hx,hi,ha,j1,j2,hset,hbox,hKi,hbox3,k2,hr1,hr2,hlk,ptrV,hbka,hap2,pa,p2,hps2,hcall,p3,hsl,hdr,hbk3,hadd,he,Var.v,Nat.testBit]
         repeat' (first|refine a_0 ?_ ?_|refine Out.branch ?_ ?_|refine Ret.branch ?_ ?_)<;>(intro hb;(try(simp only[NB]at hb));simp[-List.getD_eq_getElem?_getD, -getElem?_pos,g0,g1,g2,g36,g37,h38,h7,h8,hx,hi,ha,j1,j2,hset,hbox,hKi,hbox3,k2,hr1,hr2,hlk,ptrV,hbka,hap2,pa,ba,p2,b2,hps2,hcall,p3,b3,hsl,hdr,hbk3,hadd,he,Var.v,Nat.testBit,hb])
         all_goals try refine Out.one ?_
         all_goals try refine Ret.one ?_
         all_goals try(simp[-List.getD_eq_getElem?_getD, *];done)
         all_goals try simp[-List.getD_eq_getElem?_getD]
         all_goals try(intros;omega)
         exact⟨hfin,hMK3⟩
      ·have hbig:sz p n=33:=bn_1 hd hym hne (by unfold val;rw[if_pos k2];omega)
       have hMK3:MK p r m D wv Dc st s3:=⟨Dc3,hM3,hK13,hO13⟩
       have hdec:decide (sz p y.type≤32)=false:=by simpa using h32
       rw[hdec]at hcall
       simp[-List.getD_eq_getElem?_getD, -getElem?_pos,g0,g1,g2,g36,g37,h38,hx,hi,j1,j2,hset,hbox,hKi,k2,hr1,hr2,hlk,ptrV,hbka,hap2,pa,p2,hps2,hcall,p3,Var.v,Nat.testBit]
       refine Out.one ?_
       simp[*]
     ·have k2':(kindOf y.type==2)=false:=by simpa using k2
      have hsd:kindOf y.type=2→∃k,getM D y.type=some k∧(Dc1 k).slots=(sz p y.type:Nat)∧(Dc1 k).drops=need p y.type:=fun h=>absurd h k2
      have hyv:y.type≠[]→val (sz p) y.type≤32:=fun _=>by unfold val;rw[if_neg k2];omega
      have hbox3:=hbox
      have hO13:=hO1
      have hM3:=hMa
      have hK13:=hKa
      have pa:=hMa.prot
      have ba:=hMa.base
      have hsp:=ad_5 hf hM3 (l_ hd) hym hsd
      have hsl:=R_3 r m D Dc1 y.type htl sa hM3.tab
      have hdr:=ae_5 r m D Dc1 y.type htl sa hM3.tab
      rw[hsp.1]at hsl
      rw[hsp.2]at hdr
      have hMK3:MK p r m D wv Dc st sa:=⟨Dc1,hM3,hK13,hO13⟩
      have hbk3:=hM3.tab.decl n k hg
      obtain⟨ddd,ssa,bb3,hddd,hDk3, -⟩:=hM3.ok n k hg
      rw[hd]at hddd;cases hddd
      rw[hDk3]at hbk3
      unfold Decl.cs at hbk3
      simp only at hbk3
      have hfin:=hall hyv
      have hT:=bd_0 (!d0.enum) ((d0.parts.take i).map (sv p)) (by
       intro x hx
       obtain⟨v,hv,rfl⟩:=List.mem_map.1 hx
       unfold sv
       split
       ·omega
       ·rename_i hne;exact hle v hv hne)
      have hVb:sv p y≤32:=by
       unfold sv
       split
       ·omega
       ·rename_i hne;exact hyv hne
      have htl2:((d0.parts.take i).map (sv p)).length≤16:=by have:=hok.2.1;simp;omega
      rw[List.map_take]at h7 hT htl2⊢
      generalize pt (!d0.enum) ((d0.parts.map (sv p)).take i)=T at *
      generalize sv p y=Vy at *
      obtain⟨c,hcc,hadd⟩:=addN T Vy (by omega)
      simp only[List.any_cons,List.any_nil,Bool.or_false]
      rw[←Bool.or_assoc]
      generalize hc8:(d0.hook||(d0.parts.take i).any fun v=>need p v.type)=c8 at *
      generalize need p y.type=ny at *
      cases he:d0.enum with
      |true=>
       rw[he]at hbk3
       have hmx:(if T<Vy then(Vy:Int)else(T:Int))=((max T Vy:Nat):Int):=by split<;>omega
       cases c8 with
       |true=>
        simp[-List.getD_eq_getElem?_getD, -getElem?_pos,g0,g1,g36,g37,h38,h7,h8,hx,hi,ha,j1,j2,hset,hbox,hKi,k2',pa,hsl,hbk3,hmx,Var.v,Nat.testBit]
        repeat' (first|refine a_0 ?_ ?_|refine Out.branch ?_ ?_|refine Ret.branch ?_ ?_)<;>(intro hb;(try(simp only[NB]at hb));simp[-List.getD_eq_getElem?_getD, -getElem?_pos,g0,g1,g2,g36,g37,h38,h7,h8,hx,hi,ha,j1,j2,hset,hbox,hKi,hbox3,k2,k2',pa,ba,hsl,hdr,hbk3,hmx,he,Var.v,Nat.testBit,hb])
        all_goals try refine Out.one ?_
        all_goals try refine Ret.one ?_
        all_goals try(simp[-List.getD_eq_getElem?_getD, *];done)
        all_goals try simp[-List.getD_eq_getElem?_getD]
        all_goals try(intros;omega)
        exact⟨hfin,hMK3⟩
       |false=>
        simp[-List.getD_eq_getElem?_getD, -getElem?_pos,g0,g1,g36,g37,h38,h7,h8,hx,hi,ha,j1,j2,hset,hbox,hKi,k2',pa,hsl,hdr,hbk3,hmx,Var.v,Nat.testBit]
        repeat' (first|refine a_0 ?_ ?_|refine Out.branch ?_ ?_|refine Ret.branch ?_ ?_)<;>(intro hb;(try(simp only[NB]at hb));simp[-List.getD_eq_getElem?_getD, -getElem?_pos,g0,g1,g2,g36,g37,h38,h7,h8,hx,hi,ha,j1,j2,hset,hbox,hKi,hbox3,k2,k2',pa,ba,hsl,hdr,hbk3,hmx,he,Var.v,Nat.testBit,hb])
        all_goals try refine Out.one ?_
        all_goals try refine Ret.one ?_
        all_goals try(simp[-List.getD_eq_getElem?_getD, *];done)
        all_goals try simp[-List.getD_eq_getElem?_getD]
        all_goals try(intros;omega)
        exact⟨hfin,hMK3⟩
      |false=>
       rw[he]at hbk3
       rw[hcc]at hadd
       cases c8 with
       |true=>
        simp[-List.getD_eq_getElem?_getD, -getElem?_pos,g0,g1,g36,g37,h38,h7,h8,hx,hi,ha,j1,j2,hset,hbox,hKi,k2',pa,hsl,hbk3,hadd,Var.v,Nat.testBit]
        repeat' (first|refine a_0 ?_ ?_|refine Out.branch ?_ ?_|refine Ret.branch ?_ ?_)<;>(intro hb;(try(simp only[NB]at hb));simp[-List.getD_eq_getElem?_getD, -getElem?_pos,g0,g1,g2,g36,g37,h38,h7,h8,hx,hi,ha,j1,j2,hset,hbox,hKi,hbox3,k2,k2',pa,ba,hsl,hdr,hbk3,hadd,he,Var.v,Nat.testBit,hb])
        all_goals try refine Out.one ?_
        all_goals try refine Ret.one ?_
        all_goals try(simp[-List.getD_eq_getElem?_getD, *];done)
        all_goals try simp[-List.getD_eq_getElem?_getD]
        all_goals try(intros;omega)
        exact⟨hfin,hMK3⟩
       |false=>
        simp[-List.getD_eq_getElem?_getD, -getElem?_pos,g0,g1,g36,g37,h38,h7,h8,hx,hi,ha,j1,j2,hset,hbox,hKi,k2',pa,hsl,hdr,hbk3,hadd,Var.v,Nat.testBit]
        repeat' (first|refine a_0 ?_ ?_|refine Out.branch ?_ ?_|refine Ret.branch ?_ ?_)<;>(intro hb;(try(simp only[NB]at hb));simp[-List.getD_eq_getElem?_getD, -getElem?_pos,g0,g1,g2,g36,g37,h38,h7,h8,hx,hi,ha,j1,j2,hset,hbox,hKi,hbox3,k2,k2',pa,ba,hsl,hdr,hbk3,hadd,he,Var.v,Nat.testBit,hb])
        all_goals try refine Out.one ?_
        all_goals try refine Ret.one ?_
        all_goals try(simp[-List.getD_eq_getElem?_getD, *];done)
        all_goals try simp[-List.getD_eq_getElem?_getD]
        all_goals try(intros;omega)
        exact⟨hfin,hMK3⟩
    ·rintro f st1 hk ⟨h38,h7,h8,hle,hMK⟩
     have g37:f 37= .int .i64 (d0.parts.length:Nat):=by simp[hk]
     clear hk
     rw[List.take_length]at h7 h8 hle
     simp[-List.getD_eq_getElem?_getD, -getElem?_pos,g37,h38]
     repeat' (first|refine a_0 ?_ ?_|refine Out.branch ?_ ?_|refine Ret.branch ?_ ?_)<;>(intro hb;(try(simp only[NB]at hb));simp[-List.getD_eq_getElem?_getD, -getElem?_pos,g37,h38,h7,h8,hb])
     all_goals try refine Out.one ?_
     all_goals try refine Ret.one ?_
     all_goals try(simp[-List.getD_eq_getElem?_getD, *];done)
     all_goals try simp[-List.getD_eq_getElem?_getD,h7,h8]
     all_goals try(intros;omega)
     exact⟨hle,hMK⟩
    ·rintro e f st1 ⟨⟨rfl,h7,h8,hle,Dc1,hM1,hK1,hO1⟩|⟨rfl,h6,h33,Dc1,hM1,hK1,hO1⟩,hk⟩
     ·obtain⟨d1,s1,b1,hd1,hDk1, -⟩:=hM1.ok n k hg
      rw[hd]at hd1;cases hd1
      have hbk1:=hM1.tab.decl n k hg
      rw[hDk1]at hbk1
      unfold Decl.cs at hbk1
      simp only at hbk1
      have g1:f 1= .ptr k 0:=by simp[hk]
      clear hk
      have hsm:=ba_1 hf.right hd hle
      have hnd:=aL_3 hd (by have:=al_1 hok.1;rwa [hnm]at this)
      rw[aO_3 hf.right]at hnd
      rw[←hnd]at h8
      have hpl2:=bd_0 (!d0.enum) (d0.parts.map (sv p)) (by
       intro x hx
       obtain⟨v,hv,rfl⟩:=List.mem_map.1 hx
       unfold sv
       split
       ·omega
       ·rename_i hne;exact hle v hv hne)
      rw[List.length_map]at hpl2
      have hlp:=hok.2.1
      generalize pt (!d0.enum) (d0.parts.map (sv p))=tot at *
      have j1:=hM1.base
      have j2:=hM1.prot
      have hkl:=(List.getElem?_eq_some_iff.1 hbk1).1
      have hss:∀cs cs':List V,setO (setO st1 k (.box cs)) k (.box cs')=setO st1 k (.box cs'):=fun cs cs'=>by simp[setO]
      have hgs:∀cs:List V,(st1.store.set k (.box cs))[k]? =some (.box cs):=fun cs=>List.getElem?_set_self hkl
      have hat:=add1 (i:=tot) (by omega)
      have hfin:∀S:Nat,S≤2000→S=max (if d0.enum=true then tot+1 else tot) 1→MOut p r m D wv n k Dc st (setO st1 k (.box [.str d0.name, .int .i64 d0.at_, .bool d0.enum, .bool d0.hook, .list false d0.nl (d0.parts.map Var.v), .int .i64 (S:Nat), .bool (need p n)]))∧decide ((S:Int)≤32)=decide (sz p n≤32):=by
       intro S hS1 hS2
       have hsz:sz p n=min S 33:=by rw[hsm,hS2]
       have hmeas:Meas p n (S:Nat) (need p n):=by
        by_cases h32:S≤32
        ·exact .inr (.inl ⟨by omega,by omega,rfl⟩)
        ·exact .inr (.inr ⟨by omega,by omega,by omega⟩)
       refine⟨⟨_,hM1.put hg hd hmeas,fun h=> ?_,hK1.put hg _,fun x hx=> ?_⟩,?_⟩
       ·rw[if_pos rfl];exact⟨by show((S:Nat):Int)=_;omega,rfl⟩
       ·have hxk:x≠k:=by intro e;rw[e,hDk]at hx;exact hx rfl
        show(if x=k then _ else Dc1 x)=_
        rw[if_neg hxk];exact hO1 x hx
       ·rw[decide_eq_decide];omega
      cases he:d0.enum with
      |true=>
       rw[he]at hfin hbk1
       simp only[if_true]at hfin
       obtain⟨hf1,hf2⟩:=hfin (tot+1) (by omega) (by omega)
       have hmx:¬((tot:Int)+1<1):=by omega
       rw[←hf2]
       have hcast:((tot+1:Nat):Int)=(tot:Int)+1:=by omega
       rw[hcast]at hf1⊢
       simp[-List.getD_eq_getElem?_getD, -getElem?_pos,g1,hbk1,h7,h8,hat,j1,j2,hss,hgs,hmx]
       exact Ret.one ⟨rfl,hf1⟩
      |false=>
       rw[he]at hfin hbk1
       simp only[Bool.false_eq_true,if_false]at hfin
       by_cases h0:tot=0
       ·subst h0
        obtain⟨hf1,hf2⟩:=hfin 1 (by omega) (by omega)
        rw[←hf2]
        simp[-List.getD_eq_getElem?_getD, -getElem?_pos,g1,hbk1,h7,h8,j1,j2,hss,hgs]
        exact Ret.one ⟨rfl,hf1⟩
       ·obtain⟨hf1,hf2⟩:=hfin tot (by omega) (by omega)
        have hmx:¬((tot:Int)<1):=by omega
        rw[←hf2]
        simp[-List.getD_eq_getElem?_getD, -getElem?_pos,g1,hbk1,h7,h8,j1,j2,hss,hgs,hmx]
        exact Ret.one ⟨rfl,hf1⟩
     ·have hfin:MOut p r m D wv n k Dc st st1:=⟨Dc1,hM1,fun h=>by omega,hK1,hO1⟩
      rw[h33]
      simp[-List.getD_eq_getElem?_getD, -getElem?_pos,h6]
      exact Ret.one ⟨rfl,hfin⟩
  ·have hpos:0<s:=by
    have:=aT_4 p n
    rcases hS with⟨h1, -⟩|⟨-,h1, -⟩|⟨-,h1, -⟩<;>omega
   have hle:decide (s≤32)=decide (sz p n≤32):=by
    rw[decide_eq_decide]
    rcases hS with⟨h1, -⟩|⟨h2,h1, -⟩|⟨h2,h1, -⟩<;>omega
   have hfin:MOut p r m D wv n k Dc st st:=by
    refine⟨Dc,hM,fun h=> ?_,⟨rfl,rfl,Nat.le_refl _,fun _ _ h _ _=>h⟩,fun _ _=>rfl⟩
    rw[hDk]
    rcases hS with⟨h1, -⟩|⟨h2,h1,h3⟩|⟨h2,h1, -⟩
    ·omega
    ·exact⟨h1,h3⟩
    ·omega
   rw[run40 (by simp)]
   simp[-List.getD_eq_getElem?_getD, -getElem?_pos,hbk,hpos,hle]
   exact Ret.one ⟨rfl,hfin⟩
end Go.Proofs.YtbbeelalcamgjaaGreatDoor
namespace Go.Proofs.YtbbeelalcamgjaaGreatDoor
open Go.Abs
set_option maxRecDepth 100000
set_option linter.unusedSimpArgs false
set_option linter.unusedVariables false
set_option maxHeartbeats 4000000
section
variable {T:Tab} {α:Type}
noncomputable def rangeK(T:Tab)(v:V)(n:Nat)(f:Nat→V)(m:List Nat)(ps:Array Tmp)(a b:Code)(st:St)(K:E→Fr→St→Option α):Option α:=match rangeB T v n f m ps a b st with
 |none=>none
 |some (e,fr,st)=>K e fr st
variable {v:V} {n:Nat} {f:Nat→V} {m:List Nat} {ps:Array Tmp} {a b:Code} {st:St} {K:E→Fr→St→Option (E×Fr×St)}
theorem bg_1:rangeB T v n f m ps a b st=rangeK T v n f m ps a b st fun e fr st=>some (e,fr,st):=by
 unfold rangeK;cases rangeB T v n f m ps a b st with
 |none=>rfl
 |some x=>rfl
theorem aw_4{k2:Fr→St→Option (E×Fr×St)}:andThen (rangeK T v n f m ps a b st K) k2=rangeK T v n f m ps a b st fun e fr st=>andThen (K e fr st) k2:=by
 unfold rangeK;cases rangeB T v n f m ps a b st<;>rfl
theorem an_8{id:Nat}:closeB id (rangeK T v n f m ps a b st K)=rangeK T v n f m ps a b st fun e fr st=>closeB id (K e fr st):=by
 unfold rangeK;cases rangeB T v n f m ps a b st<;>rfl
theorem ak_6{rs:List ResultVar}:leave T rs (rangeK T v n f m ps a b st K)=rangeK T v n f m ps a b st fun e fr st=>leave T rs (K e fr st):=by
 unfold rangeK;cases rangeB T v n f m ps a b st<;>rfl
theorem aT_9{K:E→Fr→St→Option (V×St)}{P:V→St→Prop}{Q:St→Prop}(h:∃s',rangeB T v n f m ps a b st=some (.normal,mk n f (st.store.length::m),s')∧Q s')(hk:∀s',Q s'→Ret P (K .normal (mk n f (st.store.length::m)) s')):Ret P (rangeK T v n f m ps a b st K):=by
 obtain⟨s',h1,h2⟩:=h
 unfold rangeK
 rw[h1]
 exact hk s' h2
end
theorem tbext(g:FuncId):g≠306∧g≠262→tb.ext g=none:=by
 intro h
 rw[a_]
 show(if g=306 then some Ext.indexByteString else if g=262 then some Ext.countString else .none)=none
 rw[if_neg h.1,if_neg h.2]
def fillD(ds:List Decl)(al:List Nat):List (Str×Nat):=(ds.zip al).foldr (fun x D=>putM D x.1.name x.2) []
theorem aK_5{ds:List Decl}{al:List Nat}{i k:Nat}{d:Decl}(h1:ds[i]? =some d)(h2:al[i]? =some k):fillD (ds.drop i) (al.drop i)=putM (fillD (ds.drop (i+1)) (al.drop (i+1))) d.name k:=by
 have e1:=List.drop_eq_getElem_cons (List.getElem?_eq_some_iff.1 h1).1
 have e2:=List.drop_eq_getElem_cons (List.getElem?_eq_some_iff.1 h2).1
 rw[(List.getElem?_eq_some_iff.1 h1).2]at e1
 rw[(List.getElem?_eq_some_iff.1 h2).2]at e2
 rw[e1,e2];rfl
structure Filled(s s':St)(m:Nat)(D:List (Str×Nat)):Prop where
 base:s'.base=s.base
 prot:s'.prot=s.prot
 len:s.store.length≤s'.store.length
 get:∀i,i<s.store.length→i≠m→s'.store[i]? =s.store[i]?
 map:s'.store[m]? =some (ptrs D)
 defs:s'.store[s.store.length]? =some .defs
theorem aY_9(F:Nat→V)(s:St)(kb r m b5:Nat)(l1 l2 l3 lv:V)(al:List Nat)(ds:List Decl)(hb:s.base=0)(hp:s.prot=[])(h5:F 5= .ptr b5 0)(hb5:s.store[b5]? =some (.box [.ptr r 0]))(hr:s.store[r]? =some (.box [l1,l2,l3, .map m]))(hm:s.store[m]? =some (ptrs []))
  (hkb:s.store[kb]? =some (.box [lv])) (hA:AccT 1 s lv (al.map fun k=> .ptr k 0)) (hlen:al.length=ds.length) (hat:∀(i k:Nat) (d:Decl),al[i]? =some k→ds[i]? =some d→s.store[k]? =some (.box d.cs)) (hl:al.length<2^30):
  ∃s',rangeB tb (.func (.func 102) [] [.ptr kb 0]) 66 F [] #[25,26] (.region 6 o14_19 false) c14_20 s=some (.normal,mk 66 F (s.store.length::[]),s')∧Filled s s' m (fillD ds al):=by
 obtain⟨lp,hlp⟩:∃lp,lp=fillLp F s.store.length:=⟨_,rfl⟩
 have hml:=(List.getElem?_eq_some_iff.1 hm).1
 have hse:∀(i:Nat) (o:O),s.store[i]? =some o→(enterSt s lp).store[i]? =some o:=fun i o h=>a_2 h
 have hmse:=hse m _ hm
 have hK0:setO (enterSt s lp) m (ptrs (fillD (ds.drop al.length) (al.drop al.length)))=enterSt s lp:=by
  have:fillD (ds.drop al.length) (al.drop al.length)=[]:=by simp[fillD]
  rw[this]
  unfold setO
  rw[aK_7 hmse]
 have hloop:(enterSt s lp).store[s.store.length+1]? =some (.loop lp):=by
  show(s.store ++[O.defs,O.loop lp])[s.store.length+1]? =_
  exact O_9
 have hdefs:(enterSt s lp).store[s.store.length]? =some .defs:=by
  show(s.store ++[O.defs,O.loop lp])[s.store.length]? =_
  exact N_1
 have hkeep:∀(D:List (Str×Nat)) (i:Nat) (o:O),i≠m→(enterSt s lp).store[i]? =some o→(setO (enterSt s lp) m (ptrs D)).store[i]? =some o:=fun D i o hi h=>by
  show((enterSt s lp).store.set m _)[i]? =_
  rw[List.getElem?_set_ne (Ne.symm hi)];exact h
 have hbm:∀(i:Nat) (cs:List V),s.store[i]? =some (.box cs)→i≠m:=fun i cs h e=>by subst e;rw[hm]at h;cases h
 have hAk:∀D,Go.Abs.Acc 1 (setO (enterSt s lp) m (ptrs D)) lv (al.map fun k=> .ptr k 0):=fun D=>by
  rcases hA with h|⟨q,h1,h2,h3⟩
  ·exact .inl h
  ·exact .inr ⟨q,true,h2,hkeep D q _ (fun e=>by subst e;rw[hm]at h3;cases h3) (hse q _ h3),h1⟩
 obtain⟨rv,s2,hcall,hK⟩:=aY_0 (s.store.length+1) kb lv al (fun i st=>st=setO (enterSt s lp) m (ptrs (fillD (ds.drop i) (al.drop i)))) hl
  (by
   rintro i st rfl
   exact⟨hkeep _ _ _ (hbm _ _ hkb) (hse _ _ hkb),hAk _⟩)
  (by
   rintro i k st hx rfl
   have hil:=(List.getElem?_eq_some_iff.1 hx).1
   have hd:ds[i]? =some ds[i]:=List.getElem?_eq_getElem (by omega)
   generalize ds[i]=d at *
   have hk:=hat i k d hx hd
   refine⟨_,aD_7 F s.store.length (s.store.length+1) r m b5 i k l1 l2 l3 (fillD (ds.drop (i+1)) (al.drop (i+1))) d _ hb hp (hkeep _ _ _ (by omega) (by rw[←hlp];exact hloop)) h5 (hkeep _ _ _ (hbm _ _ hb5) (hse _ _ hb5)) (hkeep _ _ _ (hbm _ _ hr) (hse _ _ hr)) ?_ (hkeep _ _ _ (hbm _ _ hk) (hse _ _ hk)),?_⟩
   ·show((enterSt s lp).store.set m _)[m]? =_
    rw[List.getElem?_set_self (List.getElem?_eq_some_iff.1 hmse).1]
   ·rw[aK_5 hd hx]
    unfold setO
    simp only[List.set_set])
  (enterSt s lp) hK0.symm
 simp only[List.drop_zero]at hK
 have hl2:s2.store[s.store.length+1]? =some (.loop lp):=by rw[hK];exact hkeep _ _ _ (by omega) hloop
 refine⟨{s2 with store:=s2.store.set (s.store.length+1) (.loop {lp with state:= .exhausted})},?_,?_⟩
 ·rw[aJ_7 (tbext _ (by decide))]
  have e:V_0 (mk 66 F []).tmps #[25,26] (.region 6 o14_19 false) c14_20 s.store.length=lp:=by rw[hlp];rfl
  rw[e]
  have e2:([] ++[V.func (.yield (s.store.length+1)) [] []] ++[V.ptr kb 0])=[V.func (.yield (s.store.length+1)) [] [],V.ptr kb 0]:=rfl
  rw[e2,hcall]
  exact an_5 hl2 (by rw[hlp];intro h;cases h) (by rw[hK];simp[St.locked,setO,enterSt,hb,hp]) (by rw[hlp];rfl)
 ·rw[hK]
  have hne:m≠s.store.length+1:=by omega
  refine⟨rfl,rfl,by simp[setO,enterSt],fun i hi hne2=> ?_,?_,?_⟩
  ·show(((enterSt s lp).store.set m _).set (s.store.length+1) _)[i]? =_
   rw[List.getElem?_set_ne (by omega),List.getElem?_set_ne (Ne.symm hne2)]
   show(s.store ++_)[i]? =_
   rw[List.getElem?_append_left hi]
  ·show(((enterSt s lp).store.set m _).set (s.store.length+1) _)[m]? =_
   rw[List.getElem?_set_ne (Ne.symm hne),List.getElem?_set_self (List.getElem?_eq_some_iff.1 hmse).1]
  ·show(((enterSt s lp).store.set m _).set (s.store.length+1) _)[s.store.length]? =_
   rw[List.getElem?_set_ne (by omega),List.getElem?_set_ne (by omega)]
   exact hdefs
end Go.Proofs.YtbbeelalcamgjaaGreatDoor
namespace Go.Proofs.YtbbeelalcamgjaaGreatDoor
open Go.Abs
set_option maxRecDepth 100000
theorem ag_7(n:Str):∀(ds:List Decl) (al:List Nat),getM (fillD ds al) n=((ds.zip al).find? fun x=>x.1.name==n).map (·.2)
 |[],al=>by simp[fillD,getM]
 |d::ds,[]=>by simp[fillD,getM]
 |d::ds,a::al=>by
  have ih:=ag_7 n ds al
  have e:fillD (d::ds) (a::al)=putM (fillD ds al) d.name a:=rfl
  rw[e,aS_3,ih,List.zip_cons_cons,List.find?_cons]
  by_cases h:n=d.name
  ·subst h;simp
  ·have h1:(n==d.name)=false:=by simpa using h
   have h2:(d.name==n)=false:=by simpa using fun e=>h e.symm
   simp[h1,h2]
theorem ag_3(n:Str):∀(ds:List Decl) (al:List Nat),al.length=ds.length→((ds.zip al).find? fun x=>x.1.name==n).map (·.1)=ds.find? fun d=>d.name==n
 |[],al,_=>by simp
 |d::ds,[],h=>by simp at h
 |d::ds,a::al,h=>by
  have ih:=ag_3 n ds al (by simpa using h)
  rw[List.zip_cons_cons,List.find?_cons,List.find?_cons]
  cases d.name==n with
  |true=>rfl
  |false=>exact ih
theorem I_8{n:Str}{k:Nat}{ds:List Decl}{al:List Nat}(h:getM (fillD ds al) n=some k):∃(i:Nat) (d:Decl),ds[i]? =some d∧al[i]? =some k∧d.name=n∧(al.length=ds.length→(ds.find? fun d=>d.name==n)=some d):=by
 rw[ag_7]at h
 cases hf:(ds.zip al).find? (fun x=>x.1.name==n)with
 |none=>rw[hf]at h;cases h
 |some x=>
  rw[hf]at h
  simp only[Option.map_some,Option.some.injEq]at h
  have hm:=List.mem_of_find?_eq_some hf
  have hn:=List.find?_some hf
  obtain⟨i,hi,he⟩:=List.mem_iff_getElem.1 hm
  rw[List.getElem_zip]at he
  have h1:i<ds.length:=by simp at hi;omega
  have h2:i<al.length:=by simp at hi;omega
  refine⟨i,x.1,?_,?_,by simpa using hn,fun hl=> ?_⟩
  ·rw[List.getElem?_eq_getElem h1];rw[←he]
  ·rw[List.getElem?_eq_getElem h2];rw[←h,←he]
  ·rw[←ag_3 n ds al hl,hf];rfl
theorem af_8{n:Str}{ds:List Decl}{al:List Nat}(hl:al.length=ds.length):(getM (fillD ds al) n).isSome=(ds.find? fun d=>d.name==n).isSome:=by
 rw[ag_7,←ag_3 n ds al hl]
 simp
theorem ay_2(p:Prog){al:List Nat}(hl:al.length=(declsOf p).length)(t:Str):knownM (fillD (declsOf p) al) t=known p t:=by
 unfold knownM known
 congr 2
 rw[af_8 hl]
 show(declOf p _).isSome=_
 rw[B_3]
 cases p.st (baseOf t).1 with
 |some s=>rfl
 |none=>cases p.en (baseOf t).1<;>rfl
def Dc0(ds:List Decl)(al:List Nat)(k:Nat):Decl:=(((al.zip ds).find? fun x=>x.1==k).map (·.2)).getD ⟨[],0,false,false,none,[],0,false⟩
theorem aN_1:∀(ds:List Decl) (al:List Nat) (i k:Nat) (d:Decl),al.Nodup→al[i]? =some k→ds[i]? =some d→Dc0 ds al k=d
 |[],al,i,k,d,_,_,h=>by simp at h
 |d0::ds,[],i,k,d,_,h,_=>by simp at h
 |d0::ds,a::al,0,k,d,hn,h1,h2=>by
  simp only[List.getElem?_cons_zero,Option.some.injEq]at h1 h2
  subst h1 h2
  simp[Dc0]
 |d0::ds,a::al,i+1,k,d,hn,h1,h2=>by
  simp only[List.getElem?_cons_succ]at h1 h2
  rw[List.nodup_cons]at hn
  have ih:=aN_1 ds al i k d hn.2 h1 h2
  have hne:(a==k)=false:=by
   have:=List.mem_of_getElem? h1
   simp;intro e;subst e;exact hn.1 this
  unfold Dc0 at ih⊢
  rw[List.zip_cons_cons,List.find?_cons,hne]
  exact ih
theorem aO_8{al:List Nat}(hn:al.Nodup){i j k:Nat}(h1:al[i]? =some k)(h2:al[j]? =some k):i=j:=by
 have a:=(List.getElem?_eq_some_iff.1 h1)
 have b:=(List.getElem?_eq_some_iff.1 h2)
 obtain⟨a1,a2⟩:=a
 obtain⟨b1,b2⟩:=b
 rw[List.nodup_iff_pairwise_ne,List.pairwise_iff_getElem]at hn
 rcases Nat.lt_trichotomy i j with h|h|h
 ·exact absurd (a2.trans b2.symm) (hn i j a1 b1 h)
 ·exact h
 ·exact absurd (b2.trans a2.symm) (hn j i b1 a1 h)
theorem aY_4{p:Prog}{r m:Nat}{st:St}{al:List Nat}(hl:al.length=(declsOf p).length)(hnd:al.Nodup)(hat:∀(i k:Nat) (d:Decl),al[i]? =some k→(declsOf p)[i]? =some d→st.store[k]? =some (.box d.cs))
  (hb:st.base=0) (hp:st.prot=[]) (hr:∃l1 l2 l3,st.store[r]? =some (.box [l1,l2,l3, .map m])) (hm:st.store[m]? =some (ptrs (fillD (declsOf p) al))):MSt p r m (fillD (declsOf p) al) st (Dc0 (declsOf p) al):=by
 refine⟨⟨hr,hm,fun n k hk=> ?_⟩,hb,hp,fun n k hk=> ?_,fun n d0 hd=> ?_,fun n n' k h1 h2=> ?_⟩
 ·obtain⟨i,d,h1,h2,h3, -⟩:=I_8 hk
  rw[aN_1 _ _ i k d hnd h2 h1];exact hat i k d h2 h1
 ·obtain⟨i,d,h1,h2,h3,h4⟩:=I_8 hk
  have hd:declOf p n=some d:=h4 hl
  have:=C_1 hd
  refine⟨d,0,false,hd,?_, .inl ⟨rfl,rfl⟩⟩
  rw[aN_1 _ _ i k d hnd h2 h1]
  obtain⟨-, -, -,e1,e2⟩:=this
  cases d;simp only at e1 e2;subst e1 e2;rfl
 ·have:=af_8 (n:=n) hl
  unfold declOf at hd
  rw[hd]at this
  exact Option.isSome_iff_exists.1 this
 ·obtain⟨i,d,a1,a2,a3, -⟩:=I_8 h1
  obtain⟨j,e,b1,b2,b3, -⟩:=I_8 h2
  have:=aO_8 hnd a2 b2
  subst this
  rw[a1]at b1;cases b1
  rw[←a3,←b3]
theorem aC_7{l:List Str}(h:∀(i:Nat) (x:Str),l[i]? =some x→(l.take i).contains x=false):l.Nodup:=by
 rw[List.nodup_iff_pairwise_ne,List.pairwise_iff_getElem]
 intro i j hi hj hij e
 have h1:=h j l[j] (List.getElem?_eq_getElem hj)
 have:l[i]∈l.take j:=by
  rw[List.mem_take_iff_getElem]
  exact⟨i,by omega,rfl⟩
 rw[e]at this
 simp at h1
 exact h1 this
theorem bh_1{p:Prog}(h:p.size≤1048576)(hr:right p=true)(hd:dg1 p (declsOf p)=[]):Fine p:=by
 have hall:∀(i:Nat) (d:Decl),(declsOf p)[i]? =some d→N_7 p (declsOf p) (d,i)=[]:=fun i d hi=>by
  have hm:(d,i)∈(declsOf p).zipIdx:=by
   rw[List.mem_iff_getElem?];exact⟨i,by simp[hi]⟩
  exact List.flatMap_eq_nil_iff.1 hd _ hm
 refine⟨h,hr,aC_7 fun i x hx=> ?_,fun d hdm v hv hne=> ?_⟩
 ·rw[List.getElem?_map]at hx
  cases hdi:(declsOf p)[i]? with
  |none=>rw[hdi]at hx;cases hx
  |some d=>
   rw[hdi]at hx
   simp only[Option.map_some,Option.some.injEq]at hx
   have:=hall i d hdi
   unfold N_7 at this
   rw[List.append_eq_nil_iff]at this
   rw[←List.map_take,ae_6 x _ i d hdi hx]
   have h1:=this.1
   simp only at h1
   rw[hx]at h1
   rw[decide_eq_false_iff_not]
   intro hc
   rw[if_pos hc]at h1;cases h1
 ·obtain⟨i,hi⟩:=List.mem_iff_getElem?.1 hdm
  have:=hall i d hi
  unfold N_7 at this
  rw[List.append_eq_nil_iff]at this
  have h2:=this.2
  obtain⟨j,hj⟩:=List.mem_iff_getElem?.1 hv
  have hm:(v,j)∈d.parts.zipIdx:=by
   rw[List.mem_iff_getElem?];exact⟨j,by simp[hj]⟩
  have h3:=List.flatMap_eq_nil_iff.1 h2 _ hm
  unfold dgVar at h3
  rw[List.append_eq_nil_iff]at h3
  cases hk:known p v.type with
  |true=>rfl
  |false=>
   have h4:=h3.2
   rw[if_pos ⟨hne,hk⟩]at h4
   cases h4
end Go.Proofs.YtbbeelalcamgjaaGreatDoor
namespace Go.Proofs.YtbbeelalcamgjaaGreatDoor
open Go.Abs
attribute [local simp] N_6 O_3 v_9 H_6 l_0 P_0 F_5 E_3 u_1 d_0 k_2 o_3 c_3 f_0 i_2 c_0 i_4 finish dropMarks resOf
 resList m_1 o_1 h_4 f_9 d_ c_1 n_2 h_5 c_ b_1 b_0 b_9 c_4 f_6 f_4 d_4
 d_2 g_2 o_8 P_4 C_4 m_4 F_1 f_5 P_8 s_un G_ t_7 d_3 d_7 v_5 t_0 i_5 B_9 w_3 O_8 F_6 C_8 P_ n_9
 c_9 c_2 m_3 x_3 e_3 j_4 o_0 p_ o_9 n_5 a_7 c_8 f_8 e_5 f_3 k_ j_ h_8 g_0
 w_ m_7 m_8 n_7 u_6 u_8 u_5 i_9 v_7 evArgs m_ h_3 o_2 f_2 o_ C_7 ofValue ofValues isConst D_5 E_5 H_ C_ G_9
 E_9 E_4 E_0 G_5 G_4 D_7 E_2 C_5 D_0 F_9 H_5 strBin bne E_6 D_4 C_6 convV evConv optArg a_5 argF D_1 v_4 s_3 r_0 n_3 B_7 v_1
 x_1 m_9 h_6 j_7 k_0 i_7 j_0 g_ F_3 u_0 i_6 k_1 okCells P_9 d_6 l_8 g_3 k_3 j_3 g_1 i_0
 j_2 m_2 s_1 u_9 o_5 w_9 s_9 n_ u_ v_6 h_0 j_8 e_7 e_2 j_9 splice putElem k_6 H_3 E_8 k_4 m_6
 g_7 v_2 e_6 bdV fill o_6 bsF setAll d_8 f_7 F_2 e_9 i_1 i_8 f_1 r_ w_2 q_1 s_5 F_8 t_2 u_3 p_4 j_1
 r_9 F_7 D_ w_4 e_1 c_7 r_1 v_ n_4 s_ h_7 G_6 u_7 n_1 D_2 t_4 q_2 D_9 k_8 w_7 c_6 o_4 j_5 G_1
 v_3 F_ B_6 E_1 f_ x_2 t_6 H_1 D_6 H_0 C_2 s_8 m_5 w_8 t_8 deep List.getD_cons_zero List.getD_cons_succ List.getElem?_cons_zero
 List.getElem?_cons_succ List.getElem?_nil s_0 s_2 E_ G_2 G_0 C_0 x_0 v_8 B_8 F_0 x_4 w_1 t_ w_5 t_1 u_4 n_6 n_0 C_9 F_4
 i_3 i_ s_7 t_9 e_8 e_4 D_3 G_3 G_8 C_3 ld26 sr26 al26 S_ S_0 R_8 bd26 ld4 sr4 und4 bd76 aW_9 ln30 lo30 ap30 bs30 ld90 ak_9 al_2 bd92 ld39
 sr39 al39 ld88 bl_8 ia88 ib88 ln88 lo88 ap88 bs88 aq_ ao_4 ao_ al_ al_0 an_2 am_1 bd98 ld9 und9 ln9 ix9 ld3 sr3 und3 ld96 ld36 sr36 Q_2 ia36 ib36 ln36 lo36 sl36 ap36 bs36 lu90 pn96
 aN_2 o_7 A_3 B_5 p_0 p_7 d_5 c_5 g_9 l_7 q14_21 l14_21 p14_31 as_ S_9 S_2 as_2 kdOp kdOf isPure readsOf protS bg_1 aw_4 an_8
 ak_6 mm90 mu90 D_Rg S14 L14_1 L14_4 L14_7 L14_11 L14_13 L14_16 L14_19 M14_19 L14_23 L14_26 L14_29 L14_33 L14_41 L14_43 L14_45 L14_47 L14_51 L14_54 L14_58
set_option maxRecDepth 100000
set_option linter.unusedSimpArgs false
set_option linter.unusedVariables false
set_option maxHeartbeats 4000000
noncomputable def T_0(p:Prog)(d:Decl):List Dg:=if 32<sz p d.name then [⟨d.at_,11⟩]else []
noncomputable def dg2(p:Prog)(ds:List Decl):List Dg:=ds.flatMap (T_0 p)
def Done(p:Prog)(D:List (Str×Nat))(Dc:Nat→Decl)(ns:List Str):Prop:=∀n k,n∈ns→getM D n=some k→sz p n≤32→(Dc k).slots=(sz p n:Nat)∧(Dc k).drops=need p n
def MDone(p:Prog)(r m:Nat)(D:List (Str×Nat))(st:St)(ns:List Str):Prop:=∃Dc,MSt p r m D st Dc∧Done p D Dc ns
structure KeepS(D:List (Str×Nat))(a b:St):Prop where
 base:b.base=a.base
 prot:b.prot=a.prot
 len:a.store.length≤b.store.length
 get:∀(i:Nat) (o:O),a.store[i]? =some o→(∀n,getM D n≠some i)→b.store[i]? =some o
theorem KeepS.rest{D:List (Str×Nat)}{a b c:St}{v:V}{es:List V}(h:KeepS D a b)(hA:AccT 2 b v es)(hr:∀r,refOf v=some r→a.store.length≤r)(hR:Go.Abs.Rest (refOf v) b c):KeepS D a c:=
 ⟨hR.base.trans h.base,hR.prot.trans h.prot,Nat.le_trans h.len hR.len,fun i o hi hn=>hR.get i o (h.get i o hi hn) fun e=>by
  have:=hr i e
  have:=(List.getElem?_eq_some_iff.1 hi).1
  omega⟩
theorem KeepS.keep{D:List (Str×Nat)}{a b c:St}{nl:V}(hnl:refOf nl=none)(h:KeepS D a b)(hK:Keep D nl b c):KeepS D a c:=
 ⟨hK.base.trans h.base,hK.prot.trans h.prot,Nat.le_trans h.len hK.len,fun i o hi hn=>hK.get i o (h.get i o hi hn) hn fun _ r hr=>by rw[hnl]at hr;cases hr⟩
theorem MSt.rest{p:Prog}{r m:Nat}{D:List (Str×Nat)}{b c:St}{Dc:Nat→Decl}{v:V}{es:List V}(h:MSt p r m D b Dc)(hA:AccT 2 b v es)(hR:Go.Abs.Rest (refOf v) b c):MSt p r m D c Dc:=by
 have hne:∀(i:Nat) (o:O),b.store[i]? =some o→(∀es,o≠ .vec true es)→c.store[i]? =some o:=fun i o hi ho=>hR.get i o hi fun e=>by
  rcases hA with⟨nl,rfl, -⟩|⟨q, -,rfl,h3⟩
  ·cases e
  ·cases e;rw[hi]at h3;cases h3;exact ho es rfl
 obtain⟨l1,l2,l3,h1⟩:=h.tab.box
 exact⟨⟨⟨l1,l2,l3,hne _ _ h1 (fun _ e=>by cases e)⟩,hne _ _ h.tab.ents (fun _ e=>by cases e),fun n k hk=>hne _ _ (h.tab.decl n k hk) (fun _ e=>by cases e)⟩,hR.base.trans h.base,hR.prot.trans h.prot,h.ok,h.dom,h.inj⟩
theorem aG_9(p:Prog)(n:Str):((sz p n:Nat):Int)≠0:=by have:=aT_4 p n;omega
theorem Done.mono{p:Prog}{D:List (Str×Nat)}{Dc Dc':Nat→Decl}{ns:List Str}(h:Done p D Dc ns)(hm:Mono Dc Dc'):Done p D Dc' ns:=fun n k hn hk hs=>by
 have h1:=h n k hn hk hs
 have h2:=hm k (by rw[h1.1];exact aG_9 p n)
 rw[h2];exact h1
theorem as_1{p:Prog}(hf:Fine p){i j:Nat}{d e:Decl}(h1:(declsOf p)[i]? =some d)(h2:(declsOf p)[j]? =some e)(he:d.name=e.name):i=j:=by
 have a:((declsOf p).map Decl.name)[i]? =some d.name:=by rw[List.getElem?_map,h1];rfl
 have b:((declsOf p).map Decl.name)[j]? =some d.name:=by rw[List.getElem?_map,h2,he];rfl
 have hn:=hf.names
 obtain⟨a1,a2⟩:=List.getElem?_eq_some_iff.1 a
 obtain⟨b1,b2⟩:=List.getElem?_eq_some_iff.1 b
 rw[List.nodup_iff_pairwise_ne,List.pairwise_iff_getElem]at hn
 rcases Nat.lt_trichotomy i j with h|h|h
 ·exact absurd (a2.trans b2.symm) (hn i j a1 b1 h)
 ·exact h
 ·exact absurd (b2.trans a2.symm) (hn j i b1 a1 h)
theorem ak_3{p:Prog}(hf:Fine p){d:Decl}(hd:d∈declsOf p):declOf p d.name=some d:=by
 obtain⟨i,hi⟩:=List.mem_iff_getElem?.1 hd
 cases h:declOf p d.name with
 |none=>
  have:=List.find?_eq_none.1 h d hd
  simp at this
 |some e=>
  obtain⟨j,hj⟩:=List.mem_iff_getElem?.1 (l_ h)
  have:=as_1 hf hi hj (M_9 h).symm
  subst this
  rw[hi]at hj;exact hj.symm
theorem aT_1{p:Prog}(hf:Fine p){al:List Nat}(hl:al.length=(declsOf p).length){i k:Nat}{d:Decl}(h1:(declsOf p)[i]? =some d)(h2:al[i]? =some k):getM (fillD (declsOf p) al) d.name=some k:=by
 have h3:=af_8 (n:=d.name) hl
 have h4:=ak_3 hf (List.mem_of_getElem? h1)
 unfold declOf at h4
 rw[h4]at h3
 obtain⟨k',hk'⟩:=Option.isSome_iff_exists.1 h3
 obtain⟨j,e,a1,a2,a3, -⟩:=I_8 hk'
 have:=as_1 hf h1 a1 a3.symm
 subst this
 rw[h2]at a2;cases a2
 exact hk'
theorem AccT.keep{p:Prog}{r m:Nat}{D:List (Str×Nat)}{wv v:V}{a b:St}{Dc:Nat→Decl}{s:Nat}{es:List V}(hM:MSt p r m D a Dc)(h:AccT s a v es)(hK:Keep D wv a b):AccT s b v es:=by
 rcases h with h|⟨q,h1,rfl,h2⟩
 ·exact .inl h
 ·exact .inr ⟨q,h1,rfl,hK.get _ _ h2 (fun n hn=>by rw[hM.tab.decl n q hn]at h2;cases h2) fun h=>by cases h⟩
theorem aZ_8(p:Prog)(hf:Fine p)(r m b5:Nat)(D:List (Str×Nat))(s:St)(F:Nat→V)(mk0:List Nat)(lv:V)(al:List Nat)(hlen:al.length=(declsOf p).length)(hD:D=fillD (declsOf p) al)
  (hM:MDone p r m D s []) (hA:AccT 1 s lv (al.map fun k=> .ptr k 0)) (hat:∀(i k:Nat) (d:Decl),al[i]? =some k→(declsOf p)[i]? =some d→s.store[k]? =some (.box d.cs))
  (hb5:s.store[b5]? =some (.box [.ptr r 0])) (hl:al.length≤64) (g5:F 5= .ptr b5 0) (g42:F 42=lv) (g43:F 43= .int .i64 (al.length:Nat)) (g44:F 44= .int .i64 0) (nl:Option Bool) (g8:F 8= .list true nl []):
  Out 66 mk0 (fun e f' st'=>(e= .exit 2∧AccT 2 st' (f' 8) ((dg2 p (declsOf p)).map Dg.v)∧MDone p r m D st' ((declsOf p).map Decl.name)∧KeepS D s st'∧(∀r,refOf (f' 8)=some r→s.store.length≤r))∧∀t,t<66→List.contains [45,46,47,10,48,49,50,51,52,53,54,55,56,57,58,59,8,60,44] t=false→f' t=F t) ((run tb).code none c14_31 (mk 66 F mk0) s):=by
 refine a_8 e14_31 w14_31 al.length
  (I:=fun i f st'=>f 44= .int .i64 (i:Nat)∧AccT 2 st' (f 8) ((((declsOf p).take i).flatMap (T_0 p)).map Dg.v)∧MDone p r m D st' (((declsOf p).take i).map Decl.name)∧KeepS D s st'∧(∀r,refOf (f 8)=some r→s.store.length≤r)) ?_ ?_ ?_
 ·refine⟨g44,?_,by simpa using hM,⟨rfl,rfl,Nat.le_refl _,fun _ _ h _=>h⟩,fun r hr=>by rw[g8]at hr;cases hr⟩
  rw[g8];exact ah_5
 ·rintro i f st1 hi hk ⟨h44,hA2,⟨Dc,hM1,hDn⟩,hKS,hr2⟩
  have hil:i<(declsOf p).length:=by omega
  have hx:al[i]? =some al[i]:=List.getElem?_eq_getElem hi
  have hd:(declsOf p)[i]? =some (declsOf p)[i]:=List.getElem?_eq_getElem hil
  have htk:=List.take_succ_eq_append_getElem hil
  have hdm:=List.getElem_mem hil
  rw[htk]
  generalize(declsOf p)[i]=d at *
  generalize al[i]=k at *
  have ha:=add1 (i:=i) (by omega)
  have hg:getM D d.name=some k:=by rw[hD];exact aT_1 hf hlen hd hx
  obtain⟨v,hv⟩:∃v,f 8=v:=⟨_,rfl⟩
  rw[hv]at hA2 hr2
  have g5':f 5= .ptr b5 0:=by simp[hk,g5]
  have g42':f 42=lv:=by simp[hk,g42]
  have g43':f 43= .int .i64 (al.length:Nat):=by simp[hk,g43]
  clear hk
  have hbD:∀n,getM D n≠some b5:=fun n hn=>by
   obtain⟨j,e,a1,a2, -⟩:=I_8 (by rw[hD]at hn;exact hn)
   have:=hat j b5 e a2 a1
   rw[hb5]at this;simp[Decl.cs]at this
  have k5:=hKS.get _ _ hb5 hbD
  obtain⟨rv,s2,hcall,rfl,Dc2,hM2,hsz2,hK2,hO2⟩:=au_2 p hf r m D (((declsOf p).map Decl.name).filter (fun x=> !([]:List Str).contains x)).length d.name k [] (.list true (some true) []) Dc st1 (Nat.le_refl _) (by
   have:=List.length_filter_le (fun x=> !([]:List Str).contains x) ((declsOf p).map Decl.name)
   rw[List.length_map]at this
   simp only[List.length_nil];omega) hg hM1 (.inl ⟨rfl,rfl⟩) (fun u hu=>by cases hu)
  have hA3:=AccT.keep hM1 hA2 hK2
  have hKS2:=hKS.keep rfl hK2
  have hDn2:Done p D Dc2 (((declsOf p).take i).map Decl.name ++[d.name]):=fun n' k' hn' hk' hs'=>by
   rcases List.mem_append.1 hn' with hn'|hn'
   ·exact(hDn.mono hO2) n' k' hn' hk' hs'
   ·rw[List.mem_singleton.1 hn']at hk' hs'⊢
    rw[hg]at hk';cases hk'
    exact hsz2 hs'
  have hMD2:MDone p r m D s2 (((declsOf p).take i).map Decl.name ++[d.name]):=⟨Dc2,hM2,hDn2⟩
  rw[List.flatMap_append,List.map_append,List.map_append]
  have hes:((((declsOf p).take i).flatMap (T_0 p)).map Dg.v).length≤64:=by
   rw[List.length_map]
   have h3:=k_9 (T_0 p) (declsOf p) i
   have h4:=aS_5 (h:=T_0 p) 1 (declsOf p) fun x _=>by unfold T_0;split<;>simp
   omega
  generalize(((declsOf p).take i).flatMap (T_0 p)).map Dg.v=es at *
  have hbk:=hM2.tab.decl _ _ hg
  obtain⟨d2,ss,bb,hdd,hDk, -⟩:=hM2.ok _ _ hg
  rw[ak_3 hf hdm]at hdd;cases hdd
  rw[hDk]at hbk
  unfold Decl.cs at hbk
  simp only at hbk
  rcases hA with⟨nl2,rfl,hA⟩|⟨q,h1,rfl,hA⟩
  ·have:al=[]:=by simpa using hA
   subst this;simp at hi
  ·have hq:=hKS.get _ _ hA fun n hn=>by
    obtain⟨j,e,a1,a2, -⟩:=I_8 (by rw[hD]at hn;exact hn)
    have:=hat j q e a2 a1
    rw[hA]at this;cases this
   rw[List.length_map]at *
   have b1:=hM1.base
   have p1:=hM1.prot
   have b2:=hM2.base
   have p2:=hM2.prot
   by_cases h32:sz p d.name≤32
   ·have hdec:decide (sz p d.name≤32)=true:=by simpa using h32
    have hone:([d].flatMap (T_0 p)).map Dg.v=[]:=by
     have:¬32<sz p d.name:=by omega
     simp[T_0,this]
    rw[hone,List.append_nil]
    rw[hdec]at hcall
    simp[-List.getD_eq_getElem?_getD, -getElem?_pos,g5',g42',g43',h44,hx,hi,ha,k5,hq,hcall]
    repeat' (first|refine a_0 ?_ ?_|refine Out.branch ?_ ?_|refine Ret.branch ?_ ?_)<;>(intro hb;(try(simp only[NB]at hb));simp[-List.getD_eq_getElem?_getD, -getElem?_pos,g5',g42',g43',h44,hv,hx,hi,ha,k5,hq,hcall,b1,p1,b2,p2,hb])
    all_goals try refine Out.one ?_
    all_goals try refine Ret.one ?_
    all_goals try(simp[-List.getD_eq_getElem?_getD, *];done)
    all_goals try simp[-List.getD_eq_getElem?_getD,hv]
    all_goals try(intros;omega)
    exact⟨hA3,by simpa using hMD2,hKS2,hr2⟩
   ·have hdec:decide (sz p d.name≤32)=false:=by simpa using h32
    have hone:([d].flatMap (T_0 p)).map Dg.v=[V.agg [.int .i64 d.at_, .int .i64 11]]:=by
     have:32<sz p d.name:=by omega
     simp[T_0,this,Dg.v]
    rw[hone]
    rw[hdec]at hcall
    obtain⟨v3,s3,ap3,A3,R3,r3,F3,F4⟩:=hA3.app (bytes:=16) (y:= .list true (some false) [.agg [.int .i64 d.at_, .int .i64 11]]) (fun r0 _=>by simp[St.locked,b2,p2]) rfl (by simp) (by simp[V.cells,V.oneCell]) (by decide) (by decide) (by simp;omega)
    have ap3':appV 2 16 s2 (spreadB (.list true (some false) [.agg [.int .i64 d.at_, .int .i64 11]])) v (.list true (some false) [.agg [.int .i64 d.at_, .int .i64 11]])=some (v3,s3):=ap3
    have hMD3:MDone p r m D s3 (((declsOf p).take i).map Decl.name ++[d.name]):=⟨Dc2,hM2.rest hA3 R3,hDn2⟩
    have hKS3:=hKS2.rest hA3 hr2 R3
    have hr3:∀r,refOf v3=some r→s.store.length≤r:=fun r0 h0=>by rw[F3]at h0;cases h0;have:=hKS2.len;omega
    simp[-List.getD_eq_getElem?_getD, -getElem?_pos,g5',g42',g43',h44,hv,hx,hi,ha,k5,hq,hcall,hbk,ap3']
    repeat' (first|refine a_0 ?_ ?_|refine Out.branch ?_ ?_|refine Ret.branch ?_ ?_)<;>(intro hb;(try(simp only[NB]at hb));simp[-List.getD_eq_getElem?_getD, -getElem?_pos,g5',g42',g43',h44,hv,hx,hi,ha,k5,hq,hcall,hbk,ap3',b1,p1,b2,p2,hb])
    all_goals try refine Out.one ?_
    all_goals try refine Ret.one ?_
    all_goals try(simp[-List.getD_eq_getElem?_getD, *];done)
    all_goals try simp[-List.getD_eq_getElem?_getD]
    all_goals try(intros;omega)
    exact⟨A3,by simpa using hMD3,hKS3,hr3⟩
 ·rintro f st1 hk ⟨h44,hA2,hM2,hKS,hr2⟩
  have g43':f 43= .int .i64 (al.length:Nat):=by simp[hk,g43]
  clear hk
  rw[List.take_of_length_le (by omega)]at hA2 hM2
  simp[-List.getD_eq_getElem?_getD, -getElem?_pos,g43',h44]
  repeat' (first|refine a_0 ?_ ?_|refine Out.branch ?_ ?_|refine Ret.branch ?_ ?_)<;>(intro hb;(try(simp only[NB]at hb));simp[-List.getD_eq_getElem?_getD, -getElem?_pos,g43',h44,hb])
  all_goals try refine Out.one ?_
  all_goals try refine Ret.one ?_
  all_goals try(simp[-List.getD_eq_getElem?_getD, *];done)
  all_goals try simp[-List.getD_eq_getElem?_getD]
  all_goals try(intros;omega)
  exact⟨hA2,hM2,hKS,hr2⟩
noncomputable def dgAll(p:Prog):List Dg:=if right p=false then [⟨0,2⟩]else if dg1 p (declsOf p)=[]then dg2 p (declsOf p)else dg1 p (declsOf p)
def DgV(st:St)(v:V)(l:List Dg):Prop:=AccT 2 st v (l.map Dg.v)∨∃b nl,v= .list b nl (l.map Dg.v)
structure TabOf(p:Prog)(st:St)(r m:Nat)(D:List (Str×Nat))(Dc:Nat→Decl):Prop where
 ms:MSt p r m D st Dc
 all:∀n k,getM D n=some k→sz p n≤32∧(Dc k).slots=(sz p n:Nat)∧(Dc k).drops=need p n
 box:st.store[r]? =some (.box [.list false none ((p.structs.map Struct.nrm).map Struct.v), .list false none ((p.enums.map Enum.nrm).map Enum.v), .list false none ((p.funcs.map Fun.nrm).map Fun.v), .map m])
def NewOut(p:Prog)(a:St)(v:V)(b:St):Prop:=Grows a b∧((dgAll p=[]∧Fine p∧∃r m D Dc,v= .tup [.ptr r 0, .list true (some true) []]∧TabOf p b r m D Dc)∨(dgAll p≠[]∧∃w,v= .tup [.nilp,w]∧DgV b w (dgAll p)))
theorem MSt.to2{p:Prog}{r m:Nat}{D:List (Str×Nat)}{a b:St}{Dc:Nat→Decl}(h:MSt p r m D a Dc)(hb:b.base=0)(hp:b.prot=[])(hg:∀(i:Nat) (o:O),a.store[i]? =some o→((∃cs,o= .box cs)∨∃es,o= .map es)→b.store[i]? =some o):MSt p r m D b Dc:=by
 obtain⟨l1,l2,l3,h1⟩:=h.tab.box
 exact⟨⟨⟨l1,l2,l3,hg _ _ h1 (.inl ⟨_,rfl⟩)⟩,hg _ _ h.tab.ents (.inr ⟨_,rfl⟩),fun n k hk=>hg _ _ (h.tab.decl n k hk) (.inl ⟨_,rfl⟩)⟩,hb,hp,h.ok,h.dom,h.inj⟩
theorem T_5{l:List O}(L:List O)(j:Nat):(l ++L)[l.length+j]? =L[j]? :=by
 rw[List.getElem?_append_right (by omega)]
 have:l.length+j-l.length=j:=by omega
 rw[this]
theorem bo_{st st':St}{v:V}{es:List V}(h:AccT 2 st v es):lenV tb 30 st' v=some (.int .i64 (es.length:Nat)):=by
 rcases h with⟨nl,rfl,h⟩|⟨r,h0,rfl,h⟩
 ·subst h;simp
 ·simp
theorem bf_4(p:Prog)(f1 f2 f3:Bool)(n1 n2 n3:Option Bool)(h:p.size≤1048576)(st:St)(hb:st.base=0)(hp:st.prot=[]):Ret (NewOut p st) ((run tb).call 14 [.agg [.list f1 n1 (p.structs.map Struct.v), .list f2 n2 (p.enums.map Enum.v), .list f3 n3 (p.funcs.map Fun.v)]] st):=by
 have hR:=aR_1 p f1 f2 f3 n1 n2 n3 h
 cases hr:right p with
 |false=>
  rw[hr]at hR
  have hd:dgAll p=[⟨0,2⟩]:=by unfold dgAll;rw[if_pos hr]
  have hg:=g_5 (Grows.refl st) [.list f1 n1 (p.structs.map Struct.v), .list f2 n2 (p.enums.map Enum.v), .list f3 n3 (p.funcs.map Fun.v)]
  rw[run14 (by simp)]
  simp[-List.getD_eq_getElem?_getD, -getElem?_pos,hR]
  refine Ret.one ⟨hg, .inr ⟨by rw[hd];simp,_,rfl, .inr ⟨_,_,by rw[hd];rfl⟩⟩⟩
 |true=>
  rw[hr]at hR
  have hC:=aN_4 p f1 f2 f3 n1 n2 n3 h
  obtain⟨s0,hs0⟩:∃s0,s0=newBox st [.list f1 n1 (p.structs.map Struct.v), .list f2 n2 (p.enums.map Enum.v), .list f3 n3 (p.funcs.map Fun.v)]:=⟨_,rfl⟩
  have hg0:Grows st s0:=by rw[hs0];exact g_5 (Grows.refl st) _
  have hbx:s0.store[st.store.length]? =some (.box [.list f1 n1 (p.structs.map Struct.v), .list f2 n2 (p.enums.map Enum.v), .list f3 n3 (p.funcs.map Fun.v)]):=by rw[hs0];exact d_6
  have b0:s0.base=0:=hg0.base.trans hb
  have p0:s0.prot=[]:=hg0.prot.trans hp
  obtain⟨lv,s1,hdc,al,hD⟩:=aT_5 p f1 f2 f3 n1 n2 n3 h s0 b0 p0
  have hbx1:=hD.grows.at_ hbx
  have b1:s1.base=0:=hD.grows.base.trans b0
  have p1:s1.prot=[]:=hD.grows.prot.trans p0
  have hlv:lv.cells=[lv]∧lv.oneCell=true:=by
   rcases hD.acc with⟨nl,rfl, -⟩|⟨q, -,rfl, -⟩<;>exact⟨rfl,rfl⟩
  have hbk:=aq_5 lv hlv.1 hlv.2
  unfold Prog.nrm Prog.v at hC
  simp only[List.map_map]at hC
  obtain⟨ls,hls⟩:∃ls,ls=[V.list false none (p.structs.map (Struct.v∘Struct.nrm)),V.list false none (p.enums.map (Enum.v∘Enum.nrm)),V.list false none (p.funcs.map (Fun.v∘Fun.nrm)),V.map s1.store.length]:=⟨_,rfl⟩
  have g3:∀a b c:O,(s1.store ++[a,b,c])[s1.store.length+2]? =some c:=fun a b c=>by
   rw[List.getElem?_append_right (by omega)]
   have:s1.store.length+2-s1.store.length=2:=by omega
   rw[this];rfl
  obtain⟨s2,hs2⟩:∃s2,s2=newBox (newBox (newBox (addO s1 (.map [])) ls) [.ptr (s1.store.length+1) 0]) [lv]:=⟨_,rfl⟩
  have hset:∀zs cs:List V,setO (newBox (newBox (addO s1 (.map [])) ls) zs) (s1.store.length+2) (.box cs)=newBox (newBox (addO s1 (.map [])) ls) cs:=fun zs cs=>by
   have:s1.store.length+2=(newBox (addO s1 (.map [])) ls).store.length:=by simp[newBox,addO]
   rw[this];exact l_8
  rw[hls]at hset hs2
  rw[run14 (by simp)]
  simp[-List.getD_eq_getElem?_getD, -getElem?_pos,hR,hs0.symm,hbx,hdc,hbx1,hC,hbk,b1,p1,g3,hset,hs2.symm]
  have hst2:s2.store=s1.store ++[.map [], .box [V.list false none (p.structs.map (Struct.v∘Struct.nrm)),V.list false none (p.enums.map (Enum.v∘Enum.nrm)),V.list false none (p.funcs.map (Fun.v∘Fun.nrm)),V.map s1.store.length], .box [.ptr (s1.store.length+1) 0], .box [lv]]:=by rw[hs2];simp[newBox,addO]
  have b2:s2.base=0:=by rw[hs2];exact b1
  have p2:s2.prot=[]:=by rw[hs2];exact p1
  have hl2:s2.store.length=s1.store.length+4:=by rw[hst2];simp
  have k0:s2.store[s1.store.length]? =some (ptrs []):=by rw[hst2];exact T_5 _ 0
  have k1:=T_5 (l:=s1.store) [O.map [], .box [V.list false none (p.structs.map (Struct.v∘Struct.nrm)),V.list false none (p.enums.map (Enum.v∘Enum.nrm)),V.list false none (p.funcs.map (Fun.v∘Fun.nrm)),V.map s1.store.length], .box [.ptr (s1.store.length+1) 0], .box [lv]] 1
  have k2:=T_5 (l:=s1.store) [O.map [], .box [V.list false none (p.structs.map (Struct.v∘Struct.nrm)),V.list false none (p.enums.map (Enum.v∘Enum.nrm)),V.list false none (p.funcs.map (Fun.v∘Fun.nrm)),V.map s1.store.length], .box [.ptr (s1.store.length+1) 0], .box [lv]] 2
  have k3:=T_5 (l:=s1.store) [O.map [], .box [V.list false none (p.structs.map (Struct.v∘Struct.nrm)),V.list false none (p.enums.map (Enum.v∘Enum.nrm)),V.list false none (p.funcs.map (Fun.v∘Fun.nrm)),V.map s1.store.length], .box [.ptr (s1.store.length+1) 0], .box [lv]] 3
  rw[←hst2]at k1 k2 k3
  simp only[List.getElem?_cons_succ,List.getElem?_cons_zero]at k1 k2 k3
  have h12:∀(i:Nat) (o:O),s1.store[i]? =some o→s2.store[i]? =some o:=fun i o hi=>by rw[hst2];exact a_2 hi
  have hA2:AccT 1 s2 lv (al.map fun k=> .ptr k 0):=by
   rcases hD.acc with h|⟨q,a1,a2,a3⟩
   ·exact .inl h
   ·exact .inr ⟨q,a1,a2,h12 q _ a3⟩
  have hall:(declsOf p).length≤64:=by
   unfold right few at hr
   simp only[Bool.and_eq_true,Bool.not_eq_true',decide_eq_false_iff_not]at hr
   obtain⟨⟨⟨c1,c2⟩,c3⟩, -⟩:=hr
   unfold declsOf
   rw[List.length_append,List.length_map,List.length_map];omega
  have hal:=hD.len
  clear hs2 hset g3
  refine aT_9 (aY_9 _ s2 (s1.store.length+3) (s1.store.length+1) s1.store.length (s1.store.length+2) _ _ _ lv al (declsOf p) b2 p2 (by simp) k2 k1 k0 k3 hA2 hal (fun i k d hx hd=>h12 _ _ (hD.at_ i k d hx hd)) (by omega)) ?_
  intro s3 hF
  have b3:s3.base=0:=hF.base.trans b2
  have p3:s3.prot=[]:=hF.prot.trans p2
  have h23:∀(i:Nat) (o:O),s2.store[i]? =some o→i≠s1.store.length→s3.store[i]? =some o:=fun i o hi hne=>by rw[hF.get i (List.getElem?_eq_some_iff.1 hi).1 hne];exact hi
  have h13:∀(i:Nat) (o:O),s1.store[i]? =some o→s3.store[i]? =some o:=fun i o hi=>h23 i o (h12 i o hi) (by have:=(List.getElem?_eq_some_iff.1 hi).1;omega)
  have hA3:AccT 1 s3 lv (al.map fun k=> .ptr k 0):=by
   rcases hD.acc with h|⟨q,a1,a2,a3⟩
   ·exact .inl h
   ·exact .inr ⟨q,a1,a2,h13 q _ a3⟩
  have hat3:∀(i k:Nat) (d:Decl),al[i]? =some k→(declsOf p)[i]? =some d→s3.store[k]? =some (.box d.cs):=fun i k d hx hd=>h13 _ _ (hD.at_ i k d hx hd)
  have q1:=h23 _ _ k1 (by omega)
  have q2:=h23 _ _ k2 (by omega)
  have hm3:=hF.map
  obtain⟨dv,s3',hnm,rfl,b,nl,rfl,hb0⟩:=aP_7 p (fillD (declsOf p) al) (ay_2 p hal) s3 p3 (s1.store.length+1) s1.store.length _ _ _ q1 hm3 lv al (declsOf p) hA3 hal hat3 (fun d hd=>X_9 h hd) hall
  have hdef:=hF.defs
  have hgr:∀i,i<st.store.length→s3'.store[i]? =st.store[i]? :=fun i hi=>by
   have:=hg0.len
   have:=hD.grows.len
   rw[hF.get i (by omega) (by omega),hst2,List.getElem?_append_left (by omega),hD.grows.get i (by omega),hg0.get i hi]
  have hlen3:st.store.length≤s3'.store.length:=by have:=hg0.len;have:=hD.grows.len;have:=hF.len;omega
  have hset2:∀(x:St) (c:List V),x.store[s2.store.length]? =some .defs→∀(i:Nat) (o:O),x.store[i]? =some o→o≠ .defs→(setO x s2.store.length .dead).store[i]? =some o:=fun x c hx i o hi ho=>by
   show(x.store.set _ _)[i]? =_
   rw[List.getElem?_set_ne (by intro e;subst e;rw[hx]at hi;cases hi;exact ho rfl)];exact hi
  by_cases hd1:dg1 p (declsOf p)=[]
  ·have hfine:=bh_1 h hr hd1
   rw[hd1]at hnm hb0
   simp only[List.map_nil]at hnm hb0
   have:=hb0 trivial
   subst this
   have hl79:=fun st'=>bm_ (st':=st') hA3.acc
   have hMS0:MDone p (s1.store.length+1) s1.store.length (fillD (declsOf p) al) s3' []:=⟨_,aY_4 hal hD.nodup hat3 b3 p3 ⟨_,_,_,q1⟩ hm3,fun n k hn=>by cases hn⟩
   simp[-List.getD_eq_getElem?_getD, -getElem?_pos,q2,hnm,hl79]
   refine Ret.loop (aZ_8 p hfine (s1.store.length+1) s1.store.length (s1.store.length+2) (fillD (declsOf p) al) s3' _ _ lv al hal rfl hMS0 hA3 hat3 q2 (by omega) (by simp) (by simp) (by simp) (by simp) nl (by simp)) ?_
   rintro e f s5 ⟨⟨rfl,A5,⟨Dc,hM5,hDn⟩,hK5,hr5⟩,hk⟩
   have g5:f 5= .ptr (s1.store.length+2) 0:=by simp[hk]
   clear hk
   have hnD:∀i,(i<s0.store.length∨s1.store.length≤i)→∀n,getM (fillD (declsOf p) al) n≠some i:=fun i hi n hn=>by
    obtain⟨j,d,a1,a2, -⟩:=I_8 hn
    have:=hD.lt i (List.mem_of_getElem? a2)
    omega
   have r2:=hK5.get _ _ q2 (hnD _ (by omega))
   have r1:=hK5.get _ _ q1 (hnD _ (by omega))
   have hdef5:=hK5.get _ _ hdef (hnD _ (by omega))
   have b5:=hM5.base
   have p5:=hM5.prot
   have hgr5:Grows st s5:=⟨b5.trans hb.symm,p5.trans hp.symm,by have:=hK5.len;omega,fun i hi=>by
    have h1:st.store[i]? =some st.store[i]:=List.getElem?_eq_getElem hi
    rw[h1]
    exact hK5.get _ _ (by rw[hgr i hi];exact h1) (hnD _ (by have:=hg0.len;omega))⟩
   have hgrF:Grows st (setO s5 s2.store.length .dead):=hgr5.set (by have:=hg0.len;have:=hD.grows.len;omega) .dead
   have hl30:=fun st'=>bo_ (st':=st') A5
   have hdAll:dgAll p=dg2 p (declsOf p):=by unfold dgAll;rw[if_neg (by rw[hr];decide),if_pos hd1]
   obtain⟨w,hw⟩:∃w,f 8=w:=⟨_,rfl⟩
   rw[hw]at A5 hl30
   by_cases hd2:dg2 p (declsOf p)=[]
   ·rw[hd2]at hl30
    have hsm:∀n k,getM (fillD (declsOf p) al) n=some k→sz p n≤32∧(Dc k).slots=(sz p n:Nat)∧(Dc k).drops=need p n:=fun n k hn=>by
     obtain⟨i,d,a1,a2,a3, -⟩:=I_8 hn
     have hm:=List.mem_of_getElem? a1
     have h1:=List.flatMap_eq_nil_iff.1 hd2 d hm
     have h2:sz p n≤32:=by
      unfold T_0 at h1
      split at h1
      ·cases h1
      ·rename_i h3;rw[←a3];omega
     exact⟨h2,hDn n k (List.mem_map.2 ⟨d,hm,a3⟩) hn h2⟩
    have hfin:NewOut p st (.tup [.ptr (s1.store.length+1) 0, .list true (some true) []]) (setO s5 s2.store.length .dead):=by
     refine⟨hgrF, .inl ⟨by rw[hdAll,hd2],hfine,_,_,_,Dc,rfl,⟨hM5.to2 b5 p5 fun i o hi ho=>hset2 s5 [] hdef5 i o hi (by rcases ho with⟨_,rfl⟩|⟨_,rfl⟩<;>simp),hsm,?_⟩⟩⟩
     rw[List.map_map,List.map_map,List.map_map]
     exact hset2 s5 [] hdef5 _ _ r1 (by simp)
    simp only[List.map_nil,List.length_nil]at hl30
    have hE:setO s5 s2.store.length .dead={store:=s5.store.set s2.store.length O.dead,base:=0,prot:=[]}:=by simp[setO,b5,p5]
    rw[hE]at hfin
    simp[-List.getD_eq_getElem?_getD, -getElem?_pos,g5,hw,hl30,r2,hdef5,b5,p5]
    exact Ret.one hfin
   ·have hfin:NewOut p st (.tup [.nilp,w]) (setO s5 s2.store.length .dead):=by
     refine⟨hgrF, .inr ⟨by rw[hdAll];exact hd2,w,rfl, .inl ?_⟩⟩
     rw[hdAll]
     rcases A5 with h|⟨q,a1,a2,a3⟩
     ·exact .inl h
     ·exact .inr ⟨q,a1,a2,hset2 s5 [] hdef5 _ _ a3 (by simp)⟩
    have hpos:0<((dg2 p (declsOf p)).map Dg.v).length:=by
     rw[List.length_map]
     have:(dg2 p (declsOf p)).length≠0:=fun e=>hd2 (List.length_eq_zero_iff.1 e)
     omega
    have hpos':((dg2 p (declsOf p)).map Dg.v).length≠0:=by omega
    rw[List.length_map]at hpos hpos'
    simp only[List.length_map]at hl30
    generalize(dg2 p (declsOf p)).length=N at *
    have hE:setO s5 s2.store.length .dead={store:=s5.store.set s2.store.length O.dead,base:=0,prot:=[]}:=by simp[setO,b5,p5]
    rw[hE]at hfin
    simp[-List.getD_eq_getElem?_getD, -getElem?_pos,hw,hl30,hdef5,b5,p5,hpos]
    exact Ret.one hfin
  ·have hdAll:dgAll p=dg1 p (declsOf p):=by unfold dgAll;rw[if_neg (by rw[hr];decide),if_neg hd1]
   have hgrF:Grows st (setO s3' s2.store.length .dead):=by
    have hg3:Grows st s3':=⟨b3.trans hb.symm,p3.trans hp.symm,hlen3,hgr⟩
    exact hg3.set (by have:=hg0.len;have:=hD.grows.len;omega) .dead
   have hfin:NewOut p st (.tup [.nilp, .list b nl ((dg1 p (declsOf p)).map Dg.v)]) (setO s3' s2.store.length .dead):=
    ⟨hgrF, .inr ⟨by rw[hdAll];exact hd1,_,rfl, .inr ⟨b,nl,by rw[hdAll]⟩⟩⟩
   have hpos:(dg1 p (declsOf p)).length≠0:=fun e=>hd1 (List.length_eq_zero_iff.1 e)
   have hpos2:0<(dg1 p (declsOf p)).length:=by omega
   have hne0:(((dg1 p (declsOf p)).length:Int)==0)=false:=by simp;exact hd1
   have hE:setO s3' s2.store.length .dead={store:=s3'.store.set s2.store.length O.dead,base:=0,prot:=[]}:=by simp[setO,b3,p3]
   rw[hE]at hfin
   simp[-List.getD_eq_getElem?_getD, -getElem?_pos,q2,hnm,b3,p3,hne0,hpos2,hdef]
   exact Ret.one hfin
end Go.Proofs.YtbbeelalcamgjaaGreatDoor
namespace Go.Proofs.YtbbeelalcamgjaaGreatDoor
open Go Go.Abs
set_option maxRecDepth 100000
theorem d_9{P:Program}{n:Nat}{t:TypeId}{x:V}(ht:P.underlying t=some .string)(h:Shaped P n t x):∃s:Str,x= .str s:=by
 cases n with
 |zero=>exact h.elim
 |succ n=>
  unfold Shaped at h
  rw[ht]at h
  obtain⟨s,rfl,_⟩:=h
  exact⟨s,rfl⟩
theorem aa_6{P:Program}{n:Nat}{t:TypeId}{x:V}(ht:P.underlying t=some .bool)(h:Shaped P n t x):∃b:Bool,x= .bool b:=by
 cases n with
 |zero=>exact h.elim
 |succ n=>
  unfold Shaped at h
  rw[ht]at h
  exact h
theorem e_0{P:Program}{n:Nat}{t:TypeId}{fs:Array Field}{x:V}(ht:P.underlying t=some (.struct fs))(h:Shaped P n t x):∃ys:List V,x= .agg (ys.flatMap V.cells)∧ys.length=fs.size∧∀(i:Nat) (f:Field) (y:V),fs[i]? =some f→ys[i]? =some y→Shaped P (n-1) f.type y:=by
 cases n with
 |zero=>exact h.elim
 |succ n=>
  unfold Shaped at h
  rw[ht]at h
  exact h
theorem d_1{P:Program}{α:Type}{g:α→V}{Q:α→Prop}{n:Nat}{t e:TypeId}{x:V}(ht:P.underlying t=some (.slice e))(he:∀n y,Shaped P n e y→∃a,y=g a∧Q a)(h:Shaped P n t x):∃(nl:Bool) (xs:List α),x= .list false (some nl) (xs.map g)∧∀a∈xs,Q a:=by
 cases n with
 |zero=>exact h.elim
 |succ n=>
  unfold Shaped at h
  rw[ht]at h
  obtain⟨nl,xs,rfl,_,_,hx⟩:=h
  have:∀xs:List V,(∀y∈xs,Shaped P n e y)→∃bs:List α,xs=bs.map g∧∀a∈bs,Q a:=by
   intro xs
   induction xs with
   |nil=>intro _;exact⟨[],rfl,fun a h=>by cases h⟩
   |cons y ys ih=>
    intro h
    obtain⟨a,rfl,hq⟩:=he n y (h y (by simp))
    obtain⟨bs,rfl,hqs⟩:=ih fun z hz=>h z (by simp[hz])
    refine⟨a::bs,rfl,fun b hb=> ?_⟩
    rcases List.mem_cons.1 hb with rfl|hb
    ·exact hq
    ·exact hqs b hb
  obtain⟨bs,rfl,hq⟩:=this xs hx
  exact⟨nl,bs,rfl,hq⟩
theorem L_4{n:Nat}{x:V}(h:Shaped Tryz.prog n 66 x):∃a:Var,x=a.v∧True:=by
 obtain⟨ys,rfl,hl,hf⟩:=e_0 Tryz.underlying66 h
 have hl':ys.length=2:=hl
 rcases ys with _|⟨y0,_|⟨y1,_|⟨z,r⟩⟩⟩
 ·simp at hl'
 ·simp at hl'
 ·have h0:=hf 0 _ y0 rfl rfl
  have h1:=hf 1 _ y1 rfl rfl
  obtain⟨a0,rfl⟩:=d_9 Tryz.underlying9 h0
  obtain⟨a1,rfl⟩:=d_9 Tryz.underlying9 h1
  exact⟨⟨a0,a1⟩,by simp[Var.v,V.cells],trivial⟩
 ·simp at hl'
theorem y_6{n:Nat}{x:V}(h:Shaped Tryz.prog n 38 x):∃a:Place,x=a.v∧True:=by
 obtain⟨ys,rfl,hl,hf⟩:=e_0 Tryz.underlying38 h
 have hl':ys.length=2:=hl
 rcases ys with _|⟨y0,_|⟨y1,_|⟨z,r⟩⟩⟩
 ·simp at hl'
 ·simp at hl'
 ·have h0:=hf 0 _ y0 rfl rfl
  have h1:=hf 1 _ y1 rfl rfl
  obtain⟨a0,rfl⟩:=d_9 Tryz.underlying9 h0
  obtain⟨nl1,a1,rfl,q1⟩:=d_1 (g:=V.str) (Q:=fun _=>True) Tryz.underlying36 (fun n y h=>by obtain⟨a,rfl⟩:=d_9 Tryz.underlying9 h;exact⟨a,rfl,trivial⟩) h1
  exact⟨⟨a0,some nl1,a1⟩,by simp[Place.v,V.cells],trivial⟩
 ·simp at hl'
theorem aJ_0{n:Nat}{x:V}(h:Shaped Tryz.prog n 144 x):∃a:Arm,x=a.v∧True:=by
 obtain⟨ys,rfl,hl,hf⟩:=e_0 Tryz.underlying144 h
 have hl':ys.length=3:=hl
 rcases ys with _|⟨y0,_|⟨y1,_|⟨y2,_|⟨z,r⟩⟩⟩⟩
 ·simp at hl'
 ·simp at hl'
 ·simp at hl'
 ·have h0:=hf 0 _ y0 rfl rfl
  have h1:=hf 1 _ y1 rfl rfl
  have h2:=hf 2 _ y2 rfl rfl
  obtain⟨a0,rfl⟩:=d_9 Tryz.underlying9 h0
  obtain⟨a1,rfl⟩:=d_9 Tryz.underlying9 h1
  obtain⟨a2,rfl⟩:=d_9 Tryz.underlying9 h2
  exact⟨⟨a0,a1,a2⟩,by simp[Arm.v,V.cells],trivial⟩
 ·simp at hl'
theorem at_9{n:Nat}{x:V}(h:Shaped Tryz.prog n 70 x):∃a:Stmt,x=a.v∧a.wf:=by
 obtain⟨ys,rfl,hl,hf⟩:=e_0 Tryz.underlying70 h
 have hl':ys.length=7:=hl
 rcases ys with _|⟨y0,_|⟨y1,_|⟨y2,_|⟨y3,_|⟨y4,_|⟨y5,_|⟨y6,_|⟨z,r⟩⟩⟩⟩⟩⟩⟩⟩
 ·simp at hl'
 ·simp at hl'
 ·simp at hl'
 ·simp at hl'
 ·simp at hl'
 ·simp at hl'
 ·simp at hl'
 ·have h0:=hf 0 _ y0 rfl rfl
  have h1:=hf 1 _ y1 rfl rfl
  have h2:=hf 2 _ y2 rfl rfl
  have h3:=hf 3 _ y3 rfl rfl
  have h4:=hf 4 _ y4 rfl rfl
  have h5:=hf 5 _ y5 rfl rfl
  have h6:=hf 6 _ y6 rfl rfl
  obtain⟨a0,rfl,b0,c0⟩:=p_9 Tryz.underlying3 h0
  obtain⟨a1,rfl,b1,c1⟩:=p_9 Tryz.underlying3 h1
  obtain⟨a2,rfl,q2⟩:=y_6 h2
  obtain⟨a3,rfl,b3,c3⟩:=p_9 Tryz.underlying2 h3
  obtain⟨a4,rfl⟩:=d_9 Tryz.underlying9 h4
  obtain⟨a5,rfl⟩:=d_9 Tryz.underlying9 h5
  obtain⟨nl6,a6,rfl,q6⟩:=d_1 (g:=Place.v) (Q:=fun _=>True) Tryz.underlying57 (fun n y h=>y_6 h) h6
  exact⟨⟨a0,a1,a2,a3,a4,a5,some nl6,a6⟩,by simp[Stmt.v,Place.v,V.cells],⟨⟨b1,c1⟩,⟨b3,c3⟩⟩⟩
 ·simp at hl'
theorem ax_9{n:Nat}{x:V}(h:Shaped Tryz.prog n 60 x):∃a:Term,x=a.v∧a.wf:=by
 obtain⟨ys,rfl,hl,hf⟩:=e_0 Tryz.underlying60 h
 have hl':ys.length=7:=hl
 rcases ys with _|⟨y0,_|⟨y1,_|⟨y2,_|⟨y3,_|⟨y4,_|⟨y5,_|⟨y6,_|⟨z,r⟩⟩⟩⟩⟩⟩⟩⟩
 ·simp at hl'
 ·simp at hl'
 ·simp at hl'
 ·simp at hl'
 ·simp at hl'
 ·simp at hl'
 ·simp at hl'
 ·have h0:=hf 0 _ y0 rfl rfl
  have h1:=hf 1 _ y1 rfl rfl
  have h2:=hf 2 _ y2 rfl rfl
  have h3:=hf 3 _ y3 rfl rfl
  have h4:=hf 4 _ y4 rfl rfl
  have h5:=hf 5 _ y5 rfl rfl
  have h6:=hf 6 _ y6 rfl rfl
  obtain⟨a0,rfl,b0,c0⟩:=p_9 Tryz.underlying3 h0
  obtain⟨a1,rfl,b1,c1⟩:=p_9 Tryz.underlying3 h1
  obtain⟨a2,rfl,q2⟩:=y_6 h2
  obtain⟨a3,rfl⟩:=d_9 Tryz.underlying9 h3
  obtain⟨nl4,a4,rfl,q4⟩:=d_1 (g:=Place.v) (Q:=fun _=>True) Tryz.underlying57 (fun n y h=>y_6 h) h4
  obtain⟨nl5,a5,rfl,q5⟩:=d_1 (g:=V.str) (Q:=fun _=>True) Tryz.underlying36 (fun n y h=>by obtain⟨a,rfl⟩:=d_9 Tryz.underlying9 h;exact⟨a,rfl,trivial⟩) h5
  obtain⟨nl6,a6,rfl,q6⟩:=d_1 (g:=Arm.v) (Q:=fun _=>True) Tryz.underlying58 (fun n y h=>aJ_0 h) h6
  exact⟨⟨a0,a1,a2,a3,some nl4,a4,some nl5,a5,some nl6,a6⟩,by simp[Term.v,Place.v,V.cells],⟨b1,c1⟩⟩
 ·simp at hl'
theorem an_6{n:Nat}{x:V}(h:Shaped Tryz.prog n 63 x):∃a:Block,x=a.v∧a.wf:=by
 obtain⟨ys,rfl,hl,hf⟩:=e_0 Tryz.underlying63 h
 have hl':ys.length=4:=hl
 rcases ys with _|⟨y0,_|⟨y1,_|⟨y2,_|⟨y3,_|⟨z,r⟩⟩⟩⟩⟩
 ·simp at hl'
 ·simp at hl'
 ·simp at hl'
 ·simp at hl'
 ·have h0:=hf 0 _ y0 rfl rfl
  have h1:=hf 1 _ y1 rfl rfl
  have h2:=hf 2 _ y2 rfl rfl
  have h3:=hf 3 _ y3 rfl rfl
  obtain⟨a0,rfl,b0,c0⟩:=p_9 Tryz.underlying3 h0
  obtain⟨a1,rfl⟩:=d_9 Tryz.underlying9 h1
  obtain⟨nl2,a2,rfl,q2⟩:=d_1 (g:=Stmt.v) (Q:=Stmt.wf) Tryz.underlying61 (fun n y h=>at_9 h) h2
  obtain⟨a3,rfl,q3⟩:=ax_9 h3
  exact⟨⟨a0,a1,some nl2,a2,a3⟩,by simp[Block.v,Term.v,V.cells],⟨q2,q3⟩⟩
 ·simp at hl'
theorem ab_5{n:Nat}{x:V}(h:Shaped Tryz.prog n 35 x):∃a:Fun,x=a.v∧a.wf:=by
 obtain⟨ys,rfl,hl,hf⟩:=e_0 Tryz.underlying35 h
 have hl':ys.length=6:=hl
 rcases ys with _|⟨y0,_|⟨y1,_|⟨y2,_|⟨y3,_|⟨y4,_|⟨y5,_|⟨z,r⟩⟩⟩⟩⟩⟩⟩
 ·simp at hl'
 ·simp at hl'
 ·simp at hl'
 ·simp at hl'
 ·simp at hl'
 ·simp at hl'
 ·have h0:=hf 0 _ y0 rfl rfl
  have h1:=hf 1 _ y1 rfl rfl
  have h2:=hf 2 _ y2 rfl rfl
  have h3:=hf 3 _ y3 rfl rfl
  have h4:=hf 4 _ y4 rfl rfl
  have h5:=hf 5 _ y5 rfl rfl
  obtain⟨a0,rfl,b0,c0⟩:=p_9 Tryz.underlying3 h0
  obtain⟨a1,rfl⟩:=d_9 Tryz.underlying9 h1
  obtain⟨nl2,a2,rfl,q2⟩:=d_1 (g:=Var.v) (Q:=fun _=>True) Tryz.underlying32 (fun n y h=>L_4 h) h2
  obtain⟨nl3,a3,rfl,q3⟩:=d_1 (g:=Var.v) (Q:=fun _=>True) Tryz.underlying32 (fun n y h=>L_4 h) h3
  obtain⟨a4,rfl⟩:=d_9 Tryz.underlying9 h4
  obtain⟨nl5,a5,rfl,q5⟩:=d_1 (g:=Block.v) (Q:=Block.wf) Tryz.underlying33 (fun n y h=>an_6 h) h5
  exact⟨⟨a0,a1,some nl2,a2,some nl3,a3,a4,some nl5,a5⟩,by simp[Fun.v,V.cells],q5⟩
 ·simp at hl'
theorem ay_7{n:Nat}{x:V}(h:Shaped Tryz.prog n 78 x):∃a:Struct,x=a.v∧True:=by
 obtain⟨ys,rfl,hl,hf⟩:=e_0 Tryz.underlying78 h
 have hl':ys.length=5:=hl
 rcases ys with _|⟨y0,_|⟨y1,_|⟨y2,_|⟨y3,_|⟨y4,_|⟨z,r⟩⟩⟩⟩⟩⟩
 ·simp at hl'
 ·simp at hl'
 ·simp at hl'
 ·simp at hl'
 ·simp at hl'
 ·have h0:=hf 0 _ y0 rfl rfl
  have h1:=hf 1 _ y1 rfl rfl
  have h2:=hf 2 _ y2 rfl rfl
  have h3:=hf 3 _ y3 rfl rfl
  have h4:=hf 4 _ y4 rfl rfl
  obtain⟨a0,rfl,b0,c0⟩:=p_9 Tryz.underlying3 h0
  obtain⟨a1,rfl⟩:=d_9 Tryz.underlying9 h1
  obtain⟨a2,rfl⟩:=aa_6 Tryz.underlying4 h2
  obtain⟨a3,rfl⟩:=aa_6 Tryz.underlying4 h3
  obtain⟨nl4,a4,rfl,q4⟩:=d_1 (g:=Var.v) (Q:=fun _=>True) Tryz.underlying32 (fun n y h=>L_4 h) h4
  exact⟨⟨a0,a1,a2,a3,some nl4,a4⟩,by simp[Struct.v,V.cells],trivial⟩
 ·simp at hl'
theorem ay_4{n:Nat}{x:V}(h:Shaped Tryz.prog n 80 x):∃a:Enum,x=a.v∧True:=by
 obtain⟨ys,rfl,hl,hf⟩:=e_0 Tryz.underlying80 h
 have hl':ys.length=3:=hl
 rcases ys with _|⟨y0,_|⟨y1,_|⟨y2,_|⟨z,r⟩⟩⟩⟩
 ·simp at hl'
 ·simp at hl'
 ·simp at hl'
 ·have h0:=hf 0 _ y0 rfl rfl
  have h1:=hf 1 _ y1 rfl rfl
  have h2:=hf 2 _ y2 rfl rfl
  obtain⟨a0,rfl,b0,c0⟩:=p_9 Tryz.underlying3 h0
  obtain⟨a1,rfl⟩:=d_9 Tryz.underlying9 h1
  obtain⟨nl2,a2,rfl,q2⟩:=d_1 (g:=Var.v) (Q:=fun _=>True) Tryz.underlying32 (fun n y h=>L_4 h) h2
  exact⟨⟨a0,a1,some nl2,a2⟩,by simp[Enum.v,V.cells],trivial⟩
 ·simp at hl'
theorem au_5{n:Nat}{x:V}(h:Shaped Tryz.prog n 26 x):∃a:Prog,x=a.v∧a.wf:=by
 obtain⟨ys,rfl,hl,hf⟩:=e_0 Tryz.underlying26 h
 have hl':ys.length=3:=hl
 rcases ys with _|⟨y0,_|⟨y1,_|⟨y2,_|⟨z,r⟩⟩⟩⟩
 ·simp at hl'
 ·simp at hl'
 ·simp at hl'
 ·have h0:=hf 0 _ y0 rfl rfl
  have h1:=hf 1 _ y1 rfl rfl
  have h2:=hf 2 _ y2 rfl rfl
  obtain⟨nl0,a0,rfl,q0⟩:=d_1 (g:=Struct.v) (Q:=fun _=>True) Tryz.underlying22 (fun n y h=>ay_7 h) h0
  obtain⟨nl1,a1,rfl,q1⟩:=d_1 (g:=Enum.v) (Q:=fun _=>True) Tryz.underlying23 (fun n y h=>ay_4 h) h1
  obtain⟨nl2,a2,rfl,q2⟩:=d_1 (g:=Fun.v) (Q:=Fun.wf) Tryz.underlying24 (fun n y h=>ab_5 h) h2
  exact⟨⟨some nl0,a0,some nl1,a1,some nl2,a2⟩,by simp[Prog.v,V.cells],q2⟩
 ·simp at hl'
end Go.Proofs.YtbbeelalcamgjaaGreatDoor
namespace Go.Proofs.YtbbeelalcamgjaaGreatDoor
open Go Go.Abs Go.ChangeShapes Go.WideShapes Go.RowKit
set_option maxRecDepth 1000000
theorem aX_4:(Tryz.prog.funcs.toList.all fun F=>F.name != "runtime.NumGoroutine")=true:=by kernel_rfl
theorem ax_7:(asciiNs.map (V.int .u8)).all (below 0 deep)=true:=by
 rw[List.all_eq_true]
 intro x hx
 obtain⟨i, -,rfl⟩:=List.mem_map.1 hx
 rfl
theorem own:ownKnob Tryz.prog.godebug=none:=by kernel_rfl
theorem aR_4:Tryz.prog.globalNamed "strings.asciiSpace" =some 1:=by kernel_rfl
theorem bj_3(args:Array Value)(w:World):(callFunc 306 args).run Tryz.prog w=((do pure (Next.value (←extSem .indexByteString args))):Sem Next).run Tryz.prog w:=by
 have hf:Tryz.prog.funcs[306]? =some Tryz.f306:=Tryz.func306
 have h1:(Tryz.f306.name== "runtime.NumGoroutine")=false:=by kernel_rfl
 have h2:Tryz.f306.body.isNone=true:=by kernel_rfl
 have h3:(Extern.findNext Tryz.f306).isNone=true:=by kernel_rfl
 have h4:Extern.find Tryz.f306=some Extern.BytealgIndexByte.indexByte:=by rfl
 rw[Option.isNone_iff_eq_none]at h3
 simp only[callFunc,Sem.run_bind,run_program,Result.andThen_ok,hf,h1,Bool.false_eq_true,if_false,h2,if_true,h3,h4]
 rfl
theorem bj_4(args:Array Value)(w:World):(callFunc 262 args).run Tryz.prog w=((do pure (Next.value (←extSem .countString args))):Sem Next).run Tryz.prog w:=by
 have hf:Tryz.prog.funcs[262]? =some Tryz.f262:=Tryz.func262
 have h1:(Tryz.f262.name== "runtime.NumGoroutine")=false:=by kernel_rfl
 have h2:Tryz.f262.body.isNone=true:=by kernel_rfl
 have h3:(Extern.findNext Tryz.f262).isNone=true:=by kernel_rfl
 have h4:Extern.find Tryz.f262=some Extern.BytealgCount.count:=by rfl
 rw[Option.isNone_iff_eq_none]at h3
 simp only[callFunc,Sem.run_bind,run_program,Result.andThen_ok,hf,h1,Bool.false_eq_true,if_false,h2,if_true,h3,h4]
 rfl
theorem bf_5:tb.Fits Tryz.prog:=a_▸Tab.of_fits (fun f F h=>by
  have:=List.all_eq_true.1 aX_4 F (List.mem_of_getElem? (i:=f) (by simpa using h))
  simpa using this) (fun f e h args w=>by
  split at h
  ·rename_i hf
   cases h
   subst hf
   exact bj_3 args w
  ·split at h
   ·rename_i hf
    cases h
    subst hf
    exact bj_4 args w
   ·cases h) (by kernel_rfl) (fun g cs h=>by
  split at h
  ·cases h;exact ax_7
  ·cases h)
theorem be_4{W:World}(h:laidMetH Tryz.prog Rows.checkPlacesUptoRow.laid W):GlobOk tb (k0 W):=by
 rw[MakeChecks.laidMetH_plain _ _ _ (by kernel_rfl)]at h
 intro g cs hg
 rw[a_]at hg
 simp only[tb0,Tab.of]at hg
 split at hg
 ·rename_i e
  subst e;cases hg
  obtain⟨ps,⟨_,_,_,_,_,_,_,_,_,_,⟨_,_,_,_,_,_,_,_,_,_,⟨_,_,_,_,_,_,_,_,_,_,⟨_,_,_,_,_,_,_,_,_,_,⟨_,_,_,_,_,_,_,_,_,_,⟨_,_,_,_,_,_,_,_,_,_,⟨_,_,_,_,_,_,_,_,_,_,⟨g,t,cs,fuel,p,q,h1,h2,h3,h4,_⟩,_⟩,_⟩,_⟩,_⟩,_⟩,_⟩,_⟩,_⟩:=h
  rw[aR_4]at h1;cases h1
  have ht:t=277:=by
   have h5:(Tryz.prog.globals[1]?).map (·.type)=some 277:=by kernel_rfl
   rw[h5]at h2;exact(Option.some.inj h2).symm
  subst ht
  exact aQ_7 aR_4 h3 (ap_5 (n:=256) Tryz.underlying277 (e:=5) (by kernel_rfl) (by kernel_rfl) (by kernel_rfl) h4)
 ·cases hg
theorem uptoAll{H:Type}:∀l:List (DataW H),Rows.uptoBulkAll l=(l.map Rows.uptoBulk).sum
 |[]=>by simp[Rows.uptoBulkAll]
 |d::r=>by rw[Rows.uptoBulkAll,uptoAll r];simp
theorem bd_8{H:Type}:BulkOk (Rows.uptoBulk (H:=H)) where
 str bytes:=by simp[Rows.uptoBulk]
 lit l:=by cases l<;>simp[Rows.uptoBulk]
 nil:=by simp[Rows.uptoBulk]
 ptr d:=by simp[Rows.uptoBulk]
 slice es sp:=by simp only[Rows.uptoBulk,uptoAll];omega
 agg ps:=by simp only[Rows.uptoBulk,uptoAll];omega
theorem aH_6{H:Type}(ds:List (DataW H))(h:Rows.uptoSmall H ds=true):(ds.map Rows.uptoBulk).sum≤1048576:=by
 have h1:Rows.uptoBulkAll ds≤1048576:=of_decide_eq_true h
 rw[←uptoAll];exact h1
def tyL:List TypeId:=[26,22,23,24,78,80,35,32,66,33,63,61,70,60,38,57,36,58,144,9,3,2,4]
theorem ba_3:tyL.all (tyIn Tryz.prog tyL)=true:=by kernel_rfl
noncomputable def laidWorld(os:Os):World:=World.laidAll Tryz.prog os Rows.checkPlacesUptoRow.laid
theorem ag_0(os:Os)(args:Array Value):laidMetH Tryz.prog Rows.checkPlacesUptoRow.laid ((laidWorld os).forCall (fun _ _=>0) ⟨#[],args,[]⟩).memory:=by
 rw[MakeChecks.laidMetH_plain _ _ _ (by kernel_rfl)]
 exact laidMet_laidAll _ (by kernel_rfl) (by kernel_rfl)
theorem aV_5:laidOutB Tryz.prog=true:=by kernel_rfl
end Go.Proofs.YtbbeelalcamgjaaGreatDoor
namespace Go.Proofs.YtbbeelalcamgjaaGreatDoor
open Go.Abs
attribute [local simp] N_6 O_3 v_9 H_6 l_0 P_0 F_5 E_3 u_1 d_0 k_2 o_3 c_3 f_0 i_2 c_0 i_4 finish dropMarks resOf
 resList m_1 o_1 h_4 f_9 d_ c_1 n_2 h_5 c_ b_1 b_0 b_9 c_4 f_6 f_4 d_4
 d_2 g_2 o_8 P_4 C_4 m_4 F_1 f_5 P_8 s_un G_ t_7 d_3 d_7 v_5 t_0 i_5 B_9 w_3 O_8 F_6 C_8 P_ n_9
 c_9 c_2 m_3 x_3 e_3 j_4 o_0 p_ o_9 n_5 a_7 c_8 f_8 e_5 f_3 k_ j_ h_8 g_0
 w_ m_7 m_8 n_7 u_6 u_8 u_5 i_9 v_7 evArgs m_ h_3 o_2 f_2 o_ C_7 ofValue ofValues isConst D_5 E_5 H_ C_ G_9
 E_9 E_4 E_0 G_5 G_4 D_7 E_2 C_5 D_0 F_9 H_5 strBin bne E_6 D_4 C_6 convV evConv optArg a_5 argF D_1 v_4 s_3 r_0 n_3 B_7 v_1
 x_1 m_9 h_6 j_7 k_0 i_7 j_0 g_ F_3 u_0 i_6 k_1 okCells P_9 d_6 l_8 g_3 k_3 j_3 g_1 i_0
 j_2 m_2 s_1 u_9 o_5 w_9 s_9 n_ u_ v_6 h_0 j_8 e_7 e_2 j_9 splice putElem k_6 H_3 E_8 k_4 m_6
 g_7 v_2 e_6 bdV fill o_6 bsF setAll d_8 f_7 F_2 e_9 i_1 i_8 f_1 r_ w_2 q_1 s_5 F_8 t_2 u_3 p_4 j_1
 r_9 F_7 D_ w_4 e_1 c_7 r_1 v_ n_4 s_ h_7 G_6 u_7 n_1 D_2 t_4 q_2 D_9 k_8 w_7 c_6 o_4 j_5 G_1
 v_3 F_ B_6 E_1 f_ x_2 t_6 H_1 D_6 H_0 C_2 s_8 m_5 w_8 t_8 deep List.getD_cons_zero List.getD_cons_succ List.getElem?_cons_zero
 List.getElem?_cons_succ List.getElem?_nil s_0 s_2 E_ G_2 G_0 C_0 x_0 v_8 B_8 F_0 x_4 w_1 t_ w_5 t_1 u_4 n_6 n_0 C_9 F_4
 i_3 i_ s_7 t_9 e_8 e_4 D_3 G_3 G_8 C_3 o_7 A_3 B_5 p_0 p_7 d_5 c_5 g_9 l_7 D_Rg
set_option maxRecDepth 100000
set_option linter.unusedSimpArgs false
set_option linter.unusedVariables false
set_option maxHeartbeats 4000000
theorem an_3{p:Prog}(hf:Fine p){st:St}{r m:Nat}{D:List (Str×Nat)}{Dc:Nat→Decl}(h:TabOf p st r m D Dc)(t:Str):slotsM D Dc t=((slotsD p t:Nat):Int):=by
 unfold slotsM slotsD val
 rw[Y_8 h.ms]
 cases hk:known p t with
 |false=>simp
 |true=>
  by_cases k2:kindOf t=2
  ·obtain⟨d,hd⟩:=ad_8 hk k2
   obtain⟨k,hg⟩:=h.ms.dom _ _ hd
   simp only[k2,if_true,hg,Bool.true_eq_false,if_false]
   exact(h.all t k hg).2.1
  ·simp[k2]
theorem ar_9:∀l:List Struct,V.bulks ((l.map Struct.nrm).map Struct.v)=V.bulks (l.map Struct.v)
 |[]=>rfl
 |x::l=>by
  have h:(Struct.nrm x).v.bulk=x.v.bulk:=by rw[B_4,B_4];rfl
  simp only[List.map_cons,V.bulks,h,ar_9 l]
theorem aZ_2(p:Prog)(t:Str):((p.structs.map Struct.nrm).find? fun x=>x.name==t)=(p.st t).map Struct.nrm:=by
 rw[List.find?_map];rfl
theorem ba_7{p:Prog}{st:St}{r m:Nat}{D:List (Str×Nat)}{Dc:Nat→Decl}(h:TabOf p st r m D Dc)(t:Str):(declOf p t=none∧getM D t=none)∨∃d k,declOf p t=some d∧getM D t=some k∧(Dc k).enum=d.enum∧(Dc k).parts=d.parts:=by
 cases hd:declOf p t with
 |none=>
  refine .inl ⟨rfl,?_⟩
  cases hg:getM D t with
  |none=>rfl
  |some k=>
   obtain⟨d0,s,b,e, -⟩:=h.ms.ok t k hg
   rw[hd]at e;cases e
 |some d=>
  obtain⟨k,hk⟩:=h.ms.dom t d hd
  obtain⟨d0,s,b,e,e2, -⟩:=h.ms.ok t k hk
  rw[hd]at e;cases e
  exact .inr ⟨_,k,rfl,hk,by rw[e2],by rw[e2]⟩
theorem bc_2{p:Prog}(hf:Fine p){st:St}{r m:Nat}{D:List (Str×Nat)}{Dc:Nat→Decl}(h:TabOf p st r m D Dc):∀l:List Var,sumS D Dc l=((sumD p l:Nat):Int)
 |[]=>rfl
 |x::l=>by
  have ih:=bc_2 hf h l
  unfold sumS sumD at *
  simp only[List.map_cons,List.sum_cons]
  rw[ih,an_3 hf h];omega
theorem ba_8{p:Prog}(hf:Fine p){st:St}{r m:Nat}{D:List (Str×Nat)}{Dc:Nat→Decl}(h:TabOf p st r m D Dc)(t n:Str):fieldM D Dc t n=fieldD p t n:=by
 unfold fieldM fieldD
 rcases ba_7 h t with⟨e1,e2⟩|⟨d,k,e1,e2,e3,e4⟩
 ·rw[e2]
  rw[B_3]at e1
  cases hs:p.st t with
  |none=>rfl
  |some s=>rw[hs]at e1;cases e1
 ·rw[e2]
  rw[B_3]at e1
  cases hs:p.st t with
  |none=>
   rw[hs]at e1
   cases he:p.en t with
   |none=>rw[he]at e1;cases e1
   |some e=>
    rw[he]at e1;cases e1
    simp only[e3,Decl.ofE]
    rfl
  |some s=>
   rw[hs]at e1;cases e1
   simp only[e3,e4,Decl.ofS,if_true,bc_2 hf h]
theorem TabOf.trim{p:Prog}{st:St}{r m:Nat}{D:List (Str×Nat)}{Dc:Nat→Decl}(h:TabOf p st r m D Dc)(hsz:p.size≤1048576):∃Dc',TabOf p st r m D Dc'∧∀k,(Dc' k).parts.length≤1048576∧∀v∈(Dc' k).parts,v.type.length≤1048576:=by
 classical
 let D0:Decl:=⟨[],0,false,false,none,[],0,false⟩
 refine⟨fun k=>if∃n,getM D n=some k then Dc k else D0,?_,?_⟩
 ·have e:∀n k,getM D n=some k→(if∃n,getM D n=some k then Dc k else D0)=Dc k:=fun n k hk=>if_pos ⟨n,hk⟩
  refine⟨⟨⟨h.ms.tab.box,h.ms.tab.ents,fun n k hk=> ?_⟩,h.ms.base,h.ms.prot,fun n k hk=> ?_,h.ms.dom,h.ms.inj⟩,fun n k hk=> ?_,h.box⟩
  ·show st.store[k]? =some (.box (if∃n,getM D n=some k then Dc k else D0).cs)
   rw[e n k hk];exact h.ms.tab.decl n k hk
  ·show∃d0 s b,declOf p n=some d0∧(if∃n,getM D n=some k then Dc k else D0)={d0 with slots:=s,drops:=b}∧Meas p n s b
   rw[e n k hk];exact h.ms.ok n k hk
  ·show sz p n≤32∧(if∃n,getM D n=some k then Dc k else D0).slots=(sz p n:Nat)∧(if∃n,getM D n=some k then Dc k else D0).drops=need p n
   rw[e n k hk];exact h.all n k hk
 ·intro k
  show(if∃n,getM D n=some k then Dc k else D0).parts.length≤1048576∧∀v∈(if∃n,getM D n=some k then Dc k else D0).parts,v.type.length≤1048576
  by_cases hk:∃n,getM D n=some k
  ·rw[if_pos hk]
   obtain⟨n,hk⟩:=hk
   obtain⟨d0,s,b,e1,e2, -⟩:=h.ms.ok n k hk
   have h1:=X_9 hsz (l_ e1)
   rw[e2]
   show d0.parts.length≤1048576∧∀v∈d0.parts,v.type.length≤1048576
   have h2:=b_8 d0.parts
   refine⟨by omega,fun v hv=> ?_⟩
   have h3:=B_1 hv
   rw[Var.size,T_1]at h3
   omega
  ·rw[if_neg hk]
   exact⟨by decide,fun v hv=>by cases hv⟩
end Go.Proofs.YtbbeelalcamgjaaGreatDoor
namespace Go.Proofs.YtbbeelalcamgjaaGreatDoor
open Go.Abs
set_option maxRecDepth 100000
structure Ty where
 type:Str
 sh:Bool
 le:Bool
 ho:Bool
def Ty.z:Ty:=⟨[],false,false,false⟩
def Ty.v(x:Ty):V:= .agg [.str x.type, .bool x.sh, .bool x.le, .bool x.ho]
def starS:Str:=[42]
def Fun.vars(f:Fun):List Var:=f.params ++f.locals
def elemW(t:Str):Str×Bool:=if kindOf t<3 then([],false)else(t.drop 4,true)
def stepD(p:Prog)(x:Ty)(s:Str):Ty×Int:=
 if s=starS then
  if(elemW x.type).2=true then(⟨(elemW x.type).1,x.sh||kindOf x.type==4,x.le||kindOf x.type==5,x.ho⟩,0)else(Ty.z,6)
 else match p.st x.type with
  |none=>(Ty.z,6)
  |some d=>match d.fields.find? (fun y:Var=>y.name==s)with
   |none=>(Ty.z,5)
   |some y=>(⟨y.type,x.sh,x.le,x.ho||d.hook⟩,0)
def stepsD(p:Prog):Ty→List Str→Ty×Int
 |x,[]=>(x,0)
 |x,s::l=>if(stepD p x s).2=0 then stepsD p (stepD p x s).1 l else(Ty.z,(stepD p x s).2)
def placeD(p:Prog)(f:Fun)(q:Place):Ty×Int:=match f.vars.find? (fun y:Var=>y.name==q.loc)with
 |none=>(Ty.z,5)
 |some y=>stepsD p ⟨y.type,false,false,false⟩ q.steps
theorem be_9{p:Prog}(h:p.size≤1048576){t:Str}{d:Struct}(hd:p.st t=some d){y:Var}(hy:y∈d.fields):y.type.length≤1048576:=by
 have h1:=r_7 (List.mem_of_find?_eq_some hd)
 have h2:=B_1 hy
 rw[l_1]at h1
 rw[w_0]at h2
 rw[j_6]at h
 omega
theorem aN_7(t:Str):(elemW t).1.length≤t.length:=by
 unfold elemW;split
 ·simp
 ·simp
theorem as_0{p:Prog}(h:p.size≤1048576)(x:Ty)(s:Str)(hx:x.type.length≤1048576):(stepD p x s).1.type.length≤1048576:=by
 unfold stepD
 split
 ·split
  ·have:=aN_7 x.type
   show(elemW x.type).1.length≤_
   omega
  ·simp[Ty.z]
 ·split
  ·simp[Ty.z]
  ·rename_i d hd
   split
   ·simp[Ty.z]
   ·rename_i y hy
    exact be_9 h hd (List.mem_of_find?_eq_some hy)
theorem ae_1{p:Prog}(h:p.size≤1048576):∀(l:List Str) (x:Ty),x.type.length≤1048576→(stepsD p x l).1.type.length≤1048576
 |[],x,hx=>hx
 |s::l,x,hx=>by
  unfold stepsD
  split
  ·exact ae_1 h l _ (as_0 h x s hx)
  ·simp[Ty.z]
theorem ag_8{f:Fun}(h:f.size≤1048576){y:Var}(hy:y∈f.vars):y.size≤1048576:=by
 rw[n_8]at h
 unfold Fun.vars at hy
 rcases List.mem_append.1 hy with hy|hy
 ·have:=B_1 hy;omega
 ·have:=B_1 hy;omega
theorem aE_1{p:Prog}(h:p.size≤1048576){f:Fun}(hf:f.size≤1048576)(q:Place):(placeD p f q).1.type.length≤1048576:=by
 unfold placeD
 split
 ·simp[Ty.z]
 ·rename_i y hy
  have:=ag_8 hf (List.mem_of_find?_eq_some hy)
  rw[w_0]at this
  exact ae_1 h _ _ (by show y.type.length≤_;omega)
theorem af_1{α:Type}(q:α→Bool):∀l:List α,(l.find? q=none∧idxI q l= -1)∨∃i x,l.find? q=some x∧l[i]? =some x∧idxI q l=(i:Nat)∧i<l.length
 |[]=> .inl ⟨rfl,rfl⟩
 |c::l=>by
  by_cases hc:q c=true
  ·refine .inr ⟨0,c,by simp[hc],rfl,?_,by simp⟩
   unfold idxI
   simp[hc,idx]
  ·have hc':q c=false:=by simpa using hc
   rcases af_1 q l with⟨h1,h2⟩|⟨i,x,h1,h2,h3,h4⟩
   ·refine .inl ⟨by simp[hc',h1],?_⟩
    unfold idxI at h2⊢
    have ha:l.any q=false:=by
     cases ha:l.any q with
     |false=>rfl
     |true=>rw[ha,if_pos rfl]at h2;omega
    rw[List.any_cons,hc',ha];rfl
   ·refine .inr ⟨i+1,x,by simp[hc',h1],by simpa using h2,?_,by simpa using h4⟩
    unfold idxI at h3⊢
    have ha:l.any q=true:=by
     cases ha:l.any q with
     |true=>rfl
     |false=>rw[ha,if_neg (by decide)]at h3;omega
    rw[ha,if_pos rfl]at h3
    rw[List.any_cons,hc',ha,Bool.false_or,if_pos rfl]
    simp only[idx,hc',Bool.false_eq_true,if_false]
    omega
theorem Z_7{p:Prog}{t:Str}{d:Struct}(hd:p.st t=some d)(s:Str):(d.fields.find? (fun y:Var=>y.name==s)=none∧fieldD p t s=noPart)∨∃y o,d.fields.find? (fun y:Var=>y.name==s)=some y∧fieldD p t s= .tup [.str y.type, .int .i64 o, .bool true]:=by
 unfold fieldD
 rw[hd]
 simp only
 rcases af_1 (fun y:Var=>y.name==s) d.fields with⟨h1,h2⟩|⟨i,x,h1,h2,h3,h4⟩
 ·rw[h2,if_pos rfl];exact .inl ⟨h1,rfl⟩
 ·rw[h3,if_neg (by omega),Int.toNat_natCast,h2]
  exact .inr ⟨x,_,h1,rfl⟩
end Go.Proofs.YtbbeelalcamgjaaGreatDoor
namespace Go.Proofs.YtbbeelalcamgjaaGreatDoor
open Go.Abs
set_option maxRecDepth 100000
theorem R_4(p:Prog):∀(a b:List Str) (x:Ty),stepsD p x (a ++b)=if(stepsD p x a).2=0 then stepsD p (stepsD p x a).1 b else stepsD p x a
 |[],b,x=>by simp[stepsD]
 |s::a,b,x=>by
  rw[List.cons_append]
  by_cases h:(stepD p x s).2=0
  ·have e:∀l,stepsD p x (s::l)=stepsD p (stepD p x s).1 l:=fun l=>by rw[stepsD,if_pos h]
   rw[e,e]
   exact R_4 p a b _
  ·have e:∀l,stepsD p x (s::l)=(Ty.z,(stepD p x s).2):=fun l=>by rw[stepsD,if_neg h]
   rw[e,e,if_neg h]
def frontD(p:Prog)(f:Fun)(q:Place)(i:Nat):Ty×Int:=placeD p f ⟨q.loc,none,q.steps.take i⟩
theorem ay_0(p:Prog)(f:Fun)(q r:Place)(h:q.loc=r.loc)(h2:q.steps=r.steps):placeD p f q=placeD p f r:=by
 unfold placeD;rw[h,h2]
theorem aL_9{p:Prog}{f:Fun}{q:Place}{i:Nat}(h:(frontD p f q i).2≠0):(placeD p f q).2=(frontD p f q i).2:=by
 unfold frontD placeD at *
 split at h<;>rename_i e
 ·simp only[e]
 ·simp only[e]
  have h1:=R_4 p (q.steps.take i) (q.steps.drop i)
  rw[List.take_append_drop]at h1
  rw[h1,if_neg h]
theorem aL_5{p:Prog}{f:Fun}{q:Place}:frontD p f q q.steps.length=placeD p f q:=by
 unfold frontD placeD
 rw[List.take_length]
theorem aF_6{p:Prog}{f:Fun}{q:Place}{i:Nat}(hi:i<q.steps.length)(h:(frontD p f q i).2=0):frontD p f q (i+1)=if(stepD p (frontD p f q i).1 q.steps[i]).2=0 then((stepD p (frontD p f q i).1 q.steps[i]).1,0)else(Ty.z,(stepD p (frontD p f q i).1 q.steps[i]).2):=by
 unfold frontD placeD at *
 split at h<;>rename_i e
 ·simp at h
 ·simp only[e]
  rw[List.take_succ_eq_append_getElem hi,R_4,if_pos h]
  show stepsD p _ [_]=_
  rw[stepsD]
  rfl
theorem aE_{p:Prog}{t:Str}(h:known p t=true)(hk:(elemW t).2=true):known p (elemW t).1=true:=by
 unfold elemW at hk⊢
 split at hk
 ·cases hk
 ·rename_i h3
  rw[if_neg h3]
  obtain⟨h1,h2,h4⟩:=ap_3 (u:=t) (by omega)
  have hn:kindOf t≠0:=by omega
  have e:baseOf (t.drop 4)=baseOf t:=by
   unfold baseOf
   rw[if_neg (by simpa using h2),if_neg (by simpa using hn),h4]
  unfold known at h⊢
  simp only
  rw[e];exact h
theorem aD_{p:Prog}(hf:Fine p){t:Str}{d:Struct}(hd:p.st t=some d){y:Var}(hy:y∈d.fields):known p y.type=true∧y.type≠[]:=by
 have hm:=List.mem_of_find?_eq_some hd
 have hD:Decl.ofS d∈declsOf p:=List.mem_append_left _ (List.mem_map_of_mem hm)
 have hne:=(W_ hf.right hD).2.2 rfl y hy
 exact⟨hf.known _ hD y hy hne,hne⟩
theorem aK_3{p:Prog}(hf:Fine p){x:Ty}(s:Str)(hx:known p x.type=true)(h:(stepD p x s).2=0):known p (stepD p x s).1.type=true:=by
 unfold stepD at h⊢
 split
 ·rename_i hs
  rw[if_pos hs]at h
  split at h
  ·rename_i he
   rw[if_pos he]
   exact aE_ hx he
  ·simp at h
 ·rename_i hs
  rw[if_neg hs]at h
  split at h
  ·simp at h
  ·rename_i d hd
   split at h
   ·simp at h
   ·rename_i y hy
    simp only[hd,hy]
    exact(aD_ hf hd (List.mem_of_find?_eq_some hy)).1
theorem Z_3{p:Prog}(hf:Fine p):∀(l:List Str) (x:Ty),known p x.type=true→(stepsD p x l).2=0→known p (stepsD p x l).1.type=true
 |[],x,hx,_=>hx
 |s::l,x,hx,h=>by
  unfold stepsD at h⊢
  split
  ·rename_i h0
   rw[if_pos h0]at h
   exact Z_3 hf l _ (aK_3 hf s hx h0) h
  ·rename_i h0
   rw[if_neg h0]at h
   exact absurd h h0
def knownF(p:Prog)(f:Fun):Bool:=f.vars.all fun v=>known p v.type
theorem as_4{p:Prog}(hf:Fine p){f:Fun}(hk:knownF p f=true){q:Place}(h:(placeD p f q).2=0):known p (placeD p f q).1.type=true:=by
 unfold placeD at h⊢
 split
 ·rename_i e
  rw[e]at h;simp at h
 ·rename_i y e
  rw[e]at h
  exact Z_3 hf _ _ (List.all_eq_true.1 hk y (List.mem_of_find?_eq_some e)) h
end Go.Proofs.YtbbeelalcamgjaaGreatDoor
namespace Go.Proofs.YtbbeelalcamgjaaGreatDoor
open Go.Abs
set_option maxRecDepth 100000
set_option maxHeartbeats 4000000
structure Tbl(p:Prog)(r:Nat)(st:St):Prop where
 fine:Fine p
 ex:∃m D Dc,TabSt st r m D Dc∧(∃st0,TabOf p st0 r m D Dc)∧(∀k,(Dc k).parts.length≤1048576∧∀v∈(Dc k).parts,v.type.length≤1048576)∧
  st.store[r]? =some (.box [.list false none ((p.structs.map Struct.nrm).map Struct.v), .list false none ((p.enums.map Enum.nrm).map Enum.v), .list false none ((p.funcs.map Fun.nrm).map Fun.v), .map m])
theorem Tbl.of{p:Prog}(hf:Fine p){st:St}{r m:Nat}{D:List (Str×Nat)}{Dc:Nat→Decl}(h:TabOf p st r m D Dc):Tbl p r st:=by
 obtain⟨Dc',hT,hlen⟩:=h.trim hf.size
 exact⟨hf,m,D,Dc',hT.ms.tab,⟨st,hT⟩,hlen,hT.box⟩
theorem Tbl.keep{p:Prog}{r:Nat}{a b:St}(h:Tbl p r a)(hg:∀(i:Nat) (o:O),a.store[i]? =some o→((∃cs,o= .box cs)∨∃es,o= .map es)→b.store[i]? =some o):Tbl p r b:=by
 obtain⟨hf,m,D,Dc,hT,h0,hl,hb⟩:=h
 obtain⟨l1,l2,l3,h1⟩:=hT.box
 exact⟨hf,m,D,Dc,⟨⟨l1,l2,l3,hg _ _ h1 (.inl ⟨_,rfl⟩)⟩,hg _ _ hT.ents (.inr ⟨_,rfl⟩),fun n k hk=>hg _ _ (hT.decl n k hk) (.inl ⟨_,rfl⟩)⟩,h0,hl,hg _ _ hb (.inl ⟨_,rfl⟩)⟩
theorem Tbl.grow{p:Prog}{r:Nat}{a b:St}(h:Tbl p r a)(hg:Grows a b):Tbl p r b:=h.keep fun i o hi _=>hg.at_ hi
theorem Tbl.box{p:Prog}{r:Nat}{a:St}(h:Tbl p r a)(cs:List V):Tbl p r (newBox a cs):=h.keep fun i o hi _=>a_2 hi
theorem Tbl.ro{p:Prog}{r:Nat}{a:St}(h:Tbl p r a):Tbl p r (roSt a):=h.keep fun i o hi _=>hi
theorem be_7(o:Option Struct):stV (o.map Struct.nrm)=stV o:=by cases o<;>rfl
def PB(st:St):Prop:=∀q∈st.prot,q<st.store.length
theorem PB.nil{st:St}(h:st.prot=[]):PB st:=by unfold PB;rw[h];simp
theorem PB.box{st:St}(h:PB st)(cs:List V):PB (newBox st cs):=fun q hq=>by
 have:=h q hq
 simp[newBox];omega
theorem PB.ro{st:St}(h:PB st):PB (roSt st):=h
theorem PB.np{st:St}(h:PB st)(k:Nat):¬st.store.length+k∈st.prot:=fun e=>by have:=h _ e;omega
theorem PB.np0{st:St}(h:PB st):¬st.store.length∈st.prot:=fun e=>by have:=h _ e;omega
theorem tblStruct{p:Prog}{r:Nat}{st:St}(h:Tbl p r st)(hp:PB st)(n:Str):(run tb).call 114 [.ptr r 0, .str n] st=some (stV (p.st n),st):=by
 obtain⟨hf,m,D,Dc,hT,⟨st0,h0⟩,hlen,hb⟩:=h
 have hz:=hf.size
 rw[j_6]at hz
 have h1:=av_6 r (p.structs.map Struct.nrm) false none _ _ _ n (by rw[ar_9];omega) st hp hb
 rw[aZ_2,be_7]at h1
 exact h1
theorem tblField{p:Prog}{r:Nat}{st:St}(h:Tbl p r st)(hp:PB st)(t n:Str):(run tb).call 26 [.ptr r 0, .str t, .str n] st=some (fieldD p t n,st):=by
 obtain⟨hf,m,D,Dc,hT,⟨st0,h0⟩,hlen,hb⟩:=h
 rw[←ba_8 hf h0]
 exact aD_0 r m D Dc t n st hp hT (fun k=>by have:=(hlen k).1;omega) (fun t=>by rw[an_3 hf h0];have:=aQ_ p t;omega) (fun k v hv=>by have:=(hlen k).2 v hv;omega)
theorem tblKnown{p:Prog}{r:Nat}{st:St}(h:Tbl p r st)(u:Str)(hu:u.length<2^40):(run tb).call 25 [.ptr r 0, .str u] st=some (.bool (known p u),st):=by
 obtain⟨hf,m,D,Dc,hT,⟨st0,h0⟩,hlen,hb⟩:=h
 rw[←Y_8 h0.ms u]
 exact L_1 r m _ _ _ D u hu st hb hT.ents
end Go.Proofs.YtbbeelalcamgjaaGreatDoor
namespace Go.Proofs.YtbbeelalcamgjaaGreatDoor
open Go.Abs
attribute [local simp] N_6 O_3 v_9 H_6 l_0 P_0 F_5 E_3 u_1 d_0 k_2 o_3 c_3 f_0 i_2 c_0 i_4 finish dropMarks resOf
 resList m_1 o_1 h_4 f_9 d_ c_1 n_2 h_5 c_ b_1 b_0 b_9 c_4 f_6 f_4 d_4
 d_2 g_2 o_8 P_4 C_4 m_4 F_1 f_5 P_8 s_un G_ t_7 d_3 d_7 v_5 t_0 i_5 B_9 w_3 O_8 F_6 C_8 P_ n_9
 c_9 c_2 m_3 x_3 e_3 j_4 o_0 p_ o_9 n_5 a_7 c_8 f_8 e_5 f_3 k_ j_ h_8 g_0
 w_ m_7 m_8 n_7 u_6 u_8 u_5 i_9 v_7 evArgs m_ h_3 o_2 f_2 o_ C_7 ofValue ofValues isConst D_5 E_5 H_ C_ G_9
 E_9 E_4 E_0 G_5 G_4 D_7 E_2 C_5 D_0 F_9 H_5 strBin bne E_6 D_4 C_6 convV evConv optArg a_5 argF D_1 v_4 s_3 r_0 n_3 B_7 v_1
 x_1 m_9 h_6 j_7 k_0 i_7 j_0 g_ F_3 u_0 i_6 k_1 okCells P_9 d_6 l_8 g_3 k_3 j_3 g_1 i_0
 j_2 m_2 s_1 u_9 o_5 w_9 s_9 n_ u_ v_6 h_0 j_8 e_7 e_2 j_9 splice putElem k_6 H_3 E_8 k_4 m_6
 g_7 v_2 e_6 bdV fill o_6 bsF setAll d_8 f_7 F_2 e_9 i_1 i_8 f_1 r_ w_2 q_1 s_5 F_8 t_2 u_3 p_4 j_1
 r_9 F_7 D_ w_4 e_1 c_7 r_1 v_ n_4 s_ h_7 G_6 u_7 n_1 D_2 t_4 q_2 D_9 k_8 w_7 c_6 o_4 j_5 G_1
 v_3 F_ B_6 E_1 f_ x_2 t_6 H_1 D_6 H_0 C_2 s_8 m_5 w_8 t_8 deep List.getD_cons_zero List.getD_cons_succ List.getElem?_cons_zero
 List.getElem?_cons_succ List.getElem?_nil s_0 s_2 E_ G_2 G_0 C_0 x_0 v_8 B_8 F_0 x_4 w_1 t_ w_5 t_1 u_4 n_6 n_0 C_9 F_4
 i_3 i_ s_7 t_9 e_8 e_4 D_3 G_3 G_8 C_3 ld3 sr3 und3 ld9 und9 ln9 ix9 ld32 sr32 T_ ia32 ln32 sl32 sv32 ap32 bs32 bl_4 bm_3 bk_0 o_7 A_3
 B_5 p_0 p_7 p110_8 p110_33 D_Rg S110 L110_1 L110_3 L110_6 L110_10 L110_18 L110_20 L110_22 L110_24 L110_26 L110_28 L110_31 L110_35 L110_43 L110_44 L110_45 L110_47 S181 L181_1 L181_4
 L181_6 L181_10 L181_12 L181_14 L181_17
set_option maxRecDepth 100000
set_option linter.unusedSimpArgs false
set_option linter.unusedVariables false
set_option maxHeartbeats 4000000
theorem sub0(n:Nat)(h:n<2^62):intBin .sub .i64 (n:Int) 0=some (.int .i64 (n:Int)):=by
 have:=aY_3 (x:=(n:Int)) (y:=0) (by omega) (by omega)
 rw[this,Int.sub_zero]
theorem cp32{nl:Option Bool}{xs:List V}:capV tb 32 (.list true nl xs)=some (.int .i64 xs.length):=by rw[a_];kernel_rfl
theorem az32{st:St}{nl:Option Bool}{n:Int}:evAppendZeros tb st 32 (.list true nl []) (.int .i64 n)=if 0<n∧n * 32<2^40∧n<2^40 then some (.slice st.store.length 2 0 n.toNat,addO st (.vec false (List.replicate n.toNat (.agg [.str [], .str []]))))else none:=by
 unfold evAppendZeros
 have h1:tb.und 32=some (.slice 66):=T_
 have h2:(tb.ty 66).map (fun t=>(t.size,t.bytes,t.zero))=some (2,32, .agg [.str [], .str []]):=by rw[a_];kernel_rfl
 cases ht:tb.ty 66 with
 |none=>rw[ht]at h2;cases h2
 |some ti=>
  rw[ht]at h2
  simp only[Option.map_some,Option.some.injEq,Prod.mk.injEq]at h2
  obtain⟨e1,e2,e3⟩:=h2
  simp only[h1,ht,e1,e2,e3]
  have e4:((V.agg [.str [], .str []]).cells.length==2&&(V.agg [.str [], .str []]).cells.all V.oneCell)=true:=rfl
  by_cases hc:0<n∧n * 32<2^40∧n<2^40
  ·rw[if_pos hc,if_pos ⟨hc.1,hc.2.1,hc.2.2,by decide,by decide,e4⟩];rfl
  ·rw[if_neg hc,if_neg (fun h=>hc ⟨h.1,h.2.1,h.2.2.1⟩)]
theorem aP_8(st:St):(run tb).call 181 [.list true (some true) [], .int .i64 0] st=some (.list true (some true) [],st):=by
 have h1:intBin .sub .i64 (0:Int) 0=some (.int .i64 0):=by kernel_rfl
 rw[run181 (by simp)]
 simp[-List.getD_eq_getElem?_getD, -getElem?_pos,aP_,cp32,h1]
 repeat' (first|refine a_0 ?_ ?_|refine Out.branch ?_ ?_|refine Ret.branch ?_ ?_)<;>(intro hb;(try(simp only[NB]at hb));simp[-List.getD_eq_getElem?_getD, -getElem?_pos,aP_,cp32,h1,hb])
 all_goals try refine Out.one ?_
 all_goals try refine Ret.one ?_
 all_goals try(simp[-List.getD_eq_getElem?_getD,aP_,cp32,h1, *];done)
 all_goals try simp[-List.getD_eq_getElem?_getD,aP_,cp32,h1]
 all_goals try(intros;omega)
theorem aX_2(n:Nat)(h:0<n)(hn:n<2^30)(st:St):(run tb).call 181 [.list true (some true) [], .int .i64 (n:Nat)] st=some (.slice st.store.length 2 0 0,addO st (.vec false (List.replicate n (.agg [.str [], .str []])))):=by
 have h0:¬((n:Int)<0):=by omega
 have h1:intBin .sub .i64 (n:Int) 0=some (.int .i64 (n:Int)):=sub0 n (by omega)
 have h3:intBin .sub .i64 (0:Int) 0=some (.int .i64 0):=by kernel_rfl
 have h4:sliceList 2 true (some true) [] .none (some (.int .i64 0)) .none=some (.list true (some true) []):=by kernel_rfl
 have h5:∀r,sliceVec 2 r 2 0 n .none (some (.int .i64 0)) .none=some (.slice r 2 0 0):=by
  intro r
  simp[sliceVec,bounds,bound,asIdx]
 have h6:(n:Int)* 32<2^40∧(n:Int)<2^40:=by omega
 have h7:=az32 (st:=st) (nl:=some true) (n:=n)
 rw[if_pos ⟨by omega,h6.1,h6.2⟩,Int.toNat_natCast]at h7
 have h2:(0:Int)<(n:Int):=by omega
 rw[run181 (by simp)]
 simp[-List.getD_eq_getElem?_getD, -getElem?_pos,aP_,cp32,bh_8 und3,h7,h0,h1,h2,h3,h4,h5,h]
theorem bm_9{st:St}{s bytes r len:Nat}{new es:List V}{y:V}{sp:Bool}(hs:srcElems st y=some new)(hn:new≠[])(hc:new.all (fun v=>v.cells.length==s&&v.cells.all V.oneCell)=true)(h0:s≠0)(hb:bytes≠0)
  (hlk:st.locked r=false) (hr:st.store[r]? =some (.vec false es)) (hle:len+new.length≤es.length):
  appV s bytes st sp (.slice r s 0 len) y=some (.slice r s 0 (len+new.length),setO st r (.vec false (es.take len ++new ++es.drop (len+new.length)))):=by
 have hp:0<new.length:=List.length_pos_iff.2 hn
 unfold appV
 simp only[hs,hc]
 rw[if_neg (by simp[h0,hb]),if_neg (by simpa using hn),if_neg (by simp only[hlk];simp),hr]
 simp only
 rw[if_neg (by omega),if_pos ⟨trivial,by omega⟩]
 simp[setO]
theorem aY_5{st:St}{a b:O}:setO (addO st a) st.store.length b=addO st b:=by
 unfold setO addO
 simp
def z66:V:= .agg [.str [], .str []]
theorem aB_0{st:St}{r k:Nat}{pre:List V}{l:List Var}{fl:Bool}{nl:Option Bool}{d:Nat}(hlk:st.locked r=false)(hr:st.store[r]? =some (.vec false (pre ++List.replicate (l.length+d) z66)))(hk:k=pre.length)(sp:Bool):
  appV 2 32 st sp (.slice r 2 0 k) (.list fl nl (l.map Var.v))=some (.slice r 2 0 (k+l.length),setO st r (.vec false (pre ++l.map Var.v ++List.replicate d z66))):=by
 have hlt:=U_7 hr
 cases l with
 |nil=>
  rw[g_4 (by rfl) (by decide) (by decide) rfl]
  have e:setO st r (.vec false (pre ++List.map Var.v [] ++List.replicate d z66))=st:=by
   unfold setO
   have h1:st.store.set r (.vec false (pre ++List.map Var.v [] ++List.replicate d z66))=st.store:=aK_7 (by rw[hr];simp)
   rw[h1]
  rw[e];rfl
 |cons x l=>
  rw[bm_9 (new:=(x::l).map Var.v) rfl (by simp) (by simp[Var.v,V.cells,V.oneCell]) (by decide) (by decide) hlk hr (by simp;omega)]
  subst hk
  have e:List.drop (pre.length+(l.length+1)) pre=[]:=List.drop_eq_nil_of_le (by omega)
  simp[List.drop_append,List.take_append,e]
theorem aG_2(a b:List Var)(f1 f2 fl:Bool)(n1 n2 nl:Option Bool)(h0:0<a.length+b.length)(hl:a.length+b.length<2^30)(st:St)(hb:st.base≤st.store.length)(hp:st.prot=[]):(run tb).call 110 [.list fl nl [.list f1 n1 (a.map Var.v), .list f2 n2 (b.map Var.v)]] st=some (.slice st.store.length 2 0 (a.length+b.length),addO st (.vec false (a.map Var.v ++b.map Var.v))):=by
 obtain⟨c,hc,ac⟩:=addN a.length b.length (by omega)
 have a0:intBin .add .i64 (0:Int) (a.length:Nat)=some (.int .i64 (a.length:Nat)):=by
  have:=L_5 (x:=0) (y:=(a.length:Nat)) (by omega) (by omega)
  rw[this,Int.zero_add]
 have na:¬((a.length:Int)<0):=by omega
 have nc:¬((c:Int)<0):=by omega
 have w2:IntKind.i64.wrap 2=2:=by kernel_rfl
 have w1:IntKind.i64.wrap 1=1:=by kernel_rfl
 have hlk:∀o:O,(addO st o).locked st.store.length=false:=by
  intro o
  unfold St.locked addO
  simp[hp];omega
 have hg:=aX_2 c (by omega) (by omega) st
 rw[run110 (by simp)]
 simp[-List.getD_eq_getElem?_getD, -getElem?_pos]
 refine a_9 (a_8 e110_8 w110_8 2 (I:=fun i f st'=>st'=st∧f 11= .int .i64 (i:Nat)∧f 3= .int .i64 ((if i=0 then 0 else if i=1 then a.length else c:Nat):Int)) (Q:=fun e f st'=>e= .exit 0∧st'=st∧f 3= .int .i64 (c:Int)) ?_ ?_ ?_) ?_
 ·exact⟨rfl,by simp,by simp⟩
 ·rintro i f st' hi hk ⟨rfl,h11,h3⟩
  have k9:f 9= .list fl nl [.list f1 n1 (a.map Var.v), .list f2 n2 (b.map Var.v)]:=by simp[hk]
  have k10:f 10= .int .i64 2:=by simp[hk]
  clear hk
  rcases i with _|_|i
  ·simp[-List.getD_eq_getElem?_getD, -getElem?_pos,h11,h3,k9,k10,a0,na,w1]
   repeat' (first|refine a_0 ?_ ?_|refine Out.branch ?_ ?_|refine Ret.branch ?_ ?_)<;>(intro hb;(try(simp only[NB]at hb));simp[-List.getD_eq_getElem?_getD, -getElem?_pos,h11,h3,k9,k10,a0,na,w1,hb])
   all_goals try refine Out.one ?_
   all_goals try refine Ret.one ?_
   all_goals try(simp[-List.getD_eq_getElem?_getD,h11,h3,k9,k10,a0,na,w1, *];done)
   all_goals try simp[-List.getD_eq_getElem?_getD,h11,h3,k9,k10,a0,na,w1]
   all_goals try(intros;omega)
  ·simp[-List.getD_eq_getElem?_getD, -getElem?_pos,h11,h3,k9,k10,ac,nc,w2]
   repeat' (first|refine a_0 ?_ ?_|refine Out.branch ?_ ?_|refine Ret.branch ?_ ?_)<;>(intro hb;(try(simp only[NB]at hb));simp[-List.getD_eq_getElem?_getD, -getElem?_pos,h11,h3,k9,k10,ac,nc,w2,hb])
   all_goals try refine Out.one ?_
   all_goals try refine Ret.one ?_
   all_goals try(simp[-List.getD_eq_getElem?_getD,h11,h3,k9,k10,ac,nc,w2, *];done)
   all_goals try simp[-List.getD_eq_getElem?_getD,h11,h3,k9,k10,ac,nc,w2]
   all_goals try(intros;omega)
  ·omega
 ·rintro f st' hk ⟨rfl,h11,h3⟩
  have k10:f 10= .int .i64 2:=by simp[hk]
  clear hk
  simp[-List.getD_eq_getElem?_getD, -getElem?_pos,h11,h3,k10]
  repeat' (first|refine a_0 ?_ ?_|refine Out.branch ?_ ?_|refine Ret.branch ?_ ?_)<;>(intro hb;(try(simp only[NB]at hb));simp[-List.getD_eq_getElem?_getD, -getElem?_pos,h11,h3,k10,hb])
  all_goals try refine Out.one ?_
  all_goals try refine Ret.one ?_
  all_goals try(simp[-List.getD_eq_getElem?_getD,h11,h3,k10, *];done)
  all_goals try simp[-List.getD_eq_getElem?_getD,h11,h3,k10]
  all_goals try(intros;omega)
 ·rintro e f st' ⟨⟨rfl,rfl,h3⟩,hk⟩
  have k0:f 0= .list fl nl [.list f1 n1 (a.map Var.v), .list f2 n2 (b.map Var.v)]:=by simp[hk]
  clear hk
  have nc:¬((c:Int)<0):=by omega
  simp[-List.getD_eq_getElem?_getD, -getElem?_pos,h3,hg,k0,nc]
  have hA:=aB_0 (st:=addO st' (.vec false (List.replicate c z66))) (r:=st'.store.length) (k:=0) (pre:=[]) (l:=a) (fl:=f1) (nl:=n1) (d:=b.length) (hlk _) (by rw[←hc];exact d_6) rfl
  have hB:=aB_0 (st:=addO st' (.vec false (a.map Var.v ++List.replicate b.length z66))) (r:=st'.store.length) (k:=a.length) (pre:=a.map Var.v) (l:=b) (fl:=f2) (nl:=n2) (d:=0) (hlk _) (by rw[Nat.add_zero];exact d_6) (by simp)
  simp only[Nat.zero_add,List.nil_append,List.replicate_zero,List.append_nil,aY_5]at hA hB
  rw[←hc]at hB⊢
  rw[show(V.agg [.str [], .str []])=z66 from rfl]
  refine a_9 (a_8 e110_33 w110_33 2 (I:=fun i f s=>f 27= .int .i64 (i:Nat)∧(i=0∧f 6= .slice st'.store.length 2 0 0∧s=addO st' (.vec false (List.replicate c z66))∨i=1∧f 6= .slice st'.store.length 2 0 a.length∧s=addO st' (.vec false (a.map Var.v ++List.replicate b.length z66))∨i=2∧f 6= .slice st'.store.length 2 0 c∧s=addO st' (.vec false (a.map Var.v ++b.map Var.v)))) (Q:=fun e f s=>e= .exit 2∧f 6= .slice st'.store.length 2 0 c∧s=addO st' (.vec false (a.map Var.v ++b.map Var.v))) ?_ ?_ ?_) ?_
  ·exact⟨by simp, .inl ⟨rfl,by simp,rfl⟩⟩
  ·rintro i f s hi hk ⟨h27,hc3⟩
   have k25:f 25= .list fl nl [.list f1 n1 (a.map Var.v), .list f2 n2 (b.map Var.v)]:=by simp[hk]
   have k26:f 26= .int .i64 2:=by simp[hk]
   clear hk
   rcases hc3 with⟨rfl,h6,rfl⟩|⟨rfl,h6,rfl⟩|⟨rfl, -, -⟩
   ·simp[-List.getD_eq_getElem?_getD, -getElem?_pos,h27,h6,k25,k26,w1,hA]
    repeat' (first|refine a_0 ?_ ?_|refine Out.branch ?_ ?_|refine Ret.branch ?_ ?_)<;>(intro hb;(try(simp only[NB]at hb));simp[-List.getD_eq_getElem?_getD, -getElem?_pos,h27,h6,k25,k26,w1,hA,hb])
    all_goals try refine Out.one ?_
    all_goals try refine Ret.one ?_
    all_goals try(simp[-List.getD_eq_getElem?_getD,h27,h6,k25,k26,w1,hA, *];done)
    all_goals try simp[-List.getD_eq_getElem?_getD,h27,h6,k25,k26,w1,hA]
    all_goals try(intros;omega)
   ·simp[-List.getD_eq_getElem?_getD, -getElem?_pos,h27,h6,k25,k26,w2,hB]
    repeat' (first|refine a_0 ?_ ?_|refine Out.branch ?_ ?_|refine Ret.branch ?_ ?_)<;>(intro hb;(try(simp only[NB]at hb));simp[-List.getD_eq_getElem?_getD, -getElem?_pos,h27,h6,k25,k26,w2,hB,hb])
    all_goals try refine Out.one ?_
    all_goals try refine Ret.one ?_
    all_goals try(simp[-List.getD_eq_getElem?_getD,h27,h6,k25,k26,w2,hB, *];done)
    all_goals try simp[-List.getD_eq_getElem?_getD,h27,h6,k25,k26,w2,hB]
    all_goals try(intros;omega)
   ·omega
  ·rintro f s hk ⟨h27,hc3⟩
   have k26:f 26= .int .i64 2:=by simp[hk]
   clear hk
   rcases hc3 with⟨h, -, -⟩|⟨h, -, -⟩|⟨-,h6,rfl⟩
   ·omega
   ·omega
   ·simp[-List.getD_eq_getElem?_getD, -getElem?_pos,h27,h6,k26]
    repeat' (first|refine a_0 ?_ ?_|refine Out.branch ?_ ?_|refine Ret.branch ?_ ?_)<;>(intro hb;(try(simp only[NB]at hb));simp[-List.getD_eq_getElem?_getD, -getElem?_pos,h27,h6,k26,hb])
    all_goals try refine Out.one ?_
    all_goals try refine Ret.one ?_
    all_goals try(simp[-List.getD_eq_getElem?_getD,h27,h6,k26, *];done)
    all_goals try simp[-List.getD_eq_getElem?_getD,h27,h6,k26]
    all_goals try(intros;omega)
  ·rintro e f s ⟨⟨rfl,h6,rfl⟩,hk⟩
   clear hk
   simp[-List.getD_eq_getElem?_getD, -getElem?_pos,h6]
   repeat' (first|refine a_0 ?_ ?_|refine Out.branch ?_ ?_|refine Ret.branch ?_ ?_)<;>(intro hb;(try(simp only[NB]at hb));simp[-List.getD_eq_getElem?_getD, -getElem?_pos,h6,hb])
   all_goals try refine Out.one ?_
   all_goals try refine Ret.one ?_
   all_goals try(simp[-List.getD_eq_getElem?_getD,h6, *];done)
   all_goals try simp[-List.getD_eq_getElem?_getD,h6]
   all_goals try(intros;omega)
theorem at_4(f1 f2 fl:Bool)(n1 n2 nl:Option Bool)(st:St):(run tb).call 110 [.list fl nl [.list f1 n1 [], .list f2 n2 []]] st=some (.list true (some true) [],st):=by
 have w2:IntKind.i64.wrap 2=2:=by kernel_rfl
 have w1:IntKind.i64.wrap 1=1:=by kernel_rfl
 have w0:intBin .add .i64 0 0=some (.int .i64 0):=by kernel_rfl
 have hg:=aP_8 st
 have hA:∀f n sp,appV 2 32 st sp (.list true (some true) []) (.list f n [])=some (.list true (some true) [],st):=fun f n sp=>g_4 (by rfl) (by decide) (by decide) rfl
 rw[run110 (by simp)]
 simp[-List.getD_eq_getElem?_getD, -getElem?_pos]
 refine a_9 (a_8 e110_8 w110_8 2 (I:=fun i f st'=>st'=st∧f 11= .int .i64 (i:Nat)∧f 3= .int .i64 0) (Q:=fun e f st'=>e= .exit 0∧st'=st∧f 3= .int .i64 0) ?_ ?_ ?_) ?_
 ·exact⟨rfl,by simp,by simp⟩
 ·rintro i f st' hi hk ⟨rfl,h11,h3⟩
  have k9:f 9= .list fl nl [.list f1 n1 [], .list f2 n2 []]:=by simp[hk]
  have k10:f 10= .int .i64 2:=by simp[hk]
  clear hk
  rcases i with _|_|i
  ·simp[-List.getD_eq_getElem?_getD, -getElem?_pos,h11,h3,k9,k10,w1,w0]
   repeat' (first|refine a_0 ?_ ?_|refine Out.branch ?_ ?_|refine Ret.branch ?_ ?_)<;>(intro hb;(try(simp only[NB]at hb));simp[-List.getD_eq_getElem?_getD, -getElem?_pos,h11,h3,k9,k10,w1,w0,hb])
   all_goals try refine Out.one ?_
   all_goals try refine Ret.one ?_
   all_goals try(simp[-List.getD_eq_getElem?_getD,h11,h3,k9,k10,w1,w0, *];done)
   all_goals try simp[-List.getD_eq_getElem?_getD,h11,h3,k9,k10,w1,w0]
   all_goals try(intros;omega)
  ·simp[-List.getD_eq_getElem?_getD, -getElem?_pos,h11,h3,k9,k10,w2,w0]
   repeat' (first|refine a_0 ?_ ?_|refine Out.branch ?_ ?_|refine Ret.branch ?_ ?_)<;>(intro hb;(try(simp only[NB]at hb));simp[-List.getD_eq_getElem?_getD, -getElem?_pos,h11,h3,k9,k10,w2,w0,hb])
   all_goals try refine Out.one ?_
   all_goals try refine Ret.one ?_
   all_goals try(simp[-List.getD_eq_getElem?_getD,h11,h3,k9,k10,w2,w0, *];done)
   all_goals try simp[-List.getD_eq_getElem?_getD,h11,h3,k9,k10,w2,w0]
   all_goals try(intros;omega)
  ·omega
 ·rintro f st' hk ⟨rfl,h11,h3⟩
  have k10:f 10= .int .i64 2:=by simp[hk]
  clear hk
  simp[-List.getD_eq_getElem?_getD, -getElem?_pos,h11,h3,k10]
  repeat' (first|refine a_0 ?_ ?_|refine Out.branch ?_ ?_|refine Ret.branch ?_ ?_)<;>(intro hb;(try(simp only[NB]at hb));simp[-List.getD_eq_getElem?_getD, -getElem?_pos,h11,h3,k10,hb])
  all_goals try refine Out.one ?_
  all_goals try refine Ret.one ?_
  all_goals try(simp[-List.getD_eq_getElem?_getD,h11,h3,k10, *];done)
  all_goals try simp[-List.getD_eq_getElem?_getD,h11,h3,k10]
  all_goals try(intros;omega)
 ·rintro e f st' ⟨⟨rfl,rfl,h3⟩,hk⟩
  have k0:f 0= .list fl nl [.list f1 n1 [], .list f2 n2 []]:=by simp[hk]
  clear hk
  simp[-List.getD_eq_getElem?_getD, -getElem?_pos,h3,hg,k0]
  refine a_9 (a_8 e110_33 w110_33 2 (I:=fun i f s=>f 27= .int .i64 (i:Nat)∧f 6= .list true (some true) []∧s=st') (Q:=fun e f s=>e= .exit 2∧f 6= .list true (some true) []∧s=st') ?_ ?_ ?_) ?_
  ·exact⟨by simp,by simp,rfl⟩
  ·rintro i f s hi hk ⟨h27,h6,rfl⟩
   have k25:f 25= .list fl nl [.list f1 n1 [], .list f2 n2 []]:=by simp[hk]
   have k26:f 26= .int .i64 2:=by simp[hk]
   clear hk
   rcases i with _|_|i
   ·simp[-List.getD_eq_getElem?_getD, -getElem?_pos,h27,h6,k25,k26,w1,hA]
    repeat' (first|refine a_0 ?_ ?_|refine Out.branch ?_ ?_|refine Ret.branch ?_ ?_)<;>(intro hb;(try(simp only[NB]at hb));simp[-List.getD_eq_getElem?_getD, -getElem?_pos,h27,h6,k25,k26,w1,hA,hb])
    all_goals try refine Out.one ?_
    all_goals try refine Ret.one ?_
    all_goals try(simp[-List.getD_eq_getElem?_getD,h27,h6,k25,k26,w1,hA, *];done)
    all_goals try simp[-List.getD_eq_getElem?_getD,h27,h6,k25,k26,w1,hA]
    all_goals try(intros;omega)
   ·simp[-List.getD_eq_getElem?_getD, -getElem?_pos,h27,h6,k25,k26,w2,hA]
    repeat' (first|refine a_0 ?_ ?_|refine Out.branch ?_ ?_|refine Ret.branch ?_ ?_)<;>(intro hb;(try(simp only[NB]at hb));simp[-List.getD_eq_getElem?_getD, -getElem?_pos,h27,h6,k25,k26,w2,hA,hb])
    all_goals try refine Out.one ?_
    all_goals try refine Ret.one ?_
    all_goals try(simp[-List.getD_eq_getElem?_getD,h27,h6,k25,k26,w2,hA, *];done)
    all_goals try simp[-List.getD_eq_getElem?_getD,h27,h6,k25,k26,w2,hA]
    all_goals try(intros;omega)
   ·omega
  ·rintro f s hk ⟨h27,h6,rfl⟩
   have k26:f 26= .int .i64 2:=by simp[hk]
   clear hk
   simp[-List.getD_eq_getElem?_getD, -getElem?_pos,h27,h6,k26]
   repeat' (first|refine a_0 ?_ ?_|refine Out.branch ?_ ?_|refine Ret.branch ?_ ?_)<;>(intro hb;(try(simp only[NB]at hb));simp[-List.getD_eq_getElem?_getD, -getElem?_pos,h27,h6,k26,hb])
   all_goals try refine Out.one ?_
   all_goals try refine Ret.one ?_
   all_goals try(simp[-List.getD_eq_getElem?_getD,h27,h6,k26, *];done)
   all_goals try simp[-List.getD_eq_getElem?_getD,h27,h6,k26]
   all_goals try(intros;omega)
  ·rintro e f s ⟨⟨rfl,h6,rfl⟩,hk⟩
   clear hk
   simp[-List.getD_eq_getElem?_getD, -getElem?_pos,h6]
   repeat' (first|refine a_0 ?_ ?_|refine Out.branch ?_ ?_|refine Ret.branch ?_ ?_)<;>(intro hb;(try(simp only[NB]at hb));simp[-List.getD_eq_getElem?_getD, -getElem?_pos,h6,hb])
   all_goals try refine Out.one ?_
   all_goals try refine Ret.one ?_
   all_goals try(simp[-List.getD_eq_getElem?_getD,h6, *];done)
   all_goals try simp[-List.getD_eq_getElem?_getD,h6]
   all_goals try(intros;omega)
end Go.Proofs.YtbbeelalcamgjaaGreatDoor
