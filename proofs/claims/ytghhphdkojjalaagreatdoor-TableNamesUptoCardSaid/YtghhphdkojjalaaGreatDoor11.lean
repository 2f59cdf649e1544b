/- A shared part of the proofs of the Table statements: a verified evaluator, the code in parts, the functions walked. -/
import Derived.Test.YtghhphdkojjalaaGreatDoor10
set_option linter.unusedVariables false
set_option linter.unusedSimpArgs false
set_option linter.unnecessarySimpa false
set_option linter.all false
namespace Go.Proofs.YtghhphdkojjalaaGreatDoor
open Go.Abs
attribute [local simp] K_0 L_0 q_ z_4 l_0 M_1 z_ y_2 t_9 c_7 j_7 m_9 c_ e_9 j_8 c_3 h_4 finish dropMarks resOf
 resList o_3 l_4 i_8 e_6 d_ c_1 n_5 j_ c_0 b_ a_9 c_4 c_2 f_7 f_5 c_6
 c_8 e_5 m_8 L_4 D_1 m_3 B_5 f_ M_0 s_un D_0 s_ c_9 d_2 q_7 r_9 j_6 z_2 r_3 K_5 B_ D_ L_1 l_6
 d_1 b_9 l_7 q_4 g_ i_2 m_0 m_7 m_4 m_6 a_7 d_0 f_6 e_4 e_2 j_5 j_1 i_4 e_1
 t_3 m_1 n_4 n_1 s_6 t_2 u_5 q_5 i_9 s_7 evArgs o_5 k_ l_8 f_3 g_9 v_2 ofValue ofValues isConst C_7 y_8 x_8 x_4
 A_0 z_3 C_0 y_3 z_1 B_0 C_2 z_8 C_6 A_5 A_6 y_ strBin bne C_3 B_3 B_6 convV evConv optArg a_6 argF B_4 s_9 q_8 p_ n_2 x_5
 t_4 p_4 l_2 k_0 i_0 g_1 j_4 g_5 d_8 y_5 u_0 i_5 k_1 okCells L_3 b_4 g_0 d_9 i_3 i_1 f_1
 i_6 j_0 l_ q_9 r_4 m_ t_6 s_5 n_0 t_ t_8 j_2 h_1 e_3 e_0 h_3 splice putElem k_8 i_ l_1 g_6
 t_7 e_8 bdV fill l_9 bsF setAll d_6 f_2 x_1 n_7 e_7 h_6 h_5 f_4 p_2 v_7 t_1 s_1 x_7 r_5 s_0 p_6 j_9
 q_3 x_2 C_4 p_5 g_8 d_7 p_3 v_8 p_0 u_2 h_8 z_5 q_0 n_3 y_4 u_4 u_3 C_5 l_5 r_1 d_4 n_ h_7 B_1
 q_6 C_1 A_8 B_7 g_7 r_7 q_1 y_7 y_6 y_9 x_6 u_1 l_3 u_7 s_4 deep List.getD_cons_zero List.getD_cons_succ List.getElem?_cons_zero
 List.getElem?_cons_succ List.getElem?_nil t_0 s_2 A_9 x_9 y_0 A_2 u_6 q_2 B_9 y_1 r_0 s_8 r_6 t_5 r_2 r_ n_6 m_5 z_7 z_6
 j_3 i_7 s_3 r_8 f_9 f_0 A_ C_8 A_4 C_9 V_1 W_ bd84 ld82 ld88 af_0 ai_1 ah_8 ah_1 ag_0 ae_8 ah_2 bd90 ld4 sr4 und4 ld35 sr35 Q_3
 ia35 ln35 sl35 ap35 bs35 ld9 und9 ln9 ix9 ld29 sr29 al29 ld3 sr3 und3 ld49 sr49 al49 M_5 M_6 lu82 pn88 aU_ o_9 A_3 B_8 o_6 o_7 k_7 p24_18 ld26 sr26 al26 F_8
 G_ F_9 bd26 ld45 sr45 al45 K_8 K_9 K_3 c_5 k_4 o_2 D_Rg S24 L24_1 L24_3 L24_6 L24_9 L24_13 L24_16 L24_20 L24_28 L24_29 L24_30 L24_32 S26 L26_1 L26_3 L26_6 L26_9 L26_13
 S55 L55_1 L55_3 L55_6 L55_9 L55_13
set_option maxRecDepth 100000
set_option linter.unusedSimpArgs false
set_option linter.unusedVariables false
set_option maxHeartbeats 4000000
theorem pe88{c:Bool}:binV tb .eql 88 c .nilp .nilp=some (.bool true):=by rw[a_];kernel_rfl
theorem bw_2{c:Bool}{k:Nat}:binV tb .eql 88 c (.ptr k 0) .nilp=some (.bool false):=by rw[a_];kernel_rfl
def partM(D:List (Str×Nat))(Dc:Nat→Decl)(t n:Str)(e:Bool):V:=match getM D t with
 |none=> .tup [.nilp, .int .i64 (-1)]
 |some k=>if(Dc k).enum=e then .tup [.ptr k 0, .int .i64 (idxI (fun x:Var=>x.name==n) (Dc k).parts)]else .tup [.nilp, .int .i64 (-1)]
theorem aw_3(r m:Nat)(D:List (Str×Nat))(Dc:Nat→Decl)(t n:Str)(e:Bool)(st:St)(h:TabSt st r m D Dc)(hl:∀k,(Dc k).parts.length<2^40):(run tb).call 55 [.ptr r 0, .str t, .str n, .bool e] st=some (partM D Dc t n e,st):=by
 obtain⟨⟨l1,l2,l3,h1⟩,h2,h3⟩:=h
 have h4:=X_0 D t
 unfold partM
 cases hg:getM D t with
 |none=>
  rw[hg]at h4
  rw[run55 (by simp)]
  simp[-List.getD_eq_getElem?_getD, -getElem?_pos,h1,h2,h4,ptrV,pe88]
 |some k=>
  rw[hg]at h4
  have h5:=h3 t k hg
  unfold Decl.cs at h5
  have hF:=fun fl nl=>aM_7 fl nl (Dc k).parts n (hl k)
  by_cases he:(Dc k).enum=e
  ·simp only[he,if_true]
   rw[he]at h5
   cases e
   all_goals
    rw[run55 (by simp)]
    simp[-List.getD_eq_getElem?_getD, -getElem?_pos,h1,h2,h4,h5,hF,ptrV,bw_2]
  ·simp only[he,if_false]
   have he':(Dc k).enum= !e:=by cases h6:(Dc k).enum<;>cases e<;>simp_all
   rw[he']at h5
   cases e
   all_goals
    rw[run55 (by simp)]
    simp[-List.getD_eq_getElem?_getD, -getElem?_pos,h1,h2,h4,h5,ptrV,bw_2]
theorem ac_1(p:Var→Bool)(xs:List Var):(idxI p xs= -1)∨(∃(i:Nat) (x:Var),idxI p xs=(i:Int)∧xs[i]? =some x∧i<xs.length):=by
 rcases ap_4 p xs with⟨h1, -⟩|⟨i,x,h1,h2, -⟩
 ·exact .inl h1
 ·exact .inr ⟨i,x,h1,h2,(List.getElem?_eq_some_iff.1 h2).1⟩
def noPart:V:= .tup [.str [], .int .i64 0, .bool false]
def variantM(D:List (Str×Nat))(Dc:Nat→Decl)(t n:Str):V:=match getM D t with
 |none=>noPart
 |some k=>if(Dc k).enum=true then(if idxI (fun x:Var=>x.name==n) (Dc k).parts= -1 then noPart else .tup [.str (((Dc k).parts[(idxI (fun x:Var=>x.name==n) (Dc k).parts).toNat]?).getD ⟨[],[]⟩).type, .int .i64 (idxI (fun x:Var=>x.name==n) (Dc k).parts), .bool true])else noPart
theorem aa_6(r m:Nat)(D:List (Str×Nat))(Dc:Nat→Decl)(t n:Str)(st:St)(h:TabSt st r m D Dc)(hl:∀k,(Dc k).parts.length<2^40):(run tb).call 26 [.ptr r 0, .str t, .str n] st=some (variantM D Dc t n,st):=by
 have hp:=aw_3 r m D Dc t n true st h hl
 obtain⟨⟨l1,l2,l3,h1⟩,h2,h3⟩:=h
 unfold variantM
 unfold partM at hp
 cases hg:getM D t with
 |none=>
  rw[hg]at hp
  rw[run26 (by simp)]
  simp[-List.getD_eq_getElem?_getD, -getElem?_pos,hp,noPart]
 |some k=>
  rw[hg]at hp
  have h5:=h3 t k hg
  unfold Decl.cs at h5
  cases he:(Dc k).enum with
  |false=>
   simp only[he,Bool.false_eq_true,if_false]at hp⊢
   rw[run26 (by simp)]
   simp[-List.getD_eq_getElem?_getD, -getElem?_pos,hp,noPart]
  |true=>
   simp only[he,if_true]at hp⊢
   rcases ac_1 (fun x:Var=>x.name==n) (Dc k).parts with hi|⟨i,x,hi,hx,hlt⟩
   ·rw[hi]at hp⊢
    rw[run26 (by simp)]
    simp[-List.getD_eq_getElem?_getD, -getElem?_pos,hp,noPart]
   ·rw[hi]at hp⊢
    have hne:((i:Int)== -1)=false:=by simp
    have hne':¬(i:Int)= -1:=by omega
    rw[if_neg hne']
    simp only[Int.toNat_natCast,hx,Option.getD_some]
    rw[run26 (by simp)]
    simp[-List.getD_eq_getElem?_getD, -getElem?_pos,hp,hne,h5,hx,Var.v]
def sumS(D:List (Str×Nat))(Dc:Nat→Decl)(l:List Var):Int:=(l.map fun v=>slotsM D Dc v.type).sum
def fieldM(D:List (Str×Nat))(Dc:Nat→Decl)(t n:Str):V:=match getM D t with
 |none=>noPart
 |some k=>if(Dc k).enum=false then(if idxI (fun x:Var=>x.name==n) (Dc k).parts= -1 then noPart else .tup [.str (((Dc k).parts[(idxI (fun x:Var=>x.name==n) (Dc k).parts).toNat]?).getD ⟨[],[]⟩).type, .int .i64 (sumS D Dc ((Dc k).parts.take (idxI (fun x:Var=>x.name==n) (Dc k).parts).toNat)), .bool true])else noPart
theorem aK_1(nl:Option Bool)(l:List Var)(i:Nat)(h:i≤l.length):sliceList 2 false nl (l.map Var.v) none (some (.int .i64 (i:Int))) none=some (.list false nl ((l.take i).map Var.v)):=by
 have h1:sizeFits 2 (l.map Var.v)=true:=by cases l<;>rfl
 have h2:bounds (l.map Var.v).length (l.map Var.v).length none (some (.int .i64 (i:Int)))=some (0,i):=by
  simp[bounds,bound,asIdx,h]
 unfold sliceList
 rw[if_pos h1,h2]
 simp[List.map_take]
theorem be_1(D:List (Str×Nat))(Dc:Nat→Decl)(l:List Var)(x:Var):sumS D Dc (l ++[x])=sumS D Dc l+slotsM D Dc x.type:=by
 simp[sumS]
theorem aY_6(D:List (Str×Nat))(Dc:Nat→Decl)(hb:∀t,0≤slotsM D Dc t∧slotsM D Dc t≤1024):∀l:List Var,0≤sumS D Dc l∧sumS D Dc l≤1024 * l.length
 |[]=>by simp[sumS]
 |x::l=>by
  have:=aY_6 D Dc hb l
  have:=hb x.type
  have h:sumS D Dc (x::l)=slotsM D Dc x.type+sumS D Dc l:=by simp[sumS]
  rw[h];simp only[List.length_cons];omega
theorem TabSt.grow{a b:St}{r m:Nat}{D:List (Str×Nat)}{Dc:Nat→Decl}(h:TabSt a r m D Dc)(g:Grows a b):TabSt b r m D Dc:=by
 obtain⟨⟨l1,l2,l3,h1⟩,h2,h3⟩:=h
 exact⟨⟨l1,l2,l3,g.at_ h1⟩,g.at_ h2,fun n k hk=>g.at_ (h3 n k hk)⟩
theorem am_9(r m:Nat)(D:List (Str×Nat))(Dc:Nat→Decl)(t n:Str)(st:St)(hp0:st.prot=[])(h:TabSt st r m D Dc)(hl:∀k,(Dc k).parts.length<2^30)(hb:∀t,0≤slotsM D Dc t∧slotsM D Dc t≤1024)(hty:∀k,∀v∈(Dc k).parts,v.type.length<2^40):(run tb).call 24 [.ptr r 0, .str t, .str n] st=some (fieldM D Dc t n,st):=by
 have h':TabSt (roSt st) r m D Dc:=⟨h.box,h.ents,h.decl⟩
 have hp:=aw_3 r m D Dc t n false (roSt st) h' (fun k=>by have:=hl k;omega)
 obtain⟨⟨l1,l2,l3,h1⟩,h2,h3⟩:=h
 unfold fieldM
 unfold partM at hp
 cases hg:getM D t with
 |none=>
  rw[hg]at hp
  rw[run24 (by simp)]
  simp[-List.getD_eq_getElem?_getD, -getElem?_pos,hp,noPart]
 |some k=>
  rw[hg]at hp
  have h5:=h3 t k hg
  unfold Decl.cs at h5
  cases he:(Dc k).enum with
  |true=>
   simp only[he,Bool.true_eq_false,if_false]at hp⊢
   rw[run24 (by simp)]
   simp[-List.getD_eq_getElem?_getD, -getElem?_pos,hp,noPart]
  |false=>
   simp only[he,if_true]at hp⊢
   rcases ac_1 (fun x:Var=>x.name==n) (Dc k).parts with hi|⟨i,x,hi,hx,hlt⟩
   ·rw[hi]at hp⊢
    rw[run24 (by simp)]
    simp[-List.getD_eq_getElem?_getD, -getElem?_pos,hp,noPart]
   ·rw[hi]at hp⊢
    have hne:((i:Int)== -1)=false:=by simp
    have hne':¬(i:Int)= -1:=by omega
    rw[if_neg hne']
    simp only[Int.toNat_natCast,hx,Option.getD_some]
    rw[run24 (by simp)]
    have hsl:=aK_1 (Dc k).nl (Dc k).parts i (by omega)
    have hlk:=hl k
    simp[-List.getD_eq_getElem?_getD, -getElem?_pos,hp,hne,h5,hsl]
    have hmin:min i (Dc k).parts.length=i:=by omega
    refine b_8 (b_3 e24_18 w24_18 i (I:=fun j f st'=>Grows (roSt st) st'∧f 30= .int .i64 (j:Nat)∧f 11= .int .i64 (sumS D Dc ((Dc k).parts.take j))) (Q:=fun e f st'=>Grows (roSt st) st'∧e= .exit 0∧f 11= .int .i64 (sumS D Dc ((Dc k).parts.take i))) ?_ ?_ ?_) ?_
    ·exact⟨Grows.refl _,by simp,by simp[sumS]⟩
    ·rintro j f st' hj hk ⟨hG,h30,h11⟩
     have k1:st'.base=st.store.length:=hG.base
     have k2:st'.prot=[]:=hG.prot.trans hp0
     have k3:¬st'.store.length<st.store.length:=by have:=hG.len;simp[roSt]at this;omega
     have hy:(Dc k).parts[j]? =some (Dc k).parts[j]:=List.getElem?_eq_getElem (by omega)
     have hy2:((Dc k).parts.take i)[j]? =some (Dc k).parts[j]:=by rw[List.getElem?_take_of_lt hj];exact hy
     have hym:=List.getElem_mem (l:=(Dc k).parts) (n:=j) (by omega)
     have htk:=List.take_succ_eq_append_getElem (l:=(Dc k).parts) (i:=j) (by omega)
     have g0:f 0= .ptr r 0:=by simp[hk]
     generalize(Dc k).parts[j]=y at *
     have hG2:Grows (roSt st) (newBox st' [.str y.name, .str y.type]):=hG.app [.box [.str y.name, .str y.type]]
     have hS:=E_4 r m D Dc y.type (hty k y hym) _ (h'.grow hG2)
     have ha:=add1 (i:=j) (by omega)
     have hs1:=aY_6 D Dc hb ((Dc k).parts.take j)
     have hs2:=hb y.type
     have hlt2:((Dc k).parts.take j).length≤j:=by simp;omega
     have hadd:=Q_4 (x:=sumS D Dc ((Dc k).parts.take j)) (y:=slotsM D Dc y.type) (by omega) (by omega)
     rw[htk,be_1]
     simp[-List.getD_eq_getElem?_getD, -getElem?_pos,hk,h30,h11,hy,hj,hmin,hS,ha,hadd,k1,k2,k3,Var.v]
     refine Out.one ?_
     simp[*]
    ·rintro f st' hk ⟨hG,h30,h11⟩
     simp[-List.getD_eq_getElem?_getD, -getElem?_pos,hk,h30,hmin]
     refine Out.one ?_
     simp[*]
    ·rintro e f st' ⟨⟨hG,rfl,h11⟩,hk⟩
     have j5:=hG.at_ (show(roSt st).store[k]? =_ from h5)
     simp[-List.getD_eq_getElem?_getD, -getElem?_pos,hk,h11,j5,hx,Var.v]
def variantD(p:Prog)(t n:Str):V:=match p.en t with
 |none=>noPart
 |some e=>if idxI (fun x:Var=>x.name==n) e.variants= -1 then noPart else .tup [.str ((e.variants[(idxI (fun x:Var=>x.name==n) e.variants).toNat]?).getD ⟨[],[]⟩).type, .int .i64 (idxI (fun x:Var=>x.name==n) e.variants), .bool true]
end Go.Proofs.YtghhphdkojjalaaGreatDoor
namespace Go.Proofs.YtghhphdkojjalaaGreatDoor
open Go.Abs
attribute [local simp] K_0 L_0 q_ z_4 l_0 M_1 z_ y_2 t_9 c_7 j_7 m_9 c_ e_9 j_8 c_3 h_4 finish dropMarks resOf
 resList o_3 l_4 i_8 e_6 d_ c_1 n_5 j_ c_0 b_ a_9 c_4 c_2 f_7 f_5 c_6
 c_8 e_5 m_8 L_4 D_1 m_3 B_5 f_ M_0 s_un D_0 s_ c_9 d_2 q_7 r_9 j_6 z_2 r_3 K_5 B_ D_ L_1 l_6
 d_1 b_9 l_7 q_4 g_ i_2 m_0 m_7 m_4 m_6 a_7 d_0 f_6 e_4 e_2 j_5 j_1 i_4 e_1
 t_3 m_1 n_4 n_1 s_6 t_2 u_5 q_5 i_9 s_7 evArgs o_5 k_ l_8 f_3 g_9 v_2 ofValue ofValues isConst C_7 y_8 x_8 x_4
 A_0 z_3 C_0 y_3 z_1 B_0 C_2 z_8 C_6 A_5 A_6 y_ strBin bne C_3 B_3 B_6 convV evConv optArg a_6 argF B_4 s_9 q_8 p_ n_2 x_5
 t_4 p_4 l_2 k_0 i_0 g_1 j_4 g_5 d_8 y_5 u_0 i_5 k_1 okCells L_3 b_4 g_0 d_9 i_3 i_1 f_1
 i_6 j_0 l_ q_9 r_4 m_ t_6 s_5 n_0 t_ t_8 j_2 h_1 e_3 e_0 h_3 splice putElem k_8 i_ l_1 g_6
 t_7 e_8 bdV fill l_9 bsF setAll d_6 f_2 x_1 n_7 e_7 h_6 h_5 f_4 p_2 v_7 t_1 s_1 x_7 r_5 s_0 p_6 j_9
 q_3 x_2 C_4 p_5 g_8 d_7 p_3 v_8 p_0 u_2 h_8 z_5 q_0 n_3 y_4 u_4 u_3 C_5 l_5 r_1 d_4 n_ h_7 B_1
 q_6 C_1 A_8 B_7 g_7 r_7 q_1 y_7 y_6 y_9 x_6 u_1 l_3 u_7 s_4 deep List.getD_cons_zero List.getD_cons_succ List.getElem?_cons_zero
 List.getElem?_cons_succ List.getElem?_nil t_0 s_2 A_9 x_9 y_0 A_2 u_6 q_2 B_9 y_1 r_0 s_8 r_6 t_5 r_2 r_ n_6 m_5 z_7 z_6
 j_3 i_7 s_3 r_8 f_9 f_0 A_ C_8 A_4 C_9 ld26 sr26 al26 F_8 G_ F_9 bd26 ld9 und9 ln9 ix9 ld37 sr37 al37 I_1 I_2 I_0 I_4 I_3 bd37
 ld35 sr35 Q_3 ia35 ln35 sl35 ap35 bs35 ld4 sr4 und4 ld3 sr3 und3 ld49 sr49 al49 M_5 M_6 o_9 A_3 B_8 o_6 o_7 k_7 c_5 k_4 o_2 ld22 T_ ia22 ib22
 ln22 lo22 ap22 bs22 af_0 ai_1 ah_8 ah_1 ag_0 ae_8 ah_2 bd90 ld79 bs_5 ia79 ib79 ln79 lo79 ap79 bs79 ld23 T_0 ia23 ib23 ln23 lo23 ap23 bs23 ld45 sr45 al45 K_8 K_9 K_3 p41_8
 p41_25 ld88 p88_3 bd62 ap_6 ln30 lo30 ap30 bs30 ld82 V_1 W_ bd84 ld29 sr29 al29 ld67 sr67 R_0 ia67 ib67 ln67 lo67 ap67 bs67 lu82 mu82 q11_21 l11_21 Y_7 O_4 O_2 X_5 kdOp kdOf isPure
 readsOf protS lu99 mu99 mm99 q44_45 l44_45 p44_10 p44_32 D_Rg S11 L11_1 L11_4 L11_7 L11_11 L11_13 L11_16 L11_19 M11_19 L11_23 L11_26 L11_29 L11_33 L11_41 L11_43 L11_45 L11_47 L11_51 L11_54 L11_58 S41
 L41_1 L41_3 L41_6 L41_10 L41_18 L41_19 L41_20 L41_23 L41_27 L41_35 L41_36 L41_37 L41_39 S43 L43_1 L43_3 S44 L44_1 L44_3 L44_5 L44_8 L44_12 L44_20 L44_23 L44_25 L44_28 L44_30 L44_34 L44_42 L44_47
 L44_50 L44_52 L44_54 L44_55 L44_57 S88 L88_1 L88_6 L88_13 L88_17
set_option maxRecDepth 100000
set_option linter.unusedSimpArgs false
set_option linter.unusedVariables false
set_option maxHeartbeats 4000000
noncomputable def sumD(p:Prog)(l:List Var):Nat:=(l.map fun v=>slotsD p v.type).sum
noncomputable def fieldD(p:Prog)(t n:Str):V:=match p.st t with
 |none=>noPart
 |some e=>if idxI (fun x:Var=>x.name==n) e.fields= -1 then noPart else .tup [.str ((e.fields[(idxI (fun x:Var=>x.name==n) e.fields).toNat]?).getD ⟨[],[]⟩).type, .int .i64 ((sumD p (e.fields.take (idxI (fun x:Var=>x.name==n) e.fields).toNat):Nat):Int), .bool true]
theorem O_5(p:Prog)(t:Str):slotsD p t≤33:=by
 unfold slotsD val;split
 ·split
  ·exact bB_6 p t
  ·omega
 ·omega
theorem aJ_4(p:Prog):∀l:List Var,sumD p l≤33 * l.length
 |[]=>by simp[sumD]
 |x::l=>by
  have:=aJ_4 p l
  have:=O_5 p x.type
  have h:sumD p (x::l)=slotsD p x.type+sumD p l:=by simp[sumD]
  rw[h];simp only[List.length_cons];omega
theorem az_5(p:Prog)(l:List Var)(x:Var):sumD p (l ++[x])=sumD p l+slotsD p x.type:=by simp[sumD]
def Decl.ofS(x:Struct):Decl:=⟨x.name,x.at_,false,x.hook,x.nl,x.fields,0,false⟩
def Decl.ofE(x:Enum):Decl:=⟨x.name,x.at_,true,false,x.nl,x.variants,0,false⟩
def declsOf(p:Prog):List Decl:=p.structs.map Decl.ofS ++p.enums.map Decl.ofE
theorem _root_.Go.Abs.Grows.rest{a b c:St}{ex:Option Nat}(g:Grows a b)(r:Go.Abs.Rest ex b c)(hx:∀r,ex=some r→a.store.length≤r):Grows a c:=
 ⟨r.base.trans g.base,r.prot.trans g.prot,Nat.le_trans g.len r.len,fun i hi=>by
  have hb:i<b.store.length:=Nat.lt_of_lt_of_le hi g.len
  have h1:=List.getElem?_eq_getElem hb
  rw[r.get i _ h1 (by intro e;have:=hx i e;omega),←g.get i hi,h1]⟩
structure DeclsAt(st0 st:St)(v:V)(al:List Nat)(ds:List Decl):Prop where
 acc:AccT 1 st v (al.map fun k=> .ptr k 0)
 ref:∀r,refOf v=some r→st0.store.length≤r
 grows:Grows st0 st
 len:al.length=ds.length
 at_:∀(i k:Nat) (d:Decl),al[i]? =some k→ds[i]? =some d→st.store[k]? =some (.box d.cs)
 nodup:al.Nodup
 lt:∀k∈al,st0.store.length≤k∧k<st.store.length
theorem DeclsAt.snoc{st0 st:St}{v:V}{al:List Nat}{ds:List Decl}{d:Decl}{cs:List V}(h:DeclsAt st0 st v al ds)(hb:st.base=0)(hp:st.prot=[])(hl:al.length≤2^30):
  ∃v3 st3,appV 1 8 (newBox (newBox st cs) d.cs) (spreadB (.list true (some false) [.ptr (st.store.length+1) 0])) v (.list true (some false) [.ptr (st.store.length+1) 0])=some (v3,st3)∧DeclsAt st0 st3 v3 (al ++[st.store.length+1]) (ds ++[d]):=by
 have hA:=(h.acc.box cs).box d.cs
 obtain⟨v3,st3,ap3,A3,R3,r3,F3,F4⟩:=hA.app (bytes:=8) (y:= .list true (some false) [.ptr (st.store.length+1) 0]) (fun r _=>by simp[St.locked,newBox,hb,hp]) rfl (by simp) (by simp[V.cells,V.oneCell]) (by decide) (by decide) (by simp;omega)
 have hG:Grows st0 (newBox (newBox st cs) d.cs):=(h.grows.app [.box cs]).app [.box d.cs]
 have hl2:(newBox (newBox st cs) d.cs).store.length=st.store.length+2:=by simp[newBox]
 have hg2:(newBox (newBox st cs) d.cs).store[st.store.length+1]? =some (.box d.cs):=by
  have:st.store.length+1=(newBox st cs).store.length:=by simp[newBox]
  rw[this]
  show((newBox st cs).store ++[.box d.cs])[_]? =_
  exact b_4
 have hR:=hA.boxes R3
 have hkeep:∀(k:Nat) (es:List V),st.store[k]? =some (.box es)→st3.store[k]? =some (.box es):=fun k es hk=>hR.get _ _ (a_3 (a_3 hk))
 refine⟨v3,st3,ap3,?_,?_,hG.rest R3 h.ref,by simp[h.len],?_,?_,?_⟩
 ·simpa using A3
 ·intro r hr
  rw[F3]at hr;cases hr
  have:=h.grows.len;omega
 ·intro i k e hk he
  rcases Nat.lt_or_ge i al.length with hi|hi
  ·rw[List.getElem?_append_left hi]at hk
   rw[List.getElem?_append_left (by rw[←h.len];exact hi)]at he
   exact hkeep _ _ (h.at_ i k e hk he)
  ·rw[List.getElem?_append_right hi]at hk
   rw[List.getElem?_append_right (by rw[←h.len];exact hi)]at he
   have h0:i-al.length=0:=by
    have:=(List.getElem?_eq_some_iff.1 hk).1
    simp at this;omega
   rw[h0]at hk
   rw[←h.len,h0]at he
   simp only[List.getElem?_cons_zero,Option.some.injEq]at hk he
   subst hk he
   exact hR.get _ _ hg2
 ·rw[List.nodup_append]
  refine⟨h.nodup,by simp,?_⟩
  intro a ha b hb
  simp only[List.mem_singleton]at hb
  have:=(h.lt a ha).2
  omega
 ·intro k hk
  have:=R3.len
  rcases List.mem_append.1 hk with hk|hk
  ·have:=h.lt k hk;omega
  ·simp only[List.mem_singleton]at hk
   have:=h.grows.len;omega
def DeclsV(st0 st:St)(v:V)(ds:List Decl):Prop:=∃al,DeclsAt st0 st v al ds
theorem DeclsAt.weak{a b st:St}{v:V}{al:List Nat}{ds:List Decl}(g:Grows a b)(h:DeclsAt b st v al ds):DeclsAt a st v al ds:=
 ⟨h.acc,fun r hr=>Nat.le_trans g.len (h.ref r hr),g.trans h.grows,h.len,h.at_,h.nodup,fun k hk=>⟨Nat.le_trans g.len (h.lt k hk).1,(h.lt k hk).2⟩⟩
theorem bb_8(p:Prog)(f1 f2 f3:Bool)(n1 n2 n3:Option Bool)(h:p.size≤1048576)(st:St)(hb:st.base=0)(hp:st.prot=[]):Ret (fun v st'=>DeclsV st st' v (declsOf p)) ((run tb).call 41 [.agg [.list f1 n1 (p.structs.map Struct.v), .list f2 n2 (p.enums.map Enum.v), .list f3 n3 (p.funcs.map Fun.v)]] st):=by
 have hz:=h
 rw[b_6]at hz
 have l1:=m_2 p.structs
 have l2:=w_9 p.enums
 have hbx:=b_4 (l:=st.store) (a:=O.box [.list f1 n1 (p.structs.map Struct.v), .list f2 n2 (p.enums.map Enum.v), .list f3 n3 (p.funcs.map Fun.v)])
 rw[run41 (by simp)]
 simp[-List.getD_eq_getElem?_getD, -getElem?_pos]
 obtain⟨s0,hs0⟩:∃s0,s0=newBox st [.list f1 n1 (p.structs.map Struct.v), .list f2 n2 (p.enums.map Enum.v), .list f3 n3 (p.funcs.map Fun.v)]:=⟨_,rfl⟩
 have hg0:Grows st s0:=by rw[hs0];exact p_1 (Grows.refl _) _
 have hbx:s0.store[st.store.length]? =some (.box [.list f1 n1 (p.structs.map Struct.v), .list f2 n2 (p.enums.map Enum.v), .list f3 n3 (p.funcs.map Fun.v)]):=by rw[hs0];exact b_4
 rw[←hs0]
 have i1:s0.base=0:=hg0.base.trans hb
 have i2:s0.prot=[]:=hg0.prot.trans hp
 clear hs0
 refine Ret.loop (b_3 e41_8 w41_8 p.structs.length
  (I:=fun i f st'=>f 11= .int .i64 (i:Nat)∧DeclsV s0 st' (f 3) ((p.structs.take i).map Decl.ofS))
  (Q:=fun e f st'=>e= .exit 0∧DeclsV s0 st' (f 3) (p.structs.map Decl.ofS)) ?_ ?_ ?_) ?_
 ·refine⟨by simp,[],?_⟩
  simp only[List.take_zero,List.map_nil]
  exact⟨I_7,(fun r hr=>by cases hr),Grows.refl _,rfl,(fun i k d hk=>by simp at hk),by simp,(fun k hk=>by simp at hk)⟩
 ·rintro i f st1 hi hk ⟨h11,al,hD⟩
  have hx:p.structs[i]? =some p.structs[i]:=List.getElem?_eq_getElem hi
  have htk:=List.take_succ_eq_append_getElem hi
  have ha:=add1 (i:=i) (by omega)
  have j1:st1.base=0:=hD.grows.base.trans i1
  have j2:st1.prot=[]:=hD.grows.prot.trans i2
  have g9:f 9= .list f1 n1 (p.structs.map Struct.v):=by simp[hk]
  have g10:f 10= .int .i64 (p.structs.length:Nat):=by simp[hk]
  clear hk
  rw[htk,List.map_append,List.map_singleton]
  generalize p.structs[i]=x at *
  obtain⟨v,hv⟩:∃v,f 3=v:=⟨_,rfl⟩
  rw[hv]at hD
  obtain⟨v3,st3,ap3,D3⟩:=hD.snoc (d:= .ofS x) (cs:=x.ks) j1 j2 (by rw[hD.len];simp;omega)
  have hD3:DeclsV s0 st3 v3 ((p.structs.take i).map Decl.ofS ++[.ofS x]):=⟨_,D3⟩
  simp only[Struct.ks,Decl.cs,Decl.ofS]at ap3
  clear D3 hD htk
  generalize(p.structs.take i).map Decl.ofS ++[Decl.ofS x]=ds at *
  simp[-List.getD_eq_getElem?_getD, -getElem?_pos,g9,g10,h11,hv,hx,hi,ha,j1,j2,ap3,Struct.v]
  refine Out.one ?_
  simp[*]
 ·rintro f st1 hk ⟨h11,hD⟩
  have g10:f 10= .int .i64 (p.structs.length:Nat):=by simp[hk]
  clear hk
  rw[List.take_length]at hD
  simp[-List.getD_eq_getElem?_getD, -getElem?_pos,g10,h11]
  refine Out.one ?_
  simp[*]
 ·rintro e f st1 ⟨⟨rfl,al,hD⟩,hk⟩
  have i3:st1.base=0:=hD.grows.base.trans i1
  have i4:st1.prot=[]:=hD.grows.prot.trans i2
  have j4:=hD.grows.at_ hbx
  obtain⟨v,hv⟩:∃v,f 3=v:=⟨_,rfl⟩
  rw[hv]at hD
  have hD0:DeclsV s0 st1 v (p.structs.map Decl.ofS ++(p.enums.take 0).map Decl.ofE):=⟨al,by simpa using hD⟩
  clear hD
  have g1:f 1= .ptr st.store.length 0:=by simp[hk]
  clear hk
  simp[-List.getD_eq_getElem?_getD, -getElem?_pos,g1,j4]
  refine Ret.loop (b_3 e41_25 w41_25 p.enums.length
   (I:=fun i f st'=>f 32= .int .i64 (i:Nat)∧DeclsV s0 st' (f 3) (p.structs.map Decl.ofS ++(p.enums.take i).map Decl.ofE))
   (Q:=fun e f st'=>e= .exit 2∧DeclsV s0 st' (f 3) (declsOf p)) ?_ ?_ ?_) ?_
  ·refine⟨by simp,?_⟩
   simp[hv]
   simpa using hD0
  ·rintro i f st1 hi hk ⟨h11,al,hD⟩
   have hx:p.enums[i]? =some p.enums[i]:=List.getElem?_eq_getElem hi
   have htk:=List.take_succ_eq_append_getElem hi
   have ha:=add1 (i:=i) (by omega)
   have j1:st1.base=0:=hD.grows.base.trans i1
   have j2:st1.prot=[]:=hD.grows.prot.trans i2
   have g9:f 30= .list f2 n2 (p.enums.map Enum.v):=by simp[hk]
   have g10:f 31= .int .i64 (p.enums.length:Nat):=by simp[hk]
   clear hk
   rw[htk,List.map_append,List.map_singleton,←List.append_assoc]
   generalize p.enums[i]=x at *
   obtain⟨v,hv⟩:∃v,f 3=v:=⟨_,rfl⟩
   rw[hv]at hD
   obtain⟨v3,st3,ap3,D3⟩:=hD.snoc (d:= .ofE x) (cs:=x.ks) j1 j2 (by rw[hD.len];simp;omega)
   have hD3:DeclsV s0 st3 v3 (p.structs.map Decl.ofS ++(p.enums.take i).map Decl.ofE ++[.ofE x]):=⟨_,D3⟩
   simp only[Enum.ks,Decl.cs,Decl.ofE]at ap3
   clear D3 hD htk
   generalize p.structs.map Decl.ofS ++(p.enums.take i).map Decl.ofE ++[Decl.ofE x]=ds at *
   simp[-List.getD_eq_getElem?_getD, -getElem?_pos,g9,g10,h11,hv,hx,hi,ha,j1,j2,ap3,Enum.v]
   refine Out.one ?_
   simp[*]
  ·rintro f st1 hk ⟨h11,hD⟩
   have g10:f 31= .int .i64 (p.enums.length:Nat):=by simp[hk]
   clear hk
   rw[List.take_length]at hD
   unfold declsOf
   simp[-List.getD_eq_getElem?_getD, -getElem?_pos,g10,h11]
   refine Out.one ?_
   simp[*]
  ·rintro e f st1 ⟨⟨rfl,al,hD⟩,hk⟩
   have hD2:DeclsV st st1 (f 3) (declsOf p):=⟨al,hD.weak hg0⟩
   simp[-List.getD_eq_getElem?_getD, -getElem?_pos]
   refine Ret.one ?_
   simp[*]
theorem bB_0{S:Go.Abs.S}{l:Nat}{args:List V}{st:St}:evInvoke tb S (V.func (Fn.yield l) [] []) args st=evYield S l args st:=rfl
attribute [local simp] bB_0
theorem aa_(v:V)(hv:v.cells=[v])(hv2:v.oneCell=true)(st:St):(run tb).call 43 [v] st=some (.func (.func 88) [] [.ptr st.store.length 0],newBox st [v]):=by
 rw[run43 (by simp)]
 simp[-List.getD_eq_getElem?_getD, -getElem?_pos,hv,hv2]
theorem bp_9{st st':St}{v:V}{al:List Nat}(h:Go.Abs.Acc 1 st v (al.map fun k=> .ptr k 0)):lenV tb 79 st' v=some (.int .i64 (al.length:Nat)):=by
 rcases h with⟨nl,rfl,h⟩|⟨r,acc,rfl,h⟩
 ·have:al=[]:=by simpa using h
  subst this
  simp
 ·simp
theorem bm_1(l kb:Nat)(v:V)(al:List Nat)(K:Nat→St→Prop)(hl:al.length<2^30)
  (hbox:∀i st,K i st→st.store[kb]? =some (.box [v])∧Go.Abs.Acc 1 st v (al.map fun k=> .ptr k 0))
  (hy:∀(i k:Nat) (st:St),al[i]? =some k→K (i+1) st→∃st',evYield (run tb) l [.int .i64 (i:Nat), .ptr k 0] st=some (.bool true,st')∧K i st') (st:St) (h:K al.length st):
  Ret (fun _ st'=>K 0 st') ((run tb).call 88 [.func (.yield l) [] [], .ptr kb 0] st):=by
 obtain⟨h1,hA0⟩:=hbox _ _ h
 have hlen:=fun st'=>bp_9 (st':=st') hA0
 clear hA0
 have hs0:intBin .sub .i64 (al.length:Nat) 1=some (.int .i64 ((al.length:Int)-1)):=aV_8 (by omega) (by omega)
 rw[run88 (by simp)]
 simp[-List.getD_eq_getElem?_getD, -getElem?_pos,h1,hlen,hs0]
 refine Ret.loop (b_3 e88_3 w88_3 al.length
  (I:=fun j f st'=>∃i:Nat,i+j=al.length∧f 3= .int .i64 ((i:Int)-1)∧K i st')
  (Q:=fun e f st'=>e= .exit 0∧K 0 st') ?_ ?_ ?_) ?_
 ·exact⟨al.length,rfl,by simp,h⟩
 ·rintro j f st1 hj hk ⟨i,hi,h3,hK⟩
  obtain⟨i,rfl⟩:∃i',i=i'+1:=⟨i-1,by omega⟩
  have h3:f 3= .int .i64 (i:Nat):=by rw[h3];simp
  have hx:al[i]? =some al[i]:=List.getElem?_eq_getElem (by omega)
  generalize al[i]=k at *
  obtain⟨st2,hy2,hK2⟩:=hy i k st1 hx hK
  obtain⟨h1,hA⟩:=hbox _ _ hK
  have g0:f 0= .func (.yield l) [] []:=by simp[hk]
  have g1:f 1= .ptr kb 0:=by simp[hk]
  have hs1:intBin .sub .i64 (i:Nat) 1=some (.int .i64 ((i:Int)-1)):=aV_8 (by omega) (by omega)
  have hil:i<al.length:=by omega
  have hfin:∃i2:Nat,i2+(j+1)=al.length∧(i:Int)-1=(i2:Int)-1∧K i2 st2:=⟨i,by omega,rfl,hK2⟩
  clear hk
  rcases hA with⟨nl,rfl,hA⟩|⟨r,acc,rfl,hA⟩
  ·have:al=[]:=by simpa using hA
   subst this;simp at hil
  ·rw[List.length_map]at *
   simp[-List.getD_eq_getElem?_getD, -getElem?_pos,g0,g1,h1,hA,h3,hx,hil,hy2,hs1]
   refine Out.one ?_
   simp[*]
   exact⟨i,by omega,rfl,hK2⟩
 ·rintro f st1 hk ⟨i,hi,h3,hK⟩
  have:i=0:=by omega
  subst this
  simp[-List.getD_eq_getElem?_getD, -getElem?_pos,h3]
  refine Out.one ?_
  simp[*]
 ·rintro e f st1 ⟨⟨rfl,hK⟩,hk⟩
  simp[-List.getD_eq_getElem?_getD, -getElem?_pos]
  refine Ret.one ?_
  simp[*]
attribute [local simp] bB_0
theorem bi_7{s:List O}{l m:Nat}{b X o:O}(hne:l≠m)(h:s[l]? =some o):((s.set l b).set m X).set l o=s.set m X:=by
 rw[List.set_comm _ _ hne,List.set_set]
 exact bo_0 (by rw[List.getElem?_set_ne (Ne.symm hne)];exact h)
noncomputable def fillLp(F:Nat→V)(ds:Nat):L:=aj_6 (mk 66 F []).tmps #[25,26] (.region 6 o11_19 false) c11_20 ds
def ptrs(D:List (Str×Nat)):O:= .map (entsM (fun i=>V.ptr i 0) D)
theorem aR_0(F:Nat→V)(ds l r m b5 i k:Nat)(l1 l2 l3:V)(D:List (Str×Nat))(d:Decl)(st:St)(hb:st.base=0)(hp:st.prot=[])(hlp:st.store[l]? =some (.loop (fillLp F ds)))(h5:F 5= .ptr b5 0)(hb5:st.store[b5]? =some (.box [.ptr r 0]))
  (hr:st.store[r]? =some (.box [l1,l2,l3, .map m])) (hm:st.store[m]? =some (ptrs D)) (hk:st.store[k]? =some (.box d.cs)):
  evYield (run tb) l [.int .i64 (i:Nat), .ptr k 0] st=some (.bool true,setO st m (ptrs (putM D d.name k))):=by
 have hlm:l≠m:=by intro e;subst e;rw[hlp]at hm;cases hm
 have hlk:∀j,st.locked j=false:=fun j=>by simp[St.locked,hb,hp]
 have hu:∀st:St,updM st m (some (.map (entsM (fun i=>V.ptr i 0) D))) (.str d.name) (.ptr k 0)=some (setO st m (.map (entsM (fun i=>V.ptr i 0) (putM D d.name k)))):=fun st=>ac_9 (fun i=>V.ptr i 0) D d.name k st m
 have key:∀(x:Nat) (cs:List V) (o:O),st.store[x]? =some (.box cs)→(st.store.set l o)[x]? =some (.box cs):=fun x cs o h=>by
  rw[List.getElem?_set_ne (by intro e;subst e;rw[hlp]at h;cases h)];exact h
 unfold fillLp at hlp
 rw[aZ_9 (fr1:=mk 66 (upd (upd (upd F 25 (.int .i64 (i:Nat))) 26 (.ptr k 0)) 7 (.ptr k 0)) []) (hlk l) (aK_ hlp) rfl rfl]
 ·obtain⟨bz,hbz⟩:∃bz,bz=O.loop {(aj_6 (mk 66 F []).tmps #[25,26] (.region 6 o11_19 false) c11_20 ds)with state:= .busy}:=⟨_,rfl⟩
  show yieldEnd l ((run tb).code (some l) c11_20 _ (setO st l (O.loop {(aj_6 (mk 66 F []).tmps #[25,26] (.region 6 o11_19 false) c11_20 ds)with state:= .busy})))=_
  rw[←hbz]
  have g5:=key b5 _ bz hb5
  have gr:=key r _ bz hr
  have gk:=key k _ bz hk
  have gm:(st.store.set l bz)[m]? =some (ptrs D):=by rw[List.getElem?_set_ne hlm];exact hm
  have hl2:(setO st l bz).locked m=false:=by simp[St.locked,setO,hb,hp]
  unfold ptrs at *
  unfold Decl.cs at gk
  generalize putM D d.name k=D2 at *
  simp[-List.getD_eq_getElem?_getD, -getElem?_pos,h5,g5,gr,gk,gm,hu,hp,hb,Nat.testBit]
  rw[bs_2 (lp:={(aj_6 (mk 66 F []).tmps #[25,26] (.region 6 o11_19 false) c11_20 ds)with state:= .busy})]
  ·simp only[roundEnd]
   subst hbz
   exact congrArg (fun z=>some (V.bool true,({store:=z,base:=st.base,prot:=st.prot}:St))) (bi_7 hlm hlp)
  ·subst hbz
   show((st.store.set l _).set m _)[l]? =_
   rw[List.getElem?_set_ne (Ne.symm hlm),List.getElem?_set_self (aO_8 hlp)]
 ·show(run tb).code (some l) (.region 6 o11_19 false) {tmps:=setParams [25,26] _ (mk 66 F []).tmps,marks:=[]} st=_
  rw[aZ_2]
  simp[-List.getD_eq_getElem?_getD, -getElem?_pos,updAll]
theorem ak_(D:List (Str×Bool))(k:Str):lookM (some (.map (entsM V.bool D))) (.bool false) (.str k) false=some (.bool ((getM D k).getD false)):=by
 rw[V_9];cases getM D k<;>rfl
structure Nm(st a:St)(ms:Nat)(ns:List Str):Prop where
 base:a.base=st.store.length
 prot:a.prot=[]
 len:st.store.length≤a.store.length
 get:∀(i:Nat) (o:O),st.store[i]? =some o→a.store[i]? =some o
 seen:∃S:List (Str×Bool),a.store[ms]? =some (.map (entsM V.bool S))∧∀n,(getM S n).getD false=ns.contains n
theorem Nm.rest{st a b:St}{ms:Nat}{ns:List Str}{v:V}{es:List V}(h:Nm st a ms ns)(hA:AccT 2 a v es)(hr:∀r,refOf v=some r→st.store.length≤r)(hR:Go.Abs.Rest (refOf v) a b):Nm st b ms ns:=by
 obtain⟨S,h1,h2⟩:=h.seen
 refine⟨hR.base.trans h.base,hR.prot.trans h.prot,Nat.le_trans h.len hR.len,fun i o hi=>hR.get i o (h.get i o hi) ?_,S,hR.get _ _ h1 ?_,h2⟩
 ·intro e
  have:=hr i e
  have:=(List.getElem?_eq_some_iff.1 hi).1
  omega
 ·intro e
  rcases hA with⟨nl,rfl, -⟩|⟨r, -,rfl,h3⟩
  ·cases e
  ·cases e;rw[h3]at h1;cases h1
theorem Nm.box{st a:St}{ms:Nat}{ns:List Str}(h:Nm st a ms ns)(cs:List V):Nm st (newBox a cs) ms ns:=by
 obtain⟨S,h1,h2⟩:=h.seen
 exact⟨h.base,h.prot,Nat.le_trans h.len (by simp[newBox]),fun i o hi=>a_3 (h.get i o hi),S,a_3 h1,h2⟩
theorem Nm.free{st a:St}{ms:Nat}{ns:List Str}{r:Nat}(h:Nm st a ms ns)(hr:st.store.length≤r):a.locked r=false:=by
 simp[St.locked,h.base,h.prot];omega
def Var.ks2(x:Var):List V:=[.str x.name, .str x.type]
theorem ag_4(p:Prog)(D:List (Str×Nat))(hkn:∀t,knownM D t=known p t)(st:St)(r m ms k:Nat)(l1 l2 l3:V)(d:Decl)(ns:List Str)(f0:Nat→V)(st1:St)(v0:V)(es0:List V)
  (h1:st.store[r]? =some (.box [l1,l2,l3, .map m])) (h2:st.store[m]? =some (ptrs D)) (h3:st.store[k]? =some (.box d.cs)) (hsz:V.bulks (d.parts.map Var.v)≤1048576)
  (g0:f0 0= .ptr r 0) (g8:f0 8= .ptr k 0) (g40:f0 40= .list false d.nl (d.parts.map Var.v)) (g41:f0 41= .int .i64 (d.parts.length:Nat)) (g42:f0 42= .int .i64 0) (g5:f0 5=v0)
  (hN:Nm st st1 ms ns) (hA:AccT 2 st1 v0 es0) (hr0:∀r,refOf v0=some r→st.store.length≤r) (hes0:es0.length≤2^28):
  Out 85 [] (fun e f' st'=>(e= .exit 2∧∃v,f' 5=v∧AccT 2 st' v (es0 ++(dgVars p d.parts d.at_).map Dg.v)∧(Nm st st' ms ns∧∀r,refOf v=some r→st.store.length≤r))∧∀t,t<85→List.contains [43,44,45,46,10,9,47,48,49,50,51,52,53,54,55,56,57,58,59,60,61,62,63,5,64,65,66,67,68,69,70,71,72,73,74,75,76,77,78,79,80,81,5,82,42] t=false→f' t=f0 t) ((run tb).code none c44_32 (mk 85 f0 []) st1):=by
 have hll:=d_3 d.parts
 have hzl:d.parts.zipIdx.length=d.parts.length:=List.length_zipIdx
 have hfl:(d.parts.zipIdx.flatMap fun x=>(dgVar p d.parts d.at_ x).map Dg.v)=(dgVars p d.parts d.at_).map Dg.v:=by rw[dgVars,List.map_flatMap]
 rw[←hfl]
 refine bt_2 e44_32 w44_32 d.parts.zipIdx (fun x=>(dgVar p d.parts d.at_ x).map Dg.v) 2 42 5 2 (v0:=v0) (es0:=es0) (fun v st'=>Nm st st' ms ns∧∀r,refOf v=some r→st.store.length≤r) g42 g5 hA ⟨hN,hr0⟩ ?_ ?_ (by omega)
 ·rintro i x f st1 v es hi hx hm hk h42 h5 hA hes ha ⟨hN,hr⟩
  rw[hzl]at hi
  rw[List.getElem?_zipIdx]at hx
  have hx0:d.parts[i]? =some d.parts[i]:=List.getElem?_eq_getElem hi
  rw[hx0]at hx
  simp only[Option.map_some,Option.some.injEq,Nat.zero_add]at hx
  subst hx
  have hy:=List.getElem_mem hi
  generalize d.parts[i]=y at *
  have hym:=E_9 hy
  rw[D_3]at hym
  have hF:=fun fl nl=>aM_7 fl nl d.parts y.name (by omega)
  have j1:st1.base=st.store.length:=hN.base
  have j2:st1.prot=[]:=hN.prot
  have k4:¬st1.store.length<st.store.length:=by have:=hN.len;omega
  have k1:=hN.get _ _ h1
  have k2:=hN.get _ _ h2
  have k3:=hN.get _ _ h3
  have g0':f 0= .ptr r 0:=by simp[hk,g0]
  have g8':f 8= .ptr k 0:=by simp[hk,g8]
  have g40':f 40= .list false d.nl (d.parts.map Var.v):=by simp[hk,g40]
  have g41':f 41= .int .i64 (d.parts.length:Nat):=by simp[hk,g41]
  clear hk
  have hel:es.length≤2^28+2 * 1048576:=by
   rw[hes]
   have:=k_2 (fun x=>(dgVar p d.parts d.at_ x).map Dg.v) d.parts.zipIdx i
   have h2:=P_1 (fun x=>(dgVar p d.parts d.at_ x).map Dg.v) (fun x=>by simpa using N_8 p d.parts d.at_ x) d.parts.zipIdx
   simp only[List.length_append];omega
  clear hes
  have hD:(dgVar p d.parts d.at_ (y,i)).map Dg.v=(if idxI (fun z:Var=>z.name==y.name) d.parts<(i:Int)then [V.agg [.int .i64 d.at_, .int .i64 4]]else []) ++(if y.type≠[]∧known p y.type=false then [V.agg [.int .i64 d.at_, .int .i64 5]]else []):=by
   unfold dgVar;simp only;split<;>split<;>rfl
  rw[hD]
  clear hD
  have hNb:=hN.box y.ks2
  have hAb:=hA.box y.ks2
  obtain⟨sb,hsb⟩:∃sb,sb=newBox st1 y.ks2:=⟨_,rfl⟩
  have hgb:sb.store[st1.store.length]? =some (.box y.ks2):=by rw[hsb];exact b_4
  rw[←hsb]at hNb hAb
  have hK:=E_5 r m l1 l2 l3 D y.type (by omega)
  rw[hkn]at hK
  generalize hF0:idxI (fun z:Var=>z.name==y.name) d.parts=q at *
  generalize hk0:known p y.type=kn at *
  have hset:∀zs:List V,setO (newBox st1 zs) st1.store.length (.box y.ks2)=sb:=fun zs=>by rw[hsb];exact g_0
  have hlb:st1.store.length+1=sb.store.length:=by rw[hsb];simp[newBox]
  clear hsb
  have key:∃v2 st2,(if q<(i:Int)then appV 2 16 sb (spreadB (.list true (some false) [.agg [.int .i64 d.at_, .int .i64 4]])) v (.list true (some false) [.agg [.int .i64 d.at_, .int .i64 4]])=some (v2,st2)else v2=v∧st2=sb)∧AccT 2 st2 v2 (es ++if q<(i:Int)then [V.agg [.int .i64 d.at_, .int .i64 4]]else [])∧Nm st st2 ms ns∧(∀r,refOf v2=some r→st.store.length≤r)∧st2.store[st1.store.length]? =some (.box y.ks2):=by
   by_cases c1:q<(i:Int)
   ·obtain⟨v3,st3,ap3,A3,R3,r3,F3,F4⟩:=hAb.app (bytes:=16) (y:= .list true (some false) [.agg [.int .i64 d.at_, .int .i64 4]]) (fun r0 h0=>hNb.free (hr r0 h0)) rfl (by simp) (by simp[V.cells,V.oneCell]) (by decide) (by decide) (by simp;omega)
    exact⟨v3,st3,by rw[if_pos c1];exact ap3,by rw[if_pos c1];exact A3,hNb.rest hAb hr R3,fun r0 h0=>by rw[F3]at h0;cases h0;have:=hNb.len;omega,(hAb.boxes R3).get _ _ hgb⟩
   ·exact⟨v,sb,by rw[if_neg c1];exact⟨rfl,rfl⟩,by rw[if_neg c1,List.append_nil];exact hAb,hNb,hr,hgb⟩
  obtain⟨v2,st2,hv2,A2,N2,r2,b2⟩:=key
  have i1:st2.base=st.store.length:=N2.base
  have i2:st2.prot=[]:=N2.prot
  have m1:=N2.get _ _ h1
  have m2:=N2.get _ _ h2
  have m3:=N2.get _ _ h3
  have n1:=hNb.base
  have n2:=hNb.prot
  have n3:=hNb.get _ _ h3
  have hel2:(es ++if q<(i:Int)then [V.agg [.int .i64 d.at_, .int .i64 4]]else []).length≤2^28+2 * 1048576+1:=by
   rw[List.length_append];split<;>simp<;>omega
  rw[←List.append_assoc]
  generalize(es ++if q<(i:Int)then [V.agg [.int .i64 d.at_, .int .i64 4]]else [])=es2 at *
  obtain⟨v4,st4,ap4,A4,R4,r4,F4,F5⟩:=A2.app (bytes:=16) (y:= .list true (some false) [.agg [.int .i64 d.at_, .int .i64 5]]) (fun r0 h0=>N2.free (r2 r0 h0)) rfl (by simp) (by simp[V.cells,V.oneCell]) (by decide) (by decide) (by simp;omega)
  have ap4':appV 2 16 st2 (spreadB (.list true (some false) [.agg [.int .i64 d.at_, .int .i64 5]])) v2 (.list true (some false) [.agg [.int .i64 d.at_, .int .i64 5]])=some (v4,st4):=ap4
  have N4:=N2.rest A2 r2 R4
  have hr4:∀r,refOf v4=some r→st.store.length≤r:=fun r0 h0=>by rw[F4]at h0;cases h0;have:=N2.len;omega
  have hK2:=hK st2 m1 m2
  clear F4 R4 ap4 hN hA hAb h1 h2 h3
  unfold Decl.cs at k3 m3 n3
  unfold Var.ks2 at hset hgb b2
  by_cases c2:y.type≠[]∧kn=false
  ·rw[if_pos c2]
   obtain⟨c2,c3⟩:=c2
   have c2':(y.type==[])=false:=by simpa using c2
   by_cases c1:q<(i:Int)
   ·rw[if_pos c1]at hv2
    simp[-List.getD_eq_getElem?_getD, -getElem?_pos,g0',g8',g40',g41',h42,h5,hi,hx0,ha,hF,hK2,j1,j2,k4,n2,n3,m3,hset,hgb,b2,hv2,ap4',c1,c2',c3,Nat.testBit,Var.v]
    refine Out.one ?_
    simp[*]
    exact hr4
   ·rw[if_neg c1]at hv2
    obtain⟨rfl,rfl⟩:=hv2
    simp[-List.getD_eq_getElem?_getD, -getElem?_pos,g0',g8',g40',g41',h42,h5,hi,hx0,ha,hF,hK2,j1,j2,k4,n2,n3,hset,hgb,ap4',c1,c2',c3,Nat.testBit,Var.v]
    refine Out.one ?_
    simp[*]
    exact hr4
  ·rw[if_neg c2,List.append_nil]
   by_cases c2':y.type=[]
   ·have c2'':(y.type==[])=true:=by simpa using c2'
    simp only[c2']at hset hgb b2
    by_cases c1:q<(i:Int)
    ·rw[if_pos c1]at hv2
     simp[-List.getD_eq_getElem?_getD, -getElem?_pos,g8',g40',g41',h42,h5,hi,hx0,ha,hF,j1,j2,k4,n2,n3,hset,hgb,b2,hv2,c1,c2',Nat.testBit,Var.v]
     refine Out.one ?_
     simp[*]
     exact r2
    ·rw[if_neg c1]at hv2
     obtain⟨rfl,rfl⟩:=hv2
     simp[-List.getD_eq_getElem?_getD, -getElem?_pos,g8',g40',g41',h42,hi,hx0,ha,hF,j1,j2,k4,n2,n3,hset,hgb,c1,c2',Nat.testBit,Var.v]
     refine Out.one ?_
     simp[*]
     exact r2
   ·have c2'':(y.type==[])=false:=by simpa using c2'
    have c3:kn=true:=by
     cases hkn:kn with
     |true=>rfl
     |false=>exact absurd ⟨c2',hkn⟩ c2
    by_cases c1:q<(i:Int)
    ·rw[if_pos c1]at hv2
     simp[-List.getD_eq_getElem?_getD, -getElem?_pos,g0',g8',g40',g41',h42,h5,hi,hx0,ha,hF,hK2,j1,j2,k4,n2,n3,hset,hgb,b2,hv2,c1,c2'',c3,Nat.testBit,Var.v]
     refine Out.one ?_
     simp[*]
     exact r2
    ·rw[if_neg c1]at hv2
     obtain⟨rfl,rfl⟩:=hv2
     simp[-List.getD_eq_getElem?_getD, -getElem?_pos,g0',g8',g40',g41',h42,hi,hx0,ha,hF,hK2,j1,j2,k4,n2,n3,hset,hgb,c1,c2'',c3,Nat.testBit,Var.v]
     refine Out.one ?_
     simp[*]
     exact r2
 ·rintro f st1 v hk h42 h5 ⟨hN,hr⟩
  rw[hzl]at h42
  have g41':f 41= .int .i64 (d.parts.length:Nat):=by simp[hk,g41]
  clear hk
  simp[-List.getD_eq_getElem?_getD, -getElem?_pos,g41',h42]
  refine Out.one ?_
  simp[*]
def H_8(p:Prog)(ds:List Decl)(x:Decl×Nat):List Dg:=(if idxI (fun y:Decl=>y.name==x.1.name) ds<(x.2:Int)then [⟨x.1.at_,4⟩]else []) ++dgVars p x.1.parts x.1.at_
def dg1(p:Prog)(ds:List Decl):List Dg:=ds.zipIdx.flatMap (H_8 p ds)
theorem ac_7(n:Str):∀(ds:List Decl) (i:Nat) (d:Decl),ds[i]? =some d→d.name=n→((ds.take i).map Decl.name).contains n=decide (idxI (fun y:Decl=>y.name==n) ds<(i:Int))
 |[],i,d,h,_=>by simp at h
 |x::ds,0,d,h,hn=>by
  have:0≤idxI (fun y:Decl=>y.name==n) (x::ds):=by
   simp only[List.getElem?_cons_zero,Option.some.injEq]at h
   subst h
   unfold idxI
   rw[if_pos (by simp[hn])]
   simp
  simp[this]
 |x::ds,i+1,d,h,hn=>by
  simp only[List.getElem?_cons_succ]at h
  have ih:=ac_7 n ds i d h hn
  have hm:d∈ds:=List.mem_of_getElem? h
  have ha:ds.any (fun y:Decl=>y.name==n)=true:=List.any_eq_true.2 ⟨d,hm,by simpa using hn⟩
  have ha2:(x::ds).any (fun y:Decl=>y.name==n)=true:=by rw[List.any_cons,ha,Bool.or_true]
  rw[List.take_succ_cons,List.map_cons,List.contains_cons,ih]
  unfold idxI
  rw[if_pos ha,if_pos ha2]
  have h3:idx (fun y:Decl=>y.name==n) (x::ds)=if x.name=n then 0 else idx (fun y:Decl=>y.name==n) ds+1:=by simp[idx]
  rw[h3]
  by_cases hx:x.name=n
  ·have:(n==x.name)=true:=by simp[hx]
   rw[if_pos hx,this]
   simp
  ·have:(n==x.name)=false:=by simpa using fun e=>hx e.symm
   rw[if_neg hx,this,Bool.false_or,decide_eq_decide]
   omega
theorem Nm.put{st a:St}{ms:Nat}{ns:List Str}{S:List (Str×Bool)}{n:Str}(h:Nm st a ms ns)(hms:st.store.length≤ms)(h1:a.store[ms]? =some (.map (entsM V.bool S)))(h2:∀n,(getM S n).getD false=ns.contains n):Nm st (setO a ms (.map (entsM V.bool (putM S n true)))) ms (ns ++[n]):=by
 refine⟨h.base,h.prot,by simp[setO];exact h.len,fun i o hi=> ?_,putM S n true,?_,fun k=> ?_⟩
 ·show(a.store.set ms _)[i]? =_
  rw[List.getElem?_set_ne (by have:=(List.getElem?_eq_some_iff.1 hi).1;omega)]
  exact h.get i o hi
 ·show(a.store.set ms _)[ms]? =_
  rw[List.getElem?_set_self (List.getElem?_eq_some_iff.1 h1).1]
 ·rw[P_7]
  have:=h2 k
  rw[Bool.eq_iff_iff]at this⊢
  by_cases hk:k=n
  ·subst hk;simp
  ·have:(k==n)=false:=by simpa using hk
   simp[this,hk,h2 k]
theorem bn_1{s:Nat}{a:St}{v:V}{es:List V}{ms:Nat}{o:O}{x:List (V×V)}(h:AccT s a v es)(h1:a.store[ms]? =some (.map x)):AccT s (setO a ms o) v es:=by
 rcases h with h|⟨r,h2,rfl,h3⟩
 ·exact .inl h
 ·refine .inr ⟨r,h2,rfl,?_⟩
  show(a.store.set ms _)[r]? =_
  rw[List.getElem?_set_ne (by intro e;subst e;rw[h1]at h3;cases h3)];exact h3
theorem ag_2{α β:Type}{h:α→List β}(k:Nat):∀xs:List α,(∀x∈xs,(h x).length≤k)→(xs.flatMap h).length≤k * xs.length
 |[],_=>by simp
 |x::xs,hh=>by
  have h1:=ag_2 k xs fun y hy=>hh y (by simp[hy])
  have h2:=hh x (by simp)
  rw[List.flatMap_cons,List.length_append,List.length_cons,Nat.mul_succ];omega
def IsLb(l:List V)(v:V):Prop:=∃b nl,v= .list b nl l∧(l=[]→b=true)
theorem ax_5(p:Prog)(D:List (Str×Nat))(hkn:∀t,knownM D t=known p t)(st:St)(hp:st.prot=[])(r m:Nat)(l1 l2 l3:V)(h1:st.store[r]? =some (.box [l1,l2,l3, .map m]))(h2:st.store[m]? =some (ptrs D))
  (lv:V) (al:List Nat) (ds:List Decl) (hA:AccT 1 st lv (al.map fun k=> .ptr k 0)) (hlen:al.length=ds.length) (hat:∀(i k:Nat) (d:Decl),al[i]? =some k→ds[i]? =some d→st.store[k]? =some (.box d.cs)) (hsz:∀d∈ds,V.bulks (d.parts.map Var.v)≤1048576) (hn:ds.length≤64):
  Ret (fun v st'=>st'=st∧IsLb ((dg1 p ds).map Dg.v) v) ((run tb).call 44 [.ptr r 0,lv] st):=by
 have hfz:=hA.frz (g:=id) (by
  intro x hx
  obtain⟨k, -,rfl⟩:=List.mem_map.1 hx
  rfl)
 rw[List.map_id]at hfz
 have hal:al.length=ds.length:=hlen
 rw[run44 (by simp)]
 simp[-List.getD_eq_getElem?_getD, -getElem?_pos,hfz]
 have hN1:Nm st (addO (roSt st) (.map [])) st.store.length []:=⟨rfl,hp,by simp[addO,roSt],fun i o hi=>a_3 hi,[],by simp[addO,roSt,entsM],fun n=>by simp[getM]⟩
 obtain⟨s1,hs1⟩:∃s1,s1=addO (roSt st) (.map []):=⟨_,rfl⟩
 rw[←hs1]at hN1
 rw[←hs1]
 clear hs1
 have hzl:ds.zipIdx.length=ds.length:=List.length_zipIdx
 refine Ret.loop (b_3 e44_10 w44_10 ds.length
  (I:=fun i f st'=>f 14= .int .i64 (i:Nat)∧AccT 2 st' (f 5) (((ds.zipIdx.take i).flatMap (H_8 p ds)).map Dg.v)∧(∀r,refOf (f 5)=some r→st.store.length≤r)∧Nm st st' st.store.length ((ds.take i).map Decl.name))
  (Q:=fun e f st'=>e= .exit 0∧AccT 2 st' (f 5) ((dg1 p ds).map Dg.v)) ?_ ?_ ?_) ?_
 ·refine⟨by simp,?_,?_,by simpa using hN1⟩
  ·simp;exact I_7
  ·simp[refOf]
 ·rintro i f st1 hi hk ⟨h14,hA2,hr2,hN⟩
  have hd:ds[i]? =some ds[i]:=List.getElem?_eq_getElem hi
  have hdm:=List.getElem_mem hi
  have htk:ds.zipIdx.take (i+1)=ds.zipIdx.take i ++[(ds[i],i)]:=by
   rw[List.take_succ_eq_append_getElem (by omega)];simp
  have htk2:=List.take_succ_eq_append_getElem hi
  have hil:i<al.length:=by omega
  have hx:al[i]? =some al[i]:=List.getElem?_eq_getElem hil
  have hdk:=hat i _ _ hx hd
  have hseen:=ac_7 ds[i].name ds i _ hd rfl
  rw[htk,htk2]
  generalize ds[i]=d at *
  generalize al[i]=k at *
  have hsd:=hsz d hdm
  have ha:=add1 (i:=i) (by omega)
  obtain⟨v,hv⟩:∃v,f 5=v:=⟨_,rfl⟩
  rw[hv]at hA2 hr2
  have g0:f 0= .ptr r 0:=by simp[hk]
  have g6:f 6= .map st.store.length:=by simp[hk]
  have g12:f 12= .list false none (al.map fun k=> .ptr k 0):=by simp[hk]
  have g13:f 13= .int .i64 (al.length:Nat):=by simp[hk]
  clear hk htk htk2
  obtain⟨S,hS1,hS2⟩:=hN.seen
  have hlk:=ak_ S d.name
  rw[hS2,hseen]at hlk
  have j1:st1.base=st.store.length:=hN.base
  have j2:st1.prot=[]:=hN.prot
  have k3:=hN.get _ _ hdk
  rw[List.flatMap_append,List.map_append,List.map_append]
  have hone:([(d,i)].flatMap (H_8 p ds)).map Dg.v=(if idxI (fun y:Decl=>y.name==d.name) ds<(i:Int)then [V.agg [.int .i64 d.at_, .int .i64 4]]else []) ++(dgVars p d.parts d.at_).map Dg.v:=by
   simp only[List.flatMap_cons,List.flatMap_nil,List.append_nil,H_8,List.map_append]
   split<;>rfl
  rw[hone,←List.append_assoc]
  have hl0:((ds.zipIdx.take i).flatMap (H_8 p ds)).map Dg.v=((ds.zipIdx.take i).flatMap fun x=>(H_8 p ds x).map Dg.v):=by rw[List.map_flatMap]
  have hel:(((ds.zipIdx.take i).flatMap (H_8 p ds)).map Dg.v).length≤2^27+64:=by
   rw[List.length_map]
   have h3:=k_2 (H_8 p ds) ds.zipIdx i
   have h4:=ag_2 (h:=H_8 p ds) 2097153 ds.zipIdx (fun x hx=>by
    have hx2:x.1∈ds:=by
     have:=List.mem_zipIdx hx
     rw[this.2.2];exact List.getElem_mem _
    have h5:=hsz x.1 hx2
    have h6:=P_1 (dgVar p x.1.parts x.1.at_) (N_8 p x.1.parts x.1.at_) x.1.parts.zipIdx
    have h7:=d_3 x.1.parts
    rw[List.length_zipIdx]at h6
    unfold H_8 dgVars
    rw[List.length_append]
    have h8:(if idxI (fun y:Decl=>y.name==x.1.name) ds<(x.2:Int)then [(⟨x.1.at_,4⟩:Dg)]else []).length≤1:=by split<;>simp
    omega)
   omega
  generalize((ds.zipIdx.take i).flatMap (H_8 p ds)).map Dg.v=es at *
  generalize hc0:idxI (fun y:Decl=>y.name==d.name) ds=q at *
  have key:∃v2 st2,(if q<(i:Int)then appV 2 16 st1 (spreadB (.list true (some false) [.agg [.int .i64 d.at_, .int .i64 4]])) v (.list true (some false) [.agg [.int .i64 d.at_, .int .i64 4]])=some (v2,st2)else v2=v∧st2=st1)∧AccT 2 st2 v2 (es ++if q<(i:Int)then [V.agg [.int .i64 d.at_, .int .i64 4]]else [])∧Nm st st2 st.store.length ((ds.take i).map Decl.name)∧(∀r,refOf v2=some r→st.store.length≤r):=by
   by_cases c1:q<(i:Int)
   ·obtain⟨v3,st3,ap3,A3,R3,r3,F3,F4⟩:=hA2.app (bytes:=16) (y:= .list true (some false) [.agg [.int .i64 d.at_, .int .i64 4]]) (fun r0 h0=>hN.free (hr2 r0 h0)) rfl (by simp) (by simp[V.cells,V.oneCell]) (by decide) (by decide) (by simp;omega)
    exact⟨v3,st3,by rw[if_pos c1];exact ap3,by rw[if_pos c1];exact A3,hN.rest hA2 hr2 R3,fun r0 h0=>by rw[F3]at h0;cases h0;have:=hN.len;omega⟩
   ·exact⟨v,st1,by rw[if_neg c1];exact⟨rfl,rfl⟩,by rw[if_neg c1,List.append_nil];exact hA2,hN,hr2⟩
  obtain⟨v2,st2,hv2,A2,N2,r2⟩:=key
  obtain⟨S2,hT1,hT2⟩:=N2.seen
  have N3:=N2.put (n:=d.name) (Nat.le_refl _) hT1 hT2
  have A3:=bn_1 (o:= .map (entsM V.bool (putM S2 d.name true))) A2 hT1
  have i1:st2.base=st.store.length:=N2.base
  have i2:st2.prot=[]:=N2.prot
  have m3:=N2.get _ _ hdk
  have m4:=N3.get _ _ hdk
  have hel2:(es ++if q<(i:Int)then [V.agg [.int .i64 d.at_, .int .i64 4]]else []).length≤2^28:=by
   rw[List.length_append];split<;>simp<;>omega
  generalize(es ++if q<(i:Int)then [V.agg [.int .i64 d.at_, .int .i64 4]]else [])=es2 at *
  obtain⟨s3,hs3⟩:∃s3,s3=setO st2 st.store.length (.map (entsM V.bool (putM S2 d.name true))):=⟨_,rfl⟩
  rw[←hs3]at N3 A3 m4
  have hu2:updM st2 st.store.length (some (.map (entsM V.bool S2))) (.str d.name) (.bool true)=some s3:=by rw[hs3];exact ac_9 V.bool S2 d.name true st2 _
  clear hs3
  have i3:s3.base=st.store.length:=N3.base
  have i4:s3.prot=[]:=N3.prot
  unfold Decl.cs at k3 m3 m4
  by_cases c1:q<(i:Int)
  ·rw[if_pos c1]at hv2
   have c1':decide (q<(i:Int))=true:=by simpa using c1
   rw[c1']at hlk
   simp[-List.getD_eq_getElem?_getD, -getElem?_pos,g6,g12,g13,h14,hv,hx,hil,hlk,hS1,hT1,k3,i1,i2,m3,hv2,hu2,m4]
   refine Out.loop (ag_4 p D hkn st r m st.store.length k l1 l2 l3 d ((ds.take i).map Decl.name ++[d.name]) _ s3 v2 es2 h1 h2 hdk hsd (by simp[g0]) (by simp) (by simp) (by simp) (by simp) (by simp) N3 A3 r2 hel2) ?_
   rintro e f2 st4 ⟨⟨rfl,v4,q5,A4,N4,r4⟩,hk2⟩
   have q14:f2 14= .int .i64 (i:Nat):=by simp[hk2,h14]
   clear hk2
   rw[List.map_take]at N4
   simp[-List.getD_eq_getElem?_getD, -getElem?_pos,q14,ha]
   repeat' (first|refine a_0 ?_ ?_|refine Out.branch ?_ ?_|refine Ret.branch ?_ ?_)<;>(intro hb;(try(simp only[NB]at hb));simp[-List.getD_eq_getElem?_getD, -getElem?_pos,q5,q14,ha,hb])
   all_goals try refine Out.one ?_
   all_goals try refine Ret.one ?_
   all_goals try(simp[-List.getD_eq_getElem?_getD, *];done)
   all_goals try simp[-List.getD_eq_getElem?_getD,q5]
   all_goals try(intros;omega)
   exact⟨A4,r4,N4⟩
  ·rw[if_neg c1]at hv2
   obtain⟨e1,e2⟩:=hv2
   subst e1 e2
   have c1':decide (q<(i:Int))=false:=by simpa using c1
   have hlk2:=ak_ S2 d.name
   rw[hT2,hseen,c1']at hlk2
   simp[-List.getD_eq_getElem?_getD, -getElem?_pos,g6,g12,g13,h14,hx,hil,hlk2,hT1,j1,j2,k3,hu2,m4]
   refine Out.loop (ag_4 p D hkn st r m st.store.length k l1 l2 l3 d ((ds.take i).map Decl.name ++[d.name]) _ s3 v2 es2 h1 h2 hdk hsd (by simp[g0]) (by simp) (by simp) (by simp) (by simp) (by simp[hv]) N3 A3 r2 hel2) ?_
   rintro e f2 st4 ⟨⟨rfl,v4,q5,A4,N4,r4⟩,hk2⟩
   have q14:f2 14= .int .i64 (i:Nat):=by simp[hk2,h14]
   clear hk2
   rw[List.map_take]at N4
   simp[-List.getD_eq_getElem?_getD, -getElem?_pos,q14,ha]
   repeat' (first|refine a_0 ?_ ?_|refine Out.branch ?_ ?_|refine Ret.branch ?_ ?_)<;>(intro hb;(try(simp only[NB]at hb));simp[-List.getD_eq_getElem?_getD, -getElem?_pos,q5,q14,ha,hb])
   all_goals try refine Out.one ?_
   all_goals try refine Ret.one ?_
   all_goals try(simp[-List.getD_eq_getElem?_getD, *];done)
   all_goals try simp[-List.getD_eq_getElem?_getD,q5]
   all_goals try(intros;omega)
   exact⟨A4,r4,N4⟩
 ·rintro f st1 hk ⟨h14,hA2,hr2,hN⟩
  have g13:f 13= .int .i64 (al.length:Nat):=by simp[hk]
  clear hk
  rw[List.take_of_length_le (by omega)]at hA2
  rw[←hal]at h14
  simp[-List.getD_eq_getElem?_getD, -getElem?_pos,g13,h14]
  refine Out.one ?_
  simp[*]
  exact hA2
 ·rintro e f st1 ⟨⟨rfl,hA2⟩,hk⟩
  clear hk
  obtain⟨b,nl,hR,hb⟩:=hA2.retV (l:=st.store.length) (st0:=st) (g:=id) (by
   intro x hx
   obtain⟨q, -,rfl⟩:=List.mem_map.1 hx
   rfl) (by simp[ba_4])
  rw[List.map_id]at hR
  simp[-List.getD_eq_getElem?_getD, -getElem?_pos]
  exact⟨_,_,hR,rfl,b,nl,rfl,hb⟩
end Go.Proofs.YtghhphdkojjalaaGreatDoor
namespace Go.Proofs.YtghhphdkojjalaaGreatDoor
open Go.Abs
set_option maxRecDepth 100000
inductive Need(p:Prog):Str→Prop
 |hook {t:Str} {s:Struct} (h:p.st t=some s) (h2:s.hook=true):Need p t
 |box {t:Str} (h:kindOf t=3) (h2:known p t=true):Need p t
 |part {t u:Str} (h:kindOf t=2) (h2:u∈parts p t) (h3:Need p u):Need p t
open Classical in
noncomputable def need(p:Prog)(t:Str):Bool:=decide (Need p t)
def declOf(p:Prog)(n:Str):Option Decl:=(declsOf p).find? fun d=>d.name==n
def partsOf(d:Decl):List Str:=if d.enum=true then partTypes d.parts else d.parts.map Var.type
theorem v_5(p:Prog)(n:Str):declOf p n=match p.st n with|some s=>some (.ofS s)|none=>(p.en n).map .ofE:=by
 unfold declOf declsOf
 rw[List.find?_append,List.find?_map,List.find?_map]
 have h1:((fun d:Decl=>d.name==n)∘Decl.ofS)=fun x:Struct=>x.name==n:=rfl
 have h2:((fun d:Decl=>d.name==n)∘Decl.ofE)=fun x:Enum=>x.name==n:=rfl
 rw[h1,h2]
 show((p.st n).map Decl.ofS).or ((p.en n).map Decl.ofE)=_
 cases p.st n<;>rfl
theorem E_1{p:Prog}{n:Str}{d:Decl}(h:declOf p n=some d):d.name=n:=by
 have:=List.find?_some h
 simpa using this
theorem g_2{p:Prog}{n:Str}{d:Decl}(h:declOf p n=some d):d∈declsOf p:=List.mem_of_find?_eq_some h
theorem w_3{p:Prog}{n:Str}{d:Decl}(h:declOf p n=some d):parts p n=partsOf d∧(p.st n).isSome= !d.enum∧(d.hook=true↔∃s,p.st n=some s∧s.hook=true)∧d.slots=0∧d.drops=false:=by
 rw[v_5]at h
 unfold parts partsOf
 cases hs:p.st n with
 |some s=>
  rw[hs]at h
  simp only[Option.some.injEq]at h
  subst h
  exact⟨rfl,rfl,by simp[Decl.ofS],rfl,rfl⟩
 |none=>
  rw[hs]at h
  cases he:p.en n with
  |none=>rw[he]at h;cases h
  |some e=>
   rw[he]at h
   simp only[Option.map_some,Option.some.injEq]at h
   subst h
   exact⟨rfl,rfl,by simp[Decl.ofE],rfl,rfl⟩
theorem X_6{p:Prog}{t:Str}(hk:known p t=true)(h2:kindOf t=2):∃d,declOf p t=some d:=by
 unfold known at hk
 rw[(aq_9 h2).1]at hk
 simp only[(aq_9 h2).2,Bool.true_and,Bool.false_or]at hk
 rw[v_5]
 cases hs:p.st t with
 |some s=>exact⟨_,rfl⟩
 |none=>
  cases he:p.en t with
  |none=>rw[hs,he]at hk;cases hk
  |some e=>exact⟨_,rfl⟩
theorem ao_9{s w:Str}(hw:(32:UInt8)∈w)(hs:s.all inner=true):hasPre s w=false:=by
 cases h:hasPre s w with
 |false=>rfl
 |true=>
  unfold hasPre at h
  simp only[Bool.and_eq_true,decide_eq_true_eq,beq_iff_eq]at h
  have hm:(32:UInt8)∈s:=by
   have:(32:UInt8)∈s.take w.length:=by rw[h.2];exact hw
   exact List.mem_of_mem_take this
  have:=List.all_eq_true.1 hs _ hm
  revert this;decide
theorem an_9{s:Str}(h:isName s=true):s.all inner=true∧word s=false∧s≠[]:=by
 cases s with
 |nil=>cases h
 |cons c r=>
  unfold isName at h
  simp only[Bool.and_eq_true,Bool.not_eq_true']at h
  obtain⟨⟨⟨h1,h2⟩,h3⟩,h4⟩:=h
  refine⟨?_,h3,by simp⟩
  exact h4
theorem af_1{s:Str}(h:isName s=true):kindOf s=2:=by
 obtain⟨h1,h2,h3⟩:=an_9 h
 have p1:hasPre s refS=false:=ao_9 (by decide) h1
 have p2:hasPre s mutS=false:=ao_9 (by decide) h1
 have p3:hasPre s boxS=false:=ao_9 (by decide) h1
 have hf:front s=(0,s):=by unfold front;simp[p1,p2]
 have hi:(s==intS)=false:=by
  cases hc:s==intS with
  |false=>rfl
  |true=>
   rw[eq_of_beq hc]at h2
   revert h2;decide
 have hp:plain s=true:=by
  unfold plain
  rw[x_3 p3]
  simp[h]
 unfold kindOf
 rw[hf]
 simp[hp,hi,p3]
theorem I_9:kindOf []=0:=by
 have hf:front []=(0,[]):=by decide
 unfold kindOf
 rw[hf]
 simp[N_4]
theorem M_8{p:Prog}(hr:right p=true){d:Decl}(hd:d∈declsOf p):isName d.name=true∧d.parts.length≤16∧(d.enum=false→∀v∈d.parts,v.type≠[]):=by
 unfold right at hr
 simp only[Bool.and_eq_true]at hr
 obtain⟨-,⟨h1,h2⟩, -⟩:=hr
 unfold declsOf at hd
 rcases List.mem_append.1 hd with hd|hd
 ·obtain⟨x,hx,rfl⟩:=List.mem_map.1 hd
  have:=List.all_eq_true.1 h1 x hx
  unfold structOk at this
  simp only[Bool.and_eq_true,Bool.not_eq_true',decide_eq_false_iff_not]at this
  obtain⟨⟨a,b⟩,c⟩:=this
  refine⟨a,by show x.fields.length≤16;omega,fun _ v hv e=> ?_⟩
  have:=List.all_eq_true.1 c v hv
  unfold varOk at this
  rw[e]at this
  simp only[Bool.and_eq_true,Bool.or_eq_true,Bool.false_and]at this
  rcases this.2 with h|h
  ·simp[N_4]at h
  ·cases h
 ·obtain⟨x,hx,rfl⟩:=List.mem_map.1 hd
  have:=List.all_eq_true.1 h2 x hx
  unfold enumOk at this
  simp only[Bool.and_eq_true,Bool.not_eq_true',decide_eq_false_iff_not]at this
  obtain⟨⟨⟨a,b⟩,b'⟩,c⟩:=this
  exact⟨a,by show x.variants.length≤16;omega,fun h=>by cases h⟩
theorem bc_3{p:Prog}(hr:right p=true){t:Str}{s:Struct}(h:p.st t=some s):kindOf t=2:=by
 have h1:declOf p t=some (.ofS s):=by rw[v_5,h]
 have:=(M_8 hr (g_2 h1)).1
 rw[E_1 h1]at this
 exact af_1 this
theorem Q_9{p:Prog}(hr:right p=true){t:Str}(h2:kindOf t≠2)(h3:kindOf t≠3):need p t=false:=by
 unfold need
 rw[decide_eq_false_iff_not]
 intro h
 cases h with
 |hook h _=>exact h2 (bc_3 hr h)
 |box h _=>exact h3 h
 |part h _ _=>exact h2 h
theorem ar_{p:Prog}(hr:right p=true){t:Str}(h3:kindOf t=3):need p t=known p t:=by
 unfold need
 cases hk:known p t with
 |true=>simp;exact .box h3 hk
 |false=>
  rw[decide_eq_false_iff_not]
  intro h
  cases h with
  |hook h _=>have:=bc_3 hr h;omega
  |box _ h=>rw[hk]at h;cases h
  |part h _ _=>omega
theorem ax_0{p:Prog}{n:Str}{d:Decl}(h:declOf p n=some d)(h2:kindOf n=2):need p n=(d.hook||(partsOf d).any (need p)):=by
 obtain⟨e1, -,e3, -⟩:=w_3 h
 unfold need
 rw[Bool.eq_iff_iff]
 simp only[decide_eq_true_eq,Bool.or_eq_true,List.any_eq_true]
 constructor
 ·intro hn
  cases hn with
  |hook h1 h3=>exact .inl (e3.2 ⟨_,h1,h3⟩)
  |box h1 _=>omega
  |part _ h3 h4=>rw[e1]at h3;exact .inr ⟨_,h3,h4⟩
 ·rintro(hh|⟨u,hu,hn⟩)
  ·obtain⟨s,h1,h3⟩:=e3.1 hh
   exact .hook h1 h3
  ·exact .part h2 (by rw[e1];exact hu) hn
noncomputable def sv(p:Prog)(v:Var):Nat:=if v.type=[]then 0 else val (sz p) v.type
theorem az_1{p:Prog}(hr:right p=true)(d:Decl):(partsOf d).any (need p)=d.parts.any fun v=>need p v.type:=by
 have h0:need p []=false:=Q_9 hr (by rw[I_9];decide) (by rw[I_9];decide)
 unfold partsOf
 split
 ·unfold partTypes
  generalize d.parts=l
  induction l with
  |nil=>rfl
  |cons v l ih=>
   rw[List.flatMap_cons,List.any_append,ih,List.any_cons]
   split
   ·rename_i e;rw[e,h0];rfl
   ·simp
 ·rw[List.any_map];rfl
theorem av_(l:List Nat):∀a:Nat,l.foldl max a=max a (l.foldl max 0):=by
 induction l with
 |nil=>intro a;simp
 |cons x l ih=>intro a;rw[List.foldl_cons,ih,List.foldl_cons,ih (max 0 x)];omega
theorem aw_{p:Prog}(hr:right p=true){d:Decl}(hd:d∈declsOf p):pt (!d.enum) (d.parts.map (sv p))=pt (!d.enum) ((partsOf d).map (val (sz p))):=by
 unfold partsOf
 cases he:d.enum with
 |false=>
  have h1:=(M_8 hr hd).2.2 he
  simp only[Bool.false_eq_true,if_false,List.map_map]
  congr 1
  apply List.map_congr_left
  intro v hv
  unfold sv;rw[if_neg (h1 v hv)];rfl
 |true=>
  simp only[if_true,pt,Bool.not_true,Bool.false_eq_true,if_false]
  unfold partTypes
  generalize d.parts=l
  induction l with
  |nil=>rfl
  |cons v l ih=>
   rw[List.map_cons,List.foldl_cons,av_,ih,List.flatMap_cons,List.map_append,List.foldl_append]
   unfold sv
   split
   ·simp
   ·rw[List.map_singleton,List.foldl_cons,List.foldl_nil,av_ (List.map _ _) (max 0 _)]
noncomputable def dropsF(p:Prog)(t:Str):Bool:=if kindOf t=3 then known p t else if kindOf t=2 then known p t&&need p t else false
structure Fine(p:Prog):Prop where
 size:p.size≤1048576
 right:right p=true
 names:((declsOf p).map Decl.name).Nodup
 known:∀d∈declsOf p,∀v∈d.parts,v.type≠[]→known p v.type=true
end Go.Proofs.YtghhphdkojjalaaGreatDoor
namespace Go.Proofs.YtghhphdkojjalaaGreatDoor
open Go.Abs
attribute [local simp] K_0 L_0 q_ z_4 l_0 M_1 z_ y_2 t_9 c_7 j_7 m_9 c_ e_9 j_8 c_3 h_4 finish dropMarks resOf
 resList o_3 l_4 i_8 e_6 d_ c_1 n_5 j_ c_0 b_ a_9 c_4 c_2 f_7 f_5 c_6
 c_8 e_5 m_8 L_4 D_1 m_3 B_5 f_ M_0 s_un D_0 s_ c_9 d_2 q_7 r_9 j_6 z_2 r_3 K_5 B_ D_ L_1 l_6
 d_1 b_9 l_7 q_4 g_ i_2 m_0 m_7 m_4 m_6 a_7 d_0 f_6 e_4 e_2 j_5 j_1 i_4 e_1
 t_3 m_1 n_4 n_1 s_6 t_2 u_5 q_5 i_9 s_7 evArgs o_5 k_ l_8 f_3 g_9 v_2 ofValue ofValues isConst C_7 y_8 x_8 x_4
 A_0 z_3 C_0 y_3 z_1 B_0 C_2 z_8 C_6 A_5 A_6 y_ strBin bne C_3 B_3 B_6 convV evConv optArg a_6 argF B_4 s_9 q_8 p_ n_2 x_5
 t_4 p_4 l_2 k_0 i_0 g_1 j_4 g_5 d_8 y_5 u_0 i_5 k_1 okCells L_3 b_4 g_0 d_9 i_3 i_1 f_1
 i_6 j_0 l_ q_9 r_4 m_ t_6 s_5 n_0 t_ t_8 j_2 h_1 e_3 e_0 h_3 splice putElem k_8 i_ l_1 g_6
 t_7 e_8 bdV fill l_9 bsF setAll d_6 f_2 x_1 n_7 e_7 h_6 h_5 f_4 p_2 v_7 t_1 s_1 x_7 r_5 s_0 p_6 j_9
 q_3 x_2 C_4 p_5 g_8 d_7 p_3 v_8 p_0 u_2 h_8 z_5 q_0 n_3 y_4 u_4 u_3 C_5 l_5 r_1 d_4 n_ h_7 B_1
 q_6 C_1 A_8 B_7 g_7 r_7 q_1 y_7 y_6 y_9 x_6 u_1 l_3 u_7 s_4 deep List.getD_cons_zero List.getD_cons_succ List.getElem?_cons_zero
 List.getElem?_cons_succ List.getElem?_nil t_0 s_2 A_9 x_9 y_0 A_2 u_6 q_2 B_9 y_1 r_0 s_8 r_6 t_5 r_2 r_ n_6 m_5 z_7 z_6
 j_3 i_7 s_3 r_8 f_9 f_0 A_ C_8 A_4 C_9 af_0 ai_1 ah_8 ah_1 ag_0 ae_8 ah_2 bd90 ld3 sr3 und3 ld9 und9 ln9 ix9 ld67 sr67 R_0 ia67 ib67 ln67
 lo67 ap67 bs67 ld4 sr4 und4 ld35 sr35 Q_3 ia35 ln35 sl35 ap35 bs35 ld49 sr49 al49 M_5 M_6 V_1 W_ bd84 ld82 ld29 sr29 al29 ld88 lu82 pn88 aU_ o_9 A_3 B_8 o_6
 o_7 k_7 c_5 k_4 o_2 q45_18 l45_18 p45_23 Y_7 O_4 O_2 kdOp kdOf isPure readsOf q45_36 l45_36 X_5 protS D_Rg S45 L45_1 L45_5 L45_8 L45_11 L45_14 L45_21 L45_25 L45_33
 L45_39 L45_43 L45_45 L45_47 L45_48 L45_49 L45_52 L45_54 L45_57 L45_59
set_option maxRecDepth 100000
set_option linter.unusedSimpArgs false
set_option linter.unusedVariables false
set_option maxHeartbeats 4000000
theorem aK_9(p:Prog)(n:Str):1≤sz p n:=by
 rw[aG_8];unfold nextS comb;split<;>omega
theorem bn_4{p:Prog}(hr:right p=true){n:Str}{d:Decl}(h:declOf p n=some d)(hle:∀v∈d.parts,v.type≠[]→val (sz p) v.type≤32):sz p n=min (max (if d.enum=true then pt (!d.enum) (d.parts.map (sv p))+1 else pt (!d.enum) (d.parts.map (sv p))) 1) 33:=by
 obtain⟨e1,e2, -⟩:=w_3 h
 rw[aw_ hr (g_2 h),aG_8]
 unfold nextS comb
 rw[e1,e2,if_neg]
 ·cases d.enum<;>rfl
 ·intro hc
  obtain⟨k,hk1,hk2⟩:=List.any_eq_true.1 hc
  obtain⟨u,hu,rfl⟩:=List.mem_map.1 hk1
  simp only[decide_eq_true_eq]at hk2
  unfold partsOf at hu
  split at hu
  ·unfold partTypes at hu
   obtain⟨v,hv,hu⟩:=List.mem_flatMap.1 hu
   split at hu
   ·cases hu
   ·rename_i hne
    rw[List.mem_singleton.1 hu]at hk2
    have:=hle v hv hne;omega
  ·rename_i he
   obtain⟨v,hv,rfl⟩:=List.mem_map.1 hu
   have:=hle v hv ((M_8 hr (g_2 h)).2.2 (by simpa using he) v hv);omega
theorem at_3{p:Prog}{n:Str}{d:Decl}(h:declOf p n=some d){v:Var}(hv:v∈d.parts)(hne:v.type≠[]):v.type∈parts p n:=by
 rw[(w_3 h).1]
 unfold partsOf
 split
 ·exact List.mem_flatMap.2 ⟨v,hv,by rw[if_neg hne];simp⟩
 ·exact List.mem_map_of_mem hv
theorem bx_8{p:Prog}{n:Str}{d:Decl}(h:declOf p n=some d){v:Var}(hv:v∈d.parts)(hne:v.type≠[])(h2:32<val (sz p) v.type):sz p n=33:=by
 rw[aG_8]
 unfold nextS comb
 rw[if_pos]
 exact List.any_eq_true.2 ⟨_,List.mem_map_of_mem (at_3 h hv hne),by simpa using h2⟩
def WayAt(st:St)(wv:V)(path:List Str):Prop:=(wv= .list true (some true) []∧path=[])∨∃r,wv= .slice r 1 0 path.length∧st.store[r]? =some (.way (path.map .str))
theorem bu_9{st:St}{wv:V}{path:List Str}(h:WayAt st wv path)(hb:st.base=0)(hp:st.prot=[])(hl:path.length≤2^20)(n:Str):
  ∃w' s2,(∀P:List Nat,P.all (fun i=> !isWay (st.store[i]?))=true→appW 1 16 (setProt st P) (spreadB (.list true (some false) [.str n])) wv (.list true (some false) [.str n])=some (w',setProt s2 P))∧WayAt s2 w' (path ++[n])∧(∃r,refOf w'=some r∧st.store.length≤r)∧s2.base=0∧s2.prot=[]∧st.store.length≤s2.store.length∧
   (∀(i:Nat) (o:O),st.store[i]? =some o→(isWay (some o)=true→∀r,refOf wv=some r→i≤r)→s2.store[i]? =some o):=by
 rcases h with⟨rfl,rfl⟩|⟨r,rfl,hr⟩
 ·refine⟨.slice st.store.length 1 0 1,addO st (.way [.str n]),fun P hP=> ?_, .inr ⟨st.store.length,rfl,b_4⟩,⟨_,rfl,Nat.le_refl _⟩,hb,hp,by simp[addO],fun i o hi _=>a_3 hi⟩
  exact bj_4 (st:=setProt st P) (new:=[.str n]) rfl (by simp) (by simp[V.cells,V.oneCell]) (by decide) (by decide) (by simp)
 ·have hlt:r<st.store.length:=(List.getElem?_eq_some_iff.1 hr).1
  refine⟨.slice st.store.length 1 0 (path.length+1),addO (killSt r st) (.way (path.map .str ++[.str n])),fun P hP=> ?_, .inr ⟨st.store.length,by simp,?_⟩,⟨_,rfl,Nat.le_refl _⟩,hb,hp,by simp[addO,killSt,N_7],fun i o hi hw=> ?_⟩
  ·have hnot:r∉P:=fun hm=>by
    have:=List.all_eq_true.1 hP r hm
    rw[hr]at this;cases this
   exact bk_ (st:=setProt st P) (new:=[.str n]) (sp:=false) rfl (by simp) (by simp[V.cells,V.oneCell]) (by decide) (by decide) (by simp[St.locked,setProt,hb,hnot]) hr (by simp) (by simp;omega) (by
    rw[List.all_eq_true]
    intro i hi
    have:=List.all_eq_true.1 hP i hi
    show(decide (i≤r)|| !isWay (st.store[i]?))=true
    rw[this];simp)
  ·show(killW r st.store ++[_])[st.store.length]? =_
   rw[List.getElem?_append_right (by rw[N_7];exact Nat.le_refl _),N_7];simp
  ·show(killW r st.store ++[_])[i]? =_
   refine a_3 ?_
   rw[K_6,hi]
   simp only[Option.map_some]
   rw[if_neg]
   rintro⟨h1,h2⟩
   have:=hw h2 r rfl
   omega
theorem wcontains{st:St}{wv:V}{path:List Str}(h:WayAt st wv path)(hl:path.length≤2^20)(n:Str):(run tb).call 90 [wv, .str n] st=some (.bool (path.any fun x=>n==x),st):=by
 rcases h with⟨rfl,rfl⟩|⟨r,rfl,hr⟩
 ·exact ab_2 _ _ [] (by decide) n st
 ·exact aq_6 r path (by omega) n st hr
def Meas(p:Prog)(n:Str)(s:Int)(b:Bool):Prop:=(s=0∧b=false)∨(sz p n≤32∧s=(sz p n:Nat)∧b=need p n)∨(sz p n=33∧32<s∧s<2^40)
structure MSt(p:Prog)(r m:Nat)(D:List (Str×Nat))(st:St)(Dc:Nat→Decl):Prop where
 tab:TabSt st r m D Dc
 base:st.base=0
 prot:st.prot=[]
 ok:∀n k,getM D n=some k→∃d0 s b,declOf p n=some d0∧Dc k={d0 with slots:=s,drops:=b}∧Meas p n s b
 dom:∀n d0,declOf p n=some d0→∃k,getM D n=some k
 inj:∀n n' k,getM D n=some k→getM D n'=some k→n=n'
structure Keep(D:List (Str×Nat))(wv:V)(a b:St):Prop where
 base:b.base=a.base
 prot:b.prot=a.prot
 len:a.store.length≤b.store.length
 get:∀(i:Nat) (o:O),a.store[i]? =some o→(∀n,getM D n≠some i)→(isWay (some o)=true→∀r,refOf wv=some r→i≤r)→b.store[i]? =some o
theorem w_8{p:Prog}{r m:Nat}{D:List (Str×Nat)}{st:St}{Dc:Nat→Decl}(h:MSt p r m D st Dc)(t:Str):knownM D t=known p t:=by
 unfold knownM known
 congr 2
 generalize(baseOf t).1=n
 have h1:=v_5 p n
 cases hg:getM D n with
 |some k=>
  obtain⟨d0,s,b,h2, -⟩:=h.ok n k hg
  rw[h2]at h1
  cases hs:p.st n with
  |some s=>rfl
  |none=>
   rw[hs]at h1
   cases he:p.en n with
   |none=>rw[he]at h1;cases h1
   |some e=>rfl
 |none=>
  have h3:declOf p n=none:=by
   cases hd:declOf p n with
   |none=>rfl
   |some d0=>obtain⟨k,hk⟩:=h.dom n d0 hd;rw[hg]at hk;cases hk
  rw[h3]at h1
  cases hs:p.st n with
  |some s=>rw[hs]at h1;cases h1
  |none=>
   rw[hs]at h1
   cases he:p.en n with
   |none=>rfl
   |some e=>rw[he]at h1;cases h1
theorem Keep.way{p:Prog}{r m:Nat}{D:List (Str×Nat)}{wv:V}{a b:St}{Dc:Nat→Decl}{path:List Str}(h:Keep D wv a b)(hM:MSt p r m D a Dc)(hW:WayAt a wv path):WayAt b wv path:=by
 rcases hW with hW|⟨q,rfl,hq⟩
 ·exact .inl hW
 ·refine .inr ⟨q,rfl,h.get _ _ hq (fun n hn=> ?_) fun _ r' hr=>by cases hr;exact Nat.le_refl _⟩
  rw[hM.tab.decl n q hn]at hq;cases hq
theorem Keep.box{D:List (Str×Nat)}{wv:V}{a b:St}(h:Keep D wv a b)(cs:List V):Keep D wv a (newBox b cs):=
 ⟨h.base,h.prot,Nat.le_trans h.len (by simp[newBox]),fun i o hi h1 h2=>a_3 (h.get i o hi h1 h2)⟩
theorem MSt.to{p:Prog}{r m:Nat}{D:List (Str×Nat)}{a b:St}{Dc:Nat→Decl}(h:MSt p r m D a Dc)(hb:b.base=0)(hp:b.prot=[])(hg:∀(i:Nat) (o:O),a.store[i]? =some o→isWay (some o)=false→b.store[i]? =some o):MSt p r m D b Dc:=by
 obtain⟨l1,l2,l3,h1⟩:=h.tab.box
 exact⟨⟨⟨l1,l2,l3,hg _ _ h1 rfl⟩,hg _ _ h.tab.ents rfl,fun n k hk=>hg _ _ (h.tab.decl n k hk) rfl⟩,hb,hp,h.ok,h.dom,h.inj⟩
def Mono(Dca Dc:Nat→Decl):Prop:=∀x,(Dca x).slots≠0→Dc x=Dca x
def MK(p:Prog)(r m:Nat)(D:List (Str×Nat))(wv:V)(Dca:Nat→Decl)(a b:St):Prop:=∃Dc,MSt p r m D b Dc∧Keep D wv a b∧Mono Dca Dc
theorem Keep.ofNew{D:List (Str×Nat)}{wv w':V}{a b c d:St}{r:Nat}(h:Keep D wv a b)(hb:c.base=b.base)(hp:c.prot=b.prot)(hl:b.store.length≤c.store.length)(hg:∀(i:Nat) (o:O),b.store[i]? =some o→(isWay (some o)=true→∀r,refOf wv=some r→i≤r)→c.store[i]? =some o)
  (hr:refOf w'=some r) (hr2:b.store.length≤r) (h2:Keep D w' c d):Keep D wv a d:=
 ⟨h2.base.trans (hb.trans h.base),h2.prot.trans (hp.trans h.prot),Nat.le_trans h.len (Nat.le_trans hl h2.len),fun i o hi h3 h4=>by
  have h5:=h.get i o hi h3 h4
  refine h2.get i o (hg i o h5 h4) h3 fun _ r' hr'=> ?_
  rw[hr]at hr';cases hr'
  have:=(List.getElem?_eq_some_iff.1 h5).1
  omega⟩
theorem H_7{p:Prog}(h:p.size≤1048576){d:Decl}(hd:d∈declsOf p):V.bulks (d.parts.map Var.v)≤1048576:=by
 rw[b_6]at h
 unfold declsOf at hd
 rcases List.mem_append.1 hd with hd|hd
 ·obtain⟨x,hx,rfl⟩:=List.mem_map.1 hd
  have:=p_7 hx
  rw[g_4]at this
  show V.bulks (x.fields.map Var.v)≤_
  omega
 ·obtain⟨x,hx,rfl⟩:=List.mem_map.1 hd
  have:=D_4 hx
  rw[o_1]at this
  show V.bulks (x.variants.map Var.v)≤_
  omega
theorem an_1{p:Prog}(hf:Fine p){r m:Nat}{D:List (Str×Nat)}{st:St}{Dc:Nat→Decl}(h:MSt p r m D st Dc){d:Decl}(hd:d∈declsOf p){v:Var}(hv:v∈d.parts)(h2:kindOf v.type=2→∃k,getM D v.type=some k∧(Dc k).slots=(sz p v.type:Nat)∧(Dc k).drops=need p v.type):
  slotsM D Dc v.type=(sv p v:Nat)∧dropsM D Dc v.type=need p v.type:=by
 unfold slotsM dropsM sv val
 rw[w_8 h]
 by_cases he:v.type=[]
 ·have hk:known p []=false:=by unfold known baseOf;rw[I_9];rfl
  rw[he,hk,I_9]
  simp only[if_true]
  refine⟨rfl,?_⟩
  rw[if_neg (by decide),if_neg (by decide)]
  exact(Q_9 hf.right (by rw[I_9];decide) (by rw[I_9];decide)).symm
 ·have hk:=hf.known d hd v hv he
  rw[hk,if_neg (by decide),if_neg he]
  by_cases k2:kindOf v.type=2
  ·obtain⟨k,h3,h4,h5⟩:=h2 k2
   rw[if_pos k2,if_pos k2,if_neg (by rw[k2];decide),if_pos k2,h3]
   exact⟨h4,by simpa using h5⟩
  ·rw[if_neg k2,if_neg k2,if_neg k2]
   refine⟨rfl,?_⟩
   by_cases k3:kindOf v.type=3
   ·rw[if_pos k3,ar_ hf.right k3,hk]
   ·rw[if_neg k3,Q_9 hf.right k2 k3]
def MOut(p:Prog)(r m:Nat)(D:List (Str×Nat))(wv:V)(n:Str)(k:Nat)(Dca:Nat→Decl)(a b:St):Prop:=∃Dc',MSt p r m D b Dc'∧(sz p n≤32→(Dc' k).slots=(sz p n:Nat)∧(Dc' k).drops=need p n)∧Keep D wv a b∧Mono Dca Dc'
theorem Keep.put{D:List (Str×Nat)}{wv:V}{a b:St}{n:Str}{k:Nat}(h:Keep D wv a b)(hg:getM D n=some k)(o:O):Keep D wv a (setO b k o):=
 ⟨h.base,h.prot,by simp[setO];exact h.len,fun i x hi h1 h2=>by
  show(b.store.set k o)[i]? =_
  rw[List.getElem?_set_ne (by intro e;subst e;exact h1 n hg)]
  exact h.get i x hi h1 h2⟩
theorem MSt.put{p:Prog}{r m:Nat}{D:List (Str×Nat)}{st:St}{Dc:Nat→Decl}(h:MSt p r m D st Dc){n:Str}{k:Nat}(hg:getM D n=some k){d0:Decl}(hd:declOf p n=some d0){s:Int}{b:Bool}(hS:Meas p n s b):
  MSt p r m D (setO st k (.box ({d0 with slots:=s,drops:=b}:Decl).cs)) (fun x=>if x=k then{d0 with slots:=s,drops:=b}else Dc x):=by
 obtain⟨l1,l2,l3,h1⟩:=h.tab.box
 have hk:=h.tab.decl n k hg
 have hrk:k≠r:=by intro e;subst e;rw[h1]at hk;simp[Decl.cs]at hk
 have hmk:k≠m:=by intro e;subst e;rw[h.tab.ents]at hk;cases hk
 refine⟨⟨⟨l1,l2,l3,?_⟩,?_,fun n' k' hn'=> ?_⟩,h.base,h.prot,fun n' k' hn'=> ?_,h.dom,h.inj⟩
 ·show(st.store.set k _)[r]? =_
  rw[List.getElem?_set_ne hrk];exact h1
 ·show(st.store.set k _)[m]? =_
  rw[List.getElem?_set_ne hmk];exact h.tab.ents
 ·show(st.store.set k _)[k']? =_
  by_cases e:k'=k
  ·subst e
   rw[if_pos rfl,List.getElem?_set_self (List.getElem?_eq_some_iff.1 hk).1]
  ·rw[if_neg e,List.getElem?_set_ne (Ne.symm e)];exact h.tab.decl n' k' hn'
 ·by_cases e:k'=k
  ·subst e
   have:=h.inj n n' k' hg hn'
   subst this
   exact⟨d0,s,b,hd,by rw[if_pos rfl],hS⟩
  ·rw[if_neg e];exact h.ok n' k' hn'
theorem aI_3(p:Prog)(hf:Fine p)(r m:Nat)(D:List (Str×Nat)):∀(fuel:Nat) (n:Str) (k:Nat) (path:List Str) (wv:V) (Dc:Nat→Decl) (st:St),
  (((declsOf p).map Decl.name).filter (fun x=> !path.contains x)).length≤fuel→path.length+fuel≤64→getM D n=some k→MSt p r m D st Dc→WayAt st wv path→(∀u∈path,Way p u n)→
  Ret (fun v st'=>v= .bool (decide (sz p n≤32))∧MOut p r m D wv n k Dc st st') ((run tb).call 45 [.ptr r 0, .ptr k 0,wv] st):=by
 intro fuel
 induction fuel using Nat.strongRecOn with
 |_ fuel ih=>
  intro n k path wv Dc st hfu hpl hg hM hW hP
  obtain⟨d0,s,b,hd,hDk,hS⟩:=hM.ok n k hg
  have hbk:=hM.tab.decl n k hg
  rw[hDk]at hbk
  have hbk0:=hbk
  unfold Decl.cs at hbk
  simp only at hbk
  by_cases hs0:s=0
  ·have hb0:b=false:=by
    rcases hS with⟨-,h1⟩|⟨-,h1, -⟩|⟨-,h1, -⟩
    ·exact h1
    ·have:=aK_9 p n;omega
    ·omega
   subst hs0 hb0
   have hnm:=E_1 hd
   have hC:=wcontains hW (by omega) n
   by_cases hc:(path.any fun x=>n==x)=true
   ·rw[hc]at hC
    have hin:n∈path:=by
     obtain⟨x,hx,he⟩:=List.any_eq_true.1 hc
     rw[eq_of_beq he];exact hx
    have h33:=aN_9 (hP n hin)
    have hfin:MOut p r m D wv n k Dc st st:=⟨Dc,hM,fun h=>by omega,⟨rfl,rfl,Nat.le_refl _,fun _ _ h _ _=>h⟩,fun _ _=>rfl⟩
    rw[h33]
    rw[run45 (by simp)]
    simp[-List.getD_eq_getElem?_getD, -getElem?_pos,hbk,hnm,hC]
    exact Ret.one ⟨rfl,hfin⟩
   ·have hc:(path.any fun x=>n==x)=false:=Bool.eq_false_iff.2 hc
    rw[hc]at hC
    have hok:=M_8 hf.right (g_2 hd)
    rw[run45 (by simp)]
    simp[-List.getD_eq_getElem?_getD, -getElem?_pos,hbk,hnm,hC]
    have hMK:MK p r m D wv Dc st st:=⟨Dc,hM,⟨rfl,rfl,Nat.le_refl _,fun _ _ h _ _=>h⟩,fun _ _=>rfl⟩
    refine Ret.loop (b_3 e45_23 w45_23 d0.parts.length
     (I:=fun i f st'=>f 38= .int .i64 (i:Nat)∧f 7= .int .i64 ((pt (!d0.enum) ((d0.parts.take i).map (sv p)):Nat):Int)∧f 8= .bool (d0.hook||(d0.parts.take i).any fun v=>need p v.type)∧(∀v∈d0.parts.take i,v.type≠[]→val (sz p) v.type≤32)∧MK p r m D wv Dc st st')
     (Q:=fun e f st'=>(e= .exit 1∧f 7= .int .i64 ((pt (!d0.enum) (d0.parts.map (sv p)):Nat):Int)∧f 8= .bool (d0.hook||d0.parts.any fun v=>need p v.type)∧(∀v∈d0.parts,v.type≠[]→val (sz p) v.type≤32)∧MK p r m D wv Dc st st')∨(e= .ret∧f 6= .bool false∧sz p n=33∧MK p r m D wv Dc st st')) ?_ ?_ ?_) ?_
    ·refine⟨by simp,?_,by simp,by simp,hMK⟩
     cases d0.enum<;>simp[pt]
    ·rintro i f st1 hi hk ⟨h38,h7,h8,hle,Dc1,hM1,hK1,hO1⟩
     have hx:d0.parts[i]? =some d0.parts[i]:=List.getElem?_eq_getElem hi
     have hym:=List.getElem_mem hi
     have htk:=List.take_succ_eq_append_getElem hi
     have ha:=add1 (i:=i) (by omega)
     have g0:f 0= .ptr r 0:=by simp[hk]
     have g1:f 1= .ptr k 0:=by simp[hk]
     have g2:f 2=wv:=by simp[hk]
     have g36:f 36= .list false d0.nl (d0.parts.map Var.v):=by simp[hk]
     have g37:f 37= .int .i64 (d0.parts.length:Nat):=by simp[hk]
     clear hk
     rw[htk,List.map_append,List.map_singleton,bp_4,List.any_append]
     generalize d0.parts[i]=y at *
     have htl:y.type.length<2^40:=by
      have h1:=E_9 hym
      rw[D_3]at h1
      have h2:=H_7 hf.size (g_2 hd)
      omega
     have hall:(y.type≠[]→val (sz p) y.type≤32)→∀v,v∈d0.parts.take i∨v=y→¬v.type=[]→val (sz p) v.type≤32:=by
      rintro h v (hv|rfl) hne
      ·exact hle v hv hne
      ·exact h hne
     have hKi:=P_3 y.type htl
     have j1:=hM1.base
     have j2:=hM1.prot
     obtain⟨sa,hsa⟩:∃sa,sa=newBox st1 y.ks2:=⟨_,rfl⟩
     have hset:∀zs:List V,setO (newBox st1 zs) st1.store.length (.box y.ks2)=sa:=fun zs=>by rw[hsa];exact g_0
     have hga:∀(i:Nat) (o:O),st1.store[i]? =some o→sa.store[i]? =some o:=fun i o h=>by rw[hsa];exact a_3 h
     have hbox:sa.store[st1.store.length]? =some (.box y.ks2):=by rw[hsa];exact b_4
     have hMa:MSt p r m D sa Dc1:=hM1.to (by rw[hsa];exact j1) (by rw[hsa];exact j2) fun i o h _=>hga i o h
     have hKa:Keep D wv st sa:=by rw[hsa];exact hK1.box _
     have hWa:=hKa.way hM hW
     have hlen:st1.store.length<sa.store.length:=(List.getElem?_eq_some_iff.1 hbox).1
     have hbD:∀n,getM D n≠some st1.store.length:=fun n' hn'=>by
      have:=(List.getElem?_eq_some_iff.1 (hM1.tab.decl n' _ hn')).1
      omega
     clear hsa
     unfold Var.ks2 at hset hbox
     by_cases k2:kindOf y.type=2
     ·have hne:y.type≠[]:=fun e=>by rw[e,I_9]at k2;cases k2
      have hnp:path.contains n=false:=by
       cases h5:path.contains n with
       |false=>rfl
       |true=>
        have:(path.any fun x=>n==x)=true:=List.any_eq_true.2 ⟨n,by simpa using h5,by simp⟩
        rw[hc]at this;cases this
      have hnd:n∈(declsOf p).map Decl.name:=List.mem_map.2 ⟨d0,g_2 hd,hnm⟩
      have hlt:(((declsOf p).map Decl.name).filter (fun x=> !(path ++[n]).contains x)).length<(((declsOf p).map Decl.name).filter (fun x=> !path.contains x)).length:=
       V_2 (t:=n) _ (fun x hx=>by simp at hx⊢;exact hx.1) hnd (by rw[hnp];rfl) (by simp)
      have hkn:=hf.known d0 (g_2 hd) y hym hne
      obtain⟨d1,hd1⟩:=X_6 hkn k2
      obtain⟨k',hg'⟩:=hMa.dom _ _ hd1
      obtain⟨w',s2,hap,hW2,⟨rw',hrw,hrl⟩,b2,p2,l2,hget2⟩:=bu_9 hWa hMa.base hMa.prot (by omega) n
      have hM2:MSt p r m D s2 Dc1:=hMa.to b2 p2 fun i o h hw=>hget2 i o h fun hc=>by rw[hw]at hc;cases hc
      have hps2:setProt s2 []=s2:=o_9 p2
      obtain⟨rv,s3,hcall,rfl,Dc3,hM3,hsz3,hK3,hO3⟩:=ih (fuel-1) (by omega) y.type k' (path ++[n]) w' Dc1 s2 (by omega) (by rw[List.length_append];simp;omega) hg' hM2 hW2 (by
       intro u hu
       rcases List.mem_append.1 hu with hu|hu
       ·exact aL_6 (hP u hu) ⟨at_3 hd hym hne,k2⟩
       ·rw[List.mem_singleton.1 hu];exact .one ⟨at_3 hd hym hne,k2⟩)
      have hK13:Keep D wv st s3:=hKa.ofNew (b2.trans hMa.base.symm) (p2.trans hMa.prot.symm) l2 hget2 hrw hrl hK3
      have hO13:Mono Dc Dc3:=fun x hx=>(hO3 x (by rw[hO1 x hx];exact hx)).trans (hO1 x hx)
      have hbox3:=hK3.get _ _ (hget2 _ _ hbox fun hc=>by cases hc) hbD fun hc=>by cases hc
      obtain⟨l1,l2',l3,hr1⟩:=hMa.tab.box
      have hr2:=hMa.tab.ents
      have hap2:=hap [m,st1.store.length,r] (by simp[hr2,hbox,hr1,isWay])
      have pa:=hMa.prot
      have ba:=hMa.base
      have p3:=hM3.prot
      have b3:=hM3.base
      have hlk:=X_0 D y.type
      rw[hg']at hlk
      have hbka:=hMa.tab.decl n k hg
      obtain⟨dd,ss,bb,hdd,hDk1, -⟩:=hM1.ok n k hg
      rw[hd]at hdd;cases hdd
      rw[hDk1]at hbka
      unfold Decl.cs at hbka
      simp only at hbka
      rw[hnm]at hbka
      by_cases h32:sz p y.type≤32
      ·have hdec:decide (sz p y.type≤32)=true:=by simpa using h32
       rw[hdec]at hcall
       have hsd:kindOf y.type=2→∃k,getM D y.type=some k∧(Dc3 k).slots=(sz p y.type:Nat)∧(Dc3 k).drops=need p y.type:=fun _=>⟨k',hg',hsz3 h32⟩
       have hyv:y.type≠[]→val (sz p) y.type≤32:=fun _=>by unfold val;rw[if_pos k2];exact h32
       have hsp:=an_1 hf hM3 (g_2 hd) hym hsd
       have hsl:=E_4 r m D Dc3 y.type htl s3 hM3.tab
       have hdr:=G_3 r m D Dc3 y.type htl s3 hM3.tab
       rw[hsp.1]at hsl
       rw[hsp.2]at hdr
       have hMK3:MK p r m D wv Dc st s3:=⟨Dc3,hM3,hK13,hO13⟩
       have hbk3:=hM3.tab.decl n k hg
       obtain⟨dd3,ss3,bb3,hdd3,hDk3, -⟩:=hM3.ok n k hg
       rw[hd]at hdd3;cases hdd3
       rw[hDk3]at hbk3
       unfold Decl.cs at hbk3
       simp only at hbk3
       have hfin:=hall hyv
       have hT:=bh_3 (!d0.enum) ((d0.parts.take i).map (sv p)) (by
        intro x hx
        obtain⟨v,hv,rfl⟩:=List.mem_map.1 hx
        unfold sv
        split
        ·omega
        ·rename_i hne;exact hle v hv hne)
       have hVb:sv p y≤32:=by
        unfold sv
        split
        ·omega
        ·rename_i hne;exact hyv hne
       have htl2:((d0.parts.take i).map (sv p)).length≤16:=by have:=hok.2.1;simp;omega
       rw[List.map_take]at h7 hT htl2⊢
       generalize pt (!d0.enum) ((d0.parts.map (sv p)).take i)=T at *
       generalize sv p y=Vy at *
       obtain⟨c,hcc,hadd⟩:=addN T Vy (by omega)
       simp only[List.any_cons,List.any_nil,Bool.or_false]
       rw[←Bool.or_assoc]
       generalize hc8:(d0.hook||(d0.parts.take i).any fun v=>need p v.type)=c8 at *
       generalize need p y.type=ny at *
       cases he:d0.enum with
       |true=>
        rw[he]at hbk3
        have hmx:(if T<Vy then(Vy:Int)else(T:Int))=((max T Vy:Nat):Int):=by split<;>omega
        cases c8 with
        |true=>
         simp[-List.getD_eq_getElem?_getD, -getElem?_pos,g0,g1,g2,g36,g37,h38,h7,h8,hx,hi,ha,j1,j2,hset,hbox,hKi,hbox3,k2,hr1,hr2,hlk,ptrV,hbka,hap2,pa,p2,hps2,hcall,p3,hsl,hbk3,hmx,he,Var.v,Nat.testBit]
         repeat' (first|refine a_0 ?_ ?_|refine Out.branch ?_ ?_|refine Ret.branch ?_ ?_)<;>(intro hb;(try(simp only[NB]at hb));simp[-List.getD_eq_getElem?_getD, -getElem?_pos,g0,g1,g2,g36,g37,h38,h7,h8,hx,hi,ha,j1,j2,hset,hbox,hKi,hbox3,k2,hr1,hr2,hlk,ptrV,hbka,hap2,pa,ba,p2,b2,hps2,hcall,p3,b3,hsl,hdr,hbk3,hmx,he,Var.v,Nat.testBit,hb])
         all_goals try refine Out.one ?_
         all_goals try refine Ret.one ?_
         all_goals try(simp[-List.getD_eq_getElem?_getD, *];done)
         all_goals try simp[-List.getD_eq_getElem?_getD]
         all_goals try(intros;omega)
         exact⟨hfin,hMK3⟩
        |false=>
         simp[-List.getD_eq_getElem?_getD, -getElem?_pos,g0,g1,g2,g36,g37,h38,h7,h8,hx,hi,ha,j1,j2,hset,hbox,hKi,hbox3,k2,hr1,hr2,hlk,ptrV,hbka,hap2,pa,p2,hps2,hcall,p3,hsl,hdr,hbk3,hmx,he,Var.v,Nat.testBit]
         repeat' (first|refine a_0 ?_ ?_|refine Out.branch ?_ ?_|refine Ret.branch ?_ ?_)<;>(intro hb;(try(simp only[NB]at hb));simp[-List.getD_eq_getElem?_getD, -getElem?_pos,g0,g1,g2,g36,g37,h38,h7,h8,hx,hi,ha,j1,j2,hset,hbox,hKi,hbox3,k2,hr1,hr2,hlk,ptrV,hbka,hap2,pa,ba,p2,b2,hps2,hcall,p3,b3,hsl,hdr,hbk3,hmx,he,Var.v,Nat.testBit,hb])
         all_goals try refine Out.one ?_
         all_goals try refine Ret.one ?_
         all_goals try(simp[-List.getD_eq_getElem?_getD, *];done)
         all_goals try simp[-List.getD_eq_getElem?_getD]
         all_goals try(intros;omega)
         exact⟨hfin,hMK3⟩
       |false=>
        rw[he]at hbk3
        rw[hcc]at hadd
        cases c8 with
        |true=>
         simp[-List.getD_eq_getElem?_getD, -getElem?_pos,g0,g1,g2,g36,g37,h38,h7,h8,hx,hi,ha,j1,j2,hset,hbox,hKi,hbox3,k2,hr1,hr2,hlk,ptrV,hbka,hap2,pa,p2,hps2,hcall,p3,hsl,hbk3,hadd,he,Var.v,Nat.testBit]
         repeat' (first|refine a_0 ?_ ?_|refine Out.branch ?_ ?_|refine Ret.branch ?_ ?_)<;>(intro hb;(try(simp only[NB]at hb));simp[-List.getD_eq_getElem?_getD, -getElem?_pos,g0,g1,g2,g36,g37,h38,h7,h8,hx,hi,ha,j1,j2,hset,hbox,hKi,hbox3,k2,hr1,hr2,hlk,ptrV,hbka,hap2,pa,ba,p2,b2,hps2,hcall,p3,b3,hsl,hdr,hbk3,hadd,he,Var.v,Nat.testBit,hb])
         all_goals try refine Out.one ?_
         all_goals try refine Ret.one ?_
         all_goals try(simp[-List.getD_eq_getElem?_getD, *];done)
         all_goals try simp[-List.getD_eq_getElem?_getD]
         all_goals try(intros;omega)
         exact⟨hfin,hMK3⟩
        |false=>
         simp[-List.getD_eq_getElem?_getD, -getElem?_pos,g0,g1,g2,g36,g37,h38,h7,h8,hx,hi,ha,j1,j2,hset,hbox,hKi,hbox3,k2,hr1,hr2,hlk,ptrV,hbka,hap2,pa,p2,hps2,hcall,p3,hsl,hdr,hbk3,hadd,he,Var.v,Nat.testBit]
         repeat' (first|refine a_0 ?_ ?_|refine Out.branch ?_ ?_|refine Ret.branch ?_ ?_)<;>(intro hb;(try(simp only[NB]at hb));simp[-List.getD_eq_getElem?_getD, -getElem?_pos,g0,g1,g2,g36,g37,h38,h7,h8,hx,hi,ha,j1,j2,hset,hbox,hKi,hbox3,k2,hr1,hr2,hlk,ptrV,hbka,hap2,pa,ba,p2,b2,hps2,hcall,p3,b3,hsl,hdr,hbk3,hadd,he,Var.v,Nat.testBit,hb])
         all_goals try refine Out.one ?_
         all_goals try refine Ret.one ?_
         all_goals try(simp[-List.getD_eq_getElem?_getD, *];done)
         all_goals try simp[-List.getD_eq_getElem?_getD]
         all_goals try(intros;omega)
         exact⟨hfin,hMK3⟩
      ·have hbig:sz p n=33:=bx_8 hd hym hne (by unfold val;rw[if_pos k2];omega)
       have hMK3:MK p r m D wv Dc st s3:=⟨Dc3,hM3,hK13,hO13⟩
       have hdec:decide (sz p y.type≤32)=false:=by simpa using h32
       rw[hdec]at hcall
       simp[-List.getD_eq_getElem?_getD, -getElem?_pos,g0,g1,g2,g36,g37,h38,hx,hi,j1,j2,hset,hbox,hKi,k2,hr1,hr2,hlk,ptrV,hbka,hap2,pa,p2,hps2,hcall,p3,Var.v,Nat.testBit]
       refine Out.one ?_
       simp[*]
     ·have k2':(kindOf y.type==2)=false:=by simpa using k2
      have hsd:kindOf y.type=2→∃k,getM D y.type=some k∧(Dc1 k).slots=(sz p y.type:Nat)∧(Dc1 k).drops=need p y.type:=fun h=>absurd h k2
      have hyv:y.type≠[]→val (sz p) y.type≤32:=fun _=>by unfold val;rw[if_neg k2];omega
      have hbox3:=hbox
      have hO13:=hO1
      have hM3:=hMa
      have hK13:=hKa
      have pa:=hMa.prot
      have ba:=hMa.base
      have hsp:=an_1 hf hM3 (g_2 hd) hym hsd
      have hsl:=E_4 r m D Dc1 y.type htl sa hM3.tab
      have hdr:=G_3 r m D Dc1 y.type htl sa hM3.tab
      rw[hsp.1]at hsl
      rw[hsp.2]at hdr
      have hMK3:MK p r m D wv Dc st sa:=⟨Dc1,hM3,hK13,hO13⟩
      have hbk3:=hM3.tab.decl n k hg
      obtain⟨ddd,ssa,bb3,hddd,hDk3, -⟩:=hM3.ok n k hg
      rw[hd]at hddd;cases hddd
      rw[hDk3]at hbk3
      unfold Decl.cs at hbk3
      simp only at hbk3
      have hfin:=hall hyv
      have hT:=bh_3 (!d0.enum) ((d0.parts.take i).map (sv p)) (by
       intro x hx
       obtain⟨v,hv,rfl⟩:=List.mem_map.1 hx
       unfold sv
       split
       ·omega
       ·rename_i hne;exact hle v hv hne)
      have hVb:sv p y≤32:=by
       unfold sv
       split
       ·omega
       ·rename_i hne;exact hyv hne
      have htl2:((d0.parts.take i).map (sv p)).length≤16:=by have:=hok.2.1;simp;omega
      rw[List.map_take]at h7 hT htl2⊢
      generalize pt (!d0.enum) ((d0.parts.map (sv p)).take i)=T at *
      generalize sv p y=Vy at *
      obtain⟨c,hcc,hadd⟩:=addN T Vy (by omega)
      simp only[List.any_cons,List.any_nil,Bool.or_false]
      rw[←Bool.or_assoc]
      generalize hc8:(d0.hook||(d0.parts.take i).any fun v=>need p v.type)=c8 at *
      generalize need p y.type=ny at *
      cases he:d0.enum with
      |true=>
       rw[he]at hbk3
       have hmx:(if T<Vy then(Vy:Int)else(T:Int))=((max T Vy:Nat):Int):=by split<;>omega
       cases c8 with
       |true=>
        simp[-List.getD_eq_getElem?_getD, -getElem?_pos,g0,g1,g36,g37,h38,h7,h8,hx,hi,ha,j1,j2,hset,hbox,hKi,k2',pa,hsl,hbk3,hmx,Var.v,Nat.testBit]
        repeat' (first|refine a_0 ?_ ?_|refine Out.branch ?_ ?_|refine Ret.branch ?_ ?_)<;>(intro hb;(try(simp only[NB]at hb));simp[-List.getD_eq_getElem?_getD, -getElem?_pos,g0,g1,g2,g36,g37,h38,h7,h8,hx,hi,ha,j1,j2,hset,hbox,hKi,hbox3,k2,k2',pa,ba,hsl,hdr,hbk3,hmx,he,Var.v,Nat.testBit,hb])
        all_goals try refine Out.one ?_
        all_goals try refine Ret.one ?_
        all_goals try(simp[-List.getD_eq_getElem?_getD, *];done)
        all_goals try simp[-List.getD_eq_getElem?_getD]
        all_goals try(intros;omega)
        exact⟨hfin,hMK3⟩
       |false=>
        simp[-List.getD_eq_getElem?_getD, -getElem?_pos,g0,g1,g36,g37,h38,h7,h8,hx,hi,ha,j1,j2,hset,hbox,hKi,k2',pa,hsl,hdr,hbk3,hmx,Var.v,Nat.testBit]
        repeat' (first|refine a_0 ?_ ?_|refine Out.branch ?_ ?_|refine Ret.branch ?_ ?_)<;>(intro hb;(try(simp only[NB]at hb));simp[-List.getD_eq_getElem?_getD, -getElem?_pos,g0,g1,g2,g36,g37,h38,h7,h8,hx,hi,ha,j1,j2,hset,hbox,hKi,hbox3,k2,k2',pa,ba,hsl,hdr,hbk3,hmx,he,Var.v,Nat.testBit,hb])
        all_goals try refine Out.one ?_
        all_goals try refine Ret.one ?_
        all_goals try(simp[-List.getD_eq_getElem?_getD, *];done)
        all_goals try simp[-List.getD_eq_getElem?_getD]
        all_goals try(intros;omega)
        exact⟨hfin,hMK3⟩
      |false=>
       rw[he]at hbk3
       rw[hcc]at hadd
       cases c8 with
       |true=>
        simp[-List.getD_eq_getElem?_getD, -getElem?_pos,g0,g1,g36,g37,h38,h7,h8,hx,hi,ha,j1,j2,hset,hbox,hKi,k2',pa,hsl,hbk3,hadd,Var.v,Nat.testBit]
        repeat' (first|refine a_0 ?_ ?_|refine Out.branch ?_ ?_|refine Ret.branch ?_ ?_)<;>(intro hb;(try(simp only[NB]at hb));simp[-List.getD_eq_getElem?_getD, -getElem?_pos,g0,g1,g2,g36,g37,h38,h7,h8,hx,hi,ha,j1,j2,hset,hbox,hKi,hbox3,k2,k2',pa,ba,hsl,hdr,hbk3,hadd,he,Var.v,Nat.testBit,hb])
        all_goals try refine Out.one ?_
        all_goals try refine Ret.one ?_
        all_goals try(simp[-List.getD_eq_getElem?_getD, *];done)
        all_goals try simp[-List.getD_eq_getElem?_getD]
        all_goals try(intros;omega)
        exact⟨hfin,hMK3⟩
       |false=>
        simp[-List.getD_eq_getElem?_getD, -getElem?_pos,g0,g1,g36,g37,h38,h7,h8,hx,hi,ha,j1,j2,hset,hbox,hKi,k2',pa,hsl,hdr,hbk3,hadd,Var.v,Nat.testBit]
        repeat' (first|refine a_0 ?_ ?_|refine Out.branch ?_ ?_|refine Ret.branch ?_ ?_)<;>(intro hb;(try(simp only[NB]at hb));simp[-List.getD_eq_getElem?_getD, -getElem?_pos,g0,g1,g2,g36,g37,h38,h7,h8,hx,hi,ha,j1,j2,hset,hbox,hKi,hbox3,k2,k2',pa,ba,hsl,hdr,hbk3,hadd,he,Var.v,Nat.testBit,hb])
        all_goals try refine Out.one ?_
        all_goals try refine Ret.one ?_
        all_goals try(simp[-List.getD_eq_getElem?_getD, *];done)
        all_goals try simp[-List.getD_eq_getElem?_getD]
        all_goals try(intros;omega)
        exact⟨hfin,hMK3⟩
    ·rintro f st1 hk ⟨h38,h7,h8,hle,hMK⟩
     have g37:f 37= .int .i64 (d0.parts.length:Nat):=by simp[hk]
     clear hk
     rw[List.take_length]at h7 h8 hle
     simp[-List.getD_eq_getElem?_getD, -getElem?_pos,g37,h38]
     repeat' (first|refine a_0 ?_ ?_|refine Out.branch ?_ ?_|refine Ret.branch ?_ ?_)<;>(intro hb;(try(simp only[NB]at hb));simp[-List.getD_eq_getElem?_getD, -getElem?_pos,g37,h38,h7,h8,hb])
     all_goals try refine Out.one ?_
     all_goals try refine Ret.one ?_
     all_goals try(simp[-List.getD_eq_getElem?_getD, *];done)
     all_goals try simp[-List.getD_eq_getElem?_getD,h7,h8]
     all_goals try(intros;omega)
     exact⟨hle,hMK⟩
    ·rintro e f st1 ⟨⟨rfl,h7,h8,hle,Dc1,hM1,hK1,hO1⟩|⟨rfl,h6,h33,Dc1,hM1,hK1,hO1⟩,hk⟩
     ·obtain⟨d1,s1,b1,hd1,hDk1, -⟩:=hM1.ok n k hg
      rw[hd]at hd1;cases hd1
      have hbk1:=hM1.tab.decl n k hg
      rw[hDk1]at hbk1
      unfold Decl.cs at hbk1
      simp only at hbk1
      have g1:f 1= .ptr k 0:=by simp[hk]
      clear hk
      have hsm:=bn_4 hf.right hd hle
      have hnd:=ax_0 hd (by have:=af_1 hok.1;rwa [hnm]at this)
      rw[az_1 hf.right]at hnd
      rw[←hnd]at h8
      have hpl2:=bh_3 (!d0.enum) (d0.parts.map (sv p)) (by
       intro x hx
       obtain⟨v,hv,rfl⟩:=List.mem_map.1 hx
       unfold sv
       split
       ·omega
       ·rename_i hne;exact hle v hv hne)
      rw[List.length_map]at hpl2
      have hlp:=hok.2.1
      generalize pt (!d0.enum) (d0.parts.map (sv p))=tot at *
      have j1:=hM1.base
      have j2:=hM1.prot
      have hkl:=(List.getElem?_eq_some_iff.1 hbk1).1
      have hss:∀cs cs':List V,setO (setO st1 k (.box cs)) k (.box cs')=setO st1 k (.box cs'):=fun cs cs'=>by simp[setO]
      have hgs:∀cs:List V,(st1.store.set k (.box cs))[k]? =some (.box cs):=fun cs=>List.getElem?_set_self hkl
      have hat:=add1 (i:=tot) (by omega)
      have hfin:∀S:Nat,S≤2000→S=max (if d0.enum=true then tot+1 else tot) 1→MOut p r m D wv n k Dc st (setO st1 k (.box [.str d0.name, .int .i64 d0.at_, .bool d0.enum, .bool d0.hook, .list false d0.nl (d0.parts.map Var.v), .int .i64 (S:Nat), .bool (need p n)]))∧decide ((S:Int)≤32)=decide (sz p n≤32):=by
       intro S hS1 hS2
       have hsz:sz p n=min S 33:=by rw[hsm,hS2]
       have hmeas:Meas p n (S:Nat) (need p n):=by
        by_cases h32:S≤32
        ·exact .inr (.inl ⟨by omega,by omega,rfl⟩)
        ·exact .inr (.inr ⟨by omega,by omega,by omega⟩)
       refine⟨⟨_,hM1.put hg hd hmeas,fun h=> ?_,hK1.put hg _,fun x hx=> ?_⟩,?_⟩
       ·rw[if_pos rfl];exact⟨by show((S:Nat):Int)=_;omega,rfl⟩
       ·have hxk:x≠k:=by intro e;rw[e,hDk]at hx;exact hx rfl
        show(if x=k then _ else Dc1 x)=_
        rw[if_neg hxk];exact hO1 x hx
       ·rw[decide_eq_decide];omega
      cases he:d0.enum with
      |true=>
       rw[he]at hfin hbk1
       simp only[if_true]at hfin
       obtain⟨hf1,hf2⟩:=hfin (tot+1) (by omega) (by omega)
       have hmx:¬((tot:Int)+1<1):=by omega
       rw[←hf2]
       have hcast:((tot+1:Nat):Int)=(tot:Int)+1:=by omega
       rw[hcast]at hf1⊢
       simp[-List.getD_eq_getElem?_getD, -getElem?_pos,g1,hbk1,h7,h8,hat,j1,j2,hss,hgs,hmx]
       exact Ret.one ⟨rfl,hf1⟩
      |false=>
       rw[he]at hfin hbk1
       simp only[Bool.false_eq_true,if_false]at hfin
       by_cases h0:tot=0
       ·subst h0
        obtain⟨hf1,hf2⟩:=hfin 1 (by omega) (by omega)
        rw[←hf2]
        simp[-List.getD_eq_getElem?_getD, -getElem?_pos,g1,hbk1,h7,h8,j1,j2,hss,hgs]
        exact Ret.one ⟨rfl,hf1⟩
       ·obtain⟨hf1,hf2⟩:=hfin tot (by omega) (by omega)
        have hmx:¬((tot:Int)<1):=by omega
        rw[←hf2]
        simp[-List.getD_eq_getElem?_getD, -getElem?_pos,g1,hbk1,h7,h8,j1,j2,hss,hgs,hmx]
        exact Ret.one ⟨rfl,hf1⟩
     ·have hfin:MOut p r m D wv n k Dc st st1:=⟨Dc1,hM1,fun h=>by omega,hK1,hO1⟩
      rw[h33]
      simp[-List.getD_eq_getElem?_getD, -getElem?_pos,h6]
      exact Ret.one ⟨rfl,hfin⟩
  ·have hpos:0<s:=by
    have:=aK_9 p n
    rcases hS with⟨h1, -⟩|⟨-,h1, -⟩|⟨-,h1, -⟩<;>omega
   have hle:decide (s≤32)=decide (sz p n≤32):=by
    rw[decide_eq_decide]
    rcases hS with⟨h1, -⟩|⟨h2,h1, -⟩|⟨h2,h1, -⟩<;>omega
   have hfin:MOut p r m D wv n k Dc st st:=by
    refine⟨Dc,hM,fun h=> ?_,⟨rfl,rfl,Nat.le_refl _,fun _ _ h _ _=>h⟩,fun _ _=>rfl⟩
    rw[hDk]
    rcases hS with⟨h1, -⟩|⟨h2,h1,h3⟩|⟨h2,h1, -⟩
    ·omega
    ·exact⟨h1,h3⟩
    ·omega
   rw[run45 (by simp)]
   simp[-List.getD_eq_getElem?_getD, -getElem?_pos,hbk,hpos,hle]
   exact Ret.one ⟨rfl,hfin⟩
end Go.Proofs.YtghhphdkojjalaaGreatDoor
namespace Go.Proofs.YtghhphdkojjalaaGreatDoor
open Go.Abs
set_option maxRecDepth 100000
set_option linter.unusedSimpArgs false
set_option linter.unusedVariables false
set_option maxHeartbeats 4000000
section
variable {T:Tab} {α:Type}
noncomputable def rangeK(T:Tab)(v:V)(n:Nat)(f:Nat→V)(m:List Nat)(ps:Array Tmp)(a b:Code)(st:St)(K:E→Fr→St→Option α):Option α:=match rangeB T v n f m ps a b st with
 |none=>none
 |some (e,fr,st)=>K e fr st
variable {v:V} {n:Nat} {f:Nat→V} {m:List Nat} {ps:Array Tmp} {a b:Code} {st:St} {K:E→Fr→St→Option (E×Fr×St)}
theorem bg_2:rangeB T v n f m ps a b st=rangeK T v n f m ps a b st fun e fr st=>some (e,fr,st):=by
 unfold rangeK;cases rangeB T v n f m ps a b st with
 |none=>rfl
 |some x=>rfl
theorem af_7{k2:Fr→St→Option (E×Fr×St)}:andThen (rangeK T v n f m ps a b st K) k2=rangeK T v n f m ps a b st fun e fr st=>andThen (K e fr st) k2:=by
 unfold rangeK;cases rangeB T v n f m ps a b st<;>rfl
theorem ab_0{id:Nat}:closeB id (rangeK T v n f m ps a b st K)=rangeK T v n f m ps a b st fun e fr st=>closeB id (K e fr st):=by
 unfold rangeK;cases rangeB T v n f m ps a b st<;>rfl
theorem aa_4{rs:List ResultVar}:leave T rs (rangeK T v n f m ps a b st K)=rangeK T v n f m ps a b st fun e fr st=>leave T rs (K e fr st):=by
 unfold rangeK;cases rangeB T v n f m ps a b st<;>rfl
theorem aA_7{K:E→Fr→St→Option (V×St)}{P:V→St→Prop}{Q:St→Prop}(h:∃s',rangeB T v n f m ps a b st=some (.normal,mk n f (st.store.length::m),s')∧Q s')(hk:∀s',Q s'→Ret P (K .normal (mk n f (st.store.length::m)) s')):Ret P (rangeK T v n f m ps a b st K):=by
 obtain⟨s',h1,h2⟩:=h
 unfold rangeK
 rw[h1]
 exact hk s' h2
end
theorem tbext(g:FuncId):g≠198→tb.ext g=none:=by
 intro h
 rw[a_]
 show(if g=198 then some Ext.indexByteString else .none)=none
 rw[if_neg h]
def fillD(ds:List Decl)(al:List Nat):List (Str×Nat):=(ds.zip al).foldr (fun x D=>putM D x.1.name x.2) []
theorem aT_4{ds:List Decl}{al:List Nat}{i k:Nat}{d:Decl}(h1:ds[i]? =some d)(h2:al[i]? =some k):fillD (ds.drop i) (al.drop i)=putM (fillD (ds.drop (i+1)) (al.drop (i+1))) d.name k:=by
 have e1:=List.drop_eq_getElem_cons (List.getElem?_eq_some_iff.1 h1).1
 have e2:=List.drop_eq_getElem_cons (List.getElem?_eq_some_iff.1 h2).1
 rw[(List.getElem?_eq_some_iff.1 h1).2]at e1
 rw[(List.getElem?_eq_some_iff.1 h2).2]at e2
 rw[e1,e2];rfl
structure Filled(s s':St)(m:Nat)(D:List (Str×Nat)):Prop where
 base:s'.base=s.base
 prot:s'.prot=s.prot
 len:s.store.length≤s'.store.length
 get:∀i,i<s.store.length→i≠m→s'.store[i]? =s.store[i]?
 map:s'.store[m]? =some (ptrs D)
 defs:s'.store[s.store.length]? =some .defs
theorem aP_3(F:Nat→V)(s:St)(kb r m b5:Nat)(l1 l2 l3 lv:V)(al:List Nat)(ds:List Decl)(hb:s.base=0)(hp:s.prot=[])(h5:F 5= .ptr b5 0)(hb5:s.store[b5]? =some (.box [.ptr r 0]))(hr:s.store[r]? =some (.box [l1,l2,l3, .map m]))(hm:s.store[m]? =some (ptrs []))
  (hkb:s.store[kb]? =some (.box [lv])) (hA:AccT 1 s lv (al.map fun k=> .ptr k 0)) (hlen:al.length=ds.length) (hat:∀(i k:Nat) (d:Decl),al[i]? =some k→ds[i]? =some d→s.store[k]? =some (.box d.cs)) (hl:al.length<2^30):
  ∃s',rangeB tb (.func (.func 88) [] [.ptr kb 0]) 66 F [] #[25,26] (.region 6 o11_19 false) c11_20 s=some (.normal,mk 66 F (s.store.length::[]),s')∧Filled s s' m (fillD ds al):=by
 obtain⟨lp,hlp⟩:∃lp,lp=fillLp F s.store.length:=⟨_,rfl⟩
 have hml:=(List.getElem?_eq_some_iff.1 hm).1
 have hse:∀(i:Nat) (o:O),s.store[i]? =some o→(enterSt s lp).store[i]? =some o:=fun i o h=>a_3 h
 have hmse:=hse m _ hm
 have hK0:setO (enterSt s lp) m (ptrs (fillD (ds.drop al.length) (al.drop al.length)))=enterSt s lp:=by
  have:fillD (ds.drop al.length) (al.drop al.length)=[]:=by simp[fillD]
  rw[this]
  unfold setO
  rw[bo_0 hmse]
 have hloop:(enterSt s lp).store[s.store.length+1]? =some (.loop lp):=by
  show(s.store ++[O.defs,O.loop lp])[s.store.length+1]? =_
  exact aq_3
 have hdefs:(enterSt s lp).store[s.store.length]? =some .defs:=by
  show(s.store ++[O.defs,O.loop lp])[s.store.length]? =_
  exact ap_7
 have hkeep:∀(D:List (Str×Nat)) (i:Nat) (o:O),i≠m→(enterSt s lp).store[i]? =some o→(setO (enterSt s lp) m (ptrs D)).store[i]? =some o:=fun D i o hi h=>by
  show((enterSt s lp).store.set m _)[i]? =_
  rw[List.getElem?_set_ne (Ne.symm hi)];exact h
 have hbm:∀(i:Nat) (cs:List V),s.store[i]? =some (.box cs)→i≠m:=fun i cs h e=>by subst e;rw[hm]at h;cases h
 have hAk:∀D,Go.Abs.Acc 1 (setO (enterSt s lp) m (ptrs D)) lv (al.map fun k=> .ptr k 0):=fun D=>by
  rcases hA with h|⟨q,h1,h2,h3⟩
  ·exact .inl h
  ·exact .inr ⟨q,true,h2,hkeep D q _ (fun e=>by subst e;rw[hm]at h3;cases h3) (hse q _ h3)⟩
 obtain⟨rv,s2,hcall,hK⟩:=bm_1 (s.store.length+1) kb lv al (fun i st=>st=setO (enterSt s lp) m (ptrs (fillD (ds.drop i) (al.drop i)))) hl
  (by
   rintro i st rfl
   exact⟨hkeep _ _ _ (hbm _ _ hkb) (hse _ _ hkb),hAk _⟩)
  (by
   rintro i k st hx rfl
   have hil:=(List.getElem?_eq_some_iff.1 hx).1
   have hd:ds[i]? =some ds[i]:=List.getElem?_eq_getElem (by omega)
   generalize ds[i]=d at *
   have hk:=hat i k d hx hd
   refine⟨_,aR_0 F s.store.length (s.store.length+1) r m b5 i k l1 l2 l3 (fillD (ds.drop (i+1)) (al.drop (i+1))) d _ hb hp (hkeep _ _ _ (by omega) (by rw[←hlp];exact hloop)) h5 (hkeep _ _ _ (hbm _ _ hb5) (hse _ _ hb5)) (hkeep _ _ _ (hbm _ _ hr) (hse _ _ hr)) ?_ (hkeep _ _ _ (hbm _ _ hk) (hse _ _ hk)),?_⟩
   ·show((enterSt s lp).store.set m _)[m]? =_
    rw[List.getElem?_set_self (List.getElem?_eq_some_iff.1 hmse).1]
   ·rw[aT_4 hd hx]
    unfold setO
    simp only[List.set_set])
  (enterSt s lp) hK0.symm
 simp only[List.drop_zero]at hK
 have hl2:s2.store[s.store.length+1]? =some (.loop lp):=by rw[hK];exact hkeep _ _ _ (by omega) hloop
 refine⟨{s2 with store:=s2.store.set (s.store.length+1) (.loop {lp with state:= .exhausted})},?_,?_⟩
 ·rw[aR_9 (tbext _ (by decide))]
  have e:aj_6 (mk 66 F []).tmps #[25,26] (.region 6 o11_19 false) c11_20 s.store.length=lp:=by rw[hlp];rfl
  rw[e]
  have e2:([] ++[V.func (.yield (s.store.length+1)) [] []] ++[V.ptr kb 0])=[V.func (.yield (s.store.length+1)) [] [],V.ptr kb 0]:=rfl
  rw[e2,hcall]
  exact aw_6 hl2 (by rw[hlp];intro h;cases h) (by rw[hK];simp[St.locked,setO,enterSt,hb,hp]) (by rw[hlp];rfl)
 ·rw[hK]
  have hne:m≠s.store.length+1:=by omega
  refine⟨rfl,rfl,by simp[setO,enterSt],fun i hi hne2=> ?_,?_,?_⟩
  ·show(((enterSt s lp).store.set m _).set (s.store.length+1) _)[i]? =_
   rw[List.getElem?_set_ne (by omega),List.getElem?_set_ne (Ne.symm hne2)]
   show(s.store ++_)[i]? =_
   rw[List.getElem?_append_left hi]
  ·show(((enterSt s lp).store.set m _).set (s.store.length+1) _)[m]? =_
   rw[List.getElem?_set_ne (Ne.symm hne),List.getElem?_set_self (List.getElem?_eq_some_iff.1 hmse).1]
  ·show(((enterSt s lp).store.set m _).set (s.store.length+1) _)[s.store.length]? =_
   rw[List.getElem?_set_ne (by omega),List.getElem?_set_ne (by omega)]
   exact hdefs
end Go.Proofs.YtghhphdkojjalaaGreatDoor
namespace Go.Proofs.YtghhphdkojjalaaGreatDoor
open Go.Abs
set_option maxRecDepth 100000
theorem ar_0(n:Str):∀(ds:List Decl) (al:List Nat),getM (fillD ds al) n=((ds.zip al).find? fun x=>x.1.name==n).map (·.2)
 |[],al=>by simp[fillD,getM]
 |d::ds,[]=>by simp[fillD,getM]
 |d::ds,a::al=>by
  have ih:=ar_0 n ds al
  have e:fillD (d::ds) (a::al)=putM (fillD ds al) d.name a:=rfl
  rw[e,P_7,ih,List.zip_cons_cons,List.find?_cons]
  by_cases h:n=d.name
  ·subst h;simp
  ·have h1:(n==d.name)=false:=by simpa using h
   have h2:(d.name==n)=false:=by simpa using fun e=>h e.symm
   simp[h1,h2]
theorem at_2(n:Str):∀(ds:List Decl) (al:List Nat),al.length=ds.length→((ds.zip al).find? fun x=>x.1.name==n).map (·.1)=ds.find? fun d=>d.name==n
 |[],al,_=>by simp
 |d::ds,[],h=>by simp at h
 |d::ds,a::al,h=>by
  have ih:=at_2 n ds al (by simpa using h)
  rw[List.zip_cons_cons,List.find?_cons,List.find?_cons]
  cases d.name==n with
  |true=>rfl
  |false=>exact ih
theorem L_8{n:Str}{k:Nat}{ds:List Decl}{al:List Nat}(h:getM (fillD ds al) n=some k):∃(i:Nat) (d:Decl),ds[i]? =some d∧al[i]? =some k∧d.name=n∧(al.length=ds.length→(ds.find? fun d=>d.name==n)=some d):=by
 rw[ar_0]at h
 cases hf:(ds.zip al).find? (fun x=>x.1.name==n)with
 |none=>rw[hf]at h;cases h
 |some x=>
  rw[hf]at h
  simp only[Option.map_some,Option.some.injEq]at h
  have hm:=List.mem_of_find?_eq_some hf
  have hn:=List.find?_some hf
  obtain⟨i,hi,he⟩:=List.mem_iff_getElem.1 hm
  rw[List.getElem_zip]at he
  have h1:i<ds.length:=by simp at hi;omega
  have h2:i<al.length:=by simp at hi;omega
  refine⟨i,x.1,?_,?_,by simpa using hn,fun hl=> ?_⟩
  ·rw[List.getElem?_eq_getElem h1];rw[←he]
  ·rw[List.getElem?_eq_getElem h2];rw[←h,←he]
  ·rw[←at_2 n ds al hl,hf];rfl
theorem ap_9{n:Str}{ds:List Decl}{al:List Nat}(hl:al.length=ds.length):(getM (fillD ds al) n).isSome=(ds.find? fun d=>d.name==n).isSome:=by
 rw[ar_0,←at_2 n ds al hl]
 simp
theorem aj_9(p:Prog){al:List Nat}(hl:al.length=(declsOf p).length)(t:Str):knownM (fillD (declsOf p) al) t=known p t:=by
 unfold knownM known
 congr 2
 rw[ap_9 hl]
 show(declOf p _).isSome=_
 rw[v_5]
 cases p.st (baseOf t).1 with
 |some s=>rfl
 |none=>cases p.en (baseOf t).1<;>rfl
def Dc0(ds:List Decl)(al:List Nat)(k:Nat):Decl:=(((al.zip ds).find? fun x=>x.1==k).map (·.2)).getD ⟨[],0,false,false,none,[],0,false⟩
theorem aY_0:∀(ds:List Decl) (al:List Nat) (i k:Nat) (d:Decl),al.Nodup→al[i]? =some k→ds[i]? =some d→Dc0 ds al k=d
 |[],al,i,k,d,_,_,h=>by simp at h
 |d0::ds,[],i,k,d,_,h,_=>by simp at h
 |d0::ds,a::al,0,k,d,hn,h1,h2=>by
  simp only[List.getElem?_cons_zero,Option.some.injEq]at h1 h2
  subst h1 h2
  simp[Dc0]
 |d0::ds,a::al,i+1,k,d,hn,h1,h2=>by
  simp only[List.getElem?_cons_succ]at h1 h2
  rw[List.nodup_cons]at hn
  have ih:=aY_0 ds al i k d hn.2 h1 h2
  have hne:(a==k)=false:=by
   have:=List.mem_of_getElem? h1
   simp;intro e;subst e;exact hn.1 this
  unfold Dc0 at ih⊢
  rw[List.zip_cons_cons,List.find?_cons,hne]
  exact ih
theorem bd_1{al:List Nat}(hn:al.Nodup){i j k:Nat}(h1:al[i]? =some k)(h2:al[j]? =some k):i=j:=by
 have a:=(List.getElem?_eq_some_iff.1 h1)
 have b:=(List.getElem?_eq_some_iff.1 h2)
 obtain⟨a1,a2⟩:=a
 obtain⟨b1,b2⟩:=b
 rw[List.nodup_iff_pairwise_ne,List.pairwise_iff_getElem]at hn
 rcases Nat.lt_trichotomy i j with h|h|h
 ·exact absurd (a2.trans b2.symm) (hn i j a1 b1 h)
 ·exact h
 ·exact absurd (b2.trans a2.symm) (hn j i b1 a1 h)
theorem aL_0{p:Prog}{r m:Nat}{st:St}{al:List Nat}(hl:al.length=(declsOf p).length)(hnd:al.Nodup)(hat:∀(i k:Nat) (d:Decl),al[i]? =some k→(declsOf p)[i]? =some d→st.store[k]? =some (.box d.cs))
  (hb:st.base=0) (hp:st.prot=[]) (hr:∃l1 l2 l3,st.store[r]? =some (.box [l1,l2,l3, .map m])) (hm:st.store[m]? =some (ptrs (fillD (declsOf p) al))):MSt p r m (fillD (declsOf p) al) st (Dc0 (declsOf p) al):=by
 refine⟨⟨hr,hm,fun n k hk=> ?_⟩,hb,hp,fun n k hk=> ?_,fun n d0 hd=> ?_,fun n n' k h1 h2=> ?_⟩
 ·obtain⟨i,d,h1,h2,h3, -⟩:=L_8 hk
  rw[aY_0 _ _ i k d hnd h2 h1];exact hat i k d h2 h1
 ·obtain⟨i,d,h1,h2,h3,h4⟩:=L_8 hk
  have hd:declOf p n=some d:=h4 hl
  have:=w_3 hd
  refine⟨d,0,false,hd,?_, .inl ⟨rfl,rfl⟩⟩
  rw[aY_0 _ _ i k d hnd h2 h1]
  obtain⟨-, -, -,e1,e2⟩:=this
  cases d;simp only at e1 e2;subst e1 e2;rfl
 ·have:=ap_9 (n:=n) hl
  unfold declOf at hd
  rw[hd]at this
  exact Option.isSome_iff_exists.1 this
 ·obtain⟨i,d,a1,a2,a3, -⟩:=L_8 h1
  obtain⟨j,e,b1,b2,b3, -⟩:=L_8 h2
  have:=bd_1 hnd a2 b2
  subst this
  rw[a1]at b1;cases b1
  rw[←a3,←b3]
theorem aV_4{l:List Str}(h:∀(i:Nat) (x:Str),l[i]? =some x→(l.take i).contains x=false):l.Nodup:=by
 rw[List.nodup_iff_pairwise_ne,List.pairwise_iff_getElem]
 intro i j hi hj hij e
 have h1:=h j l[j] (List.getElem?_eq_getElem hj)
 have:l[i]∈l.take j:=by
  rw[List.mem_take_iff_getElem]
  exact⟨i,by omega,rfl⟩
 rw[e]at this
 simp at h1
 exact h1 this
theorem aq_5{p:Prog}(h:p.size≤1048576)(hr:right p=true)(hd:dg1 p (declsOf p)=[]):Fine p:=by
 have hall:∀(i:Nat) (d:Decl),(declsOf p)[i]? =some d→H_8 p (declsOf p) (d,i)=[]:=fun i d hi=>by
  have hm:(d,i)∈(declsOf p).zipIdx:=by
   rw[List.mem_iff_getElem?];exact⟨i,by simp[hi]⟩
  exact List.flatMap_eq_nil_iff.1 hd _ hm
 refine⟨h,hr,aV_4 fun i x hx=> ?_,fun d hdm v hv hne=> ?_⟩
 ·rw[List.getElem?_map]at hx
  cases hdi:(declsOf p)[i]? with
  |none=>rw[hdi]at hx;cases hx
  |some d=>
   rw[hdi]at hx
   simp only[Option.map_some,Option.some.injEq]at hx
   have:=hall i d hdi
   unfold H_8 at this
   rw[List.append_eq_nil_iff]at this
   rw[←List.map_take,ac_7 x _ i d hdi hx]
   have h1:=this.1
   simp only at h1
   rw[hx]at h1
   rw[decide_eq_false_iff_not]
   intro hc
   rw[if_pos hc]at h1;cases h1
 ·obtain⟨i,hi⟩:=List.mem_iff_getElem?.1 hdm
  have:=hall i d hi
  unfold H_8 at this
  rw[List.append_eq_nil_iff]at this
  have h2:=this.2
  obtain⟨j,hj⟩:=List.mem_iff_getElem?.1 hv
  have hm:(v,j)∈d.parts.zipIdx:=by
   rw[List.mem_iff_getElem?];exact⟨j,by simp[hj]⟩
  have h3:=List.flatMap_eq_nil_iff.1 h2 _ hm
  unfold dgVar at h3
  rw[List.append_eq_nil_iff]at h3
  cases hk:known p v.type with
  |true=>rfl
  |false=>
   have h4:=h3.2
   rw[if_pos ⟨hne,hk⟩]at h4
   cases h4
end Go.Proofs.YtghhphdkojjalaaGreatDoor
namespace Go.Proofs.YtghhphdkojjalaaGreatDoor
open Go.Abs
attribute [local simp] K_0 L_0 q_ z_4 l_0 M_1 z_ y_2 t_9 c_7 j_7 m_9 c_ e_9 j_8 c_3 h_4 finish dropMarks resOf
 resList o_3 l_4 i_8 e_6 d_ c_1 n_5 j_ c_0 b_ a_9 c_4 c_2 f_7 f_5 c_6
 c_8 e_5 m_8 L_4 D_1 m_3 B_5 f_ M_0 s_un D_0 s_ c_9 d_2 q_7 r_9 j_6 z_2 r_3 K_5 B_ D_ L_1 l_6
 d_1 b_9 l_7 q_4 g_ i_2 m_0 m_7 m_4 m_6 a_7 d_0 f_6 e_4 e_2 j_5 j_1 i_4 e_1
 t_3 m_1 n_4 n_1 s_6 t_2 u_5 q_5 i_9 s_7 evArgs o_5 k_ l_8 f_3 g_9 v_2 ofValue ofValues isConst C_7 y_8 x_8 x_4
 A_0 z_3 C_0 y_3 z_1 B_0 C_2 z_8 C_6 A_5 A_6 y_ strBin bne C_3 B_3 B_6 convV evConv optArg a_6 argF B_4 s_9 q_8 p_ n_2 x_5
 t_4 p_4 l_2 k_0 i_0 g_1 j_4 g_5 d_8 y_5 u_0 i_5 k_1 okCells L_3 b_4 g_0 d_9 i_3 i_1 f_1
 i_6 j_0 l_ q_9 r_4 m_ t_6 s_5 n_0 t_ t_8 j_2 h_1 e_3 e_0 h_3 splice putElem k_8 i_ l_1 g_6
 t_7 e_8 bdV fill l_9 bsF setAll d_6 f_2 x_1 n_7 e_7 h_6 h_5 f_4 p_2 v_7 t_1 s_1 x_7 r_5 s_0 p_6 j_9
 q_3 x_2 C_4 p_5 g_8 d_7 p_3 v_8 p_0 u_2 h_8 z_5 q_0 n_3 y_4 u_4 u_3 C_5 l_5 r_1 d_4 n_ h_7 B_1
 q_6 C_1 A_8 B_7 g_7 r_7 q_1 y_7 y_6 y_9 x_6 u_1 l_3 u_7 s_4 deep List.getD_cons_zero List.getD_cons_succ List.getElem?_cons_zero
 List.getElem?_cons_succ List.getElem?_nil t_0 s_2 A_9 x_9 y_0 A_2 u_6 q_2 B_9 y_1 r_0 s_8 r_6 t_5 r_2 r_ n_6 m_5 z_7 z_6
 j_3 i_7 s_3 r_8 f_9 f_0 A_ C_8 A_4 C_9 ld26 sr26 al26 F_8 G_ F_9 bd26 ld4 sr4 und4 bd62 ap_6 ln30 lo30 ap30 bs30 ld82 V_1 W_ bd84 ld29
 sr29 al29 ld79 bs_5 ia79 ib79 ln79 lo79 ap79 bs79 af_0 ai_1 ah_8 ah_1 ag_0 ae_8 ah_2 bd90 ld9 und9 ln9 ix9 ld3 sr3 und3 ld88 ld67 sr67 R_0 ia67 ib67 ln67 lo67 ap67 bs67 lu82 pn88
 aU_ o_9 A_3 B_8 o_6 o_7 k_7 c_5 k_4 o_2 q11_21 l11_21 p11_31 Y_7 O_4 O_2 X_5 kdOp kdOf isPure readsOf protS bg_2 af_7 ab_0
 aa_4 mm82 mu82 D_Rg S11 L11_1 L11_4 L11_7 L11_11 L11_13 L11_16 L11_19 M11_19 L11_23 L11_26 L11_29 L11_33 L11_41 L11_43 L11_45 L11_47 L11_51 L11_54 L11_58
set_option maxRecDepth 100000
set_option linter.unusedSimpArgs false
set_option linter.unusedVariables false
set_option maxHeartbeats 4000000
noncomputable def G_4(p:Prog)(d:Decl):List Dg:=if 32<sz p d.name then [⟨d.at_,11⟩]else []
noncomputable def dg2(p:Prog)(ds:List Decl):List Dg:=ds.flatMap (G_4 p)
def Done(p:Prog)(D:List (Str×Nat))(Dc:Nat→Decl)(ns:List Str):Prop:=∀n k,n∈ns→getM D n=some k→sz p n≤32→(Dc k).slots=(sz p n:Nat)∧(Dc k).drops=need p n
def MDone(p:Prog)(r m:Nat)(D:List (Str×Nat))(st:St)(ns:List Str):Prop:=∃Dc,MSt p r m D st Dc∧Done p D Dc ns
structure KeepS(D:List (Str×Nat))(a b:St):Prop where
 base:b.base=a.base
 prot:b.prot=a.prot
 len:a.store.length≤b.store.length
 get:∀(i:Nat) (o:O),a.store[i]? =some o→(∀n,getM D n≠some i)→b.store[i]? =some o
theorem KeepS.rest{D:List (Str×Nat)}{a b c:St}{v:V}{es:List V}(h:KeepS D a b)(hA:AccT 2 b v es)(hr:∀r,refOf v=some r→a.store.length≤r)(hR:Go.Abs.Rest (refOf v) b c):KeepS D a c:=
 ⟨hR.base.trans h.base,hR.prot.trans h.prot,Nat.le_trans h.len hR.len,fun i o hi hn=>hR.get i o (h.get i o hi hn) fun e=>by
  have:=hr i e
  have:=(List.getElem?_eq_some_iff.1 hi).1
  omega⟩
theorem KeepS.keep{D:List (Str×Nat)}{a b c:St}{nl:V}(hnl:refOf nl=none)(h:KeepS D a b)(hK:Keep D nl b c):KeepS D a c:=
 ⟨hK.base.trans h.base,hK.prot.trans h.prot,Nat.le_trans h.len hK.len,fun i o hi hn=>hK.get i o (h.get i o hi hn) hn fun _ r hr=>by rw[hnl]at hr;cases hr⟩
theorem MSt.rest{p:Prog}{r m:Nat}{D:List (Str×Nat)}{b c:St}{Dc:Nat→Decl}{v:V}{es:List V}(h:MSt p r m D b Dc)(hA:AccT 2 b v es)(hR:Go.Abs.Rest (refOf v) b c):MSt p r m D c Dc:=by
 have hne:∀(i:Nat) (o:O),b.store[i]? =some o→(∀es,o≠ .vec true es)→c.store[i]? =some o:=fun i o hi ho=>hR.get i o hi fun e=>by
  rcases hA with⟨nl,rfl, -⟩|⟨q, -,rfl,h3⟩
  ·cases e
  ·cases e;rw[hi]at h3;cases h3;exact ho es rfl
 obtain⟨l1,l2,l3,h1⟩:=h.tab.box
 exact⟨⟨⟨l1,l2,l3,hne _ _ h1 (fun _ e=>by cases e)⟩,hne _ _ h.tab.ents (fun _ e=>by cases e),fun n k hk=>hne _ _ (h.tab.decl n k hk) (fun _ e=>by cases e)⟩,hR.base.trans h.base,hR.prot.trans h.prot,h.ok,h.dom,h.inj⟩
theorem aU_8(p:Prog)(n:Str):((sz p n:Nat):Int)≠0:=by have:=aK_9 p n;omega
theorem Done.mono{p:Prog}{D:List (Str×Nat)}{Dc Dc':Nat→Decl}{ns:List Str}(h:Done p D Dc ns)(hm:Mono Dc Dc'):Done p D Dc' ns:=fun n k hn hk hs=>by
 have h1:=h n k hn hk hs
 have h2:=hm k (by rw[h1.1];exact aU_8 p n)
 rw[h2];exact h1
theorem aB_6{p:Prog}(hf:Fine p){i j:Nat}{d e:Decl}(h1:(declsOf p)[i]? =some d)(h2:(declsOf p)[j]? =some e)(he:d.name=e.name):i=j:=by
 have a:((declsOf p).map Decl.name)[i]? =some d.name:=by rw[List.getElem?_map,h1];rfl
 have b:((declsOf p).map Decl.name)[j]? =some d.name:=by rw[List.getElem?_map,h2,he];rfl
 have hn:=hf.names
 obtain⟨a1,a2⟩:=List.getElem?_eq_some_iff.1 a
 obtain⟨b1,b2⟩:=List.getElem?_eq_some_iff.1 b
 rw[List.nodup_iff_pairwise_ne,List.pairwise_iff_getElem]at hn
 rcases Nat.lt_trichotomy i j with h|h|h
 ·exact absurd (a2.trans b2.symm) (hn i j a1 b1 h)
 ·exact h
 ·exact absurd (b2.trans a2.symm) (hn j i b1 a1 h)
theorem ae_{p:Prog}(hf:Fine p){d:Decl}(hd:d∈declsOf p):declOf p d.name=some d:=by
 obtain⟨i,hi⟩:=List.mem_iff_getElem?.1 hd
 cases h:declOf p d.name with
 |none=>
  have:=List.find?_eq_none.1 h d hd
  simp at this
 |some e=>
  obtain⟨j,hj⟩:=List.mem_iff_getElem?.1 (g_2 h)
  have:=aB_6 hf hi hj (E_1 h).symm
  subst this
  rw[hi]at hj;exact hj.symm
theorem aY_7{p:Prog}(hf:Fine p){al:List Nat}(hl:al.length=(declsOf p).length){i k:Nat}{d:Decl}(h1:(declsOf p)[i]? =some d)(h2:al[i]? =some k):getM (fillD (declsOf p) al) d.name=some k:=by
 have h3:=ap_9 (n:=d.name) hl
 have h4:=ae_ hf (List.mem_of_getElem? h1)
 unfold declOf at h4
 rw[h4]at h3
 obtain⟨k',hk'⟩:=Option.isSome_iff_exists.1 h3
 obtain⟨j,e,a1,a2,a3, -⟩:=L_8 hk'
 have:=aB_6 hf h1 a1 a3.symm
 subst this
 rw[h2]at a2;cases a2
 exact hk'
theorem AccT.keep{p:Prog}{r m:Nat}{D:List (Str×Nat)}{wv v:V}{a b:St}{Dc:Nat→Decl}{s:Nat}{es:List V}(hM:MSt p r m D a Dc)(h:AccT s a v es)(hK:Keep D wv a b):AccT s b v es:=by
 rcases h with h|⟨q,h1,rfl,h2⟩
 ·exact .inl h
 ·exact .inr ⟨q,h1,rfl,hK.get _ _ h2 (fun n hn=>by rw[hM.tab.decl n q hn]at h2;cases h2) fun h=>by cases h⟩
theorem aN_0(p:Prog)(hf:Fine p)(r m b5:Nat)(D:List (Str×Nat))(s:St)(F:Nat→V)(mk0:List Nat)(lv:V)(al:List Nat)(hlen:al.length=(declsOf p).length)(hD:D=fillD (declsOf p) al)
  (hM:MDone p r m D s []) (hA:AccT 1 s lv (al.map fun k=> .ptr k 0)) (hat:∀(i k:Nat) (d:Decl),al[i]? =some k→(declsOf p)[i]? =some d→s.store[k]? =some (.box d.cs))
  (hb5:s.store[b5]? =some (.box [.ptr r 0])) (hl:al.length≤64) (g5:F 5= .ptr b5 0) (g42:F 42=lv) (g43:F 43= .int .i64 (al.length:Nat)) (g44:F 44= .int .i64 0) (nl:Option Bool) (g8:F 8= .list true nl []):
  Out 66 mk0 (fun e f' st'=>(e= .exit 2∧AccT 2 st' (f' 8) ((dg2 p (declsOf p)).map Dg.v)∧MDone p r m D st' ((declsOf p).map Decl.name)∧KeepS D s st'∧(∀r,refOf (f' 8)=some r→s.store.length≤r))∧∀t,t<66→List.contains [45,46,47,10,48,49,50,51,52,53,54,55,56,57,58,59,8,60,44] t=false→f' t=F t) ((run tb).code none c11_31 (mk 66 F mk0) s):=by
 refine b_3 e11_31 w11_31 al.length
  (I:=fun i f st'=>f 44= .int .i64 (i:Nat)∧AccT 2 st' (f 8) ((((declsOf p).take i).flatMap (G_4 p)).map Dg.v)∧MDone p r m D st' (((declsOf p).take i).map Decl.name)∧KeepS D s st'∧(∀r,refOf (f 8)=some r→s.store.length≤r)) ?_ ?_ ?_
 ·refine⟨g44,?_,by simpa using hM,⟨rfl,rfl,Nat.le_refl _,fun _ _ h _=>h⟩,fun r hr=>by rw[g8]at hr;cases hr⟩
  rw[g8];exact I_7
 ·rintro i f st1 hi hk ⟨h44,hA2,⟨Dc,hM1,hDn⟩,hKS,hr2⟩
  have hil:i<(declsOf p).length:=by omega
  have hx:al[i]? =some al[i]:=List.getElem?_eq_getElem hi
  have hd:(declsOf p)[i]? =some (declsOf p)[i]:=List.getElem?_eq_getElem hil
  have htk:=List.take_succ_eq_append_getElem hil
  have hdm:=List.getElem_mem hil
  rw[htk]
  generalize(declsOf p)[i]=d at *
  generalize al[i]=k at *
  have ha:=add1 (i:=i) (by omega)
  have hg:getM D d.name=some k:=by rw[hD];exact aY_7 hf hlen hd hx
  obtain⟨v,hv⟩:∃v,f 8=v:=⟨_,rfl⟩
  rw[hv]at hA2 hr2
  have g5':f 5= .ptr b5 0:=by simp[hk,g5]
  have g42':f 42=lv:=by simp[hk,g42]
  have g43':f 43= .int .i64 (al.length:Nat):=by simp[hk,g43]
  clear hk
  have hbD:∀n,getM D n≠some b5:=fun n hn=>by
   obtain⟨j,e,a1,a2, -⟩:=L_8 (by rw[hD]at hn;exact hn)
   have:=hat j b5 e a2 a1
   rw[hb5]at this;simp[Decl.cs]at this
  have k5:=hKS.get _ _ hb5 hbD
  obtain⟨rv,s2,hcall,rfl,Dc2,hM2,hsz2,hK2,hO2⟩:=aI_3 p hf r m D (((declsOf p).map Decl.name).filter (fun x=> !([]:List Str).contains x)).length d.name k [] (.list true (some true) []) Dc st1 (Nat.le_refl _) (by
   have:=List.length_filter_le (fun x=> !([]:List Str).contains x) ((declsOf p).map Decl.name)
   rw[List.length_map]at this
   simp only[List.length_nil];omega) hg hM1 (.inl ⟨rfl,rfl⟩) (fun u hu=>by cases hu)
  have hA3:=AccT.keep hM1 hA2 hK2
  have hKS2:=hKS.keep rfl hK2
  have hDn2:Done p D Dc2 (((declsOf p).take i).map Decl.name ++[d.name]):=fun n' k' hn' hk' hs'=>by
   rcases List.mem_append.1 hn' with hn'|hn'
   ·exact(hDn.mono hO2) n' k' hn' hk' hs'
   ·rw[List.mem_singleton.1 hn']at hk' hs'⊢
    rw[hg]at hk';cases hk'
    exact hsz2 hs'
  have hMD2:MDone p r m D s2 (((declsOf p).take i).map Decl.name ++[d.name]):=⟨Dc2,hM2,hDn2⟩
  rw[List.flatMap_append,List.map_append,List.map_append]
  have hes:((((declsOf p).take i).flatMap (G_4 p)).map Dg.v).length≤64:=by
   rw[List.length_map]
   have h3:=k_2 (G_4 p) (declsOf p) i
   have h4:=ag_2 (h:=G_4 p) 1 (declsOf p) fun x _=>by unfold G_4;split<;>simp
   omega
  generalize(((declsOf p).take i).flatMap (G_4 p)).map Dg.v=es at *
  have hbk:=hM2.tab.decl _ _ hg
  obtain⟨d2,ss,bb,hdd,hDk, -⟩:=hM2.ok _ _ hg
  rw[ae_ hf hdm]at hdd;cases hdd
  rw[hDk]at hbk
  unfold Decl.cs at hbk
  simp only at hbk
  rcases hA with⟨nl2,rfl,hA⟩|⟨q,h1,rfl,hA⟩
  ·have:al=[]:=by simpa using hA
   subst this;simp at hi
  ·have hq:=hKS.get _ _ hA fun n hn=>by
    obtain⟨j,e,a1,a2, -⟩:=L_8 (by rw[hD]at hn;exact hn)
    have:=hat j q e a2 a1
    rw[hA]at this;cases this
   rw[List.length_map]at *
   have b1:=hM1.base
   have p1:=hM1.prot
   have b2:=hM2.base
   have p2:=hM2.prot
   by_cases h32:sz p d.name≤32
   ·have hdec:decide (sz p d.name≤32)=true:=by simpa using h32
    have hone:([d].flatMap (G_4 p)).map Dg.v=[]:=by
     have:¬32<sz p d.name:=by omega
     simp[G_4,this]
    rw[hone,List.append_nil]
    rw[hdec]at hcall
    simp[-List.getD_eq_getElem?_getD, -getElem?_pos,g5',g42',g43',h44,hx,hi,ha,k5,hq,hcall]
    repeat' (first|refine a_0 ?_ ?_|refine Out.branch ?_ ?_|refine Ret.branch ?_ ?_)<;>(intro hb;(try(simp only[NB]at hb));simp[-List.getD_eq_getElem?_getD, -getElem?_pos,g5',g42',g43',h44,hv,hx,hi,ha,k5,hq,hcall,b1,p1,b2,p2,hb])
    all_goals try refine Out.one ?_
    all_goals try refine Ret.one ?_
    all_goals try(simp[-List.getD_eq_getElem?_getD, *];done)
    all_goals try simp[-List.getD_eq_getElem?_getD,hv]
    all_goals try(intros;omega)
    exact⟨hA3,by simpa using hMD2,hKS2,hr2⟩
   ·have hdec:decide (sz p d.name≤32)=false:=by simpa using h32
    have hone:([d].flatMap (G_4 p)).map Dg.v=[V.agg [.int .i64 d.at_, .int .i64 11]]:=by
     have:32<sz p d.name:=by omega
     simp[G_4,this,Dg.v]
    rw[hone]
    rw[hdec]at hcall
    obtain⟨v3,s3,ap3,A3,R3,r3,F3,F4⟩:=hA3.app (bytes:=16) (y:= .list true (some false) [.agg [.int .i64 d.at_, .int .i64 11]]) (fun r0 _=>by simp[St.locked,b2,p2]) rfl (by simp) (by simp[V.cells,V.oneCell]) (by decide) (by decide) (by simp;omega)
    have ap3':appV 2 16 s2 (spreadB (.list true (some false) [.agg [.int .i64 d.at_, .int .i64 11]])) v (.list true (some false) [.agg [.int .i64 d.at_, .int .i64 11]])=some (v3,s3):=ap3
    have hMD3:MDone p r m D s3 (((declsOf p).take i).map Decl.name ++[d.name]):=⟨Dc2,hM2.rest hA3 R3,hDn2⟩
    have hKS3:=hKS2.rest hA3 hr2 R3
    have hr3:∀r,refOf v3=some r→s.store.length≤r:=fun r0 h0=>by rw[F3]at h0;cases h0;have:=hKS2.len;omega
    simp[-List.getD_eq_getElem?_getD, -getElem?_pos,g5',g42',g43',h44,hv,hx,hi,ha,k5,hq,hcall,hbk,ap3']
    repeat' (first|refine a_0 ?_ ?_|refine Out.branch ?_ ?_|refine Ret.branch ?_ ?_)<;>(intro hb;(try(simp only[NB]at hb));simp[-List.getD_eq_getElem?_getD, -getElem?_pos,g5',g42',g43',h44,hv,hx,hi,ha,k5,hq,hcall,hbk,ap3',b1,p1,b2,p2,hb])
    all_goals try refine Out.one ?_
    all_goals try refine Ret.one ?_
    all_goals try(simp[-List.getD_eq_getElem?_getD, *];done)
    all_goals try simp[-List.getD_eq_getElem?_getD]
    all_goals try(intros;omega)
    exact⟨A3,by simpa using hMD3,hKS3,hr3⟩
 ·rintro f st1 hk ⟨h44,hA2,hM2,hKS,hr2⟩
  have g43':f 43= .int .i64 (al.length:Nat):=by simp[hk,g43]
  clear hk
  rw[List.take_of_length_le (by omega)]at hA2 hM2
  simp[-List.getD_eq_getElem?_getD, -getElem?_pos,g43',h44]
  repeat' (first|refine a_0 ?_ ?_|refine Out.branch ?_ ?_|refine Ret.branch ?_ ?_)<;>(intro hb;(try(simp only[NB]at hb));simp[-List.getD_eq_getElem?_getD, -getElem?_pos,g43',h44,hb])
  all_goals try refine Out.one ?_
  all_goals try refine Ret.one ?_
  all_goals try(simp[-List.getD_eq_getElem?_getD, *];done)
  all_goals try simp[-List.getD_eq_getElem?_getD]
  all_goals try(intros;omega)
  exact⟨hA2,hM2,hKS,hr2⟩
noncomputable def dgAll(p:Prog):List Dg:=if right p=false then [⟨0,2⟩]else if dg1 p (declsOf p)=[]then dg2 p (declsOf p)else dg1 p (declsOf p)
def DgV(st:St)(v:V)(l:List Dg):Prop:=AccT 2 st v (l.map Dg.v)∨∃b nl,v= .list b nl (l.map Dg.v)
structure TabOf(p:Prog)(st:St)(r m:Nat)(D:List (Str×Nat))(Dc:Nat→Decl):Prop where
 ms:MSt p r m D st Dc
 all:∀n k,getM D n=some k→sz p n≤32∧(Dc k).slots=(sz p n:Nat)∧(Dc k).drops=need p n
 box:st.store[r]? =some (.box [.list false none ((p.structs.map Struct.nrm).map Struct.v), .list false none ((p.enums.map Enum.nrm).map Enum.v), .list false none ((p.funcs.map Fun.nrm).map Fun.v), .map m])
def NewOut(p:Prog)(a:St)(v:V)(b:St):Prop:=Grows a b∧((dgAll p=[]∧Fine p∧∃r m D Dc,v= .tup [.ptr r 0, .list true (some true) []]∧TabOf p b r m D Dc)∨(dgAll p≠[]∧∃w,v= .tup [.nilp,w]∧DgV b w (dgAll p)))
theorem MSt.to2{p:Prog}{r m:Nat}{D:List (Str×Nat)}{a b:St}{Dc:Nat→Decl}(h:MSt p r m D a Dc)(hb:b.base=0)(hp:b.prot=[])(hg:∀(i:Nat) (o:O),a.store[i]? =some o→((∃cs,o= .box cs)∨∃es,o= .map es)→b.store[i]? =some o):MSt p r m D b Dc:=by
 obtain⟨l1,l2,l3,h1⟩:=h.tab.box
 exact⟨⟨⟨l1,l2,l3,hg _ _ h1 (.inl ⟨_,rfl⟩)⟩,hg _ _ h.tab.ents (.inr ⟨_,rfl⟩),fun n k hk=>hg _ _ (h.tab.decl n k hk) (.inl ⟨_,rfl⟩)⟩,hb,hp,h.ok,h.dom,h.inj⟩
theorem M_4{l:List O}(L:List O)(j:Nat):(l ++L)[l.length+j]? =L[j]? :=by
 rw[List.getElem?_append_right (by omega)]
 have:l.length+j-l.length=j:=by omega
 rw[this]
theorem bw_9{st st':St}{v:V}{es:List V}(h:AccT 2 st v es):lenV tb 30 st' v=some (.int .i64 (es.length:Nat)):=by
 rcases h with⟨nl,rfl,h⟩|⟨r,h0,rfl,h⟩
 ·subst h;simp
 ·simp
theorem Y_0(p:Prog)(f1 f2 f3:Bool)(n1 n2 n3:Option Bool)(h:p.size≤1048576)(st:St)(hb:st.base=0)(hp:st.prot=[]):Ret (NewOut p st) ((run tb).call 11 [.agg [.list f1 n1 (p.structs.map Struct.v), .list f2 n2 (p.enums.map Enum.v), .list f3 n3 (p.funcs.map Fun.v)]] st):=by
 have hR:=av_1 p f1 f2 f3 n1 n2 n3 h
 cases hr:right p with
 |false=>
  rw[hr]at hR
  have hd:dgAll p=[⟨0,2⟩]:=by unfold dgAll;rw[if_pos hr]
  have hg:=p_1 (Grows.refl st) [.list f1 n1 (p.structs.map Struct.v), .list f2 n2 (p.enums.map Enum.v), .list f3 n3 (p.funcs.map Fun.v)]
  rw[run11 (by simp)]
  simp[-List.getD_eq_getElem?_getD, -getElem?_pos,hR]
  refine Ret.one ⟨hg, .inr ⟨by rw[hd];simp,_,rfl, .inr ⟨_,_,by rw[hd];rfl⟩⟩⟩
 |true=>
  rw[hr]at hR
  have hC:=aA_8 p f1 f2 f3 n1 n2 n3 h
  obtain⟨s0,hs0⟩:∃s0,s0=newBox st [.list f1 n1 (p.structs.map Struct.v), .list f2 n2 (p.enums.map Enum.v), .list f3 n3 (p.funcs.map Fun.v)]:=⟨_,rfl⟩
  have hg0:Grows st s0:=by rw[hs0];exact p_1 (Grows.refl st) _
  have hbx:s0.store[st.store.length]? =some (.box [.list f1 n1 (p.structs.map Struct.v), .list f2 n2 (p.enums.map Enum.v), .list f3 n3 (p.funcs.map Fun.v)]):=by rw[hs0];exact b_4
  have b0:s0.base=0:=hg0.base.trans hb
  have p0:s0.prot=[]:=hg0.prot.trans hp
  obtain⟨lv,s1,hdc,al,hD⟩:=bb_8 p f1 f2 f3 n1 n2 n3 h s0 b0 p0
  have hbx1:=hD.grows.at_ hbx
  have b1:s1.base=0:=hD.grows.base.trans b0
  have p1:s1.prot=[]:=hD.grows.prot.trans p0
  have hlv:lv.cells=[lv]∧lv.oneCell=true:=by
   rcases hD.acc with⟨nl,rfl, -⟩|⟨q, -,rfl, -⟩<;>exact⟨rfl,rfl⟩
  have hbk:=aa_ lv hlv.1 hlv.2
  unfold Prog.nrm Prog.v at hC
  simp only[List.map_map]at hC
  obtain⟨ls,hls⟩:∃ls,ls=[V.list false none (p.structs.map (Struct.v∘Struct.nrm)),V.list false none (p.enums.map (Enum.v∘Enum.nrm)),V.list false none (p.funcs.map (Fun.v∘Fun.nrm)),V.map s1.store.length]:=⟨_,rfl⟩
  have g3:∀a b c:O,(s1.store ++[a,b,c])[s1.store.length+2]? =some c:=fun a b c=>by
   rw[List.getElem?_append_right (by omega)]
   have:s1.store.length+2-s1.store.length=2:=by omega
   rw[this];rfl
  obtain⟨s2,hs2⟩:∃s2,s2=newBox (newBox (newBox (addO s1 (.map [])) ls) [.ptr (s1.store.length+1) 0]) [lv]:=⟨_,rfl⟩
  have hset:∀zs cs:List V,setO (newBox (newBox (addO s1 (.map [])) ls) zs) (s1.store.length+2) (.box cs)=newBox (newBox (addO s1 (.map [])) ls) cs:=fun zs cs=>by
   have:s1.store.length+2=(newBox (addO s1 (.map [])) ls).store.length:=by simp[newBox,addO]
   rw[this];exact g_0
  rw[hls]at hset hs2
  rw[run11 (by simp)]
  simp[-List.getD_eq_getElem?_getD, -getElem?_pos,hR,hs0.symm,hbx,hdc,hbx1,hC,hbk,b1,p1,g3,hset,hs2.symm]
  have hst2:s2.store=s1.store ++[.map [], .box [V.list false none (p.structs.map (Struct.v∘Struct.nrm)),V.list false none (p.enums.map (Enum.v∘Enum.nrm)),V.list false none (p.funcs.map (Fun.v∘Fun.nrm)),V.map s1.store.length], .box [.ptr (s1.store.length+1) 0], .box [lv]]:=by rw[hs2];simp[newBox,addO]
  have b2:s2.base=0:=by rw[hs2];exact b1
  have p2:s2.prot=[]:=by rw[hs2];exact p1
  have hl2:s2.store.length=s1.store.length+4:=by rw[hst2];simp
  have k0:s2.store[s1.store.length]? =some (ptrs []):=by rw[hst2];exact M_4 _ 0
  have k1:=M_4 (l:=s1.store) [O.map [], .box [V.list false none (p.structs.map (Struct.v∘Struct.nrm)),V.list false none (p.enums.map (Enum.v∘Enum.nrm)),V.list false none (p.funcs.map (Fun.v∘Fun.nrm)),V.map s1.store.length], .box [.ptr (s1.store.length+1) 0], .box [lv]] 1
  have k2:=M_4 (l:=s1.store) [O.map [], .box [V.list false none (p.structs.map (Struct.v∘Struct.nrm)),V.list false none (p.enums.map (Enum.v∘Enum.nrm)),V.list false none (p.funcs.map (Fun.v∘Fun.nrm)),V.map s1.store.length], .box [.ptr (s1.store.length+1) 0], .box [lv]] 2
  have k3:=M_4 (l:=s1.store) [O.map [], .box [V.list false none (p.structs.map (Struct.v∘Struct.nrm)),V.list false none (p.enums.map (Enum.v∘Enum.nrm)),V.list false none (p.funcs.map (Fun.v∘Fun.nrm)),V.map s1.store.length], .box [.ptr (s1.store.length+1) 0], .box [lv]] 3
  rw[←hst2]at k1 k2 k3
  simp only[List.getElem?_cons_succ,List.getElem?_cons_zero]at k1 k2 k3
  have h12:∀(i:Nat) (o:O),s1.store[i]? =some o→s2.store[i]? =some o:=fun i o hi=>by rw[hst2];exact a_3 hi
  have hA2:AccT 1 s2 lv (al.map fun k=> .ptr k 0):=by
   rcases hD.acc with h|⟨q,a1,a2,a3⟩
   ·exact .inl h
   ·exact .inr ⟨q,a1,a2,h12 q _ a3⟩
  have hall:(declsOf p).length≤64:=by
   unfold right few at hr
   simp only[Bool.and_eq_true,Bool.not_eq_true',decide_eq_false_iff_not]at hr
   obtain⟨⟨⟨c1,c2⟩,c3⟩, -⟩:=hr
   unfold declsOf
   rw[List.length_append,List.length_map,List.length_map];omega
  have hal:=hD.len
  clear hs2 hset g3
  refine aA_7 (aP_3 _ s2 (s1.store.length+3) (s1.store.length+1) s1.store.length (s1.store.length+2) _ _ _ lv al (declsOf p) b2 p2 (by simp) k2 k1 k0 k3 hA2 hal (fun i k d hx hd=>h12 _ _ (hD.at_ i k d hx hd)) (by omega)) ?_
  intro s3 hF
  have b3:s3.base=0:=hF.base.trans b2
  have p3:s3.prot=[]:=hF.prot.trans p2
  have h23:∀(i:Nat) (o:O),s2.store[i]? =some o→i≠s1.store.length→s3.store[i]? =some o:=fun i o hi hne=>by rw[hF.get i (List.getElem?_eq_some_iff.1 hi).1 hne];exact hi
  have h13:∀(i:Nat) (o:O),s1.store[i]? =some o→s3.store[i]? =some o:=fun i o hi=>h23 i o (h12 i o hi) (by have:=(List.getElem?_eq_some_iff.1 hi).1;omega)
  have hA3:AccT 1 s3 lv (al.map fun k=> .ptr k 0):=by
   rcases hD.acc with h|⟨q,a1,a2,a3⟩
   ·exact .inl h
   ·exact .inr ⟨q,a1,a2,h13 q _ a3⟩
  have hat3:∀(i k:Nat) (d:Decl),al[i]? =some k→(declsOf p)[i]? =some d→s3.store[k]? =some (.box d.cs):=fun i k d hx hd=>h13 _ _ (hD.at_ i k d hx hd)
  have q1:=h23 _ _ k1 (by omega)
  have q2:=h23 _ _ k2 (by omega)
  have hm3:=hF.map
  obtain⟨dv,s3',hnm,rfl,b,nl,rfl,hb0⟩:=ax_5 p (fillD (declsOf p) al) (aj_9 p hal) s3 p3 (s1.store.length+1) s1.store.length _ _ _ q1 hm3 lv al (declsOf p) hA3 hal hat3 (fun d hd=>H_7 h hd) hall
  have hdef:=hF.defs
  have hgr:∀i,i<st.store.length→s3'.store[i]? =st.store[i]? :=fun i hi=>by
   have:=hg0.len
   have:=hD.grows.len
   rw[hF.get i (by omega) (by omega),hst2,List.getElem?_append_left (by omega),hD.grows.get i (by omega),hg0.get i hi]
  have hlen3:st.store.length≤s3'.store.length:=by have:=hg0.len;have:=hD.grows.len;have:=hF.len;omega
  have hset2:∀(x:St) (c:List V),x.store[s2.store.length]? =some .defs→∀(i:Nat) (o:O),x.store[i]? =some o→o≠ .defs→(setO x s2.store.length .dead).store[i]? =some o:=fun x c hx i o hi ho=>by
   show(x.store.set _ _)[i]? =_
   rw[List.getElem?_set_ne (by intro e;subst e;rw[hx]at hi;cases hi;exact ho rfl)];exact hi
  by_cases hd1:dg1 p (declsOf p)=[]
  ·have hfine:=aq_5 h hr hd1
   rw[hd1]at hnm hb0
   simp only[List.map_nil]at hnm hb0
   have:=hb0 trivial
   subst this
   have hl79:=fun st'=>bp_9 (st':=st') hA3.acc
   have hMS0:MDone p (s1.store.length+1) s1.store.length (fillD (declsOf p) al) s3' []:=⟨_,aL_0 hal hD.nodup hat3 b3 p3 ⟨_,_,_,q1⟩ hm3,fun n k hn=>by cases hn⟩
   simp[-List.getD_eq_getElem?_getD, -getElem?_pos,q2,hnm,hl79]
   refine Ret.loop (aN_0 p hfine (s1.store.length+1) s1.store.length (s1.store.length+2) (fillD (declsOf p) al) s3' _ _ lv al hal rfl hMS0 hA3 hat3 q2 (by omega) (by simp) (by simp) (by simp) (by simp) nl (by simp)) ?_
   rintro e f s5 ⟨⟨rfl,A5,⟨Dc,hM5,hDn⟩,hK5,hr5⟩,hk⟩
   have g5:f 5= .ptr (s1.store.length+2) 0:=by simp[hk]
   clear hk
   have hnD:∀i,(i<s0.store.length∨s1.store.length≤i)→∀n,getM (fillD (declsOf p) al) n≠some i:=fun i hi n hn=>by
    obtain⟨j,d,a1,a2, -⟩:=L_8 hn
    have:=hD.lt i (List.mem_of_getElem? a2)
    omega
   have r2:=hK5.get _ _ q2 (hnD _ (by omega))
   have r1:=hK5.get _ _ q1 (hnD _ (by omega))
   have hdef5:=hK5.get _ _ hdef (hnD _ (by omega))
   have b5:=hM5.base
   have p5:=hM5.prot
   have hgr5:Grows st s5:=⟨b5.trans hb.symm,p5.trans hp.symm,by have:=hK5.len;omega,fun i hi=>by
    have h1:st.store[i]? =some st.store[i]:=List.getElem?_eq_getElem hi
    rw[h1]
    exact hK5.get _ _ (by rw[hgr i hi];exact h1) (hnD _ (by have:=hg0.len;omega))⟩
   have hgrF:Grows st (setO s5 s2.store.length .dead):=hgr5.set (by have:=hg0.len;have:=hD.grows.len;omega) .dead
   have hl30:=fun st'=>bw_9 (st':=st') A5
   have hdAll:dgAll p=dg2 p (declsOf p):=by unfold dgAll;rw[if_neg (by rw[hr];decide),if_pos hd1]
   obtain⟨w,hw⟩:∃w,f 8=w:=⟨_,rfl⟩
   rw[hw]at A5 hl30
   by_cases hd2:dg2 p (declsOf p)=[]
   ·rw[hd2]at hl30
    have hsm:∀n k,getM (fillD (declsOf p) al) n=some k→sz p n≤32∧(Dc k).slots=(sz p n:Nat)∧(Dc k).drops=need p n:=fun n k hn=>by
     obtain⟨i,d,a1,a2,a3, -⟩:=L_8 hn
     have hm:=List.mem_of_getElem? a1
     have h1:=List.flatMap_eq_nil_iff.1 hd2 d hm
     have h2:sz p n≤32:=by
      unfold G_4 at h1
      split at h1
      ·cases h1
      ·rename_i h3;rw[←a3];omega
     exact⟨h2,hDn n k (List.mem_map.2 ⟨d,hm,a3⟩) hn h2⟩
    have hfin:NewOut p st (.tup [.ptr (s1.store.length+1) 0, .list true (some true) []]) (setO s5 s2.store.length .dead):=by
     refine⟨hgrF, .inl ⟨by rw[hdAll,hd2],hfine,_,_,_,Dc,rfl,⟨hM5.to2 b5 p5 fun i o hi ho=>hset2 s5 [] hdef5 i o hi (by rcases ho with⟨_,rfl⟩|⟨_,rfl⟩<;>simp),hsm,?_⟩⟩⟩
     rw[List.map_map,List.map_map,List.map_map]
     exact hset2 s5 [] hdef5 _ _ r1 (by simp)
    simp only[List.map_nil,List.length_nil]at hl30
    have hE:setO s5 s2.store.length .dead={store:=s5.store.set s2.store.length O.dead,base:=0,prot:=[]}:=by simp[setO,b5,p5]
    rw[hE]at hfin
    simp[-List.getD_eq_getElem?_getD, -getElem?_pos,g5,hw,hl30,r2,hdef5,b5,p5]
    exact Ret.one hfin
   ·have hfin:NewOut p st (.tup [.nilp,w]) (setO s5 s2.store.length .dead):=by
     refine⟨hgrF, .inr ⟨by rw[hdAll];exact hd2,w,rfl, .inl ?_⟩⟩
     rw[hdAll]
     rcases A5 with h|⟨q,a1,a2,a3⟩
     ·exact .inl h
     ·exact .inr ⟨q,a1,a2,hset2 s5 [] hdef5 _ _ a3 (by simp)⟩
    have hpos:0<((dg2 p (declsOf p)).map Dg.v).length:=by
     rw[List.length_map]
     have:(dg2 p (declsOf p)).length≠0:=fun e=>hd2 (List.length_eq_zero_iff.1 e)
     omega
    have hpos':((dg2 p (declsOf p)).map Dg.v).length≠0:=by omega
    rw[List.length_map]at hpos hpos'
    simp only[List.length_map]at hl30
    generalize(dg2 p (declsOf p)).length=N at *
    have hE:setO s5 s2.store.length .dead={store:=s5.store.set s2.store.length O.dead,base:=0,prot:=[]}:=by simp[setO,b5,p5]
    rw[hE]at hfin
    simp[-List.getD_eq_getElem?_getD, -getElem?_pos,hw,hl30,hdef5,b5,p5,hpos]
    exact Ret.one hfin
  ·have hdAll:dgAll p=dg1 p (declsOf p):=by unfold dgAll;rw[if_neg (by rw[hr];decide),if_neg hd1]
   have hgrF:Grows st (setO s3' s2.store.length .dead):=by
    have hg3:Grows st s3':=⟨b3.trans hb.symm,p3.trans hp.symm,hlen3,hgr⟩
    exact hg3.set (by have:=hg0.len;have:=hD.grows.len;omega) .dead
   have hfin:NewOut p st (.tup [.nilp, .list b nl ((dg1 p (declsOf p)).map Dg.v)]) (setO s3' s2.store.length .dead):=
    ⟨hgrF, .inr ⟨by rw[hdAll];exact hd1,_,rfl, .inr ⟨b,nl,by rw[hdAll]⟩⟩⟩
   have hpos:(dg1 p (declsOf p)).length≠0:=fun e=>hd1 (List.length_eq_zero_iff.1 e)
   have hpos2:0<(dg1 p (declsOf p)).length:=by omega
   have hne0:(((dg1 p (declsOf p)).length:Int)==0)=false:=by simp;exact hd1
   have hE:setO s3' s2.store.length .dead={store:=s3'.store.set s2.store.length O.dead,base:=0,prot:=[]}:=by simp[setO,b3,p3]
   rw[hE]at hfin
   simp[-List.getD_eq_getElem?_getD, -getElem?_pos,q2,hnm,b3,p3,hne0,hpos2,hdef]
   exact Ret.one hfin
end Go.Proofs.YtghhphdkojjalaaGreatDoor
namespace Go.Proofs.YtghhphdkojjalaaGreatDoor
open Go.Abs
attribute [local simp] K_0 L_0 q_ z_4 l_0 M_1 z_ y_2 t_9 c_7 j_7 m_9 c_ e_9 j_8 c_3 h_4 finish dropMarks resOf
 resList o_3 l_4 i_8 e_6 d_ c_1 n_5 j_ c_0 b_ a_9 c_4 c_2 f_7 f_5 c_6
 c_8 e_5 m_8 L_4 D_1 m_3 B_5 f_ M_0 s_un D_0 s_ c_9 d_2 q_7 r_9 j_6 z_2 r_3 K_5 B_ D_ L_1 l_6
 d_1 b_9 l_7 q_4 g_ i_2 m_0 m_7 m_4 m_6 a_7 d_0 f_6 e_4 e_2 j_5 j_1 i_4 e_1
 t_3 m_1 n_4 n_1 s_6 t_2 u_5 q_5 i_9 s_7 evArgs o_5 k_ l_8 f_3 g_9 v_2 ofValue ofValues isConst C_7 y_8 x_8 x_4
 A_0 z_3 C_0 y_3 z_1 B_0 C_2 z_8 C_6 A_5 A_6 y_ strBin bne C_3 B_3 B_6 convV evConv optArg a_6 argF B_4 s_9 q_8 p_ n_2 x_5
 t_4 p_4 l_2 k_0 i_0 g_1 j_4 g_5 d_8 y_5 u_0 i_5 k_1 okCells L_3 b_4 g_0 d_9 i_3 i_1 f_1
 i_6 j_0 l_ q_9 r_4 m_ t_6 s_5 n_0 t_ t_8 j_2 h_1 e_3 e_0 h_3 splice putElem k_8 i_ l_1 g_6
 t_7 e_8 bdV fill l_9 bsF setAll d_6 f_2 x_1 n_7 e_7 h_6 h_5 f_4 p_2 v_7 t_1 s_1 x_7 r_5 s_0 p_6 j_9
 q_3 x_2 C_4 p_5 g_8 d_7 p_3 v_8 p_0 u_2 h_8 z_5 q_0 n_3 y_4 u_4 u_3 C_5 l_5 r_1 d_4 n_ h_7 B_1
 q_6 C_1 A_8 B_7 g_7 r_7 q_1 y_7 y_6 y_9 x_6 u_1 l_3 u_7 s_4 deep List.getD_cons_zero List.getD_cons_succ List.getElem?_cons_zero
 List.getElem?_cons_succ List.getElem?_nil t_0 s_2 A_9 x_9 y_0 A_2 u_6 q_2 B_9 y_1 r_0 s_8 r_6 t_5 r_2 r_ n_6 m_5 z_7 z_6
 j_3 i_7 s_3 r_8 f_9 f_0 A_ C_8 A_4 C_9 ld26 sr26 al26 F_8 G_ F_9 bd26 ld4 sr4 und4 bd62 ap_6 ln30 lo30 ap30 bs30 ld35 sr35 Q_3 ia35 ln35
 sl35 ap35 bs35 ld22 T_ ia22 ib22 ln22 lo22 ap22 bs22 ld3 sr3 und3 ld37 sr37 al37 I_1 I_2 I_0 I_4 I_3 bd37 ld9 und9 ln9 ix9 ld49 sr49 al49 M_5 M_6 ld23 T_0 ia23 ib23 ln23 lo23
 ap23 bs23 ld45 sr45 al45 K_8 K_9 K_3 o_9 A_3 B_8 o_6 o_7 k_7 c_5 k_4 o_2 D_Rg
set_option maxRecDepth 100000
set_option linter.unusedSimpArgs false
set_option linter.unusedVariables false
set_option maxHeartbeats 4000000
theorem S_0{p:Prog}(hf:Fine p){n:Str}{d:Decl}(hd:declOf p n=some d):known p n=true∧kindOf n=2:=by
 have hk:=af_1 (M_8 hf.right (g_2 hd)).1
 rw[E_1 hd]at hk
 refine⟨?_,hk⟩
 have h1:=v_5 p n
 rw[hd]at h1
 unfold known
 rw[(aq_9 hk).1]
 simp only[Bool.true_and,Bool.or_eq_true]
 right
 cases hs:p.st n with
 |some s=>left;rfl
 |none=>
  rw[hs]at h1
  cases he:p.en n with
  |some e=>right;rfl
  |none=>rw[he]at h1;cases h1
theorem T_5{p:Prog}(hf:Fine p){n:Str}{d:Decl}(hd:declOf p n=some d):slotsD p n=sz p n:=by
 obtain⟨h1,h2⟩:=S_0 hf hd
 unfold slotsD val
 rw[if_pos h1,if_pos h2]
end Go.Proofs.YtghhphdkojjalaaGreatDoor
namespace Go.Proofs.YtghhphdkojjalaaGreatDoor
open Go.Abs
attribute [local simp] K_0 L_0 q_ z_4 l_0 M_1 z_ y_2 t_9 c_7 j_7 m_9 c_ e_9 j_8 c_3 h_4 finish dropMarks resOf
 resList o_3 l_4 i_8 e_6 d_ c_1 n_5 j_ c_0 b_ a_9 c_4 c_2 f_7 f_5 c_6
 c_8 e_5 m_8 L_4 D_1 m_3 B_5 f_ M_0 s_un D_0 s_ c_9 d_2 q_7 r_9 j_6 z_2 r_3 K_5 B_ D_ L_1 l_6
 d_1 b_9 l_7 q_4 g_ i_2 m_0 m_7 m_4 m_6 a_7 d_0 f_6 e_4 e_2 j_5 j_1 i_4 e_1
 t_3 m_1 n_4 n_1 s_6 t_2 u_5 q_5 i_9 s_7 evArgs o_5 k_ l_8 f_3 g_9 v_2 ofValue ofValues isConst C_7 y_8 x_8 x_4
 A_0 z_3 C_0 y_3 z_1 B_0 C_2 z_8 C_6 A_5 A_6 y_ strBin bne C_3 B_3 B_6 convV evConv optArg a_6 argF B_4 s_9 q_8 p_ n_2 x_5
 t_4 p_4 l_2 k_0 i_0 g_1 j_4 g_5 d_8 y_5 u_0 i_5 k_1 okCells L_3 b_4 g_0 d_9 i_3 i_1 f_1
 i_6 j_0 l_ q_9 r_4 m_ t_6 s_5 n_0 t_ t_8 j_2 h_1 e_3 e_0 h_3 splice putElem k_8 i_ l_1 g_6
 t_7 e_8 bdV fill l_9 bsF setAll d_6 f_2 x_1 n_7 e_7 h_6 h_5 f_4 p_2 v_7 t_1 s_1 x_7 r_5 s_0 p_6 j_9
 q_3 x_2 C_4 p_5 g_8 d_7 p_3 v_8 p_0 u_2 h_8 z_5 q_0 n_3 y_4 u_4 u_3 C_5 l_5 r_1 d_4 n_ h_7 B_1
 q_6 C_1 A_8 B_7 g_7 r_7 q_1 y_7 y_6 y_9 x_6 u_1 l_3 u_7 s_4 deep List.getD_cons_zero List.getD_cons_succ List.getElem?_cons_zero
 List.getElem?_cons_succ List.getElem?_nil t_0 s_2 A_9 x_9 y_0 A_2 u_6 q_2 B_9 y_1 r_0 s_8 r_6 t_5 r_2 r_ n_6 m_5 z_7 z_6
 j_3 i_7 s_3 r_8 f_9 f_0 A_ C_8 A_4 C_9 ld26 sr26 al26 F_8 G_ F_9 bd26 ld4 sr4 und4 ap_6 ln30 lo30 ap30 bs30 ld29 sr29 al29 ld3 sr3 und3
 o_9 A_3 B_8 o_6 o_7 k_7 c_5 k_4 o_2 ld9 und9 ln9 ix9 ld37 sr37 al37 I_1 I_2 I_0 I_4 I_3 bd37 ld45 sr45 al45 K_8 K_9 K_3 ld22 T_
 ia22 ib22 ln22 lo22 ap22 bs22 ld23 T_0 ia23 ib23 ln23 lo23 ap23 bs23 D_Rg
set_option maxRecDepth 100000
set_option linter.unusedSimpArgs false
set_option linter.unusedVariables false
set_option maxHeartbeats 4000000
theorem pe29{c:Bool}:binV tb .eql 29 c .nilp .nilp=some (.bool true):=by rw[a_];kernel_rfl
theorem bv_2{c:Bool}{k:Nat}:binV tb .eql 29 c (.ptr k 0) .nilp=some (.bool false):=by rw[a_];kernel_rfl
attribute [local simp] pe29 bv_2
attribute [local simp] pe29 bv_2
theorem H_2{p:Prog}(hf:Fine p){st:St}{r m:Nat}{D:List (Str×Nat)}{Dc:Nat→Decl}(h:TabOf p st r m D Dc)(t:Str):slotsM D Dc t=((slotsD p t:Nat):Int):=by
 unfold slotsM slotsD val
 rw[w_8 h.ms]
 cases hk:known p t with
 |false=>simp
 |true=>
  by_cases k2:kindOf t=2
  ·obtain⟨d,hd⟩:=X_6 hk k2
   obtain⟨k,hg⟩:=h.ms.dom _ _ hd
   simp only[k2,if_true,hg,Bool.true_eq_false,if_false]
   exact(h.all t k hg).2.1
  ·simp[k2]
theorem R_6{p:Prog}(hf:Fine p){st:St}{r m:Nat}{D:List (Str×Nat)}{Dc:Nat→Decl}(h:TabOf p st r m D Dc)(t:Str):dropsM D Dc t=dropsF p t:=by
 unfold dropsM dropsF
 rw[w_8 h.ms]
 by_cases k3:kindOf t=3
 ·rw[if_pos k3,if_pos k3]
 ·rw[if_neg k3,if_neg k3]
  by_cases k2:kindOf t=2
  ·rw[if_pos k2,if_pos k2]
   cases hk:known p t with
   |false=>rfl
   |true=>
    obtain⟨d,hd⟩:=X_6 hk k2
    obtain⟨k,hg⟩:=h.ms.dom _ _ hd
    simp only[hg,Bool.true_and]
    exact(h.all t k hg).2.2
  ·rw[if_neg k2,if_neg k2]
theorem N_6:∀l:List Struct,V.bulks ((l.map Struct.nrm).map Struct.v)=V.bulks (l.map Struct.v)
 |[]=>rfl
 |x::l=>by
  have h:(Struct.nrm x).v.bulk=x.v.bulk:=by rw[L_,L_];rfl
  simp only[List.map_cons,V.bulks,h,N_6 l]
theorem ac_(p:Prog)(t:Str):((p.structs.map Struct.nrm).find? fun x=>x.name==t)=(p.st t).map Struct.nrm:=by
 rw[List.find?_map];rfl
theorem ad_9{w t:Str}(hw:w.length=4):(w ++t).drop 4=t:=by rw[←hw];simp
theorem as_0(w t:Str):hasPre (w ++t) w=true:=hasPre_iff.2 ⟨t,rfl⟩
theorem aU_6(t:Str):kindOf (boxS ++t)=0∨kindOf (boxS ++t)=3:=by
 have hb:=as_0 boxS t
 cases hp:plain (boxS ++t)with
 |false=>
  refine .inl (Q_6 hp ?_ ?_)
  ·cases h:hasPre (boxS ++t) refS with
   |false=>rfl
   |true=>rw[aE_ h]at hb;cases hb
  ·cases h:hasPre (boxS ++t) mutS with
   |false=>rfl
   |true=>rw[aD_1 h]at hb;cases hb
 |true=>
  have hw:=ai_9 (p:=boxS) (by decide) hb
  have h2:(boxS ++t==intS)=false:=by simpa using hw.2
  refine .inr ?_
  rw[O_7 hp,h2,hw.1];rfl
theorem Z_3{p:Prog}{w t:Str}(hw:w.length=4)(hp:plain t=true)(h3:(3:Int)≤kindOf (w ++t)):known p (w ++t)=known p t:=by
 have h0:=P_0 hp
 obtain⟨-, -,e⟩:=av_2 h3
 rw[ad_9 hw]at e
 have e1:baseOf (w ++t)=baseOf t:=by
  unfold baseOf
  have a1:(kindOf (w ++t)==0)=false:=by simp;omega
  have a2:(kindOf t==0)=false:=by simpa using h0
  rw[a1,a2,e]
 unfold known;rw[e1]
theorem ah_9(p:Prog):known p []=false:=by
 have:kindOf []=0:=Q_6 N_4 (by decide) (by decide)
 unfold known baseOf;rw[this];rfl
theorem aP_8(p:Prog){t:Str}(hp:plain t=true):∃B ok,withW boxS t=(B,ok)∧B.length≤t.length+4∧known p B=(ok&&known p t)∧slotsD p B=(if(ok&&known p t)=true then 1 else 0)∧dropsF p B=(ok&&known p t)∧copied p B=false:=by
 rcases aU_6 t with h|h
 ·have e:withW boxS t=([],false):=by unfold withW;rw[h,hp];rfl
  have hk:kindOf []=0:=Q_6 N_4 (by decide) (by decide)
  refine⟨[],false,e,by simp,ah_9 p,?_,?_,?_⟩
  ·unfold slotsD;rw[ah_9];rfl
  ·unfold dropsF;rw[hk];rfl
  ·unfold copied;rw[ah_9];rfl
 ·have e:withW boxS t=(boxS ++t,true):=by unfold withW;rw[h,hp];rfl
  have hk:=Z_3 (p:=p) rfl hp (show(3:Int)≤kindOf (boxS ++t)by omega)
  refine⟨boxS ++t,true,e,by simp[boxS],by rw[hk];rfl,?_,?_,?_⟩
  ·unfold slotsD val;rw[hk,h];simp
  ·unfold dropsF;rw[hk,h];simp
  ·unfold copied;rw[h];simp
theorem au_7{p:Prog}{t:Str}(h:known p t=true):1≤slotsD p t:=by
 unfold slotsD val;rw[if_pos h]
 split
 ·exact aK_9 p t
 ·exact Nat.le_refl _
theorem aB_0{p:Prog}(hf:Fine p){t:Str}{s:Struct}{e:Enum}(h1:p.st t=some s)(h2:p.en t=some e):False:=by
 have hn:=hf.names
 unfold declsOf at hn
 rw[List.map_append]at hn
 have h:=(List.nodup_append.1 hn).2.2
 have e1:s.name=t:=by simpa using List.find?_some h1
 have e2:e.name=t:=by simpa using List.find?_some h2
 refine h (Decl.ofS s).name (List.mem_map.2 ⟨_,List.mem_map.2 ⟨s,List.mem_of_find?_eq_some h1,rfl⟩,rfl⟩) (Decl.ofE e).name (List.mem_map.2 ⟨_,List.mem_map.2 ⟨e,List.mem_of_find?_eq_some h2,rfl⟩,rfl⟩) ?_
 show s.name=e.name
 rw[e1,e2]
theorem aO_9{p:Prog}{st:St}{r m:Nat}{D:List (Str×Nat)}{Dc:Nat→Decl}(h:TabOf p st r m D Dc)(t:Str):(declOf p t=none∧getM D t=none)∨∃d k,declOf p t=some d∧getM D t=some k∧(Dc k).enum=d.enum∧(Dc k).parts=d.parts:=by
 cases hd:declOf p t with
 |none=>
  refine .inl ⟨rfl,?_⟩
  cases hg:getM D t with
  |none=>rfl
  |some k=>
   obtain⟨d0,s,b,e, -⟩:=h.ms.ok t k hg
   rw[hd]at e;cases e
 |some d=>
  obtain⟨k,hk⟩:=h.ms.dom t d hd
  obtain⟨d0,s,b,e,e2, -⟩:=h.ms.ok t k hk
  rw[hd]at e;cases e
  exact .inr ⟨_,k,rfl,hk,by rw[e2],by rw[e2]⟩
theorem bo_6{p:Prog}(hf:Fine p){st:St}{r m:Nat}{D:List (Str×Nat)}{Dc:Nat→Decl}(h:TabOf p st r m D Dc):∀l:List Var,sumS D Dc l=((sumD p l:Nat):Int)
 |[]=>rfl
 |x::l=>by
  have ih:=bo_6 hf h l
  unfold sumS sumD at *
  simp only[List.map_cons,List.sum_cons]
  rw[ih,H_2 hf h];omega
theorem aP_0{p:Prog}(hf:Fine p){st:St}{r m:Nat}{D:List (Str×Nat)}{Dc:Nat→Decl}(h:TabOf p st r m D Dc)(t n:Str):fieldM D Dc t n=fieldD p t n:=by
 unfold fieldM fieldD
 rcases aO_9 h t with⟨e1,e2⟩|⟨d,k,e1,e2,e3,e4⟩
 ·rw[e2]
  rw[v_5]at e1
  cases hs:p.st t with
  |none=>rfl
  |some s=>rw[hs]at e1;cases e1
 ·rw[e2]
  rw[v_5]at e1
  cases hs:p.st t with
  |none=>
   rw[hs]at e1
   cases he:p.en t with
   |none=>rw[he]at e1;cases e1
   |some e=>
    rw[he]at e1;cases e1
    simp only[e3,Decl.ofE]
    rfl
  |some s=>
   rw[hs]at e1;cases e1
   simp only[e3,e4,Decl.ofS,if_true,bo_6 hf h]
theorem am_5{p:Prog}(hf:Fine p){st:St}{r m:Nat}{D:List (Str×Nat)}{Dc:Nat→Decl}(h:TabOf p st r m D Dc)(t n:Str):variantM D Dc t n=variantD p t n:=by
 unfold variantM variantD
 rcases aO_9 h t with⟨e1,e2⟩|⟨d,k,e1,e2,e3,e4⟩
 ·rw[e2]
  rw[v_5]at e1
  cases hs:p.st t with
  |some s=>rw[hs]at e1;cases e1
  |none=>
   rw[hs]at e1
   cases he:p.en t with
   |none=>rfl
   |some e=>rw[he]at e1;cases e1
 ·rw[e2]
  rw[v_5]at e1
  cases hs:p.st t with
  |none=>
   rw[hs]at e1
   cases he:p.en t with
   |none=>rw[he]at e1;cases e1
   |some e=>
    rw[he]at e1;cases e1
    simp only[e3,e4,Decl.ofE,if_true]
  |some s=>
   rw[hs]at e1;cases e1
   cases he:p.en t with
   |none=>simp only[e3,Decl.ofS];rfl
   |some e=>exact(aB_0 hf hs he).elim
theorem TabOf.trim{p:Prog}{st:St}{r m:Nat}{D:List (Str×Nat)}{Dc:Nat→Decl}(h:TabOf p st r m D Dc)(hsz:p.size≤1048576):∃Dc',TabOf p st r m D Dc'∧∀k,(Dc' k).parts.length≤1048576∧∀v∈(Dc' k).parts,v.type.length≤1048576:=by
 classical
 let D0:Decl:=⟨[],0,false,false,none,[],0,false⟩
 refine⟨fun k=>if∃n,getM D n=some k then Dc k else D0,?_,?_⟩
 ·have e:∀n k,getM D n=some k→(if∃n,getM D n=some k then Dc k else D0)=Dc k:=fun n k hk=>if_pos ⟨n,hk⟩
  refine⟨⟨⟨h.ms.tab.box,h.ms.tab.ents,fun n k hk=> ?_⟩,h.ms.base,h.ms.prot,fun n k hk=> ?_,h.ms.dom,h.ms.inj⟩,fun n k hk=> ?_,h.box⟩
  ·show st.store[k]? =some (.box (if∃n,getM D n=some k then Dc k else D0).cs)
   rw[e n k hk];exact h.ms.tab.decl n k hk
  ·show∃d0 s b,declOf p n=some d0∧(if∃n,getM D n=some k then Dc k else D0)={d0 with slots:=s,drops:=b}∧Meas p n s b
   rw[e n k hk];exact h.ms.ok n k hk
  ·show sz p n≤32∧(if∃n,getM D n=some k then Dc k else D0).slots=(sz p n:Nat)∧(if∃n,getM D n=some k then Dc k else D0).drops=need p n
   rw[e n k hk];exact h.all n k hk
 ·intro k
  show(if∃n,getM D n=some k then Dc k else D0).parts.length≤1048576∧∀v∈(if∃n,getM D n=some k then Dc k else D0).parts,v.type.length≤1048576
  by_cases hk:∃n,getM D n=some k
  ·rw[if_pos hk]
   obtain⟨n,hk⟩:=hk
   obtain⟨d0,s,b,e1,e2, -⟩:=h.ms.ok n k hk
   have h1:=H_7 hsz (g_2 e1)
   rw[e2]
   show d0.parts.length≤1048576∧∀v∈d0.parts,v.type.length≤1048576
   have h2:=d_3 d0.parts
   refine⟨by omega,fun v hv=> ?_⟩
   have h3:=E_9 hv
   rw[Var.size,P_9]at h3
   omega
  ·rw[if_neg hk]
   exact⟨by decide,fun v hv=>by cases hv⟩
end Go.Proofs.YtghhphdkojjalaaGreatDoor
namespace Go.Proofs.YtghhphdkojjalaaGreatDoor
open Go.Abs
set_option maxRecDepth 100000
def cutP(p:Prog):Prog:=⟨none,p.structs,none,p.enums,none,[]⟩
def revP(p:Prog):Prog:=⟨none,p.structs.reverse,none,p.enums.reverse,none,[]⟩
theorem bt_5(p:Prog):revP (cutP p)=revP p:=rfl
end Go.Proofs.YtghhphdkojjalaaGreatDoor
