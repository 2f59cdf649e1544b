/- A shared part of the proofs of the Check statements: a verified evaluator, the code in parts, the functions walked. -/
import Derived.Test.YtbbeelalcamgjaaGreatDoor3
set_option linter.unusedVariables false
set_option linter.unusedSimpArgs false
set_option linter.unnecessarySimpa false
set_option linter.all false
namespace Go.Proofs.YtbbeelalcamgjaaGreatDoor
noncomputable section
open Go.Abs
set_option maxRecDepth 1000000
set_option linter.unusedSimpArgs false
variable {rd:Option Nat} {f:Nat→V} {m:List Nat} {st:St}
def c11_0:=bodyOf Tryz.f11
def c11_2:=kid c11_0 1
def c11_10:=kid c11_2 1
def c11_11:=kid c11_10 0
def c11_13:=kid c11_11 1
def c11_14:=kid c11_13 0
def c11_15:=kid c11_14 0
theorem e11_14:c11_14= .loop c11_15:=rfl
def c14_0:=bodyOf Tryz.f14
def run14{args:List V}{st:St}(ha:args.length≤66):=a_6 (T:=tb) (fid:=14) (st:=st) (by rw[a_];exact Tryz.func14) (by rw[a_];rfl) (c:=c14_0) (rs:= #[.tmp 2, .tmp 3]) rfl rfl rfl ha
def c14_2:=kid c14_0 1
def c14_3:=kid c14_2 0
def c14_5:=kid c14_3 1
def c14_6:=kid c14_5 0
def c14_10:=kid c14_2 1
def c14_12:=kid c14_10 1
def c14_14:=kid c14_12 1
def c14_15:=kid c14_14 0
def c14_17:=kid c14_15 1
def c14_18:=kid c14_17 0
noncomputable def o14_19:=opsOf (kid c14_18 0)
def c14_20:=kid c14_18 1
noncomputable def o14_21:=opsOf (kid c14_20 0)
def c14_22:=kid c14_14 1
def c14_24:=kid c14_22 1
def c14_25:=kid c14_24 0
def c14_27:=kid c14_25 1
def c14_28:=kid c14_27 0
def c14_30:=kid c14_28 1
def c14_31:=kid c14_30 0
def c14_32:=kid c14_31 0
def c14_34:=kid c14_32 1
def c14_35:=kid c14_34 0
def c14_38:=kid c14_34 1
def c14_39:=kid c14_38 0
def c14_40:=kid c14_39 0
def c14_42:=kid c14_40 1
def c14_44:=kid c14_42 1
def c14_49:=kid c14_24 1
def c14_50:=kid c14_49 0
def c14_52:=kid c14_50 1
def c14_53:=kid c14_52 0
def c14_57:=kid c14_49 1
noncomputable def l14_21:{l:List DStep//drawAt o14_21 [(0,0),(1,1),(2,3),(3,7),(4,0),(5,16),(6,48),(7,112),(8,0),(9,511)]=l}:=by refine⟨?_,?h⟩;case h=>simp only[drawAt,entsAt,o14_21,c14_20,c14_18,c14_17,c14_15,c14_14,c14_12,c14_10,c14_2,c14_0,opsOf,kid,bodyOf,Tryz.f14,Option.getD_some,List.map,stepOf,Option.map,List.getElem?_toArray,List.getElem?_cons_succ,List.getElem?_cons_zero,Option.bind_some];rfl
theorem q14_21:D tb (.region 7 o14_21 true) rd 66 f m st=regB (evDraws tb (run tb) l14_21.1 [] (mk 66 f m) st):=q_3 [(0,0),(1,1),(2,3),(3,7),(4,0),(5,16),(6,48),(7,112),(8,0),(9,511)] (by kernel_rfl) l14_21.2
theorem p14_31:D tb c14_31 rd 66 f m st=loopK tb rd c14_31 66 f m st fun e fr st=>some (e,fr,st):=b_2
theorem e14_31:c14_31= .loop c14_32:=rfl
theorem w14_31:writes c14_32=some [45,46,47,10,48,49,50,51,52,53,54,55,56,57,58,59,8,60,44]:=by kernel_rfl
noncomputable def L14_1:Lt (kid c14_0 0):= .mk _
noncomputable def L14_4:Lt (kid c14_3 0):= .mk _
noncomputable def L14_7:Lt (kid c14_6 0):= .mk _
noncomputable def L14_11:Lt (kid c14_10 0):= .mk _
noncomputable def L14_13:Lt (kid c14_12 0):= .mk _
noncomputable def L14_16:Lt (kid c14_15 0):= .mk _
noncomputable def L14_19:Lt (kid c14_18 0):= .mk _
theorem M14_19:lightOf o14_19=L14_19.p:=Option.some.inj L14_19.h
noncomputable def L14_23:Lt (kid c14_22 0):= .mk _
noncomputable def L14_26:Lt (kid c14_25 0):= .mk _
noncomputable def L14_29:Lt (kid c14_28 0):= .mk _
noncomputable def L14_33:Lt (kid c14_32 0):= .mk _
noncomputable def L14_41:Lt (kid c14_40 0):= .mk _
noncomputable def L14_43:Lt (kid c14_42 0):= .mk _
noncomputable def L14_45:Lt (kid c14_44 0):= .mk _
noncomputable def L14_47:Lt (kid c14_38 1):= .mk _
noncomputable def L14_51:Lt (kid c14_50 0):= .mk _
noncomputable def L14_54:Lt (kid c14_53 0):= .mk _
noncomputable def L14_58:Lt (kid c14_57 0):= .mk _
theorem S14:D tb c14_0=D tb (.seq (Rg L14_1) c14_2)∧D tb c14_2=D tb (.seq c14_3 c14_10)∧D tb c14_3=D tb (.seq (Rg L14_4) c14_5)∧D tb c14_5=D tb (.cond (.tmp 13) c14_6 .skip)∧D tb c14_6=D tb (.seq (Rg L14_7) .ret)∧D tb c14_10=D tb (.seq (Rg L14_11) c14_12)∧D tb c14_12=D tb (.seq (Rg L14_13) c14_14)∧D tb c14_14=D tb (.seq c14_15 c14_22)∧D tb c14_15=D tb (.seq (Rg L14_16) c14_17)∧D tb c14_17=D tb (.block 0 c14_18)∧D tb c14_18=D tb (.rangeFunc (.tmp 24) #[25,26] (.region 6 o14_19 false) c14_20)∧D tb c14_20=D tb (.block 1 (.region 7 o14_21 true))∧D tb c14_22=D tb (.seq (Rg L14_23) c14_24)∧D tb c14_24=D tb (.seq c14_25 c14_49)∧D tb c14_25=D tb (.seq (Rg L14_26) c14_27)∧D tb c14_27=D tb (.cond (.tmp 41) c14_28 .skip)∧D tb c14_28=D tb (.seq (Rg L14_29) c14_30)∧D tb c14_30=D tb (.block 2 c14_31)∧D tb c14_32=D tb (.seq (Rg L14_33) c14_34)∧D tb c14_34=D tb (.seq c14_35 c14_38)∧D tb c14_35=D tb (.cond (.tmp 45) .skip (.exit 2))∧D tb c14_38=D tb (.seq c14_39 (Rg L14_47))∧D tb c14_39=D tb (.block 3 c14_40)∧D tb c14_40=D tb (.seq (Rg L14_41) c14_42)∧D tb c14_42=D tb (.seq (Rg L14_43) c14_44)∧D tb c14_44=D tb (.cond (.tmp 51) (Rg L14_45) .skip)∧D tb c14_49=D tb (.seq c14_50 c14_57)∧D tb c14_50=D tb (.seq (Rg L14_51) c14_52)∧D tb c14_52=D tb (.cond (.tmp 63) c14_53 .skip)∧D tb c14_53=D tb (.seq (Rg L14_54) .ret)∧D tb c14_57=D tb (.seq (Rg L14_58) .ret):=⟨rfl,rfl,rfl,rfl,rfl,rfl,rfl,rfl,rfl,rfl,rfl,rfl,rfl,rfl,rfl,rfl,rfl,rfl,rfl,rfl,rfl,rfl,rfl,rfl,rfl,rfl,rfl,rfl,rfl,rfl,rfl⟩
def c15_0:=bodyOf Tryz.f15
def c15_2:=kid c15_0 1
def c15_10:=kid c15_2 1
def c15_12:=kid c15_10 1
def c15_14:=kid c15_12 1
def c15_16:=kid c15_14 1
def c15_18:=kid c15_16 1
def c15_19:=kid c15_18 0
def c15_21:=kid c15_19 1
def c15_22:=kid c15_21 0
def c15_23:=kid c15_22 0
def c15_37:=kid c15_18 1
def c15_38:=kid c15_37 0
def c15_40:=kid c15_38 1
def c15_41:=kid c15_40 0
def c15_42:=kid c15_41 0
def c15_56:=kid c15_37 1
def c15_57:=kid c15_56 0
def c15_59:=kid c15_57 1
def c15_60:=kid c15_59 0
def c15_61:=kid c15_60 0
def c15_77:=kid c15_56 1
def c15_85:=kid c15_77 1
def c15_86:=kid c15_85 0
def c15_88:=kid c15_86 1
def c15_89:=kid c15_88 0
def c15_90:=kid c15_89 0
theorem e15_22:c15_22= .loop c15_23:=rfl
theorem e15_41:c15_41= .loop c15_42:=rfl
theorem e15_60:c15_60= .loop c15_61:=rfl
theorem e15_89:c15_89= .loop c15_90:=rfl
def c25_0:=bodyOf Tryz.f25
def run25{args:List V}{st:St}(ha:args.length≤26):=a_6 (T:=tb) (fid:=25) (st:=st) (by rw[a_];exact Tryz.func25) (by rw[a_];rfl) (c:=c25_0) (rs:= #[.tmp 4]) rfl rfl rfl ha
def c25_2:=kid c25_0 1
def c25_4:=kid c25_2 1
noncomputable def L25_1:Lt (kid c25_0 0):= .mk _
noncomputable def L25_3:Lt (kid c25_2 0):= .mk _
noncomputable def L25_5:Lt (kid c25_4 0):= .mk _
theorem S25:D tb c25_0=D tb (.seq (Rg L25_1) c25_2)∧D tb c25_2=D tb (.seq (Rg L25_3) c25_4)∧D tb c25_4=D tb (.seq (Rg L25_5) .ret):=⟨rfl,rfl,rfl⟩
def c26_0:=bodyOf Tryz.f26
def run26{args:List V}{st:St}(ha:args.length≤50):=m_0 (T:=tb) (fid:=26) (st:=st) (by rw[a_];exact Tryz.func26) (by rw[a_];rfl) (c:=c26_0) (rs:= #[.tmp 6, .tmp 7, .tmp 8]) rfl rfl rfl ha
def c26_2:=kid c26_0 1
def c26_4:=kid c26_2 1
def c26_5:=kid c26_4 0
def c26_7:=kid c26_5 1
def c26_8:=kid c26_7 0
def c26_12:=kid c26_4 1
def c26_14:=kid c26_12 1
def c26_15:=kid c26_14 0
def c26_17:=kid c26_15 1
def c26_18:=kid c26_17 0
def c26_19:=kid c26_18 0
def c26_21:=kid c26_19 1
def c26_22:=kid c26_21 0
def c26_25:=kid c26_21 1
def c26_26:=kid c26_25 0
def c26_27:=kid c26_26 0
def c26_31:=kid c26_14 1
theorem p26_18:D tb c26_18 rd 50 f m st=loopK tb rd c26_18 50 f m st fun e fr st=>some (e,fr,st):=b_2
theorem e26_18:c26_18= .loop c26_19:=rfl
theorem w26_18:writes c26_19=some [31,32,33,13,34,35,36,37,38,39,11,40,30]:=by kernel_rfl
noncomputable def L26_1:Lt (kid c26_0 0):= .mk _
noncomputable def L26_3:Lt (kid c26_2 0):= .mk _
noncomputable def L26_6:Lt (kid c26_5 0):= .mk _
noncomputable def L26_9:Lt (kid c26_8 0):= .mk _
noncomputable def L26_13:Lt (kid c26_12 0):= .mk _
noncomputable def L26_16:Lt (kid c26_15 0):= .mk _
noncomputable def L26_20:Lt (kid c26_19 0):= .mk _
noncomputable def L26_28:Lt (kid c26_27 0):= .mk _
noncomputable def L26_29:Lt (kid c26_27 1):= .mk _
noncomputable def L26_30:Lt (kid c26_25 1):= .mk _
noncomputable def L26_32:Lt (kid c26_31 0):= .mk _
theorem S26:D tb c26_0=D tb (.seq (Rg L26_1) c26_2)∧D tb c26_2=D tb (.seq (Rg L26_3) c26_4)∧D tb c26_4=D tb (.seq c26_5 c26_12)∧D tb c26_5=D tb (.seq (Rg L26_6) c26_7)∧D tb c26_7=D tb (.cond (.tmp 22) c26_8 .skip)∧D tb c26_8=D tb (.seq (Rg L26_9) .ret)∧D tb c26_12=D tb (.seq (Rg L26_13) c26_14)∧D tb c26_14=D tb (.seq c26_15 c26_31)∧D tb c26_15=D tb (.seq (Rg L26_16) c26_17)∧D tb c26_17=D tb (.block 0 c26_18)∧D tb c26_19=D tb (.seq (Rg L26_20) c26_21)∧D tb c26_21=D tb (.seq c26_22 c26_25)∧D tb c26_22=D tb (.cond (.tmp 31) .skip (.exit 0))∧D tb c26_25=D tb (.seq c26_26 (Rg L26_30))∧D tb c26_26=D tb (.block 1 c26_27)∧D tb c26_27=D tb (.seq (Rg L26_28) (Rg L26_29))∧D tb c26_31=D tb (.seq (Rg L26_32) .ret):=⟨rfl,rfl,rfl,rfl,rfl,rfl,rfl,rfl,rfl,rfl,rfl,rfl,rfl,rfl,rfl,rfl,rfl⟩
def c37_0:=bodyOf Tryz.f37
def run37{args:List V}{st:St}(ha:args.length≤49):=a_6 (T:=tb) (fid:=37) (st:=st) (by rw[a_];exact Tryz.func37) (by rw[a_];rfl) (c:=c37_0) (rs:= #[.tmp 2]) rfl rfl rfl ha
def c37_2:=kid c37_0 1
def c37_4:=kid c37_2 1
def c37_5:=kid c37_4 0
def c37_7:=kid c37_5 1
def c37_8:=kid c37_7 0
def c37_9:=kid c37_8 0
def c37_11:=kid c37_9 1
def c37_12:=kid c37_11 0
def c37_15:=kid c37_11 1
def c37_16:=kid c37_15 0
def c37_17:=kid c37_16 0
def c37_21:=kid c37_4 1
def c37_22:=kid c37_21 0
def c37_24:=kid c37_22 1
def c37_25:=kid c37_24 0
def c37_26:=kid c37_25 0
def c37_28:=kid c37_26 1
def c37_29:=kid c37_28 0
def c37_32:=kid c37_28 1
def c37_33:=kid c37_32 0
def c37_34:=kid c37_33 0
def c37_38:=kid c37_21 1
theorem p37_8:D tb c37_8 rd 49 f m st=loopK tb rd c37_8 49 f m st fun e fr st=>some (e,fr,st):=b_2
theorem e37_8:c37_8= .loop c37_9:=rfl
theorem w37_8:writes c37_9=some [12,13,14,5,15,16,17,18,19,20,21,22,23,24,25,26,27,3,28,11]:=by kernel_rfl
theorem p37_25:D tb c37_25 rd 49 f m st=loopK tb rd c37_25 49 f m st fun e fr st=>some (e,fr,st):=b_2
theorem e37_25:c37_25= .loop c37_26:=rfl
theorem w37_25:writes c37_26=some [33,34,35,7,36,37,38,39,40,41,42,43,44,45,46,3,47,32]:=by kernel_rfl
noncomputable def L37_1:Lt (kid c37_0 0):= .mk _
noncomputable def L37_3:Lt (kid c37_2 0):= .mk _
noncomputable def L37_6:Lt (kid c37_5 0):= .mk _
noncomputable def L37_10:Lt (kid c37_9 0):= .mk _
noncomputable def L37_18:Lt (kid c37_17 0):= .mk _
noncomputable def L37_19:Lt (kid c37_17 1):= .mk _
noncomputable def L37_20:Lt (kid c37_15 1):= .mk _
noncomputable def L37_23:Lt (kid c37_22 0):= .mk _
noncomputable def L37_27:Lt (kid c37_26 0):= .mk _
noncomputable def L37_35:Lt (kid c37_34 0):= .mk _
noncomputable def L37_36:Lt (kid c37_34 1):= .mk _
noncomputable def L37_37:Lt (kid c37_32 1):= .mk _
noncomputable def L37_39:Lt (kid c37_38 0):= .mk _
theorem S37:D tb c37_0=D tb (.seq (Rg L37_1) c37_2)∧D tb c37_2=D tb (.seq (Rg L37_3) c37_4)∧D tb c37_4=D tb (.seq c37_5 c37_21)∧D tb c37_5=D tb (.seq (Rg L37_6) c37_7)∧D tb c37_7=D tb (.block 0 c37_8)∧D tb c37_9=D tb (.seq (Rg L37_10) c37_11)∧D tb c37_11=D tb (.seq c37_12 c37_15)∧D tb c37_12=D tb (.cond (.tmp 12) .skip (.exit 0))∧D tb c37_15=D tb (.seq c37_16 (Rg L37_20))∧D tb c37_16=D tb (.block 1 c37_17)∧D tb c37_17=D tb (.seq (Rg L37_18) (Rg L37_19))∧D tb c37_21=D tb (.seq c37_22 c37_38)∧D tb c37_22=D tb (.seq (Rg L37_23) c37_24)∧D tb c37_24=D tb (.block 2 c37_25)∧D tb c37_26=D tb (.seq (Rg L37_27) c37_28)∧D tb c37_28=D tb (.seq c37_29 c37_32)∧D tb c37_29=D tb (.cond (.tmp 33) .skip (.exit 2))∧D tb c37_32=D tb (.seq c37_33 (Rg L37_37))∧D tb c37_33=D tb (.block 3 c37_34)∧D tb c37_34=D tb (.seq (Rg L37_35) (Rg L37_36))∧D tb c37_38=D tb (.seq (Rg L37_39) .ret):=⟨rfl,rfl,rfl,rfl,rfl,rfl,rfl,rfl,rfl,rfl,rfl,rfl,rfl,rfl,rfl,rfl,rfl,rfl,rfl,rfl,rfl⟩
def c38_0:=bodyOf Tryz.f38
def run38{args:List V}{st:St}(ha:args.length≤4):=a_6 (T:=tb) (fid:=38) (st:=st) (by rw[a_];exact Tryz.func38) (by rw[a_];rfl) (c:=c38_0) (rs:= #[.tmp 2]) rfl rfl rfl ha
def c38_2:=kid c38_0 1
noncomputable def L38_1:Lt (kid c38_0 0):= .mk _
noncomputable def L38_3:Lt (kid c38_2 0):= .mk _
theorem S38:D tb c38_0=D tb (.seq (Rg L38_1) c38_2)∧D tb c38_2=D tb (.seq (Rg L38_3) .ret):=⟨rfl,rfl⟩
def c39_0:=bodyOf Tryz.f39
def run39{args:List V}{st:St}(ha:args.length≤85):=m_0 (T:=tb) (fid:=39) (st:=st) (by rw[a_];exact Tryz.func39) (by rw[a_];rfl) (c:=c39_0) (rs:= #[.tmp 4]) rfl rfl rfl ha
def c39_2:=kid c39_0 1
def c39_4:=kid c39_2 1
def c39_6:=kid c39_4 1
def c39_7:=kid c39_6 0
def c39_9:=kid c39_7 1
def c39_10:=kid c39_9 0
def c39_11:=kid c39_10 0
def c39_13:=kid c39_11 1
def c39_14:=kid c39_13 0
def c39_17:=kid c39_13 1
def c39_18:=kid c39_17 0
def c39_19:=kid c39_18 0
def c39_21:=kid c39_19 1
def c39_22:=kid c39_21 0
def c39_24:=kid c39_22 1
def c39_27:=kid c39_21 1
def c39_29:=kid c39_27 1
def c39_31:=kid c39_29 1
def c39_32:=kid c39_31 0
def c39_33:=kid c39_32 0
def c39_35:=kid c39_33 1
def c39_36:=kid c39_35 0
def c39_39:=kid c39_35 1
def c39_40:=kid c39_39 0
def c39_41:=kid c39_40 0
def c39_43:=kid c39_41 1
def c39_44:=kid c39_43 0
noncomputable def o39_45:=opsOf (kid c39_44 0)
def c39_46:=kid c39_44 1
def c39_49:=kid c39_43 1
def c39_51:=kid c39_49 1
def c39_56:=kid c39_6 1
theorem p39_10:D tb c39_10 rd 85 f m st=loopK tb rd c39_10 85 f m st fun e fr st=>some (e,fr,st):=b_2
theorem e39_10:c39_10= .loop c39_11:=rfl
theorem w39_10:writes c39_11=some [15,16,17,8,18,19,20,21,22,23,24,25,26,27,28,29,30,31,5,32,33,34,35,36,37,38,39,40,41,42,43,44,45,46,10,9,47,48,49,50,51,52,53,54,55,56,57,58,59,60,61,62,63,5,64,65,66,67,68,69,70,71,72,73,74,75,76,77,78,79,80,81,5,82,42,83,14]:=by kernel_rfl
theorem p39_32:D tb c39_32 rd 85 f m st=loopK tb rd c39_32 85 f m st fun e fr st=>some (e,fr,st):=b_2
theorem e39_32:c39_32= .loop c39_33:=rfl
theorem w39_32:writes c39_33=some [43,44,45,46,10,9,47,48,49,50,51,52,53,54,55,56,57,58,59,60,61,62,63,5,64,65,66,67,68,69,70,71,72,73,74,75,76,77,78,79,80,81,5,82,42]:=by kernel_rfl
noncomputable def l39_45:{l:List DStep//drawAt o39_45 [(0,0),(1,1),(2,3),(3,7),(4,0),(5,16),(7,0),(6,63),(8,255)]=l}:=by refine⟨?_,?h⟩;case h=>simp only[drawAt,entsAt,o39_45,c39_44,c39_43,c39_41,c39_40,c39_39,c39_35,c39_33,c39_32,c39_31,c39_29,c39_27,c39_21,c39_19,c39_18,c39_17,c39_13,c39_11,c39_10,c39_9,c39_7,c39_6,c39_4,c39_2,c39_0,opsOf,kid,bodyOf,Tryz.f39,Option.getD_some,List.map,stepOf,Option.map,List.getElem?_toArray,List.getElem?_cons_succ,List.getElem?_cons_zero,Option.bind_some];rfl
theorem q39_45:D tb (.region 12 o39_45 true) rd 85 f m st=regB (evDraws tb (run tb) l39_45.1 [] (mk 85 f m) st):=q_3 [(0,0),(1,1),(2,3),(3,7),(4,0),(5,16),(7,0),(6,63),(8,255)] (by kernel_rfl) l39_45.2
noncomputable def L39_1:Lt (kid c39_0 0):= .mk _
noncomputable def L39_3:Lt (kid c39_2 0):= .mk _
noncomputable def L39_5:Lt (kid c39_4 0):= .mk _
noncomputable def L39_8:Lt (kid c39_7 0):= .mk _
noncomputable def L39_12:Lt (kid c39_11 0):= .mk _
noncomputable def L39_20:Lt (kid c39_19 0):= .mk _
noncomputable def L39_23:Lt (kid c39_22 0):= .mk _
noncomputable def L39_25:Lt (kid c39_24 0):= .mk _
noncomputable def L39_28:Lt (kid c39_27 0):= .mk _
noncomputable def L39_30:Lt (kid c39_29 0):= .mk _
noncomputable def L39_34:Lt (kid c39_33 0):= .mk _
noncomputable def L39_42:Lt (kid c39_41 0):= .mk _
noncomputable def L39_47:Lt (kid c39_46 0):= .mk _
noncomputable def L39_50:Lt (kid c39_49 0):= .mk _
noncomputable def L39_52:Lt (kid c39_51 0):= .mk _
noncomputable def L39_54:Lt (kid c39_39 1):= .mk _
noncomputable def L39_55:Lt (kid c39_17 1):= .mk _
noncomputable def L39_57:Lt (kid c39_56 0):= .mk _
theorem S39:D tb c39_0=D tb (.seq (Rg L39_1) c39_2)∧D tb c39_2=D tb (.seq (Rg L39_3) c39_4)∧D tb c39_4=D tb (.seq (Rg L39_5) c39_6)∧D tb c39_6=D tb (.seq c39_7 c39_56)∧D tb c39_7=D tb (.seq (Rg L39_8) c39_9)∧D tb c39_9=D tb (.block 0 c39_10)∧D tb c39_11=D tb (.seq (Rg L39_12) c39_13)∧D tb c39_13=D tb (.seq c39_14 c39_17)∧D tb c39_14=D tb (.cond (.tmp 15) .skip (.exit 0))∧D tb c39_17=D tb (.seq c39_18 (Rg L39_55))∧D tb c39_18=D tb (.block 1 c39_19)∧D tb c39_19=D tb (.seq (Rg L39_20) c39_21)∧D tb c39_21=D tb (.seq c39_22 c39_27)∧D tb c39_22=D tb (.seq (Rg L39_23) c39_24)∧D tb c39_24=D tb (.cond (.tmp 23) (Rg L39_25) .skip)∧D tb c39_27=D tb (.seq (Rg L39_28) c39_29)∧D tb c39_29=D tb (.seq (Rg L39_30) c39_31)∧D tb c39_31=D tb (.block 2 c39_32)∧D tb c39_33=D tb (.seq (Rg L39_34) c39_35)∧D tb c39_35=D tb (.seq c39_36 c39_39)∧D tb c39_36=D tb (.cond (.tmp 43) .skip (.exit 2))∧D tb c39_39=D tb (.seq c39_40 (Rg L39_54))∧D tb c39_40=D tb (.block 3 c39_41)∧D tb c39_41=D tb (.seq (Rg L39_42) c39_43)∧D tb c39_43=D tb (.seq c39_44 c39_49)∧D tb c39_44=D tb (.seq (.region 12 o39_45 true) c39_46)∧D tb c39_46=D tb (.cond (.tmp 55) (Rg L39_47) .skip)∧D tb c39_49=D tb (.seq (Rg L39_50) c39_51)∧D tb c39_51=D tb (.cond (.tmp 73) (Rg L39_52) .skip)∧D tb c39_56=D tb (.seq (Rg L39_57) .ret):=⟨rfl,rfl,rfl,rfl,rfl,rfl,rfl,rfl,rfl,rfl,rfl,rfl,rfl,rfl,rfl,rfl,rfl,rfl,rfl,rfl,rfl,rfl,rfl,rfl,rfl,rfl,rfl,rfl,rfl,rfl⟩
def c40_0:=bodyOf Tryz.f40
def run40{args:List V}{st:St}(ha:args.length≤109):=a_6 (T:=tb) (fid:=40) (st:=st) (by rw[a_];exact Tryz.func40) (by rw[a_];rfl) (c:=c40_0) (rs:= #[.tmp 6]) rfl rfl rfl ha
def c40_2:=kid c40_0 1
def c40_3:=kid c40_2 0
def c40_4:=kid c40_3 0
def c40_6:=kid c40_4 1
def c40_7:=kid c40_6 0
def c40_10:=kid c40_6 1
def c40_12:=kid c40_10 1
def c40_13:=kid c40_12 0
def c40_17:=kid c40_2 1
noncomputable def o40_18:=opsOf (kid c40_17 0)
def c40_19:=kid c40_17 1
def c40_20:=kid c40_19 0
def c40_22:=kid c40_20 1
def c40_23:=kid c40_22 0
def c40_24:=kid c40_23 0
def c40_26:=kid c40_24 1
def c40_27:=kid c40_26 0
def c40_30:=kid c40_26 1
def c40_31:=kid c40_30 0
def c40_32:=kid c40_31 0
def c40_34:=kid c40_32 1
def c40_35:=kid c40_34 0
noncomputable def o40_36:=opsOf (kid c40_35 0)
def c40_37:=kid c40_35 1
def c40_38:=kid c40_37 0
def c40_42:=kid c40_34 1
def c40_44:=kid c40_42 1
def c40_46:=kid c40_44 1
def c40_50:=kid c40_19 1
def c40_51:=kid c40_50 0
def c40_53:=kid c40_51 1
def c40_56:=kid c40_50 1
def c40_58:=kid c40_56 1
noncomputable def l40_18:{l:List DStep//drawAt o40_18 [(0,0),(1,1),(2,3),(3,7),(4,0),(5,31)]=l}:=by refine⟨?_,?h⟩;case h=>simp only[drawAt,entsAt,o40_18,c40_17,c40_2,c40_0,opsOf,kid,bodyOf,Tryz.f40,Option.getD_some,List.map,stepOf,Option.map,List.getElem?_toArray,List.getElem?_cons_succ,List.getElem?_cons_zero,Option.bind_some];rfl
theorem q40_18:D tb (.region 5 o40_18 true) rd 109 f m st=regB (evDraws tb (run tb) l40_18.1 [] (mk 109 f m) st):=q_3 [(0,0),(1,1),(2,3),(3,7),(4,0),(5,31)] (by kernel_rfl) l40_18.2
theorem p40_23:D tb c40_23 rd 109 f m st=loopK tb rd c40_23 109 f m st fun e fr st=>some (e,fr,st):=b_2
theorem e40_23:c40_23= .loop c40_24:=rfl
theorem w40_23:writes c40_24=some [39,40,41,10,42,43,44,45,46,47,48,49,50,51,52,53,54,55,56,57,58,59,60,61,62,63,64,6,65,66,67,68,69,70,71,8,72,73,74,75,76,77,78,79,80,81,7,82,83,84,85,86,87,7,88,38]:=by kernel_rfl
noncomputable def l40_36:{l:List DStep//drawAt o40_36 [(0,0),(1,1),(2,3),(3,7),(4,15),(5,31),(6,31),(7,95),(8,223),(9,479),(10,31),(11,1055),(12,4063),(13,31),(14,31),(15,16415),(16,49183),(17,114719),(18,245791),(19,516127),(20,1048575),(21,2097151),(22,4194303)]=l}:=by refine⟨?_,?h⟩;case h=>simp only[drawAt,entsAt,o40_36,c40_35,c40_34,c40_32,c40_31,c40_30,c40_26,c40_24,c40_23,c40_22,c40_20,c40_19,c40_17,c40_2,c40_0,opsOf,kid,bodyOf,Tryz.f40,Option.getD_some,List.map,stepOf,Option.map,List.getElem?_toArray,List.getElem?_cons_succ,List.getElem?_cons_zero,Option.bind_some];rfl
theorem q40_36:D tb (.region 9 o40_36 true) rd 109 f m st=regB (evDraws tb (run tb) l40_36.1 [] (mk 109 f m) st):=q_3 [(0,0),(1,1),(2,3),(3,7),(4,15),(5,31),(6,31),(7,95),(8,223),(9,479),(10,31),(11,1055),(12,4063),(13,31),(14,31),(15,16415),(16,49183),(17,114719),(18,245791),(19,516127),(20,1048575),(21,2097151),(22,4194303)] (by kernel_rfl) l40_36.2
noncomputable def L40_1:Lt (kid c40_0 0):= .mk _
noncomputable def L40_5:Lt (kid c40_4 0):= .mk _
noncomputable def L40_8:Lt (kid c40_7 0):= .mk _
noncomputable def L40_11:Lt (kid c40_10 0):= .mk _
noncomputable def L40_14:Lt (kid c40_13 0):= .mk _
noncomputable def L40_21:Lt (kid c40_20 0):= .mk _
noncomputable def L40_25:Lt (kid c40_24 0):= .mk _
noncomputable def L40_33:Lt (kid c40_32 0):= .mk _
noncomputable def L40_39:Lt (kid c40_38 0):= .mk _
noncomputable def L40_43:Lt (kid c40_42 0):= .mk _
noncomputable def L40_45:Lt (kid c40_44 0):= .mk _
noncomputable def L40_47:Lt (kid c40_46 0):= .mk _
noncomputable def L40_48:Lt (kid c40_46 1):= .mk _
noncomputable def L40_49:Lt (kid c40_30 1):= .mk _
noncomputable def L40_52:Lt (kid c40_51 0):= .mk _
noncomputable def L40_54:Lt (kid c40_53 0):= .mk _
noncomputable def L40_57:Lt (kid c40_56 0):= .mk _
noncomputable def L40_59:Lt (kid c40_58 0):= .mk _
theorem S40:D tb c40_0=D tb (.seq (Rg L40_1) c40_2)∧D tb c40_2=D tb (.seq c40_3 c40_17)∧D tb c40_3=D tb (.block 0 c40_4)∧D tb c40_4=D tb (.seq (Rg L40_5) c40_6)∧D tb c40_6=D tb (.cond (.tmp 11) c40_7 c40_10)∧D tb c40_7=D tb (.seq (Rg L40_8) .ret)∧D tb c40_10=D tb (.seq (Rg L40_11) c40_12)∧D tb c40_12=D tb (.cond (.tmp 22) c40_13 .skip)∧D tb c40_13=D tb (.seq (Rg L40_14) .ret)∧D tb c40_17=D tb (.seq (.region 5 o40_18 true) c40_19)∧D tb c40_19=D tb (.seq c40_20 c40_50)∧D tb c40_20=D tb (.seq (Rg L40_21) c40_22)∧D tb c40_22=D tb (.block 1 c40_23)∧D tb c40_24=D tb (.seq (Rg L40_25) c40_26)∧D tb c40_26=D tb (.seq c40_27 c40_30)∧D tb c40_27=D tb (.cond (.tmp 39) .skip (.exit 1))∧D tb c40_30=D tb (.seq c40_31 (Rg L40_49))∧D tb c40_31=D tb (.block 2 c40_32)∧D tb c40_32=D tb (.seq (Rg L40_33) c40_34)∧D tb c40_34=D tb (.seq c40_35 c40_42)∧D tb c40_35=D tb (.seq (.region 9 o40_36 true) c40_37)∧D tb c40_37=D tb (.cond (.tmp 64) c40_38 .skip)∧D tb c40_38=D tb (.seq (Rg L40_39) .ret)∧D tb c40_42=D tb (.seq (Rg L40_43) c40_44)∧D tb c40_44=D tb (.seq (Rg L40_45) c40_46)∧D tb c40_46=D tb (.cond (.tmp 75) (Rg L40_47) (Rg L40_48))∧D tb c40_50=D tb (.seq c40_51 c40_56)∧D tb c40_51=D tb (.seq (Rg L40_52) c40_53)∧D tb c40_53=D tb (.cond (.tmp 92) (Rg L40_54) .skip)∧D tb c40_56=D tb (.seq (Rg L40_57) c40_58)∧D tb c40_58=D tb (.seq (Rg L40_59) .ret):=⟨rfl,rfl,rfl,rfl,rfl,rfl,rfl,rfl,rfl,rfl,rfl,rfl,rfl,rfl,rfl,rfl,rfl,rfl,rfl,rfl,rfl,rfl,rfl,rfl,rfl,rfl,rfl,rfl,rfl,rfl,rfl⟩
def c43_0:=bodyOf Tryz.f43
def c43_2:=kid c43_0 1
def c43_4:=kid c43_2 1
def c43_5:=kid c43_4 0
def c43_7:=kid c43_5 1
def c43_8:=kid c43_7 0
def c43_9:=kid c43_8 0
theorem e43_8:c43_8= .loop c43_9:=rfl
def c51_0:=bodyOf Tryz.f51
def c51_2:=kid c51_0 1
def c51_3:=kid c51_2 0
def c51_5:=kid c51_3 1
def c51_6:=kid c51_5 0
def c51_7:=kid c51_6 0
theorem e51_6:c51_6= .loop c51_7:=rfl
def c52_0:=bodyOf Tryz.f52
def c52_2:=kid c52_0 1
def c52_4:=kid c52_2 1
def c52_6:=kid c52_4 1
def c52_14:=kid c52_6 1
def c52_16:=kid c52_14 1
def c52_17:=kid c52_16 0
def c52_19:=kid c52_17 1
def c52_20:=kid c52_19 0
def c52_21:=kid c52_20 0
theorem e52_20:c52_20= .loop c52_21:=rfl
def c58_0:=bodyOf Tryz.f58
def run58{args:List V}{st:St}(ha:args.length≤34):=a_6 (T:=tb) (fid:=58) (st:=st) (by rw[a_];exact Tryz.func58) (by rw[a_];rfl) (c:=c58_0) (rs:= #[.tmp 8, .tmp 9]) rfl rfl rfl ha
def c58_2:=kid c58_0 1
def c58_4:=kid c58_2 1
def c58_5:=kid c58_4 0
def c58_7:=kid c58_5 1
def c58_8:=kid c58_7 0
def c58_12:=kid c58_4 1
noncomputable def L58_1:Lt (kid c58_0 0):= .mk _
noncomputable def L58_3:Lt (kid c58_2 0):= .mk _
noncomputable def L58_6:Lt (kid c58_5 0):= .mk _
noncomputable def L58_9:Lt (kid c58_8 0):= .mk _
noncomputable def L58_13:Lt (kid c58_12 0):= .mk _
theorem S58:D tb c58_0=D tb (.seq (Rg L58_1) c58_2)∧D tb c58_2=D tb (.seq (Rg L58_3) c58_4)∧D tb c58_4=D tb (.seq c58_5 c58_12)∧D tb c58_5=D tb (.seq (Rg L58_6) c58_7)∧D tb c58_7=D tb (.cond (.tmp 26) c58_8 .skip)∧D tb c58_8=D tb (.seq (Rg L58_9) .ret)∧D tb c58_12=D tb (.seq (Rg L58_13) .ret):=⟨rfl,rfl,rfl,rfl,rfl,rfl,rfl⟩
def c59_0:=bodyOf Tryz.f59
def run59{args:List V}{st:St}(ha:args.length≤23):=a_6 (T:=tb) (fid:=59) (st:=st) (by rw[a_];exact Tryz.func59) (by rw[a_];rfl) (c:=c59_0) (rs:= #[.tmp 4]) rfl rfl rfl ha
def c59_2:=kid c59_0 1
def c59_3:=kid c59_2 0
def c59_4:=kid c59_3 0
def c59_6:=kid c59_4 1
def c59_7:=kid c59_6 0
def c59_10:=kid c59_6 1
def c59_12:=kid c59_10 1
def c59_13:=kid c59_12 0
def c59_17:=kid c59_2 1
noncomputable def L59_1:Lt (kid c59_0 0):= .mk _
noncomputable def L59_5:Lt (kid c59_4 0):= .mk _
noncomputable def L59_8:Lt (kid c59_7 0):= .mk _
noncomputable def L59_11:Lt (kid c59_10 0):= .mk _
noncomputable def L59_14:Lt (kid c59_13 0):= .mk _
noncomputable def L59_18:Lt (kid c59_17 0):= .mk _
theorem S59:D tb c59_0=D tb (.seq (Rg L59_1) c59_2)∧D tb c59_2=D tb (.seq c59_3 c59_17)∧D tb c59_3=D tb (.block 0 c59_4)∧D tb c59_4=D tb (.seq (Rg L59_5) c59_6)∧D tb c59_6=D tb (.cond (.tmp 5) c59_7 c59_10)∧D tb c59_7=D tb (.seq (Rg L59_8) .ret)∧D tb c59_10=D tb (.seq (Rg L59_11) c59_12)∧D tb c59_12=D tb (.cond (.tmp 10) c59_13 .skip)∧D tb c59_13=D tb (.seq (Rg L59_14) .ret)∧D tb c59_17=D tb (.seq (Rg L59_18) .ret):=⟨rfl,rfl,rfl,rfl,rfl,rfl,rfl,rfl,rfl,rfl⟩
def c102_0:=bodyOf Tryz.f102
def run102{args:List V}{st:St}(ha:args.length≤19):=a_6 (T:=tb) (fid:=102) (st:=st) (by rw[a_];exact Tryz.func102) (by rw[a_];rfl) (c:=c102_0) (rs:= #[]) rfl rfl rfl ha
def c102_2:=kid c102_0 1
def c102_3:=kid c102_2 0
def c102_4:=kid c102_3 0
def c102_5:=kid c102_4 0
def c102_7:=kid c102_5 1
def c102_10:=kid c102_4 1
def c102_11:=kid c102_10 0
def c102_12:=kid c102_11 0
def c102_14:=kid c102_12 1
theorem p102_3:D tb c102_3 rd 19 f m st=loopK tb rd c102_3 19 f m st fun e fr st=>some (e,fr,st):=b_2
theorem e102_3:c102_3= .loop c102_4:=rfl
theorem w102_3:writes c102_4=some [7,8,11,12,13,14,15,16,17,18,9,10,3]:=by kernel_rfl
noncomputable def L102_1:Lt (kid c102_0 0):= .mk _
noncomputable def L102_6:Lt (kid c102_5 0):= .mk _
noncomputable def L102_13:Lt (kid c102_12 0):= .mk _
noncomputable def L102_17:Lt (kid c102_10 1):= .mk _
theorem S102:D tb c102_0=D tb (.seq (Rg L102_1) c102_2)∧D tb c102_2=D tb (.block 0 c102_3)∧D tb c102_4=D tb (.seq c102_5 c102_10)∧D tb c102_5=D tb (.seq (Rg L102_6) c102_7)∧D tb c102_7=D tb (.cond (.tmp 8) .skip (.exit 0))∧D tb c102_10=D tb (.seq c102_11 (Rg L102_17))∧D tb c102_11=D tb (.block 1 c102_12)∧D tb c102_12=D tb (.seq (Rg L102_13) c102_14)∧D tb c102_14=D tb (.cond (.tmp 18) .ret .skip):=⟨rfl,rfl,rfl,rfl,rfl,rfl,rfl,rfl,rfl⟩
def c105_0:=bodyOf Tryz.f105
def run105{args:List V}{st:St}(ha:args.length≤28):=a_6 (T:=tb) (fid:=105) (st:=st) (by rw[a_];exact Tryz.func105) (by rw[a_];rfl) (c:=c105_0) (rs:= #[.tmp 4]) rfl rfl rfl ha
def c105_2:=kid c105_0 1
def c105_3:=kid c105_2 0
def c105_5:=kid c105_3 1
def c105_6:=kid c105_5 0
def c105_8:=kid c105_6 1
def c105_9:=kid c105_8 0
def c105_12:=kid c105_8 1
def c105_14:=kid c105_12 1
def c105_15:=kid c105_14 0
def c105_19:=kid c105_2 1
noncomputable def L105_1:Lt (kid c105_0 0):= .mk _
noncomputable def L105_4:Lt (kid c105_3 0):= .mk _
noncomputable def L105_7:Lt (kid c105_6 0):= .mk _
noncomputable def L105_10:Lt (kid c105_9 0):= .mk _
noncomputable def L105_13:Lt (kid c105_12 0):= .mk _
noncomputable def L105_16:Lt (kid c105_15 0):= .mk _
noncomputable def L105_20:Lt (kid c105_19 0):= .mk _
theorem S105:D tb c105_0=D tb (.seq (Rg L105_1) c105_2)∧D tb c105_2=D tb (.seq c105_3 c105_19)∧D tb c105_3=D tb (.seq (Rg L105_4) c105_5)∧D tb c105_5=D tb (.block 0 c105_6)∧D tb c105_6=D tb (.seq (Rg L105_7) c105_8)∧D tb c105_8=D tb (.cond (.tmp 7) c105_9 c105_12)∧D tb c105_9=D tb (.seq (Rg L105_10) .ret)∧D tb c105_12=D tb (.seq (Rg L105_13) c105_14)∧D tb c105_14=D tb (.cond (.tmp 12) c105_15 .skip)∧D tb c105_15=D tb (.seq (Rg L105_16) .ret)∧D tb c105_19=D tb (.seq (Rg L105_20) .ret):=⟨rfl,rfl,rfl,rfl,rfl,rfl,rfl,rfl,rfl,rfl,rfl⟩
def c109_0:=bodyOf Tryz.f109
def c109_2:=kid c109_0 1
def c109_10:=kid c109_2 1
def c109_12:=kid c109_10 1
def c109_20:=kid c109_12 1
def c109_22:=kid c109_20 1
def c109_24:=kid c109_22 1
def c109_26:=kid c109_24 1
def c109_28:=kid c109_26 1
def c109_29:=kid c109_28 0
def c109_31:=kid c109_29 1
def c109_32:=kid c109_31 0
def c109_33:=kid c109_32 0
theorem e109_32:c109_32= .loop c109_33:=rfl
def c114_0:=bodyOf Tryz.f114
def run114{args:List V}{st:St}(ha:args.length≤27):=m_0 (T:=tb) (fid:=114) (st:=st) (by rw[a_];exact Tryz.func114) (by rw[a_];rfl) (c:=c114_0) (rs:= #[.cell 4 78, .tmp 5]) rfl rfl rfl ha
def c114_2:=kid c114_0 1
def c114_4:=kid c114_2 1
def c114_5:=kid c114_4 0
def c114_7:=kid c114_5 1
def c114_8:=kid c114_7 0
def c114_12:=kid c114_4 1
def c114_14:=kid c114_12 1
def c114_16:=kid c114_14 1
noncomputable def L114_1:Lt (kid c114_0 0):= .mk _
noncomputable def L114_3:Lt (kid c114_2 0):= .mk _
noncomputable def L114_6:Lt (kid c114_5 0):= .mk _
noncomputable def L114_9:Lt (kid c114_8 0):= .mk _
noncomputable def L114_13:Lt (kid c114_12 0):= .mk _
noncomputable def L114_15:Lt (kid c114_14 0):= .mk _
noncomputable def L114_17:Lt (kid c114_16 0):= .mk _
theorem S114:D tb c114_0=D tb (.seq (Rg L114_1) c114_2)∧D tb c114_2=D tb (.seq (Rg L114_3) c114_4)∧D tb c114_4=D tb (.seq c114_5 c114_12)∧D tb c114_5=D tb (.seq (Rg L114_6) c114_7)∧D tb c114_7=D tb (.cond (.tmp 12) c114_8 .skip)∧D tb c114_8=D tb (.seq (Rg L114_9) .ret)∧D tb c114_12=D tb (.seq (Rg L114_13) c114_14)∧D tb c114_14=D tb (.seq (Rg L114_15) c114_16)∧D tb c114_16=D tb (.seq (Rg L114_17) .ret):=⟨rfl,rfl,rfl,rfl,rfl,rfl,rfl,rfl,rfl⟩
def c150_0:=bodyOf Tryz.f150
def c150_2:=kid c150_0 1
def c150_3:=kid c150_2 0
def c150_5:=kid c150_3 1
def c150_6:=kid c150_5 0
def c150_7:=kid c150_6 0
theorem e150_6:c150_6= .loop c150_7:=rfl
def c154_0:=bodyOf Tryz.f154
def c154_2:=kid c154_0 1
def c154_10:=kid c154_2 1
def c154_12:=kid c154_10 1
def c154_14:=kid c154_12 1
def c154_15:=kid c154_14 0
def c154_16:=kid c154_15 0
def c154_17:=kid c154_16 0
theorem e154_16:c154_16= .loop c154_17:=rfl
def c180_0:=bodyOf Tryz.f180
def c180_2:=kid c180_0 1
def c180_4:=kid c180_2 1
def c180_6:=kid c180_4 1
def c180_7:=kid c180_6 0
def c180_9:=kid c180_7 1
def c180_10:=kid c180_9 0
def c180_11:=kid c180_10 0
def c180_13:=kid c180_11 1
def c180_14:=kid c180_13 0
def c180_15:=kid c180_14 0
def c180_29:=kid c180_6 1
def c180_31:=kid c180_29 1
def c180_32:=kid c180_31 0
def c180_34:=kid c180_32 1
def c180_35:=kid c180_34 0
def c180_36:=kid c180_35 0
theorem e180_14:c180_14= .loop c180_15:=rfl
theorem e180_35:c180_35= .loop c180_36:=rfl
def c182_0:=bodyOf Tryz.f182
def run182{args:List V}{st:St}(ha:args.length≤12):=m_0 (T:=tb) (fid:=182) (st:=st) (by rw[a_];exact Tryz.func182) (by rw[a_];rfl) (c:=c182_0) (rs:= #[.tmp 4]) rfl rfl rfl ha
def c182_2:=kid c182_0 1
noncomputable def L182_1:Lt (kid c182_0 0):= .mk _
noncomputable def L182_3:Lt (kid c182_2 0):= .mk _
theorem S182:D tb c182_0=D tb (.seq (Rg L182_1) c182_2)∧D tb c182_2=D tb (.seq (Rg L182_3) .ret):=⟨rfl,rfl⟩
def c242_0:=bodyOf Tryz.f242
def run242{args:List V}{st:St}(ha:args.length≤8):=m_0 (T:=tb) (fid:=242) (st:=st) (by rw[a_];exact Tryz.func242) (by rw[a_];rfl) (c:=c242_0) (rs:= #[.tmp 3]) rfl rfl rfl ha
def c242_2:=kid c242_0 1
noncomputable def L242_1:Lt (kid c242_0 0):= .mk _
noncomputable def L242_3:Lt (kid c242_2 0):= .mk _
theorem S242:D tb c242_0=D tb (.seq (Rg L242_1) c242_2)∧D tb c242_2=D tb (.seq (Rg L242_3) .ret):=⟨rfl,rfl⟩
def c268_0:=bodyOf Tryz.f268
def c268_2:=kid c268_0 1
def c268_3:=kid c268_2 0
def c268_5:=kid c268_3 1
def c268_6:=kid c268_5 0
def c268_7:=kid c268_6 0
theorem e268_6:c268_6= .loop c268_7:=rfl
end
end Go.Proofs.YtbbeelalcamgjaaGreatDoor
namespace Go.Proofs.YtbbeelalcamgjaaGreatDoor
noncomputable section
open Go.Abs
set_option maxRecDepth 1000000
set_option linter.unusedSimpArgs false
variable {rd:Option Nat} {f:Nat→V} {m:List Nat} {st:St}
def c12_0:=bodyOf Tryz.f12
def c12_2:=kid c12_0 1
def c12_4:=kid c12_2 1
def c12_12:=kid c12_4 1
def c12_13:=kid c12_12 0
def c12_15:=kid c12_13 1
def c12_16:=kid c12_15 0
def c12_17:=kid c12_16 0
def c12_33:=kid c12_12 1
def c12_41:=kid c12_33 1
def c12_42:=kid c12_41 0
def c12_44:=kid c12_42 1
def c12_45:=kid c12_44 0
def c12_46:=kid c12_45 0
theorem e12_16:c12_16= .loop c12_17:=rfl
theorem e12_45:c12_45= .loop c12_46:=rfl
def c13_0:=bodyOf Tryz.f13
def c13_2:=kid c13_0 1
def c13_4:=kid c13_2 1
def c13_12:=kid c13_4 1
def c13_13:=kid c13_12 0
def c13_15:=kid c13_13 1
def c13_16:=kid c13_15 0
def c13_17:=kid c13_16 0
def c13_31:=kid c13_12 1
def c13_33:=kid c13_31 1
def c13_39:=kid c13_33 1
def c13_40:=kid c13_39 0
def c13_42:=kid c13_40 1
def c13_43:=kid c13_42 0
def c13_44:=kid c13_43 0
theorem e13_16:c13_16= .loop c13_17:=rfl
theorem e13_43:c13_43= .loop c13_44:=rfl
def c16_0:=bodyOf Tryz.f16
def run16{args:List V}{st:St}(ha:args.length≤49):=m_0 (T:=tb) (fid:=16) (st:=st) (by rw[a_];exact Tryz.func16) (by rw[a_];rfl) (c:=c16_0) (rs:= #[.cell 6 43, .tmp 7]) rfl rfl rfl ha
def c16_2:=kid c16_0 1
def c16_4:=kid c16_2 1
def c16_6:=kid c16_4 1
def c16_7:=kid c16_6 0
def c16_9:=kid c16_7 1
def c16_10:=kid c16_9 0
def c16_14:=kid c16_6 1
def c16_16:=kid c16_14 1
def c16_17:=kid c16_16 0
def c16_19:=kid c16_17 1
def c16_20:=kid c16_19 0
def c16_21:=kid c16_20 0
def c16_23:=kid c16_21 1
def c16_24:=kid c16_23 0
def c16_27:=kid c16_23 1
def c16_28:=kid c16_27 0
def c16_29:=kid c16_28 0
def c16_31:=kid c16_29 1
def c16_33:=kid c16_31 1
def c16_35:=kid c16_33 1
def c16_37:=kid c16_35 1
def c16_38:=kid c16_37 0
def c16_43:=kid c16_16 1
theorem p16_20:D tb c16_20 rd 49 f m st=loopK tb rd c16_20 49 f m st fun e fr st=>some (e,fr,st):=b_2
theorem e16_20:c16_20= .loop c16_21:=rfl
theorem w16_20:writes c16_21=some [33,34,35,12,13,37,38,39,40,36,41,42,13,43,44,45,46,7,47,32]:=by kernel_rfl
noncomputable def L16_1:Lt (kid c16_0 0):= .mk _
noncomputable def L16_3:Lt (kid c16_2 0):= .mk _
noncomputable def L16_5:Lt (kid c16_4 0):= .mk _
noncomputable def L16_8:Lt (kid c16_7 0):= .mk _
noncomputable def L16_11:Lt (kid c16_10 0):= .mk _
noncomputable def L16_15:Lt (kid c16_14 0):= .mk _
noncomputable def L16_18:Lt (kid c16_17 0):= .mk _
noncomputable def L16_22:Lt (kid c16_21 0):= .mk _
noncomputable def L16_30:Lt (kid c16_29 0):= .mk _
noncomputable def L16_32:Lt (kid c16_31 0):= .mk _
noncomputable def L16_34:Lt (kid c16_33 0):= .mk _
noncomputable def L16_36:Lt (kid c16_35 0):= .mk _
noncomputable def L16_39:Lt (kid c16_38 0):= .mk _
noncomputable def L16_42:Lt (kid c16_27 1):= .mk _
noncomputable def L16_44:Lt (kid c16_43 0):= .mk _
theorem S16:D tb c16_0=D tb (.seq (Rg L16_1) c16_2)∧D tb c16_2=D tb (.seq (Rg L16_3) c16_4)∧D tb c16_4=D tb (.seq (Rg L16_5) c16_6)∧D tb c16_6=D tb (.seq c16_7 c16_14)∧D tb c16_7=D tb (.seq (Rg L16_8) c16_9)∧D tb c16_9=D tb (.cond (.tmp 21) c16_10 .skip)∧D tb c16_10=D tb (.seq (Rg L16_11) .ret)∧D tb c16_14=D tb (.seq (Rg L16_15) c16_16)∧D tb c16_16=D tb (.seq c16_17 c16_43)∧D tb c16_17=D tb (.seq (Rg L16_18) c16_19)∧D tb c16_19=D tb (.block 0 c16_20)∧D tb c16_21=D tb (.seq (Rg L16_22) c16_23)∧D tb c16_23=D tb (.seq c16_24 c16_27)∧D tb c16_24=D tb (.cond (.tmp 33) .skip (.exit 0))∧D tb c16_27=D tb (.seq c16_28 (Rg L16_42))∧D tb c16_28=D tb (.block 1 c16_29)∧D tb c16_29=D tb (.seq (Rg L16_30) c16_31)∧D tb c16_31=D tb (.seq (Rg L16_32) c16_33)∧D tb c16_33=D tb (.seq (Rg L16_34) c16_35)∧D tb c16_35=D tb (.seq (Rg L16_36) c16_37)∧D tb c16_37=D tb (.cond (.tmp 44) c16_38 .skip)∧D tb c16_38=D tb (.seq (Rg L16_39) .ret)∧D tb c16_43=D tb (.seq (Rg L16_44) .ret):=⟨rfl,rfl,rfl,rfl,rfl,rfl,rfl,rfl,rfl,rfl,rfl,rfl,rfl,rfl,rfl,rfl,rfl,rfl,rfl,rfl,rfl,rfl,rfl⟩
def c17_0:=bodyOf Tryz.f17
def c17_2:=kid c17_0 1
def c17_4:=kid c17_2 1
def c17_6:=kid c17_4 1
def c17_14:=kid c17_6 1
def c17_16:=kid c17_14 1
def c17_17:=kid c17_16 0
def c17_19:=kid c17_17 1
def c17_20:=kid c17_19 0
def c17_21:=kid c17_20 0
theorem e17_20:c17_20= .loop c17_21:=rfl
def c24_0:=bodyOf Tryz.f24
def c24_2:=kid c24_0 1
def c24_3:=kid c24_2 0
def c24_5:=kid c24_3 1
def c24_6:=kid c24_5 0
def c24_7:=kid c24_6 0
theorem e24_6:c24_6= .loop c24_7:=rfl
def c34_0:=bodyOf Tryz.f34
def c34_2:=kid c34_0 1
def c34_12:=kid c34_2 1
def c34_13:=kid c34_12 0
def c34_15:=kid c34_13 1
def c34_16:=kid c34_15 0
def c34_17:=kid c34_16 0
def c34_19:=kid c34_17 1
def c34_23:=kid c34_19 1
def c34_24:=kid c34_23 0
def c34_25:=kid c34_24 0
def c34_27:=kid c34_25 1
def c34_28:=kid c34_27 0
def c34_30:=kid c34_28 1
def c34_31:=kid c34_30 0
def c34_32:=kid c34_31 0
theorem e34_16:c34_16= .loop c34_17:=rfl
theorem e34_31:c34_31= .loop c34_32:=rfl
def c35_0:=bodyOf Tryz.f35
def c35_2:=kid c35_0 1
def c35_4:=kid c35_2 1
def c35_6:=kid c35_4 1
def c35_7:=kid c35_6 0
def c35_9:=kid c35_7 1
def c35_10:=kid c35_9 0
def c35_11:=kid c35_10 0
def c35_31:=kid c35_6 1
def c35_37:=kid c35_31 1
def c35_38:=kid c35_37 0
def c35_40:=kid c35_38 1
def c35_41:=kid c35_40 0
def c35_42:=kid c35_41 0
def c35_56:=kid c35_37 1
def c35_64:=kid c35_56 1
def c35_65:=kid c35_64 0
def c35_67:=kid c35_65 1
def c35_68:=kid c35_67 0
def c35_69:=kid c35_68 0
def c35_75:=kid c35_69 1
def c35_76:=kid c35_75 0
def c35_77:=kid c35_76 0
def c35_79:=kid c35_77 1
def c35_80:=kid c35_79 0
def c35_82:=kid c35_80 1
def c35_83:=kid c35_82 0
def c35_84:=kid c35_83 0
theorem e35_10:c35_10= .loop c35_11:=rfl
theorem e35_41:c35_41= .loop c35_42:=rfl
theorem e35_68:c35_68= .loop c35_69:=rfl
theorem e35_83:c35_83= .loop c35_84:=rfl
def c45_0:=bodyOf Tryz.f45
def run45{args:List V}{st:St}(ha:args.length≤9):=a_1 (T:=tb) (fid:=45) (st:=st) (by rw[a_];exact Tryz.func45) (by rw[a_];rfl) (c:=c45_0) (rs:= #[.tmp 2]) rfl rfl rfl ha
def c45_2:=kid c45_0 1
noncomputable def L45_1:Lt (kid c45_0 0):= .mk _
noncomputable def L45_3:Lt (kid c45_2 0):= .mk _
theorem S45:D tb c45_0=D tb (.seq (Rg L45_1) c45_2)∧D tb c45_2=D tb (.seq (Rg L45_3) .ret):=⟨rfl,rfl⟩
def c47_0:=bodyOf Tryz.f47
def run47{args:List V}{st:St}(ha:args.length≤79):=m_0 (T:=tb) (fid:=47) (st:=st) (by rw[a_];exact Tryz.func47) (by rw[a_];rfl) (c:=c47_0) (rs:= #[.cell 6 43, .tmp 7]) rfl rfl rfl ha
def c47_2:=kid c47_0 1
def c47_3:=kid c47_2 0
def c47_5:=kid c47_3 1
def c47_6:=kid c47_5 0
def c47_8:=kid c47_6 1
def c47_9:=kid c47_8 0
def c47_11:=kid c47_9 1
def c47_12:=kid c47_11 0
def c47_16:=kid c47_8 1
def c47_18:=kid c47_16 1
def c47_22:=kid c47_2 1
def c47_24:=kid c47_22 1
def c47_25:=kid c47_24 0
def c47_27:=kid c47_25 1
def c47_28:=kid c47_27 0
def c47_32:=kid c47_24 1
def c47_34:=kid c47_32 1
def c47_35:=kid c47_34 0
def c47_37:=kid c47_35 1
def c47_38:=kid c47_37 0
def c47_42:=kid c47_34 1
noncomputable def L47_1:Lt (kid c47_0 0):= .mk _
noncomputable def L47_4:Lt (kid c47_3 0):= .mk _
noncomputable def L47_7:Lt (kid c47_6 0):= .mk _
noncomputable def L47_10:Lt (kid c47_9 0):= .mk _
noncomputable def L47_13:Lt (kid c47_12 0):= .mk _
noncomputable def L47_17:Lt (kid c47_16 0):= .mk _
noncomputable def L47_19:Lt (kid c47_18 0):= .mk _
noncomputable def L47_23:Lt (kid c47_22 0):= .mk _
noncomputable def L47_26:Lt (kid c47_25 0):= .mk _
noncomputable def L47_29:Lt (kid c47_28 0):= .mk _
noncomputable def L47_33:Lt (kid c47_32 0):= .mk _
noncomputable def L47_36:Lt (kid c47_35 0):= .mk _
noncomputable def L47_39:Lt (kid c47_38 0):= .mk _
noncomputable def L47_43:Lt (kid c47_42 0):= .mk _
theorem S47:D tb c47_0=D tb (.seq (Rg L47_1) c47_2)∧D tb c47_2=D tb (.seq c47_3 c47_22)∧D tb c47_3=D tb (.seq (Rg L47_4) c47_5)∧D tb c47_5=D tb (.cond (.tmp 16) c47_6 .skip)∧D tb c47_6=D tb (.seq (Rg L47_7) c47_8)∧D tb c47_8=D tb (.seq c47_9 c47_16)∧D tb c47_9=D tb (.seq (Rg L47_10) c47_11)∧D tb c47_11=D tb (.cond (.tmp 24) c47_12 .skip)∧D tb c47_12=D tb (.seq (Rg L47_13) .ret)∧D tb c47_16=D tb (.seq (Rg L47_17) c47_18)∧D tb c47_18=D tb (.seq (Rg L47_19) .ret)∧D tb c47_22=D tb (.seq (Rg L47_23) c47_24)∧D tb c47_24=D tb (.seq c47_25 c47_32)∧D tb c47_25=D tb (.seq (Rg L47_26) c47_27)∧D tb c47_27=D tb (.cond (.tmp 53) c47_28 .skip)∧D tb c47_28=D tb (.seq (Rg L47_29) .ret)∧D tb c47_32=D tb (.seq (Rg L47_33) c47_34)∧D tb c47_34=D tb (.seq c47_35 c47_42)∧D tb c47_35=D tb (.seq (Rg L47_36) c47_37)∧D tb c47_37=D tb (.cond (.tmp 65) c47_38 .skip)∧D tb c47_38=D tb (.seq (Rg L47_39) .ret)∧D tb c47_42=D tb (.seq (Rg L47_43) .ret):=⟨rfl,rfl,rfl,rfl,rfl,rfl,rfl,rfl,rfl,rfl,rfl,rfl,rfl,rfl,rfl,rfl,rfl,rfl,rfl,rfl,rfl,rfl⟩
def c48_0:=bodyOf Tryz.f48
def run48{args:List V}{st:St}(ha:args.length≤10):=a_1 (T:=tb) (fid:=48) (st:=st) (by rw[a_];exact Tryz.func48) (by rw[a_];rfl) (c:=c48_0) (rs:= #[.tmp 2]) rfl rfl rfl ha
def c48_2:=kid c48_0 1
noncomputable def o48_3:=opsOf (kid c48_2 0)
noncomputable def l48_3:{l:List DStep//drawAt o48_3 [(0,0),(1,0),(2,2),(4,0),(5,16),(3,7),(6,63),(7,127)]=l}:=by refine⟨?_,?h⟩;case h=>simp only[drawAt,entsAt,o48_3,c48_2,c48_0,opsOf,kid,bodyOf,Tryz.f48,Option.getD_some,List.map,stepOf,Option.map,List.getElem?_toArray,List.getElem?_cons_succ,List.getElem?_cons_zero,Option.bind_some];rfl
theorem q48_3:D tb (.region 1 o48_3 true) rd 10 f m st=regB (evDraws tb (run tb) l48_3.1 [] (mk 10 f m) st):=q_3 [(0,0),(1,0),(2,2),(4,0),(5,16),(3,7),(6,63),(7,127)] (by kernel_rfl) l48_3.2
noncomputable def L48_1:Lt (kid c48_0 0):= .mk _
theorem S48:D tb c48_0=D tb (.seq (Rg L48_1) c48_2)∧D tb c48_2=D tb (.seq (.region 1 o48_3 true) .ret):=⟨rfl,rfl⟩
def c69_0:=bodyOf Tryz.f69
def c69_2:=kid c69_0 1
def c69_3:=kid c69_2 0
def c69_4:=kid c69_3 0
def c69_6:=kid c69_4 1
def c69_10:=kid c69_6 1
def c69_11:=kid c69_10 0
def c69_12:=kid c69_11 0
def c69_14:=kid c69_12 1
def c69_15:=kid c69_14 0
def c69_17:=kid c69_15 1
def c69_18:=kid c69_17 0
def c69_19:=kid c69_18 0
def c69_21:=kid c69_19 1
def c69_25:=kid c69_21 1
def c69_26:=kid c69_25 0
def c69_27:=kid c69_26 0
def c69_29:=kid c69_27 1
def c69_31:=kid c69_29 1
def c69_32:=kid c69_31 0
def c69_33:=kid c69_32 0
def c69_50:=kid c69_14 1
def c69_52:=kid c69_50 1
def c69_53:=kid c69_52 0
def c69_54:=kid c69_53 0
theorem e69_3:c69_3= .loop c69_4:=rfl
theorem e69_18:c69_18= .loop c69_19:=rfl
theorem e69_32:c69_32= .loop c69_33:=rfl
theorem e69_53:c69_53= .loop c69_54:=rfl
def c84_0:=bodyOf Tryz.f84
def c84_2:=kid c84_0 1
def c84_3:=kid c84_2 0
def c84_5:=kid c84_3 1
def c84_6:=kid c84_5 0
def c84_7:=kid c84_6 0
def c84_21:=kid c84_2 1
def c84_23:=kid c84_21 1
def c84_25:=kid c84_23 1
def c84_26:=kid c84_25 0
def c84_27:=kid c84_26 0
theorem e84_6:c84_6= .loop c84_7:=rfl
theorem e84_26:c84_26= .loop c84_27:=rfl
def c89_0:=bodyOf Tryz.f89
def c89_2:=kid c89_0 1
def c89_3:=kid c89_2 0
def c89_5:=kid c89_3 1
def c89_6:=kid c89_5 0
def c89_7:=kid c89_6 0
theorem e89_6:c89_6= .loop c89_7:=rfl
def c91_0:=bodyOf Tryz.f91
def c91_2:=kid c91_0 1
def c91_4:=kid c91_2 1
def c91_10:=kid c91_4 1
def c91_18:=kid c91_10 1
def c91_63:=kid c91_18 1
def c91_71:=kid c91_63 1
def c91_73:=kid c91_71 1
def c91_74:=kid c91_73 0
def c91_76:=kid c91_74 1
def c91_77:=kid c91_76 0
def c91_78:=kid c91_77 0
def c91_88:=kid c91_73 1
def c91_89:=kid c91_88 0
def c91_91:=kid c91_89 1
def c91_92:=kid c91_91 0
def c91_93:=kid c91_92 0
theorem e91_77:c91_77= .loop c91_78:=rfl
theorem e91_92:c91_92= .loop c91_93:=rfl
def c110_0:=bodyOf Tryz.f110
def run110{args:List V}{st:St}(ha:args.length≤36):=a_6 (T:=tb) (fid:=110) (st:=st) (by rw[a_];exact Tryz.func110) (by rw[a_];rfl) (c:=c110_0) (rs:= #[.tmp 2]) rfl rfl rfl ha
def c110_2:=kid c110_0 1
def c110_4:=kid c110_2 1
def c110_5:=kid c110_4 0
def c110_7:=kid c110_5 1
def c110_8:=kid c110_7 0
def c110_9:=kid c110_8 0
def c110_11:=kid c110_9 1
def c110_12:=kid c110_11 0
def c110_15:=kid c110_11 1
def c110_16:=kid c110_15 0
def c110_17:=kid c110_16 0
def c110_19:=kid c110_17 1
def c110_21:=kid c110_19 1
def c110_23:=kid c110_21 1
def c110_27:=kid c110_4 1
def c110_29:=kid c110_27 1
def c110_30:=kid c110_29 0
def c110_32:=kid c110_30 1
def c110_33:=kid c110_32 0
def c110_34:=kid c110_33 0
def c110_36:=kid c110_34 1
def c110_37:=kid c110_36 0
def c110_40:=kid c110_36 1
def c110_41:=kid c110_40 0
def c110_42:=kid c110_41 0
def c110_46:=kid c110_29 1
theorem p110_8:D tb c110_8 rd 36 f m st=loopK tb rd c110_8 36 f m st fun e fr st=>some (e,fr,st):=b_2
theorem e110_8:c110_8= .loop c110_9:=rfl
theorem w110_8:writes c110_9=some [12,13,14,5,15,16,17,18,3,19,20,21,22,11]:=by kernel_rfl
theorem p110_33:D tb c110_33 rd 36 f m st=loopK tb rd c110_33 36 f m st fun e fr st=>some (e,fr,st):=b_2
theorem e110_33:c110_33= .loop c110_34:=rfl
theorem w110_33:writes c110_34=some [28,29,30,8,31,32,33,6,34,27]:=by kernel_rfl
noncomputable def L110_1:Lt (kid c110_0 0):= .mk _
noncomputable def L110_3:Lt (kid c110_2 0):= .mk _
noncomputable def L110_6:Lt (kid c110_5 0):= .mk _
noncomputable def L110_10:Lt (kid c110_9 0):= .mk _
noncomputable def L110_18:Lt (kid c110_17 0):= .mk _
noncomputable def L110_20:Lt (kid c110_19 0):= .mk _
noncomputable def L110_22:Lt (kid c110_21 0):= .mk _
noncomputable def L110_24:Lt (kid c110_23 0):= .mk _
noncomputable def L110_26:Lt (kid c110_15 1):= .mk _
noncomputable def L110_28:Lt (kid c110_27 0):= .mk _
noncomputable def L110_31:Lt (kid c110_30 0):= .mk _
noncomputable def L110_35:Lt (kid c110_34 0):= .mk _
noncomputable def L110_43:Lt (kid c110_42 0):= .mk _
noncomputable def L110_44:Lt (kid c110_42 1):= .mk _
noncomputable def L110_45:Lt (kid c110_40 1):= .mk _
noncomputable def L110_47:Lt (kid c110_46 0):= .mk _
theorem S110:D tb c110_0=D tb (.seq (Rg L110_1) c110_2)∧D tb c110_2=D tb (.seq (Rg L110_3) c110_4)∧D tb c110_4=D tb (.seq c110_5 c110_27)∧D tb c110_5=D tb (.seq (Rg L110_6) c110_7)∧D tb c110_7=D tb (.block 0 c110_8)∧D tb c110_9=D tb (.seq (Rg L110_10) c110_11)∧D tb c110_11=D tb (.seq c110_12 c110_15)∧D tb c110_12=D tb (.cond (.tmp 12) .skip (.exit 0))∧D tb c110_15=D tb (.seq c110_16 (Rg L110_26))∧D tb c110_16=D tb (.block 1 c110_17)∧D tb c110_17=D tb (.seq (Rg L110_18) c110_19)∧D tb c110_19=D tb (.seq (Rg L110_20) c110_21)∧D tb c110_21=D tb (.seq (Rg L110_22) c110_23)∧D tb c110_23=D tb (.cond (.tmp 20) (Rg L110_24) .skip)∧D tb c110_27=D tb (.seq (Rg L110_28) c110_29)∧D tb c110_29=D tb (.seq c110_30 c110_46)∧D tb c110_30=D tb (.seq (Rg L110_31) c110_32)∧D tb c110_32=D tb (.block 2 c110_33)∧D tb c110_34=D tb (.seq (Rg L110_35) c110_36)∧D tb c110_36=D tb (.seq c110_37 c110_40)∧D tb c110_37=D tb (.cond (.tmp 28) .skip (.exit 2))∧D tb c110_40=D tb (.seq c110_41 (Rg L110_45))∧D tb c110_41=D tb (.block 3 c110_42)∧D tb c110_42=D tb (.seq (Rg L110_43) (Rg L110_44))∧D tb c110_46=D tb (.seq (Rg L110_47) .ret):=⟨rfl,rfl,rfl,rfl,rfl,rfl,rfl,rfl,rfl,rfl,rfl,rfl,rfl,rfl,rfl,rfl,rfl,rfl,rfl,rfl,rfl,rfl,rfl,rfl,rfl⟩
def c113_0:=bodyOf Tryz.f113
def run113{args:List V}{st:St}(ha:args.length≤9):=a_1 (T:=tb) (fid:=113) (st:=st) (by rw[a_];exact Tryz.func113) (by rw[a_];rfl) (c:=c113_0) (rs:= #[.tmp 2, .tmp 3]) rfl rfl rfl ha
def c113_2:=kid c113_0 1
def c113_3:=kid c113_2 0
def c113_5:=kid c113_3 1
def c113_6:=kid c113_5 0
def c113_10:=kid c113_2 1
noncomputable def L113_1:Lt (kid c113_0 0):= .mk _
noncomputable def L113_4:Lt (kid c113_3 0):= .mk _
noncomputable def L113_7:Lt (kid c113_6 0):= .mk _
noncomputable def L113_11:Lt (kid c113_10 0):= .mk _
theorem S113:D tb c113_0=D tb (.seq (Rg L113_1) c113_2)∧D tb c113_2=D tb (.seq c113_3 c113_10)∧D tb c113_3=D tb (.seq (Rg L113_4) c113_5)∧D tb c113_5=D tb (.cond (.tmp 6) c113_6 .skip)∧D tb c113_6=D tb (.seq (Rg L113_7) .ret)∧D tb c113_10=D tb (.seq (Rg L113_11) .ret):=⟨rfl,rfl,rfl,rfl,rfl,rfl⟩
def c135_0:=bodyOf Tryz.f135
def c135_2:=kid c135_0 1
def c135_3:=kid c135_2 0
def c135_5:=kid c135_3 1
def c135_6:=kid c135_5 0
def c135_7:=kid c135_6 0
theorem e135_6:c135_6= .loop c135_7:=rfl
def c137_0:=bodyOf Tryz.f137
def c137_2:=kid c137_0 1
def c137_3:=kid c137_2 0
def c137_5:=kid c137_3 1
def c137_6:=kid c137_5 0
def c137_7:=kid c137_6 0
theorem e137_6:c137_6= .loop c137_7:=rfl
def c148_0:=bodyOf Tryz.f148
def c148_2:=kid c148_0 1
def c148_4:=kid c148_2 1
def c148_5:=kid c148_4 0
def c148_7:=kid c148_5 1
def c148_8:=kid c148_7 0
def c148_9:=kid c148_8 0
theorem e148_8:c148_8= .loop c148_9:=rfl
def c151_0:=bodyOf Tryz.f151
def c151_2:=kid c151_0 1
def c151_3:=kid c151_2 0
def c151_5:=kid c151_3 1
def c151_6:=kid c151_5 0
def c151_7:=kid c151_6 0
theorem e151_6:c151_6= .loop c151_7:=rfl
def c153_0:=bodyOf Tryz.f153
def c153_2:=kid c153_0 1
def c153_3:=kid c153_2 0
def c153_5:=kid c153_3 1
def c153_6:=kid c153_5 0
def c153_7:=kid c153_6 0
theorem e153_6:c153_6= .loop c153_7:=rfl
def c156_0:=bodyOf Tryz.f156
def c156_2:=kid c156_0 1
def c156_10:=kid c156_2 1
def c156_12:=kid c156_10 1
def c156_20:=kid c156_12 1
def c156_21:=kid c156_20 0
def c156_23:=kid c156_21 1
def c156_24:=kid c156_23 0
def c156_25:=kid c156_24 0
def c156_41:=kid c156_20 1
def c156_42:=kid c156_41 0
def c156_44:=kid c156_42 1
def c156_45:=kid c156_44 0
def c156_46:=kid c156_45 0
theorem e156_24:c156_24= .loop c156_25:=rfl
theorem e156_45:c156_45= .loop c156_46:=rfl
def c181_0:=bodyOf Tryz.f181
def run181{args:List V}{st:St}(ha:args.length≤27):=a_6 (T:=tb) (fid:=181) (st:=st) (by rw[a_];exact Tryz.func181) (by rw[a_];rfl) (c:=c181_0) (rs:= #[.tmp 4]) rfl rfl rfl ha
def c181_2:=kid c181_0 1
def c181_3:=kid c181_2 0
def c181_5:=kid c181_3 1
def c181_8:=kid c181_2 1
def c181_9:=kid c181_8 0
def c181_11:=kid c181_9 1
def c181_13:=kid c181_11 1
def c181_16:=kid c181_8 1
noncomputable def L181_1:Lt (kid c181_0 0):= .mk _
noncomputable def L181_4:Lt (kid c181_3 0):= .mk _
noncomputable def L181_6:Lt (kid c181_5 0):= .mk _
noncomputable def L181_10:Lt (kid c181_9 0):= .mk _
noncomputable def L181_12:Lt (kid c181_11 0):= .mk _
noncomputable def L181_14:Lt (kid c181_13 0):= .mk _
noncomputable def L181_17:Lt (kid c181_16 0):= .mk _
theorem S181:D tb c181_0=D tb (.seq (Rg L181_1) c181_2)∧D tb c181_2=D tb (.seq c181_3 c181_8)∧D tb c181_3=D tb (.seq (Rg L181_4) c181_5)∧D tb c181_5=D tb (.cond (.tmp 6) (Rg L181_6) .skip)∧D tb c181_8=D tb (.seq c181_9 c181_16)∧D tb c181_9=D tb (.seq (Rg L181_10) c181_11)∧D tb c181_11=D tb (.seq (Rg L181_12) c181_13)∧D tb c181_13=D tb (.cond (.tmp 16) (Rg L181_14) .skip)∧D tb c181_16=D tb (.seq (Rg L181_17) .ret):=⟨rfl,rfl,rfl,rfl,rfl,rfl,rfl,rfl,rfl⟩
def c199_0:=bodyOf Tryz.f199
def c199_2:=kid c199_0 1
def c199_4:=kid c199_2 1
def c199_5:=kid c199_4 0
def c199_7:=kid c199_5 1
def c199_8:=kid c199_7 0
def c199_9:=kid c199_8 0
theorem e199_8:c199_8= .loop c199_9:=rfl
def c209_0:=bodyOf Tryz.f209
def c209_2:=kid c209_0 1
def c209_10:=kid c209_2 1
def c209_11:=kid c209_10 0
def c209_13:=kid c209_11 1
def c209_14:=kid c209_13 0
def c209_15:=kid c209_14 0
theorem e209_14:c209_14= .loop c209_15:=rfl
def c210_0:=bodyOf Tryz.f210
def c210_2:=kid c210_0 1
def c210_4:=kid c210_2 1
def c210_5:=kid c210_4 0
def c210_7:=kid c210_5 1
def c210_8:=kid c210_7 0
def c210_9:=kid c210_8 0
theorem e210_8:c210_8= .loop c210_9:=rfl
def c216_0:=bodyOf Tryz.f216
def c216_2:=kid c216_0 1
def c216_10:=kid c216_2 1
def c216_12:=kid c216_10 1
def c216_14:=kid c216_12 1
def c216_22:=kid c216_14 1
def c216_23:=kid c216_22 0
def c216_25:=kid c216_23 1
def c216_26:=kid c216_25 0
def c216_27:=kid c216_26 0
theorem e216_26:c216_26= .loop c216_27:=rfl
def c222_0:=bodyOf Tryz.f222
def c222_2:=kid c222_0 1
def c222_10:=kid c222_2 1
def c222_11:=kid c222_10 0
def c222_13:=kid c222_11 1
def c222_14:=kid c222_13 0
def c222_15:=kid c222_14 0
theorem e222_14:c222_14= .loop c222_15:=rfl
def c269_0:=bodyOf Tryz.f269
def c269_2:=kid c269_0 1
def c269_10:=kid c269_2 1
def c269_11:=kid c269_10 0
def c269_13:=kid c269_11 1
def c269_14:=kid c269_13 0
def c269_15:=kid c269_14 0
theorem e269_14:c269_14= .loop c269_15:=rfl
end
end Go.Proofs.YtbbeelalcamgjaaGreatDoor
namespace Go.Proofs.YtbbeelalcamgjaaGreatDoor
open Go.Abs
set_option maxRecDepth 1000000
def src1:List UInt8:=[115,116,114,117,99,116,32,104,107,32,104,111,111,107,32,123,32,97,32,98,111,120,32,105,110,116,59,32,125,32,102,110,32,109,97,105,110,40,41,32,105,110,116,32,123,32,108,101,116,32,120,32,105,110,116,59,32,108,101,116,32,104,32,104,107,59,32,108,101,116,32,98,32,98,111,120,32,105,110,116,59,32,98,48,58,32,120,32,61,32,53,59,32,98,32,61,32,98,111,120,32,120,59,32,104,32,61,32,110,101,119,32,104,107,32,98,59,32,111,117,116,32,104,46,97,46,42,59,32,114,101,116,117,114,110,32,120,59,32,125]
def src2:List UInt8:=[115,116,114,117,99,116,32,104,107,32,104,111,111,107,32,123,32,97,32,98,111,120,32,105,110,116,59,32,125,32,102,110,32,109,97,105,110,40,41,32,105,110,116,32,123,32,108,101,116,32,120,32,105,110,116,59,32,108,101,116,32,104,32,104,107,59,32,108,101,116,32,98,32,98,111,120,32,105,110,116,59,32,98,48,58,32,98,32,61,32,117,115,101,32,104,46,97,59,32,120,32,61,32,117,115,101,32,98,59,32,103,111,116,111,32,98,49,59,32,125]
def haS:List UInt8:=[104,46,97]
def bk_8:V:=(.tup [(.list false none [(.agg [(.int .i64 2),(.int .i64 0),(.str [115,116,114,117,99,116]),(.int .i64 0)]),(.agg [(.int .i64 1),(.int .i64 7),(.str [104,107]),(.int .i64 0)]),(.agg [(.int .i64 2),(.int .i64 10),(.str [104,111,111,107]),(.int .i64 0)]),(.agg [(.int .i64 4),(.int .i64 15),(.str [123]),(.int .i64 0)]),(.agg [(.int .i64 1),(.int .i64 17),(.str [97]),(.int .i64 0)]),(.agg [(.int .i64 2),(.int .i64 19),(.str [98,111,120]),(.int .i64 0)]),(.agg [(.int .i64 2),(.int .i64 23),(.str [105,110,116]),(.int .i64 0)]),(.agg [(.int .i64 4),(.int .i64 26),(.str [59]),(.int .i64 0)]),(.agg [(.int .i64 4),(.int .i64 28),(.str [125]),(.int .i64 0)]),(.agg [(.int .i64 2),(.int .i64 30),(.str [102,110]),(.int .i64 0)]),(.agg [(.int .i64 1),(.int .i64 33),(.str [109,97,105,110]),(.int .i64 0)]),(.agg [(.int .i64 4),(.int .i64 37),(.str [40]),(.int .i64 0)]),(.agg [(.int .i64 4),(.int .i64 38),(.str [41]),(.int .i64 0)]),(.agg [(.int .i64 2),(.int .i64 40),(.str [105,110,116]),(.int .i64 0)]),(.agg [(.int .i64 4),(.int .i64 44),(.str [123]),(.int .i64 0)]),(.agg [(.int .i64 2),(.int .i64 46),(.str [108,101,116]),(.int .i64 0)]),(.agg [(.int .i64 1),(.int .i64 50),(.str [120]),(.int .i64 0)]),(.agg [(.int .i64 2),(.int .i64 52),(.str [105,110,116]),(.int .i64 0)]),(.agg [(.int .i64 4),(.int .i64 55),(.str [59]),(.int .i64 0)]),(.agg [(.int .i64 2),(.int .i64 57),(.str [108,101,116]),(.int .i64 0)]),(.agg [(.int .i64 1),(.int .i64 61),(.str [104]),(.int .i64 0)]),(.agg [(.int .i64 1),(.int .i64 63),(.str [104,107]),(.int .i64 0)]),(.agg [(.int .i64 4),(.int .i64 65),(.str [59]),(.int .i64 0)]),(.agg [(.int .i64 2),(.int .i64 67),(.str [108,101,116]),(.int .i64 0)]),(.agg [(.int .i64 1),(.int .i64 71),(.str [98]),(.int .i64 0)]),(.agg [(.int .i64 2),(.int .i64 73),(.str [98,111,120]),(.int .i64 0)]),(.agg [(.int .i64 2),(.int .i64 77),(.str [105,110,116]),(.int .i64 0)]),(.agg [(.int .i64 4),(.int .i64 80),(.str [59]),(.int .i64 0)]),(.agg [(.int .i64 1),(.int .i64 82),(.str [98,48]),(.int .i64 0)]),(.agg [(.int .i64 4),(.int .i64 84),(.str [58]),(.int .i64 0)]),(.agg [(.int .i64 1),(.int .i64 86),(.str [120]),(.int .i64 0)]),(.agg [(.int .i64 4),(.int .i64 88),(.str [61]),(.int .i64 0)]),(.agg [(.int .i64 3),(.int .i64 90),(.str [53]),(.int .i64 5)]),(.agg [(.int .i64 4),(.int .i64 91),(.str [59]),(.int .i64 0)]),(.agg [(.int .i64 1),(.int .i64 93),(.str [98]),(.int .i64 0)]),(.agg [(.int .i64 4),(.int .i64 95),(.str [61]),(.int .i64 0)]),(.agg [(.int .i64 2),(.int .i64 97),(.str [98,111,120]),(.int .i64 0)]),(.agg [(.int .i64 1),(.int .i64 101),(.str [120]),(.int .i64 0)]),(.agg [(.int .i64 4),(.int .i64 102),(.str [59]),(.int .i64 0)]),(.agg [(.int .i64 1),(.int .i64 104),(.str [104]),(.int .i64 0)]),(.agg [(.int .i64 4),(.int .i64 106),(.str [61]),(.int .i64 0)]),(.agg [(.int .i64 2),(.int .i64 108),(.str [110,101,119]),(.int .i64 0)]),(.agg [(.int .i64 1),(.int .i64 112),(.str [104,107]),(.int .i64 0)]),(.agg [(.int .i64 1),(.int .i64 115),(.str [98]),(.int .i64 0)]),(.agg [(.int .i64 4),(.int .i64 116),(.str [59]),(.int .i64 0)]),(.agg [(.int .i64 2),(.int .i64 118),(.str [111,117,116]),(.int .i64 0)]),(.agg [(.int .i64 1),(.int .i64 122),(.str [104]),(.int .i64 0)]),(.agg [(.int .i64 4),(.int .i64 123),(.str [46]),(.int .i64 0)]),(.agg [(.int .i64 1),(.int .i64 124),(.str [97]),(.int .i64 0)]),(.agg [(.int .i64 4),(.int .i64 125),(.str [46]),(.int .i64 0)]),(.agg [(.int .i64 4),(.int .i64 126),(.str [42]),(.int .i64 0)]),(.agg [(.int .i64 4),(.int .i64 127),(.str [59]),(.int .i64 0)]),(.agg [(.int .i64 2),(.int .i64 129),(.str [114,101,116,117,114,110]),(.int .i64 0)]),(.agg [(.int .i64 1),(.int .i64 136),(.str [120]),(.int .i64 0)]),(.agg [(.int .i64 4),(.int .i64 137),(.str [59]),(.int .i64 0)]),(.agg [(.int .i64 4),(.int .i64 139),(.str [125]),(.int .i64 0)])]),(.agg [(.int .i64 0),(.int .i64 0)])])
def ba_6:V:=(.agg [(.list false none [(.agg [(.int .i64 0),(.str [104,107]),(.bool false),(.bool true),(.list false none [(.agg [(.str [97]),(.str [98,111,120,32,105,110,116])])])])]),(.list false none []),(.list false none [(.agg [(.int .i64 30),(.str [109,97,105,110]),(.list false none []),(.list false none [(.agg [(.str [120]),(.str [105,110,116])]),(.agg [(.str [104]),(.str [104,107])]),(.agg [(.str [98]),(.str [98,111,120,32,105,110,116])])]),(.str [105,110,116]),(.list false none [(.agg [(.int .i64 82),(.str [98,48]),(.list false none [(.agg [(.int .i64 86),(.int .i64 1),(.str [120]),(.list false none []),(.int .i64 5),(.str []),(.str []),(.list false none [])]),(.agg [(.int .i64 93),(.int .i64 6),(.str [98]),(.list false none []),(.int .i64 0),(.str []),(.str []),(.list false none [(.agg [(.str [120]),(.list false none [])])])]),(.agg [(.int .i64 104),(.int .i64 7),(.str [104]),(.list false none []),(.int .i64 0),(.str [104,107]),(.str []),(.list false none [(.agg [(.str [98]),(.list false none [])])])]),(.agg [(.int .i64 118),(.int .i64 11),(.str []),(.list false none []),(.int .i64 0),(.str []),(.str []),(.list false none [(.agg [(.str [104]),(.list false none [(.str [97]),(.str [42])])])])])]),(.int .i64 129),(.int .i64 7),(.str []),(.list false none []),(.str []),(.list false none [(.agg [(.str [120]),(.list false none [])])]),(.list false none []),(.list false none [])])])])])])
def bm_6:V:=(.tup [(.list false none [(.agg [(.int .i64 2),(.int .i64 0),(.str [115,116,114,117,99,116]),(.int .i64 0)]),(.agg [(.int .i64 1),(.int .i64 7),(.str [104,107]),(.int .i64 0)]),(.agg [(.int .i64 2),(.int .i64 10),(.str [104,111,111,107]),(.int .i64 0)]),(.agg [(.int .i64 4),(.int .i64 15),(.str [123]),(.int .i64 0)]),(.agg [(.int .i64 1),(.int .i64 17),(.str [97]),(.int .i64 0)]),(.agg [(.int .i64 2),(.int .i64 19),(.str [98,111,120]),(.int .i64 0)]),(.agg [(.int .i64 2),(.int .i64 23),(.str [105,110,116]),(.int .i64 0)]),(.agg [(.int .i64 4),(.int .i64 26),(.str [59]),(.int .i64 0)]),(.agg [(.int .i64 4),(.int .i64 28),(.str [125]),(.int .i64 0)]),(.agg [(.int .i64 2),(.int .i64 30),(.str [102,110]),(.int .i64 0)]),(.agg [(.int .i64 1),(.int .i64 33),(.str [109,97,105,110]),(.int .i64 0)]),(.agg [(.int .i64 4),(.int .i64 37),(.str [40]),(.int .i64 0)]),(.agg [(.int .i64 4),(.int .i64 38),(.str [41]),(.int .i64 0)]),(.agg [(.int .i64 2),(.int .i64 40),(.str [105,110,116]),(.int .i64 0)]),(.agg [(.int .i64 4),(.int .i64 44),(.str [123]),(.int .i64 0)]),(.agg [(.int .i64 2),(.int .i64 46),(.str [108,101,116]),(.int .i64 0)]),(.agg [(.int .i64 1),(.int .i64 50),(.str [120]),(.int .i64 0)]),(.agg [(.int .i64 2),(.int .i64 52),(.str [105,110,116]),(.int .i64 0)]),(.agg [(.int .i64 4),(.int .i64 55),(.str [59]),(.int .i64 0)]),(.agg [(.int .i64 2),(.int .i64 57),(.str [108,101,116]),(.int .i64 0)]),(.agg [(.int .i64 1),(.int .i64 61),(.str [104]),(.int .i64 0)]),(.agg [(.int .i64 1),(.int .i64 63),(.str [104,107]),(.int .i64 0)]),(.agg [(.int .i64 4),(.int .i64 65),(.str [59]),(.int .i64 0)]),(.agg [(.int .i64 2),(.int .i64 67),(.str [108,101,116]),(.int .i64 0)]),(.agg [(.int .i64 1),(.int .i64 71),(.str [98]),(.int .i64 0)]),(.agg [(.int .i64 2),(.int .i64 73),(.str [98,111,120]),(.int .i64 0)]),(.agg [(.int .i64 2),(.int .i64 77),(.str [105,110,116]),(.int .i64 0)]),(.agg [(.int .i64 4),(.int .i64 80),(.str [59]),(.int .i64 0)]),(.agg [(.int .i64 1),(.int .i64 82),(.str [98,48]),(.int .i64 0)]),(.agg [(.int .i64 4),(.int .i64 84),(.str [58]),(.int .i64 0)]),(.agg [(.int .i64 1),(.int .i64 86),(.str [98]),(.int .i64 0)]),(.agg [(.int .i64 4),(.int .i64 88),(.str [61]),(.int .i64 0)]),(.agg [(.int .i64 2),(.int .i64 90),(.str [117,115,101]),(.int .i64 0)]),(.agg [(.int .i64 1),(.int .i64 94),(.str [104]),(.int .i64 0)]),(.agg [(.int .i64 4),(.int .i64 95),(.str [46]),(.int .i64 0)]),(.agg [(.int .i64 1),(.int .i64 96),(.str [97]),(.int .i64 0)]),(.agg [(.int .i64 4),(.int .i64 97),(.str [59]),(.int .i64 0)]),(.agg [(.int .i64 1),(.int .i64 99),(.str [120]),(.int .i64 0)]),(.agg [(.int .i64 4),(.int .i64 101),(.str [61]),(.int .i64 0)]),(.agg [(.int .i64 2),(.int .i64 103),(.str [117,115,101]),(.int .i64 0)]),(.agg [(.int .i64 1),(.int .i64 107),(.str [98]),(.int .i64 0)]),(.agg [(.int .i64 4),(.int .i64 108),(.str [59]),(.int .i64 0)]),(.agg [(.int .i64 2),(.int .i64 110),(.str [103,111,116,111]),(.int .i64 0)]),(.agg [(.int .i64 1),(.int .i64 115),(.str [98,49]),(.int .i64 0)]),(.agg [(.int .i64 4),(.int .i64 117),(.str [59]),(.int .i64 0)]),(.agg [(.int .i64 4),(.int .i64 119),(.str [125]),(.int .i64 0)])]),(.agg [(.int .i64 0),(.int .i64 0)])])
def aW_8:V:=(.agg [(.list false none [(.agg [(.int .i64 0),(.str [104,107]),(.bool false),(.bool true),(.list false none [(.agg [(.str [97]),(.str [98,111,120,32,105,110,116])])])])]),(.list false none []),(.list false none [(.agg [(.int .i64 30),(.str [109,97,105,110]),(.list false none []),(.list false none [(.agg [(.str [120]),(.str [105,110,116])]),(.agg [(.str [104]),(.str [104,107])]),(.agg [(.str [98]),(.str [98,111,120,32,105,110,116])])]),(.str [105,110,116]),(.list false none [(.agg [(.int .i64 82),(.str [98,48]),(.list false none [(.agg [(.int .i64 86),(.int .i64 5),(.str [98]),(.list false none []),(.int .i64 0),(.str []),(.str []),(.list false none [(.agg [(.str [104]),(.list false none [(.str [97])])])])]),(.agg [(.int .i64 99),(.int .i64 5),(.str [120]),(.list false none []),(.int .i64 0),(.str []),(.str []),(.list false none [(.agg [(.str [98]),(.list false none [])])])])]),(.int .i64 110),(.int .i64 1),(.str []),(.list false none []),(.str []),(.list false none []),(.list false none [(.str [98,49])]),(.list false none [])])])])])])
def haV:V:=(.tup [(.agg [(.str [104]),(.list false none [(.str [97])])]),(.bool true)])
theorem bj_6:MemoOk tb (memoL []):=g_6 (fun x hx=>by cases hx)
theorem ab_4{l:List (Nat×List UInt8×V)}{M:FuncId→List V→Option V}(hM:MemoOk tb M)(h:∀st,(l.map fun x=>(evM tb M 2000).call x.1 [.str x.2.1] st)=l.map fun x=>some (x.2.2,st)):∀x∈l,∀st,(run tb).call x.1 [.str x.2.1] st=some (x.2.2,st):=fun x hx st=>y_ hM (List.map_inj_left.1 (h st) x hx)
theorem y_5{l l':List (Nat×List UInt8×V)}(h:∀x∈l,∀st,(run tb).call x.1 [.str x.2.1] st=some (x.2.2,st))(h':∀x∈l',∀st,(run tb).call x.1 [.str x.2.1] st=some (x.2.2,st)):∀x∈l ++l',∀st,(run tb).call x.1 [.str x.2.1] st=some (x.2.2,st):=fun x hx=>(List.mem_append.1 hx).elim (h x) (h' x)
theorem am_2{l:List (Nat×List UInt8×V)}{f:Nat}{s:List UInt8}{v:V}(h:∀st,(run tb).call f [.str s] st=some (v,st))(h':∀x∈l,∀st,(run tb).call x.1 [.str x.2.1] st=some (x.2.2,st)):∀x∈(f,s,v)::l,∀st,(run tb).call x.1 [.str x.2.1] st=some (x.2.2,st):=fun x hx=>by
 rcases List.mem_cons.1 hx with rfl|hx
 ·exact h
 ·exact h' x hx
end Go.Proofs.YtbbeelalcamgjaaGreatDoor
