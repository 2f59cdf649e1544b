/- A shared part of the proofs of the Table statements: a verified evaluator, the code in parts, the functions walked. -/
import Derived.Test.YtghhphdkojjalaaGreatDoorRows
import Derived.Lay
import Derived.MakeChecks
import Derived.Test.YtghhphdkojjalaaGreatDoorC1
set_option linter.unusedVariables false
set_option linter.unusedSimpArgs false
set_option linter.unnecessarySimpa false
set_option linter.all false
namespace Go.Proofs.YtghhphdkojjalaaGreatDoor
open Go.Abs
set_option maxRecDepth 1000000
theorem sr22{st:St}{a v:V}:evStore tb st 22 a v=storeN 1 st a v:=by rw[a_];kernel_rfl
theorem sr23{st:St}{a v:V}:evStore tb st 23 a v=storeN 1 st a v:=by rw[a_];kernel_rfl
end Go.Proofs.YtghhphdkojjalaaGreatDoor
namespace Go.Proofs.YtghhphdkojjalaaGreatDoor
noncomputable section
open Go.Abs
set_option maxRecDepth 1000000
set_option linter.unusedSimpArgs false
variable {rd:Option Nat} {f:Nat→V} {m:List Nat} {st:St}
def run5{args:List V}{st:St}(ha:args.length≤128):=b_1 (T:=tb) (fid:=5) (st:=st) (by rw[a_];exact Tryz.func5) (by rw[a_];rfl) (c:=c5_0) (rs:= #[.tmp 4]) rfl rfl rfl ha
def c5_3:=kid c5_2 0
def c5_5:=kid c5_3 1
def c5_6:=kid c5_5 0
def c5_11:=kid c5_10 0
def c5_13:=kid c5_11 1
def c5_14:=kid c5_13 0
def c5_26:=kid c5_25 0
def c5_28:=kid c5_26 1
def c5_31:=kid c5_25 1
def c5_32:=kid c5_31 0
noncomputable def o5_33:=opsOf (kid c5_32 0)
def c5_41:=kid c5_40 0
def c5_43:=kid c5_41 1
def c5_46:=kid c5_40 1
def c5_47:=kid c5_46 0
noncomputable def o5_48:=opsOf (kid c5_47 0)
def c5_50:=kid c5_35 1
def c5_52:=kid c5_50 1
def c5_54:=kid c5_52 1
def c5_55:=kid c5_54 0
def c5_57:=kid c5_55 1
def c5_58:=kid c5_57 0
def c5_62:=kid c5_54 1
theorem p5_24:D tb c5_24 rd 128 f m st=loopK tb rd c5_24 128 f m st fun e fr st=>some (e,fr,st):=a_8
theorem w5_24:writes c5_25=some [26,27,30,31,32,33,34,35,36,37,38,39,28,29,6]:=by kernel_rfl
noncomputable def l5_33:{l:List DStep//drawAt o5_33 [(0,0),(1,1),(2,0),(3,4),(4,0),(5,28),(6,60),(7,124),(8,255),(9,511),(10,1023)]=l}:=by refine⟨?_,?h⟩;case h=>simp only[drawAt,entsAt,o5_33,c5_32,c5_31,c5_25,c5_24,c5_23,c5_21,c5_20,c5_18,c5_10,c5_2,c5_0,opsOf,kid,bodyOf,Tryz.f5,Option.getD_some,List.map,stepOf,Option.map,List.getElem?_toArray,List.getElem?_cons_succ,List.getElem?_cons_zero,Option.bind_some];rfl
theorem q5_33:D tb (.region 9 o5_33 true) rd 128 f m st=regB (evDraws tb (run tb) l5_33.1 [] (mk 128 f m) st):=o_8 [(0,0),(1,1),(2,0),(3,4),(4,0),(5,28),(6,60),(7,124),(8,255),(9,511),(10,1023)] (by kernel_rfl) l5_33.2
theorem p5_39:D tb c5_39 rd 128 f m st=loopK tb rd c5_39 128 f m st fun e fr st=>some (e,fr,st):=a_8
theorem w5_39:writes c5_40=some [44,45,48,49,50,51,52,53,54,55,56,57,46,47,7]:=by kernel_rfl
noncomputable def l5_48:{l:List DStep//drawAt o5_48 [(0,0),(1,1),(2,0),(3,4),(4,0),(5,28),(6,60),(7,124),(8,255),(9,511),(10,1023)]=l}:=by refine⟨?_,?h⟩;case h=>simp only[drawAt,entsAt,o5_48,c5_47,c5_46,c5_40,c5_39,c5_38,c5_36,c5_35,c5_20,c5_18,c5_10,c5_2,c5_0,opsOf,kid,bodyOf,Tryz.f5,Option.getD_some,List.map,stepOf,Option.map,List.getElem?_toArray,List.getElem?_cons_succ,List.getElem?_cons_zero,Option.bind_some];rfl
theorem q5_48:D tb (.region 13 o5_48 true) rd 128 f m st=regB (evDraws tb (run tb) l5_48.1 [] (mk 128 f m) st):=o_8 [(0,0),(1,1),(2,0),(3,4),(4,0),(5,28),(6,60),(7,124),(8,255),(9,511),(10,1023)] (by kernel_rfl) l5_48.2
noncomputable def L5_1:Lt (kid c5_0 0):= .mk _
noncomputable def L5_4:Lt (kid c5_3 0):= .mk _
noncomputable def L5_7:Lt (kid c5_6 0):= .mk _
noncomputable def L5_12:Lt (kid c5_11 0):= .mk _
noncomputable def L5_15:Lt (kid c5_14 0):= .mk _
noncomputable def L5_19:Lt (kid c5_18 0):= .mk _
noncomputable def L5_22:Lt (kid c5_21 0):= .mk _
noncomputable def L5_27:Lt (kid c5_26 0):= .mk _
noncomputable def L5_34:Lt (kid c5_31 1):= .mk _
noncomputable def L5_37:Lt (kid c5_36 0):= .mk _
noncomputable def L5_42:Lt (kid c5_41 0):= .mk _
noncomputable def L5_49:Lt (kid c5_46 1):= .mk _
noncomputable def L5_51:Lt (kid c5_50 0):= .mk _
noncomputable def L5_53:Lt (kid c5_52 0):= .mk _
noncomputable def L5_56:Lt (kid c5_55 0):= .mk _
noncomputable def L5_59:Lt (kid c5_58 0):= .mk _
noncomputable def L5_63:Lt (kid c5_62 0):= .mk _
theorem S5:D tb c5_0=D tb (.seq (Rg L5_1) c5_2)∧D tb c5_2=D tb (.seq c5_3 c5_10)∧D tb c5_3=D tb (.seq (Rg L5_4) c5_5)∧D tb c5_5=D tb (.cond (.tmp 13) c5_6 .skip)∧D tb c5_6=D tb (.seq (Rg L5_7) .ret)∧D tb c5_10=D tb (.seq c5_11 c5_18)∧D tb c5_11=D tb (.seq (Rg L5_12) c5_13)∧D tb c5_13=D tb (.cond (.tmp 20) c5_14 .skip)∧D tb c5_14=D tb (.seq (Rg L5_15) .ret)∧D tb c5_18=D tb (.seq (Rg L5_19) c5_20)∧D tb c5_20=D tb (.seq c5_21 c5_35)∧D tb c5_21=D tb (.seq (Rg L5_22) c5_23)∧D tb c5_23=D tb (.block 0 c5_24)∧D tb c5_25=D tb (.seq c5_26 c5_31)∧D tb c5_26=D tb (.seq (Rg L5_27) c5_28)∧D tb c5_28=D tb (.cond (.tmp 27) .skip (.exit 0))∧D tb c5_31=D tb (.seq c5_32 (Rg L5_34))∧D tb c5_32=D tb (.block 1 (.region 9 o5_33 true))∧D tb c5_35=D tb (.seq c5_36 c5_50)∧D tb c5_36=D tb (.seq (Rg L5_37) c5_38)∧D tb c5_38=D tb (.block 2 c5_39)∧D tb c5_40=D tb (.seq c5_41 c5_46)∧D tb c5_41=D tb (.seq (Rg L5_42) c5_43)∧D tb c5_43=D tb (.cond (.tmp 45) .skip (.exit 2))∧D tb c5_46=D tb (.seq c5_47 (Rg L5_49))∧D tb c5_47=D tb (.block 3 (.region 13 o5_48 true))∧D tb c5_50=D tb (.seq (Rg L5_51) c5_52)∧D tb c5_52=D tb (.seq (Rg L5_53) c5_54)∧D tb c5_54=D tb (.seq c5_55 c5_62)∧D tb c5_55=D tb (.seq (Rg L5_56) c5_57)∧D tb c5_57=D tb (.cond (.tmp 76) c5_58 .skip)∧D tb c5_58=D tb (.seq (Rg L5_59) .ret)∧D tb c5_62=D tb (.seq (Rg L5_63) .ret):=⟨rfl,rfl,rfl,rfl,rfl,rfl,rfl,rfl,rfl,rfl,rfl,rfl,rfl,rfl,rfl,rfl,rfl,rfl,rfl,rfl,rfl,rfl,rfl,rfl,rfl,rfl,rfl,rfl,rfl,rfl,rfl,rfl,rfl⟩
def run6{args:List V}{st:St}(ha:args.length≤240):=b_1 (T:=tb) (fid:=6) (st:=st) (by rw[a_];exact Tryz.func6) (by rw[a_];rfl) (c:=c6_0) (rs:= #[.tmp 2]) rfl rfl rfl ha
def c6_3:=kid c6_2 0
def c6_5:=kid c6_3 1
def c6_6:=kid c6_5 0
def c6_11:=kid c6_10 0
def c6_13:=kid c6_11 1
def c6_14:=kid c6_13 0
def c6_21:=kid c6_20 0
def c6_23:=kid c6_21 1
def c6_24:=kid c6_23 0
def c6_34:=kid c6_33 0
def c6_36:=kid c6_34 1
def c6_53:=kid c6_52 0
def c6_55:=kid c6_53 1
def c6_58:=kid c6_52 1
def c6_59:=kid c6_58 0
def c6_60:=kid c6_59 0
noncomputable def o6_61:=opsOf (kid c6_60 0)
def c6_62:=kid c6_60 1
def c6_63:=kid c6_62 0
def c6_65:=kid c6_63 1
def c6_66:=kid c6_65 0
def c6_70:=kid c6_62 1
def c6_74:=kid c6_47 1
def c6_76:=kid c6_74 1
def c6_78:=kid c6_76 1
def c6_79:=kid c6_78 0
def c6_90:=kid c6_89 0
def c6_92:=kid c6_90 1
def c6_109:=kid c6_108 0
def c6_111:=kid c6_109 1
def c6_114:=kid c6_108 1
def c6_115:=kid c6_114 0
def c6_116:=kid c6_115 0
noncomputable def o6_117:=opsOf (kid c6_116 0)
def c6_118:=kid c6_116 1
def c6_119:=kid c6_118 0
def c6_121:=kid c6_119 1
def c6_122:=kid c6_121 0
def c6_126:=kid c6_118 1
def c6_130:=kid c6_103 1
def c6_132:=kid c6_130 1
def c6_133:=kid c6_132 0
def c6_138:=kid c6_84 1
theorem p6_32:D tb c6_32 rd 240 f m st=loopK tb rd c6_32 240 f m st fun e fr st=>some (e,fr,st):=a_8
theorem w6_32:writes c6_33=some [34,35,36,37,38,41,42,43,44,45,6,7,46,47,8,9,48,49,50,51,52,56,57,58,59,60,61,62,63,64,65,55,66,67,68,10,11,12,69,70,71,72,73,74,75,76,77,78,79,80,81,82,83,84,85,86,87,88,89,90,91,2,92,93,94,95,96,7,97,98,99,100,101,102,8,53,54,9,104,105,106,103,107,108,13,14,109,110,111,112,113,114,115,116,117,118,119,120,121,122,123,124,125,126,127,128,129,130,131,132,133,134,135,136,137,138,139,140,141,142,143,144,145,2,39,40,5]:=by kernel_rfl
theorem p6_51:D tb c6_51 rd 240 f m st=loopK tb rd c6_51 240 f m st fun e fr st=>some (e,fr,st):=a_8
theorem w6_51:writes c6_52=some [48,49,50,51,52,56,57,58,59,60,61,62,63,64,65,55,66,67,68,10,11,12,69,70,71,72,73,74,75,76,77,78,79,80,81,82,83,84,85,86,87,88,89,90,91,2,92,93,94,95,96,7,97,98,99,100,101,102,8,53,54,9]:=by kernel_rfl
noncomputable def l6_61:{l:List DStep//drawAt o6_61 [(0,0),(1,0),(2,2),(3,0),(4,8),(5,0),(6,56),(7,120),(8,248),(9,511),(10,1023),(11,2047),(12,2047),(13,2047),(14,4095),(15,24575),(16,65535)]=l}:=by refine⟨?_,?h⟩;case h=>simp only[drawAt,entsAt,o6_61,c6_60,c6_59,c6_58,c6_52,c6_51,c6_50,c6_48,c6_47,c6_45,c6_43,c6_41,c6_40,c6_39,c6_33,c6_32,c6_31,c6_29,c6_28,c6_20,c6_18,c6_10,c6_2,c6_0,opsOf,kid,bodyOf,Tryz.f6,Option.getD_some,List.map,stepOf,Option.map,List.getElem?_toArray,List.getElem?_cons_succ,List.getElem?_cons_zero,Option.bind_some];rfl
theorem q6_61:D tb (.region 17 o6_61 true) rd 240 f m st=regB (evDraws tb (run tb) l6_61.1 [] (mk 240 f m) st):=o_8 [(0,0),(1,0),(2,2),(3,0),(4,8),(5,0),(6,56),(7,120),(8,248),(9,511),(10,1023),(11,2047),(12,2047),(13,2047),(14,4095),(15,24575),(16,65535)] (by kernel_rfl) l6_61.2
theorem p6_88:D tb c6_88 rd 240 f m st=loopK tb rd c6_88 240 f m st fun e fr st=>some (e,fr,st):=a_8
theorem w6_88:writes c6_89=some [146,147,148,149,150,153,154,155,156,157,16,17,18,19,158,159,160,161,162,166,167,168,169,170,171,172,173,174,175,165,176,177,178,20,21,22,179,180,181,182,183,184,185,186,187,188,189,190,191,192,193,194,195,2,196,197,198,199,200,17,201,202,203,204,205,206,18,163,164,19,207,208,209,210,211,212,213,214,215,216,217,218,219,220,221,222,223,224,225,226,227,2,151,152,15]:=by kernel_rfl
theorem p6_107:D tb c6_107 rd 240 f m st=loopK tb rd c6_107 240 f m st fun e fr st=>some (e,fr,st):=a_8
theorem w6_107:writes c6_108=some [158,159,160,161,162,166,167,168,169,170,171,172,173,174,175,165,176,177,178,20,21,22,179,180,181,182,183,184,185,186,187,188,189,190,191,192,193,194,195,2,196,197,198,199,200,17,201,202,203,204,205,206,18,163,164,19]:=by kernel_rfl
noncomputable def l6_117:{l:List DStep//drawAt o6_117 [(0,0),(1,0),(2,2),(3,0),(4,8),(5,0),(6,56),(7,120),(8,248),(9,511),(10,1023),(11,2047),(12,2047),(13,2047),(14,4095),(15,24575),(16,65535)]=l}:=by refine⟨?_,?h⟩;case h=>simp only[drawAt,entsAt,o6_117,c6_116,c6_115,c6_114,c6_108,c6_107,c6_106,c6_104,c6_103,c6_101,c6_99,c6_97,c6_96,c6_95,c6_89,c6_88,c6_87,c6_85,c6_84,c6_28,c6_20,c6_18,c6_10,c6_2,c6_0,opsOf,kid,bodyOf,Tryz.f6,Option.getD_some,List.map,stepOf,Option.map,List.getElem?_toArray,List.getElem?_cons_succ,List.getElem?_cons_zero,Option.bind_some];rfl
theorem q6_117:D tb (.region 34 o6_117 true) rd 240 f m st=regB (evDraws tb (run tb) l6_117.1 [] (mk 240 f m) st):=o_8 [(0,0),(1,0),(2,2),(3,0),(4,8),(5,0),(6,56),(7,120),(8,248),(9,511),(10,1023),(11,2047),(12,2047),(13,2047),(14,4095),(15,24575),(16,65535)] (by kernel_rfl) l6_117.2
noncomputable def L6_1:Lt (kid c6_0 0):= .mk _
noncomputable def L6_4:Lt (kid c6_3 0):= .mk _
noncomputable def L6_7:Lt (kid c6_6 0):= .mk _
noncomputable def L6_12:Lt (kid c6_11 0):= .mk _
noncomputable def L6_15:Lt (kid c6_14 0):= .mk _
noncomputable def L6_19:Lt (kid c6_18 0):= .mk _
noncomputable def L6_22:Lt (kid c6_21 0):= .mk _
noncomputable def L6_25:Lt (kid c6_24 0):= .mk _
noncomputable def L6_30:Lt (kid c6_29 0):= .mk _
noncomputable def L6_35:Lt (kid c6_34 0):= .mk _
noncomputable def L6_42:Lt (kid c6_41 0):= .mk _
noncomputable def L6_44:Lt (kid c6_43 0):= .mk _
noncomputable def L6_46:Lt (kid c6_45 0):= .mk _
noncomputable def L6_49:Lt (kid c6_48 0):= .mk _
noncomputable def L6_54:Lt (kid c6_53 0):= .mk _
noncomputable def L6_64:Lt (kid c6_63 0):= .mk _
noncomputable def L6_67:Lt (kid c6_66 0):= .mk _
noncomputable def L6_71:Lt (kid c6_70 0):= .mk _
noncomputable def L6_72:Lt (kid c6_70 1):= .mk _
noncomputable def L6_73:Lt (kid c6_58 1):= .mk _
noncomputable def L6_75:Lt (kid c6_74 0):= .mk _
noncomputable def L6_77:Lt (kid c6_76 0):= .mk _
noncomputable def L6_80:Lt (kid c6_79 0):= .mk _
noncomputable def L6_83:Lt (kid c6_39 1):= .mk _
noncomputable def L6_86:Lt (kid c6_85 0):= .mk _
noncomputable def L6_91:Lt (kid c6_90 0):= .mk _
noncomputable def L6_98:Lt (kid c6_97 0):= .mk _
noncomputable def L6_100:Lt (kid c6_99 0):= .mk _
noncomputable def L6_102:Lt (kid c6_101 0):= .mk _
noncomputable def L6_105:Lt (kid c6_104 0):= .mk _
noncomputable def L6_110:Lt (kid c6_109 0):= .mk _
noncomputable def L6_120:Lt (kid c6_119 0):= .mk _
noncomputable def L6_123:Lt (kid c6_122 0):= .mk _
noncomputable def L6_127:Lt (kid c6_126 0):= .mk _
noncomputable def L6_128:Lt (kid c6_126 1):= .mk _
noncomputable def L6_129:Lt (kid c6_114 1):= .mk _
noncomputable def L6_131:Lt (kid c6_130 0):= .mk _
noncomputable def L6_134:Lt (kid c6_133 0):= .mk _
noncomputable def L6_137:Lt (kid c6_95 1):= .mk _
noncomputable def L6_139:Lt (kid c6_138 0):= .mk _
theorem S6:D tb c6_0=D tb (.seq (Rg L6_1) c6_2)∧D tb c6_2=D tb (.seq c6_3 c6_10)∧D tb c6_3=D tb (.seq (Rg L6_4) c6_5)∧D tb c6_5=D tb (.cond (.tmp 24) c6_6 .skip)∧D tb c6_6=D tb (.seq (Rg L6_7) .ret)∧D tb c6_10=D tb (.seq c6_11 c6_18)∧D tb c6_11=D tb (.seq (Rg L6_12) c6_13)∧D tb c6_13=D tb (.cond (.tmp 26) c6_14 .skip)∧D tb c6_14=D tb (.seq (Rg L6_15) .ret)∧D tb c6_18=D tb (.seq (Rg L6_19) c6_20)∧D tb c6_20=D tb (.seq c6_21 c6_28)∧D tb c6_21=D tb (.seq (Rg L6_22) c6_23)∧D tb c6_23=D tb (.cond (.tmp 33) c6_24 .skip)∧D tb c6_24=D tb (.seq (Rg L6_25) .ret)∧D tb c6_28=D tb (.seq c6_29 c6_84)∧D tb c6_29=D tb (.seq (Rg L6_30) c6_31)∧D tb c6_31=D tb (.block 0 c6_32)∧D tb c6_33=D tb (.seq c6_34 c6_39)∧D tb c6_34=D tb (.seq (Rg L6_35) c6_36)∧D tb c6_36=D tb (.cond (.tmp 38) .skip (.exit 0))∧D tb c6_39=D tb (.seq c6_40 (Rg L6_83))∧D tb c6_40=D tb (.block 1 c6_41)∧D tb c6_41=D tb (.seq (Rg L6_42) c6_43)∧D tb c6_43=D tb (.seq (Rg L6_44) c6_45)∧D tb c6_45=D tb (.seq (Rg L6_46) c6_47)∧D tb c6_47=D tb (.seq c6_48 c6_74)∧D tb c6_48=D tb (.seq (Rg L6_49) c6_50)∧D tb c6_50=D tb (.block 2 c6_51)∧D tb c6_52=D tb (.seq c6_53 c6_58)∧D tb c6_53=D tb (.seq (Rg L6_54) c6_55)∧D tb c6_55=D tb (.cond (.tmp 52) .skip (.exit 2))∧D tb c6_58=D tb (.seq c6_59 (Rg L6_73))∧D tb c6_59=D tb (.block 3 c6_60)∧D tb c6_60=D tb (.seq (.region 17 o6_61 true) c6_62)∧D tb c6_62=D tb (.seq c6_63 c6_70)∧D tb c6_63=D tb (.seq (Rg L6_64) c6_65)∧D tb c6_65=D tb (.cond (.tmp 91) c6_66 .skip)∧D tb c6_66=D tb (.seq (Rg L6_67) .ret)∧D tb c6_70=D tb (.seq (Rg L6_71) (Rg L6_72))∧D tb c6_74=D tb (.seq (Rg L6_75) c6_76)∧D tb c6_76=D tb (.seq (Rg L6_77) c6_78)∧D tb c6_78=D tb (.cond (.tmp 145) c6_79 .skip)∧D tb c6_79=D tb (.seq (Rg L6_80) .ret)∧D tb c6_84=D tb (.seq c6_85 c6_138)∧D tb c6_85=D tb (.seq (Rg L6_86) c6_87)∧D tb c6_87=D tb (.block 4 c6_88)∧D tb c6_89=D tb (.seq c6_90 c6_95)∧D tb c6_90=D tb (.seq (Rg L6_91) c6_92)∧D tb c6_92=D tb (.cond (.tmp 150) .skip (.exit 4))∧D tb c6_95=D tb (.seq c6_96 (Rg L6_137))∧D tb c6_96=D tb (.block 5 c6_97)∧D tb c6_97=D tb (.seq (Rg L6_98) c6_99)∧D tb c6_99=D tb (.seq (Rg L6_100) c6_101)∧D tb c6_101=D tb (.seq (Rg L6_102) c6_103)∧D tb c6_103=D tb (.seq c6_104 c6_130)∧D tb c6_104=D tb (.seq (Rg L6_105) c6_106)∧D tb c6_106=D tb (.block 6 c6_107)∧D tb c6_108=D tb (.seq c6_109 c6_114)∧D tb c6_109=D tb (.seq (Rg L6_110) c6_111)∧D tb c6_111=D tb (.cond (.tmp 162) .skip (.exit 6))∧D tb c6_114=D tb (.seq c6_115 (Rg L6_129))∧D tb c6_115=D tb (.block 7 c6_116)∧D tb c6_116=D tb (.seq (.region 34 o6_117 true) c6_118)∧D tb c6_118=D tb (.seq c6_119 c6_126)∧D tb c6_119=D tb (.seq (Rg L6_120) c6_121)∧D tb c6_121=D tb (.cond (.tmp 195) c6_122 .skip)∧D tb c6_122=D tb (.seq (Rg L6_123) .ret)∧D tb c6_126=D tb (.seq (Rg L6_127) (Rg L6_128))∧D tb c6_130=D tb (.seq (Rg L6_131) c6_132)∧D tb c6_132=D tb (.cond (.tmp 227) c6_133 .skip)∧D tb c6_133=D tb (.seq (Rg L6_134) .ret)∧D tb c6_138=D tb (.seq (Rg L6_139) .ret):=⟨rfl,rfl,rfl,rfl,rfl,rfl,rfl,rfl,rfl,rfl,rfl,rfl,rfl,rfl,rfl,rfl,rfl,rfl,rfl,rfl,rfl,rfl,rfl,rfl,rfl,rfl,rfl,rfl,rfl,rfl,rfl,rfl,rfl,rfl,rfl,rfl,rfl,rfl,rfl,rfl,rfl,rfl,rfl,rfl,rfl,rfl,rfl,rfl,rfl,rfl,rfl,rfl,rfl,rfl,rfl,rfl,rfl,rfl,rfl,rfl,rfl,rfl,rfl,rfl,rfl,rfl,rfl,rfl,rfl,rfl,rfl,rfl⟩
end
end Go.Proofs.YtghhphdkojjalaaGreatDoor
namespace Go.Proofs.YtghhphdkojjalaaGreatDoor
open Go Go.Abs
set_option maxRecDepth 100000
theorem a_4{P:Program}{n:Nat}{t:TypeId}{x:V}(ht:P.underlying t=some .string)(h:Shaped P n t x):∃s:Str,x= .str s:=by
 cases n with
 |zero=>exact h.elim
 |succ n=>
  unfold Shaped at h
  rw[ht]at h
  obtain⟨s,rfl,_⟩:=h
  exact⟨s,rfl⟩
theorem K_7{P:Program}{n:Nat}{t:TypeId}{x:V}(ht:P.underlying t=some .bool)(h:Shaped P n t x):∃b:Bool,x= .bool b:=by
 cases n with
 |zero=>exact h.elim
 |succ n=>
  unfold Shaped at h
  rw[ht]at h
  exact h
theorem b_7{P:Program}{n:Nat}{t:TypeId}{fs:Array Field}{x:V}(ht:P.underlying t=some (.struct fs))(h:Shaped P n t x):∃ys:List V,x= .agg (ys.flatMap V.cells)∧ys.length=fs.size∧∀(i:Nat) (f:Field) (y:V),fs[i]? =some f→ys[i]? =some y→Shaped P (n-1) f.type y:=by
 cases n with
 |zero=>exact h.elim
 |succ n=>
  unfold Shaped at h
  rw[ht]at h
  exact h
theorem b_0{P:Program}{α:Type}{g:α→V}{Q:α→Prop}{n:Nat}{t e:TypeId}{x:V}(ht:P.underlying t=some (.slice e))(he:∀n y,Shaped P n e y→∃a,y=g a∧Q a)(h:Shaped P n t x):∃(nl:Bool) (xs:List α),x= .list false (some nl) (xs.map g)∧∀a∈xs,Q a:=by
 cases n with
 |zero=>exact h.elim
 |succ n=>
  unfold Shaped at h
  rw[ht]at h
  obtain⟨nl,xs,rfl,_,_,hx⟩:=h
  have:∀xs:List V,(∀y∈xs,Shaped P n e y)→∃bs:List α,xs=bs.map g∧∀a∈bs,Q a:=by
   intro xs
   induction xs with
   |nil=>intro _;exact⟨[],rfl,fun a h=>by cases h⟩
   |cons y ys ih=>
    intro h
    obtain⟨a,rfl,hq⟩:=he n y (h y (by simp))
    obtain⟨bs,rfl,hqs⟩:=ih fun z hz=>h z (by simp[hz])
    refine⟨a::bs,rfl,fun b hb=> ?_⟩
    rcases List.mem_cons.1 hb with rfl|hb
    ·exact hq
    ·exact hqs b hb
  obtain⟨bs,rfl,hq⟩:=this xs hx
  exact⟨nl,bs,rfl,hq⟩
theorem D_2{n:Nat}{x:V}(h:Shaped Tryz.prog n 49 x):∃a:Var,x=a.v∧True:=by
 obtain⟨ys,rfl,hl,hf⟩:=b_7 Tryz.underlying49 h
 have hl':ys.length=2:=hl
 rcases ys with _|⟨y0,_|⟨y1,_|⟨z,r⟩⟩⟩
 ·simp at hl'
 ·simp at hl'
 ·have h0:=hf 0 _ y0 rfl rfl
  have h1:=hf 1 _ y1 rfl rfl
  obtain⟨a0,rfl⟩:=a_4 Tryz.underlying9 h0
  obtain⟨a1,rfl⟩:=a_4 Tryz.underlying9 h1
  exact⟨⟨a0,a1⟩,by simp[Var.v,V.cells],trivial⟩
 ·simp at hl'
theorem v_4{n:Nat}{x:V}(h:Shaped Tryz.prog n 69 x):∃a:Place,x=a.v∧True:=by
 obtain⟨ys,rfl,hl,hf⟩:=b_7 Tryz.underlying69 h
 have hl':ys.length=2:=hl
 rcases ys with _|⟨y0,_|⟨y1,_|⟨z,r⟩⟩⟩
 ·simp at hl'
 ·simp at hl'
 ·have h0:=hf 0 _ y0 rfl rfl
  have h1:=hf 1 _ y1 rfl rfl
  obtain⟨a0,rfl⟩:=a_4 Tryz.underlying9 h0
  obtain⟨nl1,a1,rfl,q1⟩:=b_0 (g:=V.str) (Q:=fun _=>True) Tryz.underlying67 (fun n y h=>by obtain⟨a,rfl⟩:=a_4 Tryz.underlying9 h;exact⟨a,rfl,trivial⟩) h1
  exact⟨⟨a0,some nl1,a1⟩,by simp[Place.v,V.cells],trivial⟩
 ·simp at hl'
theorem Y_2{n:Nat}{x:V}(h:Shaped Tryz.prog n 114 x):∃a:Arm,x=a.v∧True:=by
 obtain⟨ys,rfl,hl,hf⟩:=b_7 Tryz.underlying114 h
 have hl':ys.length=3:=hl
 rcases ys with _|⟨y0,_|⟨y1,_|⟨y2,_|⟨z,r⟩⟩⟩⟩
 ·simp at hl'
 ·simp at hl'
 ·simp at hl'
 ·have h0:=hf 0 _ y0 rfl rfl
  have h1:=hf 1 _ y1 rfl rfl
  have h2:=hf 2 _ y2 rfl rfl
  obtain⟨a0,rfl⟩:=a_4 Tryz.underlying9 h0
  obtain⟨a1,rfl⟩:=a_4 Tryz.underlying9 h1
  obtain⟨a2,rfl⟩:=a_4 Tryz.underlying9 h2
  exact⟨⟨a0,a1,a2⟩,by simp[Arm.v,V.cells],trivial⟩
 ·simp at hl'
theorem U_0{n:Nat}{x:V}(h:Shaped Tryz.prog n 77 x):∃a:Stmt,x=a.v∧a.wf:=by
 obtain⟨ys,rfl,hl,hf⟩:=b_7 Tryz.underlying77 h
 have hl':ys.length=7:=hl
 rcases ys with _|⟨y0,_|⟨y1,_|⟨y2,_|⟨y3,_|⟨y4,_|⟨y5,_|⟨y6,_|⟨z,r⟩⟩⟩⟩⟩⟩⟩⟩
 ·simp at hl'
 ·simp at hl'
 ·simp at hl'
 ·simp at hl'
 ·simp at hl'
 ·simp at hl'
 ·simp at hl'
 ·have h0:=hf 0 _ y0 rfl rfl
  have h1:=hf 1 _ y1 rfl rfl
  have h2:=hf 2 _ y2 rfl rfl
  have h3:=hf 3 _ y3 rfl rfl
  have h4:=hf 4 _ y4 rfl rfl
  have h5:=hf 5 _ y5 rfl rfl
  have h6:=hf 6 _ y6 rfl rfl
  obtain⟨a0,rfl,b0,c0⟩:=k_6 Tryz.underlying3 h0
  obtain⟨a1,rfl,b1,c1⟩:=k_6 Tryz.underlying3 h1
  obtain⟨a2,rfl,q2⟩:=v_4 h2
  obtain⟨a3,rfl,b3,c3⟩:=k_6 Tryz.underlying2 h3
  obtain⟨a4,rfl⟩:=a_4 Tryz.underlying9 h4
  obtain⟨a5,rfl⟩:=a_4 Tryz.underlying9 h5
  obtain⟨nl6,a6,rfl,q6⟩:=b_0 (g:=Place.v) (Q:=fun _=>True) Tryz.underlying70 (fun n y h=>v_4 h) h6
  exact⟨⟨a0,a1,a2,a3,a4,a5,some nl6,a6⟩,by simp[Stmt.v,Place.v,V.cells],⟨⟨b1,c1⟩,⟨b3,c3⟩⟩⟩
 ·simp at hl'
theorem U_2{n:Nat}{x:V}(h:Shaped Tryz.prog n 73 x):∃a:Term,x=a.v∧a.wf:=by
 obtain⟨ys,rfl,hl,hf⟩:=b_7 Tryz.underlying73 h
 have hl':ys.length=7:=hl
 rcases ys with _|⟨y0,_|⟨y1,_|⟨y2,_|⟨y3,_|⟨y4,_|⟨y5,_|⟨y6,_|⟨z,r⟩⟩⟩⟩⟩⟩⟩⟩
 ·simp at hl'
 ·simp at hl'
 ·simp at hl'
 ·simp at hl'
 ·simp at hl'
 ·simp at hl'
 ·simp at hl'
 ·have h0:=hf 0 _ y0 rfl rfl
  have h1:=hf 1 _ y1 rfl rfl
  have h2:=hf 2 _ y2 rfl rfl
  have h3:=hf 3 _ y3 rfl rfl
  have h4:=hf 4 _ y4 rfl rfl
  have h5:=hf 5 _ y5 rfl rfl
  have h6:=hf 6 _ y6 rfl rfl
  obtain⟨a0,rfl,b0,c0⟩:=k_6 Tryz.underlying3 h0
  obtain⟨a1,rfl,b1,c1⟩:=k_6 Tryz.underlying3 h1
  obtain⟨a2,rfl,q2⟩:=v_4 h2
  obtain⟨a3,rfl⟩:=a_4 Tryz.underlying9 h3
  obtain⟨nl4,a4,rfl,q4⟩:=b_0 (g:=Place.v) (Q:=fun _=>True) Tryz.underlying70 (fun n y h=>v_4 h) h4
  obtain⟨nl5,a5,rfl,q5⟩:=b_0 (g:=V.str) (Q:=fun _=>True) Tryz.underlying67 (fun n y h=>by obtain⟨a,rfl⟩:=a_4 Tryz.underlying9 h;exact⟨a,rfl,trivial⟩) h5
  obtain⟨nl6,a6,rfl,q6⟩:=b_0 (g:=Arm.v) (Q:=fun _=>True) Tryz.underlying71 (fun n y h=>Y_2 h) h6
  exact⟨⟨a0,a1,a2,a3,some nl4,a4,some nl5,a5,some nl6,a6⟩,by simp[Term.v,Place.v,V.cells],⟨b1,c1⟩⟩
 ·simp at hl'
theorem R_{n:Nat}{x:V}(h:Shaped Tryz.prog n 75 x):∃a:Block,x=a.v∧a.wf:=by
 obtain⟨ys,rfl,hl,hf⟩:=b_7 Tryz.underlying75 h
 have hl':ys.length=4:=hl
 rcases ys with _|⟨y0,_|⟨y1,_|⟨y2,_|⟨y3,_|⟨z,r⟩⟩⟩⟩⟩
 ·simp at hl'
 ·simp at hl'
 ·simp at hl'
 ·simp at hl'
 ·have h0:=hf 0 _ y0 rfl rfl
  have h1:=hf 1 _ y1 rfl rfl
  have h2:=hf 2 _ y2 rfl rfl
  have h3:=hf 3 _ y3 rfl rfl
  obtain⟨a0,rfl,b0,c0⟩:=k_6 Tryz.underlying3 h0
  obtain⟨a1,rfl⟩:=a_4 Tryz.underlying9 h1
  obtain⟨nl2,a2,rfl,q2⟩:=b_0 (g:=Stmt.v) (Q:=Stmt.wf) Tryz.underlying66 (fun n y h=>U_0 h) h2
  obtain⟨a3,rfl,q3⟩:=U_2 h3
  exact⟨⟨a0,a1,some nl2,a2,a3⟩,by simp[Block.v,Term.v,V.cells],⟨q2,q3⟩⟩
 ·simp at hl'
theorem Z_{n:Nat}{x:V}(h:Shaped Tryz.prog n 65 x):∃a:Fun,x=a.v∧a.wf:=by
 obtain⟨ys,rfl,hl,hf⟩:=b_7 Tryz.underlying65 h
 have hl':ys.length=6:=hl
 rcases ys with _|⟨y0,_|⟨y1,_|⟨y2,_|⟨y3,_|⟨y4,_|⟨y5,_|⟨z,r⟩⟩⟩⟩⟩⟩⟩
 ·simp at hl'
 ·simp at hl'
 ·simp at hl'
 ·simp at hl'
 ·simp at hl'
 ·simp at hl'
 ·have h0:=hf 0 _ y0 rfl rfl
  have h1:=hf 1 _ y1 rfl rfl
  have h2:=hf 2 _ y2 rfl rfl
  have h3:=hf 3 _ y3 rfl rfl
  have h4:=hf 4 _ y4 rfl rfl
  have h5:=hf 5 _ y5 rfl rfl
  obtain⟨a0,rfl,b0,c0⟩:=k_6 Tryz.underlying3 h0
  obtain⟨a1,rfl⟩:=a_4 Tryz.underlying9 h1
  obtain⟨nl2,a2,rfl,q2⟩:=b_0 (g:=Var.v) (Q:=fun _=>True) Tryz.underlying35 (fun n y h=>D_2 h) h2
  obtain⟨nl3,a3,rfl,q3⟩:=b_0 (g:=Var.v) (Q:=fun _=>True) Tryz.underlying35 (fun n y h=>D_2 h) h3
  obtain⟨a4,rfl⟩:=a_4 Tryz.underlying9 h4
  obtain⟨nl5,a5,rfl,q5⟩:=b_0 (g:=Block.v) (Q:=Block.wf) Tryz.underlying63 (fun n y h=>R_ h) h5
  exact⟨⟨a0,a1,some nl2,a2,some nl3,a3,a4,some nl5,a5⟩,by simp[Fun.v,V.cells],q5⟩
 ·simp at hl'
theorem U_4{n:Nat}{x:V}(h:Shaped Tryz.prog n 37 x):∃a:Struct,x=a.v∧True:=by
 obtain⟨ys,rfl,hl,hf⟩:=b_7 Tryz.underlying37 h
 have hl':ys.length=5:=hl
 rcases ys with _|⟨y0,_|⟨y1,_|⟨y2,_|⟨y3,_|⟨y4,_|⟨z,r⟩⟩⟩⟩⟩⟩
 ·simp at hl'
 ·simp at hl'
 ·simp at hl'
 ·simp at hl'
 ·simp at hl'
 ·have h0:=hf 0 _ y0 rfl rfl
  have h1:=hf 1 _ y1 rfl rfl
  have h2:=hf 2 _ y2 rfl rfl
  have h3:=hf 3 _ y3 rfl rfl
  have h4:=hf 4 _ y4 rfl rfl
  obtain⟨a0,rfl,b0,c0⟩:=k_6 Tryz.underlying3 h0
  obtain⟨a1,rfl⟩:=a_4 Tryz.underlying9 h1
  obtain⟨a2,rfl⟩:=K_7 Tryz.underlying4 h2
  obtain⟨a3,rfl⟩:=K_7 Tryz.underlying4 h3
  obtain⟨nl4,a4,rfl,q4⟩:=b_0 (g:=Var.v) (Q:=fun _=>True) Tryz.underlying35 (fun n y h=>D_2 h) h4
  exact⟨⟨a0,a1,a2,a3,some nl4,a4⟩,by simp[Struct.v,V.cells],trivial⟩
 ·simp at hl'
theorem T_7{n:Nat}{x:V}(h:Shaped Tryz.prog n 45 x):∃a:Enum,x=a.v∧True:=by
 obtain⟨ys,rfl,hl,hf⟩:=b_7 Tryz.underlying45 h
 have hl':ys.length=3:=hl
 rcases ys with _|⟨y0,_|⟨y1,_|⟨y2,_|⟨z,r⟩⟩⟩⟩
 ·simp at hl'
 ·simp at hl'
 ·simp at hl'
 ·have h0:=hf 0 _ y0 rfl rfl
  have h1:=hf 1 _ y1 rfl rfl
  have h2:=hf 2 _ y2 rfl rfl
  obtain⟨a0,rfl,b0,c0⟩:=k_6 Tryz.underlying3 h0
  obtain⟨a1,rfl⟩:=a_4 Tryz.underlying9 h1
  obtain⟨nl2,a2,rfl,q2⟩:=b_0 (g:=Var.v) (Q:=fun _=>True) Tryz.underlying35 (fun n y h=>D_2 h) h2
  exact⟨⟨a0,a1,some nl2,a2⟩,by simp[Enum.v,V.cells],trivial⟩
 ·simp at hl'
theorem E_0{n:Nat}{x:V}(h:Shaped Tryz.prog n 26 x):∃a:Prog,x=a.v∧a.wf:=by
 obtain⟨ys,rfl,hl,hf⟩:=b_7 Tryz.underlying26 h
 have hl':ys.length=3:=hl
 rcases ys with _|⟨y0,_|⟨y1,_|⟨y2,_|⟨z,r⟩⟩⟩⟩
 ·simp at hl'
 ·simp at hl'
 ·simp at hl'
 ·have h0:=hf 0 _ y0 rfl rfl
  have h1:=hf 1 _ y1 rfl rfl
  have h2:=hf 2 _ y2 rfl rfl
  obtain⟨nl0,a0,rfl,q0⟩:=b_0 (g:=Struct.v) (Q:=fun _=>True) Tryz.underlying22 (fun n y h=>U_4 h) h0
  obtain⟨nl1,a1,rfl,q1⟩:=b_0 (g:=Enum.v) (Q:=fun _=>True) Tryz.underlying23 (fun n y h=>T_7 h) h1
  obtain⟨nl2,a2,rfl,q2⟩:=b_0 (g:=Fun.v) (Q:=Fun.wf) Tryz.underlying24 (fun n y h=>Z_ h) h2
  exact⟨⟨some nl0,a0,some nl1,a1,some nl2,a2⟩,by simp[Prog.v,V.cells],q2⟩
 ·simp at hl'
end Go.Proofs.YtghhphdkojjalaaGreatDoor
namespace Go.Proofs.YtghhphdkojjalaaGreatDoor
open Go Go.Abs Go.ChangeShapes Go.WideShapes Go.RowKit
set_option maxRecDepth 1000000
theorem as_1:(Tryz.prog.funcs.toList.all fun F=>F.name != "runtime.NumGoroutine")=true:=by kernel_rfl
theorem U_8:(asciiNs.map (V.int .u8)).all (below 0 deep)=true:=by
 rw[List.all_eq_true]
 intro x hx
 obtain⟨i, -,rfl⟩:=List.mem_map.1 hx
 rfl
theorem own:ownKnob Tryz.prog.godebug=none:=by kernel_rfl
theorem ah_3:Tryz.prog.globalNamed "strings.asciiSpace" =some 0:=by kernel_rfl
theorem aX_9(args:Array Value)(w:World):(callFunc 198 args).run Tryz.prog w=((do pure (Next.value (←extSem .indexByteString args))):Sem Next).run Tryz.prog w:=by
 have hf:Tryz.prog.funcs[198]? =some Tryz.f198:=Tryz.func198
 have h1:(Tryz.f198.name== "runtime.NumGoroutine")=false:=by kernel_rfl
 have h2:Tryz.f198.body.isNone=true:=by kernel_rfl
 have h3:(Extern.findNext Tryz.f198).isNone=true:=by kernel_rfl
 have h4:Extern.find Tryz.f198=some Extern.BytealgIndexByte.indexByte:=by rfl
 rw[Option.isNone_iff_eq_none]at h3
 simp only[callFunc,Sem.run_bind,run_program,Result.andThen_ok,hf,h1,Bool.false_eq_true,if_false,h2,if_true,h3,h4]
 rfl
theorem T_8:tb.Fits Tryz.prog:=a_▸Tab.of_fits (fun f F h=>by
  have:=List.all_eq_true.1 as_1 F (List.mem_of_getElem? (i:=f) (by simpa using h))
  simpa using this) (fun f e h args w=>by
  split at h
  ·rename_i hf
   cases h
   subst hf
   exact aX_9 args w
  ·cases h) (by kernel_rfl) (fun g cs h=>by
  split at h
  ·cases h;exact U_8
  ·cases h)
theorem U_7{W:World}(h:laidMetH Tryz.prog Rows.tableDiagsUptoRow.laid W):GlobOk tb (k0 W):=by
 rw[MakeChecks.laidMetH_plain _ _ _ (by kernel_rfl)]at h
 intro g cs hg
 rw[a_]at hg
 simp only[tb0,Tab.of]at hg
 split at hg
 ·rename_i e
  subst e;cases hg
  obtain⟨ps,⟨_,_,_,_,_,_,_,_,_,_,⟨_,_,_,_,_,_,_,_,_,_,⟨_,_,_,_,_,_,_,_,_,_,⟨_,_,_,_,_,_,_,_,_,_,⟨_,_,_,_,_,_,_,_,_,_,⟨_,_,_,_,_,_,_,_,_,_,⟨g,t,cs,fuel,p,q,h1,h2,h3,h4,_⟩,_⟩,_⟩,_⟩,_⟩,_⟩,_⟩,_⟩:=h
  rw[ah_3]at h1;cases h1
  have ht:t=216:=by
   have h5:(Tryz.prog.globals[0]?).map (·.type)=some 216:=by kernel_rfl
   rw[h5]at h2;exact(Option.some.inj h2).symm
  subst ht
  exact aw_1 ah_3 h3 (aa_7 (n:=256) Tryz.underlying216 (e:=5) (by kernel_rfl) (by kernel_rfl) (by kernel_rfl) h4)
 ·cases hg
theorem uptoAll{H:Type}:∀l:List (DataW H),Rows.uptoBulkAll l=(l.map Rows.uptoBulk).sum
 |[]=>by simp[Rows.uptoBulkAll]
 |d::r=>by rw[Rows.uptoBulkAll,uptoAll r];simp
theorem U_6{H:Type}:BulkOk (Rows.uptoBulk (H:=H)) where
 str bytes:=by simp[Rows.uptoBulk]
 lit l:=by cases l<;>simp[Rows.uptoBulk]
 nil:=by simp[Rows.uptoBulk]
 ptr d:=by simp[Rows.uptoBulk]
 slice es sp:=by simp only[Rows.uptoBulk,uptoAll];omega
 agg ps:=by simp only[Rows.uptoBulk,uptoAll];omega
theorem G_2{H:Type}(ds:List (DataW H))(h:Rows.uptoSmall H ds=true):(ds.map Rows.uptoBulk).sum≤1048576:=by
 have h1:Rows.uptoBulkAll ds≤1048576:=of_decide_eq_true h
 rw[←uptoAll];exact h1
def tyL:List TypeId:=[26,22,23,24,37,45,65,35,49,63,75,66,77,69,67,70,73,71,114,9,3,2,4]
theorem P_2:tyL.all (tyIn Tryz.prog tyL)=true:=by kernel_rfl
noncomputable def laidWorld(os:Os):World:=World.laidAll Tryz.prog os Rows.tableDiagsUptoRow.laid
theorem w_6(os:Os)(args:Array Value):laidMetH Tryz.prog Rows.tableDiagsUptoRow.laid ((laidWorld os).forCall (fun _ _=>0) ⟨#[],args,[]⟩).memory:=by
 rw[MakeChecks.laidMetH_plain _ _ _ (by kernel_rfl)]
 exact laidMet_laidAll _ (by kernel_rfl) (by kernel_rfl)
theorem P_6:laidOutB Tryz.prog=true:=by kernel_rfl
end Go.Proofs.YtghhphdkojjalaaGreatDoor
namespace Go.Proofs.YtghhphdkojjalaaGreatDoor
open Go.Abs
attribute [local simp] K_0 L_0 q_ z_4 l_0 M_1 z_ y_2 t_9 c_7 j_7 m_9 c_ e_9 j_8 c_3 h_4 finish dropMarks resOf
 resList o_3 l_4 i_8 e_6 d_ c_1 n_5 j_ c_0 b_ a_9 c_4 c_2 f_7 f_5 c_6
 c_8 e_5 m_8 L_4 D_1 m_3 B_5 f_ M_0 s_un D_0 s_ c_9 d_2 q_7 r_9 j_6 z_2 r_3 K_5 B_ D_ L_1 l_6
 d_1 b_9 l_7 q_4 g_ i_2 m_0 m_7 m_4 m_6 a_7 d_0 f_6 e_4 e_2 j_5 j_1 i_4 e_1
 t_3 m_1 n_4 n_1 s_6 t_2 u_5 q_5 i_9 s_7 evArgs o_5 k_ l_8 f_3 g_9 v_2 ofValue ofValues isConst C_7 y_8 x_8 x_4
 A_0 z_3 C_0 y_3 z_1 B_0 C_2 z_8 C_6 A_5 A_6 y_ strBin bne C_3 B_3 B_6 convV evConv optArg a_6 argF B_4 s_9 q_8 p_ n_2 x_5
 t_4 p_4 l_2 k_0 i_0 g_1 j_4 g_5 d_8 y_5 u_0 i_5 k_1 okCells L_3 b_4 g_0 d_9 i_3 i_1 f_1
 i_6 j_0 l_ q_9 r_4 m_ t_6 s_5 n_0 t_ t_8 j_2 h_1 e_3 e_0 h_3 splice putElem k_8 i_ l_1 g_6
 t_7 e_8 bdV fill l_9 bsF setAll d_6 f_2 x_1 n_7 e_7 h_6 h_5 f_4 p_2 v_7 t_1 s_1 x_7 r_5 s_0 p_6 j_9
 q_3 x_2 C_4 p_5 g_8 d_7 p_3 v_8 p_0 u_2 h_8 z_5 q_0 n_3 y_4 u_4 u_3 C_5 l_5 r_1 d_4 n_ h_7 B_1
 q_6 C_1 A_8 B_7 g_7 r_7 q_1 y_7 y_6 y_9 x_6 u_1 l_3 u_7 s_4 deep List.getD_cons_zero List.getD_cons_succ List.getElem?_cons_zero
 List.getElem?_cons_succ List.getElem?_nil t_0 s_2 A_9 x_9 y_0 A_2 u_6 q_2 B_9 y_1 r_0 s_8 r_6 t_5 r_2 r_ n_6 m_5 z_7 z_6
 j_3 i_7 s_3 r_8 f_9 f_0 A_ C_8 A_4 C_9 ld26 sr26 al26 F_8 G_ F_9 bd26 ld22 sr22 T_ ia22 ib22 ln22 lo22 ap22 bs22 ld3 sr3 und3 ld37 sr37 al37
 I_1 I_2 I_0 I_4 I_3 bd37 ld9 und9 ln9 ix9 ld4 sr4 und4 ld35 sr35 Q_3 ia35 ln35 sl35 ap35 bs35 af_0 ai_1 ah_8 ah_1 ag_0 ae_8 ah_2 bd90 ld79 bs_5 ia79 ib79 ln79 lo79 ap79
 bs79 ld23 sr23 T_0 ia23 ib23 ln23 lo23 ap23 bs23 ld45 sr45 al45 K_8 K_9 K_3 bd62 ap_6 ln30 lo30 ap30 bs30 ld82 V_1 W_ bd84 ld29 sr29 al29 ld88 ld67 sr67 R_0 ia67 ib67 ln67 lo67
 ap67 bs67 bg_2 af_7 ab_0 aa_4 mm82 lu82 mu82 o_9 A_3 B_8 o_6 o_7 k_7 c_5 k_4 o_2 p41_8 p41_25 q11_21 l11_21 p11_31 Y_7 O_4
 O_2 X_5 kdOp kdOf isPure readsOf protS D_Rg S11 L11_1 L11_4 L11_7 L11_11 L11_13 L11_16 L11_19 M11_19 L11_23 L11_26 L11_29 L11_33 L11_41 L11_43 L11_45 L11_47 L11_51 L11_54 L11_58 S41 L41_1 L41_3
 L41_6 L41_10 L41_18 L41_19 L41_20 L41_23 L41_27 L41_35 L41_36 L41_37 L41_39
set_option maxRecDepth 100000
set_option linter.unusedSimpArgs false
set_option linter.unusedVariables false
set_option maxHeartbeats 4000000
theorem af_2:∀l:List Enum,V.bulks ((l.map Enum.nrm).map Enum.v)=V.bulks (l.map Enum.v)
 |[]=>rfl
 |x::l=>by
  have h:(Enum.nrm x).v.bulk=x.v.bulk:=by rw[K_2,K_2];rfl
  simp only[List.map_cons,V.bulks,h,af_2 l]
theorem _root_.Go.Abs.AccT.growT{w:Nat}{a b:St}{v:V}{es:List V}(h:AccT w a v es)(g:Grows a b):AccT w b v es:=by
 rcases h with h|⟨r,h1,h2,h3⟩
 ·exact .inl h
 ·exact .inr ⟨r,h1,h2,g.at_ h3⟩
theorem aA_5{p:Prog}(hf:p.funcs=[]):(⟨none,p.structs.map Struct.nrm,none,p.enums.map Enum.nrm,none,[]⟩:Prog).size=p.size:=by
 rw[b_6,b_6,hf]
 show V.bulks ((p.structs.map Struct.nrm).map Struct.v)+V.bulks ((p.enums.map Enum.nrm).map Enum.v)+_+3=_
 rw[N_6,af_2]
structure IxV(ty w:Nat)(st:St)(v:V)(es:List V):Prop where
 cells:v.cells=[v]
 one:v.oneCell=true
 len:∀st',lenV tb ty st' v=some (.int .i64 (es.length:Nat))
 get:∀(i:Nat) x,es[i]? =some x→∃a,evIndexAddr tb ty v (.int .i64 (i:Nat))=some a∧∀st':St,(∀j,j<st.store.length→st'.store[j]? =st.store[j]?)→loadN w st' a=some x
theorem IxV.grow{ty w:Nat}{a b:St}{v:V}{es:List V}(h:IxV ty w a v es)(g:Grows a b):IxV ty w b v es:=
 ⟨h.cells,h.one,h.len,fun i x hx=>by
  obtain⟨p,h1,h2⟩:=h.get i x hx
  exact⟨p,h1,fun st' hs=>h2 st' fun j hj=>by rw[hs j (Nat.lt_of_lt_of_le hj g.len),g.get j hj]⟩⟩
theorem be_9{ty w:Nat}{st:St}{v:V}{es:List V}(h:AccT w st v es)(hl:∀st' fl nl,lenV tb ty st' (.list fl nl [])=some (.int .i64 0))(ho:∀st' r s o l,lenV tb ty st' (.slice r s o l)=some (.int .i64 (l:Nat)))(hi:∀r s o l k i,evIndexAddr tb ty (.slice r s o l) (.int k i)=idxS w r s o l i)(hc:∀x∈es,∃cs,x= .agg cs∧cs.length=w):IxV ty w st v es:=by
 rcases h with⟨nl,rfl,rfl⟩|⟨r,he,rfl,h⟩
 ·exact⟨rfl,rfl,fun st'=>hl _ _ _,fun i x hx=>by simp at hx⟩
 ·refine⟨rfl,rfl,fun st'=>ho _ _ _ _ _,fun i x hx=> ?_⟩
  have hlt:=(List.getElem?_eq_some_iff.1 hx).1
  refine⟨.eptr r (0+i) 0,by rw[hi,l_1 hlt rfl],fun st' hs=> ?_⟩
  have hr:=(List.getElem?_eq_some_iff.1 h).1
  obtain⟨cs,rfl,hw⟩:=hc x (List.mem_of_getElem? hx)
  rw[l_2,hs r hr,h,g_1,Nat.zero_add,hx,g_5]
  show aggPart 0 w cs=_
  rw[d_8 (by omega),List.drop_zero,←hw,List.take_length]
theorem aT_3{st:St}{v:V}{l:List Struct}(h:AccT 5 st v (l.map Struct.v)):IxV 22 5 st v (l.map Struct.v):=
 be_9 h (fun st' fl nl=>ln22) (fun st' r s o l=>lo22) (fun r s o l k i=>ib22) fun x hx=>by
  obtain⟨y, -,rfl⟩:=List.mem_map.1 hx
  exact⟨_,rfl,rfl⟩
theorem bk_8{st:St}{v:V}{l:List Enum}(h:AccT 3 st v (l.map Enum.v)):IxV 23 3 st v (l.map Enum.v):=
 be_9 h (fun st' fl nl=>ln23) (fun st' r s o l=>lo23) (fun r s o l k i=>ib23) fun x hx=>by
  obtain⟨y, -,rfl⟩:=List.mem_map.1 hx
  exact⟨_,rfl,rfl⟩
theorem aK_4{s:Nat}{st:St}{v:V}{es:List V}(h:AccT s st v es){k:Nat}{g:V→V}(hg:∀x∈es,Go.Abs.freeze st none k x=some (g x)):Go.Abs.freeze st none (k+1) v=some (.list false none (es.map g)):=by
 rcases h with⟨nl,rfl,rfl⟩|⟨r,he,rfl,h⟩
 ·rfl
 ·rw[d_7,h]
  simp only[sliceO,rowA,frozenNow,Bool.true_or,if_true,Nat.zero_add,Nat.le_refl,List.drop_zero,List.take_length]
  rw[E_6 hg];rfl
def revv(p:Prog):Prog:=⟨none,p.structs.map Struct.nrm,none,p.enums.map Enum.nrm,none,[]⟩
theorem aW_5(p:Prog)(hf:p.funcs=[]):right (revv p)=right p:=by
 have e1:∀l:List Struct,(l.map Struct.nrm).all structOk=l.all structOk:=fun l=>by rw[List.all_map];rfl
 have e2:∀l:List Enum,(l.map Enum.nrm).all enumOk=l.all enumOk:=fun l=>by rw[List.all_map];rfl
 unfold right few revv
 simp only[e1,e2,List.length_map,hf]
theorem aC_4{p:Prog}(hf:p.funcs=[]){s:St}{v1 v2:V}{b:Option Bool}(a1:AccT 5 s v1 (p.structs.map Struct.v))(a2:AccT 3 s v2 (p.enums.map Enum.v)):[V.agg [v1,v2, .list true b []]].mapM (Go.Abs.freeze s none 40)=[V.agg [.list false none ((revv p).structs.map Struct.v), .list false none ((revv p).enums.map Enum.v), .list false none ((revv p).funcs.map Fun.v)]].mapM (Go.Abs.freeze s none 40):=by
 have f1:=aK_4 (k:=38) (g:=fun x=>match x with| .agg [a,b,c,d, .list fl nl xs]=> .agg [a,b,c,d, .list false none xs]|x=>x) a1 (by
  intro x hx
  obtain⟨y, -,rfl⟩:=List.mem_map.1 hx
  rfl)
 have f2:=aK_4 (k:=38) (g:=fun x=>match x with| .agg [a,b, .list fl nl xs]=> .agg [a,b, .list false none xs]|x=>x) a2 (by
  intro x hx
  obtain⟨y, -,rfl⟩:=List.mem_map.1 hx
  rfl)
 rw[List.map_map]at f1 f2
 simp only[n_7,x_1,x_2,f1,f2,p_5,revv,List.map_map]
 rfl
theorem bh_6{p:Prog}(hf:p.funcs=[])(h:p.size≤1048576){st:St}{v1 v2:V}{b:Option Bool}(a1:AccT 5 st v1 (p.structs.map Struct.v))(a2:AccT 3 st v2 (p.enums.map Enum.v))(s:St)(g:Grows st s):(run tb).call 40 [.agg [v1,v2, .list true b []]] s=some (.bool (right p),s):=by
 rw[R_2 (by rw[a_];rfl) (aC_4 hf (a1.growT g) (a2.growT g)),←aW_5 p hf]
 exact av_1 (revv p) false false false none none none (by have:=aA_5 hf;unfold revv;rw[this];exact h) s
theorem be_4{p:Prog}(hf:p.funcs=[])(h:p.size≤1048576){st:St}{v1 v2:V}{b:Option Bool}(a1:AccT 5 st v1 (p.structs.map Struct.v))(a2:AccT 3 st v2 (p.enums.map Enum.v))(s:St)(g:Grows st s):(run tb).call 42 [.agg [v1,v2, .list true b []]] s=some (p.nrm.v,s):=by
 rw[R_2 (by rw[a_];rfl) (aC_4 hf (a1.growT g) (a2.growT g))]
 rw[aA_8 (revv p) false false false none none none (by have:=aA_5 hf;unfold revv;rw[this];exact h) s]
 have:(revv p).nrm.v=p.nrm.v:=by
  unfold Prog.nrm revv
  simp only[List.map_map,hf]
  rfl
 rw[this]
theorem aW_7(p:Prog)(v1 v2 v3:V)(h:p.size≤1048576)(st:St)(hb:st.base=0)(hp:st.prot=[])(h1:IxV 22 5 st v1 (p.structs.map Struct.v))(h2:IxV 23 3 st v2 (p.enums.map Enum.v))(h3:v3.cells=[v3]∧v3.oneCell=true):Ret (fun v st'=>DeclsV st st' v (declsOf p)) ((run tb).call 41 [.agg [v1,v2,v3]] st):=by
 have hz:=h
 have c1:=h1.cells
 have c2:=h2.cells
 have len1:=h1.len
 have len2:=h2.len
 rw[List.length_map]at len1 len2
 have o1:=h1.one
 have o2:=h2.one
 obtain⟨c3,o3⟩:=h3
 rw[b_6]at hz
 have l1:=m_2 p.structs
 have l2:=w_9 p.enums
 have hbx:=b_4 (l:=st.store) (a:=O.box [v1,v2,v3])
 rw[run41 (by simp)]
 simp[-List.getD_eq_getElem?_getD, -getElem?_pos,c1,c2,c3,o1,o2,o3,len1]
 obtain⟨s0,hs0⟩:∃s0,s0=newBox st [v1,v2,v3]:=⟨_,rfl⟩
 have hg0:Grows st s0:=by rw[hs0];exact p_1 (Grows.refl _) _
 have hbx:s0.store[st.store.length]? =some (.box [v1,v2,v3]):=by rw[hs0];exact b_4
 rw[←hs0]
 have i1:s0.base=0:=hg0.base.trans hb
 have i2:s0.prot=[]:=hg0.prot.trans hp
 clear hs0
 refine Ret.loop (b_3 e41_8 w41_8 p.structs.length
  (I:=fun i f st'=>f 11= .int .i64 (i:Nat)∧DeclsV s0 st' (f 3) ((p.structs.take i).map Decl.ofS))
  (Q:=fun e f st'=>e= .exit 0∧DeclsV s0 st' (f 3) (p.structs.map Decl.ofS)) ?_ ?_ ?_) ?_
 ·refine⟨by simp,[],?_⟩
  simp only[g_9,v_2,List.take_zero,List.map_nil]
  exact⟨I_7,(fun r hr=>by cases hr),Grows.refl _,rfl,(fun i k d hk=>by simp at hk),by simp,(fun k hk=>by simp at hk)⟩
 ·rintro i f st1 hi hk ⟨h11,al,hD⟩
  have hx:p.structs[i]? =some p.structs[i]:=List.getElem?_eq_getElem hi
  have htk:=List.take_succ_eq_append_getElem hi
  have ha:=add1 (i:=i) (by omega)
  have j1:st1.base=0:=hD.grows.base.trans i1
  have j2:st1.prot=[]:=hD.grows.prot.trans i2
  have g9:f 9=v1:=by simp[hk]
  obtain⟨a,hia,hla⟩:=h1.get i (p.structs[i].v) (by rw[List.getElem?_map,hx];rfl)
  have hla:=hla st1 (fun j hj=>by rw[hD.grows.get j (Nat.lt_of_lt_of_le hj hg0.len),hg0.get j hj])
  have g10:f 10= .int .i64 (p.structs.length:Nat):=by simp[hk]
  clear hk
  rw[htk,List.map_append,List.map_singleton]
  generalize p.structs[i]=x at *
  obtain⟨v,hv⟩:∃v,f 3=v:=⟨_,rfl⟩
  rw[hv]at hD
  obtain⟨v3,st3,ap3,D3⟩:=hD.snoc (d:= .ofS x) (cs:=x.ks) j1 j2 (by rw[hD.len];simp;omega)
  have hD3:DeclsV s0 st3 v3 ((p.structs.take i).map Decl.ofS ++[.ofS x]):=⟨_,D3⟩
  simp only[Struct.ks,Decl.cs,Decl.ofS]at ap3
  clear D3 hD htk
  generalize(p.structs.take i).map Decl.ofS ++[Decl.ofS x]=ds at *
  simp only[Struct.v]at hla
  simp[-List.getD_eq_getElem?_getD, -getElem?_pos,g9,g10,h11,hv,hia,hla,hi,ha,j1,j2,ap3,hD3,Struct.v]
  repeat' (first|refine a_0 ?_ ?_|refine Out.branch ?_ ?_|refine Ret.branch ?_ ?_)<;>(intro hb;(try(simp only[NB]at hb));simp[-List.getD_eq_getElem?_getD, -getElem?_pos,g9,g10,h11,hv,hia,hla,hi,ha,j1,j2,ap3,hD3,Struct.v,hb])
  all_goals try refine Out.one ?_
  all_goals try refine Ret.one ?_
  all_goals try(simp[-List.getD_eq_getElem?_getD,g9,g10,h11,hv,hia,hla,hi,ha,j1,j2,ap3,hD3,Struct.v, *];done)
  all_goals try simp[-List.getD_eq_getElem?_getD,g9,g10,h11,hv,hia,hla,hi,ha,j1,j2,ap3,hD3,Struct.v]
  all_goals try(intros;omega)
 ·rintro f st1 hk ⟨h11,hD⟩
  have g10:f 10= .int .i64 (p.structs.length:Nat):=by simp[hk]
  clear hk
  rw[List.take_length]at hD
  simp[-List.getD_eq_getElem?_getD, -getElem?_pos,g10,h11,hD]
  repeat' (first|refine a_0 ?_ ?_|refine Out.branch ?_ ?_|refine Ret.branch ?_ ?_)<;>(intro hb;(try(simp only[NB]at hb));simp[-List.getD_eq_getElem?_getD, -getElem?_pos,g10,h11,hD,hb])
  all_goals try refine Out.one ?_
  all_goals try refine Ret.one ?_
  all_goals try(simp[-List.getD_eq_getElem?_getD,g10,h11,hD, *];done)
  all_goals try simp[-List.getD_eq_getElem?_getD,g10,h11,hD]
  all_goals try(intros;omega)
 ·rintro e f st1 ⟨⟨rfl,al,hD⟩,hk⟩
  have i3:st1.base=0:=hD.grows.base.trans i1
  have i4:st1.prot=[]:=hD.grows.prot.trans i2
  have j4:=hD.grows.at_ hbx
  obtain⟨v,hv⟩:∃v,f 3=v:=⟨_,rfl⟩
  rw[hv]at hD
  have hD0:DeclsV s0 st1 v (p.structs.map Decl.ofS ++(p.enums.take 0).map Decl.ofE):=⟨al,by simpa using hD⟩
  clear hD
  have g1:f 1= .ptr st.store.length 0:=by simp[hk]
  clear hk
  simp[-List.getD_eq_getElem?_getD, -getElem?_pos,g1,hv,j4,len2]
  refine Ret.loop (b_3 e41_25 w41_25 p.enums.length
   (I:=fun i f st'=>f 32= .int .i64 (i:Nat)∧DeclsV s0 st' (f 3) (p.structs.map Decl.ofS ++(p.enums.take i).map Decl.ofE))
   (Q:=fun e f st'=>e= .exit 2∧DeclsV s0 st' (f 3) (declsOf p)) ?_ ?_ ?_) ?_
  ·refine⟨by simp,?_⟩
   simp[hv]
   simpa using hD0
  ·rintro i f st1 hi hk ⟨h11,al,hD⟩
   have hx:p.enums[i]? =some p.enums[i]:=List.getElem?_eq_getElem hi
   have htk:=List.take_succ_eq_append_getElem hi
   have ha:=add1 (i:=i) (by omega)
   have j1:st1.base=0:=hD.grows.base.trans i1
   have j2:st1.prot=[]:=hD.grows.prot.trans i2
   have g9:f 30=v2:=by simp[hk]
   obtain⟨a,hia,hla⟩:=h2.get i (p.enums[i].v) (by rw[List.getElem?_map,hx];rfl)
   have hla:=hla st1 (fun j hj=>by rw[hD.grows.get j (Nat.lt_of_lt_of_le hj hg0.len),hg0.get j hj])
   have g10:f 31= .int .i64 (p.enums.length:Nat):=by simp[hk]
   clear hk
   rw[htk,List.map_append,List.map_singleton,←List.append_assoc]
   generalize p.enums[i]=x at *
   obtain⟨v,hv⟩:∃v,f 3=v:=⟨_,rfl⟩
   rw[hv]at hD
   obtain⟨v3,st3,ap3,D3⟩:=hD.snoc (d:= .ofE x) (cs:=x.ks) j1 j2 (by rw[hD.len];simp;omega)
   have hD3:DeclsV s0 st3 v3 (p.structs.map Decl.ofS ++(p.enums.take i).map Decl.ofE ++[.ofE x]):=⟨_,D3⟩
   simp only[Enum.ks,Decl.cs,Decl.ofE]at ap3
   clear D3 hD htk
   generalize p.structs.map Decl.ofS ++(p.enums.take i).map Decl.ofE ++[Decl.ofE x]=ds at *
   simp only[Enum.v]at hla
   simp[-List.getD_eq_getElem?_getD, -getElem?_pos,g9,g10,h11,hv,hia,hla,hi,ha,j1,j2,ap3,hD3,Enum.v]
   repeat' (first|refine a_0 ?_ ?_|refine Out.branch ?_ ?_|refine Ret.branch ?_ ?_)<;>(intro hb;(try(simp only[NB]at hb));simp[-List.getD_eq_getElem?_getD, -getElem?_pos,g9,g10,h11,hv,hia,hla,hi,ha,j1,j2,ap3,hD3,Enum.v,hb])
   all_goals try refine Out.one ?_
   all_goals try refine Ret.one ?_
   all_goals try(simp[-List.getD_eq_getElem?_getD,g9,g10,h11,hv,hia,hla,hi,ha,j1,j2,ap3,hD3,Enum.v, *];done)
   all_goals try simp[-List.getD_eq_getElem?_getD,g9,g10,h11,hv,hia,hla,hi,ha,j1,j2,ap3,hD3,Enum.v]
   all_goals try(intros;omega)
  ·rintro f st1 hk ⟨h11,hD⟩
   have g10:f 31= .int .i64 (p.enums.length:Nat):=by simp[hk]
   clear hk
   rw[List.take_length]at hD
   unfold declsOf
   simp[-List.getD_eq_getElem?_getD, -getElem?_pos,g10,h11,hD]
   repeat' (first|refine a_0 ?_ ?_|refine Out.branch ?_ ?_|refine Ret.branch ?_ ?_)<;>(intro hb;(try(simp only[NB]at hb));simp[-List.getD_eq_getElem?_getD, -getElem?_pos,g10,h11,hD,hb])
   all_goals try refine Out.one ?_
   all_goals try refine Ret.one ?_
   all_goals try(simp[-List.getD_eq_getElem?_getD,g10,h11,hD, *];done)
   all_goals try simp[-List.getD_eq_getElem?_getD,g10,h11,hD]
   all_goals try(intros;omega)
  ·rintro e f st1 ⟨⟨rfl,al,hD⟩,hk⟩
   have hD2:DeclsV st st1 (f 3) (declsOf p):=⟨al,hD.weak hg0⟩
   simp[-List.getD_eq_getElem?_getD, -getElem?_pos,hD2]
   repeat' (first|refine a_0 ?_ ?_|refine Out.branch ?_ ?_|refine Ret.branch ?_ ?_)<;>(intro hb;(try(simp only[NB]at hb));simp[-List.getD_eq_getElem?_getD, -getElem?_pos,hD2,hb])
   all_goals try refine Out.one ?_
   all_goals try refine Ret.one ?_
   all_goals try(simp[-List.getD_eq_getElem?_getD,hD2, *];done)
   all_goals try simp[-List.getD_eq_getElem?_getD,hD2]
   all_goals try(intros;omega)
theorem bm_3(p:Prog)(v1 v2 v3:V)(h:p.size≤1048576)(st:St)(hb:st.base=0)(hp:st.prot=[])(h1:IxV 22 5 st v1 (p.structs.map Struct.v))(h2:IxV 23 3 st v2 (p.enums.map Enum.v))(h3:v3.cells=[v3]∧v3.oneCell=true)(hRt:∀s,Grows st s→(run tb).call 40 [.agg [v1,v2,v3]] s=some (.bool (right p),s))(hCl:∀s,Grows st s→(run tb).call 42 [.agg [v1,v2,v3]] s=some (p.nrm.v,s)):Ret (NewOut p st) ((run tb).call 11 [.agg [v1,v2,v3]] st):=by
 have c1:=h1.cells
 have c2:=h2.cells
 have o1:=h1.one
 have o2:=h2.one
 have hh3:=h3
 obtain⟨c3,o3⟩:=h3
 have hR:=hRt (newBox st [v1,v2,v3]) (p_1 (Grows.refl st) _)
 cases hr:right p with
 |false=>
  rw[hr]at hR
  have hd:dgAll p=[⟨0,2⟩]:=by unfold dgAll;rw[if_pos hr]
  have hg:=p_1 (Grows.refl st) [v1,v2,v3]
  rw[run11 (by simp)]
  simp[-List.getD_eq_getElem?_getD, -getElem?_pos,hR,c1,c2,c3,o1,o2,o3]
  refine Ret.one ⟨hg, .inr ⟨by rw[hd];simp,_,rfl, .inr ⟨_,_,by rw[hd];rfl⟩⟩⟩
 |true=>
  rw[hr]at hR
  obtain⟨s0,hs0⟩:∃s0,s0=newBox st [v1,v2,v3]:=⟨_,rfl⟩
  have hg0:Grows st s0:=by rw[hs0];exact p_1 (Grows.refl st) _
  have hbx:s0.store[st.store.length]? =some (.box [v1,v2,v3]):=by rw[hs0];exact b_4
  have b0:s0.base=0:=hg0.base.trans hb
  have p0:s0.prot=[]:=hg0.prot.trans hp
  obtain⟨lv,s1,hdc,al,hD⟩:=aW_7 p v1 v2 v3 h s0 b0 p0 (h1.grow hg0) (h2.grow hg0) hh3
  have hC:=hCl s1 (hg0.trans hD.grows)
  rw[←hs0]at hR
  have hbx1:=hD.grows.at_ hbx
  have b1:s1.base=0:=hD.grows.base.trans b0
  have p1:s1.prot=[]:=hD.grows.prot.trans p0
  have hlv:lv.cells=[lv]∧lv.oneCell=true:=by
   rcases hD.acc with⟨nl,rfl, -⟩|⟨q, -,rfl, -⟩<;>exact⟨rfl,rfl⟩
  have hbk:=aa_ lv hlv.1 hlv.2
  unfold Prog.nrm Prog.v at hC
  simp only[List.map_map]at hC
  obtain⟨ls,hls⟩:∃ls,ls=[V.list false none (p.structs.map (Struct.v∘Struct.nrm)),V.list false none (p.enums.map (Enum.v∘Enum.nrm)),V.list false none (p.funcs.map (Fun.v∘Fun.nrm)),V.map s1.store.length]:=⟨_,rfl⟩
  have g3:∀a b c:O,(s1.store ++[a,b,c])[s1.store.length+2]? =some c:=fun a b c=>by
   rw[List.getElem?_append_right (by omega)]
   have:s1.store.length+2-s1.store.length=2:=by omega
   rw[this];rfl
  obtain⟨s2,hs2⟩:∃s2,s2=newBox (newBox (newBox (addO s1 (.map [])) ls) [.ptr (s1.store.length+1) 0]) [lv]:=⟨_,rfl⟩
  have hset:∀zs cs:List V,setO (newBox (newBox (addO s1 (.map [])) ls) zs) (s1.store.length+2) (.box cs)=newBox (newBox (addO s1 (.map [])) ls) cs:=fun zs cs=>by
   have:s1.store.length+2=(newBox (addO s1 (.map [])) ls).store.length:=by simp[newBox,addO]
   rw[this];exact g_0
  rw[hls]at hset hs2
  rw[run11 (by simp)]
  simp[-List.getD_eq_getElem?_getD, -getElem?_pos,c1,c2,c3,o1,o2,o3,hR,hs0.symm,hbx,hdc,hbx1,hC,hbk,b1,p1,g3,hset,hs2.symm]
  have hst2:s2.store=s1.store ++[.map [], .box [V.list false none (p.structs.map (Struct.v∘Struct.nrm)),V.list false none (p.enums.map (Enum.v∘Enum.nrm)),V.list false none (p.funcs.map (Fun.v∘Fun.nrm)),V.map s1.store.length], .box [.ptr (s1.store.length+1) 0], .box [lv]]:=by rw[hs2];simp[newBox,addO]
  have b2:s2.base=0:=by rw[hs2];exact b1
  have p2:s2.prot=[]:=by rw[hs2];exact p1
  have hl2:s2.store.length=s1.store.length+4:=by rw[hst2];simp
  have k0:s2.store[s1.store.length]? =some (ptrs []):=by rw[hst2];exact M_4 _ 0
  have k1:=M_4 (l:=s1.store) [O.map [], .box [V.list false none (p.structs.map (Struct.v∘Struct.nrm)),V.list false none (p.enums.map (Enum.v∘Enum.nrm)),V.list false none (p.funcs.map (Fun.v∘Fun.nrm)),V.map s1.store.length], .box [.ptr (s1.store.length+1) 0], .box [lv]] 1
  have k2:=M_4 (l:=s1.store) [O.map [], .box [V.list false none (p.structs.map (Struct.v∘Struct.nrm)),V.list false none (p.enums.map (Enum.v∘Enum.nrm)),V.list false none (p.funcs.map (Fun.v∘Fun.nrm)),V.map s1.store.length], .box [.ptr (s1.store.length+1) 0], .box [lv]] 2
  have k3:=M_4 (l:=s1.store) [O.map [], .box [V.list false none (p.structs.map (Struct.v∘Struct.nrm)),V.list false none (p.enums.map (Enum.v∘Enum.nrm)),V.list false none (p.funcs.map (Fun.v∘Fun.nrm)),V.map s1.store.length], .box [.ptr (s1.store.length+1) 0], .box [lv]] 3
  rw[←hst2]at k1 k2 k3
  simp only[List.getElem?_cons_succ,List.getElem?_cons_zero]at k1 k2 k3
  have h12:∀(i:Nat) (o:O),s1.store[i]? =some o→s2.store[i]? =some o:=fun i o hi=>by rw[hst2];exact a_3 hi
  have hA2:AccT 1 s2 lv (al.map fun k=> .ptr k 0):=by
   rcases hD.acc with h|⟨q,a1,a2,a3⟩
   ·exact .inl h
   ·exact .inr ⟨q,a1,a2,h12 q _ a3⟩
  have hall:(declsOf p).length≤64:=by
   unfold right few at hr
   simp only[Bool.and_eq_true,Bool.not_eq_true',decide_eq_false_iff_not]at hr
   obtain⟨⟨⟨c1,c2⟩,c3⟩, -⟩:=hr
   unfold declsOf
   rw[List.length_append,List.length_map,List.length_map];omega
  have hal:=hD.len
  clear hs2 hset g3
  refine aA_7 (aP_3 _ s2 (s1.store.length+3) (s1.store.length+1) s1.store.length (s1.store.length+2) _ _ _ lv al (declsOf p) b2 p2 (by simp) k2 k1 k0 k3 hA2 hal (fun i k d hx hd=>h12 _ _ (hD.at_ i k d hx hd)) (by omega)) ?_
  intro s3 hF
  have b3:s3.base=0:=hF.base.trans b2
  have p3:s3.prot=[]:=hF.prot.trans p2
  have h23:∀(i:Nat) (o:O),s2.store[i]? =some o→i≠s1.store.length→s3.store[i]? =some o:=fun i o hi hne=>by rw[hF.get i (List.getElem?_eq_some_iff.1 hi).1 hne];exact hi
  have h13:∀(i:Nat) (o:O),s1.store[i]? =some o→s3.store[i]? =some o:=fun i o hi=>h23 i o (h12 i o hi) (by have:=(List.getElem?_eq_some_iff.1 hi).1;omega)
  have hA3:AccT 1 s3 lv (al.map fun k=> .ptr k 0):=by
   rcases hD.acc with h|⟨q,a1,a2,a3⟩
   ·exact .inl h
   ·exact .inr ⟨q,a1,a2,h13 q _ a3⟩
  have hat3:∀(i k:Nat) (d:Decl),al[i]? =some k→(declsOf p)[i]? =some d→s3.store[k]? =some (.box d.cs):=fun i k d hx hd=>h13 _ _ (hD.at_ i k d hx hd)
  have q1:=h23 _ _ k1 (by omega)
  have q2:=h23 _ _ k2 (by omega)
  have hm3:=hF.map
  obtain⟨dv,s3',hnm,rfl,b,nl,rfl,hb0⟩:=ax_5 p (fillD (declsOf p) al) (aj_9 p hal) s3 p3 (s1.store.length+1) s1.store.length _ _ _ q1 hm3 lv al (declsOf p) hA3 hal hat3 (fun d hd=>H_7 h hd) hall
  have hdef:=hF.defs
  have hgr:∀i,i<st.store.length→s3'.store[i]? =st.store[i]? :=fun i hi=>by
   have:=hg0.len
   have:=hD.grows.len
   rw[hF.get i (by omega) (by omega),hst2,List.getElem?_append_left (by omega),hD.grows.get i (by omega),hg0.get i hi]
  have hlen3:st.store.length≤s3'.store.length:=by have:=hg0.len;have:=hD.grows.len;have:=hF.len;omega
  have hset2:∀(x:St) (c:List V),x.store[s2.store.length]? =some .defs→∀(i:Nat) (o:O),x.store[i]? =some o→o≠ .defs→(setO x s2.store.length .dead).store[i]? =some o:=fun x c hx i o hi ho=>by
   show(x.store.set _ _)[i]? =_
   rw[List.getElem?_set_ne (by intro e;subst e;rw[hx]at hi;cases hi;exact ho rfl)];exact hi
  by_cases hd1:dg1 p (declsOf p)=[]
  ·have hfine:=aq_5 h hr hd1
   rw[hd1]at hnm hb0
   simp only[List.map_nil]at hnm hb0
   have:=hb0 trivial
   subst this
   have hl79:=fun st'=>bp_9 (st':=st') hA3.acc
   have hMS0:MDone p (s1.store.length+1) s1.store.length (fillD (declsOf p) al) s3' []:=⟨_,aL_0 hal hD.nodup hat3 b3 p3 ⟨_,_,_,q1⟩ hm3,fun n k hn=>by cases hn⟩
   simp[-List.getD_eq_getElem?_getD, -getElem?_pos,q2,hnm,b3,p3,hl79]
   refine Ret.loop (aN_0 p hfine (s1.store.length+1) s1.store.length (s1.store.length+2) (fillD (declsOf p) al) s3' _ _ lv al hal rfl hMS0 hA3 hat3 q2 (by omega) (by simp) (by simp) (by simp) (by simp) nl (by simp)) ?_
   rintro e f s5 ⟨⟨rfl,A5,⟨Dc,hM5,hDn⟩,hK5,hr5⟩,hk⟩
   have g5:f 5= .ptr (s1.store.length+2) 0:=by simp[hk]
   clear hk
   have hnD:∀i,(i<s0.store.length∨s1.store.length≤i)→∀n,getM (fillD (declsOf p) al) n≠some i:=fun i hi n hn=>by
    obtain⟨j,d,a1,a2, -⟩:=L_8 hn
    have:=hD.lt i (List.mem_of_getElem? a2)
    omega
   have r2:=hK5.get _ _ q2 (hnD _ (by omega))
   have r1:=hK5.get _ _ q1 (hnD _ (by omega))
   have hdef5:=hK5.get _ _ hdef (hnD _ (by omega))
   have b5:=hM5.base
   have p5:=hM5.prot
   have hgr5:Grows st s5:=⟨b5.trans hb.symm,p5.trans hp.symm,by have:=hK5.len;omega,fun i hi=>by
    have h1:st.store[i]? =some st.store[i]:=List.getElem?_eq_getElem hi
    rw[h1]
    exact hK5.get _ _ (by rw[hgr i hi];exact h1) (hnD _ (by have:=hg0.len;omega))⟩
   have hgrF:Grows st (setO s5 s2.store.length .dead):=hgr5.set (by have:=hg0.len;have:=hD.grows.len;omega) .dead
   have hl30:=fun st'=>bw_9 (st':=st') A5
   have hdAll:dgAll p=dg2 p (declsOf p):=by unfold dgAll;rw[if_neg (by rw[hr];decide),if_pos hd1]
   obtain⟨w,hw⟩:∃w,f 8=w:=⟨_,rfl⟩
   rw[hw]at A5 hl30
   by_cases hd2:dg2 p (declsOf p)=[]
   ·rw[hd2]at hl30
    have hsm:∀n k,getM (fillD (declsOf p) al) n=some k→sz p n≤32∧(Dc k).slots=(sz p n:Nat)∧(Dc k).drops=need p n:=fun n k hn=>by
     obtain⟨i,d,a1,a2,a3, -⟩:=L_8 hn
     have hm:=List.mem_of_getElem? a1
     have h1:=List.flatMap_eq_nil_iff.1 hd2 d hm
     have h2:sz p n≤32:=by
      unfold G_4 at h1
      split at h1
      ·cases h1
      ·rename_i h3;rw[←a3];omega
     exact⟨h2,hDn n k (List.mem_map.2 ⟨d,hm,a3⟩) hn h2⟩
    have hfin:NewOut p st (.tup [.ptr (s1.store.length+1) 0, .list true (some true) []]) (setO s5 s2.store.length .dead):=by
     refine⟨hgrF, .inl ⟨by rw[hdAll,hd2],hfine,_,_,_,Dc,rfl,⟨hM5.to2 b5 p5 fun i o hi ho=>hset2 s5 [] hdef5 i o hi (by rcases ho with⟨_,rfl⟩|⟨_,rfl⟩<;>simp),hsm,?_⟩⟩⟩
     rw[List.map_map,List.map_map,List.map_map]
     exact hset2 s5 [] hdef5 _ _ r1 (by simp)
    simp only[List.map_nil,List.length_nil]at hl30
    have hE:setO s5 s2.store.length .dead={store:=s5.store.set s2.store.length O.dead,base:=0,prot:=[]}:=by simp[setO,b5,p5]
    rw[hE]at hfin
    simp[-List.getD_eq_getElem?_getD, -getElem?_pos,g5,hw,hl30,r2,hdef5,b5,p5]
    exact Ret.one hfin
   ·have hfin:NewOut p st (.tup [.nilp,w]) (setO s5 s2.store.length .dead):=by
     refine⟨hgrF, .inr ⟨by rw[hdAll];exact hd2,w,rfl, .inl ?_⟩⟩
     rw[hdAll]
     rcases A5 with h|⟨q,a1,a2,a3⟩
     ·exact .inl h
     ·exact .inr ⟨q,a1,a2,hset2 s5 [] hdef5 _ _ a3 (by simp)⟩
    have hpos:0<((dg2 p (declsOf p)).map Dg.v).length:=by
     rw[List.length_map]
     have:(dg2 p (declsOf p)).length≠0:=fun e=>hd2 (List.length_eq_zero_iff.1 e)
     omega
    have hpos':((dg2 p (declsOf p)).map Dg.v).length≠0:=by omega
    rw[List.length_map]at hpos hpos'
    simp only[List.length_map]at hl30
    generalize(dg2 p (declsOf p)).length=N at *
    have hE:setO s5 s2.store.length .dead={store:=s5.store.set s2.store.length O.dead,base:=0,prot:=[]}:=by simp[setO,b5,p5]
    rw[hE]at hfin
    simp[-List.getD_eq_getElem?_getD, -getElem?_pos,g5,hw,hl30,r2,hdef5,b5,p5,hpos]
    exact Ret.one hfin
  ·have hdAll:dgAll p=dg1 p (declsOf p):=by unfold dgAll;rw[if_neg (by rw[hr];decide),if_neg hd1]
   have hgrF:Grows st (setO s3' s2.store.length .dead):=by
    have hg3:Grows st s3':=⟨b3.trans hb.symm,p3.trans hp.symm,hlen3,hgr⟩
    exact hg3.set (by have:=hg0.len;have:=hD.grows.len;omega) .dead
   have hfin:NewOut p st (.tup [.nilp, .list b nl ((dg1 p (declsOf p)).map Dg.v)]) (setO s3' s2.store.length .dead):=
    ⟨hgrF, .inr ⟨by rw[hdAll];exact hd1,_,rfl, .inr ⟨b,nl,by rw[hdAll]⟩⟩⟩
   have hpos:(dg1 p (declsOf p)).length≠0:=fun e=>hd1 (List.length_eq_zero_iff.1 e)
   have hpos2:0<(dg1 p (declsOf p)).length:=by omega
   have hne0:(((dg1 p (declsOf p)).length:Int)==0)=false:=by simp;exact hd1
   have hE:setO s3' s2.store.length .dead={store:=s3'.store.set s2.store.length O.dead,base:=0,prot:=[]}:=by simp[setO,b3,p3]
   rw[hE]at hfin
   simp[-List.getD_eq_getElem?_getD, -getElem?_pos,q2,hnm,b3,p3,hne0,hpos2,hdef]
   exact Ret.one hfin
end Go.Proofs.YtghhphdkojjalaaGreatDoor
namespace Go.Proofs.YtghhphdkojjalaaGreatDoor
open Go.Abs
set_option maxRecDepth 100000
theorem bh_9(p:Prog):revP (revP p)=cutP p:=by unfold revP cutP;simp
theorem at_7{α:Type}(f:α→Str)(t:Str):∀l:List α,(l.map f).Nodup→(l.reverse.find? fun x=>f x==t)=l.find? fun x=>f x==t
 |[],_=>rfl
 |x::l,h=>by
  rw[List.map_cons,List.nodup_cons]at h
  rw[List.reverse_cons,List.find?_append,at_7 f t l h.2,List.find?_cons,List.find?_cons]
  cases hx:f x==t with
  |false=>cases l.find? (fun x=>f x==t)<;>rfl
  |true=>
   have:l.find? (fun x=>f x==t)=none:=by
    rw[List.find?_eq_none]
    intro y hy hc
    refine h.1 ?_
    rw[eq_of_beq hx,←eq_of_beq hc]
    exact List.mem_map.2 ⟨y,hy,rfl⟩
   rw[this];rfl
structure Agree(p q:Prog):Prop where
 st:∀t,p.st t=q.st t
 en:∀t,p.en t=q.en t
theorem Agree.known{p q:Prog}(h:Agree p q):known p=known q:=by
 funext t;unfold Go.Proofs.YtghhphdkojjalaaGreatDoor.known;rw[h.st,h.en]
theorem Agree.parts{p q:Prog}(h:Agree p q)(n:Str):parts p n=parts q n:=by
 unfold Go.Proofs.YtghhphdkojjalaaGreatDoor.parts;rw[h.st,h.en]
theorem Agree.S{p q:Prog}(h:Agree p q):S p=S q:=by
 funext j
 induction j with
 |zero=>rfl
 |succ j ih=>
  funext n
  show nextS p (Go.Proofs.YtghhphdkojjalaaGreatDoor.S p j) n=nextS q (Go.Proofs.YtghhphdkojjalaaGreatDoor.S q j) n
  unfold nextS
  rw[ih,h.st,h.parts]
theorem Agree.sz{p q:Prog}(h:Agree p q):sz p=sz q:=by
 funext n
 unfold Go.Proofs.YtghhphdkojjalaaGreatDoor.sz
 rw[h.S]
theorem Agree.symm{p q:Prog}(h:Agree p q):Agree q p:=⟨fun t=>(h.st t).symm,fun t=>(h.en t).symm⟩
theorem Agree.needOf{p q:Prog}(h:Agree p q){t:Str}(hn:Need p t):Need q t:=by
 induction hn with
 |hook h1 h2=>rw[h.st]at h1;exact .hook h1 h2
 |box h1 h2=>rw[h.known]at h2;exact .box h1 h2
 |part h1 h2 _ ih=>rw[h.parts]at h2;exact .part h1 h2 ih
theorem Agree.need{p q:Prog}(h:Agree p q)(t:Str):need p t=need q t:=by
 unfold Go.Proofs.YtghhphdkojjalaaGreatDoor.need
 rw[decide_eq_decide]
 exact⟨h.needOf,h.symm.needOf⟩
theorem Agree.slots{p q:Prog}(h:Agree p q)(t:Str):slotsD p t=slotsD q t:=by
 unfold slotsD;rw[h.known,h.sz]
theorem Agree.drops{p q:Prog}(h:Agree p q)(t:Str):dropsF p t=dropsF q t:=by
 unfold dropsF;rw[h.known,h.need]
theorem Agree.copied{p q:Prog}(h:Agree p q)(t:Str):copied p t=copied q t:=by
 unfold Go.Proofs.YtghhphdkojjalaaGreatDoor.copied;rw[h.known]
structure Good(p:Prog):Prop where
 right:right p=true
 names:((declsOf p).map Decl.name).Nodup
 vars:∀d∈declsOf p,dgVars p d.parts d.at_=[]
 size:∀d∈declsOf p,sz p d.name≤32
theorem au_5{p:Prog}(hz:p.size≤1048576)(h:dgAll p=[]):Good p:=by
 unfold dgAll at h
 cases hr:right p with
 |false=>rw[if_pos hr]at h;cases h
 |true=>
  rw[if_neg (by rw[hr];decide)]at h
  by_cases h1:dg1 p (declsOf p)=[]
  ·rw[if_pos h1]at h
   refine⟨hr,(aq_5 hz hr h1).names,fun d hd=> ?_,fun d hd=> ?_⟩
   ·obtain⟨i,hi⟩:=List.mem_iff_getElem?.1 hd
    have hm:(d,i)∈(declsOf p).zipIdx:=by
     rw[List.mem_iff_getElem?];exact⟨i,by simp[hi]⟩
    have h2:=List.flatMap_eq_nil_iff.1 h1 _ hm
    unfold H_8 at h2
    exact(List.append_eq_nil_iff.1 h2).2
   ·have h2:=List.flatMap_eq_nil_iff.1 h d hd
    unfold G_4 at h2
    split at h2
    ·cases h2
    ·omega
  ·rw[if_neg h1]at h;exact absurd h h1
theorem bi_4{l:List Str}(h:l.Nodup){i:Nat}{x:Str}(hx:l[i]? =some x):(l.take i).contains x=false:=by
 rw[Bool.eq_false_iff]
 intro hc
 rw[List.contains_iff_mem]at hc
 obtain⟨j,hj⟩:=List.mem_iff_getElem?.1 hc
 have hlt:j<i:=by
  have:=(List.getElem?_eq_some_iff.1 hj).1
  rw[List.length_take]at this;omega
 rw[List.getElem?_take_of_lt hlt]at hj
 obtain⟨a1,a2⟩:=List.getElem?_eq_some_iff.1 hj
 obtain⟨b1,b2⟩:=List.getElem?_eq_some_iff.1 hx
 exact(List.pairwise_iff_getElem.1 h) j i a1 b1 hlt (a2.trans b2.symm)
theorem Good.diags{p:Prog}(h:Good p):dgAll p=[]:=by
 have h1:dg1 p (declsOf p)=[]:=by
  refine List.flatMap_eq_nil_iff.2 ?_
  rintro⟨d,i⟩ hx
  have hi:(declsOf p)[i]? =some d:=by
   have:=List.mem_zipIdx_iff_getElem?.1 hx
   simpa using this
  unfold H_8
  rw[List.append_eq_nil_iff]
  refine⟨?_,h.vars d (List.mem_of_getElem? hi)⟩
  have h2:=ac_7 d.name (declsOf p) i d hi rfl
  rw[List.map_take,bi_4 h.names (by rw[List.getElem?_map,hi];rfl)]at h2
  rw[if_neg]
  intro hc
  have:decide (idxI (fun y:Decl=>y.name==d.name) (declsOf p)<(i:Int))=true:=decide_eq_true hc
  rw[←h2]at this;cases this
 unfold dgAll
 rw[if_neg (by rw[h.right];decide),if_pos h1]
 refine List.flatMap_eq_nil_iff.2 fun d hd=> ?_
 unfold G_4
 rw[if_neg]
 have:=h.size d hd
 omega
theorem aA_(p:Prog):declsOf (revP p)=(p.structs.map Decl.ofS).reverse ++(p.enums.map Decl.ofE).reverse:=by
 unfold declsOf revP;rw[List.map_reverse,List.map_reverse]
theorem ay_9{p:Prog}(h:((declsOf p).map Decl.name).Nodup):Agree (revP p) p:=by
 unfold declsOf at h
 rw[List.map_append,List.map_map,List.map_map,List.nodup_append]at h
 exact⟨fun t=>at_7 Struct.name t p.structs h.1,fun t=>at_7 Enum.name t p.enums h.2.1⟩
theorem ar_3{p:Prog}(hf:p.funcs=[])(h:Good p):Good (revP p):=by
 have ha:=ay_9 h.names
 have hm:∀d,d∈declsOf (revP p)→d∈declsOf p:=fun d hd=>by
  rw[aA_]at hd
  unfold declsOf
  simpa using hd
 refine⟨?_,?_,fun d hd=> ?_,fun d hd=> ?_⟩
 ·have:=h.right
  unfold right few at *
  unfold revP
  rw[hf]at this
  simpa using this
 ·rw[aA_]
  refine(List.Perm.nodup_iff ?_).2 h.names
  refine List.Perm.map _ ?_
  unfold declsOf
  exact List.Perm.append (List.reverse_perm _) (List.reverse_perm _)
 ·have:=h.vars d (hm d hd)
  unfold dgVars dgVar at *
  rw[ha.known];exact this
 ·rw[ha.sz];exact h.size d (hm d hd)
theorem aF_3{p:Prog}(hz:p.size≤1048576)(hz2:(revP p).size≤1048576)(hf:p.funcs=[]):dgAll p=[]↔dgAll (revP p)=[]:=by
 constructor
 ·intro h;exact(ar_3 hf (au_5 hz h)).diags
 ·intro h
  have h2:=(ar_3 rfl (au_5 hz2 h)).diags
  rw[bh_9]at h2
  have h3:Good (cutP p):=bh_9 p▸ar_3 rfl (au_5 hz2 h)
  exact Good.diags ⟨by have:=h3.right;unfold right few cutP at *;rw[hf];exact this,h3.names,h3.vars,fun d hd=>by
   have ha:Agree p (cutP p):=⟨fun _=>rfl,fun _=>rfl⟩
   rw[ha.sz];exact h3.size d hd⟩
theorem al_6{α:Type}(g:α→V){l l':List α}(h:l.Perm l'):V.bulks (l.map g)=V.bulks (l'.map g):=by
 induction h with
 |nil=>rfl
 |cons x _ ih=>simp only[List.map_cons,V.bulks,ih]
 |swap x y l=>simp only[List.map_cons,V.bulks];omega
 |trans _ _ a b=>rw[a,b]
theorem bm_9(p:Prog):(revP p).size≤p.size:=by
 rw[b_6,b_6]
 unfold revP
 rw[al_6 Struct.v (List.reverse_perm p.structs),al_6 Enum.v (List.reverse_perm p.enums)]
 simp only[List.map_nil,V.bulks];omega
theorem bl_8(p:Prog):(cutP p).size≤p.size:=by
 rw[b_6,b_6]
 unfold cutP
 simp only[List.map_nil,V.bulks];omega
end Go.Proofs.YtghhphdkojjalaaGreatDoor
namespace Go.Proofs.YtghhphdkojjalaaGreatDoor
open Go.Abs
set_option maxRecDepth 100000
theorem X_4{α:Type}(f:α→Str):∀l:List α,(l.map f).Nodup→∀x∈l,(l.find? fun y=>f y==f x)=some x
 |[],_,x,hx=>by cases hx
 |y::l,h,x,hx=>by
  rw[List.map_cons,List.nodup_cons]at h
  rw[List.find?_cons]
  rcases List.mem_cons.1 hx with rfl|hx
  ·simp
  ·have hne:(f y==f x)=false:=by
    rw[beq_eq_false_iff_ne]
    intro e
    exact h.1 (by rw[e];exact List.mem_map.2 ⟨x,hx,rfl⟩)
   rw[hne]
   exact X_4 f l h.2 x hx
theorem bp_0{p:Prog}(hf:Fine p){x:Struct}(hx:x∈p.structs):p.st x.name=some x:=by
 have h:=hf.names
 unfold declsOf at h
 rw[List.map_append,List.map_map,List.map_map,List.nodup_append]at h
 exact X_4 Struct.name p.structs h.1 x hx
theorem bp_5{p:Prog}(hf:Fine p){x:Enum}(hx:x∈p.enums):p.en x.name=some x:=by
 have h:=hf.names
 unfold declsOf at h
 rw[List.map_append,List.map_map,List.map_map,List.nodup_append]at h
 exact X_4 Enum.name p.enums h.2.1 x hx
theorem declS{p:Prog}(hf:Fine p){x:Struct}(hx:x∈p.structs):declOf p x.name=some (.ofS x):=by
 rw[v_5,bp_0 hf hx]
theorem declE{p:Prog}(hf:Fine p){x:Enum}(hx:x∈p.enums):declOf p x.name=some (.ofE x):=by
 have h1:=bp_5 hf hx
 rw[v_5,h1]
 cases hs:p.st x.name with
 |none=>rfl
 |some s=>exact(aB_0 hf hs h1).elim
theorem bs_9{α:Type}(q:α→Bool){l:List α}{k:Nat}{x:α}(hk:l[k]? =some x)(hq:q x=true)(hn:¬idxI q l<(k:Int)):idxI q l=k:=by
 obtain⟨h1,h2⟩:=List.getElem?_eq_some_iff.1 hk
 have hany:l.any q=true:=List.any_eq_true.2 ⟨x,List.mem_of_getElem? hk,hq⟩
 have hi:idxI q l=(idx q l:Nat):=by unfold idxI;rw[if_pos hany]
 rw[hi]at hn⊢
 rw[w_ q l k h1 (by omega) (by rw[h2];exact hq)]
theorem bd_0{p:Prog}(hg:Good p){d:Decl}(hd:d∈declsOf p){k:Nat}{v:Var}(hk:d.parts[k]? =some v):idxI (fun y:Var=>y.name==v.name) d.parts=k:=by
 have h:=hg.vars d hd
 have hm:(v,k)∈d.parts.zipIdx:=by
  rw[List.mem_iff_getElem?];exact⟨k,by simp[hk]⟩
 have h2:=List.flatMap_eq_nil_iff.1 h _ hm
 unfold dgVar at h2
 have h3:=(List.append_eq_nil_iff.1 h2).1
 refine bs_9 _ hk (by simp) (fun hc=> ?_)
 rw[if_pos hc]at h3;cases h3
theorem bn_3{p:Prog}(hf:Fine p)(hg:Good p){x:Struct}(hx:x∈p.structs){k:Nat}{v:Var}(hk:x.fields[k]? =some v):fieldD p x.name v.name= .tup [.str v.type, .int .i64 ((sumD p (x.fields.take k):Nat):Int), .bool true]:=by
 have hi:idxI (fun y:Var=>y.name==v.name) x.fields=k:=bd_0 hg (g_2 (declS hf hx)) hk
 unfold fieldD
 rw[bp_0 hf hx]
 simp only
 rw[hi,if_neg (by omega),Int.toNat_natCast,hk]
 rfl
theorem aQ_4{p:Prog}(hf:Fine p)(hg:Good p){x:Enum}(hx:x∈p.enums){k:Nat}{v:Var}(hk:x.variants[k]? =some v):variantD p x.name v.name= .tup [.str v.type, .int .i64 (k:Int), .bool true]:=by
 have hi:idxI (fun y:Var=>y.name==v.name) x.variants=k:=bd_0 hg (g_2 (declE hf hx)) hk
 unfold variantD
 rw[bp_5 hf hx]
 simp only
 rw[hi,if_neg (by omega),Int.toNat_natCast,hk]
 rfl
theorem aV_9(p:Prog):known p []=false:=by
 unfold known baseOf;rw[I_9];rfl
theorem aH_6{p:Prog}(hf:Fine p){d:Decl}(hd:d∈declsOf p){v:Var}(hv:v∈d.parts):slotsD p v.type=sv p v:=by
 unfold sv slotsD
 by_cases h:v.type=[]
 ·rw[if_pos h,h,aV_9];rfl
 ·rw[if_neg h,if_pos (hf.known d hd v hv h)]
theorem am_1{p:Prog}(hf:Fine p){d:Decl}(hd:d∈declsOf p){v:Var}(hv:v∈d.parts):dropsF p v.type=need p v.type:=by
 unfold dropsF
 by_cases h3:kindOf v.type=3
 ·rw[if_pos h3,ar_ hf.right h3]
 ·rw[if_neg h3]
  by_cases h2:kindOf v.type=2
  ·rw[if_pos h2]
   have hne:v.type≠[]:=fun e=>by rw[e,I_9]at h2;cases h2
   rw[hf.known d hd v hv hne];rfl
  ·rw[if_neg h2,Q_9 hf.right h2 h3]
theorem al_5{p:Prog}(hf:Fine p){n:Str}{d:Decl}(hd:declOf p n=some d):dropsF p n=(d.hook||d.parts.any fun v=>dropsF p v.type):=by
 obtain⟨h1,h2⟩:=S_0 hf hd
 have hm:=g_2 hd
 have e1:dropsF p n=need p n:=by unfold dropsF;rw[h2,h1];rfl
 rw[e1,ax_0 hd h2,az_1 hf.right]
 congr 1
 rw[Bool.eq_iff_iff,List.any_eq_true,List.any_eq_true]
 constructor
 ·rintro⟨v,hv,e⟩;exact⟨v,hv,by rw[am_1 hf hm hv];exact e⟩
 ·rintro⟨v,hv,e⟩;exact⟨v,hv,by rw[am_1 hf hm hv]at e;exact e⟩
theorem am_{p:Prog}(hf:Fine p)(hg:Good p){n:Str}{d:Decl}(hd:declOf p n=some d):∃t,t=pt (!d.enum) (d.parts.map fun v=>slotsD p v.type)∧slotsD p n=(if d.enum=true then t+1 else max t 1)∧slotsD p n≤32:=by
 have hm:=g_2 hd
 have hsz:=hg.size d hm
 rw[E_1 hd]at hsz
 refine⟨_,rfl,?_,by rw[T_5 hf hd];exact hsz⟩
 have hmap:(d.parts.map fun v=>slotsD p v.type)=d.parts.map (sv p):=List.map_congr_left fun v hv=>aH_6 hf hm hv
 rw[T_5 hf hd,hmap,aw_ hf.right hm,aG_8]
 rw[aG_8]at hsz
 unfold nextS at hsz⊢
 rw[(w_3 hd).2.1,(w_3 hd).1]at hsz⊢
 unfold comb at hsz⊢
 split at hsz
 ·omega
 ·rename_i hc
  rw[if_neg hc]
  unfold pt
  cases he:d.enum with
  |false=>
   rw[he]at hsz
   simp only[Bool.not_false,if_true,Bool.false_eq_true,if_false]at hsz⊢
   omega
  |true=>
   rw[he]at hsz
   simp only[Bool.not_true,if_true,Bool.false_eq_true,if_false]at hsz⊢
   omega
theorem aa_3{p:Prog}(hf:Fine p)(hg:Good p){x:Struct}(hx:x∈p.structs):slotsD p x.name=max (sumD p x.fields) 1∧sumD p x.fields≤32:=by
 obtain⟨t,h1,h2,h3⟩:=am_ hf hg (declS hf hx)
 have h4:t=sumD p x.fields:=h1
 subst h4
 have h5:slotsD p x.name=max (sumD p x.fields) 1:=h2
 exact⟨h5,by omega⟩
noncomputable def maxD(p:Prog)(l:List Var):Nat:=(l.map fun v=>slotsD p v.type).foldl max 0
theorem bc_8(p:Prog)(l:List Var)(x:Var):maxD p (l ++[x])=max (maxD p l) (slotsD p x.type):=by simp[maxD]
theorem aT_1{p:Prog}(hf:Fine p)(hg:Good p){x:Enum}(hx:x∈p.enums):slotsD p x.name=maxD p x.variants+1:=by
 obtain⟨t,h1,h2, -⟩:=am_ hf hg (declE hf hx)
 have h4:t=maxD p x.variants:=h1
 subst h4
 exact h2
theorem af_6{p:Prog}(hf:Fine p){n:Str}{d:Decl}(hd:declOf p n=some d):copied p n=false:=by
 obtain⟨-,h2⟩:=S_0 hf hd
 unfold copied;rw[h2];simp
theorem aU_3{p:Prog}(hf:Fine p){x:Struct}(hx:x∈p.structs){v:Var}(hv:v∈x.fields):1≤slotsD p v.type:=by
 have hm:=g_2 (declS hf hx)
 have hne:=(M_8 hf.right hm).2.2 rfl v hv
 exact au_7 (hf.known _ hm v hv hne)
theorem aV_{t:Str}(h:isName t=true):plain t=true∧plain (boxS ++t)=true:=by
 have hb:hasPre t boxS=false:=ao_9 (by decide) (an_9 h).1
 refine⟨by rw[I_8 hb,h];simp,?_⟩
 rw[av_9 (as_0 boxS t),ad_9 rfl,x_3 hb,h]
 simp
theorem bl_3{p:Prog}(hf:Fine p){n:Str}{d:Decl}(hd:declOf p n=some d):∃B,withW boxS n=(B,true)∧B.length≤n.length+4∧slotsD p B=1∧dropsF p B=true:=by
 have hn:=(M_8 hf.right (g_2 hd)).1
 rw[E_1 hd]at hn
 obtain⟨h1,h2⟩:=aV_ hn
 obtain⟨hk, -⟩:=S_0 hf hd
 obtain⟨B,ok,e1,e2, -,e3,e4, -⟩:=aP_8 p h1
 have hok:ok=true:=by
  have h0:=P_0 h2
  unfold withW at e1
  rw[if_neg (by rw[h1];simpa using h0)]at e1
  exact(Prod.mk.inj e1).2.symm
 subst hok
 rw[hk]at e3 e4
 exact⟨B,e1,e2,e3,e4⟩
theorem ac_8:kindOf intS=1:=by
 have hp:plain intS=true:=by rw[I_8 (by decide)];rfl
 rw[O_7 hp];rfl
theorem ax_7(p:Prog):known p intS=true:=by
 have e:baseOf intS=(intS,true):=by
  unfold baseOf
  rw[ac_8,G_6 (by rw[I_8 (by decide)];rfl),x_3 (by decide)];rfl
 unfold known
 rw[e];rfl
theorem bc_0(p:Prog):slotsD p intS=1∧dropsF p intS=false∧copied p intS=true:=by
 refine⟨?_,?_,?_⟩
 ·unfold slotsD val;rw[ax_7,ac_8];rfl
 ·unfold dropsF;rw[ac_8];rfl
 ·unfold copied;rw[ax_7,ac_8];rfl
noncomputable def anyD(p:Prog)(b:Bool)(l:List Var):Bool:=b||l.any fun v=>dropsF p v.type
theorem aw_5(p:Prog)(b:Bool)(l:List Var)(x:Var):anyD p b (l ++[x])=(anyD p b l||dropsF p x.type):=by simp[anyD,Bool.or_assoc]
end Go.Proofs.YtghhphdkojjalaaGreatDoor
namespace Go.Proofs.YtghhphdkojjalaaGreatDoor
open Go.Abs
attribute [local simp] K_0 L_0 q_ z_4 l_0 M_1 z_ y_2 t_9 c_7 j_7 m_9 c_ e_9 j_8 c_3 h_4 finish dropMarks resOf
 resList o_3 l_4 i_8 e_6 d_ c_1 n_5 j_ c_0 b_ a_9 c_4 c_2 f_7 f_5 c_6
 c_8 e_5 m_8 L_4 D_1 m_3 B_5 f_ M_0 s_un D_0 s_ c_9 d_2 q_7 r_9 j_6 z_2 r_3 K_5 B_ D_ L_1 l_6
 d_1 b_9 l_7 q_4 g_ i_2 m_0 m_7 m_4 m_6 a_7 d_0 f_6 e_4 e_2 j_5 j_1 i_4 e_1
 t_3 m_1 n_4 n_1 s_6 t_2 u_5 q_5 i_9 s_7 evArgs o_5 k_ l_8 f_3 g_9 v_2 ofValue ofValues isConst C_7 y_8 x_8 x_4
 A_0 z_3 C_0 y_3 z_1 B_0 C_2 z_8 C_6 A_5 A_6 y_ strBin bne C_3 B_3 B_6 convV evConv optArg a_6 argF B_4 s_9 q_8 p_ n_2 x_5
 t_4 p_4 l_2 k_0 i_0 g_1 j_4 g_5 d_8 y_5 u_0 i_5 k_1 okCells L_3 b_4 g_0 d_9 i_3 i_1 f_1
 i_6 j_0 l_ q_9 r_4 m_ t_6 s_5 n_0 t_ t_8 j_2 h_1 e_3 e_0 h_3 splice putElem k_8 i_ l_1 g_6
 t_7 e_8 bdV fill l_9 bsF setAll d_6 f_2 x_1 n_7 e_7 h_6 h_5 f_4 p_2 v_7 t_1 s_1 x_7 r_5 s_0 p_6 j_9
 q_3 x_2 C_4 p_5 g_8 d_7 p_3 v_8 p_0 u_2 h_8 z_5 q_0 n_3 y_4 u_4 u_3 C_5 l_5 r_1 d_4 n_ h_7 B_1
 q_6 C_1 A_8 B_7 g_7 r_7 q_1 y_7 y_6 y_9 x_6 u_1 l_3 u_7 s_4 deep List.getD_cons_zero List.getD_cons_succ List.getElem?_cons_zero
 List.getElem?_cons_succ List.getElem?_nil t_0 s_2 A_9 x_9 y_0 A_2 u_6 q_2 B_9 y_1 r_0 s_8 r_6 t_5 r_2 r_ n_6 m_5 z_7 z_6
 j_3 i_7 s_3 r_8 f_9 f_0 A_ C_8 A_4 C_9 ld26 sr26 al26 F_8 G_ F_9 bd26 ld4 sr4 und4 ld9 und9 ln9 ix9 ld3 sr3 und3 ld22 sr22 T_ ia22 ib22 ln22
 lo22 ap22 bs22 ld37 sr37 al37 I_1 I_2 I_0 I_4 I_3 bd37 ld23 sr23 T_0 ia23 ib23 ln23 lo23 ap23 bs23 ld45 sr45 al45 K_8 K_9 K_3 ld29 sr29 al29 pe29 bv_2 o_9 A_3
 B_8 o_6 o_7 k_7 c_5 k_4 o_2 q5_33 l5_33 q5_48 l5_48 p5_24 p5_39 Y_7 O_4 O_2 X_5 kdOp kdOf isPure readsOf protS ld35 sr35 Q_3 ia35 ln35 sl35 ap35 bs35
 ld49 sr49 al49 M_5 M_6 q6_61 l6_61 q6_117 l6_117 p6_32 p6_51 p6_88 p6_107 D_Rg S5 L5_1 L5_4 L5_7 L5_12 L5_15 L5_19 L5_22 L5_27 L5_34 L5_37 L5_42 L5_49 L5_51 L5_53 L5_56 L5_59 L5_63 S6 L6_1 L6_4
 L6_7 L6_12 L6_15 L6_19 L6_22 L6_25 L6_30 L6_35 L6_42 L6_44 L6_46 L6_49 L6_54 L6_64 L6_67 L6_71 L6_72 L6_73 L6_75 L6_77 L6_80 L6_83 L6_86 L6_91 L6_98 L6_100 L6_102 L6_105 L6_110 L6_120 L6_123 L6_127
 L6_128 L6_129 L6_131 L6_134 L6_137 L6_139
set_option maxRecDepth 100000
set_option linter.unusedSimpArgs false
set_option linter.unusedVariables false
set_option maxHeartbeats 4000000
structure BackAt(args:List V)(st:St)(v1 v2:V)(es1 es2:List V):Prop where
 base:st.base=0
 prot:st.prot=[]
 x0:st.store[0]? =some (.box args)
 x1:st.store[1]? =some (.box [v1,v2, .list true (some true) []])
 a1:AccT 5 st v1 es1
 r1:∀r,refOf v1=some r→2≤r
 a2:AccT 3 st v2 es2
 r2:∀r,refOf v2=some r→2≤r∧refOf v1≠some r
theorem ar_2{w:Nat}{st:St}{v:V}{es:List V}(h:AccT w st v es):v.cells=[v]∧v.oneCell=true:=by
 rcases h with⟨nl,rfl, -⟩|⟨q, -,rfl, -⟩<;>exact⟨rfl,rfl⟩
theorem _root_.Go.Abs.AccT.setO{w:Nat}{st:St}{v:V}{es:List V}(h:AccT w st v es){k:Nat}(hk:∀r,refOf v=some r→r≠k)(o:O):AccT w (Go.Abs.setO st k o) v es:=by
 rcases h with h|⟨r,h1,rfl,h3⟩
 ·exact .inl h
 ·refine .inr ⟨r,h1,rfl,?_⟩
  show(st.store.set k o)[r]? =_
  rw[List.getElem?_set_ne (by have:=hk r rfl;omega)];exact h3
theorem BackAt.push1{args:List V}{st:St}{v1 v2:V}{es1 es2:List V}(h:BackAt args st v1 v2 es1 es2)(x:Struct)(hl:es1.length≤2^22):
  ∃v' st3,appV 5 56 st (spreadB (.list true (some false) [x.v])) v1 (.list true (some false) [x.v])=some (v',st3)∧st3.store[1]? =some (.box [v1,v2, .list true (some true) []])∧st3.base=0∧st3.prot=[]∧v'.cells=[v']∧v'.oneCell=true∧BackAt args (setO st3 1 (.box [v',v2, .list true (some true) []])) v' v2 (es1 ++[x.v]) es2:=by
 obtain⟨v',st3,e,A,R,r',F1,F2⟩:=h.a1.app (bytes:=56) (y:= .list true (some false) [x.v]) (new:=[x.v]) (fun r _=>by simp[St.locked,h.base,h.prot]) rfl (by simp) (by simp[Struct.v,V.cells,V.oneCell]) (by decide) (by decide) (by simp;omega)
 have hx1:st3.store[1]? =some (.box [v1,v2, .list true (some true) []]):=R.get _ _ h.x1 (by intro e;have:=h.r1 1 e;omega)
 have hx0:st3.store[0]? =some (.box args):=R.get _ _ h.x0 (by intro e;have:=h.r1 0 e;omega)
 have hlen:2≤st3.store.length:=by have:=(List.getElem?_eq_some_iff.1 hx1).1;omega
 have hl0:2≤st.store.length:=by have:=(List.getElem?_eq_some_iff.1 h.x1).1;omega
 refine⟨v',st3,e,hx1,R.base.trans h.base,R.prot.trans h.prot,(ar_2 A).1,(ar_2 A).2,R.base.trans h.base,R.prot.trans h.prot,?_,?_,?_,?_,?_,?_⟩
 ·show(st3.store.set 1 _)[0]? =_
  rw[List.getElem?_set_ne (by decide)];exact hx0
 ·show(st3.store.set 1 _)[1]? =_
  rw[List.getElem?_set_self (by omega)]
 ·exact A.setO (fun r hr=>by rw[F1]at hr;cases hr;omega) _
 ·intro r hr;rw[F1]at hr;cases hr;omega
 ·refine(h.a2.rest R ?_).setO (fun r hr=>by have:=(h.r2 r hr).1;omega) _
  cases hr:refOf v2 with
  |none=>exact .inl rfl
  |some r=>exact .inr (h.r2 r hr).2
 ·intro r hr
  refine⟨(h.r2 r hr).1,?_⟩
  rw[F1]
  intro e;cases e
  have:=h.a2.lt hr
  omega
theorem BackAt.push2{args:List V}{st:St}{v1 v2:V}{es1 es2:List V}(h:BackAt args st v1 v2 es1 es2)(x:Enum)(hl:es2.length≤2^22):
  ∃v' st3,appV 3 48 st (spreadB (.list true (some false) [x.v])) v2 (.list true (some false) [x.v])=some (v',st3)∧st3.store[1]? =some (.box [v1,v2, .list true (some true) []])∧st3.base=0∧st3.prot=[]∧v'.cells=[v']∧v'.oneCell=true∧BackAt args (setO st3 1 (.box [v1,v', .list true (some true) []])) v1 v' es1 (es2 ++[x.v]):=by
 obtain⟨v',st3,e,A,R,r',F1,F2⟩:=h.a2.app (bytes:=48) (y:= .list true (some false) [x.v]) (new:=[x.v]) (fun r _=>by simp[St.locked,h.base,h.prot]) rfl (by simp) (by simp[Enum.v,V.cells,V.oneCell]) (by decide) (by decide) (by simp;omega)
 have hx1:st3.store[1]? =some (.box [v1,v2, .list true (some true) []]):=R.get _ _ h.x1 (by intro e;have:=(h.r2 1 e).1;omega)
 have hx0:st3.store[0]? =some (.box args):=R.get _ _ h.x0 (by intro e;have:=(h.r2 0 e).1;omega)
 have hlen:2≤st3.store.length:=by have:=(List.getElem?_eq_some_iff.1 hx1).1;omega
 have hl0:2≤st.store.length:=by have:=(List.getElem?_eq_some_iff.1 h.x1).1;omega
 refine⟨v',st3,e,hx1,R.base.trans h.base,R.prot.trans h.prot,(ar_2 A).1,(ar_2 A).2,R.base.trans h.base,R.prot.trans h.prot,?_,?_,?_,h.r1,?_,?_⟩
 ·show(st3.store.set 1 _)[0]? =_
  rw[List.getElem?_set_ne (by decide)];exact hx0
 ·show(st3.store.set 1 _)[1]? =_
  rw[List.getElem?_set_self (by omega)]
 ·refine(h.a1.rest R ?_).setO (fun r hr=>by have:=h.r1 r hr;omega) _
  cases hr:refOf v1 with
  |none=>exact .inl rfl
  |some r=>exact .inr (fun e=>(h.r2 r e).2 hr)
 ·exact A.setO (fun r hr=>by rw[F1]at hr;cases hr;omega) _
 ·intro r hr;rw[F1]at hr;cases hr
  refine⟨by omega,fun e=> ?_⟩
  have:=h.a1.lt e
  omega
def rts(p:Prog)(i:Nat):List V:=(p.structs.reverse.take i).map Struct.v
def rte(p:Prog)(i:Nat):List V:=(p.enums.reverse.take i).map Enum.v
theorem bm_2{p:Prog}{i:Nat}(h:i<p.structs.length):∃x,p.structs[p.structs.length-1-i]? =some x∧rts p (i+1)=rts p i ++[x.v]:=by
 refine⟨p.structs[p.structs.length-1-i]'(by omega),List.getElem?_eq_getElem (by omega),?_⟩
 unfold rts
 rw[List.take_succ_eq_append_getElem (by simpa using h),List.getElem_reverse,List.map_append];rfl
theorem bl_2{p:Prog}{i:Nat}(h:i<p.enums.length):∃x,p.enums[p.enums.length-1-i]? =some x∧rte p (i+1)=rte p i ++[x.v]:=by
 refine⟨p.enums[p.enums.length-1-i]'(by omega),List.getElem?_eq_getElem (by omega),?_⟩
 unfold rte
 rw[List.take_succ_eq_append_getElem (by simpa using h),List.getElem_reverse,List.map_append];rfl
theorem br_7{p:Prog}{i:Nat}(h:i≤p.structs.length):(rts p i).length=i:=by unfold rts;simp;omega
theorem bq_2{p:Prog}{i:Nat}(h:i≤p.enums.length):(rte p i).length=i:=by unfold rte;simp;omega
theorem bt_7(p:Prog):rts p p.structs.length=(revP p).structs.map Struct.v:=by
 unfold rts revP;rw[←List.length_reverse,List.take_length]
theorem bq_6(p:Prog):rte p p.enums.length=(revP p).enums.map Enum.v:=by
 unfold rte revP;rw[←List.length_reverse,List.take_length]
theorem bf_(p:Prog)(t:Str)(f1 f2 f3:Bool)(n1 n2 n3:Option Bool)(h:p.size≤1048576)(hw:p.wf)(ht:t.length≤1048576):∃st',(run tb).call 5 [.agg [.list f1 n1 (p.structs.map Struct.v), .list f2 n2 (p.enums.map Enum.v), .list f3 n3 (p.funcs.map Fun.v)], .str t] st0=some (.bool true,st'):=by
 have hz:=h
 rw[b_6]at hz
 have l1:=m_2 p.structs
 have l2:=w_9 p.enums
 have hh:Ret (fun v st'=>v= .bool true) ((run tb).call 5 [.agg [.list f1 n1 (p.structs.map Struct.v), .list f2 n2 (p.enums.map Enum.v), .list f3 n3 (p.funcs.map Fun.v)], .str t] st0):=by
  obtain⟨s0,hs0⟩:∃s0,s0=newBox st0 [.list f1 n1 (p.structs.map Struct.v), .list f2 n2 (p.enums.map Enum.v), .list f3 n3 (p.funcs.map Fun.v)]:=⟨_,rfl⟩
  have hx0:s0.store[0]? =some (.box [.list f1 n1 (p.structs.map Struct.v), .list f2 n2 (p.enums.map Enum.v), .list f3 n3 (p.funcs.map Fun.v)]):=by rw[hs0];rfl
  have b0:s0.base=0:=by rw[hs0];rfl
  have p0:s0.prot=[]:=by rw[hs0];rfl
  have hal:=O_3 s0
  have hl0:st0.store.length=0:=rfl
  have hl1:s0.store.length=1:=by rw[hs0];rfl
  obtain⟨gb,hgr⟩:=O_ p f1 f2 f3 n1 n2 n3 h hw s0
  rw[run5 (by simp)]
  cases gb with
  |true=>
   simp[-List.getD_eq_getElem?_getD, -getElem?_pos,hs0.symm,hl0,hal,hx0,hgr]
   exact Ret.one rfl
  |false=>
   by_cases h300:(300:Int)<(t.length:Nat)
   ·simp[-List.getD_eq_getElem?_getD, -getElem?_pos,hs0.symm,hl0,hal,hx0,hgr,h300]
    exact Ret.one rfl
   obtain⟨s1,hs1⟩:∃s1,s1=newBox s0 [.list true (some true) [], .list true (some true) [], .list true (some true) []]:=⟨_,rfl⟩
   have hset1:∀zs:List V,setO (newBox s0 zs) s0.store.length (.box [.list true (some true) [], .list true (some true) [], .list true (some true) []])=s1:=fun zs=>by
    rw[hs1];exact g_0
   have hB0:BackAt [.list f1 n1 (p.structs.map Struct.v), .list f2 n2 (p.enums.map Enum.v), .list f3 n3 (p.funcs.map Fun.v)] s1 (.list true (some true) []) (.list true (some true) []) [] []:=by
    rw[hs1]
    refine⟨b0,p0,a_3 hx0,?_,I_7,(fun r hr=>by cases hr),I_7,(fun r hr=>by cases hr)⟩
    rw[←hl1];exact b_4
   have hx1:=hB0.x0
   have s64:intBin .sub .i64 (p.structs.length:Nat) 1=some (.int .i64 ((p.structs.length:Int)-1)):=aV_8 (by omega) (by omega)
   simp[-List.getD_eq_getElem?_getD, -getElem?_pos,hs0.symm,hl0,hal,hx0,hgr,h300,b0,p0,hset1,hx1,s64]
   refine Ret.loop (b_3 e5_24 w5_24 p.structs.length
    (I:=fun i f st'=>f 6= .int .i64 ((p.structs.length:Int)-1-i)∧∃v,BackAt [.list f1 n1 (p.structs.map Struct.v), .list f2 n2 (p.enums.map Enum.v), .list f3 n3 (p.funcs.map Fun.v)] st' v (.list true (some true) []) (rts p i) [])
    (Q:=fun e f st'=>e= .exit 0∧∃v,BackAt [.list f1 n1 (p.structs.map Struct.v), .list f2 n2 (p.enums.map Enum.v), .list f3 n3 (p.funcs.map Fun.v)] st' v (.list true (some true) []) (rts p p.structs.length) []) ?_ ?_ ?_) ?_
   ·exact⟨by simp,_,hB0⟩
   ·rintro i f st1 hi hk ⟨h6,v,hB⟩
    have g2:f 2= .ptr 0 0:=by simp[hk,hl0]
    have g5:f 5= .ptr 1 0:=by simp[hk,hl1]
    clear hk
    obtain⟨x,hx,hsx⟩:=bm_2 hi
    have hcast:((p.structs.length:Int)-1-(i:Nat))=((p.structs.length-1-i:Nat):Int):=by omega
    have hnext:((p.structs.length-1-i:Nat):Int)-1=(p.structs.length:Int)-1-((i+1:Nat):Int):=by omega
    rw[hcast]at h6
    have ss:=aV_8 (x:=((p.structs.length-1-i:Nat):Int)) (y:=1) (by omega) (by omega)
    rw[hnext]at ss
    obtain⟨v',st3,ap,y1,y2,y3,y4,y5,hB'⟩:=hB.push1 x (by rw[br_7 (by omega)];omega)
    rw[←hsx]at hB'
    have x0:=hB.x0
    have x1:=hB.x1
    have bb:=hB.base
    have pp:=hB.prot
    have hge:(0:Int)≤((p.structs.length-1-i:Nat):Int):=by omega
    simp only[Struct.v]at ap
    have hQ:∃v,BackAt [.list f1 n1 (p.structs.map Struct.v), .list f2 n2 (p.enums.map Enum.v), .list f3 n3 (p.funcs.map Fun.v)] (setO st3 1 (.box [v', .list true (some true) [], .list true (some true) []])) v (.list true (some true) []) (rts p (i+1)) []:=⟨v',hB'⟩
    have hE:setO st3 1 (.box [v', .list true (some true) [], .list true (some true) []])={store:=st3.store.set 1 (.box [v', .list true (some true) [], .list true (some true) []]),base:=0,prot:=[]}:=by simp[setO,y2,y3]
    clear hB hB' hcast hnext hsx
    generalize rts p (i+1)=es at *
    generalize p.structs.length-1-i=j at *
    simp[-List.getD_eq_getElem?_getD, -getElem?_pos,h6,g2,g5,x0,x1,bb,pp,hx,hge,ss,ap,y1,y2,y3,y4,y5,hQ,Struct.v,Nat.testBit]
    repeat' (first|refine a_0 ?_ ?_|refine Out.branch ?_ ?_|refine Ret.branch ?_ ?_)<;>(intro hb;(try(simp only[NB]at hb));simp[-List.getD_eq_getElem?_getD, -getElem?_pos,h6,g2,g5,x0,x1,bb,pp,hx,hge,ss,ap,y1,y2,y3,y4,y5,hQ,Struct.v,Nat.testBit,hb])
    all_goals try refine Out.one ?_
    all_goals try refine Ret.one ?_
    all_goals try(simp[-List.getD_eq_getElem?_getD,h6,g2,g5,x0,x1,bb,pp,hx,hge,ss,ap,y1,y2,y3,y4,y5,hQ,Struct.v,Nat.testBit, *];done)
    all_goals try simp[-List.getD_eq_getElem?_getD,h6,g2,g5,x0,x1,bb,pp,hx,hge,ss,ap,y1,y2,y3,y4,y5,hQ,Struct.v,Nat.testBit]
    all_goals try(intros;omega)
   ·rintro f st1 hk ⟨h6,hB⟩
    have hlt:(p.structs.length:Int)-1-(p.structs.length:Nat)= -1:=by omega
    rw[hlt]at h6
    simp[-List.getD_eq_getElem?_getD, -getElem?_pos,h6,hB]
    repeat' (first|refine a_0 ?_ ?_|refine Out.branch ?_ ?_|refine Ret.branch ?_ ?_)<;>(intro hb;(try(simp only[NB]at hb));simp[-List.getD_eq_getElem?_getD, -getElem?_pos,h6,hB,hb])
    all_goals try refine Out.one ?_
    all_goals try refine Ret.one ?_
    all_goals try(simp[-List.getD_eq_getElem?_getD,h6,hB, *];done)
    all_goals try simp[-List.getD_eq_getElem?_getD,h6,hB]
    all_goals try(intros;omega)
   ·rintro e f st1 ⟨⟨rfl,v,hB⟩,hk⟩
    have g1:f 1= .str t:=by simp[hk]
    have g2:f 2= .ptr 0 0:=by simp[hk,hl0]
    have g5:f 5= .ptr 1 0:=by simp[hk,hl1]
    clear hk
    have x0:=hB.x0
    have s64:intBin .sub .i64 (p.enums.length:Nat) 1=some (.int .i64 ((p.enums.length:Int)-1)):=aV_8 (by omega) (by omega)
    simp[-List.getD_eq_getElem?_getD, -getElem?_pos,g2,x0,s64]
    refine Ret.loop (b_3 e5_39 w5_39 p.enums.length
     (I:=fun i f st'=>f 7= .int .i64 ((p.enums.length:Int)-1-i)∧∃v2,BackAt [.list f1 n1 (p.structs.map Struct.v), .list f2 n2 (p.enums.map Enum.v), .list f3 n3 (p.funcs.map Fun.v)] st' v v2 (rts p p.structs.length) (rte p i))
     (Q:=fun e f st'=>e= .exit 2∧∃v2,BackAt [.list f1 n1 (p.structs.map Struct.v), .list f2 n2 (p.enums.map Enum.v), .list f3 n3 (p.funcs.map Fun.v)] st' v v2 (rts p p.structs.length) (rte p p.enums.length)) ?_ ?_ ?_) ?_
    ·exact⟨by simp,_,hB⟩
    ·rintro i f st1 hi hk ⟨h6,v2,hB⟩
     have g2:f 2= .ptr 0 0:=by simp[hk,g2]
     have g5:f 5= .ptr 1 0:=by simp[hk,g5]
     clear hk
     obtain⟨x,hx,hsx⟩:=bl_2 hi
     have hcast:((p.enums.length:Int)-1-(i:Nat))=((p.enums.length-1-i:Nat):Int):=by omega
     have hnext:((p.enums.length-1-i:Nat):Int)-1=(p.enums.length:Int)-1-((i+1:Nat):Int):=by omega
     rw[hcast]at h6
     have ss:=aV_8 (x:=((p.enums.length-1-i:Nat):Int)) (y:=1) (by omega) (by omega)
     rw[hnext]at ss
     obtain⟨v',st3,ap,y1,y2,y3,y4,y5,hB'⟩:=hB.push2 x (by rw[bq_2 (by omega)];omega)
     rw[←hsx]at hB'
     have x0:=hB.x0
     have x1:=hB.x1
     have bb:=hB.base
     have pp:=hB.prot
     have hge:(0:Int)≤((p.enums.length-1-i:Nat):Int):=by omega
     simp only[Enum.v]at ap
     have hQ:∃v2,BackAt [.list f1 n1 (p.structs.map Struct.v), .list f2 n2 (p.enums.map Enum.v), .list f3 n3 (p.funcs.map Fun.v)] (setO st3 1 (.box [v,v', .list true (some true) []])) v v2 (rts p p.structs.length) (rte p (i+1)):=⟨v',hB'⟩
     have hE:setO st3 1 (.box [v,v', .list true (some true) []])={store:=st3.store.set 1 (.box [v,v', .list true (some true) []]),base:=0,prot:=[]}:=by simp[setO,y2,y3]
     clear hB hB' hcast hnext hsx
     generalize rte p (i+1)=es at *
     generalize p.enums.length-1-i=j at *
     simp[-List.getD_eq_getElem?_getD, -getElem?_pos,h6,g2,g5,x0,x1,bb,pp,hx,hge,ss,ap,y1,y2,y3,y4,y5,hQ,Enum.v,Nat.testBit]
     repeat' (first|refine a_0 ?_ ?_|refine Out.branch ?_ ?_|refine Ret.branch ?_ ?_)<;>(intro hb;(try(simp only[NB]at hb));simp[-List.getD_eq_getElem?_getD, -getElem?_pos,h6,g2,g5,x0,x1,bb,pp,hx,hge,ss,ap,y1,y2,y3,y4,y5,hQ,Enum.v,Nat.testBit,hb])
     all_goals try refine Out.one ?_
     all_goals try refine Ret.one ?_
     all_goals try(simp[-List.getD_eq_getElem?_getD,h6,g2,g5,x0,x1,bb,pp,hx,hge,ss,ap,y1,y2,y3,y4,y5,hQ,Enum.v,Nat.testBit, *];done)
     all_goals try simp[-List.getD_eq_getElem?_getD,h6,g2,g5,x0,x1,bb,pp,hx,hge,ss,ap,y1,y2,y3,y4,y5,hQ,Enum.v,Nat.testBit]
     all_goals try(intros;omega)
    ·rintro f st1 hk ⟨h6,hB⟩
     have hlt:(p.enums.length:Int)-1-(p.enums.length:Nat)= -1:=by omega
     rw[hlt]at h6
     simp[-List.getD_eq_getElem?_getD, -getElem?_pos,h6,hB]
     repeat' (first|refine a_0 ?_ ?_|refine Out.branch ?_ ?_|refine Ret.branch ?_ ?_)<;>(intro hb;(try(simp only[NB]at hb));simp[-List.getD_eq_getElem?_getD, -getElem?_pos,h6,hB,hb])
     all_goals try refine Out.one ?_
     all_goals try refine Ret.one ?_
     all_goals try(simp[-List.getD_eq_getElem?_getD,h6,hB, *];done)
     all_goals try simp[-List.getD_eq_getElem?_getD,h6,hB]
     all_goals try(intros;omega)
    ·rintro e f st2 ⟨⟨rfl,v2,hB⟩,hk⟩
     have g1:f 1= .str t:=by simp[hk,g1]
     have g2:f 2= .ptr 0 0:=by simp[hk,g2]
     have g5:f 5= .ptr 1 0:=by simp[hk,g5]
     clear hk
     have x0:=hB.x0
     have cz:=Nat.le_trans (bl_8 p) h
     have rz:=Nat.le_trans (bm_9 p) h
     obtain⟨nA,sA,hnA,hGA,hA⟩:=Y_0 (cutP p) f1 f2 true n1 n2 (some true) cz st2 hB.base hB.prot
     have a1:AccT 5 st2 v ((revP p).structs.map Struct.v):=bt_7 p▸hB.a1
     have a2:AccT 3 st2 v2 ((revP p).enums.map Enum.v):=bq_6 p▸hB.a2
     have xA:=hGA.at_ hB.x1
     have bA:sA.base=0:=hGA.base.trans hB.base
     have pA:sA.prot=[]:=hGA.prot.trans hB.prot
     have a1:=a1.growT hGA
     have a2:=a2.growT hGA
     obtain⟨nB,sB,hnB,hGB,hB2⟩:=bm_3 (revP p) v v2 (.list true (some true) []) rz sA bA pA (aT_3 a1) (bk_8 a2) ⟨rfl,rfl⟩ (bh_6 rfl rz a1 a2) (be_4 rfl rz a1 a2)
     have bB:sB.base=0:=hGB.base.trans bA
     have pB:sB.prot=[]:=hGB.prot.trans pA
     have hod:=aF_3 (p:=cutP p) cz rz rfl
     rw[bt_5]at hod
     simp only[cutP,List.map_nil]at hnA
     clear hB
     rcases hA with⟨hdA,hfA,rA,mA,DA,DcA,rfl,hTA⟩|⟨hdA,wA,rfl,hwA⟩
     ·rcases hB2 with⟨hdB,hfB,rB,mB,DB,DcB,rfl,hTB⟩|⟨hdB,wB,rfl,hwB⟩
      ·have ha:Agree (revP p) (cutP p):=ay_9 (p:=cutP p) hfA.names
       have ht2:t.length<2^40:=by omega
       have tA:TabSt sB rA mA DA DcA:=hTA.ms.tab.grow hGB
       have tB:TabSt sB rB mB DB DcB:=hTB.ms.tab
       have hcA:copiedM DA t=copied (cutP p) t:=by unfold copiedM copied;rw[w_8 hTA.ms]
       have hcB:copiedM DB t=copied (revP p) t:=by unfold copiedM copied;rw[w_8 hTB.ms]
       have kA15:=(fun(h:∃l1 l2 l3,sB.store[rA]? =some (.box [l1,l2,l3, .map mA]))=>by obtain⟨l1,l2,l3,e⟩:=h;exact E_5 rA mA l1 l2 l3 DA t ht2 sB e tA.ents:_→(run tb).call 15 [.ptr rA 0, .str t] sB=some (.bool (knownM DA t),sB)) tA.box
       have kB15:=(fun(h:∃l1 l2 l3,sB.store[rB]? =some (.box [l1,l2,l3, .map mB]))=>by obtain⟨l1,l2,l3,e⟩:=h;exact E_5 rB mB l1 l2 l3 DB t ht2 sB e tB.ents:_→(run tb).call 15 [.ptr rB 0, .str t] sB=some (.bool (knownM DB t),sB)) tB.box
       have kA17:=E_4 rA mA DA DcA t ht2 sB tA
       have kB17:=E_4 rB mB DB DcB t ht2 sB tB
       have kA19:=G_3 rA mA DA DcA t ht2 sB tA
       have kB19:=G_3 rB mB DB DcB t ht2 sB tB
       have kA21:=L_5 rA mA DA DcA t ht2 sB tA
       have kB21:=L_5 rB mB DB DcB t ht2 sB tB
       rw[H_2 hfA hTA]at kA17
       rw[H_2 hfB hTB,ha.slots]at kB17
       rw[R_6 hfA hTA]at kA19
       rw[R_6 hfB hTB,ha.drops]at kB19
       rw[hcA]at kA21
       rw[hcB,ha.copied]at kB21
       rw[w_8 hTA.ms]at kA15
       rw[w_8 hTB.ms,ha.known]at kB15
       have hbA:V.bulks (((cutP p).structs.map Struct.nrm).map Struct.v)≤1048576:=by
        rw[N_6]
        have:=cz
        rw[b_6]at this;omega
       have hbB:V.bulks (((revP p).structs.map Struct.nrm).map Struct.v)≤1048576:=by
        rw[N_6]
        have:=rz
        rw[b_6]at this;omega
       have kA23:=ai_5 rA ((cutP p).structs.map Struct.nrm) false none _ _ _ t hbA sB (by rw[pB];simp) (hGB.at_ hTA.box)
       have kB23:=ai_5 rB ((revP p).structs.map Struct.nrm) false none _ _ _ t hbB sB (by rw[pB];simp) hTB.box
       rw[ac_]at kA23
       rw[ac_,ha.st]at kB23
       clear hTA hTB tA tB ha hcA hcB
       generalize known (cutP p) t=q1 at *
       generalize slotsD (cutP p) t=q2 at *
       generalize dropsF (cutP p) t=q3 at *
       generalize copied (cutP p) t=q4 at *
       generalize((((cutP p).st t).map Struct.nrm).isSome&&((((cutP p).st t).map Struct.nrm).getD .z).safe)=q5 at *
       simp[-List.getD_eq_getElem?_getD, -getElem?_pos,g1,g2,g5,x0,hnA,xA,hnB,kA15,kB15,kA17,kB17,kA19,kB19,kA21,kB21,kA23,kB23]
       exact Ret.one rfl
      ·exact absurd (hod.1 hdA) hdB
     ·rcases hB2 with⟨hdB,hfB,rB,mB,DB,DcB,rfl,hTB⟩|⟨hdB,wB,rfl,hwB⟩
      ·exact absurd (hod.2 hdB) hdA
      ·simp[-List.getD_eq_getElem?_getD, -getElem?_pos,g1,g2,g5,x0,hnA,xA,hnB]
       exact Ret.one rfl
 obtain⟨v,st',e,rfl⟩:=hh
 exact⟨st',e⟩
structure TB(A:List V)(st:St)(r m:Nat)(D:List (Str×Nat))(Dc:Nat→Decl):Prop where
 base:st.base=0
 prot:st.prot=[]
 x0:st.store[0]? =some (.box A)
 tab:TabSt st r m D Dc
theorem TB.box{A:List V}{st:St}{r m:Nat}{D:List (Str×Nat)}{Dc:Nat→Decl}(h:TB A st r m D Dc)(zs:List V):TB A (newBox st zs) r m D Dc:=
 ⟨h.base,h.prot,a_3 h.x0,h.tab.grow ((Grows.refl st).app _)⟩
theorem TB.field{p:Prog}{A:List V}{st:St}{r m:Nat}{D:List (Str×Nat)}{Dc:Nat→Decl}(h:TB A st r m D Dc){s0:St}(hf:Fine p)(hT:TabOf p s0 r m D Dc)(hlen:∀k,(Dc k).parts.length≤1048576∧∀v∈(Dc k).parts,v.type.length≤1048576)(t n:Str):(run tb).call 24 [.ptr r 0, .str t, .str n] st=some (fieldD p t n,st):=by
 rw[←aP_0 hf hT]
 exact am_9 r m D Dc t n st h.prot h.tab (fun k=>by have:=(hlen k).1;omega) (fun t=>by rw[H_2 hf hT];have:=O_5 p t;omega) (fun k v hv=>by have:=(hlen k).2 v hv;omega)
theorem TB.variant{p:Prog}{A:List V}{st:St}{r m:Nat}{D:List (Str×Nat)}{Dc:Nat→Decl}(h:TB A st r m D Dc){s0:St}(hf:Fine p)(hT:TabOf p s0 r m D Dc)(hlen:∀k,(Dc k).parts.length≤1048576∧∀v∈(Dc k).parts,v.type.length≤1048576)(t n:Str):(run tb).call 26 [.ptr r 0, .str t, .str n] st=some (variantD p t n,st):=by
 rw[←am_5 hf hT]
 exact aa_6 r m D Dc t n st h.tab (fun k=>by have:=(hlen k).1;omega)
theorem TB.slots{p:Prog}{A:List V}{st:St}{r m:Nat}{D:List (Str×Nat)}{Dc:Nat→Decl}(h:TB A st r m D Dc){s0:St}(hf:Fine p)(hT:TabOf p s0 r m D Dc)(u:Str)(hu:u.length<2^40):(run tb).call 17 [.ptr r 0, .str u] st=some (.int .i64 ((slotsD p u:Nat):Int),st):=by
 rw[←H_2 hf hT];exact E_4 r m D Dc u hu st h.tab
theorem TB.drops{p:Prog}{A:List V}{st:St}{r m:Nat}{D:List (Str×Nat)}{Dc:Nat→Decl}(h:TB A st r m D Dc){s0:St}(hf:Fine p)(hT:TabOf p s0 r m D Dc)(u:Str)(hu:u.length<2^40):(run tb).call 19 [.ptr r 0, .str u] st=some (.bool (dropsF p u),st):=by
 rw[←R_6 hf hT];exact G_3 r m D Dc u hu st h.tab
theorem TB.copied{p:Prog}{A:List V}{st:St}{r m:Nat}{D:List (Str×Nat)}{Dc:Nat→Decl}(h:TB A st r m D Dc){s0:St}(hT:TabOf p s0 r m D Dc)(u:Str)(hu:u.length<2^40):(run tb).call 21 [.ptr r 0, .str u] st=some (.bool (Go.Proofs.YtghhphdkojjalaaGreatDoor.copied p u),st):=by
 have hcp:copiedM D u=Go.Proofs.YtghhphdkojjalaaGreatDoor.copied p u:=by unfold copiedM Go.Proofs.YtghhphdkojjalaaGreatDoor.copied;rw[w_8 hT.ms]
 rw[←hcp];exact L_5 r m D Dc u hu st h.tab
theorem bv_5(a b:Nat):(if a<b then(b:Int)else(a:Int))=((max a b:Nat):Int):=by
 rw[Nat.max_def];split<;>split<;>omega
theorem aB_9(p:Prog)(hf:Fine p)(hg:Good p)(x:Struct)(hx:x∈p.structs)(A:List V)(s0 st:St)(r m q:Nat)(D:List (Str×Nat))(Dc:Nat→Decl)(hT:TabOf p s0 r m D Dc)(hlen:∀k,(Dc k).parts.length≤1048576∧∀v∈(Dc k).parts,v.type.length≤1048576)(hB:TB A st r m D Dc)(hq:st.store[q]? =some (.box x.ks))(f:Nat→V)(g3:f 3= .ptr r 0)(g6:f 6= .ptr q 0)(g9:f 9= .int .i64 0)(g7:f 7= .int .i64 0)(g8:f 8= .bool x.hook):
  Out 240 [] (fun e f' st'=>(e= .exit 2∧st'=st∧f' 7= .int .i64 ((sumD p x.fields:Nat):Int)∧f' 8= .bool (anyD p x.hook x.fields))∧∀t,t<240→List.contains [48,49,50,51,52,56,57,58,59,60,61,62,63,64,65,55,66,67,68,10,11,12,69,70,71,72,73,74,75,76,77,78,79,80,81,82,83,84,85,86,87,88,89,90,91,2,92,93,94,95,96,7,97,98,99,100,101,102,8,53,54,9] t=false→f' t=f t) ((run tb).code none c6_51 (mk 240 f []) st):=by
 have bb:=hB.base
 have pp:=hB.prot
 have hxz:=p_7 hx
 rw[g_4]at hxz
 have hz:=hf.size
 rw[b_6]at hz
 have hl:=d_3 x.fields
 have hsl:=(aa_3 hf hg hx).2
 refine(b_3 e6_51 w6_51 x.fields.length
  (I:=fun k f' st'=>st'=st∧f' 9= .int .i64 (k:Nat)∧f' 7= .int .i64 ((sumD p (x.fields.take k):Nat):Int)∧f' 8= .bool (anyD p x.hook (x.fields.take k)))
  (Q:=fun e f' st'=>e= .exit 2∧st'=st∧f' 7= .int .i64 ((sumD p x.fields:Nat):Int)∧f' 8= .bool (anyD p x.hook x.fields)) ⟨rfl,g9,g7,by rw[g8];simp[anyD]⟩ ?_ ?_)
 ·rintro k f1 st1 hk1 hk ⟨rfl,h9,h7,h8⟩
  have q3:f1 3= .ptr r 0:=by rw[hk 3 (by decide) (by decide),g3]
  have q6:f1 6= .ptr q 0:=by rw[hk 6 (by decide) (by decide),g6]
  clear hk g3 g6 g9 g7 g8
  have hy:x.fields[k]? =some x.fields[k]:=List.getElem?_eq_getElem hk1
  have hym:=List.getElem_mem hk1
  have htk:=List.take_succ_eq_append_getElem hk1
  generalize x.fields[k]=y at *
  have hyz:=E_9 hym
  rw[D_3]at hyz
  have hF:=hB.field hf hT hlen x.name y.name
  rw[bn_3 hf hg hx hy]at hF
  have hS:=hB.slots hf hT y.type (by omega)
  have hD:=hB.drops hf hT y.type (by omega)
  have hpos:=aU_3 hf hx hym
  have ha:=add1 (i:=k) (by omega)
  have hs1:=aJ_4 p (x.fields.take k)
  have hs2:=O_5 p y.type
  have hlt2:(x.fields.take k).length≤k:=by simp;omega
  obtain⟨c,hc,ac⟩:=addN (sumD p (x.fields.take k)) (slotsD p y.type) (by omega)
  rw[htk,az_5,←hc,aw_5]
  have hn1:¬((slotsD p y.type:Nat):Int)<1:=by omega
  clear hc
  generalize sumD p (x.fields.take k)=a at *
  generalize anyD p x.hook (x.fields.take k)=b at *
  generalize slotsD p y.type=sl at *
  generalize dropsF p y.type=dr at *
  unfold Struct.ks at hq
  cases b with
  |true=>
   simp[-List.getD_eq_getElem?_getD, -getElem?_pos,q3,q6,h9,h7,h8,bb,pp,hq,hy,hk1,hF,hS,hD,ha,ac,hn1,Var.v,Nat.testBit]
   repeat' (first|refine a_0 ?_ ?_|refine Out.branch ?_ ?_|refine Ret.branch ?_ ?_)<;>(intro hb;(try(simp only[NB]at hb));simp[-List.getD_eq_getElem?_getD, -getElem?_pos,q3,q6,h9,h7,h8,bb,pp,hq,hy,hk1,hF,hS,hD,ha,ac,hn1,Var.v,Nat.testBit,hb])
   all_goals try refine Out.one ?_
   all_goals try refine Ret.one ?_
   all_goals try(simp[-List.getD_eq_getElem?_getD,q3,q6,h9,h7,h8,bb,pp,hq,hy,hk1,hF,hS,hD,ha,ac,hn1,Var.v,Nat.testBit, *];done)
   all_goals try simp[-List.getD_eq_getElem?_getD,q3,q6,h9,h7,h8,bb,pp,hq,hy,hk1,hF,hS,hD,ha,ac,hn1,Var.v,Nat.testBit]
   all_goals try(intros;omega)
  |false=>
   simp[-List.getD_eq_getElem?_getD, -getElem?_pos,q3,q6,h9,h7,h8,bb,pp,hq,hy,hk1,hF,hS,hD,ha,ac,hn1,Var.v,Nat.testBit]
   repeat' (first|refine a_0 ?_ ?_|refine Out.branch ?_ ?_|refine Ret.branch ?_ ?_)<;>(intro hb;(try(simp only[NB]at hb));simp[-List.getD_eq_getElem?_getD, -getElem?_pos,q3,q6,h9,h7,h8,bb,pp,hq,hy,hk1,hF,hS,hD,ha,ac,hn1,Var.v,Nat.testBit,hb])
   all_goals try refine Out.one ?_
   all_goals try refine Ret.one ?_
   all_goals try(simp[-List.getD_eq_getElem?_getD,q3,q6,h9,h7,h8,bb,pp,hq,hy,hk1,hF,hS,hD,ha,ac,hn1,Var.v,Nat.testBit, *];done)
   all_goals try simp[-List.getD_eq_getElem?_getD,q3,q6,h9,h7,h8,bb,pp,hq,hy,hk1,hF,hS,hD,ha,ac,hn1,Var.v,Nat.testBit]
   all_goals try(intros;omega)
 ·rintro f1 st1 hk ⟨rfl,h9,h7,h8⟩
  have q6:f1 6= .ptr q 0:=by rw[hk 6 (by decide) (by decide),g6]
  clear hk
  rw[List.take_length]at h7 h8
  unfold Struct.ks at hq
  generalize sumD p x.fields=a at *
  generalize anyD p x.hook x.fields=b at *
  simp[-List.getD_eq_getElem?_getD, -getElem?_pos,q6,h9,h7,h8,bb,pp,hq]
  repeat' (first|refine a_0 ?_ ?_|refine Out.branch ?_ ?_|refine Ret.branch ?_ ?_)<;>(intro hb;(try(simp only[NB]at hb));simp[-List.getD_eq_getElem?_getD, -getElem?_pos,q6,h9,h7,h8,bb,pp,hq,hb])
  all_goals try refine Out.one ?_
  all_goals try refine Ret.one ?_
  all_goals try(simp[-List.getD_eq_getElem?_getD,q6,h9,h7,h8,bb,pp,hq, *];done)
  all_goals try simp[-List.getD_eq_getElem?_getD,q6,h9,h7,h8,bb,pp,hq]
  all_goals try(intros;omega)
theorem ak_4(p:Prog)(hf:Fine p)(hg:Good p)(x:Enum)(hx:x∈p.enums)(A:List V)(s0 st:St)(r m q:Nat)(D:List (Str×Nat))(Dc:Nat→Decl)(hT:TabOf p s0 r m D Dc)(hlen:∀k,(Dc k).parts.length≤1048576∧∀v∈(Dc k).parts,v.type.length≤1048576)(hB:TB A st r m D Dc)(hq:st.store[q]? =some (.box x.ks))(f:Nat→V)(g3:f 3= .ptr r 0)(g16:f 16= .ptr q 0)(g19:f 19= .int .i64 0)(g17:f 17= .int .i64 0)(g18:f 18= .bool false):
  Out 240 [] (fun e f' st'=>(e= .exit 6∧st'=st∧f' 17= .int .i64 ((maxD p x.variants:Nat):Int)∧f' 18= .bool (anyD p false x.variants))∧∀t,t<240→List.contains [158,159,160,161,162,166,167,168,169,170,171,172,173,174,175,165,176,177,178,20,21,22,179,180,181,182,183,184,185,186,187,188,189,190,191,192,193,194,195,2,196,197,198,199,200,17,201,202,203,204,205,206,18,163,164,19] t=false→f' t=f t) ((run tb).code none c6_107 (mk 240 f []) st):=by
 have bb:=hB.base
 have pp:=hB.prot
 have hxz:=D_4 hx
 rw[o_1]at hxz
 have hz:=hf.size
 rw[b_6]at hz
 have hl:=d_3 x.variants
 refine(b_3 e6_107 w6_107 x.variants.length
  (I:=fun k f' st'=>st'=st∧f' 19= .int .i64 (k:Nat)∧f' 17= .int .i64 ((maxD p (x.variants.take k):Nat):Int)∧f' 18= .bool (anyD p false (x.variants.take k)))
  (Q:=fun e f' st'=>e= .exit 6∧st'=st∧f' 17= .int .i64 ((maxD p x.variants:Nat):Int)∧f' 18= .bool (anyD p false x.variants)) ⟨rfl,g19,g17,by rw[g18];simp[anyD]⟩ ?_ ?_)
 ·rintro k f1 st1 hk1 hk ⟨rfl,h19,h17,h18⟩
  have q3:f1 3= .ptr r 0:=by rw[hk 3 (by decide) (by decide),g3]
  have q16:f1 16= .ptr q 0:=by rw[hk 16 (by decide) (by decide),g16]
  clear hk g3 g16 g19 g17 g18
  have hy:x.variants[k]? =some x.variants[k]:=List.getElem?_eq_getElem hk1
  have hym:=List.getElem_mem hk1
  have htk:=List.take_succ_eq_append_getElem hk1
  generalize x.variants[k]=y at *
  have hyz:=E_9 hym
  rw[D_3]at hyz
  have hF:=hB.variant hf hT hlen x.name y.name
  rw[aQ_4 hf hg hx hy]at hF
  have hS:=hB.slots hf hT y.type (by omega)
  have hD:=hB.drops hf hT y.type (by omega)
  have ha:=add1 (i:=k) (by omega)
  rw[htk,bc_8,aw_5]
  have hmx:=bv_5 (maxD p (x.variants.take k)) (slotsD p y.type)
  generalize max (maxD p (x.variants.take k)) (slotsD p y.type)=c at *
  generalize maxD p (x.variants.take k)=a at *
  generalize anyD p false (x.variants.take k)=b at *
  generalize slotsD p y.type=sl at *
  generalize dropsF p y.type=dr at *
  unfold Enum.ks at hq
  cases b with
  |true=>
   simp[-List.getD_eq_getElem?_getD, -getElem?_pos,q3,q16,h19,h17,h18,bb,pp,hq,hy,hk1,hF,hS,hD,ha,hmx,Var.v,Nat.testBit]
   repeat' (first|refine a_0 ?_ ?_|refine Out.branch ?_ ?_|refine Ret.branch ?_ ?_)<;>(intro hb;(try(simp only[NB]at hb));simp[-List.getD_eq_getElem?_getD, -getElem?_pos,q3,q16,h19,h17,h18,bb,pp,hq,hy,hk1,hF,hS,hD,ha,hmx,Var.v,Nat.testBit,hb])
   all_goals try refine Out.one ?_
   all_goals try refine Ret.one ?_
   all_goals try(simp[-List.getD_eq_getElem?_getD,q3,q16,h19,h17,h18,bb,pp,hq,hy,hk1,hF,hS,hD,ha,hmx,Var.v,Nat.testBit, *];done)
   all_goals try simp[-List.getD_eq_getElem?_getD,q3,q16,h19,h17,h18,bb,pp,hq,hy,hk1,hF,hS,hD,ha,hmx,Var.v,Nat.testBit]
   all_goals try(intros;omega)
  |false=>
   simp[-List.getD_eq_getElem?_getD, -getElem?_pos,q3,q16,h19,h17,h18,bb,pp,hq,hy,hk1,hF,hS,hD,ha,hmx,Var.v,Nat.testBit]
   repeat' (first|refine a_0 ?_ ?_|refine Out.branch ?_ ?_|refine Ret.branch ?_ ?_)<;>(intro hb;(try(simp only[NB]at hb));simp[-List.getD_eq_getElem?_getD, -getElem?_pos,q3,q16,h19,h17,h18,bb,pp,hq,hy,hk1,hF,hS,hD,ha,hmx,Var.v,Nat.testBit,hb])
   all_goals try refine Out.one ?_
   all_goals try refine Ret.one ?_
   all_goals try(simp[-List.getD_eq_getElem?_getD,q3,q16,h19,h17,h18,bb,pp,hq,hy,hk1,hF,hS,hD,ha,hmx,Var.v,Nat.testBit, *];done)
   all_goals try simp[-List.getD_eq_getElem?_getD,q3,q16,h19,h17,h18,bb,pp,hq,hy,hk1,hF,hS,hD,ha,hmx,Var.v,Nat.testBit]
   all_goals try(intros;omega)
 ·rintro f1 st1 hk ⟨rfl,h19,h17,h18⟩
  have q16:f1 16= .ptr q 0:=by rw[hk 16 (by decide) (by decide),g16]
  clear hk
  rw[List.take_length]at h17 h18
  unfold Enum.ks at hq
  generalize maxD p x.variants=a at *
  generalize anyD p false x.variants=b at *
  simp[-List.getD_eq_getElem?_getD, -getElem?_pos,q16,h19,h17,h18,bb,pp,hq]
  repeat' (first|refine a_0 ?_ ?_|refine Out.branch ?_ ?_|refine Ret.branch ?_ ?_)<;>(intro hb;(try(simp only[NB]at hb));simp[-List.getD_eq_getElem?_getD, -getElem?_pos,q16,h19,h17,h18,bb,pp,hq,hb])
  all_goals try refine Out.one ?_
  all_goals try refine Ret.one ?_
  all_goals try(simp[-List.getD_eq_getElem?_getD,q16,h19,h17,h18,bb,pp,hq, *];done)
  all_goals try simp[-List.getD_eq_getElem?_getD,q16,h19,h17,h18,bb,pp,hq]
  all_goals try(intros;omega)
theorem bg_(p:Prog)(f1 f2 f3:Bool)(n1 n2 n3:Option Bool)(h:p.size≤1048576)(hw:p.wf):∃st',(run tb).call 6 [.agg [.list f1 n1 (p.structs.map Struct.v), .list f2 n2 (p.enums.map Enum.v), .list f3 n3 (p.funcs.map Fun.v)]] st0=some (.bool true,st'):=by
 have hz:=h
 rw[b_6]at hz
 have l1:=m_2 p.structs
 have l2:=w_9 p.enums
 have hh:Ret (fun v st'=>v= .bool true) ((run tb).call 6 [.agg [.list f1 n1 (p.structs.map Struct.v), .list f2 n2 (p.enums.map Enum.v), .list f3 n3 (p.funcs.map Fun.v)]] st0):=by
  obtain⟨s0,hs0⟩:∃s0,s0=newBox st0 [.list f1 n1 (p.structs.map Struct.v), .list f2 n2 (p.enums.map Enum.v), .list f3 n3 (p.funcs.map Fun.v)]:=⟨_,rfl⟩
  have hx0:s0.store[0]? =some (.box [.list f1 n1 (p.structs.map Struct.v), .list f2 n2 (p.enums.map Enum.v), .list f3 n3 (p.funcs.map Fun.v)]):=by rw[hs0];rfl
  have b0:s0.base=0:=by rw[hs0];rfl
  have p0:s0.prot=[]:=by rw[hs0];rfl
  have hal:=O_3 s0
  have hl0:st0.store.length=0:=rfl
  obtain⟨gb,hgr⟩:=O_ p f1 f2 f3 n1 n2 n3 h hw s0
  obtain⟨nv,s2,hnew,hG,hN⟩:=Y_0 p f1 f2 f3 n1 n2 n3 h s0 b0 p0
  have hx2:=hG.at_ hx0
  rw[run6 (by simp)]
  cases gb with
  |true=>
   simp[-List.getD_eq_getElem?_getD, -getElem?_pos,hs0.symm,hl0,hal,hx0,hgr]
   exact Ret.one rfl
  |false=>
   rcases hN with⟨hd,hf,r,m,D,Dc0,rfl,hT0⟩|⟨hd,w,rfl,hw⟩
   ·obtain⟨Dc,hT,hlen⟩:=hT0.trim h
    have hg:=au_5 h hd
    have hB0:TB [.list f1 n1 (p.structs.map Struct.v), .list f2 n2 (p.enums.map Enum.v), .list f3 n3 (p.funcs.map Fun.v)] s2 r m D Dc:=⟨hT.ms.base,hT.ms.prot,hx2,hT.ms.tab⟩
    simp[-List.getD_eq_getElem?_getD, -getElem?_pos,hs0.symm,hl0,hal,hx0,hgr,hnew,hx2]
    refine Ret.loop (b_3 e6_32 w6_32 p.structs.length
     (I:=fun i f st'=>f 5= .int .i64 (i:Nat)∧TB [.list f1 n1 (p.structs.map Struct.v), .list f2 n2 (p.enums.map Enum.v), .list f3 n3 (p.funcs.map Fun.v)] st' r m D Dc)
     (Q:=fun e f st'=>e= .exit 0∧TB [.list f1 n1 (p.structs.map Struct.v), .list f2 n2 (p.enums.map Enum.v), .list f3 n3 (p.funcs.map Fun.v)] st' r m D Dc) ?_ ?_ ?_) ?_
    ·exact⟨by simp,hB0⟩
    ·rintro i f st1 hi hk ⟨h5,hB⟩
     have g1:f 1= .ptr 0 0:=by simp[hk,hl0]
     have g3:f 3= .ptr r 0:=by simp[hk]
     clear hk
     have hx:p.structs[i]? =some p.structs[i]:=List.getElem?_eq_getElem hi
     have hxm:=List.getElem_mem hi
     generalize p.structs[i]=x at *
     have hxz:=p_7 hxm
     rw[g_4]at hxz
     have x0:=hB.x0
     have bb:=hB.base
     have pp:=hB.prot
     obtain⟨sA,hsA⟩:∃sA,sA=newBox st1 x.ks:=⟨_,rfl⟩
     have hset:∀zs:List V,setO (newBox st1 zs) st1.store.length (.box x.ks)=sA:=fun zs=>by rw[hsA];exact g_0
     have hBA:TB [.list f1 n1 (p.structs.map Struct.v), .list f2 n2 (p.enums.map Enum.v), .list f3 n3 (p.funcs.map Fun.v)] sA r m D Dc:=by rw[hsA];exact hB.box _
     have hq:sA.store[st1.store.length]? =some (.box x.ks):=by rw[hsA];exact b_4
     have hq':=hq
     unfold Struct.ks at hset hq'
     have bA:=hBA.base
     have pA:=hBA.prot
     have ha:=add1 (i:=i) (by omega)
     simp[-List.getD_eq_getElem?_getD, -getElem?_pos,h5,g1,g3,x0,bb,pp,hx,hi,hset,hq',bA,pA,Struct.v,Nat.testBit]
     refine Out.loop (aB_9 p hf hg x hxm _ s2 sA r m st1.store.length D Dc hT hlen hBA hq _ (by simp[g3]) (by simp) (by simp) (by simp) (by simp)) ?_
     rintro e f2 st4 ⟨⟨rfl,rfl,q7,q8⟩,hk2⟩
     have q3:f2 3= .ptr r 0:=by simp[hk2,g3]
     have q5:f2 5= .int .i64 (i:Nat):=by simp[hk2,h5]
     have q6:f2 6= .ptr st1.store.length 0:=by simp[hk2]
     clear hk2
     have hdc:=declS hf hxm
     obtain⟨e1,e2⟩:=aa_3 hf hg hxm
     have e3:dropsF p x.name=anyD p x.hook x.fields:=al_5 hf hdc
     have e4:=af_6 hf hdc
     obtain⟨B,eB,lB,e5,e6⟩:=bl_3 hf hdc
     have k25:=be_3 x.name (by omega) st4
     have k17:=hBA.slots hf hT x.name (by omega)
     have k19:=hBA.drops hf hT x.name (by omega)
     have k21:=hBA.copied hT x.name (by omega)
     have k17b:=hBA.slots hf hT B (by omega)
     have k19b:=hBA.drops hf hT B (by omega)
     rw[eB]at k25
     rw[e1]at k17
     rw[e3]at k19
     rw[e4]at k21
     rw[e5]at k17b
     rw[e6]at k19b
     have hmx:(if((sumD p x.fields:Nat):Int)<1 then(1:Int)else((sumD p x.fields:Nat):Int))=((max (sumD p x.fields) 1:Nat):Int):=by
      rw[Nat.max_def];split<;>split<;>omega
     have h32:¬(32:Int)<((sumD p x.fields:Nat):Int):=by omega
     clear hq hset hsA e1 e2 e3 e4 e5 e6 eB hdc
     generalize max (sumD p x.fields) 1=c at *
     generalize sumD p x.fields=a at *
     generalize anyD p x.hook x.fields=b at *
     simp[-List.getD_eq_getElem?_getD, -getElem?_pos,q3,q5,q6,q7,q8,hq',bA,pA,k25,k17,k19,k21,k17b,k19b,hmx,h32,ha,hBA,Nat.testBit]
     repeat' (first|refine a_0 ?_ ?_|refine Out.branch ?_ ?_|refine Ret.branch ?_ ?_)<;>(intro hb;(try(simp only[NB]at hb));simp[-List.getD_eq_getElem?_getD, -getElem?_pos,q3,q5,q6,q7,q8,hq',bA,pA,k25,k17,k19,k21,k17b,k19b,hmx,h32,ha,hBA,Nat.testBit,hb])
     all_goals try refine Out.one ?_
     all_goals try refine Ret.one ?_
     all_goals try(simp[-List.getD_eq_getElem?_getD,q3,q5,q6,q7,q8,hq',bA,pA,k25,k17,k19,k21,k17b,k19b,hmx,h32,ha,hBA,Nat.testBit, *];done)
     all_goals try simp[-List.getD_eq_getElem?_getD,q3,q5,q6,q7,q8,hq',bA,pA,k25,k17,k19,k21,k17b,k19b,hmx,h32,ha,hBA,Nat.testBit]
     all_goals try(intros;omega)
    ·rintro f st1 hk ⟨h5,hB⟩
     have g1:f 1= .ptr 0 0:=by simp[hk,hl0]
     clear hk
     have x0:=hB.x0
     have bb:=hB.base
     have pp:=hB.prot
     simp[-List.getD_eq_getElem?_getD, -getElem?_pos,h5,g1,x0,bb,pp,hB]
     repeat' (first|refine a_0 ?_ ?_|refine Out.branch ?_ ?_|refine Ret.branch ?_ ?_)<;>(intro hb;(try(simp only[NB]at hb));simp[-List.getD_eq_getElem?_getD, -getElem?_pos,h5,g1,x0,bb,pp,hB,hb])
     all_goals try refine Out.one ?_
     all_goals try refine Ret.one ?_
     all_goals try(simp[-List.getD_eq_getElem?_getD,h5,g1,x0,bb,pp,hB, *];done)
     all_goals try simp[-List.getD_eq_getElem?_getD,h5,g1,x0,bb,pp,hB]
     all_goals try(intros;omega)
    ·rintro e f st1 ⟨⟨rfl,hB⟩,hk⟩
     have g1:f 1= .ptr 0 0:=by simp[hk,hl0]
     have g3:f 3= .ptr r 0:=by simp[hk]
     clear hk
     simp[-List.getD_eq_getElem?_getD, -getElem?_pos,g1,g3]
     refine Ret.loop (b_3 e6_88 w6_88 p.enums.length
      (I:=fun i f st'=>f 15= .int .i64 (i:Nat)∧TB [.list f1 n1 (p.structs.map Struct.v), .list f2 n2 (p.enums.map Enum.v), .list f3 n3 (p.funcs.map Fun.v)] st' r m D Dc)
      (Q:=fun e f st'=>e= .exit 4∧TB [.list f1 n1 (p.structs.map Struct.v), .list f2 n2 (p.enums.map Enum.v), .list f3 n3 (p.funcs.map Fun.v)] st' r m D Dc) ?_ ?_ ?_) ?_
     ·exact⟨by simp,hB⟩
     ·rintro i f st1 hi hk ⟨h5,hB⟩
      have g1:f 1= .ptr 0 0:=by simp[hk,g1]
      have g3:f 3= .ptr r 0:=by simp[hk,g3]
      clear hk
      have hx:p.enums[i]? =some p.enums[i]:=List.getElem?_eq_getElem hi
      have hxm:=List.getElem_mem hi
      generalize p.enums[i]=x at *
      have hxz:=D_4 hxm
      rw[o_1]at hxz
      have x0:=hB.x0
      have bb:=hB.base
      have pp:=hB.prot
      obtain⟨sA,hsA⟩:∃sA,sA=newBox st1 x.ks:=⟨_,rfl⟩
      have hset:∀zs:List V,setO (newBox st1 zs) st1.store.length (.box x.ks)=sA:=fun zs=>by rw[hsA];exact g_0
      have hBA:TB [.list f1 n1 (p.structs.map Struct.v), .list f2 n2 (p.enums.map Enum.v), .list f3 n3 (p.funcs.map Fun.v)] sA r m D Dc:=by rw[hsA];exact hB.box _
      have hq:sA.store[st1.store.length]? =some (.box x.ks):=by rw[hsA];exact b_4
      have hq':=hq
      unfold Enum.ks at hset hq'
      have bA:=hBA.base
      have pA:=hBA.prot
      have ha:=add1 (i:=i) (by omega)
      simp[-List.getD_eq_getElem?_getD, -getElem?_pos,h5,g1,g3,x0,bb,pp,hx,hi,hset,hq',bA,pA,Enum.v,Nat.testBit]
      refine Out.loop (ak_4 p hf hg x hxm _ s2 sA r m st1.store.length D Dc hT hlen hBA hq _ (by simp[g3]) (by simp) (by simp) (by simp) (by simp)) ?_
      rintro e f2 st4 ⟨⟨rfl,rfl,q7,q8⟩,hk2⟩
      have q3:f2 3= .ptr r 0:=by simp[hk2,g3]
      have q5:f2 15= .int .i64 (i:Nat):=by simp[hk2,h5]
      have q6:f2 16= .ptr st1.store.length 0:=by simp[hk2]
      clear hk2
      have hdc:=declE hf hxm
      have e1:=aT_1 hf hg hxm
      have e3:dropsF p x.name=anyD p false x.variants:=al_5 hf hdc
      have e4:=af_6 hf hdc
      have k17:=hBA.slots hf hT x.name (by omega)
      have k19:=hBA.drops hf hT x.name (by omega)
      have k21:=hBA.copied hT x.name (by omega)
      have hsd:=O_5 p x.name
      rw[e1]at k17 hsd
      rw[e3]at k19
      rw[e4]at k21
      obtain⟨c,hc,ac⟩:∃c:Nat,c=maxD p x.variants+1∧intBin .add .i64 ((maxD p x.variants:Nat):Int) 1=some (.int .i64 (c:Int)):=⟨_,rfl,by have:=add1 (i:=maxD p x.variants) (by omega);simpa using this⟩
      rw[←hc]at k17
      clear hq hset hsA e1 e3 e4 hdc hc hsd
      generalize maxD p x.variants=a at *
      generalize anyD p false x.variants=b at *
      simp[-List.getD_eq_getElem?_getD, -getElem?_pos,q3,q5,q6,q7,q8,hq',bA,pA,k17,k19,k21,ac,ha,hBA,Nat.testBit]
      repeat' (first|refine a_0 ?_ ?_|refine Out.branch ?_ ?_|refine Ret.branch ?_ ?_)<;>(intro hb;(try(simp only[NB]at hb));simp[-List.getD_eq_getElem?_getD, -getElem?_pos,q3,q5,q6,q7,q8,hq',bA,pA,k17,k19,k21,ac,ha,hBA,Nat.testBit,hb])
      all_goals try refine Out.one ?_
      all_goals try refine Ret.one ?_
      all_goals try(simp[-List.getD_eq_getElem?_getD,q3,q5,q6,q7,q8,hq',bA,pA,k17,k19,k21,ac,ha,hBA,Nat.testBit, *];done)
      all_goals try simp[-List.getD_eq_getElem?_getD,q3,q5,q6,q7,q8,hq',bA,pA,k17,k19,k21,ac,ha,hBA,Nat.testBit]
      all_goals try(intros;omega)
     ·rintro f st1 hk ⟨h5,hB⟩
      have g1:f 1= .ptr 0 0:=by simp[hk,g1]
      clear hk
      have x0:=hB.x0
      have bb:=hB.base
      have pp:=hB.prot
      simp[-List.getD_eq_getElem?_getD, -getElem?_pos,h5,g1,x0,bb,pp,hB]
      repeat' (first|refine a_0 ?_ ?_|refine Out.branch ?_ ?_|refine Ret.branch ?_ ?_)<;>(intro hb;(try(simp only[NB]at hb));simp[-List.getD_eq_getElem?_getD, -getElem?_pos,h5,g1,x0,bb,pp,hB,hb])
      all_goals try refine Out.one ?_
      all_goals try refine Ret.one ?_
      all_goals try(simp[-List.getD_eq_getElem?_getD,h5,g1,x0,bb,pp,hB, *];done)
      all_goals try simp[-List.getD_eq_getElem?_getD,h5,g1,x0,bb,pp,hB]
      all_goals try(intros;omega)
     ·rintro e f st1 ⟨⟨rfl,hB⟩,hk⟩
      have g3:f 3= .ptr r 0:=by simp[hk,g3]
      clear hk
      obtain⟨i1,i2,i3⟩:=bc_0 p
      have k17:=hB.slots hf hT intS (by decide)
      have k19:=hB.drops hf hT intS (by decide)
      have k21:=hB.copied hT intS (by decide)
      rw[i1]at k17
      rw[i2]at k19
      rw[i3]at k21
      unfold intS at k17 k19 k21
      simp[-List.getD_eq_getElem?_getD, -getElem?_pos,g3,k17,k19,k21]
      exact Ret.one rfl
   ·simp[-List.getD_eq_getElem?_getD, -getElem?_pos,hs0.symm,hl0,hal,hx0,hgr,hnew,hx2]
    exact Ret.one rfl
 obtain⟨v,st',e,rfl⟩:=hh
 exact⟨st',e⟩
end Go.Proofs.YtghhphdkojjalaaGreatDoor
