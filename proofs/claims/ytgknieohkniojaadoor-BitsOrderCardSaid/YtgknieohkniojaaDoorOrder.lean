/- The parts of the functions: names for the places of their code. The law BitsOrder, walked. The law BitsOrder, walked: the other loops, the whole. BitsOrder: the row, the card. -/
import Derived.Test.YtgknieohkniojaaDoorSet
import Derived.Test.YtgknieohkniojaaDoorFwF
import Derived.Test.YtgknieohkniojaaDoorAll
import Derived.Test.YtgknieohkniojaaDoorCards
import Derived.Test.YtgknieohkniojaaDoorTie
import Derived.SevenTiedAt
set_option linter.unusedVariables false
set_option linter.unusedSimpArgs false
set_option linter.unnecessarySimpa false
set_option linter.all false
namespace Go.Proofs.YtgknieohkniojaaDoor
open Go.Abs
set_option maxRecDepth 1000000
set_option linter.unusedSimpArgs false
variable {rd : Option Nat} {f : Nat → V} {m : List Nat} {st : St}
noncomputable def c6_0 : Code := bodyOf Tryd.f6
theorem b6 : Tryd.f6.body = some c6_0 := rfl
theorem n6 : Tryd.f6.ntmps = 73 := rfl
theorem r6 : Tryd.f6.results = #[.cell 6 4] := rfl
theorem fn6 : tb.fn 6 = some Tryd.f6 := by rw [tb_eq]; exact Tryd.func6
theorem run6 {args : List V} {st : St} (ha : args.length ≤ 73) : (run tb).call 6 args st = leave tb [.cell 6 4] ((run tb).code none c6_0 (mk 73 (argF args) []) st) := call_run fn6 (tbmode 6) b6 n6 r6 ha
noncomputable def c6_1 : Code := kid c6_0 0
noncomputable def c6_2 : Code := kid c6_0 1
noncomputable def c6_3 : Code := kid c6_2 0
noncomputable def c6_4 : Code := kid c6_3 0
noncomputable def c6_5 : Code := kid c6_3 1
noncomputable def c6_6 : Code := kid c6_5 0
noncomputable def c6_7 : Code := kid c6_6 0
noncomputable def c6_8 : Code := kid c6_6 1
noncomputable def c6_9 : Code := kid c6_5 1
noncomputable def c6_10 : Code := kid c6_2 1
noncomputable def c6_11 : Code := kid c6_10 0
noncomputable def c6_12 : Code := kid c6_11 0
noncomputable def c6_13 : Code := kid c6_11 1
noncomputable def c6_14 : Code := kid c6_13 0
noncomputable def c6_15 : Code := kid c6_14 0
noncomputable def c6_16 : Code := kid c6_14 1
noncomputable def c6_17 : Code := kid c6_13 1
noncomputable def c6_18 : Code := kid c6_10 1
noncomputable def c6_19 : Code := kid c6_18 0
noncomputable def c6_20 : Code := kid c6_18 1
noncomputable def c6_21 : Code := kid c6_20 0
noncomputable def c6_22 : Code := kid c6_21 0
noncomputable def c6_23 : Code := kid c6_21 1
noncomputable def c6_24 : Code := kid c6_23 0
noncomputable def c6_25 : Code := kid c6_24 0
noncomputable def c6_26 : Code := kid c6_24 1
noncomputable def c6_27 : Code := kid c6_23 1
noncomputable def c6_28 : Code := kid c6_20 1
noncomputable def c6_29 : Code := kid c6_28 0
noncomputable def c6_30 : Code := kid c6_28 1
noncomputable def c6_31 : Code := kid c6_30 0
noncomputable def c6_32 : Code := kid c6_30 1
noncomputable def c6_33 : Code := kid c6_32 0
noncomputable def c6_34 : Code := kid c6_33 0
noncomputable def c6_35 : Code := kid c6_33 1
noncomputable def c6_36 : Code := kid c6_35 0
noncomputable def c6_37 : Code := kid c6_36 0
noncomputable def c6_38 : Code := kid c6_36 1
noncomputable def c6_39 : Code := kid c6_38 0
noncomputable def c6_40 : Code := kid c6_39 0
noncomputable def c6_41 : Code := kid c6_40 0
noncomputable def c6_42 : Code := kid c6_40 1
noncomputable def c6_43 : Code := kid c6_42 0
noncomputable def c6_44 : Code := kid c6_43 0
noncomputable def c6_45 : Code := kid c6_43 1
noncomputable def c6_46 : Code := kid c6_42 1
noncomputable def c6_47 : Code := kid c6_39 1
noncomputable def c6_48 : Code := kid c6_47 0
noncomputable def c6_49 : Code := kid c6_47 1
noncomputable def c6_50 : Code := kid c6_32 1
noncomputable def c6_51 : Code := kid c6_50 0
noncomputable def c6_52 : Code := kid c6_51 0
noncomputable def c6_53 : Code := kid c6_51 1
noncomputable def c6_54 : Code := kid c6_53 0
noncomputable def c6_55 : Code := kid c6_54 0
noncomputable def c6_56 : Code := kid c6_54 1
noncomputable def c6_57 : Code := kid c6_56 0
noncomputable def c6_58 : Code := kid c6_57 0
noncomputable def c6_59 : Code := kid c6_57 1
noncomputable def c6_60 : Code := kid c6_59 0
noncomputable def c6_61 : Code := kid c6_59 1
noncomputable def c6_62 : Code := kid c6_50 1
noncomputable def c6_63 : Code := kid c6_62 0
noncomputable def c6_64 : Code := kid c6_62 1
noncomputable def c6_65 : Code := kid c6_64 0
noncomputable def c6_66 : Code := kid c6_65 0
noncomputable def c6_67 : Code := kid c6_65 1
noncomputable def c6_68 : Code := kid c6_67 0
noncomputable def c6_69 : Code := kid c6_68 0
noncomputable def c6_70 : Code := kid c6_69 0
noncomputable def c6_71 : Code := kid c6_70 0
noncomputable def c6_72 : Code := kid c6_70 1
noncomputable def c6_73 : Code := kid c6_72 0
noncomputable def c6_74 : Code := kid c6_72 1
noncomputable def c6_75 : Code := kid c6_69 1
noncomputable def c6_76 : Code := kid c6_75 0
noncomputable def c6_77 : Code := kid c6_76 0
noncomputable def c6_78 : Code := kid c6_77 0
noncomputable def c6_79 : Code := kid c6_77 1
noncomputable def c6_80 : Code := kid c6_79 0
noncomputable def c6_81 : Code := kid c6_79 1
noncomputable def c6_82 : Code := kid c6_75 1
noncomputable def c6_83 : Code := kid c6_64 1
noncomputable def c6_84 : Code := kid c6_83 0
noncomputable def c6_85 : Code := kid c6_83 1
noncomputable def o6_1 : Array Oper := opsOf (kid (bodyOf Tryd.f6) 0)
noncomputable def o6_4 : Array Oper := opsOf (kid (kid (kid (bodyOf Tryd.f6) 1) 0) 0)
noncomputable def o6_7 : Array Oper := opsOf (kid (kid (kid (kid (kid (bodyOf Tryd.f6) 1) 0) 1) 0) 0)
noncomputable def o6_12 : Array Oper := opsOf (kid (kid (kid (kid (bodyOf Tryd.f6) 1) 1) 0) 0)
noncomputable def o6_15 : Array Oper := opsOf (kid (kid (kid (kid (kid (kid (bodyOf Tryd.f6) 1) 1) 0) 1) 0) 0)
noncomputable def o6_19 : Array Oper := opsOf (kid (kid (kid (kid (bodyOf Tryd.f6) 1) 1) 1) 0)
noncomputable def o6_22 : Array Oper := opsOf (kid (kid (kid (kid (kid (kid (bodyOf Tryd.f6) 1) 1) 1) 1) 0) 0)
noncomputable def o6_25 : Array Oper := opsOf (kid (kid (kid (kid (kid (kid (kid (kid (bodyOf Tryd.f6) 1) 1) 1) 1) 0) 1) 0) 0)
noncomputable def o6_29 : Array Oper := opsOf (kid (kid (kid (kid (kid (kid (bodyOf Tryd.f6) 1) 1) 1) 1) 1) 0)
noncomputable def o6_31 : Array Oper := opsOf (kid (kid (kid (kid (kid (kid (kid (bodyOf Tryd.f6) 1) 1) 1) 1) 1) 1) 0)
noncomputable def o6_34 : Array Oper := opsOf (kid (kid (kid (kid (kid (kid (kid (kid (kid (bodyOf Tryd.f6) 1) 1) 1) 1) 1) 1) 1) 0) 0)
noncomputable def o6_37 : Array Oper := opsOf (kid (kid (kid (kid (kid (kid (kid (kid (kid (kid (kid (bodyOf Tryd.f6) 1) 1) 1) 1) 1) 1) 1) 0) 1) 0) 0)
noncomputable def o6_41 : Array Oper := opsOf (kid (kid (kid (kid (kid (kid (kid (kid (kid (kid (kid (kid (kid (kid (bodyOf Tryd.f6) 1) 1) 1) 1) 1) 1) 1) 0) 1) 0) 1) 0) 0) 0)
noncomputable def o6_44 : Array Oper := opsOf (kid (kid (kid (kid (kid (kid (kid (kid (kid (kid (kid (kid (kid (kid (kid (kid (bodyOf Tryd.f6) 1) 1) 1) 1) 1) 1) 1) 0) 1) 0) 1) 0) 0) 1) 0) 0)
noncomputable def o6_48 : Array Oper := opsOf (kid (kid (kid (kid (kid (kid (kid (kid (kid (kid (kid (kid (kid (kid (bodyOf Tryd.f6) 1) 1) 1) 1) 1) 1) 1) 0) 1) 0) 1) 0) 1) 0)
noncomputable def o6_49 : Array Oper := opsOf (kid (kid (kid (kid (kid (kid (kid (kid (kid (kid (kid (kid (kid (kid (bodyOf Tryd.f6) 1) 1) 1) 1) 1) 1) 1) 0) 1) 0) 1) 0) 1) 1)
noncomputable def o6_52 : Array Oper := opsOf (kid (kid (kid (kid (kid (kid (kid (kid (kid (kid (bodyOf Tryd.f6) 1) 1) 1) 1) 1) 1) 1) 1) 0) 0)
noncomputable def o6_55 : Array Oper := opsOf (kid (kid (kid (kid (kid (kid (kid (kid (kid (kid (kid (kid (bodyOf Tryd.f6) 1) 1) 1) 1) 1) 1) 1) 1) 0) 1) 0) 0)
noncomputable def o6_58 : Array Oper := opsOf (kid (kid (kid (kid (kid (kid (kid (kid (kid (kid (kid (kid (kid (kid (bodyOf Tryd.f6) 1) 1) 1) 1) 1) 1) 1) 1) 0) 1) 0) 1) 0) 0)
noncomputable def o6_63 : Array Oper := opsOf (kid (kid (kid (kid (kid (kid (kid (kid (kid (kid (bodyOf Tryd.f6) 1) 1) 1) 1) 1) 1) 1) 1) 1) 0)
noncomputable def o6_66 : Array Oper := opsOf (kid (kid (kid (kid (kid (kid (kid (kid (kid (kid (kid (kid (bodyOf Tryd.f6) 1) 1) 1) 1) 1) 1) 1) 1) 1) 1) 0) 0)
noncomputable def o6_71 : Array Oper := opsOf (kid (kid (kid (kid (kid (kid (kid (kid (kid (kid (kid (kid (kid (kid (kid (kid (bodyOf Tryd.f6) 1) 1) 1) 1) 1) 1) 1) 1) 1) 1) 0) 1) 0) 0) 0) 0)
noncomputable def o6_78 : Array Oper := opsOf (kid (kid (kid (kid (kid (kid (kid (kid (kid (kid (kid (kid (kid (kid (kid (kid (kid (kid (bodyOf Tryd.f6) 1) 1) 1) 1) 1) 1) 1) 1) 1) 1) 0) 1) 0) 0) 1) 0) 0) 0)
noncomputable def o6_80 : Array Oper := opsOf (kid (kid (kid (kid (kid (kid (kid (kid (kid (kid (kid (kid (kid (kid (kid (kid (kid (kid (kid (bodyOf Tryd.f6) 1) 1) 1) 1) 1) 1) 1) 1) 1) 1) 0) 1) 0) 0) 1) 0) 0) 1) 0)
noncomputable def o6_82 : Array Oper := opsOf (kid (kid (kid (kid (kid (kid (kid (kid (kid (kid (kid (kid (kid (kid (kid (kid (bodyOf Tryd.f6) 1) 1) 1) 1) 1) 1) 1) 1) 1) 1) 0) 1) 0) 0) 1) 1)
noncomputable def o6_84 : Array Oper := opsOf (kid (kid (kid (kid (kid (kid (kid (kid (kid (kid (kid (kid (bodyOf Tryd.f6) 1) 1) 1) 1) 1) 1) 1) 1) 1) 1) 1) 0)
theorem e6_0 : c6_0 = .seq c6_1 c6_2 := rfl
theorem e6_1 : c6_1 = .region 0 o6_1 false := rfl
theorem e6_2 : c6_2 = .seq c6_3 c6_10 := rfl
theorem e6_3 : c6_3 = .seq c6_4 c6_5 := rfl
theorem e6_4 : c6_4 = .region 1 o6_4 false := rfl
theorem e6_5 : c6_5 = .cond (.tmp 15) c6_6 c6_9 := rfl
theorem e6_6 : c6_6 = .seq c6_7 c6_8 := rfl
theorem e6_7 : c6_7 = .region 2 o6_7 false := rfl
theorem e6_8 : c6_8 = .ret := rfl
theorem e6_9 : c6_9 = .skip := rfl
theorem e6_10 : c6_10 = .seq c6_11 c6_18 := rfl
theorem e6_11 : c6_11 = .seq c6_12 c6_13 := rfl
theorem e6_12 : c6_12 = .region 3 o6_12 false := rfl
theorem e6_13 : c6_13 = .cond (.tmp 22) c6_14 c6_17 := rfl
theorem e6_14 : c6_14 = .seq c6_15 c6_16 := rfl
theorem e6_15 : c6_15 = .region 4 o6_15 false := rfl
theorem e6_16 : c6_16 = .ret := rfl
theorem e6_17 : c6_17 = .skip := rfl
theorem e6_18 : c6_18 = .seq c6_19 c6_20 := rfl
theorem e6_19 : c6_19 = .region 5 o6_19 false := rfl
theorem e6_20 : c6_20 = .seq c6_21 c6_28 := rfl
theorem e6_21 : c6_21 = .seq c6_22 c6_23 := rfl
theorem e6_22 : c6_22 = .region 6 o6_22 false := rfl
theorem e6_23 : c6_23 = .cond (.tmp 27) c6_24 c6_27 := rfl
theorem e6_24 : c6_24 = .seq c6_25 c6_26 := rfl
theorem e6_25 : c6_25 = .region 7 o6_25 false := rfl
theorem e6_26 : c6_26 = .ret := rfl
theorem e6_27 : c6_27 = .skip := rfl
theorem e6_28 : c6_28 = .seq c6_29 c6_30 := rfl
theorem e6_29 : c6_29 = .region 8 o6_29 false := rfl
theorem e6_30 : c6_30 = .seq c6_31 c6_32 := rfl
theorem e6_31 : c6_31 = .region 9 o6_31 false := rfl
theorem e6_32 : c6_32 = .seq c6_33 c6_50 := rfl
theorem e6_33 : c6_33 = .seq c6_34 c6_35 := rfl
theorem e6_34 : c6_34 = .region 10 o6_34 false := rfl
theorem e6_35 : c6_35 = .block 0 c6_36 := rfl
theorem e6_36 : c6_36 = .rangeFunc (.tmp 29) #[30] c6_37 c6_38 := rfl
theorem e6_37 : c6_37 = .region 11 o6_37 false := rfl
theorem e6_38 : c6_38 = .block 1 c6_39 := rfl
theorem e6_39 : c6_39 = .seq c6_40 c6_47 := rfl
theorem e6_40 : c6_40 = .seq c6_41 c6_42 := rfl
theorem e6_41 : c6_41 = .region 12 o6_41 false := rfl
theorem e6_42 : c6_42 = .cond (.tmp 45) c6_43 c6_46 := rfl
theorem e6_43 : c6_43 = .seq c6_44 c6_45 := rfl
theorem e6_44 : c6_44 = .region 13 o6_44 false := rfl
theorem e6_45 : c6_45 = .ret := rfl
theorem e6_46 : c6_46 = .skip := rfl
theorem e6_47 : c6_47 = .seq c6_48 c6_49 := rfl
theorem e6_48 : c6_48 = .region 14 o6_48 false := rfl
theorem e6_49 : c6_49 = .region 15 o6_49 false := rfl
theorem e6_50 : c6_50 = .seq c6_51 c6_62 := rfl
theorem e6_51 : c6_51 = .seq c6_52 c6_53 := rfl
theorem e6_52 : c6_52 = .region 16 o6_52 false := rfl
theorem e6_53 : c6_53 = .block 2 c6_54 := rfl
theorem e6_54 : c6_54 = .rangeFunc (.tmp 50) #[51] c6_55 c6_56 := rfl
theorem e6_55 : c6_55 = .region 17 o6_55 false := rfl
theorem e6_56 : c6_56 = .block 3 c6_57 := rfl
theorem e6_57 : c6_57 = .seq c6_58 c6_59 := rfl
theorem e6_58 : c6_58 = .region 18 o6_58 false := rfl
theorem e6_59 : c6_59 = .cond (.tmp 54) c6_60 c6_61 := rfl
theorem e6_60 : c6_60 = .exit 2 := rfl
theorem e6_61 : c6_61 = .skip := rfl
theorem e6_62 : c6_62 = .seq c6_63 c6_64 := rfl
theorem e6_63 : c6_63 = .region 19 o6_63 false := rfl
theorem e6_64 : c6_64 = .seq c6_65 c6_83 := rfl
theorem e6_65 : c6_65 = .seq c6_66 c6_67 := rfl
theorem e6_66 : c6_66 = .region 20 o6_66 false := rfl
theorem e6_67 : c6_67 = .block 4 c6_68 := rfl
theorem e6_68 : c6_68 = .loop c6_69 := rfl
theorem e6_69 : c6_69 = .seq c6_70 c6_75 := rfl
theorem e6_70 : c6_70 = .seq c6_71 c6_72 := rfl
theorem e6_71 : c6_71 = .region 21 o6_71 false := rfl
theorem e6_72 : c6_72 = .cond (.tmp 56) c6_73 c6_74 := rfl
theorem e6_73 : c6_73 = .skip := rfl
theorem e6_74 : c6_74 = .exit 4 := rfl
theorem e6_75 : c6_75 = .seq c6_76 c6_82 := rfl
theorem e6_76 : c6_76 = .block 5 c6_77 := rfl
theorem e6_77 : c6_77 = .seq c6_78 c6_79 := rfl
theorem e6_78 : c6_78 = .region 23 o6_78 false := rfl
theorem e6_79 : c6_79 = .cond (.tmp 61) c6_80 c6_81 := rfl
theorem e6_80 : c6_80 = .region 24 o6_80 false := rfl
theorem e6_81 : c6_81 = .skip := rfl
theorem e6_82 : c6_82 = .region 22 o6_82 false := rfl
theorem e6_83 : c6_83 = .seq c6_84 c6_85 := rfl
theorem e6_84 : c6_84 = .region 25 o6_84 true := rfl
theorem e6_85 : c6_85 = .ret := rfl
theorem g6_0 : (run tb).code rd c6_0 (mk 73 f m) st = andThen ((run tb).code rd c6_1 (mk 73 f m) st) (fun fr st => (run tb).code rd c6_2 fr st) := gx_seq e6_0
noncomputable def l6_1 : { l : List Step // lightOf o6_1 = l } := by refine ⟨?_, ?h⟩; case h => simp only [lightOf, o6_1, opsOf, kid, bodyOf, Tryd.f6, Option.getD_some, List.map, stepOf, Option.map, List.getElem?_toArray, List.getElem?_cons_succ, List.getElem?_cons_zero, Option.bind_some]; rfl
theorem g6_1 : (run tb).code rd c6_1 (mk 73 f m) st = regB (evSteps tb (run tb) l6_1.1 (mk 73 f m) st) := gx_region e6_1 l6_1.2
theorem g6_2 : (run tb).code rd c6_2 (mk 73 f m) st = andThen ((run tb).code rd c6_3 (mk 73 f m) st) (fun fr st => (run tb).code rd c6_10 fr st) := gx_seq e6_2
theorem g6_3 : (run tb).code rd c6_3 (mk 73 f m) st = andThen ((run tb).code rd c6_4 (mk 73 f m) st) (fun fr st => (run tb).code rd c6_5 fr st) := gx_seq e6_3
noncomputable def l6_4 : { l : List Step // lightOf o6_4 = l } := by refine ⟨?_, ?h⟩; case h => simp only [lightOf, o6_4, opsOf, kid, bodyOf, Tryd.f6, Option.getD_some, List.map, stepOf, Option.map, List.getElem?_toArray, List.getElem?_cons_succ, List.getElem?_cons_zero, Option.bind_some]; rfl
theorem g6_4 : (run tb).code rd c6_4 (mk 73 f m) st = regB (evSteps tb (run tb) l6_4.1 (mk 73 f m) st) := gx_region e6_4 l6_4.2
theorem g6_5 : (run tb).code rd c6_5 (mk 73 f m) st = branch (f 15) (fun x => (run tb).code rd (sel x c6_6 c6_9) (mk 73 f m) st) := gx_cond e6_5 (by decide)
theorem g6_6 : (run tb).code rd c6_6 (mk 73 f m) st = andThen ((run tb).code rd c6_7 (mk 73 f m) st) (fun fr st => (run tb).code rd c6_8 fr st) := gx_seq e6_6
noncomputable def l6_7 : { l : List Step // lightOf o6_7 = l } := by refine ⟨?_, ?h⟩; case h => simp only [lightOf, o6_7, opsOf, kid, bodyOf, Tryd.f6, Option.getD_some, List.map, stepOf, Option.map, List.getElem?_toArray, List.getElem?_cons_succ, List.getElem?_cons_zero, Option.bind_some]; rfl
theorem g6_7 : (run tb).code rd c6_7 (mk 73 f m) st = regB (evSteps tb (run tb) l6_7.1 (mk 73 f m) st) := gx_region e6_7 l6_7.2
theorem g6_8 : (run tb).code rd c6_8 (mk 73 f m) st = some (.ret, mk 73 f m, st) := gx_ret e6_8
theorem g6_9 : (run tb).code rd c6_9 (mk 73 f m) st = some (.normal, mk 73 f m, st) := gx_skip e6_9
theorem g6_10 : (run tb).code rd c6_10 (mk 73 f m) st = andThen ((run tb).code rd c6_11 (mk 73 f m) st) (fun fr st => (run tb).code rd c6_18 fr st) := gx_seq e6_10
theorem g6_11 : (run tb).code rd c6_11 (mk 73 f m) st = andThen ((run tb).code rd c6_12 (mk 73 f m) st) (fun fr st => (run tb).code rd c6_13 fr st) := gx_seq e6_11
noncomputable def l6_12 : { l : List Step // lightOf o6_12 = l } := by refine ⟨?_, ?h⟩; case h => simp only [lightOf, o6_12, opsOf, kid, bodyOf, Tryd.f6, Option.getD_some, List.map, stepOf, Option.map, List.getElem?_toArray, List.getElem?_cons_succ, List.getElem?_cons_zero, Option.bind_some]; rfl
theorem g6_12 : (run tb).code rd c6_12 (mk 73 f m) st = regB (evSteps tb (run tb) l6_12.1 (mk 73 f m) st) := gx_region e6_12 l6_12.2
theorem g6_13 : (run tb).code rd c6_13 (mk 73 f m) st = branch (f 22) (fun x => (run tb).code rd (sel x c6_14 c6_17) (mk 73 f m) st) := gx_cond e6_13 (by decide)
theorem g6_14 : (run tb).code rd c6_14 (mk 73 f m) st = andThen ((run tb).code rd c6_15 (mk 73 f m) st) (fun fr st => (run tb).code rd c6_16 fr st) := gx_seq e6_14
noncomputable def l6_15 : { l : List Step // lightOf o6_15 = l } := by refine ⟨?_, ?h⟩; case h => simp only [lightOf, o6_15, opsOf, kid, bodyOf, Tryd.f6, Option.getD_some, List.map, stepOf, Option.map, List.getElem?_toArray, List.getElem?_cons_succ, List.getElem?_cons_zero, Option.bind_some]; rfl
theorem g6_15 : (run tb).code rd c6_15 (mk 73 f m) st = regB (evSteps tb (run tb) l6_15.1 (mk 73 f m) st) := gx_region e6_15 l6_15.2
theorem g6_16 : (run tb).code rd c6_16 (mk 73 f m) st = some (.ret, mk 73 f m, st) := gx_ret e6_16
theorem g6_17 : (run tb).code rd c6_17 (mk 73 f m) st = some (.normal, mk 73 f m, st) := gx_skip e6_17
theorem g6_18 : (run tb).code rd c6_18 (mk 73 f m) st = andThen ((run tb).code rd c6_19 (mk 73 f m) st) (fun fr st => (run tb).code rd c6_20 fr st) := gx_seq e6_18
noncomputable def l6_19 : { l : List Step // lightOf o6_19 = l } := by refine ⟨?_, ?h⟩; case h => simp only [lightOf, o6_19, opsOf, kid, bodyOf, Tryd.f6, Option.getD_some, List.map, stepOf, Option.map, List.getElem?_toArray, List.getElem?_cons_succ, List.getElem?_cons_zero, Option.bind_some]; rfl
theorem g6_19 : (run tb).code rd c6_19 (mk 73 f m) st = regB (evSteps tb (run tb) l6_19.1 (mk 73 f m) st) := gx_region e6_19 l6_19.2
theorem g6_20 : (run tb).code rd c6_20 (mk 73 f m) st = andThen ((run tb).code rd c6_21 (mk 73 f m) st) (fun fr st => (run tb).code rd c6_28 fr st) := gx_seq e6_20
theorem g6_21 : (run tb).code rd c6_21 (mk 73 f m) st = andThen ((run tb).code rd c6_22 (mk 73 f m) st) (fun fr st => (run tb).code rd c6_23 fr st) := gx_seq e6_21
noncomputable def l6_22 : { l : List Step // lightOf o6_22 = l } := by refine ⟨?_, ?h⟩; case h => simp only [lightOf, o6_22, opsOf, kid, bodyOf, Tryd.f6, Option.getD_some, List.map, stepOf, Option.map, List.getElem?_toArray, List.getElem?_cons_succ, List.getElem?_cons_zero, Option.bind_some]; rfl
theorem g6_22 : (run tb).code rd c6_22 (mk 73 f m) st = regB (evSteps tb (run tb) l6_22.1 (mk 73 f m) st) := gx_region e6_22 l6_22.2
theorem g6_23 : (run tb).code rd c6_23 (mk 73 f m) st = branch (f 27) (fun x => (run tb).code rd (sel x c6_24 c6_27) (mk 73 f m) st) := gx_cond e6_23 (by decide)
theorem g6_24 : (run tb).code rd c6_24 (mk 73 f m) st = andThen ((run tb).code rd c6_25 (mk 73 f m) st) (fun fr st => (run tb).code rd c6_26 fr st) := gx_seq e6_24
noncomputable def l6_25 : { l : List Step // lightOf o6_25 = l } := by refine ⟨?_, ?h⟩; case h => simp only [lightOf, o6_25, opsOf, kid, bodyOf, Tryd.f6, Option.getD_some, List.map, stepOf, Option.map, List.getElem?_toArray, List.getElem?_cons_succ, List.getElem?_cons_zero, Option.bind_some]; rfl
theorem g6_25 : (run tb).code rd c6_25 (mk 73 f m) st = regB (evSteps tb (run tb) l6_25.1 (mk 73 f m) st) := gx_region e6_25 l6_25.2
theorem g6_26 : (run tb).code rd c6_26 (mk 73 f m) st = some (.ret, mk 73 f m, st) := gx_ret e6_26
theorem g6_27 : (run tb).code rd c6_27 (mk 73 f m) st = some (.normal, mk 73 f m, st) := gx_skip e6_27
theorem g6_28 : (run tb).code rd c6_28 (mk 73 f m) st = andThen ((run tb).code rd c6_29 (mk 73 f m) st) (fun fr st => (run tb).code rd c6_30 fr st) := gx_seq e6_28
noncomputable def l6_29 : { l : List Step // lightOf o6_29 = l } := by refine ⟨?_, ?h⟩; case h => simp only [lightOf, o6_29, opsOf, kid, bodyOf, Tryd.f6, Option.getD_some, List.map, stepOf, Option.map, List.getElem?_toArray, List.getElem?_cons_succ, List.getElem?_cons_zero, Option.bind_some]; rfl
theorem g6_29 : (run tb).code rd c6_29 (mk 73 f m) st = regB (evSteps tb (run tb) l6_29.1 (mk 73 f m) st) := gx_region e6_29 l6_29.2
theorem g6_30 : (run tb).code rd c6_30 (mk 73 f m) st = andThen ((run tb).code rd c6_31 (mk 73 f m) st) (fun fr st => (run tb).code rd c6_32 fr st) := gx_seq e6_30
noncomputable def l6_31 : { l : List Step // lightOf o6_31 = l } := by refine ⟨?_, ?h⟩; case h => simp only [lightOf, o6_31, opsOf, kid, bodyOf, Tryd.f6, Option.getD_some, List.map, stepOf, Option.map, List.getElem?_toArray, List.getElem?_cons_succ, List.getElem?_cons_zero, Option.bind_some]; rfl
theorem g6_31 : (run tb).code rd c6_31 (mk 73 f m) st = regB (evSteps tb (run tb) l6_31.1 (mk 73 f m) st) := gx_region e6_31 l6_31.2
theorem g6_32 : (run tb).code rd c6_32 (mk 73 f m) st = andThen ((run tb).code rd c6_33 (mk 73 f m) st) (fun fr st => (run tb).code rd c6_50 fr st) := gx_seq e6_32
theorem g6_33 : (run tb).code rd c6_33 (mk 73 f m) st = andThen ((run tb).code rd c6_34 (mk 73 f m) st) (fun fr st => (run tb).code rd c6_35 fr st) := gx_seq e6_33
noncomputable def l6_34 : { l : List Step // lightOf o6_34 = l } := by refine ⟨?_, ?h⟩; case h => simp only [lightOf, o6_34, opsOf, kid, bodyOf, Tryd.f6, Option.getD_some, List.map, stepOf, Option.map, List.getElem?_toArray, List.getElem?_cons_succ, List.getElem?_cons_zero, Option.bind_some]; rfl
theorem g6_34 : (run tb).code rd c6_34 (mk 73 f m) st = regB (evSteps tb (run tb) l6_34.1 (mk 73 f m) st) := gx_region e6_34 l6_34.2
theorem g6_35 : (run tb).code rd c6_35 (mk 73 f m) st = closeB 0 ((run tb).code rd c6_36 (mk 73 f m) st) := gx_block e6_35
theorem g6_36 : (run tb).code none c6_36 (mk 73 f m) st = rangeB tb (f 29) 73 f m #[30] c6_37 c6_38 st := gx_range e6_36 (by decide)
noncomputable def l6_37 : { l : List Step // lightOf o6_37 = l } := by refine ⟨?_, ?h⟩; case h => simp only [lightOf, o6_37, opsOf, kid, bodyOf, Tryd.f6, Option.getD_some, List.map, stepOf, Option.map, List.getElem?_toArray, List.getElem?_cons_succ, List.getElem?_cons_zero, Option.bind_some]; rfl
theorem g6_37 : (run tb).code rd c6_37 (mk 73 f m) st = regB (evSteps tb (run tb) l6_37.1 (mk 73 f m) st) := gx_region e6_37 l6_37.2
theorem g6_38 : (run tb).code rd c6_38 (mk 73 f m) st = closeB 1 ((run tb).code rd c6_39 (mk 73 f m) st) := gx_block e6_38
theorem g6_39 : (run tb).code rd c6_39 (mk 73 f m) st = andThen ((run tb).code rd c6_40 (mk 73 f m) st) (fun fr st => (run tb).code rd c6_47 fr st) := gx_seq e6_39
theorem g6_40 : (run tb).code rd c6_40 (mk 73 f m) st = andThen ((run tb).code rd c6_41 (mk 73 f m) st) (fun fr st => (run tb).code rd c6_42 fr st) := gx_seq e6_40
noncomputable def l6_41 : { l : List Step // lightOf o6_41 = l } := by refine ⟨?_, ?h⟩; case h => simp only [lightOf, o6_41, opsOf, kid, bodyOf, Tryd.f6, Option.getD_some, List.map, stepOf, Option.map, List.getElem?_toArray, List.getElem?_cons_succ, List.getElem?_cons_zero, Option.bind_some]; rfl
theorem g6_41 : (run tb).code rd c6_41 (mk 73 f m) st = regB (evSteps tb (run tb) l6_41.1 (mk 73 f m) st) := gx_region e6_41 l6_41.2
theorem g6_42 : (run tb).code rd c6_42 (mk 73 f m) st = branch (f 45) (fun x => (run tb).code rd (sel x c6_43 c6_46) (mk 73 f m) st) := gx_cond e6_42 (by decide)
theorem g6_43 : (run tb).code rd c6_43 (mk 73 f m) st = andThen ((run tb).code rd c6_44 (mk 73 f m) st) (fun fr st => (run tb).code rd c6_45 fr st) := gx_seq e6_43
noncomputable def l6_44 : { l : List Step // lightOf o6_44 = l } := by refine ⟨?_, ?h⟩; case h => simp only [lightOf, o6_44, opsOf, kid, bodyOf, Tryd.f6, Option.getD_some, List.map, stepOf, Option.map, List.getElem?_toArray, List.getElem?_cons_succ, List.getElem?_cons_zero, Option.bind_some]; rfl
theorem g6_44 : (run tb).code rd c6_44 (mk 73 f m) st = regB (evSteps tb (run tb) l6_44.1 (mk 73 f m) st) := gx_region e6_44 l6_44.2
theorem g6_45 : (run tb).code rd c6_45 (mk 73 f m) st = some (.ret, mk 73 f m, st) := gx_ret e6_45
theorem g6_46 : (run tb).code rd c6_46 (mk 73 f m) st = some (.normal, mk 73 f m, st) := gx_skip e6_46
theorem g6_47 : (run tb).code rd c6_47 (mk 73 f m) st = andThen ((run tb).code rd c6_48 (mk 73 f m) st) (fun fr st => (run tb).code rd c6_49 fr st) := gx_seq e6_47
noncomputable def l6_48 : { l : List Step // lightOf o6_48 = l } := by refine ⟨?_, ?h⟩; case h => simp only [lightOf, o6_48, opsOf, kid, bodyOf, Tryd.f6, Option.getD_some, List.map, stepOf, Option.map, List.getElem?_toArray, List.getElem?_cons_succ, List.getElem?_cons_zero, Option.bind_some]; rfl
theorem g6_48 : (run tb).code rd c6_48 (mk 73 f m) st = regB (evSteps tb (run tb) l6_48.1 (mk 73 f m) st) := gx_region e6_48 l6_48.2
noncomputable def l6_49 : { l : List Step // lightOf o6_49 = l } := by refine ⟨?_, ?h⟩; case h => simp only [lightOf, o6_49, opsOf, kid, bodyOf, Tryd.f6, Option.getD_some, List.map, stepOf, Option.map, List.getElem?_toArray, List.getElem?_cons_succ, List.getElem?_cons_zero, Option.bind_some]; rfl
theorem g6_49 : (run tb).code rd c6_49 (mk 73 f m) st = regB (evSteps tb (run tb) l6_49.1 (mk 73 f m) st) := gx_region e6_49 l6_49.2
theorem g6_50 : (run tb).code rd c6_50 (mk 73 f m) st = andThen ((run tb).code rd c6_51 (mk 73 f m) st) (fun fr st => (run tb).code rd c6_62 fr st) := gx_seq e6_50
theorem g6_51 : (run tb).code rd c6_51 (mk 73 f m) st = andThen ((run tb).code rd c6_52 (mk 73 f m) st) (fun fr st => (run tb).code rd c6_53 fr st) := gx_seq e6_51
noncomputable def l6_52 : { l : List Step // lightOf o6_52 = l } := by refine ⟨?_, ?h⟩; case h => simp only [lightOf, o6_52, opsOf, kid, bodyOf, Tryd.f6, Option.getD_some, List.map, stepOf, Option.map, List.getElem?_toArray, List.getElem?_cons_succ, List.getElem?_cons_zero, Option.bind_some]; rfl
theorem g6_52 : (run tb).code rd c6_52 (mk 73 f m) st = regB (evSteps tb (run tb) l6_52.1 (mk 73 f m) st) := gx_region e6_52 l6_52.2
theorem g6_53 : (run tb).code rd c6_53 (mk 73 f m) st = closeB 2 ((run tb).code rd c6_54 (mk 73 f m) st) := gx_block e6_53
theorem g6_54 : (run tb).code none c6_54 (mk 73 f m) st = rangeB tb (f 50) 73 f m #[51] c6_55 c6_56 st := gx_range e6_54 (by decide)
noncomputable def l6_55 : { l : List Step // lightOf o6_55 = l } := by refine ⟨?_, ?h⟩; case h => simp only [lightOf, o6_55, opsOf, kid, bodyOf, Tryd.f6, Option.getD_some, List.map, stepOf, Option.map, List.getElem?_toArray, List.getElem?_cons_succ, List.getElem?_cons_zero, Option.bind_some]; rfl
theorem g6_55 : (run tb).code rd c6_55 (mk 73 f m) st = regB (evSteps tb (run tb) l6_55.1 (mk 73 f m) st) := gx_region e6_55 l6_55.2
theorem g6_56 : (run tb).code rd c6_56 (mk 73 f m) st = closeB 3 ((run tb).code rd c6_57 (mk 73 f m) st) := gx_block e6_56
theorem g6_57 : (run tb).code rd c6_57 (mk 73 f m) st = andThen ((run tb).code rd c6_58 (mk 73 f m) st) (fun fr st => (run tb).code rd c6_59 fr st) := gx_seq e6_57
noncomputable def l6_58 : { l : List Step // lightOf o6_58 = l } := by refine ⟨?_, ?h⟩; case h => simp only [lightOf, o6_58, opsOf, kid, bodyOf, Tryd.f6, Option.getD_some, List.map, stepOf, Option.map, List.getElem?_toArray, List.getElem?_cons_succ, List.getElem?_cons_zero, Option.bind_some]; rfl
theorem g6_58 : (run tb).code rd c6_58 (mk 73 f m) st = regB (evSteps tb (run tb) l6_58.1 (mk 73 f m) st) := gx_region e6_58 l6_58.2
theorem g6_59 : (run tb).code rd c6_59 (mk 73 f m) st = branch (f 54) (fun x => (run tb).code rd (sel x c6_60 c6_61) (mk 73 f m) st) := gx_cond e6_59 (by decide)
theorem g6_60 : (run tb).code rd c6_60 (mk 73 f m) st = some (.exit 2, mk 73 f m, st) := gx_exit e6_60
theorem g6_61 : (run tb).code rd c6_61 (mk 73 f m) st = some (.normal, mk 73 f m, st) := gx_skip e6_61
theorem g6_62 : (run tb).code rd c6_62 (mk 73 f m) st = andThen ((run tb).code rd c6_63 (mk 73 f m) st) (fun fr st => (run tb).code rd c6_64 fr st) := gx_seq e6_62
noncomputable def l6_63 : { l : List Step // lightOf o6_63 = l } := by refine ⟨?_, ?h⟩; case h => simp only [lightOf, o6_63, opsOf, kid, bodyOf, Tryd.f6, Option.getD_some, List.map, stepOf, Option.map, List.getElem?_toArray, List.getElem?_cons_succ, List.getElem?_cons_zero, Option.bind_some]; rfl
theorem g6_63 : (run tb).code rd c6_63 (mk 73 f m) st = regB (evSteps tb (run tb) l6_63.1 (mk 73 f m) st) := gx_region e6_63 l6_63.2
theorem g6_64 : (run tb).code rd c6_64 (mk 73 f m) st = andThen ((run tb).code rd c6_65 (mk 73 f m) st) (fun fr st => (run tb).code rd c6_83 fr st) := gx_seq e6_64
theorem g6_65 : (run tb).code rd c6_65 (mk 73 f m) st = andThen ((run tb).code rd c6_66 (mk 73 f m) st) (fun fr st => (run tb).code rd c6_67 fr st) := gx_seq e6_65
noncomputable def l6_66 : { l : List Step // lightOf o6_66 = l } := by refine ⟨?_, ?h⟩; case h => simp only [lightOf, o6_66, opsOf, kid, bodyOf, Tryd.f6, Option.getD_some, List.map, stepOf, Option.map, List.getElem?_toArray, List.getElem?_cons_succ, List.getElem?_cons_zero, Option.bind_some]; rfl
theorem g6_66 : (run tb).code rd c6_66 (mk 73 f m) st = regB (evSteps tb (run tb) l6_66.1 (mk 73 f m) st) := gx_region e6_66 l6_66.2
theorem g6_67 : (run tb).code rd c6_67 (mk 73 f m) st = closeB 4 ((run tb).code rd c6_68 (mk 73 f m) st) := gx_block e6_67
theorem g6_69 : (run tb).code rd c6_69 (mk 73 f m) st = andThen ((run tb).code rd c6_70 (mk 73 f m) st) (fun fr st => (run tb).code rd c6_75 fr st) := gx_seq e6_69
theorem g6_70 : (run tb).code rd c6_70 (mk 73 f m) st = andThen ((run tb).code rd c6_71 (mk 73 f m) st) (fun fr st => (run tb).code rd c6_72 fr st) := gx_seq e6_70
noncomputable def l6_71 : { l : List Step // lightOf o6_71 = l } := by refine ⟨?_, ?h⟩; case h => simp only [lightOf, o6_71, opsOf, kid, bodyOf, Tryd.f6, Option.getD_some, List.map, stepOf, Option.map, List.getElem?_toArray, List.getElem?_cons_succ, List.getElem?_cons_zero, Option.bind_some]; rfl
theorem g6_71 : (run tb).code rd c6_71 (mk 73 f m) st = regB (evSteps tb (run tb) l6_71.1 (mk 73 f m) st) := gx_region e6_71 l6_71.2
theorem g6_72 : (run tb).code rd c6_72 (mk 73 f m) st = branch (f 56) (fun x => (run tb).code rd (sel x c6_73 c6_74) (mk 73 f m) st) := gx_cond e6_72 (by decide)
theorem g6_73 : (run tb).code rd c6_73 (mk 73 f m) st = some (.normal, mk 73 f m, st) := gx_skip e6_73
theorem g6_74 : (run tb).code rd c6_74 (mk 73 f m) st = some (.exit 4, mk 73 f m, st) := gx_exit e6_74
theorem g6_75 : (run tb).code rd c6_75 (mk 73 f m) st = andThen ((run tb).code rd c6_76 (mk 73 f m) st) (fun fr st => (run tb).code rd c6_82 fr st) := gx_seq e6_75
theorem g6_76 : (run tb).code rd c6_76 (mk 73 f m) st = closeB 5 ((run tb).code rd c6_77 (mk 73 f m) st) := gx_block e6_76
theorem g6_77 : (run tb).code rd c6_77 (mk 73 f m) st = andThen ((run tb).code rd c6_78 (mk 73 f m) st) (fun fr st => (run tb).code rd c6_79 fr st) := gx_seq e6_77
noncomputable def l6_78 : { l : List Step // lightOf o6_78 = l } := by refine ⟨?_, ?h⟩; case h => simp only [lightOf, o6_78, opsOf, kid, bodyOf, Tryd.f6, Option.getD_some, List.map, stepOf, Option.map, List.getElem?_toArray, List.getElem?_cons_succ, List.getElem?_cons_zero, Option.bind_some]; rfl
theorem g6_78 : (run tb).code rd c6_78 (mk 73 f m) st = regB (evSteps tb (run tb) l6_78.1 (mk 73 f m) st) := gx_region e6_78 l6_78.2
theorem g6_79 : (run tb).code rd c6_79 (mk 73 f m) st = branch (f 61) (fun x => (run tb).code rd (sel x c6_80 c6_81) (mk 73 f m) st) := gx_cond e6_79 (by decide)
noncomputable def l6_80 : { l : List Step // lightOf o6_80 = l } := by refine ⟨?_, ?h⟩; case h => simp only [lightOf, o6_80, opsOf, kid, bodyOf, Tryd.f6, Option.getD_some, List.map, stepOf, Option.map, List.getElem?_toArray, List.getElem?_cons_succ, List.getElem?_cons_zero, Option.bind_some]; rfl
theorem g6_80 : (run tb).code rd c6_80 (mk 73 f m) st = regB (evSteps tb (run tb) l6_80.1 (mk 73 f m) st) := gx_region e6_80 l6_80.2
theorem g6_81 : (run tb).code rd c6_81 (mk 73 f m) st = some (.normal, mk 73 f m, st) := gx_skip e6_81
noncomputable def l6_82 : { l : List Step // lightOf o6_82 = l } := by refine ⟨?_, ?h⟩; case h => simp only [lightOf, o6_82, opsOf, kid, bodyOf, Tryd.f6, Option.getD_some, List.map, stepOf, Option.map, List.getElem?_toArray, List.getElem?_cons_succ, List.getElem?_cons_zero, Option.bind_some]; rfl
theorem g6_82 : (run tb).code rd c6_82 (mk 73 f m) st = regB (evSteps tb (run tb) l6_82.1 (mk 73 f m) st) := gx_region e6_82 l6_82.2
theorem g6_83 : (run tb).code rd c6_83 (mk 73 f m) st = andThen ((run tb).code rd c6_84 (mk 73 f m) st) (fun fr st => (run tb).code rd c6_85 fr st) := gx_seq e6_83
noncomputable def l6_84 : { l : List DStep // drawAt o6_84 [(0, 0), (1, 0), (2, 2), (3, 7), (4, 15), (5, 31), (6, 31), (7, 127), (8, 255), (9, 511)] = l } := by refine ⟨?_, ?h⟩; case h => simp only [drawAt, entsAt, o6_84, opsOf, kid, bodyOf, Tryd.f6, Option.getD_some, List.map, stepOf, Option.map, List.getElem?_toArray, List.getElem?_cons_succ, List.getElem?_cons_zero, Option.bind_some]; rfl
theorem g6_84 : (run tb).code rd c6_84 (mk 73 f m) st = regB (evDraws tb (run tb) l6_84.1 [] (mk 73 f m) st) := gx_draw [(0, 0), (1, 0), (2, 2), (3, 7), (4, 15), (5, 31), (6, 31), (7, 127), (8, 255), (9, 511)] e6_84 (by kernel_rfl) l6_84.2
theorem g6_85 : (run tb).code rd c6_85 (mk 73 f m) st = some (.ret, mk 73 f m, st) := gx_ret e6_85
end Go.Proofs.YtgknieohkniojaaDoor
namespace Go.Proofs.YtgknieohkniojaaDoor
open Go.Abs
set_option maxRecDepth 100000
set_option linter.unusedSimpArgs false
set_option linter.unusedVariables false
set_option maxHeartbeats 4000000
/-- alive, on a store that holds two things already: by the kernel. -/
def probe2 : Option (V × St) → Option (Option O × Option O)
  | some (.bool true, st) => if st.base == 0 && st.prot.isEmpty then some (st.store[0]?, st.store[1]?) else none
  | _ => none
theorem alive2_run (x y : O) : probe2 ((ev tb 2000).call 8 [] { store := [x, y], base := 0, prot := [] }) = some (some x, some y) := by rw [tb_eq]; kernel_rfl
theorem alive2 (x y : O) : ∃ st, (run tb).call 8 [] { store := [x, y], base := 0, prot := [] } = some (.bool true, st) ∧ st.base = 0 ∧ st.prot = [] ∧ st.store[0]? = some x ∧ st.store[1]? = some y := by
  have h := alive2_run x y
  unfold probe2 at h
  split at h
  · rename_i st e
    split at h
    · rename_i hc
      simp only [Bool.and_eq_true, beq_iff_eq, List.isEmpty_iff] at hc
      simp only [Option.some.injEq, Prod.mk.injEq] at h
      exact ⟨st, run_call_of e, hc.1, hc.2, h.1, h.2⟩
    · cases h
  · cases h
theorem bound_run (st : St) (r rv b : Nat) (S : Nat → Bool) (h : SetAt st r rv b S) : (run tb).call 18 [.ptr r 0] st = some (.int .i64 (b : Nat), st) := by
  have hb := h.hb
  rw [run18 (by simp)]
  simp [g18_0, g18_1, g18_2, g18_3, g18_4, l18_1, l18_3, steps_nil, steps_cons, draws_nil, draws_cons, step_mk, stepB_some, stepB_none, memB_mk, thenS_some, regB_some, branch_bool, sel_true, sel_false, wanted_none, wanted_some, asB, mk_put, mk_put_none, arg_tmp, arg_const, arg_func, arg_global, upd_same, upd_ne, evPure, evArgs, m_load, m_store, m_alloc, m_box, m_call, m_lookup, m_mapUpdate, m_inv, evLoad, readCells, evFieldAddr, evIndexAddr, asIdx, ofValue, isPure, evBin, ib_lss, ib_leq, ib_gtr, ib_geq, ib_eql, ib_neq, evUn, leave_normal, leave_ret, finish, then_normal, then_exit, then_ret, close_normal, close_exit, close_ret, evConv, mk_marks, dropMarks, resOf, resList, mk_getD, argF, List.getD_cons_zero, List.getD_cons_succ, V.cells, evLen, kdOp, kdOf, readsOf, protS, eq_bool, eq_nil28, evStore, V.oneCell, putElem, splice, -List.getD_eq_getElem?_getD, -getElem?_pos, und55, und53, und22, size3, size53, size58, size22, ty3, ty4, ty53, ty58, ty22, hb]
theorem all_mk (st : St) (r : Nat) : (run tb).call 27 [.ptr r 0] st = some (.func (.func 40) [] [.ptr st.store.length 0], { st with store := st.store ++ [.box [.ptr r 0]] }) := by
  rw [run27 (by simp)]
  simp [g27_0, g27_1, g27_2, g27_3, g27_4, l27_1, l27_3, steps_nil, steps_cons, draws_nil, draws_cons, step_mk, stepB_some, stepB_none, memB_mk, thenS_some, regB_some, branch_bool, sel_true, sel_false, wanted_none, wanted_some, asB, mk_put, mk_put_none, arg_tmp, arg_const, arg_func, arg_global, upd_same, upd_ne, evPure, evArgs, m_load, m_store, m_alloc, m_box, m_call, m_lookup, m_mapUpdate, m_inv, evLoad, readCells, evFieldAddr, evIndexAddr, asIdx, ofValue, isPure, evBin, ib_lss, ib_leq, ib_gtr, ib_geq, ib_eql, ib_neq, evUn, leave_normal, leave_ret, finish, then_normal, then_exit, then_ret, close_normal, close_exit, close_ret, evConv, mk_marks, dropMarks, resOf, resList, mk_getD, argF, List.getD_cons_zero, List.getD_cons_succ, V.cells, evLen, kdOp, kdOf, readsOf, protS, eq_bool, eq_nil28, evStore, V.oneCell, putElem, splice, -List.getD_eq_getElem?_getD, -getElem?_pos, und55, und53, und22, size3, size53, size58, size22, ty3, ty4, ty53, ty58, ty22, St.new]
theorem elems_cons {S : Nat → Bool} : ∀ {d lo n : Nat} {rem : List Nat}, elems S lo d = n :: rem → lo ≤ n ∧ S n = true ∧ ∃ d', rem = elems S (n + 1) d'
  | 0, lo, n, rem, h => by simp [elems] at h
  | d + 1, lo, n, rem, h => by
    simp only [elems] at h
    split at h
    · rename_i hs
      simp only [List.cons.injEq] at h
      obtain ⟨rfl, rfl⟩ := h
      exact ⟨Nat.le_refl _, hs, d, rfl⟩
    · obtain ⟨h1, h2, h3⟩ := elems_cons h
      exact ⟨by omega, h2, h3⟩
theorem elems_len (S : Nat → Bool) : ∀ (n lo : Nat), (elems S lo n).length = cnt (fun j => S (lo + j)) n
  | 0, lo => rfl
  | n + 1, lo => by
    have e : n + 1 = 1 + n := by omega
    have h1 := elems_len S n (lo + 1)
    have h2 := cnt_add (fun j => S (lo + j)) 1 n
    rw [e, h2]
    have h3 : cnt (fun j => S (lo + j)) 1 = if S lo then 1 else 0 := by simp [cnt]
    have h4 : (fun j => S (lo + (1 + j))) = fun j => S (lo + 1 + j) := by funext j; congr 1; omega
    rw [h3, h4, ← h1, ← e]
    simp only [elems]
    split <;> simp [Nat.add_comm]
theorem SetAt.setOther {st : St} {r rv b l : Nat} {S : Nat → Bool} {o : O} (h : SetAt st r rv b S) (h1 : l ≠ r) (h2 : l ≠ rv) : SetAt { st with store := st.store.set l o } r rv b S where
  hb := by
    show (st.store.set l o)[r]? = _
    rw [List.getElem?_set_ne h1]; exact h.hb
  hv := by
    show (st.store.set l o)[rv]? = _
    rw [List.getElem?_set_ne h2]; exact h.hv
  hz := h.hz
  hm := h.hm
theorem set_round {α : Type} {A : List α} {l p q : Nat} {B R X Y : α} (h1 : p ≠ l) (h2 : q ≠ l) (hA : A.set l R = A) : (((A.set l B).set p X).set q Y).set l R = (A.set p X).set q Y := by
  rw [List.set_comm _ _ h2, List.set_comm _ _ h1, List.set_set, hA]
/-- The first loop's round. -/
theorem order_round (F : Nat → V) (ds l r rv b p7 p8 p9 : Nat) (S : Nat → Bool) (x n : Nat) (last : Int) (st : St) (hb0 : st.base = 0) (hp0 : st.prot = [])
    (hlp : st.store[l]? = some (.loop (loop0 (mk 73 F [ ]).tmps #[30] c6_37 c6_38 ds))) (q7 : F 7 = .ptr p7 0) (q8 : F 8 = .ptr p8 0) (q9 : F 9 = .ptr p9 0)
    (g7 : st.store[p7]? = some (.box [.ptr r 0])) (g8 : st.store[p8]? = some (.box [.int .i64 last])) (g9 : st.store[p9]? = some (.box [.int .i64 (n : Nat)])) (hs : SetAt st r rv b S) (h89 : p8 ≠ p9) (h79 : p7 ≠ p8)
    (hx : last < (x : Int)) (hxs : S x = true) (hn : (n : Int) < 100000) :
    evYield (run tb) l [.int .i64 (x : Nat)] st = some (.bool true, { st with store := (st.store.set p8 (.box [.int .i64 (x : Nat)])).set p9 (.box [.int .i64 ((n + 1 : Nat) : Int)]) }) := by
  have hk : st.locked l = false := by simp [St.locked, hb0, hp0]
  have n7 : l ≠ p7 := fun e => by rw [e, g7] at hlp; cases hlp
  have n8 : l ≠ p8 := fun e => by rw [e, g8] at hlp; cases hlp
  have n9 : l ≠ p9 := fun e => by rw [e, g9] at hlp; cases hlp
  have nr : l ≠ r := fun e => by have := hs.hb; rw [← e, hlp] at this; cases this
  have nv : l ≠ rv := fun e => by have := hs.hv; rw [← e, hlp] at this; cases this
  have hxb : ((x : Nat) : Int) < (b : Int) := by
    by_cases h : x < b
    · omega
    · rw [hs.hz x (by omega)] at hxs; cases hxs
  have hll := lt_of_at hlp
  have h1 : ¬ ((x : Nat) : Int) ≤ last := by omega
  have h2 : ¬ (b : Int) ≤ ((x : Nat) : Int) := by omega
  have k7 : ∀ o, (st.store.set l o)[p7]? = some (.box [.ptr r 0]) := fun o => by rw [List.getElem?_set_ne n7]; exact g7
  have k8 : ∀ o, (st.store.set l o)[p8]? = some (.box [.int .i64 last]) := fun o => by rw [List.getElem?_set_ne n8]; exact g8
  have k9 : ∀ o y, ((st.store.set l o).set p8 y)[p9]? = some (.box [.int .i64 (n : Nat)]) := fun o y => by rw [List.getElem?_set_ne h89, List.getElem?_set_ne n9]; exact g9
  have hh := fun o => has_run { st with store := st.store.set l o } r rv b S (x : Nat) (hs.setOther nr nv)
  have hbd := fun o => bound_run { st with store := st.store.set l o } r rv b S (hs.setOther nr nv)
  simp only [inS_nat', hxs] at hh
  have l8 : ∀ y : St, y.base = st.base → y.prot = st.prot → y.locked p8 = false := fun y e1 e2 => by simp [St.locked, e1, e2, hb0, hp0]
  have l9 : ∀ y : St, y.base = st.base → y.prot = st.prot → y.locked p9 = false := fun y e1 e2 => by simp [St.locked, e1, e2, hb0, hp0]
  have hadd : intBin .add .i64 (n : Nat) 1 = some (.int .i64 ((n + 1 : Nat) : Int)) := by rw [add64 (by omega) (by omega)]; simp
  rw [yield_run (fr1 := mk 73 (upd (upd F 30 (.int .i64 (x : Nat))) 10 (.int .i64 (x : Nat))) []) hk (loop_of hlp) rfl rfl]
  · show yieldEnd l ((run tb).code (some l) c6_38 _ _) = _
    generalize hbz : O.loop { (loop0 (mk 73 F []).tmps #[30] c6_37 c6_38 ds) with state := .busy } = bz
    simp [g6_38, g6_39, g6_40, g6_41, g6_42, g6_43, g6_44, g6_45, g6_46, g6_47, g6_48, g6_49, l6_41, l6_44, l6_48, l6_49, steps_nil, steps_cons, draws_nil, draws_cons, step_mk, stepB_some, stepB_none, memB_mk, thenS_some, regB_some, branch_bool, sel_true, sel_false, wanted_none, wanted_some, asB, mk_put, mk_put_none, arg_tmp, arg_const, arg_func, arg_global, upd_same, upd_ne, evPure, evArgs, m_load, m_store, m_alloc, m_box, m_call, m_lookup, m_mapUpdate, m_inv, evLoad, readCells, evFieldAddr, evIndexAddr, asIdx, ofValue, isPure, evBin, ib_lss, ib_leq, ib_gtr, ib_geq, ib_eql, ib_neq, evUn, leave_normal, leave_ret, finish, then_normal, then_exit, then_ret, close_normal, close_exit, close_ret, evConv, mk_marks, dropMarks, resOf, resList, mk_getD, argF, List.getD_cons_zero, List.getD_cons_succ, V.cells, evLen, kdOp, kdOf, readsOf, protS, eq_bool, eq_nil28, evStore, V.oneCell, putElem, splice, -List.getD_eq_getElem?_getD, -getElem?_pos, und55, und53, und22, size3, size53, size58, size22, ty3, ty4, ty53, ty58, ty22, q7, q8, q9, h1, h2, k7, k8, k9, hh, hbd, hadd, l8, l9, size3, ty28c]
    rw [end_any (lp := { (loop0 (mk 73 F []).tmps #[30] c6_37 c6_38 ds) with state := .busy })]
    · simp only [roundEnd]
      subst hbz
      exact congrArg (fun z => some (V.bool true, ({ store := z, base := st.base, prot := st.prot } : St))) (set_round (Ne.symm n8) (Ne.symm n9) (set_at hlp))
    · subst hbz
      show (((st.store.set l _).set p8 _).set p9 _)[l]? = _
      rw [List.getElem?_set_ne (Ne.symm n9), List.getElem?_set_ne (Ne.symm n8), List.getElem?_set_self hll]
  · show (run tb).code (some l) c6_37 { tmps := setParams [30] _ (mk 73 F []).tmps, marks := [] } st = _
    rw [params_fr]
    simp [g6_37, l6_37, steps_nil, steps_cons, draws_nil, draws_cons, step_mk, stepB_some, stepB_none, memB_mk, thenS_some, regB_some, branch_bool, sel_true, sel_false, wanted_none, wanted_some, asB, mk_put, mk_put_none, arg_tmp, arg_const, arg_func, arg_global, upd_same, upd_ne, evPure, evArgs, m_load, m_store, m_alloc, m_box, m_call, m_lookup, m_mapUpdate, m_inv, evLoad, readCells, evFieldAddr, evIndexAddr, asIdx, ofValue, isPure, evBin, ib_lss, ib_leq, ib_gtr, ib_geq, ib_eql, ib_neq, evUn, leave_normal, leave_ret, finish, then_normal, then_exit, then_ret, close_normal, close_exit, close_ret, evConv, mk_marks, dropMarks, resOf, resList, mk_getD, argF, List.getD_cons_zero, List.getD_cons_succ, V.cells, evLen, kdOp, kdOf, readsOf, protS, eq_bool, eq_nil28, evStore, V.oneCell, putElem, splice, -List.getD_eq_getElem?_getD, -getElem?_pos, und55, und53, und22, size3, size53, size58, size22, ty3, ty4, ty53, ty58, ty22, updAll]
/-- What holds while the first loop runs: but for two boxes all is as it was. -/
structure OrdSt (sE st : St) (p8 p9 : Nat) (last : Int) (n : Nat) : Prop where
  base : st.base = sE.base
  prot : st.prot = sE.prot
  same : ∀ i, i ≠ p8 → i ≠ p9 → st.store[i]? = sE.store[i]?
  g8 : st.store[p8]? = some (.box [.int .i64 last])
  g9 : st.store[p9]? = some (.box [.int .i64 (n : Nat)])
theorem OrdSt.set_ {sE st : St} {p8 p9 : Nat} {last : Int} {n : Nat} (h : OrdSt sE st p8 p9 last n) (hne : p8 ≠ p9) (x : Int) (m : Nat) :
    OrdSt sE { st with store := (st.store.set p8 (.box [.int .i64 x])).set p9 (.box [.int .i64 (m : Nat)]) } p8 p9 x m where
  base := h.base
  prot := h.prot
  same := fun i h8 h9 => by
    show ((st.store.set p8 _).set p9 _)[i]? = _
    rw [List.getElem?_set_ne (Ne.symm h9), List.getElem?_set_ne (Ne.symm h8)]
    exact h.same i h8 h9
  g8 := by
    show ((st.store.set p8 _).set p9 _)[p8]? = _
    rw [List.getElem?_set_ne (Ne.symm hne), List.getElem?_set_self (lt_of_at h.g8)]
  g9 := by
    show ((st.store.set p8 _).set p9 _)[p9]? = _
    have : p9 < (st.store.set p8 (.box [.int .i64 x])).length := by rw [List.length_set]; exact lt_of_at h.g9
    rw [List.getElem?_set_self this]
/-- The first loop whole: sC is the state at its call. -/
theorem order_first (F : Nat → V) (ds l r rv b p7 p8 p9 pb : Nat) (S : Nat → Bool) (sC : St) (hb0 : sC.base = 0) (hp0 : sC.prot = [])
    (hlp : sC.store[l]? = some (.loop (loop0 (mk 73 F []).tmps #[30] c6_37 c6_38 ds))) (q7 : F 7 = .ptr p7 0) (q8 : F 8 = .ptr p8 0) (q9 : F 9 = .ptr p9 0)
    (g7 : sC.store[p7]? = some (.box [.ptr r 0])) (g8 : sC.store[p8]? = some (.box [.int .i64 (-1)])) (g9 : sC.store[p9]? = some (.box [.int .i64 0])) (hs : SetAt sC r rv b S) (gb : sC.store[pb]? = some (.box [.ptr r 0])) (h89 : p8 ≠ p9) :
    Ret (fun v st' => ∃ last, OrdSt sC st' p8 p9 last (cnt S b) ∨ (∃ o, OrdSt { sC with store := sC.store ++ [o] } st' p8 p9 last (cnt S b))) ((run tb).call 40 [.func (.yield l) [] [], .ptr pb 0] sC) := by
  have h7 : p7 ≠ p8 := fun e => by rw [e, g8] at g7; cases g7
  have h79 : p7 ≠ p9 := fun e => by rw [e, g9] at g7; cases g7
  have hl8 : l ≠ p8 := fun e => by rw [e, g8] at hlp; cases hlp
  have hl9 : l ≠ p9 := fun e => by rw [e, g9] at hlp; cases hlp
  have hr8 : r ≠ p8 := fun e => by have := hs.hb; rw [e, g8] at this; cases this
  have hr9 : r ≠ p9 := fun e => by have := hs.hb; rw [e, g9] at this; cases this
  have hv8 : rv ≠ p8 := fun e => by have := hs.hv; rw [e, g8] at this; cases this
  have hv9 : rv ≠ p9 := fun e => by have := hs.hv; rw [e, g9] at this; cases this
  have hlen : cnt S (64 * nw b) = cnt S b := cnt_none hs.hz (by unfold nw; omega)
  have hbm := hs.hm
  have hcl := cnt_le S b
  have htot : (elems S 0 (64 * nw b)).length = cnt S b := by
    rw [elems_len, ← hlen]
    apply cnt_congr
    intro i _
    rw [Nat.zero_add]
  by_cases hz : nw b = 0
  · refine all_run l b pb r rv S (fun rem st => rem = [] ∧ st = sC) (fun st => OrdSt sC st p8 p9 (-1) (cnt S b)) sC gb hs (fun n rem st h => by cases h.1) ?_ (fun _ _ _ h => absurd hz h) (fun _ => ⟨rfl, rfl⟩) (fun h => absurd hz h) |>.use (C := fun o => Ret _ o) ?_
    · rintro st ⟨_, rfl⟩
      have hb : b = 0 := by unfold nw at hz; omega
      exact ⟨rfl, rfl, fun _ _ _ => rfl, g8, by rw [hb]; exact g9⟩
    · rintro v st ⟨_, h⟩
      exact .one ⟨-1, .inl h⟩
  · refine all_run l b pb r rv S (fun rem st => ∃ lo d last n, rem = elems S lo d ∧ last < (lo : Int) ∧ n + rem.length = cnt S b ∧ OrdSt { sC with store := sC.store ++ [.vec false (words b S)] } st p8 p9 last n) (fun st => ∃ last, OrdSt { sC with store := sC.store ++ [.vec false (words b S)] } st p8 p9 last (cnt S b)) sC gb hs ?_ ?_ ?_ (fun h => absurd h hz) (fun _ => ⟨0, 64 * nw b, -1, 0, rfl, by omega, by omega, ?_⟩) |>.use (C := fun o => Ret _ o) ?_
    · rintro x rem st ⟨lo, d, last, n, he, hlast, hn, hO⟩
      obtain ⟨e1, e2, d', e3⟩ := elems_cons he.symm
      have look : ∀ i (o : O), sC.store[i]? = some o → i ≠ p8 → i ≠ p9 → st.store[i]? = some o := fun i o h a c => by
        rw [hO.same i a c]
        show (sC.store ++ _)[i]? = _
        rw [List.getElem?_append_left (lt_of_at h)]; exact h
      have hs' : SetAt st r rv b S := ⟨look _ _ hs.hb hr8 hr9, look _ _ hs.hv hv8 hv9, hs.hz, hs.hm⟩
      simp only [List.length_cons] at hn
      refine .inl ⟨_, order_round F ds l r rv b p7 p8 p9 S x n last st (by rw [hO.base]; exact hb0) (by rw [hO.prot]; exact hp0) (look _ _ hlp hl8 hl9) q7 q8 q9 (look _ _ g7 h7 h79) hO.g8 hO.g9 hs' h89 h7 (by omega) e2 (by omega), x + 1, d', x, n + 1, e3, by omega, by omega, ?_⟩
      exact hO.set_ h89 x (n + 1)
    · rintro st ⟨lo, d, last, n, he, _, hn, hO⟩
      simp only [List.length_nil, Nat.add_zero] at hn
      rw [hn] at hO
      exact ⟨last, hO⟩
    · rintro rem s1 ⟨lo, d, last, n, he, _, hn, hO⟩ _
      have a : sC.store.length ≠ p8 := fun e => by have := lt_of_at g8; omega
      have c : sC.store.length ≠ p9 := fun e => by have := lt_of_at g9; omega
      rw [hO.same _ a c]
      show (sC.store ++ _)[sC.store.length]? = _
      rw [List.getElem?_append_right (by omega)]; simp
    · refine ⟨rfl, rfl, fun _ _ _ => rfl, ?_, ?_⟩
      · show (sC.store ++ _)[p8]? = _
        rw [List.getElem?_append_left (lt_of_at g8)]; exact g8
      · show (sC.store ++ _)[p9]? = _
        rw [List.getElem?_append_left (lt_of_at g9)]; exact g9
    · rintro v st ⟨_, last, h⟩
      exact .one ⟨last, .inr ⟨_, h⟩⟩
end Go.Proofs.YtgknieohkniojaaDoor
namespace Go.Proofs.YtgknieohkniojaaDoor
open Go.Abs
set_option maxRecDepth 100000
set_option linter.unusedSimpArgs false
set_option linter.unusedVariables false
set_option maxHeartbeats 4000000
theorem second_go (F : Nat → V) (ds l p5 x : Nat) (stop : Int) (st : St) (hk : st.locked l = false) (hlp : st.store[l]? = some (.loop (loop0 (mk 73 F []).tmps #[51] c6_55 c6_56 ds))) (q5 : F 5 = .ptr p5 0) (g5 : st.store[p5]? = some (.box [.int .i64 stop])) (hx : (((x : Nat) : Int) == stop) = false) :
    evYield (run tb) l [.int .i64 (x : Nat)] st = some (.bool true, st) := by
  have n5 : l ≠ p5 := fun e => by rw [e, g5] at hlp; cases hlp
  have k5 : ∀ o, (st.store.set l o)[p5]? = some (.box [.int .i64 stop]) := fun o => by rw [List.getElem?_set_ne n5]; exact g5
  rw [yield_run (fr1 := mk 73 (upd (upd F 51 (.int .i64 (x : Nat))) 11 (.int .i64 (x : Nat))) []) hk (loop_of hlp) rfl rfl]
  · show yieldEnd l ((run tb).code (some l) c6_56 _ _) = _
    simp [g6_56, g6_57, g6_58, g6_59, g6_60, g6_61, l6_58, steps_nil, steps_cons, draws_nil, draws_cons, step_mk, stepB_some, stepB_none, memB_mk, thenS_some, regB_some, branch_bool, sel_true, sel_false, wanted_none, wanted_some, asB, mk_put, mk_put_none, arg_tmp, arg_const, arg_func, arg_global, upd_same, upd_ne, evPure, evArgs, m_load, m_store, m_alloc, m_box, m_call, m_lookup, m_mapUpdate, m_inv, evLoad, readCells, evFieldAddr, evIndexAddr, asIdx, ofValue, isPure, evBin, ib_lss, ib_leq, ib_gtr, ib_geq, ib_eql, ib_neq, evUn, leave_normal, leave_ret, finish, then_normal, then_exit, then_ret, close_normal, close_exit, close_ret, evConv, mk_marks, dropMarks, resOf, resList, mk_getD, argF, List.getD_cons_zero, List.getD_cons_succ, V.cells, evLen, kdOp, kdOf, readsOf, protS, eq_bool, eq_nil28, evStore, V.oneCell, putElem, splice, -List.getD_eq_getElem?_getD, -getElem?_pos, und55, und53, und22, size3, size53, size58, size22, ty3, ty4, ty53, ty58, ty22, q5, k5, hx]
    exact end_same hlp rfl rfl
  · show (run tb).code (some l) c6_55 { tmps := setParams [51] _ (mk 73 F []).tmps, marks := [] } st = _
    rw [params_fr]
    simp [g6_55, l6_55, steps_nil, steps_cons, draws_nil, draws_cons, step_mk, stepB_some, stepB_none, memB_mk, thenS_some, regB_some, branch_bool, sel_true, sel_false, wanted_none, wanted_some, asB, mk_put, mk_put_none, arg_tmp, arg_const, arg_func, arg_global, upd_same, upd_ne, evPure, evArgs, m_load, m_store, m_alloc, m_box, m_call, m_lookup, m_mapUpdate, m_inv, evLoad, readCells, evFieldAddr, evIndexAddr, asIdx, ofValue, isPure, evBin, ib_lss, ib_leq, ib_gtr, ib_geq, ib_eql, ib_neq, evUn, leave_normal, leave_ret, finish, then_normal, then_exit, then_ret, close_normal, close_exit, close_ret, evConv, mk_marks, dropMarks, resOf, resList, mk_getD, argF, List.getD_cons_zero, List.getD_cons_succ, V.cells, evLen, kdOp, kdOf, readsOf, protS, eq_bool, eq_nil28, evStore, V.oneCell, putElem, splice, -List.getD_eq_getElem?_getD, -getElem?_pos, und55, und53, und22, size3, size53, size58, size22, ty3, ty4, ty53, ty58, ty22, updAll]
theorem second_stop (F : Nat → V) (ds l p5 x : Nat) (stop : Int) (st : St) (hk : st.locked l = false) (hlp : st.store[l]? = some (.loop (loop0 (mk 73 F []).tmps #[51] c6_55 c6_56 ds))) (q5 : F 5 = .ptr p5 0) (g5 : st.store[p5]? = some (.box [.int .i64 stop])) (hx : (((x : Nat) : Int) == stop) = true) :
    ∃ lp, evYield (run tb) l [.int .i64 (x : Nat)] st = some (.bool false, { st with store := st.store.set l (.loop lp) }) ∧ lp.state = .done ∧ lp.pending = some (.exit 2) := by
  have n5 : l ≠ p5 := fun e => by rw [e, g5] at hlp; cases hlp
  have k5 : ∀ o, (st.store.set l o)[p5]? = some (.box [.int .i64 stop]) := fun o => by rw [List.getElem?_set_ne n5]; exact g5
  refine ⟨{ (loop0 (mk 73 F []).tmps #[51] c6_55 c6_56 ds) with state := .done, pending := some (.exit 2) }, ?_, rfl, rfl⟩
  rw [yield_run (fr1 := mk 73 (upd (upd F 51 (.int .i64 (x : Nat))) 11 (.int .i64 (x : Nat))) []) hk (loop_of hlp) rfl rfl]
  · show yieldEnd l ((run tb).code (some l) c6_56 _ _) = _
    simp [g6_56, g6_57, g6_58, g6_59, g6_60, g6_61, l6_58, steps_nil, steps_cons, draws_nil, draws_cons, step_mk, stepB_some, stepB_none, memB_mk, thenS_some, regB_some, branch_bool, sel_true, sel_false, wanted_none, wanted_some, asB, mk_put, mk_put_none, arg_tmp, arg_const, arg_func, arg_global, upd_same, upd_ne, evPure, evArgs, m_load, m_store, m_alloc, m_box, m_call, m_lookup, m_mapUpdate, m_inv, evLoad, readCells, evFieldAddr, evIndexAddr, asIdx, ofValue, isPure, evBin, ib_lss, ib_leq, ib_gtr, ib_geq, ib_eql, ib_neq, evUn, leave_normal, leave_ret, finish, then_normal, then_exit, then_ret, close_normal, close_exit, close_ret, evConv, mk_marks, dropMarks, resOf, resList, mk_getD, argF, List.getD_cons_zero, List.getD_cons_succ, V.cells, evLen, kdOp, kdOf, readsOf, protS, eq_bool, eq_nil28, evStore, V.oneCell, putElem, splice, -List.getD_eq_getElem?_getD, -getElem?_pos, und55, und53, und22, size3, size53, size58, size22, ty3, ty4, ty53, ty58, ty22, q5, k5, hx]
    rw [end_any (lp := { (loop0 (mk 73 F []).tmps #[51] c6_55 c6_56 ds) with state := .busy })]
    · simp [roundEnd, loop0]
    · show (st.store.set l _)[l]? = _
      rw [List.getElem?_set_self (lt_of_at hlp)]
  · show (run tb).code (some l) c6_55 { tmps := setParams [51] _ (mk 73 F []).tmps, marks := [] } st = _
    rw [params_fr]
    simp [g6_55, l6_55, steps_nil, steps_cons, draws_nil, draws_cons, step_mk, stepB_some, stepB_none, memB_mk, thenS_some, regB_some, branch_bool, sel_true, sel_false, wanted_none, wanted_some, asB, mk_put, mk_put_none, arg_tmp, arg_const, arg_func, arg_global, upd_same, upd_ne, evPure, evArgs, m_load, m_store, m_alloc, m_box, m_call, m_lookup, m_mapUpdate, m_inv, evLoad, readCells, evFieldAddr, evIndexAddr, asIdx, ofValue, isPure, evBin, ib_lss, ib_leq, ib_gtr, ib_geq, ib_eql, ib_neq, evUn, leave_normal, leave_ret, finish, then_normal, then_exit, then_ret, close_normal, close_exit, close_ret, evConv, mk_marks, dropMarks, resOf, resList, mk_getD, argF, List.getD_cons_zero, List.getD_cons_succ, V.cells, evLen, kdOp, kdOf, readsOf, protS, eq_bool, eq_nil28, evStore, V.oneCell, putElem, splice, -List.getD_eq_getElem?_getD, -getElem?_pos, und55, und53, und22, size3, size53, size58, size22, ty3, ty4, ty53, ty58, ty22, updAll]
/-- What holds behind the second loop. -/
structure Sec (sC st : St) (l : Nat) : Prop where
  base : st.base = sC.base
  prot : st.prot = sC.prot
  same : ∀ i, i < sC.store.length → i ≠ l → st.store[i]? = sC.store[i]?
  loop : ∃ lp, st.store[l]? = some (.loop lp) ∧ lp.state ≠ .busy ∧ (lp.pending = none ∨ lp.pending = some (.exit 2))
theorem order_second (F : Nat → V) (ds l r rv b p5 pb : Nat) (stop : Int) (S : Nat → Bool) (sC : St) (hb0 : sC.base = 0) (hp0 : sC.prot = [])
    (hlp : sC.store[l]? = some (.loop (loop0 (mk 73 F []).tmps #[51] c6_55 c6_56 ds))) (q5 : F 5 = .ptr p5 0) (g5 : sC.store[p5]? = some (.box [.int .i64 stop])) (hs : SetAt sC r rv b S) (gb : sC.store[pb]? = some (.box [.ptr r 0])) :
    Ret (fun v st' => Sec sC st' l) ((run tb).call 40 [.func (.yield l) [] [], .ptr pb 0] sC) := by
  have hll := lt_of_at hlp
  have h0 : Sec sC sC l := ⟨rfl, rfl, fun _ _ _ => rfl, _, hlp, by simp [loop0], .inl rfl⟩
  have app : ∀ o, Sec sC { sC with store := sC.store ++ [o] } l := fun o => ⟨rfl, rfl, fun i hi _ => by
    show (sC.store ++ _)[i]? = _
    rw [List.getElem?_append_left hi], _, (by
    show (sC.store ++ _)[l]? = _
    rw [List.getElem?_append_left hll]; exact hlp), by simp [loop0], .inl rfl⟩
  refine all_run l b pb r rv S (fun rem st => Sec sC st l ∧ st.store[l]? = sC.store[l]? ∧ (nw b ≠ 0 → st.store[sC.store.length]? = some (.vec false (words b S)))) (fun st => Sec sC st l) sC gb hs ?_ (fun st h => h.1) (fun rem s1 h hz => h.2.2 hz) (fun h => ⟨h0, rfl, fun h' => absurd h h'⟩) (fun h => ⟨app _, ?_, fun _ => ?_⟩) |>.use (C := fun o => Ret _ o) ?_
  · rintro x rem st ⟨hS, hL, hV⟩
    have hl : st.store[l]? = some (.loop (loop0 (mk 73 F []).tmps #[51] c6_55 c6_56 ds)) := hL.trans hlp
    have hk : st.locked l = false := by simp [St.locked, hS.base, hS.prot, hb0, hp0]
    have n5 : p5 ≠ l := fun e => by rw [← e, g5] at hlp; cases hlp
    have g5' : st.store[p5]? = some (.box [.int .i64 stop]) := (hS.same p5 (lt_of_at g5) n5).trans g5
    cases hx : (((x : Nat) : Int) == stop) with
    | false => exact .inl ⟨st, second_go F ds l p5 x stop st hk hl q5 g5' hx, hS, hL, hV⟩
    | true =>
      obtain ⟨lp, h1, h2, h3⟩ := second_stop F ds l p5 x stop st hk hl q5 g5' hx
      refine .inr ⟨_, h1, hS.base, hS.prot, fun i hi hne => ?_, lp, ?_, by rw [h2]; simp, .inr h3⟩
      · show (st.store.set l _)[i]? = _
        rw [List.getElem?_set_ne (Ne.symm hne)]; exact hS.same i hi hne
      · show (st.store.set l _)[l]? = _
        rw [List.getElem?_set_self (lt_of_at hl)]
  · show (sC.store ++ _)[l]? = _
    rw [List.getElem?_append_left hll]
  · show (sC.store ++ _)[sC.store.length]? = _
    rw [List.getElem?_append_right (by omega)]; simp
  · rintro v st ⟨_, h⟩
    exact .one h
/-- The numbers that Has tells are counted. -/
theorem order_count (r rv b p7 : Nat) (S : Nat → Bool) (st : St) (m0 : List Nat) (hs : SetAt st r rv b S) (g7 : st.store[p7]? = some (.box [.ptr r 0])) : ∀ (d k : Nat) (f : Nat → V), k + d = 1002 → f 7 = .ptr p7 0 → f 12 = .int .i64 (cnt S (k - 1) : Nat) → f 13 = .int .i64 ((k : Int) - 1) →
    Out 73 m0 (fun e f' st' => e = .exit 4 ∧ st' = st ∧ f' 12 = .int .i64 (cnt S 1001 : Nat) ∧ (∀ j, j < 12 → f' j = f j)) ((run tb).code none c6_68 (mk 73 f m0) st)
  | 0, k, f, hk, h7, h12, h13 => by
    have hk : k = 1002 := hk
    subst hk
    rw [go_loop_of e6_68]
    have e : cnt S (1002 - 1) = cnt S 1001 := rfl
    rw [e] at h12
    generalize cnt S 1001 = n at *
    simp [g6_69, g6_70, g6_71, g6_72, g6_73, g6_74, g6_75, g6_76, g6_77, g6_78, g6_79, g6_80, g6_81, g6_82, l6_71, l6_78, l6_80, l6_82, steps_nil, steps_cons, draws_nil, draws_cons, step_mk, stepB_some, stepB_none, memB_mk, thenS_some, regB_some, branch_bool, sel_true, sel_false, wanted_none, wanted_some, asB, mk_put, mk_put_none, arg_tmp, arg_const, arg_func, arg_global, upd_same, upd_ne, evPure, evArgs, m_load, m_store, m_alloc, m_box, m_call, m_lookup, m_mapUpdate, m_inv, evLoad, readCells, evFieldAddr, evIndexAddr, asIdx, ofValue, isPure, evBin, ib_lss, ib_leq, ib_gtr, ib_geq, ib_eql, ib_neq, evUn, leave_normal, leave_ret, finish, then_normal, then_exit, then_ret, close_normal, close_exit, close_ret, evConv, mk_marks, dropMarks, resOf, resList, mk_getD, argF, List.getD_cons_zero, List.getD_cons_succ, V.cells, evLen, kdOp, kdOf, readsOf, protS, eq_bool, eq_nil28, evStore, V.oneCell, putElem, splice, -List.getD_eq_getElem?_getD, -getElem?_pos, und55, und53, und22, size3, size53, size58, size22, ty3, ty4, ty53, ty58, ty22, h12, h13]
    refine .one ⟨rfl, rfl, by simp [upd_ne, h12], fun j hj => ?_⟩
    have a : j ≠ 55 := by omega
    have c : j ≠ 56 := by omega
    simp [upd_ne, a, c]
  | d + 1, k, f, hk, h7, h12, h13 => by
    have hh := has_run st r rv b S ((k : Int) - 1) hs
    have hle : (k : Int) - 1 ≤ 1000 := by omega
    have hn : intBin .add .i64 ((k : Int) - 1) 1 = some (.int .i64 (((k + 1 : Nat) : Int) - 1)) := by rw [add64 (by omega) (by omega)]; congr 2; omega
    have hc : cnt S (k + 1 - 1) = cnt S (k - 1) + (if inS S ((k : Int) - 1) = true then 1 else 0) := by
      cases k with
      | zero => simp [inS, cnt]
      | succ k =>
        have e1 : ((k + 1 : Nat) : Int) - 1 = (k : Int) := by omega
        rw [e1, inS_nat']
        rfl
    have hcl := cnt_le S (k - 1)
    have ih := order_count r rv b p7 S st m0 hs g7 d (k + 1)
    generalize ((k : Int) - 1) = x at *
    generalize (((k + 1 : Nat) : Int) - 1) = x' at *
    cases hq : inS S x with
    | true =>
      rw [hq] at hh hc
      have hadd : intBin .add .i64 (cnt S (k - 1) : Nat) 1 = some (.int .i64 (cnt S (k + 1 - 1) : Nat)) := by rw [add64 (by omega) (by omega), hc]; simp
      generalize cnt S (k - 1) = c1 at *
      generalize cnt S (k + 1 - 1) = c2 at *
      rw [go_loop_of e6_68]
      simp [g6_69, g6_70, g6_71, g6_72, g6_73, g6_74, g6_75, g6_76, g6_77, g6_78, g6_79, g6_80, g6_81, g6_82, l6_71, l6_78, l6_80, l6_82, steps_nil, steps_cons, draws_nil, draws_cons, step_mk, stepB_some, stepB_none, memB_mk, thenS_some, regB_some, branch_bool, sel_true, sel_false, wanted_none, wanted_some, asB, mk_put, mk_put_none, arg_tmp, arg_const, arg_func, arg_global, upd_same, upd_ne, evPure, evArgs, m_load, m_store, m_alloc, m_box, m_call, m_lookup, m_mapUpdate, m_inv, evLoad, readCells, evFieldAddr, evIndexAddr, asIdx, ofValue, isPure, evBin, ib_lss, ib_leq, ib_gtr, ib_geq, ib_eql, ib_neq, evUn, leave_normal, leave_ret, finish, then_normal, then_exit, then_ret, close_normal, close_exit, close_ret, evConv, mk_marks, dropMarks, resOf, resList, mk_getD, argF, List.getD_cons_zero, List.getD_cons_succ, V.cells, evLen, kdOp, kdOf, readsOf, protS, eq_bool, eq_nil28, evStore, V.oneCell, putElem, splice, -List.getD_eq_getElem?_getD, -getElem?_pos, und55, und53, und22, size3, size53, size58, size22, ty3, ty4, ty53, ty58, ty22, h7, h12, h13, g7, hh, hle, hn, hadd, ty28c]
      refine (ih _ (by omega) ?_ ?_ ?_).mono ?_
      · simp [upd_ne, h7]
      · simp [upd_ne, upd_same]
      · simp [upd_same]
      · rintro e f' st' ⟨a1, a2, a3, a4⟩
        refine ⟨a1, a2, a3, fun j hj => (a4 j hj).trans ?_⟩
        have w1 : j ≠ 55 := by omega
        have w2 : j ≠ 56 := by omega
        have w3 : j ≠ 57 := by omega
        have w4 : j ≠ 58 := by omega
        have w5 : j ≠ 59 := by omega
        have w6 : j ≠ 60 := by omega
        have w7 : j ≠ 61 := by omega
        have w8 : j ≠ 62 := by omega
        have w9 : j ≠ 63 := by omega
        have w10 : j ≠ 12 := by omega
        have w11 : j ≠ 13 := by omega
        simp [upd_ne, w1, w2, w3, w4, w5, w6, w7, w8, w9, w10, w11]
    | false =>
      rw [hq] at hh hc
      simp only [Bool.false_eq_true, if_false, Nat.add_zero] at hc
      rw [hc] at ih
      generalize cnt S (k - 1) = c1 at *
      rw [go_loop_of e6_68]
      simp [g6_69, g6_70, g6_71, g6_72, g6_73, g6_74, g6_75, g6_76, g6_77, g6_78, g6_79, g6_80, g6_81, g6_82, l6_71, l6_78, l6_80, l6_82, steps_nil, steps_cons, draws_nil, draws_cons, step_mk, stepB_some, stepB_none, memB_mk, thenS_some, regB_some, branch_bool, sel_true, sel_false, wanted_none, wanted_some, asB, mk_put, mk_put_none, arg_tmp, arg_const, arg_func, arg_global, upd_same, upd_ne, evPure, evArgs, m_load, m_store, m_alloc, m_box, m_call, m_lookup, m_mapUpdate, m_inv, evLoad, readCells, evFieldAddr, evIndexAddr, asIdx, ofValue, isPure, evBin, ib_lss, ib_leq, ib_gtr, ib_geq, ib_eql, ib_neq, evUn, leave_normal, leave_ret, finish, then_normal, then_exit, then_ret, close_normal, close_exit, close_ret, evConv, mk_marks, dropMarks, resOf, resList, mk_getD, argF, List.getD_cons_zero, List.getD_cons_succ, V.cells, evLen, kdOp, kdOf, readsOf, protS, eq_bool, eq_nil28, evStore, V.oneCell, putElem, splice, -List.getD_eq_getElem?_getD, -getElem?_pos, und55, und53, und22, size3, size53, size58, size22, ty3, ty4, ty53, ty58, ty22, h7, h12, h13, g7, hh, hle, hn, ty28c]
      refine (ih _ (by omega) ?_ ?_ ?_).mono ?_
      · simp [upd_ne, h7]
      · simp [upd_ne, h12]
      · simp [upd_same]
      · rintro e f' st' ⟨a1, a2, a3, a4⟩
        refine ⟨a1, a2, a3, fun j hj => (a4 j hj).trans ?_⟩
        have w1 : j ≠ 55 := by omega
        have w2 : j ≠ 56 := by omega
        have w3 : j ≠ 57 := by omega
        have w4 : j ≠ 58 := by omega
        have w5 : j ≠ 59 := by omega
        have w6 : j ≠ 60 := by omega
        have w7 : j ≠ 61 := by omega
        have w11 : j ≠ 13 := by omega
        simp [upd_ne, w1, w2, w3, w4, w5, w6, w7, w11]
theorem order_end (r rv b p7 p9 ds1 ds2 : Nat) (S : Nat → Bool) (st : St) (f : Nat → V) (hb0 : st.base = 0) (hp0 : st.prot = []) (hs : SetAt st r rv b S) (hb : b ≤ 1000) (q6 : f 6 = .ptr 1 0) (q7 : f 7 = .ptr p7 0) (q9 : f 9 = .ptr p9 0)
    (g1 : st.store[1]? = some (.box [.bool false])) (g7 : st.store[p7]? = some (.box [.ptr r 0])) (g9 : st.store[p9]? = some (.box [.int .i64 (cnt S b : Nat)])) (d1 : st.store[ds1]? = some .defs) (d2 : st.store[ds2]? = some .defs) (hd : ds2 ≠ ds1) {Q : V → St → Prop} (hQ : ∀ s, Q (.bool true) s) :
    Ret Q (leave tb [.cell 6 4] ((run tb).code none c6_62 (mk 73 f [ds2, ds1]) st)) := by
  have hlen := fun P => len_run { st with prot := P } r rv b S (hs.prot' P)
  have hlen0 := len_run st r rv b S hs
  have hc : cnt S 1001 = cnt S b := cnt_none hs.hz (by omega)
  simp [g6_62, g6_63, g6_64, g6_65, g6_66, g6_67, l6_63, l6_66, steps_nil, steps_cons, draws_nil, draws_cons, step_mk, stepB_some, stepB_none, memB_mk, thenS_some, regB_some, branch_bool, sel_true, sel_false, wanted_none, wanted_some, asB, mk_put, mk_put_none, arg_tmp, arg_const, arg_func, arg_global, upd_same, upd_ne, evPure, evArgs, m_load, m_store, m_alloc, m_box, m_call, m_lookup, m_mapUpdate, m_inv, evLoad, readCells, evFieldAddr, evIndexAddr, asIdx, ofValue, isPure, evBin, ib_lss, ib_leq, ib_gtr, ib_geq, ib_eql, ib_neq, evUn, leave_normal, leave_ret, finish, then_normal, then_exit, then_ret, close_normal, close_exit, close_ret, evConv, mk_marks, dropMarks, resOf, resList, mk_getD, argF, List.getD_cons_zero, List.getD_cons_succ, V.cells, evLen, kdOp, kdOf, readsOf, protS, eq_bool, eq_nil28, evStore, V.oneCell, putElem, splice, -List.getD_eq_getElem?_getD, -getElem?_pos, und55, und53, und22, size3, size53, size58, size22, ty3, ty4, ty53, ty58, ty22]
  refine Out.use (C := fun o => Ret Q (leave tb _ (andThen (closeB 4 o) _))) (order_count r rv b p7 S st [ds2, ds1] hs g7 1002 0 _ (by omega) ?_ ?_ ?_) ?_
  · simp [upd_ne, q7]
  · simp [upd_ne, upd_same, cnt]
  · simp [upd_same]
  · rintro e f' st' ⟨rfl, rfl, a12, akeep⟩
    have b6 : f' 6 = .ptr 1 0 := by rw [akeep 6 (by omega)]; simp [upd_ne, q6]
    have b7 : f' 7 = .ptr p7 0 := by rw [akeep 7 (by omega)]; simp [upd_ne, q7]
    have b9 : f' 9 = .ptr p9 0 := by rw [akeep 9 (by omega)]; simp [upd_ne, q9]
    rw [hc] at a12
    generalize cnt S b = n at *
    have lk : ∀ (y : St) i, y.base = st'.base → y.prot = st'.prot → y.locked i = false := fun y i e1 e2 => by simp [St.locked, e1, e2, hb0, hp0]
    have n1 : (1 : Nat) ≠ ds1 := fun e => by rw [← e, g1] at d1; cases d1
    have n2 : (1 : Nat) ≠ ds2 := fun e => by rw [← e, g1] at d2; cases d2
    have k2 : ∀ o, (st'.store.set 1 o)[ds2]? = some .defs := fun o => by rw [List.getElem?_set_ne n2]; exact d2
    have k1 : ∀ o p, ((st'.store.set 1 o).set ds2 p)[ds1]? = some .defs := fun o p => by rw [List.getElem?_set_ne hd, List.getElem?_set_ne n1]; exact d1
    have k0 : ∀ o p q, (((st'.store.set 1 o).set ds2 p).set ds1 q)[1]? = some o := fun o p q => by
      rw [List.getElem?_set_ne (Ne.symm n1), List.getElem?_set_ne (Ne.symm n2), List.getElem?_set_self (lt_of_at g1)]
    simp (config := { decide := true }) [g6_83, g6_84, g6_85, l6_84, steps_nil, steps_cons, draws_nil, draws_cons, step_mk, stepB_some, stepB_none, memB_mk, thenS_some, regB_some, branch_bool, sel_true, sel_false, wanted_none, wanted_some, asB, mk_put, mk_put_none, arg_tmp, arg_const, arg_func, arg_global, upd_same, upd_ne, evPure, evArgs, m_load, m_store, m_alloc, m_box, m_call, m_lookup, m_mapUpdate, m_inv, evLoad, readCells, evFieldAddr, evIndexAddr, asIdx, ofValue, isPure, evBin, ib_lss, ib_leq, ib_gtr, ib_geq, ib_eql, ib_neq, evUn, leave_normal, leave_ret, finish, then_normal, then_exit, then_ret, close_normal, close_exit, close_ret, evConv, mk_marks, dropMarks, resOf, resList, mk_getD, argF, List.getD_cons_zero, List.getD_cons_succ, V.cells, evLen, kdOp, kdOf, readsOf, protS, eq_bool, eq_nil28, evStore, V.oneCell, putElem, splice, -List.getD_eq_getElem?_getD, -getElem?_pos, und55, und53, und22, size3, size53, size58, size22, ty3, ty4, ty53, ty58, ty22, b6, b7, b9, a12, g1, g7, g9, hlen, hlen0, lk, k0, k1, k2, ty28c, ty4, size4]
    exact .one (hQ _)
theorem size28 : tb.size 28 = some 1 := by rw [tb_eq]; kernel_rfl
theorem app_get {α : Type} (L xs : List α) (i : Nat) : (L ++ xs)[L.length + i]? = xs[i]? := by rw [List.getElem?_append_right (by omega)]; congr 1; omega
theorem app_get0 {α : Type} (L xs : List α) : (L ++ xs)[L.length]? = xs[0]? := by rw [List.getElem?_append_right (by omega)]; congr 1; omega
theorem app_set {α : Type} (L xs : List α) (i : Nat) (y : α) : (L ++ xs).set (L.length + i) y = L ++ xs.set i y := by rw [List.set_append_right _ _ (by omega)]; congr 2; omega
theorem app_set0 {α : Type} (L xs : List α) (y : α) : (L ++ xs).set L.length y = L ++ xs.set 0 y := by rw [List.set_append_right _ _ (by omega)]; congr 2; omega
theorem ret_true {o : Option (V × St)} (h : Ret (fun v _ => v = .bool true) o) : ∃ st', o = some (.bool true, st') := by
  obtain ⟨v, st, h1, rfl⟩ := h
  exact ⟨st, h1⟩
/-- What holds behind the first loop. -/
structure OrdOut (sC st : St) (p8 p9 : Nat) (n : Nat) : Prop where
  base : st.base = sC.base
  prot : st.prot = sC.prot
  same : ∀ i, i < sC.store.length → i ≠ p8 → i ≠ p9 → st.store[i]? = sC.store[i]?
  g9 : st.store[p9]? = some (.box [.int .i64 (n : Nat)])
theorem order_first' (F : Nat → V) (ds l r rv b p7 p8 p9 pb : Nat) (S : Nat → Bool) (sC : St) (hb0 : sC.base = 0) (hp0 : sC.prot = [])
    (hlp : sC.store[l]? = some (.loop (loop0 (mk 73 F []).tmps #[30] c6_37 c6_38 ds))) (q7 : F 7 = .ptr p7 0) (q8 : F 8 = .ptr p8 0) (q9 : F 9 = .ptr p9 0)
    (g7 : sC.store[p7]? = some (.box [.ptr r 0])) (g8 : sC.store[p8]? = some (.box [.int .i64 (-1)])) (g9 : sC.store[p9]? = some (.box [.int .i64 0])) (hs : SetAt sC r rv b S) (gb : sC.store[pb]? = some (.box [.ptr r 0])) (h89 : p8 ≠ p9) :
    Ret (fun v st' => OrdOut sC st' p8 p9 (cnt S b)) ((run tb).call 40 [.func (.yield l) [] [], .ptr pb 0] sC) := by
  refine (order_first F ds l r rv b p7 p8 p9 pb S sC hb0 hp0 hlp q7 q8 q9 g7 g8 g9 hs gb h89).use (C := fun o => Ret _ o) ?_
  rintro v st ⟨last, h | ⟨o, h⟩⟩
  · exact .one ⟨h.base, h.prot, fun i _ a c => h.same i a c, h.g9⟩
  · refine .one ⟨h.base, h.prot, fun i hi a c => ?_, h.g9⟩
    rw [h.same i a c]
    show (sC.store ++ _)[i]? = _
    rw [List.getElem?_append_left hi]
theorem order_first2 (F : Nat → V) (s1 : St) (r rv b : Nat) (stop : Int) (S : Nat → Bool) (hb1 : s1.base = 0) (hp1 : s1.prot = []) (w0 : s1.store[0]? = some (.box [.int .i64 stop])) (w1 : s1.store[1]? = some (.box [.bool false])) (hs : SetAt s1 r rv b S)
    (q7 : F 7 = .ptr s1.store.length 0) (q8 : F 8 = .ptr (s1.store.length + 1) 0) (q9 : F 9 = .ptr (s1.store.length + 2) 0) :
    Ret (fun v s2 => s2.base = 0 ∧ s2.prot = [] ∧ s2.store[0]? = some (.box [.int .i64 stop]) ∧ s2.store[1]? = some (.box [.bool false]) ∧ s2.store[s1.store.length]? = some (.box [.ptr r 0]) ∧ SetAt s2 r rv b S ∧ s2.store[s1.store.length + 2]? = some (.box [.int .i64 (cnt S b : Nat)]) ∧ s2.store[s1.store.length + 4]? = some .defs ∧
        ∃ lp, s2.store[s1.store.length + 4 + 1]? = some (.loop lp) ∧ lp.state ≠ .busy ∧ lp.pending = none)
      ((run tb).call 40 [.func (.yield (s1.store.length + 4 + 1)) [] [], .ptr (s1.store.length + 3) 0] (enterSt { store := s1.store ++ [.box [.ptr r 0], .box [.int .i64 (-1)], .box [.int .i64 0], .box [.ptr r 0]], base := s1.base, prot := s1.prot } (loop0 (mk 73 F []).tmps #[30] c6_37 c6_38 (s1.store.length + 4)))) := by
  have hst : (enterSt { store := s1.store ++ [.box [.ptr r 0], .box [.int .i64 (-1)], .box [.int .i64 0], .box [.ptr r 0]], base := s1.base, prot := s1.prot } (loop0 (mk 73 F []).tmps #[30] c6_37 c6_38 (s1.store.length + 4))).store = s1.store ++ [.box [.ptr r 0], .box [.int .i64 (-1)], .box [.int .i64 0], .box [.ptr r 0], .defs, .loop (loop0 (mk 73 F []).tmps #[30] c6_37 c6_38 (s1.store.length + 4))] := by simp [enterSt]
  have hbC : (enterSt { store := s1.store ++ [.box [.ptr r 0], .box [.int .i64 (-1)], .box [.int .i64 0], .box [.ptr r 0]], base := s1.base, prot := s1.prot } (loop0 (mk 73 F []).tmps #[30] c6_37 c6_38 (s1.store.length + 4))).base = 0 := hb1
  have hpC : (enterSt { store := s1.store ++ [.box [.ptr r 0], .box [.int .i64 (-1)], .box [.int .i64 0], .box [.ptr r 0]], base := s1.base, prot := s1.prot } (loop0 (mk 73 F []).tmps #[30] c6_37 c6_38 (s1.store.length + 4))).prot = [] := hp1
  generalize enterSt { store := s1.store ++ [.box [.ptr r 0], .box [.int .i64 (-1)], .box [.int .i64 0], .box [.ptr r 0]], base := s1.base, prot := s1.prot } (loop0 (mk 73 F []).tmps #[30] c6_37 c6_38 (s1.store.length + 4)) = sC at *
  have old : ∀ i o, s1.store[i]? = some o → sC.store[i]? = some o := fun i o h => by rw [hst, List.getElem?_append_left (lt_of_at h)]; exact h
  have c0 : sC.store[s1.store.length]? = some (.box [.ptr r 0]) := by rw [hst, app_get0]; rfl
  have c1 : sC.store[s1.store.length + 1]? = some (.box [.int .i64 (-1)]) := by rw [hst, app_get]; rfl
  have c2 : sC.store[s1.store.length + 2]? = some (.box [.int .i64 0]) := by rw [hst, app_get]; rfl
  have c3 : sC.store[s1.store.length + 3]? = some (.box [.ptr r 0]) := by rw [hst, app_get]; rfl
  have c4 : sC.store[s1.store.length + 4]? = some .defs := by rw [hst, app_get]; rfl
  have c5 : sC.store[s1.store.length + 4 + 1]? = some (.loop (loop0 (mk 73 F []).tmps #[30] c6_37 c6_38 (s1.store.length + 4))) := by rw [hst, Nat.add_assoc, app_get]; rfl
  have hsC : SetAt sC r rv b S := ⟨old _ _ hs.hb, old _ _ hs.hv, hs.hz, hs.hm⟩
  have l0 := lt_of_at w0
  have l1 := lt_of_at w1
  have lb := lt_of_at hs.hb
  have lv := lt_of_at hs.hv
  refine (order_first' F (s1.store.length + 4) (s1.store.length + 4 + 1) r rv b s1.store.length (s1.store.length + 1) (s1.store.length + 2) (s1.store.length + 3) S sC hbC hpC c5 q7 q8 q9 c0 c1 c2 hsC c3 (by omega)).use (C := fun o => Ret _ o) ?_
  rintro v s2 hO
  have L : ∀ i o, i ≠ s1.store.length + 1 → i ≠ s1.store.length + 2 → sC.store[i]? = some o → s2.store[i]? = some o := fun i o a c h => by rw [hO.same i (lt_of_at h) a c]; exact h
  exact .one ⟨hO.base.trans hbC, hO.prot.trans hpC, L _ _ (by omega) (by omega) (old _ _ w0), L _ _ (by omega) (by omega) (old _ _ w1), L _ _ (by omega) (by omega) c0,
    ⟨L _ _ (by omega) (by omega) hsC.hb, L _ _ (by omega) (by omega) hsC.hv, hs.hz, hs.hm⟩, hO.g9, L _ _ (by omega) (by omega) c4, _, L _ _ (by omega) (by omega) c5, by simp [loop0], rfl⟩
theorem order_second2 (F : Nat → V) (t1 : St) (r rv b : Nat) (stop : Int) (S : Nat → Bool) (hb1 : t1.base = 0) (hp1 : t1.prot = []) (w0 : t1.store[0]? = some (.box [.int .i64 stop])) (hs : SetAt t1 r rv b S) (q5 : F 5 = .ptr 0 0) :
    Ret (fun (v : V) (s3 : St) => s3.base = 0 ∧ s3.prot = [] ∧ (∀ (i : Nat) (o : O), t1.store[i]? = some o → s3.store[i]? = some o) ∧ s3.store[t1.store.length + 1]? = some .defs ∧
        ∃ lp, s3.store[t1.store.length + 1 + 1]? = some (.loop lp) ∧ lp.state ≠ .busy ∧ (lp.pending = none ∨ lp.pending = some (.exit 2)))
      ((run tb).call 40 [.func (.yield (t1.store.length + 1 + 1)) [] [], .ptr t1.store.length 0] (enterSt { store := t1.store ++ [.box [.ptr r 0]], base := t1.base, prot := t1.prot } (loop0 (mk 73 F []).tmps #[51] c6_55 c6_56 (t1.store.length + 1)))) := by
  have hst : (enterSt { store := t1.store ++ [.box [.ptr r 0]], base := t1.base, prot := t1.prot } (loop0 (mk 73 F []).tmps #[51] c6_55 c6_56 (t1.store.length + 1))).store = t1.store ++ [.box [.ptr r 0], .defs, .loop (loop0 (mk 73 F []).tmps #[51] c6_55 c6_56 (t1.store.length + 1))] := by simp [enterSt]
  have hbC : (enterSt { store := t1.store ++ [.box [.ptr r 0]], base := t1.base, prot := t1.prot } (loop0 (mk 73 F []).tmps #[51] c6_55 c6_56 (t1.store.length + 1))).base = 0 := hb1
  have hpC : (enterSt { store := t1.store ++ [.box [.ptr r 0]], base := t1.base, prot := t1.prot } (loop0 (mk 73 F []).tmps #[51] c6_55 c6_56 (t1.store.length + 1))).prot = [] := hp1
  generalize enterSt { store := t1.store ++ [.box [.ptr r 0]], base := t1.base, prot := t1.prot } (loop0 (mk 73 F []).tmps #[51] c6_55 c6_56 (t1.store.length + 1)) = sC at *
  have old : ∀ i o, t1.store[i]? = some o → sC.store[i]? = some o := fun i o h => by rw [hst, List.getElem?_append_left (lt_of_at h)]; exact h
  have c0 : sC.store[t1.store.length]? = some (.box [.ptr r 0]) := by rw [hst, app_get0]; rfl
  have c1 : sC.store[t1.store.length + 1]? = some .defs := by rw [hst, app_get]; rfl
  have c2 : sC.store[t1.store.length + 1 + 1]? = some (.loop (loop0 (mk 73 F []).tmps #[51] c6_55 c6_56 (t1.store.length + 1))) := by rw [hst, Nat.add_assoc, app_get]; rfl
  have hsC : SetAt sC r rv b S := ⟨old _ _ hs.hb, old _ _ hs.hv, hs.hz, hs.hm⟩
  refine (order_second F (t1.store.length + 1) (t1.store.length + 1 + 1) r rv b 0 t1.store.length stop S sC hbC hpC c2 q5 (old _ _ w0) hsC c0).use (C := fun o => Ret _ o) ?_
  rintro v s3 hO
  refine .one ⟨hO.base.trans hbC, hO.prot.trans hpC, fun i o h => ?_, ?_, hO.loop⟩
  · have := lt_of_at h
    rw [hO.same i (lt_of_at (old _ _ h)) (by omega)]
    exact old _ _ h
  · rw [hO.same _ (lt_of_at c1) (by omega)]; exact c1
theorem order_run (bd : Int) (nl : Bool) (is : List Int) (stop : Int) : ∃ st', (run tb).call 6 [.int .i64 bd, .list false (some nl) (ints is), .int .i64 stop] st0 = some (.bool true, st') := by
  apply ret_true
  have hQ : ∀ s : St, (fun (v : V) (_ : St) => v = .bool true) (.bool true) s := fun _ => rfl
  generalize (fun (v : V) (_ : St) => v = .bool true) = Q at *
  obtain ⟨sa, ha, hb0, hp0, g0, g1⟩ := alive2 (.box [.int .i64 stop]) (.box [.bool false])
  have lka : ∀ (y : St) i, y.base = sa.base → y.prot = sa.prot → y.locked i = false := fun y i e1 e2 => by simp [St.locked, e1, e2, hb0, hp0]
  have hok : okSt sa := ⟨by omega, by rw [hp0]; simp⟩
  have k1 : ∀ o, (sa.store.set 1 o)[1]? = some o := fun o => by rw [List.getElem?_set_self (lt_of_at g1)]
  rw [run6 (by simp)]
  by_cases h1 : bd > 1000
  · simp [g6_0, g6_1, g6_2, g6_3, g6_4, g6_5, g6_6, g6_7, g6_8, g6_9, g6_10, g6_11, g6_12, g6_13, g6_14, g6_15, g6_16, g6_17, l6_1, l6_4, l6_7, l6_12, l6_15, steps_nil, steps_cons, draws_nil, draws_cons, step_mk, stepB_some, stepB_none, memB_mk, thenS_some, regB_some, branch_bool, sel_true, sel_false, wanted_none, wanted_some, asB, mk_put, mk_put_none, arg_tmp, arg_const, arg_func, arg_global, upd_same, upd_ne, evPure, evArgs, m_load, m_store, m_alloc, m_box, m_call, m_lookup, m_mapUpdate, m_inv, evLoad, readCells, evFieldAddr, evIndexAddr, asIdx, ofValue, isPure, evBin, ib_lss, ib_leq, ib_gtr, ib_geq, ib_eql, ib_neq, evUn, leave_normal, leave_ret, finish, then_normal, then_exit, then_ret, close_normal, close_exit, close_ret, evConv, mk_marks, dropMarks, resOf, resList, mk_getD, argF, List.getD_cons_zero, List.getD_cons_succ, V.cells, evLen, kdOp, kdOf, readsOf, protS, eq_bool, eq_nil28, evStore, V.oneCell, putElem, splice, -List.getD_eq_getElem?_getD, -getElem?_pos, und55, und53, und22, size3, size53, size58, size22, ty3, ty4, ty53, ty58, ty22, ha, h1, ints_len, St.new, st0, ty4, lka, g1, k1, size4]
    exact .one (hQ _)
  · by_cases h2 : is.length > 60
    · have h2' : (60 : Int) < (is.length : Int) := by omega
      simp [g6_0, g6_1, g6_2, g6_3, g6_4, g6_5, g6_6, g6_7, g6_8, g6_9, g6_10, g6_11, g6_12, g6_13, g6_14, g6_15, g6_16, g6_17, l6_1, l6_4, l6_7, l6_12, l6_15, steps_nil, steps_cons, draws_nil, draws_cons, step_mk, stepB_some, stepB_none, memB_mk, thenS_some, regB_some, branch_bool, sel_true, sel_false, wanted_none, wanted_some, asB, mk_put, mk_put_none, arg_tmp, arg_const, arg_func, arg_global, upd_same, upd_ne, evPure, evArgs, m_load, m_store, m_alloc, m_box, m_call, m_lookup, m_mapUpdate, m_inv, evLoad, readCells, evFieldAddr, evIndexAddr, asIdx, ofValue, isPure, evBin, ib_lss, ib_leq, ib_gtr, ib_geq, ib_eql, ib_neq, evUn, leave_normal, leave_ret, finish, then_normal, then_exit, then_ret, close_normal, close_exit, close_ret, evConv, mk_marks, dropMarks, resOf, resList, mk_getD, argF, List.getD_cons_zero, List.getD_cons_succ, V.cells, evLen, kdOp, kdOf, readsOf, protS, eq_bool, eq_nil28, evStore, V.oneCell, putElem, splice, -List.getD_eq_getElem?_getD, -getElem?_pos, und55, und53, und22, size3, size53, size58, size22, ty3, ty4, ty53, ty58, ty22, ha, h1, h2', ints_len, St.new, st0, ty4, lka, g1, k1, size4]
      exact .one (hQ _)
    · have h2' : ¬ (60 : Int) < (is.length : Int) := by omega
      obtain ⟨b, hcb⟩ : ∃ b : Nat, max 0 (min bd 65536) = (b : Int) := ⟨(max 0 (min bd 65536)).toNat, by omega⟩
      have hnew := new_run sa bd b false (some nl) is (by omega) hok hcb
      have hzS := addAll_z (b := b) is (S := emptyS) (fun _ _ => rfl)
      generalize addAll b emptyS is = S at *
      have hs := newSt_set (st := sa) (b := b) (S := S) (by omega) hzS
      have gr := newSt_grows sa b S
      have w0 := gr.at_ g0
      have w1 := gr.at_ g1
      have hb1 : (newSt sa b S).base = 0 := hb0
      have hp1 : (newSt sa b S).prot = [] := hp0
      clear gr
      generalize newSt sa b S = s1 at *
      generalize sa.store.length + 1 = r at *
      generalize sa.store.length = rv at *
      have lk : ∀ (y : St) i, y.base = s1.base → y.prot = s1.prot → y.locked i = false := fun y i e1 e2 => by simp [St.locked, e1, e2, hb1, hp1]
      simp [g6_0, g6_1, g6_2, g6_3, g6_4, g6_5, g6_6, g6_7, g6_8, g6_9, g6_10, g6_11, g6_12, g6_13, g6_14, g6_15, g6_16, g6_17, g6_18, g6_19, g6_20, g6_21, g6_22, g6_23, g6_24, g6_25, g6_26, g6_27, g6_28, g6_29, g6_30, g6_31, g6_32, g6_33, g6_34, g6_35, g6_36, l6_1, l6_4, l6_7, l6_12, l6_15, l6_19, l6_22, l6_25, l6_29, l6_31, l6_34, steps_nil, steps_cons, draws_nil, draws_cons, step_mk, stepB_some, stepB_none, memB_mk, thenS_some, regB_some, branch_bool, sel_true, sel_false, wanted_none, wanted_some, asB, mk_put, mk_put_none, arg_tmp, arg_const, arg_func, arg_global, upd_same, upd_ne, evPure, evArgs, m_load, m_store, m_alloc, m_box, m_call, m_lookup, m_mapUpdate, m_inv, evLoad, readCells, evFieldAddr, evIndexAddr, asIdx, ofValue, isPure, evBin, ib_lss, ib_leq, ib_gtr, ib_geq, ib_eql, ib_neq, evUn, leave_normal, leave_ret, finish, then_normal, then_exit, then_ret, close_normal, close_exit, close_ret, evConv, mk_marks, dropMarks, resOf, resList, mk_getD, argF, List.getD_cons_zero, List.getD_cons_succ, V.cells, evLen, kdOp, kdOf, readsOf, protS, eq_bool, eq_nil28, evStore, V.oneCell, putElem, splice, -List.getD_eq_getElem?_getD, -getElem?_pos, und55, und53, und22, size3, size53, size58, size22, ty3, ty4, ty53, ty58, ty22, ha, h1, h2', ints_len, St.new, st0, ty4, lka, g1, k1, size4, hnew, all_mk, range_inv, lk, app_get, app_get0, app_set, app_set0, ty28c, size28, ty3, List.getElem?_cons_zero, List.getElem?_cons_succ, List.set_cons_zero, List.set_cons_succ]
      refine Ret.use (C := fun o => Ret Q (leave tb _ (andThen (closeB 0 (afterRange tb none _ _ o)) _))) (order_first2 _ s1 r rv b stop S hb1 hp1 w0 w1 hs ?_ ?_ ?_) ?_
      · simp [upd_same, upd_ne]
      · simp [upd_same, upd_ne]
      · simp [upd_same, upd_ne]
      · rintro v s2 ⟨y1, y2, y3, y4, y5, y6, y7, y8, lp, y9, y10, y11⟩
        have lk2 : ∀ (y : St) i, y.base = s2.base → y.prot = s2.prot → y.locked i = false := fun y i e1 e2 => by simp [St.locked, e1, e2, y1, y2]
        rw [after_normal y9 y10 (lk2 _ _ rfl rfl) y11]
        have keep : ∀ i o o', s2.store[i]? = some o → (∀ lp', o ≠ O.loop lp') → (s2.store.set (s1.store.length + 4 + 1) o')[i]? = some o := fun i o o' h hne => by
          by_cases e : s1.store.length + 4 + 1 = i
          · subst e; rw [y9] at h; cases h; exact absurd rfl (hne _)
          · rw [List.getElem?_set_ne e]; exact h
        have z0 := fun o' => keep _ _ o' y3 (fun _ e => by cases e)
        have z1 := fun o' => keep _ _ o' y4 (fun _ e => by cases e)
        have z7 := fun o' => keep _ _ o' y5 (fun _ e => by cases e)
        have z9 := fun o' => keep _ _ o' y7 (fun _ e => by cases e)
        have zd := fun o' => keep _ _ o' y8 (fun _ e => by cases e)
        have zb := fun o' => keep _ _ o' y6.hb (fun _ e => by cases e)
        have zv := fun o' => keep _ _ o' y6.hv (fun _ e => by cases e)
        have zlen : s1.store.length + 5 < (s2.store.set (s1.store.length + 4 + 1) (O.loop { lp with state := .exhausted })).length := by rw [List.length_set]; exact lt_of_at y9
        specialize z0 (O.loop { lp with state := .exhausted })
        specialize z1 (O.loop { lp with state := .exhausted })
        specialize z7 (O.loop { lp with state := .exhausted })
        specialize z9 (O.loop { lp with state := .exhausted })
        specialize zd (O.loop { lp with state := .exhausted })
        specialize zb (O.loop { lp with state := .exhausted })
        specialize zv (O.loop { lp with state := .exhausted })
        generalize s2.store.set (s1.store.length + 4 + 1) (O.loop { lp with state := .exhausted }) = T at *
        have hT : SetAt { s2 with store := T } r rv b S := ⟨zb, zv, y6.hz, y6.hm⟩
        have hTb : ({ s2 with store := T } : St).base = 0 := y1
        have hTp : ({ s2 with store := T } : St).prot = [] := y2
        have hT0 : ({ s2 with store := T } : St).store[0]? = _ := z0
        have hT1 : ({ s2 with store := T } : St).store[1]? = _ := z1
        have hT7 : ({ s2 with store := T } : St).store[s1.store.length]? = _ := z7
        have hT9 : ({ s2 with store := T } : St).store[s1.store.length + 2]? = _ := z9
        have hTd : ({ s2 with store := T } : St).store[s1.store.length + 4]? = _ := zd
        have hTl : s1.store.length + 5 < ({ s2 with store := T } : St).store.length := zlen
        generalize ({ s2 with store := T } : St) = t1 at *
        clear keep z0 z1 z7 z9 zd zb zv zlen
        simp only [close_normal, then_normal]
        simp [g6_50, g6_51, g6_52, g6_53, g6_54, l6_52, steps_nil, steps_cons, draws_nil, draws_cons, step_mk, stepB_some, stepB_none, memB_mk, thenS_some, regB_some, branch_bool, sel_true, sel_false, wanted_none, wanted_some, asB, mk_put, mk_put_none, arg_tmp, arg_const, arg_func, arg_global, upd_same, upd_ne, evPure, evArgs, m_load, m_store, m_alloc, m_box, m_call, m_lookup, m_mapUpdate, m_inv, evLoad, readCells, evFieldAddr, evIndexAddr, asIdx, ofValue, isPure, evBin, ib_lss, ib_leq, ib_gtr, ib_geq, ib_eql, ib_neq, evUn, leave_normal, leave_ret, finish, then_normal, then_exit, then_ret, close_normal, close_exit, close_ret, evConv, mk_marks, dropMarks, resOf, resList, mk_getD, argF, List.getD_cons_zero, List.getD_cons_succ, V.cells, evLen, kdOp, kdOf, readsOf, protS, eq_bool, eq_nil28, evStore, V.oneCell, putElem, splice, -List.getD_eq_getElem?_getD, -getElem?_pos, und55, und53, und22, size3, size53, size58, size22, ty3, ty4, ty53, ty58, ty22, hT7, all_mk, range_inv, ty28c]
        refine Ret.use (C := fun o => Ret Q (leave tb _ (andThen (closeB 2 (afterRange tb none _ _ o)) _))) (order_second2 _ t1 r rv b stop S hTb hTp hT0 hT ?_) ?_
        · simp [upd_same, upd_ne]
        · rintro v s3 ⟨x1, x2, x3, x4, lp2, x5, x6, x7⟩
          have lk3 : s3.locked (t1.store.length + 1 + 1) = false := by simp [St.locked, x1, x2]
          have keep : ∀ i o o', s3.store[i]? = some o → (∀ lp', o ≠ O.loop lp') → (s3.store.set (t1.store.length + 1 + 1) o')[i]? = some o := fun i o o' h hne => by
            by_cases e : t1.store.length + 1 + 1 = i
            · subst e; rw [x5] at h; cases h; exact absurd rfl (hne _)
            · rw [List.getElem?_set_ne e]; exact h
          have fin : ∀ (F' : Nat → V), F' 6 = .ptr 1 0 → F' 7 = .ptr s1.store.length 0 → F' 9 = .ptr (s1.store.length + 2) 0 → Ret Q (leave tb [.cell 6 4] ((run tb).code none c6_62 (mk 73 F' [t1.store.length + 1, s1.store.length + 4]) { s3 with store := s3.store.set (t1.store.length + 1 + 1) (.loop { lp2 with state := .exhausted }) })) := fun F' a6 a7 a9 => by
            refine order_end r rv b s1.store.length (s1.store.length + 2) (s1.store.length + 4) (t1.store.length + 1) S { s3 with store := s3.store.set (t1.store.length + 1 + 1) (.loop { lp2 with state := .exhausted }) } F' x1 x2 ?_ (by omega) a6 a7 a9 ?_ ?_ ?_ ?_ ?_ (by omega) hQ
            · exact ⟨keep _ _ _ (x3 _ _ hT.hb) (fun _ e => by cases e), keep _ _ _ (x3 _ _ hT.hv) (fun _ e => by cases e), hT.hz, hT.hm⟩
            · exact keep _ _ _ (x3 _ _ hT1) (fun _ e => by cases e)
            · exact keep _ _ _ (x3 _ _ hT7) (fun _ e => by cases e)
            · exact keep _ _ _ (x3 _ _ hT9) (fun _ e => by cases e)
            · exact keep _ _ _ (x3 _ _ hTd) (fun _ e => by cases e)
            · exact keep _ _ _ x4 (fun _ e => by cases e)
          rcases x7 with hp | hp
          · rw [after_normal x5 x6 lk3 hp]
            simp only [close_normal, then_normal]
            exact fin _ (by simp [upd_same, upd_ne]) (by simp [upd_same, upd_ne]) (by simp [upd_same, upd_ne])
          · rw [after_exit x5 x6 lk3 hp]
            simp only [run_exit, close_exit, if_true, then_normal]
            exact fin _ (by simp [upd_same, upd_ne]) (by simp [upd_same, upd_ne]) (by simp [upd_same, upd_ne])
end Go.Proofs.YtgknieohkniojaaDoor
namespace Go.Proofs.YtgknieohkniojaaDoor
open Go Go.Abs Go.ChangeShapes Go.WideShapes Go.RowKit
set_option maxRecDepth 100000
theorem order_args (xs : List V) (hl : xs.length = Tryd.f6.params.toList.length) (hs : ∀ (j : Nat) t x, Tryd.f6.params.toList[j]? = some t → xs[j]? = some x → ∃ n, Shaped Tryd.prog n t x) : ∃ st', (run tb).call 6 xs st0 = some (.bool true, st') := by
  rw [Tryd.params6] at hl hs
  obtain ⟨x0, x1, x2, rfl⟩ : ∃ x0 x1 x2, xs = [x0, x1, x2] := by
    rcases xs with _ | ⟨x0, _ | ⟨x1, _ | ⟨x2, _ | ⟨z, r⟩⟩⟩⟩
    · simp at hl
    · simp at hl
    · simp at hl
    · exact ⟨x0, x1, x2, rfl⟩
    · simp at hl
  obtain ⟨n0, h0⟩ := hs 0 3 x0 rfl rfl
  obtain ⟨n1, h1⟩ := hs 1 22 x1 rfl rfl
  obtain ⟨n2, h2⟩ := hs 2 3 x2 rfl rfl
  obtain ⟨i0, rfl, b0⟩ := shaped_int Tryd.underlying3 h0
  obtain ⟨nl1, is1, rfl, l1, b1⟩ := shaped_ints Tryd.underlying22 Tryd.underlying3 h1
  obtain ⟨i2, rfl, b2⟩ := shaped_int Tryd.underlying3 h2
  exact order_run i0 nl1 is1 i2
theorem order_lifted (os : Os) (started : os.Started) (H : Type) (enc : TypeId × Value → H) :
    ReturnsInHanded {} Tryd.checked os 6 .any (fun w args => (Rows.bitsOrderSpec.pre enc Tryd.prog Tryd.f6 [] false w args ∧ laidMetH Tryd.prog Rows.bitsOrderRow.laid w) ∧ sizedMet enc Tryd.prog Tryd.f6 (OpenSpec.ofChange Rows.bitsOrderSpec) false w args)
      (Rows.bitsOrderSpec.post enc Tryd.prog Tryd.f6 false true false false) :=
  lifted (C := Tryd.checked) tb_fits Tryd.laidOut Tryd.own started (fun W h => glob_ok h) (by kernel_rfl) Tryd.func6 rfl Tryd.underlying4 rfl [3, 22, 25, 23] types_ok (by kernel_rfl)
    (fun ds h => by
      rw [show Tryd.f6.params.toList = [3, 22, 3] from by rw [Tryd.params6]] at h
      rcases ds with _ | ⟨x0, _ | ⟨x1, _ | ⟨x2, _ | ⟨z, r⟩⟩⟩⟩
      · simp at h
      · simp at h
      · simp at h
      · rfl
      · simp at h)
    order_args
    (ChangeSpec.witness_at (enc := enc) (C := Tryd.checked) (os := os) (X := fun w _ => laidMetH Tryd.prog Rows.bitsOrderRow.laid w) false (laidWorld os) #[.int .i64 0, .slice none 0 0, .int .i64 0] 8 rfl (by kernel_rfl) (by kernel_rfl) (by kernel_rfl) (by kernel_rfl) (by kernel_rfl) (laidWorld_met os _))
theorem order_holds : Rows.BitsOrderSaid :=
  OpenClaim.holds_of_wide 6 Tryd.f6 rfl rfl rfl rfl rfl rfl rfl ⟨rfl, rfl, rfl, rfl, rfl⟩ rfl rfl rfl rfl rfl (by kernel_rfl) Tryd.func6 (by kernel_rfl)
    (of_decide_eq_true (by kernel_rfl)) (by unfold Func.isWrapper; rw [if_neg (of_decide_eq_false (by kernel_rfl))]; exact ⟨rfl, rfl⟩)
    (fun os started H enc _ => order_lifted os started H enc)
theorem order_plain : ∀ t, t ∈ [3, 22, 3] → Tryd.prog.wantsStandIn t = false := by
  intro t ht
  have h : ([3, 22, 3].all fun t => Tryd.prog.wantsStandIn t == false) = true := by kernel_rfl
  exact eq_of_beq (List.all_eq_true.1 h t ht)
theorem order_card : Rows.BitsOrderCardSaid :=
  Claim7.holds_tied_plain_at .later [] [.data] true (true, "9295b955cc89ea01dc10a212d3bb8874e736bfb4ce157a7f326887aee0c80cde") false
    order_holds (fun _ h => by cases h) (by kernel_rfl) (fun _ h => by cases h) bitsOrder_row_tie rfl ⟨rfl, rfl⟩ (by kernel_rfl) rfl
    (fun f fn hf hfn => by
      obtain rfl : f = 6 := Option.some.inj ((show Tryd.prog.funcNamed "drogue/droguelaw02.BitsOrder" = some 6 by kernel_rfl).symm.trans hf) |>.symm
      obtain rfl : fn = Tryd.f6 := (Option.some.inj (Tryd.func6.symm.trans hfn)).symm
      exact ⟨by kernel_rfl, fun j t ht => order_plain t (by
        rw [Tryd.params6] at ht
        exact List.mem_of_getElem? (i := j) (by simpa using ht))⟩)
    (by kernel_rfl)
end Go.Proofs.YtgknieohkniojaaDoor
