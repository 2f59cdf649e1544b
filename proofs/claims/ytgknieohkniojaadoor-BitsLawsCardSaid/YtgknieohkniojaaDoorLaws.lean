/- The parts of the functions: names for the places of their code. The law BitsLaws, walked. BitsLaws: the row, the card. -/
import Derived.Test.YtgknieohkniojaaDoorSet
import Derived.Test.YtgknieohkniojaaDoorFwF
import Derived.Test.YtgknieohkniojaaDoorTurn
import Derived.Test.YtgknieohkniojaaDoorCards
import Derived.Test.YtgknieohkniojaaDoorTie
import Derived.SevenTiedAt
set_option linter.unusedVariables false
set_option linter.unusedSimpArgs false
set_option linter.unnecessarySimpa false
set_option linter.all false
namespace Go.Proofs.YtgknieohkniojaaDoor
open Go.Abs
set_option maxRecDepth 1000000
set_option linter.unusedSimpArgs false
variable {rd : Option Nat} {f : Nat → V} {m : List Nat} {st : St}
noncomputable def c5_0 : Code := bodyOf Tryd.f5
theorem b5 : Tryd.f5.body = some c5_0 := rfl
theorem n5 : Tryd.f5.ntmps = 139 := rfl
theorem r5 : Tryd.f5.results = #[.tmp 6] := rfl
theorem fn5 : tb.fn 5 = some Tryd.f5 := Tryd.func5
theorem run5 {args : List V} {st : St} (ha : args.length ≤ 139) : (run tb).call 5 args st = leave tb [.tmp 6] ((run tb).code none c5_0 (mk 139 (argF args) []) st) := call_run fn5 rfl b5 n5 r5 ha
noncomputable def c5_1 : Code := kid c5_0 0
noncomputable def c5_2 : Code := kid c5_0 1
noncomputable def c5_3 : Code := kid c5_2 0
noncomputable def c5_4 : Code := kid c5_3 0
noncomputable def c5_5 : Code := kid c5_3 1
noncomputable def c5_6 : Code := kid c5_5 0
noncomputable def c5_7 : Code := kid c5_6 0
noncomputable def c5_8 : Code := kid c5_6 1
noncomputable def c5_9 : Code := kid c5_5 1
noncomputable def c5_10 : Code := kid c5_2 1
noncomputable def c5_11 : Code := kid c5_10 0
noncomputable def c5_12 : Code := kid c5_11 0
noncomputable def c5_13 : Code := kid c5_11 1
noncomputable def c5_14 : Code := kid c5_13 0
noncomputable def c5_15 : Code := kid c5_14 0
noncomputable def c5_16 : Code := kid c5_14 1
noncomputable def c5_17 : Code := kid c5_13 1
noncomputable def c5_18 : Code := kid c5_10 1
noncomputable def c5_19 : Code := kid c5_18 0
noncomputable def c5_20 : Code := kid c5_18 1
noncomputable def c5_21 : Code := kid c5_20 0
noncomputable def c5_22 : Code := kid c5_20 1
noncomputable def c5_23 : Code := kid c5_22 0
noncomputable def c5_24 : Code := kid c5_23 0
noncomputable def c5_25 : Code := kid c5_23 1
noncomputable def c5_26 : Code := kid c5_25 0
noncomputable def c5_27 : Code := kid c5_26 0
noncomputable def c5_28 : Code := kid c5_26 1
noncomputable def c5_29 : Code := kid c5_25 1
noncomputable def c5_30 : Code := kid c5_22 1
noncomputable def c5_31 : Code := kid c5_30 0
noncomputable def c5_32 : Code := kid c5_30 1
noncomputable def c5_33 : Code := kid c5_32 0
noncomputable def c5_34 : Code := kid c5_32 1
noncomputable def c5_35 : Code := kid c5_34 0
noncomputable def c5_36 : Code := kid c5_34 1
noncomputable def c5_37 : Code := kid c5_36 0
noncomputable def c5_38 : Code := kid c5_37 0
noncomputable def c5_39 : Code := kid c5_37 1
noncomputable def c5_40 : Code := kid c5_39 0
noncomputable def c5_41 : Code := kid c5_40 0
noncomputable def c5_42 : Code := kid c5_40 1
noncomputable def c5_43 : Code := kid c5_39 1
noncomputable def c5_44 : Code := kid c5_36 1
noncomputable def c5_45 : Code := kid c5_44 0
noncomputable def c5_46 : Code := kid c5_44 1
noncomputable def c5_47 : Code := kid c5_46 0
noncomputable def c5_48 : Code := kid c5_46 1
noncomputable def c5_49 : Code := kid c5_48 0
noncomputable def c5_50 : Code := kid c5_48 1
noncomputable def c5_51 : Code := kid c5_50 0
noncomputable def c5_52 : Code := kid c5_50 1
noncomputable def c5_53 : Code := kid c5_52 0
noncomputable def c5_54 : Code := kid c5_53 0
noncomputable def c5_55 : Code := kid c5_53 1
noncomputable def c5_56 : Code := kid c5_55 0
noncomputable def c5_57 : Code := kid c5_56 0
noncomputable def c5_58 : Code := kid c5_56 1
noncomputable def c5_59 : Code := kid c5_55 1
noncomputable def c5_60 : Code := kid c5_52 1
noncomputable def c5_61 : Code := kid c5_60 0
noncomputable def c5_62 : Code := kid c5_60 1
noncomputable def c5_63 : Code := kid c5_62 0
noncomputable def c5_64 : Code := kid c5_62 1
noncomputable def c5_65 : Code := kid c5_64 0
noncomputable def c5_66 : Code := kid c5_64 1
noncomputable def o5_1 : Array Oper := opsOf (kid (bodyOf Tryd.f5) 0)
noncomputable def o5_4 : Array Oper := opsOf (kid (kid (kid (bodyOf Tryd.f5) 1) 0) 0)
noncomputable def o5_7 : Array Oper := opsOf (kid (kid (kid (kid (kid (bodyOf Tryd.f5) 1) 0) 1) 0) 0)
noncomputable def o5_12 : Array Oper := opsOf (kid (kid (kid (kid (bodyOf Tryd.f5) 1) 1) 0) 0)
noncomputable def o5_15 : Array Oper := opsOf (kid (kid (kid (kid (kid (kid (bodyOf Tryd.f5) 1) 1) 0) 1) 0) 0)
noncomputable def o5_19 : Array Oper := opsOf (kid (kid (kid (kid (bodyOf Tryd.f5) 1) 1) 1) 0)
noncomputable def o5_21 : Array Oper := opsOf (kid (kid (kid (kid (kid (bodyOf Tryd.f5) 1) 1) 1) 1) 0)
noncomputable def o5_24 : Array Oper := opsOf (kid (kid (kid (kid (kid (kid (kid (bodyOf Tryd.f5) 1) 1) 1) 1) 1) 0) 0)
noncomputable def o5_27 : Array Oper := opsOf (kid (kid (kid (kid (kid (kid (kid (kid (kid (bodyOf Tryd.f5) 1) 1) 1) 1) 1) 0) 1) 0) 0)
noncomputable def o5_31 : Array Oper := opsOf (kid (kid (kid (kid (kid (kid (kid (bodyOf Tryd.f5) 1) 1) 1) 1) 1) 1) 0)
noncomputable def o5_33 : Array Oper := opsOf (kid (kid (kid (kid (kid (kid (kid (kid (bodyOf Tryd.f5) 1) 1) 1) 1) 1) 1) 1) 0)
noncomputable def o5_35 : Array Oper := opsOf (kid (kid (kid (kid (kid (kid (kid (kid (kid (bodyOf Tryd.f5) 1) 1) 1) 1) 1) 1) 1) 1) 0)
noncomputable def o5_38 : Array Oper := opsOf (kid (kid (kid (kid (kid (kid (kid (kid (kid (kid (kid (bodyOf Tryd.f5) 1) 1) 1) 1) 1) 1) 1) 1) 1) 0) 0)
noncomputable def o5_41 : Array Oper := opsOf (kid (kid (kid (kid (kid (kid (kid (kid (kid (kid (kid (kid (kid (bodyOf Tryd.f5) 1) 1) 1) 1) 1) 1) 1) 1) 1) 0) 1) 0) 0)
noncomputable def o5_45 : Array Oper := opsOf (kid (kid (kid (kid (kid (kid (kid (kid (kid (kid (kid (bodyOf Tryd.f5) 1) 1) 1) 1) 1) 1) 1) 1) 1) 1) 0)
noncomputable def o5_47 : Array Oper := opsOf (kid (kid (kid (kid (kid (kid (kid (kid (kid (kid (kid (kid (bodyOf Tryd.f5) 1) 1) 1) 1) 1) 1) 1) 1) 1) 1) 1) 0)
noncomputable def o5_49 : Array Oper := opsOf (kid (kid (kid (kid (kid (kid (kid (kid (kid (kid (kid (kid (kid (bodyOf Tryd.f5) 1) 1) 1) 1) 1) 1) 1) 1) 1) 1) 1) 1) 0)
noncomputable def o5_51 : Array Oper := opsOf (kid (kid (kid (kid (kid (kid (kid (kid (kid (kid (kid (kid (kid (kid (bodyOf Tryd.f5) 1) 1) 1) 1) 1) 1) 1) 1) 1) 1) 1) 1) 1) 0)
noncomputable def o5_54 : Array Oper := opsOf (kid (kid (kid (kid (kid (kid (kid (kid (kid (kid (kid (kid (kid (kid (kid (kid (bodyOf Tryd.f5) 1) 1) 1) 1) 1) 1) 1) 1) 1) 1) 1) 1) 1) 1) 0) 0)
noncomputable def o5_57 : Array Oper := opsOf (kid (kid (kid (kid (kid (kid (kid (kid (kid (kid (kid (kid (kid (kid (kid (kid (kid (kid (bodyOf Tryd.f5) 1) 1) 1) 1) 1) 1) 1) 1) 1) 1) 1) 1) 1) 1) 0) 1) 0) 0)
noncomputable def o5_61 : Array Oper := opsOf (kid (kid (kid (kid (kid (kid (kid (kid (kid (kid (kid (kid (kid (kid (kid (kid (bodyOf Tryd.f5) 1) 1) 1) 1) 1) 1) 1) 1) 1) 1) 1) 1) 1) 1) 1) 0)
noncomputable def o5_63 : Array Oper := opsOf (kid (kid (kid (kid (kid (kid (kid (kid (kid (kid (kid (kid (kid (kid (kid (kid (kid (bodyOf Tryd.f5) 1) 1) 1) 1) 1) 1) 1) 1) 1) 1) 1) 1) 1) 1) 1) 1) 0)
noncomputable def o5_65 : Array Oper := opsOf (kid (kid (kid (kid (kid (kid (kid (kid (kid (kid (kid (kid (kid (kid (kid (kid (kid (kid (bodyOf Tryd.f5) 1) 1) 1) 1) 1) 1) 1) 1) 1) 1) 1) 1) 1) 1) 1) 1) 1) 0)
theorem e5_0 : c5_0 = .seq c5_1 c5_2 := rfl
theorem e5_1 : c5_1 = .region 0 o5_1 false := rfl
theorem e5_2 : c5_2 = .seq c5_3 c5_10 := rfl
theorem e5_3 : c5_3 = .seq c5_4 c5_5 := rfl
theorem e5_4 : c5_4 = .region 1 o5_4 false := rfl
theorem e5_5 : c5_5 = .cond (.tmp 18) c5_6 c5_9 := rfl
theorem e5_6 : c5_6 = .seq c5_7 c5_8 := rfl
theorem e5_7 : c5_7 = .region 2 o5_7 false := rfl
theorem e5_8 : c5_8 = .ret := rfl
theorem e5_9 : c5_9 = .skip := rfl
theorem e5_10 : c5_10 = .seq c5_11 c5_18 := rfl
theorem e5_11 : c5_11 = .seq c5_12 c5_13 := rfl
theorem e5_12 : c5_12 = .region 3 o5_12 false := rfl
theorem e5_13 : c5_13 = .cond (.tmp 30) c5_14 c5_17 := rfl
theorem e5_14 : c5_14 = .seq c5_15 c5_16 := rfl
theorem e5_15 : c5_15 = .region 4 o5_15 false := rfl
theorem e5_16 : c5_16 = .ret := rfl
theorem e5_17 : c5_17 = .skip := rfl
theorem e5_18 : c5_18 = .seq c5_19 c5_20 := rfl
theorem e5_19 : c5_19 = .region 5 o5_19 false := rfl
theorem e5_20 : c5_20 = .seq c5_21 c5_22 := rfl
theorem e5_21 : c5_21 = .region 6 o5_21 false := rfl
theorem e5_22 : c5_22 = .seq c5_23 c5_30 := rfl
theorem e5_23 : c5_23 = .seq c5_24 c5_25 := rfl
theorem e5_24 : c5_24 = .region 7 o5_24 false := rfl
theorem e5_25 : c5_25 = .cond (.tmp 42) c5_26 c5_29 := rfl
theorem e5_26 : c5_26 = .seq c5_27 c5_28 := rfl
theorem e5_27 : c5_27 = .region 8 o5_27 false := rfl
theorem e5_28 : c5_28 = .ret := rfl
theorem e5_29 : c5_29 = .skip := rfl
theorem e5_30 : c5_30 = .seq c5_31 c5_32 := rfl
theorem e5_31 : c5_31 = .region 9 o5_31 false := rfl
theorem e5_32 : c5_32 = .seq c5_33 c5_34 := rfl
theorem e5_33 : c5_33 = .region 10 o5_33 false := rfl
theorem e5_34 : c5_34 = .seq c5_35 c5_36 := rfl
theorem e5_35 : c5_35 = .region 11 o5_35 false := rfl
theorem e5_36 : c5_36 = .seq c5_37 c5_44 := rfl
theorem e5_37 : c5_37 = .seq c5_38 c5_39 := rfl
theorem e5_38 : c5_38 = .region 12 o5_38 false := rfl
theorem e5_39 : c5_39 = .cond (.tmp 58) c5_40 c5_43 := rfl
theorem e5_40 : c5_40 = .seq c5_41 c5_42 := rfl
theorem e5_41 : c5_41 = .region 13 o5_41 false := rfl
theorem e5_42 : c5_42 = .ret := rfl
theorem e5_43 : c5_43 = .skip := rfl
theorem e5_44 : c5_44 = .seq c5_45 c5_46 := rfl
theorem e5_45 : c5_45 = .region 14 o5_45 false := rfl
theorem e5_46 : c5_46 = .seq c5_47 c5_48 := rfl
theorem e5_47 : c5_47 = .region 15 o5_47 false := rfl
theorem e5_48 : c5_48 = .seq c5_49 c5_50 := rfl
theorem e5_49 : c5_49 = .region 16 o5_49 false := rfl
theorem e5_50 : c5_50 = .seq c5_51 c5_52 := rfl
theorem e5_51 : c5_51 = .region 17 o5_51 false := rfl
theorem e5_52 : c5_52 = .seq c5_53 c5_60 := rfl
theorem e5_53 : c5_53 = .seq c5_54 c5_55 := rfl
theorem e5_54 : c5_54 = .region 18 o5_54 false := rfl
theorem e5_55 : c5_55 = .cond (.tmp 71) c5_56 c5_59 := rfl
theorem e5_56 : c5_56 = .seq c5_57 c5_58 := rfl
theorem e5_57 : c5_57 = .region 19 o5_57 false := rfl
theorem e5_58 : c5_58 = .ret := rfl
theorem e5_59 : c5_59 = .skip := rfl
theorem e5_60 : c5_60 = .seq c5_61 c5_62 := rfl
theorem e5_61 : c5_61 = .region 20 o5_61 false := rfl
theorem e5_62 : c5_62 = .seq c5_63 c5_64 := rfl
theorem e5_63 : c5_63 = .region 21 o5_63 false := rfl
theorem e5_64 : c5_64 = .seq c5_65 c5_66 := rfl
theorem e5_65 : c5_65 = .region 22 o5_65 false := rfl
theorem e5_66 : c5_66 = .ret := rfl
theorem g5_0 : (run tb).code rd c5_0 (mk 139 f m) st = andThen ((run tb).code rd c5_1 (mk 139 f m) st) (fun fr st => (run tb).code rd c5_2 fr st) := gx_seq e5_0
noncomputable def l5_1 : { l : List Step // lightOf o5_1 = l } := by refine ⟨?_, ?h⟩; case h => simp only [lightOf, o5_1, opsOf, kid, bodyOf, Tryd.f5, Option.getD_some, List.map, stepOf, Option.map, List.getElem?_toArray, List.getElem?_cons_succ, List.getElem?_cons_zero, Option.bind_some]; rfl
theorem g5_1 : (run tb).code rd c5_1 (mk 139 f m) st = regB (evSteps tb (run tb) l5_1.1 (mk 139 f m) st) := gx_region e5_1 l5_1.2
theorem g5_2 : (run tb).code rd c5_2 (mk 139 f m) st = andThen ((run tb).code rd c5_3 (mk 139 f m) st) (fun fr st => (run tb).code rd c5_10 fr st) := gx_seq e5_2
theorem g5_3 : (run tb).code rd c5_3 (mk 139 f m) st = andThen ((run tb).code rd c5_4 (mk 139 f m) st) (fun fr st => (run tb).code rd c5_5 fr st) := gx_seq e5_3
noncomputable def l5_4 : { l : List Step // lightOf o5_4 = l } := by refine ⟨?_, ?h⟩; case h => simp only [lightOf, o5_4, opsOf, kid, bodyOf, Tryd.f5, Option.getD_some, List.map, stepOf, Option.map, List.getElem?_toArray, List.getElem?_cons_succ, List.getElem?_cons_zero, Option.bind_some]; rfl
theorem g5_4 : (run tb).code rd c5_4 (mk 139 f m) st = regB (evSteps tb (run tb) l5_4.1 (mk 139 f m) st) := gx_region e5_4 l5_4.2
theorem g5_5 : (run tb).code rd c5_5 (mk 139 f m) st = branch (f 18) (fun x => (run tb).code rd (sel x c5_6 c5_9) (mk 139 f m) st) := gx_cond e5_5 (by decide)
theorem g5_6 : (run tb).code rd c5_6 (mk 139 f m) st = andThen ((run tb).code rd c5_7 (mk 139 f m) st) (fun fr st => (run tb).code rd c5_8 fr st) := gx_seq e5_6
noncomputable def l5_7 : { l : List Step // lightOf o5_7 = l } := by refine ⟨?_, ?h⟩; case h => simp only [lightOf, o5_7, opsOf, kid, bodyOf, Tryd.f5, Option.getD_some, List.map, stepOf, Option.map, List.getElem?_toArray, List.getElem?_cons_succ, List.getElem?_cons_zero, Option.bind_some]; rfl
theorem g5_7 : (run tb).code rd c5_7 (mk 139 f m) st = regB (evSteps tb (run tb) l5_7.1 (mk 139 f m) st) := gx_region e5_7 l5_7.2
theorem g5_8 : (run tb).code rd c5_8 (mk 139 f m) st = some (.ret, mk 139 f m, st) := gx_ret e5_8
theorem g5_9 : (run tb).code rd c5_9 (mk 139 f m) st = some (.normal, mk 139 f m, st) := gx_skip e5_9
theorem g5_10 : (run tb).code rd c5_10 (mk 139 f m) st = andThen ((run tb).code rd c5_11 (mk 139 f m) st) (fun fr st => (run tb).code rd c5_18 fr st) := gx_seq e5_10
theorem g5_11 : (run tb).code rd c5_11 (mk 139 f m) st = andThen ((run tb).code rd c5_12 (mk 139 f m) st) (fun fr st => (run tb).code rd c5_13 fr st) := gx_seq e5_11
noncomputable def l5_12 : { l : List Step // lightOf o5_12 = l } := by refine ⟨?_, ?h⟩; case h => simp only [lightOf, o5_12, opsOf, kid, bodyOf, Tryd.f5, Option.getD_some, List.map, stepOf, Option.map, List.getElem?_toArray, List.getElem?_cons_succ, List.getElem?_cons_zero, Option.bind_some]; rfl
theorem g5_12 : (run tb).code rd c5_12 (mk 139 f m) st = regB (evSteps tb (run tb) l5_12.1 (mk 139 f m) st) := gx_region e5_12 l5_12.2
theorem g5_13 : (run tb).code rd c5_13 (mk 139 f m) st = branch (f 30) (fun x => (run tb).code rd (sel x c5_14 c5_17) (mk 139 f m) st) := gx_cond e5_13 (by decide)
theorem g5_14 : (run tb).code rd c5_14 (mk 139 f m) st = andThen ((run tb).code rd c5_15 (mk 139 f m) st) (fun fr st => (run tb).code rd c5_16 fr st) := gx_seq e5_14
noncomputable def l5_15 : { l : List Step // lightOf o5_15 = l } := by refine ⟨?_, ?h⟩; case h => simp only [lightOf, o5_15, opsOf, kid, bodyOf, Tryd.f5, Option.getD_some, List.map, stepOf, Option.map, List.getElem?_toArray, List.getElem?_cons_succ, List.getElem?_cons_zero, Option.bind_some]; rfl
theorem g5_15 : (run tb).code rd c5_15 (mk 139 f m) st = regB (evSteps tb (run tb) l5_15.1 (mk 139 f m) st) := gx_region e5_15 l5_15.2
theorem g5_16 : (run tb).code rd c5_16 (mk 139 f m) st = some (.ret, mk 139 f m, st) := gx_ret e5_16
theorem g5_17 : (run tb).code rd c5_17 (mk 139 f m) st = some (.normal, mk 139 f m, st) := gx_skip e5_17
theorem g5_18 : (run tb).code rd c5_18 (mk 139 f m) st = andThen ((run tb).code rd c5_19 (mk 139 f m) st) (fun fr st => (run tb).code rd c5_20 fr st) := gx_seq e5_18
noncomputable def l5_19 : { l : List Step // lightOf o5_19 = l } := by refine ⟨?_, ?h⟩; case h => simp only [lightOf, o5_19, opsOf, kid, bodyOf, Tryd.f5, Option.getD_some, List.map, stepOf, Option.map, List.getElem?_toArray, List.getElem?_cons_succ, List.getElem?_cons_zero, Option.bind_some]; rfl
theorem g5_19 : (run tb).code rd c5_19 (mk 139 f m) st = regB (evSteps tb (run tb) l5_19.1 (mk 139 f m) st) := gx_region e5_19 l5_19.2
theorem g5_20 : (run tb).code rd c5_20 (mk 139 f m) st = andThen ((run tb).code rd c5_21 (mk 139 f m) st) (fun fr st => (run tb).code rd c5_22 fr st) := gx_seq e5_20
noncomputable def l5_21 : { l : List Step // lightOf o5_21 = l } := by refine ⟨?_, ?h⟩; case h => simp only [lightOf, o5_21, opsOf, kid, bodyOf, Tryd.f5, Option.getD_some, List.map, stepOf, Option.map, List.getElem?_toArray, List.getElem?_cons_succ, List.getElem?_cons_zero, Option.bind_some]; rfl
theorem g5_21 : (run tb).code rd c5_21 (mk 139 f m) st = regB (evSteps tb (run tb) l5_21.1 (mk 139 f m) st) := gx_region e5_21 l5_21.2
theorem g5_22 : (run tb).code rd c5_22 (mk 139 f m) st = andThen ((run tb).code rd c5_23 (mk 139 f m) st) (fun fr st => (run tb).code rd c5_30 fr st) := gx_seq e5_22
theorem g5_23 : (run tb).code rd c5_23 (mk 139 f m) st = andThen ((run tb).code rd c5_24 (mk 139 f m) st) (fun fr st => (run tb).code rd c5_25 fr st) := gx_seq e5_23
noncomputable def l5_24 : { l : List Step // lightOf o5_24 = l } := by refine ⟨?_, ?h⟩; case h => simp only [lightOf, o5_24, opsOf, kid, bodyOf, Tryd.f5, Option.getD_some, List.map, stepOf, Option.map, List.getElem?_toArray, List.getElem?_cons_succ, List.getElem?_cons_zero, Option.bind_some]; rfl
theorem g5_24 : (run tb).code rd c5_24 (mk 139 f m) st = regB (evSteps tb (run tb) l5_24.1 (mk 139 f m) st) := gx_region e5_24 l5_24.2
theorem g5_25 : (run tb).code rd c5_25 (mk 139 f m) st = branch (f 42) (fun x => (run tb).code rd (sel x c5_26 c5_29) (mk 139 f m) st) := gx_cond e5_25 (by decide)
theorem g5_26 : (run tb).code rd c5_26 (mk 139 f m) st = andThen ((run tb).code rd c5_27 (mk 139 f m) st) (fun fr st => (run tb).code rd c5_28 fr st) := gx_seq e5_26
noncomputable def l5_27 : { l : List Step // lightOf o5_27 = l } := by refine ⟨?_, ?h⟩; case h => simp only [lightOf, o5_27, opsOf, kid, bodyOf, Tryd.f5, Option.getD_some, List.map, stepOf, Option.map, List.getElem?_toArray, List.getElem?_cons_succ, List.getElem?_cons_zero, Option.bind_some]; rfl
theorem g5_27 : (run tb).code rd c5_27 (mk 139 f m) st = regB (evSteps tb (run tb) l5_27.1 (mk 139 f m) st) := gx_region e5_27 l5_27.2
theorem g5_28 : (run tb).code rd c5_28 (mk 139 f m) st = some (.ret, mk 139 f m, st) := gx_ret e5_28
theorem g5_29 : (run tb).code rd c5_29 (mk 139 f m) st = some (.normal, mk 139 f m, st) := gx_skip e5_29
theorem g5_30 : (run tb).code rd c5_30 (mk 139 f m) st = andThen ((run tb).code rd c5_31 (mk 139 f m) st) (fun fr st => (run tb).code rd c5_32 fr st) := gx_seq e5_30
noncomputable def l5_31 : { l : List Step // lightOf o5_31 = l } := by refine ⟨?_, ?h⟩; case h => simp only [lightOf, o5_31, opsOf, kid, bodyOf, Tryd.f5, Option.getD_some, List.map, stepOf, Option.map, List.getElem?_toArray, List.getElem?_cons_succ, List.getElem?_cons_zero, Option.bind_some]; rfl
theorem g5_31 : (run tb).code rd c5_31 (mk 139 f m) st = regB (evSteps tb (run tb) l5_31.1 (mk 139 f m) st) := gx_region e5_31 l5_31.2
theorem g5_32 : (run tb).code rd c5_32 (mk 139 f m) st = andThen ((run tb).code rd c5_33 (mk 139 f m) st) (fun fr st => (run tb).code rd c5_34 fr st) := gx_seq e5_32
noncomputable def l5_33 : { l : List Step // lightOf o5_33 = l } := by refine ⟨?_, ?h⟩; case h => simp only [lightOf, o5_33, opsOf, kid, bodyOf, Tryd.f5, Option.getD_some, List.map, stepOf, Option.map, List.getElem?_toArray, List.getElem?_cons_succ, List.getElem?_cons_zero, Option.bind_some]; rfl
theorem g5_33 : (run tb).code rd c5_33 (mk 139 f m) st = regB (evSteps tb (run tb) l5_33.1 (mk 139 f m) st) := gx_region e5_33 l5_33.2
theorem g5_34 : (run tb).code rd c5_34 (mk 139 f m) st = andThen ((run tb).code rd c5_35 (mk 139 f m) st) (fun fr st => (run tb).code rd c5_36 fr st) := gx_seq e5_34
noncomputable def l5_35 : { l : List Step // lightOf o5_35 = l } := by refine ⟨?_, ?h⟩; case h => simp only [lightOf, o5_35, opsOf, kid, bodyOf, Tryd.f5, Option.getD_some, List.map, stepOf, Option.map, List.getElem?_toArray, List.getElem?_cons_succ, List.getElem?_cons_zero, Option.bind_some]; rfl
theorem g5_35 : (run tb).code rd c5_35 (mk 139 f m) st = regB (evSteps tb (run tb) l5_35.1 (mk 139 f m) st) := gx_region e5_35 l5_35.2
theorem g5_36 : (run tb).code rd c5_36 (mk 139 f m) st = andThen ((run tb).code rd c5_37 (mk 139 f m) st) (fun fr st => (run tb).code rd c5_44 fr st) := gx_seq e5_36
theorem g5_37 : (run tb).code rd c5_37 (mk 139 f m) st = andThen ((run tb).code rd c5_38 (mk 139 f m) st) (fun fr st => (run tb).code rd c5_39 fr st) := gx_seq e5_37
noncomputable def l5_38 : { l : List Step // lightOf o5_38 = l } := by refine ⟨?_, ?h⟩; case h => simp only [lightOf, o5_38, opsOf, kid, bodyOf, Tryd.f5, Option.getD_some, List.map, stepOf, Option.map, List.getElem?_toArray, List.getElem?_cons_succ, List.getElem?_cons_zero, Option.bind_some]; rfl
theorem g5_38 : (run tb).code rd c5_38 (mk 139 f m) st = regB (evSteps tb (run tb) l5_38.1 (mk 139 f m) st) := gx_region e5_38 l5_38.2
theorem g5_39 : (run tb).code rd c5_39 (mk 139 f m) st = branch (f 58) (fun x => (run tb).code rd (sel x c5_40 c5_43) (mk 139 f m) st) := gx_cond e5_39 (by decide)
theorem g5_40 : (run tb).code rd c5_40 (mk 139 f m) st = andThen ((run tb).code rd c5_41 (mk 139 f m) st) (fun fr st => (run tb).code rd c5_42 fr st) := gx_seq e5_40
noncomputable def l5_41 : { l : List Step // lightOf o5_41 = l } := by refine ⟨?_, ?h⟩; case h => simp only [lightOf, o5_41, opsOf, kid, bodyOf, Tryd.f5, Option.getD_some, List.map, stepOf, Option.map, List.getElem?_toArray, List.getElem?_cons_succ, List.getElem?_cons_zero, Option.bind_some]; rfl
theorem g5_41 : (run tb).code rd c5_41 (mk 139 f m) st = regB (evSteps tb (run tb) l5_41.1 (mk 139 f m) st) := gx_region e5_41 l5_41.2
theorem g5_42 : (run tb).code rd c5_42 (mk 139 f m) st = some (.ret, mk 139 f m, st) := gx_ret e5_42
theorem g5_43 : (run tb).code rd c5_43 (mk 139 f m) st = some (.normal, mk 139 f m, st) := gx_skip e5_43
theorem g5_44 : (run tb).code rd c5_44 (mk 139 f m) st = andThen ((run tb).code rd c5_45 (mk 139 f m) st) (fun fr st => (run tb).code rd c5_46 fr st) := gx_seq e5_44
noncomputable def l5_45 : { l : List Step // lightOf o5_45 = l } := by refine ⟨?_, ?h⟩; case h => simp only [lightOf, o5_45, opsOf, kid, bodyOf, Tryd.f5, Option.getD_some, List.map, stepOf, Option.map, List.getElem?_toArray, List.getElem?_cons_succ, List.getElem?_cons_zero, Option.bind_some]; rfl
theorem g5_45 : (run tb).code rd c5_45 (mk 139 f m) st = regB (evSteps tb (run tb) l5_45.1 (mk 139 f m) st) := gx_region e5_45 l5_45.2
theorem g5_46 : (run tb).code rd c5_46 (mk 139 f m) st = andThen ((run tb).code rd c5_47 (mk 139 f m) st) (fun fr st => (run tb).code rd c5_48 fr st) := gx_seq e5_46
noncomputable def l5_47 : { l : List Step // lightOf o5_47 = l } := by refine ⟨?_, ?h⟩; case h => simp only [lightOf, o5_47, opsOf, kid, bodyOf, Tryd.f5, Option.getD_some, List.map, stepOf, Option.map, List.getElem?_toArray, List.getElem?_cons_succ, List.getElem?_cons_zero, Option.bind_some]; rfl
theorem g5_47 : (run tb).code rd c5_47 (mk 139 f m) st = regB (evSteps tb (run tb) l5_47.1 (mk 139 f m) st) := gx_region e5_47 l5_47.2
theorem g5_48 : (run tb).code rd c5_48 (mk 139 f m) st = andThen ((run tb).code rd c5_49 (mk 139 f m) st) (fun fr st => (run tb).code rd c5_50 fr st) := gx_seq e5_48
noncomputable def l5_49 : { l : List Step // lightOf o5_49 = l } := by refine ⟨?_, ?h⟩; case h => simp only [lightOf, o5_49, opsOf, kid, bodyOf, Tryd.f5, Option.getD_some, List.map, stepOf, Option.map, List.getElem?_toArray, List.getElem?_cons_succ, List.getElem?_cons_zero, Option.bind_some]; rfl
theorem g5_49 : (run tb).code rd c5_49 (mk 139 f m) st = regB (evSteps tb (run tb) l5_49.1 (mk 139 f m) st) := gx_region e5_49 l5_49.2
theorem g5_50 : (run tb).code rd c5_50 (mk 139 f m) st = andThen ((run tb).code rd c5_51 (mk 139 f m) st) (fun fr st => (run tb).code rd c5_52 fr st) := gx_seq e5_50
noncomputable def l5_51 : { l : List Step // lightOf o5_51 = l } := by refine ⟨?_, ?h⟩; case h => simp only [lightOf, o5_51, opsOf, kid, bodyOf, Tryd.f5, Option.getD_some, List.map, stepOf, Option.map, List.getElem?_toArray, List.getElem?_cons_succ, List.getElem?_cons_zero, Option.bind_some]; rfl
theorem g5_51 : (run tb).code rd c5_51 (mk 139 f m) st = regB (evSteps tb (run tb) l5_51.1 (mk 139 f m) st) := gx_region e5_51 l5_51.2
theorem g5_52 : (run tb).code rd c5_52 (mk 139 f m) st = andThen ((run tb).code rd c5_53 (mk 139 f m) st) (fun fr st => (run tb).code rd c5_60 fr st) := gx_seq e5_52
theorem g5_53 : (run tb).code rd c5_53 (mk 139 f m) st = andThen ((run tb).code rd c5_54 (mk 139 f m) st) (fun fr st => (run tb).code rd c5_55 fr st) := gx_seq e5_53
noncomputable def l5_54 : { l : List Step // lightOf o5_54 = l } := by refine ⟨?_, ?h⟩; case h => simp only [lightOf, o5_54, opsOf, kid, bodyOf, Tryd.f5, Option.getD_some, List.map, stepOf, Option.map, List.getElem?_toArray, List.getElem?_cons_succ, List.getElem?_cons_zero, Option.bind_some]; rfl
theorem g5_54 : (run tb).code rd c5_54 (mk 139 f m) st = regB (evSteps tb (run tb) l5_54.1 (mk 139 f m) st) := gx_region e5_54 l5_54.2
theorem g5_55 : (run tb).code rd c5_55 (mk 139 f m) st = branch (f 71) (fun x => (run tb).code rd (sel x c5_56 c5_59) (mk 139 f m) st) := gx_cond e5_55 (by decide)
theorem g5_56 : (run tb).code rd c5_56 (mk 139 f m) st = andThen ((run tb).code rd c5_57 (mk 139 f m) st) (fun fr st => (run tb).code rd c5_58 fr st) := gx_seq e5_56
noncomputable def l5_57 : { l : List Step // lightOf o5_57 = l } := by refine ⟨?_, ?h⟩; case h => simp only [lightOf, o5_57, opsOf, kid, bodyOf, Tryd.f5, Option.getD_some, List.map, stepOf, Option.map, List.getElem?_toArray, List.getElem?_cons_succ, List.getElem?_cons_zero, Option.bind_some]; rfl
theorem g5_57 : (run tb).code rd c5_57 (mk 139 f m) st = regB (evSteps tb (run tb) l5_57.1 (mk 139 f m) st) := gx_region e5_57 l5_57.2
theorem g5_58 : (run tb).code rd c5_58 (mk 139 f m) st = some (.ret, mk 139 f m, st) := gx_ret e5_58
theorem g5_59 : (run tb).code rd c5_59 (mk 139 f m) st = some (.normal, mk 139 f m, st) := gx_skip e5_59
theorem g5_60 : (run tb).code rd c5_60 (mk 139 f m) st = andThen ((run tb).code rd c5_61 (mk 139 f m) st) (fun fr st => (run tb).code rd c5_62 fr st) := gx_seq e5_60
noncomputable def l5_61 : { l : List Step // lightOf o5_61 = l } := by refine ⟨?_, ?h⟩; case h => simp only [lightOf, o5_61, opsOf, kid, bodyOf, Tryd.f5, Option.getD_some, List.map, stepOf, Option.map, List.getElem?_toArray, List.getElem?_cons_succ, List.getElem?_cons_zero, Option.bind_some]; rfl
theorem g5_61 : (run tb).code rd c5_61 (mk 139 f m) st = regB (evSteps tb (run tb) l5_61.1 (mk 139 f m) st) := gx_region e5_61 l5_61.2
theorem g5_62 : (run tb).code rd c5_62 (mk 139 f m) st = andThen ((run tb).code rd c5_63 (mk 139 f m) st) (fun fr st => (run tb).code rd c5_64 fr st) := gx_seq e5_62
noncomputable def l5_63 : { l : List Step // lightOf o5_63 = l } := by refine ⟨?_, ?h⟩; case h => simp only [lightOf, o5_63, opsOf, kid, bodyOf, Tryd.f5, Option.getD_some, List.map, stepOf, Option.map, List.getElem?_toArray, List.getElem?_cons_succ, List.getElem?_cons_zero, Option.bind_some]; rfl
theorem g5_63 : (run tb).code rd c5_63 (mk 139 f m) st = regB (evSteps tb (run tb) l5_63.1 (mk 139 f m) st) := gx_region e5_63 l5_63.2
theorem g5_64 : (run tb).code rd c5_64 (mk 139 f m) st = andThen ((run tb).code rd c5_65 (mk 139 f m) st) (fun fr st => (run tb).code rd c5_66 fr st) := gx_seq e5_64
noncomputable def l5_65 : { l : List Step // lightOf o5_65 = l } := by refine ⟨?_, ?h⟩; case h => simp only [lightOf, o5_65, opsOf, kid, bodyOf, Tryd.f5, Option.getD_some, List.map, stepOf, Option.map, List.getElem?_toArray, List.getElem?_cons_succ, List.getElem?_cons_zero, Option.bind_some]; rfl
theorem g5_65 : (run tb).code rd c5_65 (mk 139 f m) st = regB (evSteps tb (run tb) l5_65.1 (mk 139 f m) st) := gx_region e5_65 l5_65.2
theorem g5_66 : (run tb).code rd c5_66 (mk 139 f m) st = some (.ret, mk 139 f m, st) := gx_ret e5_66
end Go.Proofs.YtgknieohkniojaaDoor
namespace Go.Proofs.YtgknieohkniojaaDoor
open Go.Abs
set_option maxRecDepth 100000
set_option linter.unusedSimpArgs false
set_option linter.unusedVariables false
set_option maxHeartbeats 4000000
theorem laws_walk (sa s1 s2 s3 s4 s5 u1 u2 u3 s6 u4 v1 v2 v3 : St) (p t b o a k : Nat) (ca cb cc cj : Bool) (nM nL nS nT nJ nST : Nat) (bd : Int) (nx ny : Bool) (xs ys : List Int) (st : St)
    (ha : (run tb).call 8 [] st = some (.bool true, sa)) (g1 : ¬ bd > 1000) (g2 : ¬ (60 : Int) < (xs.length : Int)) (g3 : ¬ (60 : Int) < (ys.length : Int))
    (h1 : (run tb).call 10 [.int .i64 bd, .list false (some nx) (ints xs)] sa = some (.ptr p 0, s1)) (h2 : (run tb).call 10 [.int .i64 bd, .list false (some ny) (ints ys)] s1 = some (.ptr t 0, s2))
    (k1 : (run tb).call 17 [.ptr p 0] s2 = some (.ptr b 0, s3)) (k2 : (run tb).call 17 [.ptr p 0] s3 = some (.ptr o 0, s4)) (k3 : (run tb).call 17 [.ptr p 0] s4 = some (.ptr a 0, s5))
    (m1 : (run tb).call 24 [.ptr b 0, .ptr t 0] s5 = some (.bool ca, u1)) (m2 : (run tb).call 25 [.ptr o 0, .ptr t 0] u1 = some (.bool cb, u2)) (m3 : (run tb).call 26 [.ptr a 0, .ptr t 0] u2 = some (.bool cc, u3))
    (k4 : (run tb).call 17 [.ptr o 0] u3 = some (.ptr k 0, s6)) (j : (run tb).call 26 [.ptr k 0, .ptr b 0] s6 = some (.bool cj, u4))
    (l1 : (run tb).call 16 [.ptr b 0] u4 = some (.int .i64 (nM : Nat), u4)) (l2 : (run tb).call 16 [.ptr o 0] u4 = some (.int .i64 (nL : Nat), u4)) (l3 : (run tb).call 16 [.ptr p 0] u4 = some (.int .i64 (nS : Nat), u4))
    (q1 : (run tb).call 22 [.ptr k 0, .ptr p 0] u4 = some (.bool true, v1)) (q2 : (run tb).call 23 [.ptr o 0, .ptr b 0] v1 = some (.bool true, v2)) (q3 : (run tb).call 23 [.ptr o 0, .ptr t 0] v2 = some (.bool true, v3))
    (e1 : (run tb).call 16 [.ptr a 0] v3 = some (.int .i64 (nJ : Nat), v3)) (e2 : (run tb).call 16 [.ptr p 0] v3 = some (.int .i64 (nS : Nat), v3)) (e3 : (run tb).call 16 [.ptr t 0] v3 = some (.int .i64 (nT : Nat), v3)) (e4 : (run tb).call 16 [.ptr b 0] v3 = some (.int .i64 (nM : Nat), v3)) (e5 : (run tb).call 16 [.ptr o 0] v3 = some (.int .i64 (nL : Nat), v3))
    (a1 : intBin .add .i64 (nM : Nat) (nL : Nat) = some (.int .i64 (nS : Nat))) (a2 : intBin .add .i64 (nS : Nat) (nT : Nat) = some (.int .i64 (nST : Nat))) (a3 : intBin .sub .i64 (nST : Nat) (nM : Nat) = some (.int .i64 (nJ : Nat)))
    (w1 : decide (nM < nS) = ca) (w2 : decide (nL < nS) = cb) (w3 : decide (nS < nJ) = cc) :
    (run tb).call 5 [.int .i64 bd, .list false (some nx) (ints xs), .list false (some ny) (ints ys)] st = some (.bool true, v3) := by
  rw [run5 (by simp)]
  simp [g5_0, g5_1, g5_2, g5_3, g5_4, g5_5, g5_6, g5_7, g5_8, g5_9, g5_10, g5_11, g5_12, g5_13, g5_14, g5_15, g5_16, g5_17, g5_18, g5_19, g5_20, g5_21, g5_22, g5_23, g5_24, g5_25, g5_26, g5_27, g5_28, g5_29, g5_30, g5_31, g5_32, g5_33, g5_34, g5_35, g5_36, g5_37, g5_38, g5_39, g5_40, g5_41, g5_42, g5_43, g5_44, g5_45, g5_46, g5_47, g5_48, g5_49, g5_50, g5_51, g5_52, g5_53, g5_54, g5_55, g5_56, g5_57, g5_58, g5_59, g5_60, g5_61, g5_62, g5_63, g5_64, g5_65, g5_66, l5_1, l5_4, l5_7, l5_12, l5_15, l5_19, l5_21, l5_24, l5_27, l5_31, l5_33, l5_35, l5_38, l5_41, l5_45, l5_47, l5_49, l5_51, l5_54, l5_57, l5_61, l5_63, l5_65, steps_nil, steps_cons, draws_nil, draws_cons, step_mk, stepB_some, stepB_none, memB_mk, thenS_some, regB_some, branch_bool, sel_true, sel_false, wanted_none, wanted_some, asB, mk_put, mk_put_none, arg_tmp, arg_const, arg_func, arg_global, upd_same, upd_ne, evPure, evArgs, m_load, m_store, m_alloc, m_box, m_call, m_lookup, m_mapUpdate, m_inv, evLoad, readCells, evFieldAddr, evIndexAddr, asIdx, ofValue, isPure, evBin, ib_lss, ib_leq, ib_gtr, ib_geq, ib_eql, ib_neq, evUn, leave_normal, leave_ret, finish, then_normal, then_exit, then_ret, close_normal, close_exit, close_ret, evConv, mk_marks, dropMarks, resOf, resList, mk_getD, argF, List.getD_cons_zero, List.getD_cons_succ, V.cells, evLen, kdOp, kdOf, readsOf, protS, eq_bool, eq_nil28, evStore, V.oneCell, putElem, splice, -List.getD_eq_getElem?_getD, -getElem?_pos, und55, und53, und22, size3, size53, size58, size22, ty3, ty4, ty53, ty58, ty22, ha, g1, g2, g3, ints_len, h1, h2, k1, k2, k3, m1, m2, m3, k4, j, l1, l2, l3, q1, q2, q3, e1, e2, e3, e4, e5, a1, a2, a3, w1, w2, w3]
theorem cnt_sub {A S : Nat → Bool} : ∀ n, (∀ i, i < n → A i = true → S i = true) → cnt A n ≤ cnt S n ∧ (cnt A n = cnt S n → ∀ i, i < n → S i = A i)
  | 0, _ => ⟨Nat.le_refl _, fun _ i hi => absurd hi (Nat.not_lt_zero _)⟩
  | n + 1, h => by
    obtain ⟨h1, h2⟩ := cnt_sub n fun i hi => h i (by omega)
    have h3 := h n (by omega)
    simp only [cnt]
    cases ha : A n with
    | true =>
      rw [h3 ha]
      simp only [if_true]
      refine ⟨by omega, fun he i hi => ?_⟩
      by_cases e : i = n
      · subst e; rw [ha, h3 ha]
      · exact h2 (by omega) i (by omega)
    | false =>
      cases hs : S n with
      | true => simp only [if_true, Bool.false_eq_true, if_false]; exact ⟨by omega, fun he => by omega⟩
      | false =>
        simp only [Bool.false_eq_true, if_false]
        refine ⟨by omega, fun he i hi => ?_⟩
        by_cases e : i = n
        · subst e; rw [ha, hs]
        · exact h2 (by omega) i (by omega)
theorem cnt_lt_iff {A S : Nat → Bool} {n : Nat} (h : ∀ i, A i = true → S i = true) (hA : ∀ i, n ≤ i → A i = false) (hS : ∀ i, n ≤ i → S i = false) : decide (cnt A n < cnt S n) = false ↔ ∀ i, S i = A i := by
  obtain ⟨h1, h2⟩ := cnt_sub n fun i _ => h i
  rw [decide_eq_false_iff_not]
  constructor
  · intro hn i
    by_cases hi : i < n
    · exact h2 (by omega) i hi
    · rw [hA i (by omega), hS i (by omega)]
  · intro he
    rw [cnt_congr fun i _ => he i]
    omega
theorem cnt_split (S T : Nat → Bool) : ∀ n, cnt (fun i => S i && T i) n + cnt (fun i => S i && !T i) n = cnt S n
  | 0 => rfl
  | n + 1 => by
    have := cnt_split S T n
    simp only [cnt]
    by_cases hs : S n = true <;> by_cases ht : T n = true <;> simp [hs, ht] <;> omega
theorem cnt_union (S T : Nat → Bool) : ∀ n, cnt (fun i => S i || T i) n + cnt (fun i => S i && T i) n = cnt S n + cnt T n
  | 0 => rfl
  | n + 1 => by
    have := cnt_union S T n
    simp only [cnt]
    by_cases hs : S n = true <;> by_cases ht : T n = true <;> simp [hs, ht] <;> omega
theorem turned_eq {b : Nat} {op : Bool → Bool → Bool} {S T : Nat → Bool} (h0 : op false false = false) (hS : ∀ i, b ≤ i → S i = false) (hT : ∀ i, b ≤ i → T i = false) : turned b op S T = fun i => op (S i) (T i) := by
  funext i
  unfold turned
  by_cases hi : i < b
  · simp [hi]
  · rw [hS i (by omega), hT i (by omega), h0]; simp
theorem putW_len {st : St} {rv b : Nat} {S : Nat → Bool} : (putW st rv b S).store.length = st.store.length := by unfold putW; simp
theorem newSt_len {st : St} {b : Nat} {S : Nat → Bool} : (newSt st b S).store.length = st.store.length + 2 := by unfold newSt; simp
theorem putW_ok {st : St} {rv b : Nat} {S : Nat → Bool} (h : okSt st) : okSt (putW st rv b S) := ⟨by rw [putW_len]; exact h.1, fun r hr => by rw [putW_len]; exact h.2 r hr⟩
theorem free_of {st : St} {rv : Nat} (h1 : st.base = 0) (h2 : st.prot = []) : Free st rv := ⟨by omega, by rw [h2]; simp⟩
theorem laws_run (bd : Int) (nx ny : Bool) (xs ys : List Int) : ∃ st', (run tb).call 5 [.int .i64 bd, .list false (some nx) (ints xs), .list false (some ny) (ints ys)] st0 = some (.bool true, st') := by
  obtain ⟨sa, ha, hb0, hp0⟩ := alive_st
  have ha := run_call_of ha
  have hok : okSt sa := ⟨by omega, by rw [hp0]; simp⟩
  by_cases g1 : bd > 1000
  · refine ⟨sa, ?_⟩
    rw [run5 (by simp)]
    simp [g5_0, g5_1, g5_2, g5_3, g5_4, g5_5, g5_6, g5_7, g5_8, g5_9, g5_10, g5_11, g5_12, g5_13, g5_14, g5_15, g5_16, g5_17, l5_1, l5_4, l5_7, l5_12, l5_15, steps_nil, steps_cons, draws_nil, draws_cons, step_mk, stepB_some, stepB_none, memB_mk, thenS_some, regB_some, branch_bool, sel_true, sel_false, wanted_none, wanted_some, asB, mk_put, mk_put_none, arg_tmp, arg_const, arg_func, arg_global, upd_same, upd_ne, evPure, evArgs, m_load, m_store, m_alloc, m_box, m_call, m_lookup, m_mapUpdate, m_inv, evLoad, readCells, evFieldAddr, evIndexAddr, asIdx, ofValue, isPure, evBin, ib_lss, ib_leq, ib_gtr, ib_geq, ib_eql, ib_neq, evUn, leave_normal, leave_ret, finish, then_normal, then_exit, then_ret, close_normal, close_exit, close_ret, evConv, mk_marks, dropMarks, resOf, resList, mk_getD, argF, List.getD_cons_zero, List.getD_cons_succ, V.cells, evLen, kdOp, kdOf, readsOf, protS, eq_bool, eq_nil28, evStore, V.oneCell, putElem, splice, -List.getD_eq_getElem?_getD, -getElem?_pos, und55, und53, und22, size3, size53, size58, size22, ty3, ty4, ty53, ty58, ty22, ha, g1, ints_len]
  · by_cases g2 : xs.length > 60
    · refine ⟨sa, ?_⟩
      have g2' : (60 : Int) < (xs.length : Int) := by omega
      rw [run5 (by simp)]
      simp [g5_0, g5_1, g5_2, g5_3, g5_4, g5_5, g5_6, g5_7, g5_8, g5_9, g5_10, g5_11, g5_12, g5_13, g5_14, g5_15, g5_16, g5_17, l5_1, l5_4, l5_7, l5_12, l5_15, steps_nil, steps_cons, draws_nil, draws_cons, step_mk, stepB_some, stepB_none, memB_mk, thenS_some, regB_some, branch_bool, sel_true, sel_false, wanted_none, wanted_some, asB, mk_put, mk_put_none, arg_tmp, arg_const, arg_func, arg_global, upd_same, upd_ne, evPure, evArgs, m_load, m_store, m_alloc, m_box, m_call, m_lookup, m_mapUpdate, m_inv, evLoad, readCells, evFieldAddr, evIndexAddr, asIdx, ofValue, isPure, evBin, ib_lss, ib_leq, ib_gtr, ib_geq, ib_eql, ib_neq, evUn, leave_normal, leave_ret, finish, then_normal, then_exit, then_ret, close_normal, close_exit, close_ret, evConv, mk_marks, dropMarks, resOf, resList, mk_getD, argF, List.getD_cons_zero, List.getD_cons_succ, V.cells, evLen, kdOp, kdOf, readsOf, protS, eq_bool, eq_nil28, evStore, V.oneCell, putElem, splice, -List.getD_eq_getElem?_getD, -getElem?_pos, und55, und53, und22, size3, size53, size58, size22, ty3, ty4, ty53, ty58, ty22, ha, g1, g2', ints_len]
    · have g2' : ¬ (60 : Int) < (xs.length : Int) := by omega
      by_cases g3 : ys.length > 60
      · refine ⟨sa, ?_⟩
        have g3' : (60 : Int) < (ys.length : Int) := by omega
        rw [run5 (by simp)]
        simp [g5_0, g5_1, g5_2, g5_3, g5_4, g5_5, g5_6, g5_7, g5_8, g5_9, g5_10, g5_11, g5_12, g5_13, g5_14, g5_15, g5_16, g5_17, l5_1, l5_4, l5_7, l5_12, l5_15, steps_nil, steps_cons, draws_nil, draws_cons, step_mk, stepB_some, stepB_none, memB_mk, thenS_some, regB_some, branch_bool, sel_true, sel_false, wanted_none, wanted_some, asB, mk_put, mk_put_none, arg_tmp, arg_const, arg_func, arg_global, upd_same, upd_ne, evPure, evArgs, m_load, m_store, m_alloc, m_box, m_call, m_lookup, m_mapUpdate, m_inv, evLoad, readCells, evFieldAddr, evIndexAddr, asIdx, ofValue, isPure, evBin, ib_lss, ib_leq, ib_gtr, ib_geq, ib_eql, ib_neq, evUn, leave_normal, leave_ret, finish, then_normal, then_exit, then_ret, close_normal, close_exit, close_ret, evConv, mk_marks, dropMarks, resOf, resList, mk_getD, argF, List.getD_cons_zero, List.getD_cons_succ, V.cells, evLen, kdOp, kdOf, readsOf, protS, eq_bool, eq_nil28, evStore, V.oneCell, putElem, splice, -List.getD_eq_getElem?_getD, -getElem?_pos, und55, und53, und22, size3, size53, size58, size22, ty3, ty4, ty53, ty58, ty22, ha, g1, g2', g3', ints_len]
      · have g3' : ¬ (60 : Int) < (ys.length : Int) := by omega
        obtain ⟨b, hcb⟩ : ∃ b : Nat, max 0 (min bd 65536) = (b : Int) := ⟨(max 0 (min bd 65536)).toNat, by omega⟩
        have hb : b ≤ 1000 := by omega
        have h1 := new_run sa bd b false (some nx) xs (by omega) hok hcb
        have hzS := addAll_z (b := b) xs (S := emptyS) (fun _ _ => rfl)
        have hzT := addAll_z (b := b) ys (S := emptyS) (fun _ _ => rfl)
        generalize addAll b emptyS xs = S at *
        have c1 : SetAt _ _ _ b S := newSt_set (st := sa) (by omega) hzS
        have n1 : (newSt sa b S).store.length = _ := newSt_len
        have b1 : (newSt sa b S).base = 0 := hb0
        have p1 : (newSt sa b S).prot = [] := hp0
        have o1 := Grows.ok hok (newSt_grows sa b S)
        generalize newSt sa b S = s1 at *
        have h2 := new_run s1 bd b false (some ny) ys (by omega) o1 hcb
        generalize addAll b emptyS ys = T at *
        have g := newSt_grows s1 b T
        have c1 := c1.grow g
        have c2 : SetAt _ _ _ b T := newSt_set (st := s1) (by omega) hzT
        have n2 : (newSt s1 b T).store.length = _ := newSt_len
        have b2 : (newSt s1 b T).base = 0 := b1
        have p2 : (newSt s1 b T).prot = [] := p1
        have o2 := Grows.ok o1 g
        clear g
        generalize newSt s1 b T = s2 at *
        have k1 := clone_run s2 o2 _ _ b S c1
        have g := newSt_grows s2 b S
        have c1 := c1.grow g; have c2 := c2.grow g
        have c3 : SetAt _ _ _ b S := newSt_set (st := s2) (by omega) hzS
        have n3 : (newSt s2 b S).store.length = _ := newSt_len
        have b3 : (newSt s2 b S).base = 0 := b2
        have p3 : (newSt s2 b S).prot = [] := p2
        have o3 := Grows.ok o2 g
        clear g
        generalize newSt s2 b S = s3 at *
        have k2 := clone_run s3 o3 _ _ b S c1
        have g := newSt_grows s3 b S
        have c1 := c1.grow g; have c2 := c2.grow g; have c3 := c3.grow g
        have c4 : SetAt _ _ _ b S := newSt_set (st := s3) (by omega) hzS
        have n4 : (newSt s3 b S).store.length = _ := newSt_len
        have b4 : (newSt s3 b S).base = 0 := b3
        have p4 : (newSt s3 b S).prot = [] := p3
        have o4 := Grows.ok o3 g
        clear g
        generalize newSt s3 b S = s4 at *
        have k3 := clone_run s4 o4 _ _ b S c1
        have g := newSt_grows s4 b S
        have c1 := c1.grow g; have c2 := c2.grow g; have c3 := c3.grow g; have c4 := c4.grow g
        have c5 : SetAt _ _ _ b S := newSt_set (st := s4) (by omega) hzS
        have n5 : (newSt s4 b S).store.length = _ := newSt_len
        have b5 : (newSt s4 b S).base = 0 := b4
        have p5 : (newSt s4 b S).prot = [] := p4
        have o5 := Grows.ok o4 g
        clear g
        generalize newSt s4 b S = s5 at *
        have zM : ∀ i, b ≤ i → (S i && T i) = false := fun i hi => by rw [hzS i hi]; rfl
        have zL : ∀ i, b ≤ i → (S i && !T i) = false := fun i hi => by rw [hzS i hi]; rfl
        have zJ : ∀ i, b ≤ i → (S i || T i) = false := fun i hi => by rw [hzS i hi, hzT i hi]; rfl
        have tM : turned b (fun x y => x && y) S T = fun i => S i && T i := turned_eq rfl hzS hzT
        have tL : turned b (fun x y => x && !y) S T = fun i => S i && !T i := turned_eq rfl hzS hzT
        have tJ : turned b (fun x y => x || y) S T = fun i => S i || T i := turned_eq rfl hzS hzT
        have m1 := meet_run _ _ _ _ b b S T s5 c3 c2 (free_of b5 p5) (by omega) (decide (cnt (fun i => S i && T i) b < cnt S b)) (by rw [tM]; exact cnt_lt_iff (fun i h => by revert h; cases S i <;> simp) zM hzS)
        rw [tM] at m1
        have d3 : SetAt (putW s5 s2.store.length b (fun i => S i && T i)) _ _ b (fun i => S i && T i) := c3.put zM
        have d1 : SetAt (putW s5 s2.store.length b (fun i => S i && T i)) _ _ b S := c1.keep c3 (by omega)
        have d2 : SetAt (putW s5 s2.store.length b (fun i => S i && T i)) _ _ b T := c2.keep c3 (by omega)
        have d4 : SetAt (putW s5 s2.store.length b (fun i => S i && T i)) _ _ b S := c4.keep c3 (by omega)
        have d5 : SetAt (putW s5 s2.store.length b (fun i => S i && T i)) _ _ b S := c5.keep c3 (by omega)
        have b6 : (putW s5 s2.store.length b (fun i => S i && T i)).base = 0 := b5
        have p6 : (putW s5 s2.store.length b (fun i => S i && T i)).prot = [] := p5
        have n6 : (putW s5 s2.store.length b (fun i => S i && T i)).store.length = _ := putW_len
        have o6 : okSt (putW s5 s2.store.length b (fun i => S i && T i)) := putW_ok o5
        generalize putW s5 s2.store.length b (fun i => S i && T i) = u1 at *
        have m2 := less_run _ _ _ _ b b S T u1 d4 d2 (free_of b6 p6) (by omega) (decide (cnt (fun i => S i && !T i) b < cnt S b)) (by rw [tL]; exact cnt_lt_iff (fun i h => by revert h; cases S i <;> simp) zL hzS)
        rw [tL] at m2
        have e4 : SetAt (putW u1 s3.store.length b (fun i => S i && !T i)) _ _ b (fun i => S i && !T i) := d4.put zL
        have e1 : SetAt (putW u1 s3.store.length b (fun i => S i && !T i)) _ _ b S := d1.keep d4 (by omega)
        have e2 : SetAt (putW u1 s3.store.length b (fun i => S i && !T i)) _ _ b T := d2.keep d4 (by omega)
        have e3 : SetAt (putW u1 s3.store.length b (fun i => S i && !T i)) _ _ b (fun i => S i && T i) := d3.keep d4 (by omega)
        have e5 : SetAt (putW u1 s3.store.length b (fun i => S i && !T i)) _ _ b S := d5.keep d4 (by omega)
        have b7 : (putW u1 s3.store.length b (fun i => S i && !T i)).base = 0 := b6
        have p7 : (putW u1 s3.store.length b (fun i => S i && !T i)).prot = [] := p6
        have n7 : (putW u1 s3.store.length b (fun i => S i && !T i)).store.length = _ := putW_len
        have o7 : okSt (putW u1 s3.store.length b (fun i => S i && !T i)) := putW_ok o6
        generalize putW u1 s3.store.length b (fun i => S i && !T i) = u2 at *
        have m3 := join_run _ _ _ _ b b S T u2 e5 e2 (free_of b7 p7) (by omega) (decide (cnt S b < cnt (fun i => S i || T i) b)) (by
          rw [tJ]
          have := cnt_lt_iff (A := S) (S := fun i => S i || T i) (n := b) (fun i h => by simp [h]) hzS zJ
          rw [this]
          exact ⟨fun h i => (h i).symm, fun h i => (h i).symm⟩)
        rw [tJ] at m3
        have f5 : SetAt (putW u2 s4.store.length b (fun i => S i || T i)) _ _ b (fun i => S i || T i) := e5.put zJ
        have f1 : SetAt (putW u2 s4.store.length b (fun i => S i || T i)) _ _ b S := e1.keep e5 (by omega)
        have f2 : SetAt (putW u2 s4.store.length b (fun i => S i || T i)) _ _ b T := e2.keep e5 (by omega)
        have f3 : SetAt (putW u2 s4.store.length b (fun i => S i || T i)) _ _ b (fun i => S i && T i) := e3.keep e5 (by omega)
        have f4 : SetAt (putW u2 s4.store.length b (fun i => S i || T i)) _ _ b (fun i => S i && !T i) := e4.keep e5 (by omega)
        have b8 : (putW u2 s4.store.length b (fun i => S i || T i)).base = 0 := b7
        have p8 : (putW u2 s4.store.length b (fun i => S i || T i)).prot = [] := p7
        have n8 : (putW u2 s4.store.length b (fun i => S i || T i)).store.length = _ := putW_len
        have o8 : okSt (putW u2 s4.store.length b (fun i => S i || T i)) := putW_ok o7
        generalize putW u2 s4.store.length b (fun i => S i || T i) = u3 at *
        have k4 := clone_run u3 o8 _ _ b _ f4
        have g := newSt_grows u3 b (fun i => S i && !T i)
        have f1 := f1.grow g; have f2 := f2.grow g; have f3 := f3.grow g; have f4 := f4.grow g; have f5 := f5.grow g
        have f6 : SetAt _ _ _ b (fun i => S i && !T i) := newSt_set (st := u3) (by omega) zL
        have b9 : (newSt u3 b (fun i => S i && !T i)).base = 0 := b8
        have p9 : (newSt u3 b (fun i => S i && !T i)).prot = [] := p8
        have n9 : (newSt u3 b (fun i => S i && !T i)).store.length = _ := newSt_len
        have o9 := Grows.ok o8 g
        clear g
        generalize newSt u3 b (fun i => S i && !T i) = s6 at *
        have tB : turned b (fun x y => x || y) (fun i => S i && !T i) (fun i => S i && T i) = S := by
          rw [turned_eq rfl zL zM]
          funext i
          cases S i <;> cases T i <;> rfl
        obtain ⟨cj, hcj⟩ : ∃ c : Bool, c = false ↔ ∀ i, (fun i => S i && !T i) i = turned b (fun x y => x || y) (fun i => S i && !T i) (fun i => S i && T i) i := by
          classical
          exact ⟨!decide (∀ i, (fun i => S i && !T i) i = turned b (fun x y => x || y) (fun i => S i && !T i) (fun i => S i && T i) i), by simp⟩
        have j := join_run _ _ _ _ b b _ _ s6 f6 f3 (free_of b9 p9) (by omega) cj hcj
        rw [tB] at j
        have r6 : SetAt (putW s6 u3.store.length b S) _ _ b S := f6.put hzS
        have r1 : SetAt (putW s6 u3.store.length b S) _ _ b S := f1.keep f6 (by omega)
        have r2 : SetAt (putW s6 u3.store.length b S) _ _ b T := f2.keep f6 (by omega)
        have r3 : SetAt (putW s6 u3.store.length b S) _ _ b (fun i => S i && T i) := f3.keep f6 (by omega)
        have r4 : SetAt (putW s6 u3.store.length b S) _ _ b (fun i => S i && !T i) := f4.keep f6 (by omega)
        have r5 : SetAt (putW s6 u3.store.length b S) _ _ b (fun i => S i || T i) := f5.keep f6 (by omega)
        have oA : okSt (putW s6 u3.store.length b S) := putW_ok o9
        generalize putW s6 u3.store.length b S = u4 at *
        have l1 := len_run _ _ _ _ _ r3
        have l2 := len_run _ _ _ _ _ r4
        have l3 := len_run _ _ _ _ _ r1
        obtain ⟨v1, q1, w1⟩ := same_eq u4 oA _ _ _ _ _ _ S S r6 r1 true (by simp)
        have r1 := r1.grow w1; have r2 := r2.grow w1; have r3 := r3.grow w1; have r4 := r4.grow w1; have r5 := r5.grow w1; have oB := Grows.ok oA w1
        obtain ⟨v2, q2, w2⟩ := apart_eq v1 oB _ _ _ _ _ _ _ _ r4 r3 true (by
          simp only [true_iff]
          intro i
          cases S i <;> cases T i <;> rfl)
        have r1 := r1.grow w2; have r2 := r2.grow w2; have r3 := r3.grow w2; have r4 := r4.grow w2; have r5 := r5.grow w2; have oC := Grows.ok oB w2
        obtain ⟨v3, q3, w3⟩ := apart_eq v2 oC _ _ _ _ _ _ _ _ r4 r2 true (by
          simp only [true_iff]
          intro i
          cases S i <;> cases T i <;> rfl)
        have r1 := r1.grow w3; have r2 := r2.grow w3; have r3 := r3.grow w3; have r4 := r4.grow w3; have r5 := r5.grow w3
        have x1 := cnt_split S T b
        have x2 := cnt_union S T b
        have y1 := cnt_le S b
        have y2 := cnt_le T b
        refine ⟨v3, laws_walk sa s1 s2 s3 s4 s5 u1 u2 u3 s6 u4 v1 v2 v3 _ _ _ _ _ _ _ _ _ cj _ _ _ _ _ (cnt S b + cnt T b) bd nx ny xs ys st0 ha g1 g2' g3' h1 h2 k1 k2 k3 m1 m2 m3 k4 j l1 l2 l3 q1 q2 q3 (len_run _ _ _ _ _ r5) (len_run _ _ _ _ _ r1) (len_run _ _ _ _ _ r2) (len_run _ _ _ _ _ r3) (len_run _ _ _ _ _ r4) ?_ ?_ ?_ rfl rfl rfl⟩
        · rw [add64 (by omega) (by omega)]; congr 2; omega
        · rw [add64 (by omega) (by omega)]; simp
        · rw [sub64 (by omega) (by omega)]; congr 2; omega
end Go.Proofs.YtgknieohkniojaaDoor
namespace Go.Proofs.YtgknieohkniojaaDoor
open Go Go.Abs Go.ChangeShapes Go.WideShapes Go.RowKit
set_option maxRecDepth 100000
theorem laws_args (xs : List V) (hl : xs.length = Tryd.f5.params.toList.length) (hs : ∀ (j : Nat) t x, Tryd.f5.params.toList[j]? = some t → xs[j]? = some x → ∃ n, Shaped Tryd.prog n t x) : ∃ st', (run tb).call 5 xs st0 = some (.bool true, st') := by
  rw [Tryd.params5] at hl hs
  obtain ⟨x0, x1, x2, rfl⟩ : ∃ x0 x1 x2, xs = [x0, x1, x2] := by
    rcases xs with _ | ⟨x0, _ | ⟨x1, _ | ⟨x2, _ | ⟨z, r⟩⟩⟩⟩
    · simp at hl
    · simp at hl
    · simp at hl
    · exact ⟨x0, x1, x2, rfl⟩
    · simp at hl
  obtain ⟨n0, h0⟩ := hs 0 3 x0 rfl rfl
  obtain ⟨n1, h1⟩ := hs 1 22 x1 rfl rfl
  obtain ⟨n2, h2⟩ := hs 2 22 x2 rfl rfl
  obtain ⟨i0, rfl, b0⟩ := shaped_int Tryd.underlying3 h0
  obtain ⟨nl1, is1, rfl, l1, b1⟩ := shaped_ints Tryd.underlying22 Tryd.underlying3 h1
  obtain ⟨nl2, is2, rfl, l2, b2⟩ := shaped_ints Tryd.underlying22 Tryd.underlying3 h2
  exact laws_run i0 nl1 nl2 is1 is2
theorem laws_lifted (os : Os) (started : os.Started) (H : Type) (enc : TypeId × Value → H) :
    ReturnsInHanded {} Tryd.checked os 5 .any (fun w args => (Rows.bitsLawsSpec.pre enc Tryd.prog Tryd.f5 [] false w args ∧ laidMetH Tryd.prog Rows.bitsLawsRow.laid w) ∧ sizedMet enc Tryd.prog Tryd.f5 (OpenSpec.ofChange Rows.bitsLawsSpec) false w args)
      (Rows.bitsLawsSpec.post enc Tryd.prog Tryd.f5 false true false false) :=
  lifted (C := Tryd.checked) tb_fits Tryd.laidOut Tryd.own started (fun W h => glob_ok h) (by kernel_rfl) Tryd.func5 rfl Tryd.underlying4 rfl [3, 22, 25, 23] types_ok (by kernel_rfl)
    (fun ds h => by
      rw [show Tryd.f5.params.toList = [3, 22, 22] from by rw [Tryd.params5]] at h
      rcases ds with _ | ⟨x0, _ | ⟨x1, _ | ⟨x2, _ | ⟨z, r⟩⟩⟩⟩
      · simp at h
      · simp at h
      · simp at h
      · rfl
      · simp at h)
    laws_args
    (ChangeSpec.witness_at (enc := enc) (C := Tryd.checked) (os := os) (X := fun w _ => laidMetH Tryd.prog Rows.bitsLawsRow.laid w) false (laidWorld os) #[.int .i64 0, .slice none 0 0, .slice none 0 0] 8 rfl (by kernel_rfl) (by kernel_rfl) (by kernel_rfl) (by kernel_rfl) (by kernel_rfl) (laidWorld_met os _))
theorem laws_holds : Rows.BitsLawsSaid :=
  OpenClaim.holds_of_wide 5 Tryd.f5 rfl rfl rfl rfl rfl rfl rfl ⟨rfl, rfl, rfl, rfl, rfl⟩ rfl rfl rfl rfl rfl (by kernel_rfl) Tryd.func5 (by kernel_rfl)
    (of_decide_eq_true (by kernel_rfl)) (by unfold Func.isWrapper; rw [if_neg (of_decide_eq_false (by kernel_rfl))]; exact ⟨rfl, rfl⟩)
    (fun os started H enc _ => laws_lifted os started H enc)
theorem laws_plain : ∀ t, t ∈ [3, 22, 22] → Tryd.prog.wantsStandIn t = false := by
  intro t ht
  have h : ([3, 22, 22].all fun t => Tryd.prog.wantsStandIn t == false) = true := by kernel_rfl
  exact eq_of_beq (List.all_eq_true.1 h t ht)
theorem laws_card : Rows.BitsLawsCardSaid :=
  Claim7.holds_tied_plain_at .later [] [.data] true (true, "9295b955cc89ea01dc10a212d3bb8874e736bfb4ce157a7f326887aee0c80cde") false
    laws_holds (fun _ h => by cases h) (by kernel_rfl) (fun _ h => by cases h) bitsLaws_row_tie rfl ⟨rfl, rfl⟩ (by kernel_rfl) rfl
    (fun f fn hf hfn => by
      obtain rfl : f = 5 := Option.some.inj ((show Tryd.prog.funcNamed "drogue/droguelaw02.BitsLaws" = some 5 by kernel_rfl).symm.trans hf) |>.symm
      obtain rfl : fn = Tryd.f5 := (Option.some.inj (Tryd.func5.symm.trans hfn)).symm
      exact ⟨by kernel_rfl, fun j t ht => laws_plain t (by
        rw [Tryd.params5] at ht
        exact List.mem_of_getElem? (i := j) (by simpa using ht))⟩)
    (by kernel_rfl)
end Go.Proofs.YtgknieohkniojaaDoor
