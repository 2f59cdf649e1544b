/- The parts of the functions: names for the places of their code. The walks: do, call by call. do, told of sets. The law BitsCalls, walked. The law BitsCalls, whole. BitsCalls: the row, the card. -/
import Derived.Test.YtgknieohkniojaaDoorSet
import Derived.Test.YtgknieohkniojaaDoorFwF
import Derived.Test.YtgknieohkniojaaDoorRef
import Derived.Test.YtgknieohkniojaaDoorTurn
import Derived.Test.YtgknieohkniojaaDoorCards
import Derived.Test.YtgknieohkniojaaDoorTie
import Derived.SevenTiedAt
set_option linter.unusedVariables false
set_option linter.unusedSimpArgs false
set_option linter.unnecessarySimpa false
set_option linter.all false
namespace Go.Proofs.YtgknieohkniojaaDoor
open Go.Abs
set_option maxRecDepth 1000000
set_option linter.unusedSimpArgs false
variable {rd : Option Nat} {f : Nat → V} {m : List Nat} {st : St}
noncomputable def c3_0 : Code := bodyOf Tryd.f3
theorem b3 : Tryd.f3.body = some c3_0 := rfl
theorem n3 : Tryd.f3.ntmps = 108 := rfl
theorem r3 : Tryd.f3.results = #[.tmp 10] := rfl
theorem fn3 : tb.fn 3 = some Tryd.f3 := by rw [tb_eq]; exact Tryd.func3
theorem run3 {args : List V} {st : St} (ha : args.length ≤ 108) : (run tb).call 3 args st = leave tb [.tmp 10] ((run tb).code none c3_0 (mk 108 (argF args) []) st) := call_run fn3 (tbmode 3) b3 n3 r3 ha
noncomputable def c3_1 : Code := kid c3_0 0
noncomputable def c3_2 : Code := kid c3_0 1
noncomputable def c3_3 : Code := kid c3_2 0
noncomputable def c3_4 : Code := kid c3_3 0
noncomputable def c3_5 : Code := kid c3_3 1
noncomputable def c3_6 : Code := kid c3_5 0
noncomputable def c3_7 : Code := kid c3_6 0
noncomputable def c3_8 : Code := kid c3_6 1
noncomputable def c3_9 : Code := kid c3_5 1
noncomputable def c3_10 : Code := kid c3_2 1
noncomputable def c3_11 : Code := kid c3_10 0
noncomputable def c3_12 : Code := kid c3_11 0
noncomputable def c3_13 : Code := kid c3_11 1
noncomputable def c3_14 : Code := kid c3_13 0
noncomputable def c3_15 : Code := kid c3_14 0
noncomputable def c3_16 : Code := kid c3_14 1
noncomputable def c3_17 : Code := kid c3_13 1
noncomputable def c3_18 : Code := kid c3_10 1
noncomputable def c3_19 : Code := kid c3_18 0
noncomputable def c3_20 : Code := kid c3_18 1
noncomputable def c3_21 : Code := kid c3_20 0
noncomputable def c3_22 : Code := kid c3_20 1
noncomputable def c3_23 : Code := kid c3_22 0
noncomputable def c3_24 : Code := kid c3_23 0
noncomputable def c3_25 : Code := kid c3_23 1
noncomputable def c3_26 : Code := kid c3_25 0
noncomputable def c3_27 : Code := kid c3_26 0
noncomputable def c3_28 : Code := kid c3_26 1
noncomputable def c3_29 : Code := kid c3_25 1
noncomputable def c3_30 : Code := kid c3_22 1
noncomputable def c3_31 : Code := kid c3_30 0
noncomputable def c3_32 : Code := kid c3_31 0
noncomputable def c3_33 : Code := kid c3_31 1
noncomputable def c3_34 : Code := kid c3_33 0
noncomputable def c3_35 : Code := kid c3_34 0
noncomputable def c3_36 : Code := kid c3_35 0
noncomputable def c3_37 : Code := kid c3_36 0
noncomputable def c3_38 : Code := kid c3_36 1
noncomputable def c3_39 : Code := kid c3_38 0
noncomputable def c3_40 : Code := kid c3_38 1
noncomputable def c3_41 : Code := kid c3_35 1
noncomputable def c3_42 : Code := kid c3_41 0
noncomputable def c3_43 : Code := kid c3_42 0
noncomputable def c3_44 : Code := kid c3_43 0
noncomputable def c3_45 : Code := kid c3_43 1
noncomputable def c3_46 : Code := kid c3_45 0
noncomputable def c3_47 : Code := kid c3_46 0
noncomputable def c3_48 : Code := kid c3_46 1
noncomputable def c3_49 : Code := kid c3_45 1
noncomputable def c3_50 : Code := kid c3_41 1
noncomputable def c3_51 : Code := kid c3_30 1
noncomputable def c3_52 : Code := kid c3_51 0
noncomputable def c3_53 : Code := kid c3_51 1
noncomputable def c3_54 : Code := kid c3_53 0
noncomputable def c3_55 : Code := kid c3_53 1
noncomputable def o3_1 : Array Oper := opsOf (kid (bodyOf Tryd.f3) 0)
noncomputable def o3_4 : Array Oper := opsOf (kid (kid (kid (bodyOf Tryd.f3) 1) 0) 0)
noncomputable def o3_7 : Array Oper := opsOf (kid (kid (kid (kid (kid (bodyOf Tryd.f3) 1) 0) 1) 0) 0)
noncomputable def o3_12 : Array Oper := opsOf (kid (kid (kid (kid (bodyOf Tryd.f3) 1) 1) 0) 0)
noncomputable def o3_15 : Array Oper := opsOf (kid (kid (kid (kid (kid (kid (bodyOf Tryd.f3) 1) 1) 0) 1) 0) 0)
noncomputable def o3_19 : Array Oper := opsOf (kid (kid (kid (kid (bodyOf Tryd.f3) 1) 1) 1) 0)
noncomputable def o3_21 : Array Oper := opsOf (kid (kid (kid (kid (kid (bodyOf Tryd.f3) 1) 1) 1) 1) 0)
noncomputable def o3_24 : Array Oper := opsOf (kid (kid (kid (kid (kid (kid (kid (bodyOf Tryd.f3) 1) 1) 1) 1) 1) 0) 0)
noncomputable def o3_27 : Array Oper := opsOf (kid (kid (kid (kid (kid (kid (kid (kid (kid (bodyOf Tryd.f3) 1) 1) 1) 1) 1) 0) 1) 0) 0)
noncomputable def o3_32 : Array Oper := opsOf (kid (kid (kid (kid (kid (kid (kid (kid (bodyOf Tryd.f3) 1) 1) 1) 1) 1) 1) 0) 0)
noncomputable def o3_37 : Array Oper := opsOf (kid (kid (kid (kid (kid (kid (kid (kid (kid (kid (kid (kid (bodyOf Tryd.f3) 1) 1) 1) 1) 1) 1) 0) 1) 0) 0) 0) 0)
noncomputable def o3_44 : Array Oper := opsOf (kid (kid (kid (kid (kid (kid (kid (kid (kid (kid (kid (kid (kid (kid (bodyOf Tryd.f3) 1) 1) 1) 1) 1) 1) 0) 1) 0) 0) 1) 0) 0) 0)
noncomputable def o3_47 : Array Oper := opsOf (kid (kid (kid (kid (kid (kid (kid (kid (kid (kid (kid (kid (kid (kid (kid (kid (bodyOf Tryd.f3) 1) 1) 1) 1) 1) 1) 0) 1) 0) 0) 1) 0) 0) 1) 0) 0)
noncomputable def o3_50 : Array Oper := opsOf (kid (kid (kid (kid (kid (kid (kid (kid (kid (kid (kid (kid (bodyOf Tryd.f3) 1) 1) 1) 1) 1) 1) 0) 1) 0) 0) 1) 1)
noncomputable def o3_52 : Array Oper := opsOf (kid (kid (kid (kid (kid (kid (kid (kid (bodyOf Tryd.f3) 1) 1) 1) 1) 1) 1) 1) 0)
noncomputable def o3_54 : Array Oper := opsOf (kid (kid (kid (kid (kid (kid (kid (kid (kid (bodyOf Tryd.f3) 1) 1) 1) 1) 1) 1) 1) 1) 0)
theorem e3_0 : c3_0 = .seq c3_1 c3_2 := rfl
theorem e3_1 : c3_1 = .region 0 o3_1 false := rfl
theorem e3_2 : c3_2 = .seq c3_3 c3_10 := rfl
theorem e3_3 : c3_3 = .seq c3_4 c3_5 := rfl
theorem e3_4 : c3_4 = .region 1 o3_4 false := rfl
theorem e3_5 : c3_5 = .cond (.tmp 16) c3_6 c3_9 := rfl
theorem e3_6 : c3_6 = .seq c3_7 c3_8 := rfl
theorem e3_7 : c3_7 = .region 2 o3_7 false := rfl
theorem e3_8 : c3_8 = .ret := rfl
theorem e3_9 : c3_9 = .skip := rfl
theorem e3_10 : c3_10 = .seq c3_11 c3_18 := rfl
theorem e3_11 : c3_11 = .seq c3_12 c3_13 := rfl
theorem e3_12 : c3_12 = .region 3 o3_12 false := rfl
theorem e3_13 : c3_13 = .cond (.tmp 32) c3_14 c3_17 := rfl
theorem e3_14 : c3_14 = .seq c3_15 c3_16 := rfl
theorem e3_15 : c3_15 = .region 4 o3_15 false := rfl
theorem e3_16 : c3_16 = .ret := rfl
theorem e3_17 : c3_17 = .skip := rfl
theorem e3_18 : c3_18 = .seq c3_19 c3_20 := rfl
theorem e3_19 : c3_19 = .region 5 o3_19 false := rfl
theorem e3_20 : c3_20 = .seq c3_21 c3_22 := rfl
theorem e3_21 : c3_21 = .region 6 o3_21 false := rfl
theorem e3_22 : c3_22 = .seq c3_23 c3_30 := rfl
theorem e3_23 : c3_23 = .seq c3_24 c3_25 := rfl
theorem e3_24 : c3_24 = .region 7 o3_24 false := rfl
theorem e3_25 : c3_25 = .cond (.tmp 40) c3_26 c3_29 := rfl
theorem e3_26 : c3_26 = .seq c3_27 c3_28 := rfl
theorem e3_27 : c3_27 = .region 8 o3_27 false := rfl
theorem e3_28 : c3_28 = .ret := rfl
theorem e3_29 : c3_29 = .skip := rfl
theorem e3_30 : c3_30 = .seq c3_31 c3_51 := rfl
theorem e3_31 : c3_31 = .seq c3_32 c3_33 := rfl
theorem e3_32 : c3_32 = .region 9 o3_32 false := rfl
theorem e3_33 : c3_33 = .block 0 c3_34 := rfl
theorem e3_34 : c3_34 = .loop c3_35 := rfl
theorem e3_35 : c3_35 = .seq c3_36 c3_41 := rfl
theorem e3_36 : c3_36 = .seq c3_37 c3_38 := rfl
theorem e3_37 : c3_37 = .region 10 o3_37 false := rfl
theorem e3_38 : c3_38 = .cond (.tmp 44) c3_39 c3_40 := rfl
theorem e3_39 : c3_39 = .skip := rfl
theorem e3_40 : c3_40 = .exit 0 := rfl
theorem e3_41 : c3_41 = .seq c3_42 c3_50 := rfl
theorem e3_42 : c3_42 = .block 1 c3_43 := rfl
theorem e3_43 : c3_43 = .seq c3_44 c3_45 := rfl
theorem e3_44 : c3_44 = .region 12 o3_44 false := rfl
theorem e3_45 : c3_45 = .cond (.tmp 70) c3_46 c3_49 := rfl
theorem e3_46 : c3_46 = .seq c3_47 c3_48 := rfl
theorem e3_47 : c3_47 = .region 13 o3_47 false := rfl
theorem e3_48 : c3_48 = .ret := rfl
theorem e3_49 : c3_49 = .skip := rfl
theorem e3_50 : c3_50 = .region 11 o3_50 false := rfl
theorem e3_51 : c3_51 = .seq c3_52 c3_53 := rfl
theorem e3_52 : c3_52 = .region 14 o3_52 false := rfl
theorem e3_53 : c3_53 = .seq c3_54 c3_55 := rfl
theorem e3_54 : c3_54 = .region 15 o3_54 true := rfl
theorem e3_55 : c3_55 = .ret := rfl
theorem g3_0 : (run tb).code rd c3_0 (mk 108 f m) st = andThen ((run tb).code rd c3_1 (mk 108 f m) st) (fun fr st => (run tb).code rd c3_2 fr st) := gx_seq e3_0
noncomputable def l3_1 : { l : List Step // lightOf o3_1 = l } := by refine ⟨?_, ?h⟩; case h => simp only [lightOf, o3_1, opsOf, kid, bodyOf, Tryd.f3, Option.getD_some, List.map, stepOf, Option.map, List.getElem?_toArray, List.getElem?_cons_succ, List.getElem?_cons_zero, Option.bind_some]; rfl
theorem g3_1 : (run tb).code rd c3_1 (mk 108 f m) st = regB (evSteps tb (run tb) l3_1.1 (mk 108 f m) st) := gx_region e3_1 l3_1.2
theorem g3_2 : (run tb).code rd c3_2 (mk 108 f m) st = andThen ((run tb).code rd c3_3 (mk 108 f m) st) (fun fr st => (run tb).code rd c3_10 fr st) := gx_seq e3_2
theorem g3_3 : (run tb).code rd c3_3 (mk 108 f m) st = andThen ((run tb).code rd c3_4 (mk 108 f m) st) (fun fr st => (run tb).code rd c3_5 fr st) := gx_seq e3_3
noncomputable def l3_4 : { l : List Step // lightOf o3_4 = l } := by refine ⟨?_, ?h⟩; case h => simp only [lightOf, o3_4, opsOf, kid, bodyOf, Tryd.f3, Option.getD_some, List.map, stepOf, Option.map, List.getElem?_toArray, List.getElem?_cons_succ, List.getElem?_cons_zero, Option.bind_some]; rfl
theorem g3_4 : (run tb).code rd c3_4 (mk 108 f m) st = regB (evSteps tb (run tb) l3_4.1 (mk 108 f m) st) := gx_region e3_4 l3_4.2
theorem g3_5 : (run tb).code rd c3_5 (mk 108 f m) st = branch (f 16) (fun x => (run tb).code rd (sel x c3_6 c3_9) (mk 108 f m) st) := gx_cond e3_5 (by decide)
theorem g3_6 : (run tb).code rd c3_6 (mk 108 f m) st = andThen ((run tb).code rd c3_7 (mk 108 f m) st) (fun fr st => (run tb).code rd c3_8 fr st) := gx_seq e3_6
noncomputable def l3_7 : { l : List Step // lightOf o3_7 = l } := by refine ⟨?_, ?h⟩; case h => simp only [lightOf, o3_7, opsOf, kid, bodyOf, Tryd.f3, Option.getD_some, List.map, stepOf, Option.map, List.getElem?_toArray, List.getElem?_cons_succ, List.getElem?_cons_zero, Option.bind_some]; rfl
theorem g3_7 : (run tb).code rd c3_7 (mk 108 f m) st = regB (evSteps tb (run tb) l3_7.1 (mk 108 f m) st) := gx_region e3_7 l3_7.2
theorem g3_8 : (run tb).code rd c3_8 (mk 108 f m) st = some (.ret, mk 108 f m, st) := gx_ret e3_8
theorem g3_9 : (run tb).code rd c3_9 (mk 108 f m) st = some (.normal, mk 108 f m, st) := gx_skip e3_9
theorem g3_10 : (run tb).code rd c3_10 (mk 108 f m) st = andThen ((run tb).code rd c3_11 (mk 108 f m) st) (fun fr st => (run tb).code rd c3_18 fr st) := gx_seq e3_10
theorem g3_11 : (run tb).code rd c3_11 (mk 108 f m) st = andThen ((run tb).code rd c3_12 (mk 108 f m) st) (fun fr st => (run tb).code rd c3_13 fr st) := gx_seq e3_11
noncomputable def l3_12 : { l : List Step // lightOf o3_12 = l } := by refine ⟨?_, ?h⟩; case h => simp only [lightOf, o3_12, opsOf, kid, bodyOf, Tryd.f3, Option.getD_some, List.map, stepOf, Option.map, List.getElem?_toArray, List.getElem?_cons_succ, List.getElem?_cons_zero, Option.bind_some]; rfl
theorem g3_12 : (run tb).code rd c3_12 (mk 108 f m) st = regB (evSteps tb (run tb) l3_12.1 (mk 108 f m) st) := gx_region e3_12 l3_12.2
theorem g3_13 : (run tb).code rd c3_13 (mk 108 f m) st = branch (f 32) (fun x => (run tb).code rd (sel x c3_14 c3_17) (mk 108 f m) st) := gx_cond e3_13 (by decide)
theorem g3_14 : (run tb).code rd c3_14 (mk 108 f m) st = andThen ((run tb).code rd c3_15 (mk 108 f m) st) (fun fr st => (run tb).code rd c3_16 fr st) := gx_seq e3_14
noncomputable def l3_15 : { l : List Step // lightOf o3_15 = l } := by refine ⟨?_, ?h⟩; case h => simp only [lightOf, o3_15, opsOf, kid, bodyOf, Tryd.f3, Option.getD_some, List.map, stepOf, Option.map, List.getElem?_toArray, List.getElem?_cons_succ, List.getElem?_cons_zero, Option.bind_some]; rfl
theorem g3_15 : (run tb).code rd c3_15 (mk 108 f m) st = regB (evSteps tb (run tb) l3_15.1 (mk 108 f m) st) := gx_region e3_15 l3_15.2
theorem g3_16 : (run tb).code rd c3_16 (mk 108 f m) st = some (.ret, mk 108 f m, st) := gx_ret e3_16
theorem g3_17 : (run tb).code rd c3_17 (mk 108 f m) st = some (.normal, mk 108 f m, st) := gx_skip e3_17
theorem g3_18 : (run tb).code rd c3_18 (mk 108 f m) st = andThen ((run tb).code rd c3_19 (mk 108 f m) st) (fun fr st => (run tb).code rd c3_20 fr st) := gx_seq e3_18
noncomputable def l3_19 : { l : List Step // lightOf o3_19 = l } := by refine ⟨?_, ?h⟩; case h => simp only [lightOf, o3_19, opsOf, kid, bodyOf, Tryd.f3, Option.getD_some, List.map, stepOf, Option.map, List.getElem?_toArray, List.getElem?_cons_succ, List.getElem?_cons_zero, Option.bind_some]; rfl
theorem g3_19 : (run tb).code rd c3_19 (mk 108 f m) st = regB (evSteps tb (run tb) l3_19.1 (mk 108 f m) st) := gx_region e3_19 l3_19.2
theorem g3_20 : (run tb).code rd c3_20 (mk 108 f m) st = andThen ((run tb).code rd c3_21 (mk 108 f m) st) (fun fr st => (run tb).code rd c3_22 fr st) := gx_seq e3_20
noncomputable def l3_21 : { l : List Step // lightOf o3_21 = l } := by refine ⟨?_, ?h⟩; case h => simp only [lightOf, o3_21, opsOf, kid, bodyOf, Tryd.f3, Option.getD_some, List.map, stepOf, Option.map, List.getElem?_toArray, List.getElem?_cons_succ, List.getElem?_cons_zero, Option.bind_some]; rfl
theorem g3_21 : (run tb).code rd c3_21 (mk 108 f m) st = regB (evSteps tb (run tb) l3_21.1 (mk 108 f m) st) := gx_region e3_21 l3_21.2
theorem g3_22 : (run tb).code rd c3_22 (mk 108 f m) st = andThen ((run tb).code rd c3_23 (mk 108 f m) st) (fun fr st => (run tb).code rd c3_30 fr st) := gx_seq e3_22
theorem g3_23 : (run tb).code rd c3_23 (mk 108 f m) st = andThen ((run tb).code rd c3_24 (mk 108 f m) st) (fun fr st => (run tb).code rd c3_25 fr st) := gx_seq e3_23
noncomputable def l3_24 : { l : List Step // lightOf o3_24 = l } := by refine ⟨?_, ?h⟩; case h => simp only [lightOf, o3_24, opsOf, kid, bodyOf, Tryd.f3, Option.getD_some, List.map, stepOf, Option.map, List.getElem?_toArray, List.getElem?_cons_succ, List.getElem?_cons_zero, Option.bind_some]; rfl
theorem g3_24 : (run tb).code rd c3_24 (mk 108 f m) st = regB (evSteps tb (run tb) l3_24.1 (mk 108 f m) st) := gx_region e3_24 l3_24.2
theorem g3_25 : (run tb).code rd c3_25 (mk 108 f m) st = branch (f 40) (fun x => (run tb).code rd (sel x c3_26 c3_29) (mk 108 f m) st) := gx_cond e3_25 (by decide)
theorem g3_26 : (run tb).code rd c3_26 (mk 108 f m) st = andThen ((run tb).code rd c3_27 (mk 108 f m) st) (fun fr st => (run tb).code rd c3_28 fr st) := gx_seq e3_26
noncomputable def l3_27 : { l : List Step // lightOf o3_27 = l } := by refine ⟨?_, ?h⟩; case h => simp only [lightOf, o3_27, opsOf, kid, bodyOf, Tryd.f3, Option.getD_some, List.map, stepOf, Option.map, List.getElem?_toArray, List.getElem?_cons_succ, List.getElem?_cons_zero, Option.bind_some]; rfl
theorem g3_27 : (run tb).code rd c3_27 (mk 108 f m) st = regB (evSteps tb (run tb) l3_27.1 (mk 108 f m) st) := gx_region e3_27 l3_27.2
theorem g3_28 : (run tb).code rd c3_28 (mk 108 f m) st = some (.ret, mk 108 f m, st) := gx_ret e3_28
theorem g3_29 : (run tb).code rd c3_29 (mk 108 f m) st = some (.normal, mk 108 f m, st) := gx_skip e3_29
theorem g3_30 : (run tb).code rd c3_30 (mk 108 f m) st = andThen ((run tb).code rd c3_31 (mk 108 f m) st) (fun fr st => (run tb).code rd c3_51 fr st) := gx_seq e3_30
theorem g3_31 : (run tb).code rd c3_31 (mk 108 f m) st = andThen ((run tb).code rd c3_32 (mk 108 f m) st) (fun fr st => (run tb).code rd c3_33 fr st) := gx_seq e3_31
noncomputable def l3_32 : { l : List Step // lightOf o3_32 = l } := by refine ⟨?_, ?h⟩; case h => simp only [lightOf, o3_32, opsOf, kid, bodyOf, Tryd.f3, Option.getD_some, List.map, stepOf, Option.map, List.getElem?_toArray, List.getElem?_cons_succ, List.getElem?_cons_zero, Option.bind_some]; rfl
theorem g3_32 : (run tb).code rd c3_32 (mk 108 f m) st = regB (evSteps tb (run tb) l3_32.1 (mk 108 f m) st) := gx_region e3_32 l3_32.2
theorem g3_33 : (run tb).code rd c3_33 (mk 108 f m) st = closeB 0 ((run tb).code rd c3_34 (mk 108 f m) st) := gx_block e3_33
theorem g3_35 : (run tb).code rd c3_35 (mk 108 f m) st = andThen ((run tb).code rd c3_36 (mk 108 f m) st) (fun fr st => (run tb).code rd c3_41 fr st) := gx_seq e3_35
theorem g3_36 : (run tb).code rd c3_36 (mk 108 f m) st = andThen ((run tb).code rd c3_37 (mk 108 f m) st) (fun fr st => (run tb).code rd c3_38 fr st) := gx_seq e3_36
noncomputable def l3_37 : { l : List Step // lightOf o3_37 = l } := by refine ⟨?_, ?h⟩; case h => simp only [lightOf, o3_37, opsOf, kid, bodyOf, Tryd.f3, Option.getD_some, List.map, stepOf, Option.map, List.getElem?_toArray, List.getElem?_cons_succ, List.getElem?_cons_zero, Option.bind_some]; rfl
theorem g3_37 : (run tb).code rd c3_37 (mk 108 f m) st = regB (evSteps tb (run tb) l3_37.1 (mk 108 f m) st) := gx_region e3_37 l3_37.2
theorem g3_38 : (run tb).code rd c3_38 (mk 108 f m) st = branch (f 44) (fun x => (run tb).code rd (sel x c3_39 c3_40) (mk 108 f m) st) := gx_cond e3_38 (by decide)
theorem g3_39 : (run tb).code rd c3_39 (mk 108 f m) st = some (.normal, mk 108 f m, st) := gx_skip e3_39
theorem g3_40 : (run tb).code rd c3_40 (mk 108 f m) st = some (.exit 0, mk 108 f m, st) := gx_exit e3_40
theorem g3_41 : (run tb).code rd c3_41 (mk 108 f m) st = andThen ((run tb).code rd c3_42 (mk 108 f m) st) (fun fr st => (run tb).code rd c3_50 fr st) := gx_seq e3_41
theorem g3_42 : (run tb).code rd c3_42 (mk 108 f m) st = closeB 1 ((run tb).code rd c3_43 (mk 108 f m) st) := gx_block e3_42
theorem g3_43 : (run tb).code rd c3_43 (mk 108 f m) st = andThen ((run tb).code rd c3_44 (mk 108 f m) st) (fun fr st => (run tb).code rd c3_45 fr st) := gx_seq e3_43
noncomputable def l3_44 : { l : List Step // lightOf o3_44 = l } := by refine ⟨?_, ?h⟩; case h => simp only [lightOf, o3_44, opsOf, kid, bodyOf, Tryd.f3, Option.getD_some, List.map, stepOf, Option.map, List.getElem?_toArray, List.getElem?_cons_succ, List.getElem?_cons_zero, Option.bind_some]; rfl
theorem g3_44 : (run tb).code rd c3_44 (mk 108 f m) st = regB (evSteps tb (run tb) l3_44.1 (mk 108 f m) st) := gx_region e3_44 l3_44.2
theorem g3_45 : (run tb).code rd c3_45 (mk 108 f m) st = branch (f 70) (fun x => (run tb).code rd (sel x c3_46 c3_49) (mk 108 f m) st) := gx_cond e3_45 (by decide)
theorem g3_46 : (run tb).code rd c3_46 (mk 108 f m) st = andThen ((run tb).code rd c3_47 (mk 108 f m) st) (fun fr st => (run tb).code rd c3_48 fr st) := gx_seq e3_46
noncomputable def l3_47 : { l : List Step // lightOf o3_47 = l } := by refine ⟨?_, ?h⟩; case h => simp only [lightOf, o3_47, opsOf, kid, bodyOf, Tryd.f3, Option.getD_some, List.map, stepOf, Option.map, List.getElem?_toArray, List.getElem?_cons_succ, List.getElem?_cons_zero, Option.bind_some]; rfl
theorem g3_47 : (run tb).code rd c3_47 (mk 108 f m) st = regB (evSteps tb (run tb) l3_47.1 (mk 108 f m) st) := gx_region e3_47 l3_47.2
theorem g3_48 : (run tb).code rd c3_48 (mk 108 f m) st = some (.ret, mk 108 f m, st) := gx_ret e3_48
theorem g3_49 : (run tb).code rd c3_49 (mk 108 f m) st = some (.normal, mk 108 f m, st) := gx_skip e3_49
noncomputable def l3_50 : { l : List Step // lightOf o3_50 = l } := by refine ⟨?_, ?h⟩; case h => simp only [lightOf, o3_50, opsOf, kid, bodyOf, Tryd.f3, Option.getD_some, List.map, stepOf, Option.map, List.getElem?_toArray, List.getElem?_cons_succ, List.getElem?_cons_zero, Option.bind_some]; rfl
theorem g3_50 : (run tb).code rd c3_50 (mk 108 f m) st = regB (evSteps tb (run tb) l3_50.1 (mk 108 f m) st) := gx_region e3_50 l3_50.2
theorem g3_51 : (run tb).code rd c3_51 (mk 108 f m) st = andThen ((run tb).code rd c3_52 (mk 108 f m) st) (fun fr st => (run tb).code rd c3_53 fr st) := gx_seq e3_51
noncomputable def l3_52 : { l : List Step // lightOf o3_52 = l } := by refine ⟨?_, ?h⟩; case h => simp only [lightOf, o3_52, opsOf, kid, bodyOf, Tryd.f3, Option.getD_some, List.map, stepOf, Option.map, List.getElem?_toArray, List.getElem?_cons_succ, List.getElem?_cons_zero, Option.bind_some]; rfl
theorem g3_52 : (run tb).code rd c3_52 (mk 108 f m) st = regB (evSteps tb (run tb) l3_52.1 (mk 108 f m) st) := gx_region e3_52 l3_52.2
theorem g3_53 : (run tb).code rd c3_53 (mk 108 f m) st = andThen ((run tb).code rd c3_54 (mk 108 f m) st) (fun fr st => (run tb).code rd c3_55 fr st) := gx_seq e3_53
noncomputable def l3_54 : { l : List DStep // drawAt o3_54 [(0, 0), (2, 0), (3, 4), (4, 12), (5, 28), (6, 60), (1, 1), (7, 127), (8, 255), (9, 511), (10, 511), (12, 511), (13, 511), (11, 2047), (14, 16383), (15, 32767), (16, 65535), (17, 131071), (18, 262143), (19, 524287), (20, 1048575), (21, 2097151), (22, 4194303), (23, 4194303), (25, 4194303), (24, 12582911), (26, 67108863), (27, 134217727), (28, 268435455), (29, 536870911), (31, 536870911), (30, 1073741823), (32, 4294967295), (33, 8589934591), (34, 17179869183), (35, 34359738367)] = l } := by refine ⟨?_, ?h⟩; case h => simp only [drawAt, entsAt, o3_54, opsOf, kid, bodyOf, Tryd.f3, Option.getD_some, List.map, stepOf, Option.map, List.getElem?_toArray, List.getElem?_cons_succ, List.getElem?_cons_zero, Option.bind_some]; rfl
theorem g3_54 : (run tb).code rd c3_54 (mk 108 f m) st = regB (evDraws tb (run tb) l3_54.1 [] (mk 108 f m) st) := gx_draw [(0, 0), (2, 0), (3, 4), (4, 12), (5, 28), (6, 60), (1, 1), (7, 127), (8, 255), (9, 511), (10, 511), (12, 511), (13, 511), (11, 2047), (14, 16383), (15, 32767), (16, 65535), (17, 131071), (18, 262143), (19, 524287), (20, 1048575), (21, 2097151), (22, 4194303), (23, 4194303), (25, 4194303), (24, 12582911), (26, 67108863), (27, 134217727), (28, 268435455), (29, 536870911), (31, 536870911), (30, 1073741823), (32, 4294967295), (33, 8589934591), (34, 17179869183), (35, 34359738367)] e3_54 (by kernel_rfl) l3_54.2
theorem g3_55 : (run tb).code rd c3_55 (mk 108 f m) st = some (.ret, mk 108 f m, st) := gx_ret e3_55
noncomputable def c12_0 : Code := bodyOf Tryd.f12
theorem b12 : Tryd.f12.body = some c12_0 := rfl
theorem n12 : Tryd.f12.ntmps = 119 := rfl
theorem r12 : Tryd.f12.results = #[.tmp 6] := rfl
theorem fn12 : tb.fn 12 = some Tryd.f12 := by rw [tb_eq]; exact Tryd.func12
theorem run12 {args : List V} {st : St} (ha : args.length ≤ 119) : (run tb).call 12 args st = leave tb [.tmp 6] ((run tb).code none c12_0 (mk 119 (argF args) []) st) := call_run fn12 (tbmode 12) b12 n12 r12 ha
noncomputable def c12_1 : Code := kid c12_0 0
noncomputable def c12_2 : Code := kid c12_0 1
noncomputable def c12_3 : Code := kid c12_2 0
noncomputable def c12_4 : Code := kid c12_3 0
noncomputable def c12_5 : Code := kid c12_3 1
noncomputable def c12_6 : Code := kid c12_5 0
noncomputable def c12_7 : Code := kid c12_6 0
noncomputable def c12_8 : Code := kid c12_6 1
noncomputable def c12_9 : Code := kid c12_8 0
noncomputable def c12_10 : Code := kid c12_9 0
noncomputable def c12_11 : Code := kid c12_9 1
noncomputable def c12_12 : Code := kid c12_8 1
noncomputable def c12_13 : Code := kid c12_12 0
noncomputable def c12_14 : Code := kid c12_12 1
noncomputable def c12_15 : Code := kid c12_14 0
noncomputable def c12_16 : Code := kid c12_15 0
noncomputable def c12_17 : Code := kid c12_15 1
noncomputable def c12_18 : Code := kid c12_14 1
noncomputable def c12_19 : Code := kid c12_18 0
noncomputable def c12_20 : Code := kid c12_19 0
noncomputable def c12_21 : Code := kid c12_19 1
noncomputable def c12_22 : Code := kid c12_21 0
noncomputable def c12_23 : Code := kid c12_21 1
noncomputable def c12_24 : Code := kid c12_23 0
noncomputable def c12_25 : Code := kid c12_23 1
noncomputable def c12_26 : Code := kid c12_25 0
noncomputable def c12_27 : Code := kid c12_25 1
noncomputable def c12_28 : Code := kid c12_18 1
noncomputable def c12_29 : Code := kid c12_28 0
noncomputable def c12_30 : Code := kid c12_29 0
noncomputable def c12_31 : Code := kid c12_29 1
noncomputable def c12_32 : Code := kid c12_31 0
noncomputable def c12_33 : Code := kid c12_31 1
noncomputable def c12_34 : Code := kid c12_33 0
noncomputable def c12_35 : Code := kid c12_34 0
noncomputable def c12_36 : Code := kid c12_34 1
noncomputable def c12_37 : Code := kid c12_36 0
noncomputable def c12_38 : Code := kid c12_37 0
noncomputable def c12_39 : Code := kid c12_37 1
noncomputable def c12_40 : Code := kid c12_36 1
noncomputable def c12_41 : Code := kid c12_33 1
noncomputable def c12_42 : Code := kid c12_41 0
noncomputable def c12_43 : Code := kid c12_41 1
noncomputable def c12_44 : Code := kid c12_43 0
noncomputable def c12_45 : Code := kid c12_44 0
noncomputable def c12_46 : Code := kid c12_44 1
noncomputable def c12_47 : Code := kid c12_46 0
noncomputable def c12_48 : Code := kid c12_47 0
noncomputable def c12_49 : Code := kid c12_47 1
noncomputable def c12_50 : Code := kid c12_49 0
noncomputable def c12_51 : Code := kid c12_49 1
noncomputable def c12_52 : Code := kid c12_51 0
noncomputable def c12_53 : Code := kid c12_51 1
noncomputable def c12_54 : Code := kid c12_53 0
noncomputable def c12_55 : Code := kid c12_53 1
noncomputable def c12_56 : Code := kid c12_55 0
noncomputable def c12_57 : Code := kid c12_55 1
noncomputable def c12_58 : Code := kid c12_57 0
noncomputable def c12_59 : Code := kid c12_57 1
noncomputable def c12_60 : Code := kid c12_43 1
noncomputable def c12_61 : Code := kid c12_60 0
noncomputable def c12_62 : Code := kid c12_60 1
noncomputable def c12_63 : Code := kid c12_28 1
noncomputable def c12_64 : Code := kid c12_63 0
noncomputable def c12_65 : Code := kid c12_63 1
noncomputable def c12_66 : Code := kid c12_65 0
noncomputable def c12_67 : Code := kid c12_66 0
noncomputable def c12_68 : Code := kid c12_66 1
noncomputable def c12_69 : Code := kid c12_68 0
noncomputable def c12_70 : Code := kid c12_68 1
noncomputable def c12_71 : Code := kid c12_70 0
noncomputable def c12_72 : Code := kid c12_71 0
noncomputable def c12_73 : Code := kid c12_72 0
noncomputable def c12_74 : Code := kid c12_73 0
noncomputable def c12_75 : Code := kid c12_73 1
noncomputable def c12_76 : Code := kid c12_75 0
noncomputable def c12_77 : Code := kid c12_75 1
noncomputable def c12_78 : Code := kid c12_72 1
noncomputable def c12_79 : Code := kid c12_78 0
noncomputable def c12_80 : Code := kid c12_79 0
noncomputable def c12_81 : Code := kid c12_78 1
noncomputable def c12_82 : Code := kid c12_65 1
noncomputable def c12_83 : Code := kid c12_82 0
noncomputable def c12_84 : Code := kid c12_82 1
noncomputable def c12_85 : Code := kid c12_84 0
noncomputable def c12_86 : Code := kid c12_85 0
noncomputable def c12_87 : Code := kid c12_85 1
noncomputable def c12_88 : Code := kid c12_84 1
noncomputable def c12_89 : Code := kid c12_2 1
noncomputable def c12_90 : Code := kid c12_89 0
noncomputable def c12_91 : Code := kid c12_89 1
noncomputable def o12_1 : Array Oper := opsOf (kid (bodyOf Tryd.f12) 0)
noncomputable def o12_4 : Array Oper := opsOf (kid (kid (kid (bodyOf Tryd.f12) 1) 0) 0)
noncomputable def o12_7 : Array Oper := opsOf (kid (kid (kid (kid (kid (bodyOf Tryd.f12) 1) 0) 1) 0) 0)
noncomputable def o12_10 : Array Oper := opsOf (kid (kid (kid (kid (kid (kid (kid (bodyOf Tryd.f12) 1) 0) 1) 0) 1) 0) 0)
noncomputable def o12_13 : Array Oper := opsOf (kid (kid (kid (kid (kid (kid (kid (bodyOf Tryd.f12) 1) 0) 1) 0) 1) 1) 0)
noncomputable def o12_16 : Array Oper := opsOf (kid (kid (kid (kid (kid (kid (kid (kid (kid (bodyOf Tryd.f12) 1) 0) 1) 0) 1) 1) 1) 0) 0)
noncomputable def o12_20 : Array Oper := opsOf (kid (kid (kid (kid (kid (kid (kid (kid (kid (kid (bodyOf Tryd.f12) 1) 0) 1) 0) 1) 1) 1) 1) 0) 0)
noncomputable def o12_24 : Array Oper := opsOf (kid (kid (kid (kid (kid (kid (kid (kid (kid (kid (kid (kid (bodyOf Tryd.f12) 1) 0) 1) 0) 1) 1) 1) 1) 0) 1) 1) 0)
noncomputable def o12_27 : Array Oper := opsOf (kid (kid (kid (kid (kid (kid (kid (kid (kid (kid (kid (kid (kid (bodyOf Tryd.f12) 1) 0) 1) 0) 1) 1) 1) 1) 0) 1) 1) 1) 1)
noncomputable def o12_30 : Array Oper := opsOf (kid (kid (kid (kid (kid (kid (kid (kid (kid (kid (kid (bodyOf Tryd.f12) 1) 0) 1) 0) 1) 1) 1) 1) 1) 0) 0)
noncomputable def o12_32 : Array Oper := opsOf (kid (kid (kid (kid (kid (kid (kid (kid (kid (kid (kid (kid (bodyOf Tryd.f12) 1) 0) 1) 0) 1) 1) 1) 1) 1) 0) 1) 0)
noncomputable def o12_35 : Array Oper := opsOf (kid (kid (kid (kid (kid (kid (kid (kid (kid (kid (kid (kid (kid (kid (bodyOf Tryd.f12) 1) 0) 1) 0) 1) 1) 1) 1) 1) 0) 1) 1) 0) 0)
noncomputable def o12_38 : Array Oper := opsOf (kid (kid (kid (kid (kid (kid (kid (kid (kid (kid (kid (kid (kid (kid (kid (kid (bodyOf Tryd.f12) 1) 0) 1) 0) 1) 1) 1) 1) 1) 0) 1) 1) 0) 1) 0) 0)
noncomputable def o12_42 : Array Oper := opsOf (kid (kid (kid (kid (kid (kid (kid (kid (kid (kid (kid (kid (kid (kid (bodyOf Tryd.f12) 1) 0) 1) 0) 1) 1) 1) 1) 1) 0) 1) 1) 1) 0)
noncomputable def o12_45 : Array Oper := opsOf (kid (kid (kid (kid (kid (kid (kid (kid (kid (kid (kid (kid (kid (kid (kid (kid (bodyOf Tryd.f12) 1) 0) 1) 0) 1) 1) 1) 1) 1) 0) 1) 1) 1) 1) 0) 0)
noncomputable def o12_48 : Array Oper := opsOf (kid (kid (kid (kid (kid (kid (kid (kid (kid (kid (kid (kid (kid (kid (kid (kid (kid (kid (bodyOf Tryd.f12) 1) 0) 1) 0) 1) 1) 1) 1) 1) 0) 1) 1) 1) 1) 0) 1) 0) 0)
noncomputable def o12_50 : Array Oper := opsOf (kid (kid (kid (kid (kid (kid (kid (kid (kid (kid (kid (kid (kid (kid (kid (kid (kid (kid (kid (bodyOf Tryd.f12) 1) 0) 1) 0) 1) 1) 1) 1) 1) 0) 1) 1) 1) 1) 0) 1) 0) 1) 0)
noncomputable def o12_52 : Array Oper := opsOf (kid (kid (kid (kid (kid (kid (kid (kid (kid (kid (kid (kid (kid (kid (kid (kid (kid (kid (kid (kid (bodyOf Tryd.f12) 1) 0) 1) 0) 1) 1) 1) 1) 1) 0) 1) 1) 1) 1) 0) 1) 0) 1) 1) 0)
noncomputable def o12_54 : Array Oper := opsOf (kid (kid (kid (kid (kid (kid (kid (kid (kid (kid (kid (kid (kid (kid (kid (kid (kid (kid (kid (kid (kid (bodyOf Tryd.f12) 1) 0) 1) 0) 1) 1) 1) 1) 1) 0) 1) 1) 1) 1) 0) 1) 0) 1) 1) 1) 0)
noncomputable def o12_56 : Array Oper := opsOf (kid (kid (kid (kid (kid (kid (kid (kid (kid (kid (kid (kid (kid (kid (kid (kid (kid (kid (kid (kid (kid (kid (bodyOf Tryd.f12) 1) 0) 1) 0) 1) 1) 1) 1) 1) 0) 1) 1) 1) 1) 0) 1) 0) 1) 1) 1) 1) 0)
noncomputable def o12_58 : Array Oper := opsOf (kid (kid (kid (kid (kid (kid (kid (kid (kid (kid (kid (kid (kid (kid (kid (kid (kid (kid (kid (kid (kid (kid (kid (bodyOf Tryd.f12) 1) 0) 1) 0) 1) 1) 1) 1) 1) 0) 1) 1) 1) 1) 0) 1) 0) 1) 1) 1) 1) 1) 0)
noncomputable def o12_61 : Array Oper := opsOf (kid (kid (kid (kid (kid (kid (kid (kid (kid (kid (kid (kid (kid (kid (kid (kid (bodyOf Tryd.f12) 1) 0) 1) 0) 1) 1) 1) 1) 1) 0) 1) 1) 1) 1) 1) 0)
noncomputable def o12_64 : Array Oper := opsOf (kid (kid (kid (kid (kid (kid (kid (kid (kid (kid (kid (bodyOf Tryd.f12) 1) 0) 1) 0) 1) 1) 1) 1) 1) 1) 0)
noncomputable def o12_67 : Array Oper := opsOf (kid (kid (kid (kid (kid (kid (kid (kid (kid (kid (kid (kid (kid (bodyOf Tryd.f12) 1) 0) 1) 0) 1) 1) 1) 1) 1) 1) 1) 0) 0)
noncomputable def o12_69 : Array Oper := opsOf (kid (kid (kid (kid (kid (kid (kid (kid (kid (kid (kid (kid (kid (kid (bodyOf Tryd.f12) 1) 0) 1) 0) 1) 1) 1) 1) 1) 1) 1) 0) 1) 0)
noncomputable def o12_74 : Array Oper := opsOf (kid (kid (kid (kid (kid (kid (kid (kid (kid (kid (kid (kid (kid (kid (kid (kid (kid (kid (bodyOf Tryd.f12) 1) 0) 1) 0) 1) 1) 1) 1) 1) 1) 1) 0) 1) 1) 0) 0) 0) 0)
noncomputable def o12_80 : Array Oper := opsOf (kid (kid (kid (kid (kid (kid (kid (kid (kid (kid (kid (kid (kid (kid (kid (kid (kid (kid (kid (bodyOf Tryd.f12) 1) 0) 1) 0) 1) 1) 1) 1) 1) 1) 1) 0) 1) 1) 0) 0) 1) 0) 0)
noncomputable def o12_81 : Array Oper := opsOf (kid (kid (kid (kid (kid (kid (kid (kid (kid (kid (kid (kid (kid (kid (kid (kid (kid (kid (bodyOf Tryd.f12) 1) 0) 1) 0) 1) 1) 1) 1) 1) 1) 1) 0) 1) 1) 0) 0) 1) 1)
noncomputable def o12_83 : Array Oper := opsOf (kid (kid (kid (kid (kid (kid (kid (kid (kid (kid (kid (kid (kid (bodyOf Tryd.f12) 1) 0) 1) 0) 1) 1) 1) 1) 1) 1) 1) 1) 0)
noncomputable def o12_86 : Array Oper := opsOf (kid (kid (kid (kid (kid (kid (kid (kid (kid (kid (kid (kid (kid (kid (kid (bodyOf Tryd.f12) 1) 0) 1) 0) 1) 1) 1) 1) 1) 1) 1) 1) 1) 0) 0)
noncomputable def o12_90 : Array Oper := opsOf (kid (kid (kid (bodyOf Tryd.f12) 1) 1) 0)
theorem e12_0 : c12_0 = .seq c12_1 c12_2 := rfl
theorem e12_1 : c12_1 = .region 0 o12_1 false := rfl
theorem e12_2 : c12_2 = .seq c12_3 c12_89 := rfl
theorem e12_3 : c12_3 = .seq c12_4 c12_5 := rfl
theorem e12_4 : c12_4 = .region 1 o12_4 false := rfl
theorem e12_5 : c12_5 = .block 0 c12_6 := rfl
theorem e12_6 : c12_6 = .seq c12_7 c12_8 := rfl
theorem e12_7 : c12_7 = .region 2 o12_7 false := rfl
theorem e12_8 : c12_8 = .cond (.tmp 13) c12_9 c12_12 := rfl
theorem e12_9 : c12_9 = .seq c12_10 c12_11 := rfl
theorem e12_10 : c12_10 = .region 3 o12_10 true := rfl
theorem e12_11 : c12_11 = .ret := rfl
theorem e12_12 : c12_12 = .seq c12_13 c12_14 := rfl
theorem e12_13 : c12_13 = .region 4 o12_13 false := rfl
theorem e12_14 : c12_14 = .cond (.tmp 24) c12_15 c12_18 := rfl
theorem e12_15 : c12_15 = .seq c12_16 c12_17 := rfl
theorem e12_16 : c12_16 = .region 5 o12_16 true := rfl
theorem e12_17 : c12_17 = .ret := rfl
theorem e12_18 : c12_18 = .seq c12_19 c12_28 := rfl
theorem e12_19 : c12_19 = .seq c12_20 c12_21 := rfl
theorem e12_20 : c12_20 = .region 6 o12_20 false := rfl
theorem e12_21 : c12_21 = .cond (.tmp 35) c12_22 c12_23 := rfl
theorem e12_22 : c12_22 = .skip := rfl
theorem e12_23 : c12_23 = .seq c12_24 c12_25 := rfl
theorem e12_24 : c12_24 = .region 7 o12_24 false := rfl
theorem e12_25 : c12_25 = .cond (.tmp 35) c12_26 c12_27 := rfl
theorem e12_26 : c12_26 = .skip := rfl
theorem e12_27 : c12_27 = .region 8 o12_27 false := rfl
theorem e12_28 : c12_28 = .cond (.tmp 35) c12_29 c12_63 := rfl
theorem e12_29 : c12_29 = .seq c12_30 c12_31 := rfl
theorem e12_30 : c12_30 = .region 9 o12_30 false := rfl
theorem e12_31 : c12_31 = .seq c12_32 c12_33 := rfl
theorem e12_32 : c12_32 = .region 10 o12_32 false := rfl
theorem e12_33 : c12_33 = .seq c12_34 c12_41 := rfl
theorem e12_34 : c12_34 = .seq c12_35 c12_36 := rfl
theorem e12_35 : c12_35 = .region 11 o12_35 false := rfl
theorem e12_36 : c12_36 = .cond (.tmp 50) c12_37 c12_40 := rfl
theorem e12_37 : c12_37 = .seq c12_38 c12_39 := rfl
theorem e12_38 : c12_38 = .region 12 o12_38 false := rfl
theorem e12_39 : c12_39 = .ret := rfl
theorem e12_40 : c12_40 = .skip := rfl
theorem e12_41 : c12_41 = .seq c12_42 c12_43 := rfl
theorem e12_42 : c12_42 = .region 13 o12_42 false := rfl
theorem e12_43 : c12_43 = .seq c12_44 c12_60 := rfl
theorem e12_44 : c12_44 = .seq c12_45 c12_46 := rfl
theorem e12_45 : c12_45 = .region 14 o12_45 false := rfl
theorem e12_46 : c12_46 = .block 1 c12_47 := rfl
theorem e12_47 : c12_47 = .seq c12_48 c12_49 := rfl
theorem e12_48 : c12_48 = .region 15 o12_48 false := rfl
theorem e12_49 : c12_49 = .cond (.tmp 53) c12_50 c12_51 := rfl
theorem e12_50 : c12_50 = .region 16 o12_50 false := rfl
theorem e12_51 : c12_51 = .seq c12_52 c12_53 := rfl
theorem e12_52 : c12_52 = .region 17 o12_52 false := rfl
theorem e12_53 : c12_53 = .cond (.tmp 62) c12_54 c12_55 := rfl
theorem e12_54 : c12_54 = .region 18 o12_54 false := rfl
theorem e12_55 : c12_55 = .seq c12_56 c12_57 := rfl
theorem e12_56 : c12_56 = .region 19 o12_56 false := rfl
theorem e12_57 : c12_57 = .cond (.tmp 71) c12_58 c12_59 := rfl
theorem e12_58 : c12_58 = .region 20 o12_58 false := rfl
theorem e12_59 : c12_59 = .skip := rfl
theorem e12_60 : c12_60 = .seq c12_61 c12_62 := rfl
theorem e12_61 : c12_61 = .region 21 o12_61 false := rfl
theorem e12_62 : c12_62 = .ret := rfl
theorem e12_63 : c12_63 = .seq c12_64 c12_65 := rfl
theorem e12_64 : c12_64 = .region 22 o12_64 false := rfl
theorem e12_65 : c12_65 = .cond (.tmp 88) c12_66 c12_82 := rfl
theorem e12_66 : c12_66 = .seq c12_67 c12_68 := rfl
theorem e12_67 : c12_67 = .region 23 o12_67 false := rfl
theorem e12_68 : c12_68 = .seq c12_69 c12_70 := rfl
theorem e12_69 : c12_69 = .region 24 o12_69 false := rfl
theorem e12_70 : c12_70 = .block 2 c12_71 := rfl
theorem e12_71 : c12_71 = .loop c12_72 := rfl
theorem e12_72 : c12_72 = .seq c12_73 c12_78 := rfl
theorem e12_73 : c12_73 = .seq c12_74 c12_75 := rfl
theorem e12_74 : c12_74 = .region 25 o12_74 false := rfl
theorem e12_75 : c12_75 = .cond (.tmp 98) c12_76 c12_77 := rfl
theorem e12_76 : c12_76 = .skip := rfl
theorem e12_77 : c12_77 = .exit 2 := rfl
theorem e12_78 : c12_78 = .seq c12_79 c12_81 := rfl
theorem e12_79 : c12_79 = .block 3 c12_80 := rfl
theorem e12_80 : c12_80 = .region 27 o12_80 false := rfl
theorem e12_81 : c12_81 = .region 26 o12_81 false := rfl
theorem e12_82 : c12_82 = .seq c12_83 c12_84 := rfl
theorem e12_83 : c12_83 = .region 28 o12_83 false := rfl
theorem e12_84 : c12_84 = .cond (.tmp 107) c12_85 c12_88 := rfl
theorem e12_85 : c12_85 = .seq c12_86 c12_87 := rfl
theorem e12_86 : c12_86 = .region 29 o12_86 false := rfl
theorem e12_87 : c12_87 = .ret := rfl
theorem e12_88 : c12_88 = .skip := rfl
theorem e12_89 : c12_89 = .seq c12_90 c12_91 := rfl
theorem e12_90 : c12_90 = .region 30 o12_90 false := rfl
theorem e12_91 : c12_91 = .ret := rfl
theorem g12_0 : (run tb).code rd c12_0 (mk 119 f m) st = andThen ((run tb).code rd c12_1 (mk 119 f m) st) (fun fr st => (run tb).code rd c12_2 fr st) := gx_seq e12_0
noncomputable def l12_1 : { l : List Step // lightOf o12_1 = l } := by refine ⟨?_, ?h⟩; case h => simp only [lightOf, o12_1, opsOf, kid, bodyOf, Tryd.f12, Option.getD_some, List.map, stepOf, Option.map, List.getElem?_toArray, List.getElem?_cons_succ, List.getElem?_cons_zero, Option.bind_some]; rfl
theorem g12_1 : (run tb).code rd c12_1 (mk 119 f m) st = regB (evSteps tb (run tb) l12_1.1 (mk 119 f m) st) := gx_region e12_1 l12_1.2
theorem g12_2 : (run tb).code rd c12_2 (mk 119 f m) st = andThen ((run tb).code rd c12_3 (mk 119 f m) st) (fun fr st => (run tb).code rd c12_89 fr st) := gx_seq e12_2
theorem g12_3 : (run tb).code rd c12_3 (mk 119 f m) st = andThen ((run tb).code rd c12_4 (mk 119 f m) st) (fun fr st => (run tb).code rd c12_5 fr st) := gx_seq e12_3
noncomputable def l12_4 : { l : List Step // lightOf o12_4 = l } := by refine ⟨?_, ?h⟩; case h => simp only [lightOf, o12_4, opsOf, kid, bodyOf, Tryd.f12, Option.getD_some, List.map, stepOf, Option.map, List.getElem?_toArray, List.getElem?_cons_succ, List.getElem?_cons_zero, Option.bind_some]; rfl
theorem g12_4 : (run tb).code rd c12_4 (mk 119 f m) st = regB (evSteps tb (run tb) l12_4.1 (mk 119 f m) st) := gx_region e12_4 l12_4.2
theorem g12_5 : (run tb).code rd c12_5 (mk 119 f m) st = closeB 0 ((run tb).code rd c12_6 (mk 119 f m) st) := gx_block e12_5
theorem g12_6 : (run tb).code rd c12_6 (mk 119 f m) st = andThen ((run tb).code rd c12_7 (mk 119 f m) st) (fun fr st => (run tb).code rd c12_8 fr st) := gx_seq e12_6
noncomputable def l12_7 : { l : List Step // lightOf o12_7 = l } := by refine ⟨?_, ?h⟩; case h => simp only [lightOf, o12_7, opsOf, kid, bodyOf, Tryd.f12, Option.getD_some, List.map, stepOf, Option.map, List.getElem?_toArray, List.getElem?_cons_succ, List.getElem?_cons_zero, Option.bind_some]; rfl
theorem g12_7 : (run tb).code rd c12_7 (mk 119 f m) st = regB (evSteps tb (run tb) l12_7.1 (mk 119 f m) st) := gx_region e12_7 l12_7.2
theorem g12_8 : (run tb).code rd c12_8 (mk 119 f m) st = branch (f 13) (fun x => (run tb).code rd (sel x c12_9 c12_12) (mk 119 f m) st) := gx_cond e12_8 (by decide)
theorem g12_9 : (run tb).code rd c12_9 (mk 119 f m) st = andThen ((run tb).code rd c12_10 (mk 119 f m) st) (fun fr st => (run tb).code rd c12_11 fr st) := gx_seq e12_9
noncomputable def l12_10 : { l : List DStep // drawAt o12_10 [(0, 0), (1, 0), (2, 2), (4, 0), (5, 0), (6, 32), (3, 7), (7, 127), (8, 255), (9, 511)] = l } := by refine ⟨?_, ?h⟩; case h => simp only [drawAt, entsAt, o12_10, opsOf, kid, bodyOf, Tryd.f12, Option.getD_some, List.map, stepOf, Option.map, List.getElem?_toArray, List.getElem?_cons_succ, List.getElem?_cons_zero, Option.bind_some]; rfl
theorem g12_10 : (run tb).code rd c12_10 (mk 119 f m) st = regB (evDraws tb (run tb) l12_10.1 [] (mk 119 f m) st) := gx_draw [(0, 0), (1, 0), (2, 2), (4, 0), (5, 0), (6, 32), (3, 7), (7, 127), (8, 255), (9, 511)] e12_10 (by kernel_rfl) l12_10.2
theorem g12_11 : (run tb).code rd c12_11 (mk 119 f m) st = some (.ret, mk 119 f m, st) := gx_ret e12_11
theorem g12_12 : (run tb).code rd c12_12 (mk 119 f m) st = andThen ((run tb).code rd c12_13 (mk 119 f m) st) (fun fr st => (run tb).code rd c12_14 fr st) := gx_seq e12_12
noncomputable def l12_13 : { l : List Step // lightOf o12_13 = l } := by refine ⟨?_, ?h⟩; case h => simp only [lightOf, o12_13, opsOf, kid, bodyOf, Tryd.f12, Option.getD_some, List.map, stepOf, Option.map, List.getElem?_toArray, List.getElem?_cons_succ, List.getElem?_cons_zero, Option.bind_some]; rfl
theorem g12_13 : (run tb).code rd c12_13 (mk 119 f m) st = regB (evSteps tb (run tb) l12_13.1 (mk 119 f m) st) := gx_region e12_13 l12_13.2
theorem g12_14 : (run tb).code rd c12_14 (mk 119 f m) st = branch (f 24) (fun x => (run tb).code rd (sel x c12_15 c12_18) (mk 119 f m) st) := gx_cond e12_14 (by decide)
theorem g12_15 : (run tb).code rd c12_15 (mk 119 f m) st = andThen ((run tb).code rd c12_16 (mk 119 f m) st) (fun fr st => (run tb).code rd c12_17 fr st) := gx_seq e12_15
noncomputable def l12_16 : { l : List DStep // drawAt o12_16 [(0, 0), (1, 0), (2, 2), (4, 0), (5, 0), (6, 32), (3, 7), (7, 127), (8, 255), (9, 511)] = l } := by refine ⟨?_, ?h⟩; case h => simp only [drawAt, entsAt, o12_16, opsOf, kid, bodyOf, Tryd.f12, Option.getD_some, List.map, stepOf, Option.map, List.getElem?_toArray, List.getElem?_cons_succ, List.getElem?_cons_zero, Option.bind_some]; rfl
theorem g12_16 : (run tb).code rd c12_16 (mk 119 f m) st = regB (evDraws tb (run tb) l12_16.1 [] (mk 119 f m) st) := gx_draw [(0, 0), (1, 0), (2, 2), (4, 0), (5, 0), (6, 32), (3, 7), (7, 127), (8, 255), (9, 511)] e12_16 (by kernel_rfl) l12_16.2
theorem g12_17 : (run tb).code rd c12_17 (mk 119 f m) st = some (.ret, mk 119 f m, st) := gx_ret e12_17
theorem g12_18 : (run tb).code rd c12_18 (mk 119 f m) st = andThen ((run tb).code rd c12_19 (mk 119 f m) st) (fun fr st => (run tb).code rd c12_28 fr st) := gx_seq e12_18
theorem g12_19 : (run tb).code rd c12_19 (mk 119 f m) st = andThen ((run tb).code rd c12_20 (mk 119 f m) st) (fun fr st => (run tb).code rd c12_21 fr st) := gx_seq e12_19
noncomputable def l12_20 : { l : List Step // lightOf o12_20 = l } := by refine ⟨?_, ?h⟩; case h => simp only [lightOf, o12_20, opsOf, kid, bodyOf, Tryd.f12, Option.getD_some, List.map, stepOf, Option.map, List.getElem?_toArray, List.getElem?_cons_succ, List.getElem?_cons_zero, Option.bind_some]; rfl
theorem g12_20 : (run tb).code rd c12_20 (mk 119 f m) st = regB (evSteps tb (run tb) l12_20.1 (mk 119 f m) st) := gx_region e12_20 l12_20.2
theorem g12_21 : (run tb).code rd c12_21 (mk 119 f m) st = branch (f 35) (fun x => (run tb).code rd (sel x c12_22 c12_23) (mk 119 f m) st) := gx_cond e12_21 (by decide)
theorem g12_22 : (run tb).code rd c12_22 (mk 119 f m) st = some (.normal, mk 119 f m, st) := gx_skip e12_22
theorem g12_23 : (run tb).code rd c12_23 (mk 119 f m) st = andThen ((run tb).code rd c12_24 (mk 119 f m) st) (fun fr st => (run tb).code rd c12_25 fr st) := gx_seq e12_23
noncomputable def l12_24 : { l : List Step // lightOf o12_24 = l } := by refine ⟨?_, ?h⟩; case h => simp only [lightOf, o12_24, opsOf, kid, bodyOf, Tryd.f12, Option.getD_some, List.map, stepOf, Option.map, List.getElem?_toArray, List.getElem?_cons_succ, List.getElem?_cons_zero, Option.bind_some]; rfl
theorem g12_24 : (run tb).code rd c12_24 (mk 119 f m) st = regB (evSteps tb (run tb) l12_24.1 (mk 119 f m) st) := gx_region e12_24 l12_24.2
theorem g12_25 : (run tb).code rd c12_25 (mk 119 f m) st = branch (f 35) (fun x => (run tb).code rd (sel x c12_26 c12_27) (mk 119 f m) st) := gx_cond e12_25 (by decide)
theorem g12_26 : (run tb).code rd c12_26 (mk 119 f m) st = some (.normal, mk 119 f m, st) := gx_skip e12_26
noncomputable def l12_27 : { l : List Step // lightOf o12_27 = l } := by refine ⟨?_, ?h⟩; case h => simp only [lightOf, o12_27, opsOf, kid, bodyOf, Tryd.f12, Option.getD_some, List.map, stepOf, Option.map, List.getElem?_toArray, List.getElem?_cons_succ, List.getElem?_cons_zero, Option.bind_some]; rfl
theorem g12_27 : (run tb).code rd c12_27 (mk 119 f m) st = regB (evSteps tb (run tb) l12_27.1 (mk 119 f m) st) := gx_region e12_27 l12_27.2
theorem g12_28 : (run tb).code rd c12_28 (mk 119 f m) st = branch (f 35) (fun x => (run tb).code rd (sel x c12_29 c12_63) (mk 119 f m) st) := gx_cond e12_28 (by decide)
theorem g12_29 : (run tb).code rd c12_29 (mk 119 f m) st = andThen ((run tb).code rd c12_30 (mk 119 f m) st) (fun fr st => (run tb).code rd c12_31 fr st) := gx_seq e12_29
noncomputable def l12_30 : { l : List Step // lightOf o12_30 = l } := by refine ⟨?_, ?h⟩; case h => simp only [lightOf, o12_30, opsOf, kid, bodyOf, Tryd.f12, Option.getD_some, List.map, stepOf, Option.map, List.getElem?_toArray, List.getElem?_cons_succ, List.getElem?_cons_zero, Option.bind_some]; rfl
theorem g12_30 : (run tb).code rd c12_30 (mk 119 f m) st = regB (evSteps tb (run tb) l12_30.1 (mk 119 f m) st) := gx_region e12_30 l12_30.2
theorem g12_31 : (run tb).code rd c12_31 (mk 119 f m) st = andThen ((run tb).code rd c12_32 (mk 119 f m) st) (fun fr st => (run tb).code rd c12_33 fr st) := gx_seq e12_31
noncomputable def l12_32 : { l : List Step // lightOf o12_32 = l } := by refine ⟨?_, ?h⟩; case h => simp only [lightOf, o12_32, opsOf, kid, bodyOf, Tryd.f12, Option.getD_some, List.map, stepOf, Option.map, List.getElem?_toArray, List.getElem?_cons_succ, List.getElem?_cons_zero, Option.bind_some]; rfl
theorem g12_32 : (run tb).code rd c12_32 (mk 119 f m) st = regB (evSteps tb (run tb) l12_32.1 (mk 119 f m) st) := gx_region e12_32 l12_32.2
theorem g12_33 : (run tb).code rd c12_33 (mk 119 f m) st = andThen ((run tb).code rd c12_34 (mk 119 f m) st) (fun fr st => (run tb).code rd c12_41 fr st) := gx_seq e12_33
theorem g12_34 : (run tb).code rd c12_34 (mk 119 f m) st = andThen ((run tb).code rd c12_35 (mk 119 f m) st) (fun fr st => (run tb).code rd c12_36 fr st) := gx_seq e12_34
noncomputable def l12_35 : { l : List Step // lightOf o12_35 = l } := by refine ⟨?_, ?h⟩; case h => simp only [lightOf, o12_35, opsOf, kid, bodyOf, Tryd.f12, Option.getD_some, List.map, stepOf, Option.map, List.getElem?_toArray, List.getElem?_cons_succ, List.getElem?_cons_zero, Option.bind_some]; rfl
theorem g12_35 : (run tb).code rd c12_35 (mk 119 f m) st = regB (evSteps tb (run tb) l12_35.1 (mk 119 f m) st) := gx_region e12_35 l12_35.2
theorem g12_36 : (run tb).code rd c12_36 (mk 119 f m) st = branch (f 50) (fun x => (run tb).code rd (sel x c12_37 c12_40) (mk 119 f m) st) := gx_cond e12_36 (by decide)
theorem g12_37 : (run tb).code rd c12_37 (mk 119 f m) st = andThen ((run tb).code rd c12_38 (mk 119 f m) st) (fun fr st => (run tb).code rd c12_39 fr st) := gx_seq e12_37
noncomputable def l12_38 : { l : List Step // lightOf o12_38 = l } := by refine ⟨?_, ?h⟩; case h => simp only [lightOf, o12_38, opsOf, kid, bodyOf, Tryd.f12, Option.getD_some, List.map, stepOf, Option.map, List.getElem?_toArray, List.getElem?_cons_succ, List.getElem?_cons_zero, Option.bind_some]; rfl
theorem g12_38 : (run tb).code rd c12_38 (mk 119 f m) st = regB (evSteps tb (run tb) l12_38.1 (mk 119 f m) st) := gx_region e12_38 l12_38.2
theorem g12_39 : (run tb).code rd c12_39 (mk 119 f m) st = some (.ret, mk 119 f m, st) := gx_ret e12_39
theorem g12_40 : (run tb).code rd c12_40 (mk 119 f m) st = some (.normal, mk 119 f m, st) := gx_skip e12_40
theorem g12_41 : (run tb).code rd c12_41 (mk 119 f m) st = andThen ((run tb).code rd c12_42 (mk 119 f m) st) (fun fr st => (run tb).code rd c12_43 fr st) := gx_seq e12_41
noncomputable def l12_42 : { l : List Step // lightOf o12_42 = l } := by refine ⟨?_, ?h⟩; case h => simp only [lightOf, o12_42, opsOf, kid, bodyOf, Tryd.f12, Option.getD_some, List.map, stepOf, Option.map, List.getElem?_toArray, List.getElem?_cons_succ, List.getElem?_cons_zero, Option.bind_some]; rfl
theorem g12_42 : (run tb).code rd c12_42 (mk 119 f m) st = regB (evSteps tb (run tb) l12_42.1 (mk 119 f m) st) := gx_region e12_42 l12_42.2
theorem g12_43 : (run tb).code rd c12_43 (mk 119 f m) st = andThen ((run tb).code rd c12_44 (mk 119 f m) st) (fun fr st => (run tb).code rd c12_60 fr st) := gx_seq e12_43
theorem g12_44 : (run tb).code rd c12_44 (mk 119 f m) st = andThen ((run tb).code rd c12_45 (mk 119 f m) st) (fun fr st => (run tb).code rd c12_46 fr st) := gx_seq e12_44
noncomputable def l12_45 : { l : List Step // lightOf o12_45 = l } := by refine ⟨?_, ?h⟩; case h => simp only [lightOf, o12_45, opsOf, kid, bodyOf, Tryd.f12, Option.getD_some, List.map, stepOf, Option.map, List.getElem?_toArray, List.getElem?_cons_succ, List.getElem?_cons_zero, Option.bind_some]; rfl
theorem g12_45 : (run tb).code rd c12_45 (mk 119 f m) st = regB (evSteps tb (run tb) l12_45.1 (mk 119 f m) st) := gx_region e12_45 l12_45.2
theorem g12_46 : (run tb).code rd c12_46 (mk 119 f m) st = closeB 1 ((run tb).code rd c12_47 (mk 119 f m) st) := gx_block e12_46
theorem g12_47 : (run tb).code rd c12_47 (mk 119 f m) st = andThen ((run tb).code rd c12_48 (mk 119 f m) st) (fun fr st => (run tb).code rd c12_49 fr st) := gx_seq e12_47
noncomputable def l12_48 : { l : List Step // lightOf o12_48 = l } := by refine ⟨?_, ?h⟩; case h => simp only [lightOf, o12_48, opsOf, kid, bodyOf, Tryd.f12, Option.getD_some, List.map, stepOf, Option.map, List.getElem?_toArray, List.getElem?_cons_succ, List.getElem?_cons_zero, Option.bind_some]; rfl
theorem g12_48 : (run tb).code rd c12_48 (mk 119 f m) st = regB (evSteps tb (run tb) l12_48.1 (mk 119 f m) st) := gx_region e12_48 l12_48.2
theorem g12_49 : (run tb).code rd c12_49 (mk 119 f m) st = branch (f 53) (fun x => (run tb).code rd (sel x c12_50 c12_51) (mk 119 f m) st) := gx_cond e12_49 (by decide)
noncomputable def l12_50 : { l : List Step // lightOf o12_50 = l } := by refine ⟨?_, ?h⟩; case h => simp only [lightOf, o12_50, opsOf, kid, bodyOf, Tryd.f12, Option.getD_some, List.map, stepOf, Option.map, List.getElem?_toArray, List.getElem?_cons_succ, List.getElem?_cons_zero, Option.bind_some]; rfl
theorem g12_50 : (run tb).code rd c12_50 (mk 119 f m) st = regB (evSteps tb (run tb) l12_50.1 (mk 119 f m) st) := gx_region e12_50 l12_50.2
theorem g12_51 : (run tb).code rd c12_51 (mk 119 f m) st = andThen ((run tb).code rd c12_52 (mk 119 f m) st) (fun fr st => (run tb).code rd c12_53 fr st) := gx_seq e12_51
noncomputable def l12_52 : { l : List Step // lightOf o12_52 = l } := by refine ⟨?_, ?h⟩; case h => simp only [lightOf, o12_52, opsOf, kid, bodyOf, Tryd.f12, Option.getD_some, List.map, stepOf, Option.map, List.getElem?_toArray, List.getElem?_cons_succ, List.getElem?_cons_zero, Option.bind_some]; rfl
theorem g12_52 : (run tb).code rd c12_52 (mk 119 f m) st = regB (evSteps tb (run tb) l12_52.1 (mk 119 f m) st) := gx_region e12_52 l12_52.2
theorem g12_53 : (run tb).code rd c12_53 (mk 119 f m) st = branch (f 62) (fun x => (run tb).code rd (sel x c12_54 c12_55) (mk 119 f m) st) := gx_cond e12_53 (by decide)
noncomputable def l12_54 : { l : List Step // lightOf o12_54 = l } := by refine ⟨?_, ?h⟩; case h => simp only [lightOf, o12_54, opsOf, kid, bodyOf, Tryd.f12, Option.getD_some, List.map, stepOf, Option.map, List.getElem?_toArray, List.getElem?_cons_succ, List.getElem?_cons_zero, Option.bind_some]; rfl
theorem g12_54 : (run tb).code rd c12_54 (mk 119 f m) st = regB (evSteps tb (run tb) l12_54.1 (mk 119 f m) st) := gx_region e12_54 l12_54.2
theorem g12_55 : (run tb).code rd c12_55 (mk 119 f m) st = andThen ((run tb).code rd c12_56 (mk 119 f m) st) (fun fr st => (run tb).code rd c12_57 fr st) := gx_seq e12_55
noncomputable def l12_56 : { l : List Step // lightOf o12_56 = l } := by refine ⟨?_, ?h⟩; case h => simp only [lightOf, o12_56, opsOf, kid, bodyOf, Tryd.f12, Option.getD_some, List.map, stepOf, Option.map, List.getElem?_toArray, List.getElem?_cons_succ, List.getElem?_cons_zero, Option.bind_some]; rfl
theorem g12_56 : (run tb).code rd c12_56 (mk 119 f m) st = regB (evSteps tb (run tb) l12_56.1 (mk 119 f m) st) := gx_region e12_56 l12_56.2
theorem g12_57 : (run tb).code rd c12_57 (mk 119 f m) st = branch (f 71) (fun x => (run tb).code rd (sel x c12_58 c12_59) (mk 119 f m) st) := gx_cond e12_57 (by decide)
noncomputable def l12_58 : { l : List Step // lightOf o12_58 = l } := by refine ⟨?_, ?h⟩; case h => simp only [lightOf, o12_58, opsOf, kid, bodyOf, Tryd.f12, Option.getD_some, List.map, stepOf, Option.map, List.getElem?_toArray, List.getElem?_cons_succ, List.getElem?_cons_zero, Option.bind_some]; rfl
theorem g12_58 : (run tb).code rd c12_58 (mk 119 f m) st = regB (evSteps tb (run tb) l12_58.1 (mk 119 f m) st) := gx_region e12_58 l12_58.2
theorem g12_59 : (run tb).code rd c12_59 (mk 119 f m) st = some (.normal, mk 119 f m, st) := gx_skip e12_59
theorem g12_60 : (run tb).code rd c12_60 (mk 119 f m) st = andThen ((run tb).code rd c12_61 (mk 119 f m) st) (fun fr st => (run tb).code rd c12_62 fr st) := gx_seq e12_60
noncomputable def l12_61 : { l : List Step // lightOf o12_61 = l } := by refine ⟨?_, ?h⟩; case h => simp only [lightOf, o12_61, opsOf, kid, bodyOf, Tryd.f12, Option.getD_some, List.map, stepOf, Option.map, List.getElem?_toArray, List.getElem?_cons_succ, List.getElem?_cons_zero, Option.bind_some]; rfl
theorem g12_61 : (run tb).code rd c12_61 (mk 119 f m) st = regB (evSteps tb (run tb) l12_61.1 (mk 119 f m) st) := gx_region e12_61 l12_61.2
theorem g12_62 : (run tb).code rd c12_62 (mk 119 f m) st = some (.ret, mk 119 f m, st) := gx_ret e12_62
theorem g12_63 : (run tb).code rd c12_63 (mk 119 f m) st = andThen ((run tb).code rd c12_64 (mk 119 f m) st) (fun fr st => (run tb).code rd c12_65 fr st) := gx_seq e12_63
noncomputable def l12_64 : { l : List Step // lightOf o12_64 = l } := by refine ⟨?_, ?h⟩; case h => simp only [lightOf, o12_64, opsOf, kid, bodyOf, Tryd.f12, Option.getD_some, List.map, stepOf, Option.map, List.getElem?_toArray, List.getElem?_cons_succ, List.getElem?_cons_zero, Option.bind_some]; rfl
theorem g12_64 : (run tb).code rd c12_64 (mk 119 f m) st = regB (evSteps tb (run tb) l12_64.1 (mk 119 f m) st) := gx_region e12_64 l12_64.2
theorem g12_65 : (run tb).code rd c12_65 (mk 119 f m) st = branch (f 88) (fun x => (run tb).code rd (sel x c12_66 c12_82) (mk 119 f m) st) := gx_cond e12_65 (by decide)
theorem g12_66 : (run tb).code rd c12_66 (mk 119 f m) st = andThen ((run tb).code rd c12_67 (mk 119 f m) st) (fun fr st => (run tb).code rd c12_68 fr st) := gx_seq e12_66
noncomputable def l12_67 : { l : List Step // lightOf o12_67 = l } := by refine ⟨?_, ?h⟩; case h => simp only [lightOf, o12_67, opsOf, kid, bodyOf, Tryd.f12, Option.getD_some, List.map, stepOf, Option.map, List.getElem?_toArray, List.getElem?_cons_succ, List.getElem?_cons_zero, Option.bind_some]; rfl
theorem g12_67 : (run tb).code rd c12_67 (mk 119 f m) st = regB (evSteps tb (run tb) l12_67.1 (mk 119 f m) st) := gx_region e12_67 l12_67.2
theorem g12_68 : (run tb).code rd c12_68 (mk 119 f m) st = andThen ((run tb).code rd c12_69 (mk 119 f m) st) (fun fr st => (run tb).code rd c12_70 fr st) := gx_seq e12_68
noncomputable def l12_69 : { l : List Step // lightOf o12_69 = l } := by refine ⟨?_, ?h⟩; case h => simp only [lightOf, o12_69, opsOf, kid, bodyOf, Tryd.f12, Option.getD_some, List.map, stepOf, Option.map, List.getElem?_toArray, List.getElem?_cons_succ, List.getElem?_cons_zero, Option.bind_some]; rfl
theorem g12_69 : (run tb).code rd c12_69 (mk 119 f m) st = regB (evSteps tb (run tb) l12_69.1 (mk 119 f m) st) := gx_region e12_69 l12_69.2
theorem g12_70 : (run tb).code rd c12_70 (mk 119 f m) st = closeB 2 ((run tb).code rd c12_71 (mk 119 f m) st) := gx_block e12_70
theorem g12_72 : (run tb).code rd c12_72 (mk 119 f m) st = andThen ((run tb).code rd c12_73 (mk 119 f m) st) (fun fr st => (run tb).code rd c12_78 fr st) := gx_seq e12_72
theorem g12_73 : (run tb).code rd c12_73 (mk 119 f m) st = andThen ((run tb).code rd c12_74 (mk 119 f m) st) (fun fr st => (run tb).code rd c12_75 fr st) := gx_seq e12_73
noncomputable def l12_74 : { l : List Step // lightOf o12_74 = l } := by refine ⟨?_, ?h⟩; case h => simp only [lightOf, o12_74, opsOf, kid, bodyOf, Tryd.f12, Option.getD_some, List.map, stepOf, Option.map, List.getElem?_toArray, List.getElem?_cons_succ, List.getElem?_cons_zero, Option.bind_some]; rfl
theorem g12_74 : (run tb).code rd c12_74 (mk 119 f m) st = regB (evSteps tb (run tb) l12_74.1 (mk 119 f m) st) := gx_region e12_74 l12_74.2
theorem g12_75 : (run tb).code rd c12_75 (mk 119 f m) st = branch (f 98) (fun x => (run tb).code rd (sel x c12_76 c12_77) (mk 119 f m) st) := gx_cond e12_75 (by decide)
theorem g12_76 : (run tb).code rd c12_76 (mk 119 f m) st = some (.normal, mk 119 f m, st) := gx_skip e12_76
theorem g12_77 : (run tb).code rd c12_77 (mk 119 f m) st = some (.exit 2, mk 119 f m, st) := gx_exit e12_77
theorem g12_78 : (run tb).code rd c12_78 (mk 119 f m) st = andThen ((run tb).code rd c12_79 (mk 119 f m) st) (fun fr st => (run tb).code rd c12_81 fr st) := gx_seq e12_78
theorem g12_79 : (run tb).code rd c12_79 (mk 119 f m) st = closeB 3 ((run tb).code rd c12_80 (mk 119 f m) st) := gx_block e12_79
noncomputable def l12_80 : { l : List Step // lightOf o12_80 = l } := by refine ⟨?_, ?h⟩; case h => simp only [lightOf, o12_80, opsOf, kid, bodyOf, Tryd.f12, Option.getD_some, List.map, stepOf, Option.map, List.getElem?_toArray, List.getElem?_cons_succ, List.getElem?_cons_zero, Option.bind_some]; rfl
theorem g12_80 : (run tb).code rd c12_80 (mk 119 f m) st = regB (evSteps tb (run tb) l12_80.1 (mk 119 f m) st) := gx_region e12_80 l12_80.2
noncomputable def l12_81 : { l : List Step // lightOf o12_81 = l } := by refine ⟨?_, ?h⟩; case h => simp only [lightOf, o12_81, opsOf, kid, bodyOf, Tryd.f12, Option.getD_some, List.map, stepOf, Option.map, List.getElem?_toArray, List.getElem?_cons_succ, List.getElem?_cons_zero, Option.bind_some]; rfl
theorem g12_81 : (run tb).code rd c12_81 (mk 119 f m) st = regB (evSteps tb (run tb) l12_81.1 (mk 119 f m) st) := gx_region e12_81 l12_81.2
theorem g12_82 : (run tb).code rd c12_82 (mk 119 f m) st = andThen ((run tb).code rd c12_83 (mk 119 f m) st) (fun fr st => (run tb).code rd c12_84 fr st) := gx_seq e12_82
noncomputable def l12_83 : { l : List Step // lightOf o12_83 = l } := by refine ⟨?_, ?h⟩; case h => simp only [lightOf, o12_83, opsOf, kid, bodyOf, Tryd.f12, Option.getD_some, List.map, stepOf, Option.map, List.getElem?_toArray, List.getElem?_cons_succ, List.getElem?_cons_zero, Option.bind_some]; rfl
theorem g12_83 : (run tb).code rd c12_83 (mk 119 f m) st = regB (evSteps tb (run tb) l12_83.1 (mk 119 f m) st) := gx_region e12_83 l12_83.2
theorem g12_84 : (run tb).code rd c12_84 (mk 119 f m) st = branch (f 107) (fun x => (run tb).code rd (sel x c12_85 c12_88) (mk 119 f m) st) := gx_cond e12_84 (by decide)
theorem g12_85 : (run tb).code rd c12_85 (mk 119 f m) st = andThen ((run tb).code rd c12_86 (mk 119 f m) st) (fun fr st => (run tb).code rd c12_87 fr st) := gx_seq e12_85
noncomputable def l12_86 : { l : List Step // lightOf o12_86 = l } := by refine ⟨?_, ?h⟩; case h => simp only [lightOf, o12_86, opsOf, kid, bodyOf, Tryd.f12, Option.getD_some, List.map, stepOf, Option.map, List.getElem?_toArray, List.getElem?_cons_succ, List.getElem?_cons_zero, Option.bind_some]; rfl
theorem g12_86 : (run tb).code rd c12_86 (mk 119 f m) st = regB (evSteps tb (run tb) l12_86.1 (mk 119 f m) st) := gx_region e12_86 l12_86.2
theorem g12_87 : (run tb).code rd c12_87 (mk 119 f m) st = some (.ret, mk 119 f m, st) := gx_ret e12_87
theorem g12_88 : (run tb).code rd c12_88 (mk 119 f m) st = some (.normal, mk 119 f m, st) := gx_skip e12_88
theorem g12_89 : (run tb).code rd c12_89 (mk 119 f m) st = andThen ((run tb).code rd c12_90 (mk 119 f m) st) (fun fr st => (run tb).code rd c12_91 fr st) := gx_seq e12_89
noncomputable def l12_90 : { l : List Step // lightOf o12_90 = l } := by refine ⟨?_, ?h⟩; case h => simp only [lightOf, o12_90, opsOf, kid, bodyOf, Tryd.f12, Option.getD_some, List.map, stepOf, Option.map, List.getElem?_toArray, List.getElem?_cons_succ, List.getElem?_cons_zero, Option.bind_some]; rfl
theorem g12_90 : (run tb).code rd c12_90 (mk 119 f m) st = regB (evSteps tb (run tb) l12_90.1 (mk 119 f m) st) := gx_region e12_90 l12_90.2
theorem g12_91 : (run tb).code rd c12_91 (mk 119 f m) st = some (.ret, mk 119 f m, st) := gx_ret e12_91
end Go.Proofs.YtgknieohkniojaaDoor
namespace Go.Proofs.YtgknieohkniojaaDoor
open Go.Abs
set_option maxRecDepth 100000
set_option linter.unusedSimpArgs false
set_option linter.unusedVariables false
set_option maxHeartbeats 4000000
/-- A state that has grown, and in which two objects have changed. -/
structure Mod2 (st st' : St) (x y : Nat) : Prop where
  base : st'.base = st.base
  prot : st'.prot = st.prot
  len : st.store.length ≤ st'.store.length
  same : ∀ i, i < st.store.length → i ≠ x → i ≠ y → st'.store[i]? = st.store[i]?
theorem do_add (r o w : Nat) (n : Int) (nl : Bool) (xs : List Int) (A : Bool) (st s2 s3 : St)
    (h28 : (run tb).call 28 [.ptr r 0, .int .i64 n] { store := st.store ++ [.box [.int .i64 0, .int .i64 n, .list false (some nl) (ints xs)]], base := st.base, prot := st.store.length :: st.prot } = some (.bool A, { s2 with prot := st.store.length :: st.prot }))
    (hp2 : s2.prot = st.prot) (h31 : (run tb).call 31 [.ptr o 0, .int .i64 n, .bool true] s2 = some (.bool A, s3)) (hp3 : s3.prot = st.prot) {Q : V → St → Prop} (hQ : Q (.bool true) s3) :
    Ret Q ((run tb).call 12 [.ptr r 0, .ptr o 0, cV ⟨0, n, nl, xs⟩] st) := by
  have e2 : ({ store := s2.store, base := s2.base, prot := st.prot } : St) = s2 := by rw [← hp2]
  rw [run12 (by simp)]
  simp (config := { decide := true }) [g12_0, g12_1, g12_2, g12_3, g12_4, g12_5, g12_6, g12_7, g12_8, g12_9, g12_10, g12_11, l12_1, l12_4, l12_7, l12_10, steps_nil, steps_cons, draws_nil, draws_cons, step_mk, stepB_some, stepB_none, memB_mk, thenS_some, regB_some, branch_bool, sel_true, sel_false, wanted_none, wanted_some, asB, mk_put, mk_put_none, arg_tmp, arg_const, arg_func, arg_global, upd_same, upd_ne, evPure, evArgs, m_load, m_store, m_alloc, m_box, m_call, m_lookup, m_mapUpdate, m_inv, evLoad, readCells, evFieldAddr, evIndexAddr, asIdx, ofValue, isPure, evBin, ib_lss, ib_leq, ib_gtr, ib_geq, ib_eql, ib_neq, evUn, leave_normal, leave_ret, finish, then_normal, then_exit, then_ret, close_normal, close_exit, close_ret, evConv, mk_marks, dropMarks, resOf, resList, mk_getD, argF, List.getD_cons_zero, List.getD_cons_succ, V.cells, evLen, kdOp, kdOf, readsOf, protS, eq_bool, eq_nil28, evStore, V.oneCell, putElem, splice, -List.getD_eq_getElem?_getD, -getElem?_pos, und55, und53, und22, size3, size53, size58, size22, ty3, ty4, ty53, ty58, ty22, cV, Cl.cells, St.new, und25, size3, size22, ty22, app_get0', List.getElem?_cons_zero, h28, e2, h31, eq_bool]
  have e4 : ({ store := s3.store, base := s3.base, prot := s2.prot } : St) = s3 := by rw [hp2, ← hp3]
  rw [e4]
  exact .one hQ
theorem do_cut (r o w : Nat) (n : Int) (nl : Bool) (xs : List Int) (A : Bool) (st s2 s3 : St)
    (h28 : (run tb).call 29 [.ptr r 0, .int .i64 n] { store := st.store ++ [.box [.int .i64 1, .int .i64 n, .list false (some nl) (ints xs)]], base := st.base, prot := st.store.length :: st.prot } = some (.bool A, { s2 with prot := st.store.length :: st.prot }))
    (hp2 : s2.prot = st.prot) (h31 : (run tb).call 31 [.ptr o 0, .int .i64 n, .bool false] s2 = some (.bool A, s3)) (hp3 : s3.prot = st.prot) {Q : V → St → Prop} (hQ : Q (.bool true) s3) :
    Ret Q ((run tb).call 12 [.ptr r 0, .ptr o 0, cV ⟨1, n, nl, xs⟩] st) := by
  have e2 : ({ store := s2.store, base := s2.base, prot := st.prot } : St) = s2 := by rw [← hp2]
  rw [run12 (by simp)]
  simp (config := { decide := true }) [g12_0, g12_1, g12_2, g12_3, g12_4, g12_5, g12_6, g12_7, g12_8, g12_12, g12_13, g12_14, g12_15, g12_16, g12_17, l12_1, l12_4, l12_7, l12_13, l12_16, steps_nil, steps_cons, draws_nil, draws_cons, step_mk, stepB_some, stepB_none, memB_mk, thenS_some, regB_some, branch_bool, sel_true, sel_false, wanted_none, wanted_some, asB, mk_put, mk_put_none, arg_tmp, arg_const, arg_func, arg_global, upd_same, upd_ne, evPure, evArgs, m_load, m_store, m_alloc, m_box, m_call, m_lookup, m_mapUpdate, m_inv, evLoad, readCells, evFieldAddr, evIndexAddr, asIdx, ofValue, isPure, evBin, ib_lss, ib_leq, ib_gtr, ib_geq, ib_eql, ib_neq, evUn, leave_normal, leave_ret, finish, then_normal, then_exit, then_ret, close_normal, close_exit, close_ret, evConv, mk_marks, dropMarks, resOf, resList, mk_getD, argF, List.getD_cons_zero, List.getD_cons_succ, V.cells, evLen, kdOp, kdOf, readsOf, protS, eq_bool, eq_nil28, evStore, V.oneCell, putElem, splice, -List.getD_eq_getElem?_getD, -getElem?_pos, und55, und53, und22, size3, size53, size58, size22, ty3, ty4, ty53, ty58, ty22, cV, Cl.cells, St.new, und25, size3, size22, ty22, app_get0', List.getElem?_cons_zero, h28, e2, h31, eq_bool]
  have e4 : ({ store := s3.store, base := s3.base, prot := s2.prot } : St) = s3 := by rw [hp2, ← hp3]
  rw [e4]
  exact .one hQ
theorem do_self (r o : Nat) (n : Int) (nl : Bool) (xs : List Int) (st : St)
    (hj : (run tb).call 26 [.ptr r 0, .ptr r 0] { store := st.store ++ [.box [.int .i64 6, .int .i64 n, .list false (some nl) (ints xs)]], base := st.base, prot := st.prot } = some (.bool false, { store := st.store ++ [.box [.int .i64 6, .int .i64 n, .list false (some nl) (ints xs)]], base := st.base, prot := st.prot }))
    (hm : (run tb).call 24 [.ptr r 0, .ptr r 0] { store := st.store ++ [.box [.int .i64 6, .int .i64 n, .list false (some nl) (ints xs)]], base := st.base, prot := st.prot } = some (.bool false, { store := st.store ++ [.box [.int .i64 6, .int .i64 n, .list false (some nl) (ints xs)]], base := st.base, prot := st.prot })) {Q : V → St → Prop}
    (hQ : Q (.bool true) { store := st.store ++ [.box [.int .i64 6, .int .i64 n, .list false (some nl) (ints xs)]], base := st.base, prot := st.prot }) :
    Ret Q ((run tb).call 12 [.ptr r 0, .ptr o 0, cV ⟨6, n, nl, xs⟩] st) := by
  rw [run12 (by simp)]
  simp [g12_0, g12_1, g12_2, g12_3, g12_4, g12_5, g12_6, g12_7, g12_8, g12_12, g12_13, g12_14, g12_18, g12_19, g12_20, g12_21, g12_22, g12_23, g12_24, g12_25, g12_26, g12_27, g12_28, g12_63, g12_64, g12_65, g12_82, g12_83, g12_84, g12_85, g12_86, g12_87, g12_88, l12_1, l12_4, l12_7, l12_13, l12_20, l12_24, l12_27, l12_64, l12_83, l12_86, steps_nil, steps_cons, draws_nil, draws_cons, step_mk, stepB_some, stepB_none, memB_mk, thenS_some, regB_some, branch_bool, sel_true, sel_false, wanted_none, wanted_some, asB, mk_put, mk_put_none, arg_tmp, arg_const, arg_func, arg_global, upd_same, upd_ne, evPure, evArgs, m_load, m_store, m_alloc, m_box, m_call, m_lookup, m_mapUpdate, m_inv, evLoad, readCells, evFieldAddr, evIndexAddr, asIdx, ofValue, isPure, evBin, ib_lss, ib_leq, ib_gtr, ib_geq, ib_eql, ib_neq, evUn, leave_normal, leave_ret, finish, then_normal, then_exit, then_ret, close_normal, close_exit, close_ret, evConv, mk_marks, dropMarks, resOf, resList, mk_getD, argF, List.getD_cons_zero, List.getD_cons_succ, V.cells, evLen, kdOp, kdOf, readsOf, protS, eq_bool, eq_nil28, evStore, V.oneCell, putElem, splice, -List.getD_eq_getElem?_getD, -getElem?_pos, und55, und53, und22, size3, size53, size58, size22, ty3, ty4, ty53, ty58, ty22, cV, Cl.cells, St.new, und25, size3, size22, ty22, app_get0', List.getElem?_cons_zero, hj, hm]
  exact .one hQ
theorem do_other (r o : Nat) (w n : Int) (nl : Bool) (xs : List Int) (st : St) (h0 : ¬ w = 0) (h1 : ¬ w = 1) (h2 : ¬ w = 2) (h3 : ¬ w = 3) (h4 : ¬ w = 4) (h5 : ¬ w = 5) (h6 : ¬ w = 6) {Q : V → St → Prop}
    (hQ : Q (.bool true) { store := st.store ++ [.box [.int .i64 w, .int .i64 n, .list false (some nl) (ints xs)]], base := st.base, prot := st.prot }) :
    Ret Q ((run tb).call 12 [.ptr r 0, .ptr o 0, cV ⟨w, n, nl, xs⟩] st) := by
  have k0 : (w == 0) = false := by simp [h0]
  have k1 : (w == 1) = false := by simp [h1]
  have k2 : (w == 2) = false := by simp [h2]
  have k3 : (w == 3) = false := by simp [h3]
  have k4 : (w == 4) = false := by simp [h4]
  have k5 : (w == 5) = false := by simp [h5]
  have k6 : (w == 6) = false := by simp [h6]
  rw [run12 (by simp)]
  simp [g12_0, g12_1, g12_2, g12_3, g12_4, g12_5, g12_6, g12_7, g12_8, g12_12, g12_13, g12_14, g12_18, g12_19, g12_20, g12_21, g12_22, g12_23, g12_24, g12_25, g12_26, g12_27, g12_28, g12_63, g12_64, g12_65, g12_82, g12_83, g12_84, g12_85, g12_86, g12_87, g12_88, g12_89, g12_90, g12_91, l12_1, l12_4, l12_7, l12_13, l12_20, l12_24, l12_27, l12_64, l12_83, l12_86, l12_90, steps_nil, steps_cons, draws_nil, draws_cons, step_mk, stepB_some, stepB_none, memB_mk, thenS_some, regB_some, branch_bool, sel_true, sel_false, wanted_none, wanted_some, asB, mk_put, mk_put_none, arg_tmp, arg_const, arg_func, arg_global, upd_same, upd_ne, evPure, evArgs, m_load, m_store, m_alloc, m_box, m_call, m_lookup, m_mapUpdate, m_inv, evLoad, readCells, evFieldAddr, evIndexAddr, asIdx, ofValue, isPure, evBin, ib_lss, ib_leq, ib_gtr, ib_geq, ib_eql, ib_neq, evUn, leave_normal, leave_ret, finish, then_normal, then_exit, then_ret, close_normal, close_exit, close_ret, evConv, mk_marks, dropMarks, resOf, resList, mk_getD, argF, List.getD_cons_zero, List.getD_cons_succ, V.cells, evLen, kdOp, kdOf, readsOf, protS, eq_bool, eq_nil28, evStore, V.oneCell, putElem, splice, -List.getD_eq_getElem?_getD, -getElem?_pos, und55, und53, und22, size3, size53, size58, size22, ty3, ty4, ty53, ty58, ty22, cV, Cl.cells, St.new, und25, size3, size22, ty22, app_get0', List.getElem?_cons_zero, k0, k1, k2, k3, k4, k5, k6]
  exact .one hQ
theorem do_op2 (r o p q : Nat) (n : Int) (nl : Bool) (xs : List Int) (A : Bool) (st t1 t2 t3 t4 t5 t6 : St) (v w : V)
    (hN : (run tb).call 10 [.int .i64 n, .list false (some nl) (ints xs)] { store := st.store ++ [.box [.int .i64 2, .int .i64 n, .list false (some nl) (ints xs)]], base := st.base, prot := st.prot } = some (.ptr p 0, t1))
    (c1 : t1.store[st.store.length]? = some (.box [.int .i64 2, .int .i64 n, .list false (some nl) (ints xs)])) (hR : (run tb).call 11 [.int .i64 n, .list false (some nl) (ints xs)] t1 = some (.ptr q 0, t2))
    (c2 : t2.store[st.store.length]? = some (.box [.int .i64 2, .int .i64 n, .list false (some nl) (ints xs)])) (hJ : (run tb).call 26 [.ptr r 0, .ptr p 0] t2 = some (.bool A, t3)) (hD : (run tb).call 32 [.ptr o 0, .int .i64 0, .ptr q 0] t3 = some (.bool A, t4))
    (hL : (run tb).call 14 [.ptr p 0] t4 = some (v, t5)) (hA : (run tb).call 15 [.ptr q 0] t5 = some (w, t6)) (hS : (run tb).call 13 [v, w] t6 = some (.bool true, t6)) {Q : V → St → Prop} (hQ : Q (.bool true) t6) :
    Ret Q ((run tb).call 12 [.ptr r 0, .ptr o 0, cV ⟨2, n, nl, xs⟩] st) := by
  rw [run12 (by simp)]
  simp [g12_0, g12_1, g12_2, g12_3, g12_4, g12_5, g12_6, g12_7, g12_8, g12_12, g12_13, g12_14, g12_18, g12_19, g12_20, g12_21, g12_22, g12_23, g12_24, g12_25, g12_26, g12_27, g12_28, g12_29, g12_30, g12_31, g12_32, g12_33, g12_34, g12_35, g12_36, g12_37, g12_38, g12_39, g12_40, g12_41, g12_42, g12_43, g12_44, g12_45, g12_46, g12_47, g12_48, g12_49, g12_50, g12_51, g12_52, g12_53, g12_54, g12_55, g12_56, g12_57, g12_58, g12_59, g12_60, g12_61, g12_62, l12_1, l12_4, l12_7, l12_13, l12_20, l12_24, l12_27, l12_30, l12_32, l12_35, l12_38, l12_42, l12_45, l12_48, l12_50, l12_52, l12_54, l12_56, l12_58, l12_61, steps_nil, steps_cons, draws_nil, draws_cons, step_mk, stepB_some, stepB_none, memB_mk, thenS_some, regB_some, branch_bool, sel_true, sel_false, wanted_none, wanted_some, asB, mk_put, mk_put_none, arg_tmp, arg_const, arg_func, arg_global, upd_same, upd_ne, evPure, evArgs, m_load, m_store, m_alloc, m_box, m_call, m_lookup, m_mapUpdate, m_inv, evLoad, readCells, evFieldAddr, evIndexAddr, asIdx, ofValue, isPure, evBin, ib_lss, ib_leq, ib_gtr, ib_geq, ib_eql, ib_neq, evUn, leave_normal, leave_ret, finish, then_normal, then_exit, then_ret, close_normal, close_exit, close_ret, evConv, mk_marks, dropMarks, resOf, resList, mk_getD, argF, List.getD_cons_zero, List.getD_cons_succ, V.cells, evLen, kdOp, kdOf, readsOf, protS, eq_bool, eq_nil28, evStore, V.oneCell, putElem, splice, -List.getD_eq_getElem?_getD, -getElem?_pos, und55, und53, und22, size3, size53, size58, size22, ty3, ty4, ty53, ty58, ty22, cV, Cl.cells, St.new, und25, size3, size22, ty22, app_get0', List.getElem?_cons_zero, hN, c1, hR, c2, hJ, hD, hL, hA, hS, eq_bool]
  exact .one hQ
theorem do_op3 (r o p q : Nat) (n : Int) (nl : Bool) (xs : List Int) (A : Bool) (st t1 t2 t3 t4 t5 t6 : St) (v w : V)
    (hN : (run tb).call 10 [.int .i64 n, .list false (some nl) (ints xs)] { store := st.store ++ [.box [.int .i64 3, .int .i64 n, .list false (some nl) (ints xs)]], base := st.base, prot := st.prot } = some (.ptr p 0, t1))
    (c1 : t1.store[st.store.length]? = some (.box [.int .i64 3, .int .i64 n, .list false (some nl) (ints xs)])) (hR : (run tb).call 11 [.int .i64 n, .list false (some nl) (ints xs)] t1 = some (.ptr q 0, t2))
    (c2 : t2.store[st.store.length]? = some (.box [.int .i64 3, .int .i64 n, .list false (some nl) (ints xs)])) (hJ : (run tb).call 24 [.ptr r 0, .ptr p 0] t2 = some (.bool A, t3)) (hD : (run tb).call 32 [.ptr o 0, .int .i64 1, .ptr q 0] t3 = some (.bool A, t4))
    (hL : (run tb).call 14 [.ptr p 0] t4 = some (v, t5)) (hA : (run tb).call 15 [.ptr q 0] t5 = some (w, t6)) (hS : (run tb).call 13 [v, w] t6 = some (.bool true, t6)) {Q : V → St → Prop} (hQ : Q (.bool true) t6) :
    Ret Q ((run tb).call 12 [.ptr r 0, .ptr o 0, cV ⟨3, n, nl, xs⟩] st) := by
  rw [run12 (by simp)]
  simp [g12_0, g12_1, g12_2, g12_3, g12_4, g12_5, g12_6, g12_7, g12_8, g12_12, g12_13, g12_14, g12_18, g12_19, g12_20, g12_21, g12_22, g12_23, g12_24, g12_25, g12_26, g12_27, g12_28, g12_29, g12_30, g12_31, g12_32, g12_33, g12_34, g12_35, g12_36, g12_37, g12_38, g12_39, g12_40, g12_41, g12_42, g12_43, g12_44, g12_45, g12_46, g12_47, g12_48, g12_49, g12_50, g12_51, g12_52, g12_53, g12_54, g12_55, g12_56, g12_57, g12_58, g12_59, g12_60, g12_61, g12_62, l12_1, l12_4, l12_7, l12_13, l12_20, l12_24, l12_27, l12_30, l12_32, l12_35, l12_38, l12_42, l12_45, l12_48, l12_50, l12_52, l12_54, l12_56, l12_58, l12_61, steps_nil, steps_cons, draws_nil, draws_cons, step_mk, stepB_some, stepB_none, memB_mk, thenS_some, regB_some, branch_bool, sel_true, sel_false, wanted_none, wanted_some, asB, mk_put, mk_put_none, arg_tmp, arg_const, arg_func, arg_global, upd_same, upd_ne, evPure, evArgs, m_load, m_store, m_alloc, m_box, m_call, m_lookup, m_mapUpdate, m_inv, evLoad, readCells, evFieldAddr, evIndexAddr, asIdx, ofValue, isPure, evBin, ib_lss, ib_leq, ib_gtr, ib_geq, ib_eql, ib_neq, evUn, leave_normal, leave_ret, finish, then_normal, then_exit, then_ret, close_normal, close_exit, close_ret, evConv, mk_marks, dropMarks, resOf, resList, mk_getD, argF, List.getD_cons_zero, List.getD_cons_succ, V.cells, evLen, kdOp, kdOf, readsOf, protS, eq_bool, eq_nil28, evStore, V.oneCell, putElem, splice, -List.getD_eq_getElem?_getD, -getElem?_pos, und55, und53, und22, size3, size53, size58, size22, ty3, ty4, ty53, ty58, ty22, cV, Cl.cells, St.new, und25, size3, size22, ty22, app_get0', List.getElem?_cons_zero, hN, c1, hR, c2, hJ, hD, hL, hA, hS, eq_bool]
  exact .one hQ
theorem do_op4 (r o p q : Nat) (n : Int) (nl : Bool) (xs : List Int) (A : Bool) (st t1 t2 t3 t4 t5 t6 : St) (v w : V)
    (hN : (run tb).call 10 [.int .i64 n, .list false (some nl) (ints xs)] { store := st.store ++ [.box [.int .i64 4, .int .i64 n, .list false (some nl) (ints xs)]], base := st.base, prot := st.prot } = some (.ptr p 0, t1))
    (c1 : t1.store[st.store.length]? = some (.box [.int .i64 4, .int .i64 n, .list false (some nl) (ints xs)])) (hR : (run tb).call 11 [.int .i64 n, .list false (some nl) (ints xs)] t1 = some (.ptr q 0, t2))
    (c2 : t2.store[st.store.length]? = some (.box [.int .i64 4, .int .i64 n, .list false (some nl) (ints xs)])) (hJ : (run tb).call 25 [.ptr r 0, .ptr p 0] t2 = some (.bool A, t3)) (hD : (run tb).call 32 [.ptr o 0, .int .i64 2, .ptr q 0] t3 = some (.bool A, t4))
    (hL : (run tb).call 14 [.ptr p 0] t4 = some (v, t5)) (hA : (run tb).call 15 [.ptr q 0] t5 = some (w, t6)) (hS : (run tb).call 13 [v, w] t6 = some (.bool true, t6)) {Q : V → St → Prop} (hQ : Q (.bool true) t6) :
    Ret Q ((run tb).call 12 [.ptr r 0, .ptr o 0, cV ⟨4, n, nl, xs⟩] st) := by
  rw [run12 (by simp)]
  simp [g12_0, g12_1, g12_2, g12_3, g12_4, g12_5, g12_6, g12_7, g12_8, g12_12, g12_13, g12_14, g12_18, g12_19, g12_20, g12_21, g12_22, g12_23, g12_24, g12_25, g12_26, g12_27, g12_28, g12_29, g12_30, g12_31, g12_32, g12_33, g12_34, g12_35, g12_36, g12_37, g12_38, g12_39, g12_40, g12_41, g12_42, g12_43, g12_44, g12_45, g12_46, g12_47, g12_48, g12_49, g12_50, g12_51, g12_52, g12_53, g12_54, g12_55, g12_56, g12_57, g12_58, g12_59, g12_60, g12_61, g12_62, l12_1, l12_4, l12_7, l12_13, l12_20, l12_24, l12_27, l12_30, l12_32, l12_35, l12_38, l12_42, l12_45, l12_48, l12_50, l12_52, l12_54, l12_56, l12_58, l12_61, steps_nil, steps_cons, draws_nil, draws_cons, step_mk, stepB_some, stepB_none, memB_mk, thenS_some, regB_some, branch_bool, sel_true, sel_false, wanted_none, wanted_some, asB, mk_put, mk_put_none, arg_tmp, arg_const, arg_func, arg_global, upd_same, upd_ne, evPure, evArgs, m_load, m_store, m_alloc, m_box, m_call, m_lookup, m_mapUpdate, m_inv, evLoad, readCells, evFieldAddr, evIndexAddr, asIdx, ofValue, isPure, evBin, ib_lss, ib_leq, ib_gtr, ib_geq, ib_eql, ib_neq, evUn, leave_normal, leave_ret, finish, then_normal, then_exit, then_ret, close_normal, close_exit, close_ret, evConv, mk_marks, dropMarks, resOf, resList, mk_getD, argF, List.getD_cons_zero, List.getD_cons_succ, V.cells, evLen, kdOp, kdOf, readsOf, protS, eq_bool, eq_nil28, evStore, V.oneCell, putElem, splice, -List.getD_eq_getElem?_getD, -getElem?_pos, und55, und53, und22, size3, size53, size58, size22, ty3, ty4, ty53, ty58, ty22, cV, Cl.cells, St.new, und25, size3, size22, ty22, app_get0', List.getElem?_cons_zero, hN, c1, hR, c2, hJ, hD, hL, hA, hS, eq_bool]
  exact .one hQ
theorem fill_loop (st0 : St) (o ov b : Nat) (iv : V) (m : List Nat) : ∀ (d k : Nat) (S : Nat → Bool) (f : Nat → V) (st : St), k + d = b → RefAt st o iv ov b S → Free st ov → (∀ i, i < k → S i = true) → f 1 = .ptr o 0 → f 10 = .int .i64 (k : Nat) →
    Out 119 m (fun e f' st' => e = .exit 2 ∧ RefAt st' o iv ov b (fun i => decide (i < b)) ∧ But st st' ov) ((run tb).code none c12_71 (mk 119 f m) st)
  | 0, k, S, f, st, hk, hR, hl, hS, h1, h10 => by
    have hk : k = b := hk
    subst hk
    have hb := hR.hb
    have e : S = fun i => decide (i < k) := by
      funext i
      by_cases h : i < k
      · rw [hS i h]; simp [h]
      · rw [hR.hz i (by omega)]; simp [h]
    rw [e] at hR
    generalize hQ : (fun (e : E) (f' : Nat → V) (st' : St) => e = .exit 2 ∧ RefAt st' o iv ov k (fun i => decide (i < k)) ∧ But st st' ov) = Q
    have hfin : ∀ f', Q (.exit 2) f' st := fun f' => by subst hQ; exact ⟨rfl, hR, But.refl _ _⟩
    clear e
    rw [go_loop_of e12_71]
    rcases hR.hi with ⟨rfl, hv⟩ | ⟨hz, rfl⟩
    · simp [g12_72, g12_73, g12_74, g12_75, g12_76, g12_77, g12_78, g12_79, g12_80, g12_81, l12_74, l12_80, l12_81, steps_nil, steps_cons, draws_nil, draws_cons, step_mk, stepB_some, stepB_none, memB_mk, thenS_some, regB_some, branch_bool, sel_true, sel_false, wanted_none, wanted_some, asB, mk_put, mk_put_none, arg_tmp, arg_const, arg_func, arg_global, upd_same, upd_ne, evPure, evArgs, m_load, m_store, m_alloc, m_box, m_call, m_lookup, m_mapUpdate, m_inv, evLoad, readCells, evFieldAddr, evIndexAddr, asIdx, ofValue, isPure, evBin, ib_lss, ib_leq, ib_gtr, ib_geq, ib_eql, ib_neq, evUn, leave_normal, leave_ret, finish, then_normal, then_exit, then_ret, close_normal, close_exit, close_ret, evConv, mk_marks, dropMarks, resOf, resList, mk_getD, argF, List.getD_cons_zero, List.getD_cons_succ, V.cells, evLen, kdOp, kdOf, readsOf, protS, eq_bool, eq_nil28, evStore, V.oneCell, putElem, splice, -List.getD_eq_getElem?_getD, -getElem?_pos, und55, und53, und22, size3, size53, size58, size22, ty3, ty4, ty53, ty58, ty22, h1, h10, hb, und40, und38, ty38, size38]
      exact .one (hfin _)
    · subst hz
      simp [g12_72, g12_73, g12_74, g12_75, g12_76, g12_77, g12_78, g12_79, g12_80, g12_81, l12_74, l12_80, l12_81, steps_nil, steps_cons, draws_nil, draws_cons, step_mk, stepB_some, stepB_none, memB_mk, thenS_some, regB_some, branch_bool, sel_true, sel_false, wanted_none, wanted_some, asB, mk_put, mk_put_none, arg_tmp, arg_const, arg_func, arg_global, upd_same, upd_ne, evPure, evArgs, m_load, m_store, m_alloc, m_box, m_call, m_lookup, m_mapUpdate, m_inv, evLoad, readCells, evFieldAddr, evIndexAddr, asIdx, ofValue, isPure, evBin, ib_lss, ib_leq, ib_gtr, ib_geq, ib_eql, ib_neq, evUn, leave_normal, leave_ret, finish, then_normal, then_exit, then_ret, close_normal, close_exit, close_ret, evConv, mk_marks, dropMarks, resOf, resList, mk_getD, argF, List.getD_cons_zero, List.getD_cons_succ, V.cells, evLen, kdOp, kdOf, readsOf, protS, eq_bool, eq_nil28, evStore, V.oneCell, putElem, splice, -List.getD_eq_getElem?_getD, -getElem?_pos, und55, und53, und22, size3, size53, size58, size22, ty3, ty4, ty53, ty58, ty22, h1, h10, hb, und40, und38, ty38, size38]
      exact .one (hfin _)
  | d + 1, k, S, f, st, hk, hR, hl, hS, h1, h10 => by
    have hkb : k < b := by omega
    have hbm := hR.hm
    have hb := hR.hb
    obtain ⟨rfl, hv⟩ : iv = .slice ov 1 0 b ∧ st.store[ov]? = some (.vec false (bools b S)) := by
      rcases hR.hi with h | ⟨h, _⟩
      · exact h
      · omega
    have hne : o ≠ ov := fun e => by rw [e, hv] at hb; cases hb
    have hget := bools_get S hkb
    have hkk : st.locked ov = false := by simp [St.locked, Nat.not_lt.2 hl.1, hl.2]
    have hn : intBin .add .i64 (k : Int) 1 = some (.int .i64 ((k + 1 : Nat) : Int)) := by rw [add64 (by omega) (by omega)]; simp
    have hbs := bools_set b k S true
    have hR1 : RefAt { st with store := st.store.set ov (.vec false (bools b (putAt S k true))) } o (.slice ov 1 0 b) ov b (putAt S k true) := ⟨by
      show (st.store.set ov _)[o]? = _
      rw [List.getElem?_set_ne (Ne.symm hne)]; exact hR.hb, .inl ⟨rfl, by
      show (st.store.set ov _)[ov]? = _
      rw [List.getElem?_set_self (lt_of_at hv)]⟩, fun i hi => by
      unfold putAt
      rw [if_neg (by omega)]; exact hR.hz i hi, hR.hm⟩
    have ih := fill_loop st0 o ov b (.slice ov 1 0 b) m d (k + 1) (putAt S k true)
    rw [go_loop_of e12_71]
    simp [g12_72, g12_73, g12_74, g12_75, g12_76, g12_77, g12_78, g12_79, g12_80, g12_81, l12_74, l12_80, l12_81, steps_nil, steps_cons, draws_nil, draws_cons, step_mk, stepB_some, stepB_none, memB_mk, thenS_some, regB_some, branch_bool, sel_true, sel_false, wanted_none, wanted_some, asB, mk_put, mk_put_none, arg_tmp, arg_const, arg_func, arg_global, upd_same, upd_ne, evPure, evArgs, m_load, m_store, m_alloc, m_box, m_call, m_lookup, m_mapUpdate, m_inv, evLoad, readCells, evFieldAddr, evIndexAddr, asIdx, ofValue, isPure, evBin, ib_lss, ib_leq, ib_gtr, ib_geq, ib_eql, ib_neq, evUn, leave_normal, leave_ret, finish, then_normal, then_exit, then_ret, close_normal, close_exit, close_ret, evConv, mk_marks, dropMarks, resOf, resList, mk_getD, argF, List.getD_cons_zero, List.getD_cons_succ, V.cells, evLen, kdOp, kdOf, readsOf, protS, eq_bool, eq_nil28, evStore, V.oneCell, putElem, splice, -List.getD_eq_getElem?_getD, -getElem?_pos, und55, und53, und22, size3, size53, size58, size22, ty3, ty4, ty53, ty58, ty22, h1, h10, hb, hv, hkb, hget, hkk, hn, hbs, und40, und38, ty38, size38, size4', ty4]
    refine (ih _ { st with store := st.store.set ov (.vec false (bools b (putAt S k true))) } (by omega) hR1 hl ?_ ?_ ?_).mono ?_
    · intro i hi
      unfold putAt
      by_cases h : i = k
      · simp [h]
      · rw [if_neg h]; exact hS i (by omega)
    · simp [upd_ne, h1]
    · simp [upd_same]
    · rintro e f' s2 ⟨a1, a2, a3⟩
      exact ⟨a1, a2, (But.set st ov _).trans a3⟩
theorem do_fill (r o ov b : Nat) (iv : V) (n : Int) (nl : Bool) (xs : List Int) (S : Nat → Bool) (st t1 : St)
    (hF : (run tb).call 30 [.ptr r 0] { store := st.store ++ [.box [.int .i64 5, .int .i64 n, .list false (some nl) (ints xs)]], base := st.base, prot := st.prot } = some (.tup [], t1)) (hR : RefAt t1 o iv ov b S) (hl : Free t1 ov) {Q : V → St → Prop}
    (hQ : ∀ st', RefAt st' o iv ov b (fun i => decide (i < b)) → But t1 st' ov → Q (.bool true) st') :
    Ret Q ((run tb).call 12 [.ptr r 0, .ptr o 0, cV ⟨5, n, nl, xs⟩] st) := by
  rw [run12 (by simp)]
  simp [g12_0, g12_1, g12_2, g12_3, g12_4, g12_5, g12_6, g12_7, g12_8, g12_12, g12_13, g12_14, g12_18, g12_19, g12_20, g12_21, g12_22, g12_23, g12_24, g12_25, g12_26, g12_27, g12_28, g12_63, g12_64, g12_65, g12_66, g12_67, g12_68, g12_69, g12_70, l12_1, l12_4, l12_7, l12_13, l12_20, l12_24, l12_27, l12_64, l12_67, l12_69, steps_nil, steps_cons, draws_nil, draws_cons, step_mk, stepB_some, stepB_none, memB_mk, thenS_some, regB_some, branch_bool, sel_true, sel_false, wanted_none, wanted_some, asB, mk_put, mk_put_none, arg_tmp, arg_const, arg_func, arg_global, upd_same, upd_ne, evPure, evArgs, m_load, m_store, m_alloc, m_box, m_call, m_lookup, m_mapUpdate, m_inv, evLoad, readCells, evFieldAddr, evIndexAddr, asIdx, ofValue, isPure, evBin, ib_lss, ib_leq, ib_gtr, ib_geq, ib_eql, ib_neq, evUn, leave_normal, leave_ret, finish, then_normal, then_exit, then_ret, close_normal, close_exit, close_ret, evConv, mk_marks, dropMarks, resOf, resList, mk_getD, argF, List.getD_cons_zero, List.getD_cons_succ, V.cells, evLen, kdOp, kdOf, readsOf, protS, eq_bool, eq_nil28, evStore, V.oneCell, putElem, splice, -List.getD_eq_getElem?_getD, -getElem?_pos, und55, und53, und22, size3, size53, size58, size22, ty3, ty4, ty53, ty58, ty22, cV, Cl.cells, St.new, und25, size3, size22, ty22, app_get0', List.getElem?_cons_zero, hF]
  refine Out.use (C := fun o => Ret Q (leave tb _ (andThen (closeB 0 (closeB 2 o)) _))) (fill_loop st o ov b iv [] b 0 S _ t1 (by omega) hR hl (fun i hi => absurd hi (Nat.not_lt_zero _)) ?_ ?_) ?_
  · simp [upd_ne, argF]
  · simp [upd_same]
  · rintro e f st' ⟨rfl, h2, h3⟩
    simp [g12_89, g12_90, g12_91, l12_90, steps_nil, steps_cons, draws_nil, draws_cons, step_mk, stepB_some, stepB_none, memB_mk, thenS_some, regB_some, branch_bool, sel_true, sel_false, wanted_none, wanted_some, asB, mk_put, mk_put_none, arg_tmp, arg_const, arg_func, arg_global, upd_same, upd_ne, evPure, evArgs, m_load, m_store, m_alloc, m_box, m_call, m_lookup, m_mapUpdate, m_inv, evLoad, readCells, evFieldAddr, evIndexAddr, asIdx, ofValue, isPure, evBin, ib_lss, ib_leq, ib_gtr, ib_geq, ib_eql, ib_neq, evUn, leave_normal, leave_ret, finish, then_normal, then_exit, then_ret, close_normal, close_exit, close_ret, evConv, mk_marks, dropMarks, resOf, resList, mk_getD, argF, List.getD_cons_zero, List.getD_cons_succ, V.cells, evLen, kdOp, kdOf, readsOf, protS, eq_bool, eq_nil28, evStore, V.oneCell, putElem, splice, -List.getD_eq_getElem?_getD, -getElem?_pos, und55, und53, und22, size3, size53, size58, size22, ty3, ty4, ty53, ty58, ty22]
    exact .one (hQ st' h2 h3)
end Go.Proofs.YtgknieohkniojaaDoor
namespace Go.Proofs.YtgknieohkniojaaDoor
open Go.Abs
set_option maxRecDepth 100000
set_option linter.unusedSimpArgs false
set_option linter.unusedVariables false
set_option maxHeartbeats 4000000
/-- A set and the document's set, of the same numbers. -/
structure Both (st : St) (r rv o : Nat) (iv : V) (ov b : Nat) (S : Nat → Bool) : Prop where
  s : SetAt st r rv b S
  d : RefAt st o iv ov b S
  base : st.base = 0
  prot : st.prot = []
  n1 : rv ≠ ov
  n2 : r ≠ ov
  l1 : ov < st.store.length
theorem free0 {st : St} {x : Nat} (h1 : st.base = 0) (h2 : st.prot = []) : Free st x := ⟨by omega, by rw [h2]; simp⟩
theorem ok0 {st : St} (h1 : st.base = 0) (h2 : st.prot = []) : okSt st := ⟨by omega, by rw [h2]; simp⟩
theorem RowAt.grow {m : Nat} {st st' : St} {v : V} {xs : List Nat} (h : RowAt m st v xs) (g : Grows st st') : RowAt m st' v xs := by
  rcases h with h | ⟨k, hk, h1, h2, h3⟩
  · exact .inl h
  · exact .inr ⟨k, hk, h1, h2, g.at_ h3⟩
theorem GBut.set {st st' : St} {x r rv b : Nat} {S : Nat → Bool} (g : GBut st st' x) (h : SetAt st r rv b S) (h1 : x ≠ r) (h2 : x ≠ rv) : SetAt st' r rv b S :=
  ⟨by rw [g.same _ (lt_of_at h.hb) (Ne.symm h1)]; exact h.hb, by rw [g.same _ (lt_of_at h.hv) (Ne.symm h2)]; exact h.hv, h.hz, h.hm⟩
theorem GBut.ref {st st' : St} {x o ov b : Nat} {iv : V} {S : Nat → Bool} (g : GBut st st' x) (h : RefAt st o iv ov b S) (h1 : x ≠ o) (h2 : x ≠ ov) : RefAt st' o iv ov b S :=
  ⟨by rw [g.same _ (lt_of_at h.hb) (Ne.symm h1)]; exact h.hb, by
    rcases h.hi with ⟨h3, h4⟩ | h3
    · exact .inl ⟨h3, by rw [g.same _ (lt_of_at h4) (Ne.symm h2)]; exact h4⟩
    · exact .inr h3, h.hz, h.hm⟩
theorem putW_but (st : St) (rv b : Nat) (S : Nat → Bool) : But st (putW st rv b S) rv := But.set st rv _
theorem not_true (x : Bool) : (x != true) = !x := by cases x <;> rfl
theorem not_false' (x : Bool) : (x != false) = x := by cases x <;> rfl
theorem box_grows (st : St) (c : Cl) : Grows st { store := st.store ++ [.box c.cells], base := st.base, prot := st.prot } := (Grows.refl st).app _
theorem putW_len' {st : St} {rv b : Nat} {S : Nat → Bool} : (putW st rv b S).store.length = st.store.length := by unfold putW; simp
theorem ret_true' {o : Option (V × St)} {s : St} (h : Ret (fun v x => v = .bool true ∧ x = s) o) : o = some (.bool true, s) := by
  obtain ⟨v, st, h1, rfl, rfl⟩ := h
  exact h1
theorem inS_out' {b : Nat} {S : Nat → Bool} {k : Int} (hz : ∀ i, b ≤ i → S i = false) (h : ¬ (0 ≤ k ∧ k < b)) : inS S k = false := by
  unfold inS
  by_cases h0 : 0 ≤ k
  · rw [hz _ (by omega)]; simp
  · simp [h0]
theorem do_run01 (add : Bool) (st : St) (r rv o ov b : Nat) (iv : V) (S : Nat → Bool) (h : Both st r rv o iv ov b S) (n : Int) (nl : Bool) (xs : List Int) :
    ∃ st' S', (run tb).call 12 [.ptr r 0, .ptr o 0, cV ⟨if add then 0 else 1, n, nl, xs⟩] st = some (.bool true, st') ∧ Both st' r rv o iv ov b S' ∧ Mod2 st st' rv ov := by
  have hg := box_grows st ⟨if add then 0 else 1, n, nl, xs⟩
  have hne : rv ≠ o := fun e => by have := h.s.hv; rw [e, h.d.hb] at this; cases this
  obtain ⟨stc, hstc⟩ : ∃ x : St, x = { store := st.store ++ [.box (Cl.cells ⟨if add then 0 else 1, n, nl, xs⟩)], base := st.base, prot := st.prot } := ⟨_, rfl⟩
  rw [← hstc] at hg
  have hsc := h.s.grow hg
  have hdc := h.d.grow hg
  have hbc : stc.base = 0 := by rw [hg.base]; exact h.base
  have hpc : stc.prot = [] := by rw [hg.prot]; exact h.prot
  have hlen : stc.store.length = st.store.length + 1 := by rw [hstc]; simp
  have hrvl := lt_of_at h.s.hv
  have hfree : Free { stc with prot := st.store.length :: st.prot } rv := ⟨by show stc.base ≤ rv; omega, by
    show ¬ rv ∈ st.store.length :: st.prot
    rw [h.prot]; simp; omega⟩
  cases add with
  | true =>
    have h28 := add_run { stc with prot := st.store.length :: st.prot } r rv b S n (hsc.prot' _) hfree
    have hs2 : SetAt (putW stc rv b (addS b S n)) r rv b (addS b S n) := hsc.put (addS_z hsc.hz)
    have hd2 : RefAt (putW stc rv b (addS b S n)) o iv ov b S := hdc.but (putW_but _ _ _ _) hne h.n1
    obtain ⟨s3, h31, hd3, hbut⟩ := rput_run (putW stc rv b (addS b S n)) o ov b iv S n true hd2 (free0 hbc hpc)
    rw [not_true] at h31
    rw [putS_add] at hd3
    refine ⟨s3, addS b S n, ?_, ⟨hs2.but hbut (Ne.symm h.n2) (Ne.symm h.n1), hd3, hbut.base.trans hbc, hbut.prot.trans hpc, h.n1, h.n2, by rw [hbut.len, putW_len', hlen]; have := h.l1; omega⟩, ⟨hbut.base.trans hg.base, hbut.prot.trans hg.prot, by rw [hbut.len, putW_len', hlen]; omega, fun i hi a c => ?_⟩⟩
    · apply ret_true'
      subst hstc
      exact do_add r o 0 n nl xs _ st (putW { store := st.store ++ [.box [.int .i64 0, .int .i64 n, .list false (some nl) (ints xs)]], base := st.base, prot := st.prot } rv b (addS b S n)) s3 h28 rfl h31 hbut.prot ⟨rfl, rfl⟩
    · rw [hbut.same i c, (putW_but stc rv b _).same i a]; exact hg.get i hi
  | false =>
    have h29 := cut_run { stc with prot := st.store.length :: st.prot } r rv b S n (hsc.prot' _) hfree
    have hs2 : SetAt (putW stc rv b (cutS S n)) r rv b (cutS S n) := hsc.put (cutS_z hsc.hz)
    have hd2 : RefAt (putW stc rv b (cutS S n)) o iv ov b S := hdc.but (putW_but _ _ _ _) hne h.n1
    obtain ⟨s3, h31, hd3, hbut⟩ := rput_run (putW stc rv b (cutS S n)) o ov b iv S n false hd2 (free0 hbc hpc)
    rw [not_false'] at h31
    have he : (decide (0 ≤ n) && decide (n < (b : Int)) && inS S n) = inS S n := by
      cases hq : inS S n with
      | false => simp
      | true =>
        by_cases hin : 0 ≤ n ∧ n < b
        · simp [hin.1, hin.2]
        · have := inS_out' hsc.hz hin
          rw [this] at hq; cases hq
    rw [he] at h31
    rw [putS_cut b S n hsc.hz] at hd3
    refine ⟨s3, cutS S n, ?_, ⟨hs2.but hbut (Ne.symm h.n2) (Ne.symm h.n1), hd3, hbut.base.trans hbc, hbut.prot.trans hpc, h.n1, h.n2, by rw [hbut.len, putW_len', hlen]; have := h.l1; omega⟩, ⟨hbut.base.trans hg.base, hbut.prot.trans hg.prot, by rw [hbut.len, putW_len', hlen]; omega, fun i hi a c => ?_⟩⟩
    · apply ret_true'
      subst hstc
      exact do_cut r o 0 n nl xs _ st (putW { store := st.store ++ [.box [.int .i64 1, .int .i64 n, .list false (some nl) (ints xs)]], base := st.base, prot := st.prot } rv b (cutS S n)) s3 h29 rfl h31 hbut.prot ⟨rfl, rfl⟩
    · rw [hbut.same i c, (putW_but stc rv b _).same i a]; exact hg.get i hi
theorem do_run2 (st : St) (r rv o ov b : Nat) (iv : V) (S : Nat → Bool) (h : Both st r rv o iv ov b S) (n : Int) (nl : Bool) (xs : List Int) (hxs : xs.length ≤ 60) :
    ∃ st' S', (run tb).call 12 [.ptr r 0, .ptr o 0, cV ⟨2, n, nl, xs⟩] st = some (.bool true, st') ∧ Both st' r rv o iv ov b S' ∧ Mod2 st st' rv ov := by
  have hg := box_grows st ⟨2, n, nl, xs⟩
  have hne : rv ≠ o := fun e => by have := h.s.hv; rw [e, h.d.hb] at this; cases this
  have hcc : ({ store := st.store ++ [.box (Cl.cells ⟨2, n, nl, xs⟩)], base := st.base, prot := st.prot } : St).store[st.store.length]? = some (.box [.int .i64 2, .int .i64 n, .list false (some nl) (ints xs)]) := by
    show (st.store ++ _)[st.store.length]? = _
    rw [app_get0']; rfl
  have hlen : ({ store := st.store ++ [.box (Cl.cells ⟨2, n, nl, xs⟩)], base := st.base, prot := st.prot } : St).store.length = st.store.length + 1 := by simp
  obtain ⟨stc, hstc⟩ : ∃ x : St, x = { store := st.store ++ [.box (Cl.cells ⟨2, n, nl, xs⟩)], base := st.base, prot := st.prot } := ⟨_, rfl⟩
  rw [← hstc] at hg hcc hlen
  have hbc : stc.base = 0 := by rw [hg.base]; exact h.base
  have hpc : stc.prot = [] := by rw [hg.prot]; exact h.prot
  have hrvl := lt_of_at h.s.hv
  have hrl := lt_of_at h.s.hb
  have hol := lt_of_at h.d.hb
  have hovl := h.l1
  obtain ⟨bN, hbN⟩ : ∃ bN : Nat, max 0 (min n 65536) = (bN : Int) := ⟨(max 0 (min n 65536)).toNat, by omega⟩
  have hokc := ok0 hbc hpc
  have hN := new_run stc n bN false (some nl) xs (by omega) hokc hbN
  have hzT := addAll_z (b := bN) xs (S := emptyS) (fun _ _ => rfl)
  have hg1 := newSt_grows stc bN (addAll bN emptyS xs)
  have hp1 := newSt_set (st := stc) (b := bN) (S := addAll bN emptyS xs) (by omega) hzT
  have hl1 : (newSt stc bN (addAll bN emptyS xs)).store.length = stc.store.length + 2 := by unfold newSt; simp
  have hb1 : (newSt stc bN (addAll bN emptyS xs)).base = 0 := hbc
  have hq1 : (newSt stc bN (addAll bN emptyS xs)).prot = [] := hpc
  generalize newSt stc bN (addAll bN emptyS xs) = t1 at *
  obtain ⟨t2, hR, hd2, hg2, hl2⟩ := rnew_run t1 n bN false (some nl) xs (by omega) (ok0 hb1 hq1) hbN
  generalize addAll bN emptyS xs = T at *
  have gall : Grows st t2 := (hg.trans hg1).trans hg2
  have hs2 := h.s.grow gall
  have hdd2 := h.d.grow gall
  have hp2 := hp1.grow hg2
  have hb2 : t2.base = 0 := by rw [hg2.base]; exact hb1
  have hq2 : t2.prot = [] := by rw [hg2.prot]; exact hq1
  have c1 := (hg1.at_ hcc)
  have c2 := hg2.at_ c1
  obtain ⟨A, hA⟩ : ∃ c : Bool, c = false ↔ ∀ i, S i = turned b (fun x y => x || y) S T i := by
    classical
    exact ⟨!decide (∀ i, S i = turned b (fun x y => x || y) S T i), by simp⟩
  have hJ := join_run r (stc.store.length + 1) rv stc.store.length b bN S T t2 hs2 hp2 (free0 hb2 hq2) (by omega) A hA
  have hs3 : SetAt (putW t2 rv b (turned b (fun x y => x || y) S T)) r rv b (turned b (fun x y => x || y) S T) := hs2.put turned_z
  have hp3 : SetAt (putW t2 rv b (turned b (fun x y => x || y) S T)) (stc.store.length + 1) stc.store.length bN T := hp2.keep hs2 (by omega)
  have hd3 : RefAt (putW t2 rv b (turned b (fun x y => x || y) S T)) o iv ov b S := hdd2.but (putW_but _ _ _ _) hne h.n1
  have hk3 : RefAt (putW t2 rv b (turned b (fun x y => x || y) S T)) (t1.store.length + 1) (.slice t1.store.length 1 0 bN) t1.store.length bN T := hd2.but (putW_but _ _ _ _) (by omega) (by omega)
  have hl3 : (putW t2 rv b (turned b (fun x y => x || y) S T)).store.length = t2.store.length := putW_len'
  obtain ⟨t4, hD, hd4, hgb⟩ := rdo_run 0 (by decide) (putW t2 rv b (turned b (fun x y => x || y) S T)) (ok0 hb2 hq2) o (t1.store.length + 1) ov t1.store.length b bN iv _ S T hd3 hk3 (free0 hb2 hq2) (by rw [hl3]; omega) A hA
  have hs4 := hgb.set hs3 (Ne.symm h.n2) (Ne.symm h.n1)
  have hp4 := hgb.set hp3 (by omega) (by omega)
  have hk4 := hgb.ref hk3 (by omega) (by omega)
  have hb4 : t4.base = 0 := hgb.base.trans hb2
  have hq4 : t4.prot = [] := hgb.prot.trans hq2
  obtain ⟨v, t5, hL, hg5, hrow⟩ := list_run t4 (ok0 hb4 hq4) _ _ bN T hp4
  have hb5 : t5.base = 0 := hg5.base.trans hb4
  have hq5 : t5.prot = [] := hg5.prot.trans hq4
  obtain ⟨w, t6, hA6, hg6, hrow6⟩ := rall_run t5 (ok0 hb5 hq5) _ _ bN _ T (hk4.grow hg5)
  have hel := elems_le T bN 0
  have hS := sameints_run t6 _ _ v w _ (hrow.grow hg6) hrow6 (by omega)
  have g46 := hg5.trans hg6
  refine ⟨t6, turned b (fun x y => x || y) S T, ?_, ⟨hs4.grow g46, hd4.grow g46, g46.base.trans hb4, g46.prot.trans hq4, h.n1, h.n2, ?_⟩, ⟨?_, ?_, ?_, fun i hi a c => ?_⟩⟩
  · apply ret_true'
    subst hstc
    exact do_op2 r o _ _ n nl xs A st t1 t2 _ t4 t5 t6 v w hN c1 hR c2 hJ hD hL hA6 hS ⟨rfl, rfl⟩
  · have := hgb.len; have := g46.len; omega
  · rw [g46.base, hb4, h.base]
  · rw [g46.prot, hq4, h.prot]
  · have := hgb.len; have := g46.len; have := gall.len; omega
  · have h1 := gall.len
    have h2 := hgb.len
    rw [g46.get i (by omega), hgb.same i (by omega) c, (putW_but t2 rv b _).same i a]
    exact gall.get i hi
theorem do_run3 (st : St) (r rv o ov b : Nat) (iv : V) (S : Nat → Bool) (h : Both st r rv o iv ov b S) (n : Int) (nl : Bool) (xs : List Int) (hxs : xs.length ≤ 60) :
    ∃ st' S', (run tb).call 12 [.ptr r 0, .ptr o 0, cV ⟨3, n, nl, xs⟩] st = some (.bool true, st') ∧ Both st' r rv o iv ov b S' ∧ Mod2 st st' rv ov := by
  have hg := box_grows st ⟨3, n, nl, xs⟩
  have hne : rv ≠ o := fun e => by have := h.s.hv; rw [e, h.d.hb] at this; cases this
  have hcc : ({ store := st.store ++ [.box (Cl.cells ⟨3, n, nl, xs⟩)], base := st.base, prot := st.prot } : St).store[st.store.length]? = some (.box [.int .i64 3, .int .i64 n, .list false (some nl) (ints xs)]) := by
    show (st.store ++ _)[st.store.length]? = _
    rw [app_get0']; rfl
  have hlen : ({ store := st.store ++ [.box (Cl.cells ⟨3, n, nl, xs⟩)], base := st.base, prot := st.prot } : St).store.length = st.store.length + 1 := by simp
  obtain ⟨stc, hstc⟩ : ∃ x : St, x = { store := st.store ++ [.box (Cl.cells ⟨3, n, nl, xs⟩)], base := st.base, prot := st.prot } := ⟨_, rfl⟩
  rw [← hstc] at hg hcc hlen
  have hbc : stc.base = 0 := by rw [hg.base]; exact h.base
  have hpc : stc.prot = [] := by rw [hg.prot]; exact h.prot
  have hrvl := lt_of_at h.s.hv
  have hrl := lt_of_at h.s.hb
  have hol := lt_of_at h.d.hb
  have hovl := h.l1
  obtain ⟨bN, hbN⟩ : ∃ bN : Nat, max 0 (min n 65536) = (bN : Int) := ⟨(max 0 (min n 65536)).toNat, by omega⟩
  have hokc := ok0 hbc hpc
  have hN := new_run stc n bN false (some nl) xs (by omega) hokc hbN
  have hzT := addAll_z (b := bN) xs (S := emptyS) (fun _ _ => rfl)
  have hg1 := newSt_grows stc bN (addAll bN emptyS xs)
  have hp1 := newSt_set (st := stc) (b := bN) (S := addAll bN emptyS xs) (by omega) hzT
  have hl1 : (newSt stc bN (addAll bN emptyS xs)).store.length = stc.store.length + 2 := by unfold newSt; simp
  have hb1 : (newSt stc bN (addAll bN emptyS xs)).base = 0 := hbc
  have hq1 : (newSt stc bN (addAll bN emptyS xs)).prot = [] := hpc
  generalize newSt stc bN (addAll bN emptyS xs) = t1 at *
  obtain ⟨t2, hR, hd2, hg2, hl2⟩ := rnew_run t1 n bN false (some nl) xs (by omega) (ok0 hb1 hq1) hbN
  generalize addAll bN emptyS xs = T at *
  have gall : Grows st t2 := (hg.trans hg1).trans hg2
  have hs2 := h.s.grow gall
  have hdd2 := h.d.grow gall
  have hp2 := hp1.grow hg2
  have hb2 : t2.base = 0 := by rw [hg2.base]; exact hb1
  have hq2 : t2.prot = [] := by rw [hg2.prot]; exact hq1
  have c1 := (hg1.at_ hcc)
  have c2 := hg2.at_ c1
  obtain ⟨A, hA⟩ : ∃ c : Bool, c = false ↔ ∀ i, S i = turned b (fun x y => x && y) S T i := by
    classical
    exact ⟨!decide (∀ i, S i = turned b (fun x y => x && y) S T i), by simp⟩
  have hJ := meet_run r (stc.store.length + 1) rv stc.store.length b bN S T t2 hs2 hp2 (free0 hb2 hq2) (by omega) A hA
  have hs3 : SetAt (putW t2 rv b (turned b (fun x y => x && y) S T)) r rv b (turned b (fun x y => x && y) S T) := hs2.put turned_z
  have hp3 : SetAt (putW t2 rv b (turned b (fun x y => x && y) S T)) (stc.store.length + 1) stc.store.length bN T := hp2.keep hs2 (by omega)
  have hd3 : RefAt (putW t2 rv b (turned b (fun x y => x && y) S T)) o iv ov b S := hdd2.but (putW_but _ _ _ _) hne h.n1
  have hk3 : RefAt (putW t2 rv b (turned b (fun x y => x && y) S T)) (t1.store.length + 1) (.slice t1.store.length 1 0 bN) t1.store.length bN T := hd2.but (putW_but _ _ _ _) (by omega) (by omega)
  have hl3 : (putW t2 rv b (turned b (fun x y => x && y) S T)).store.length = t2.store.length := putW_len'
  obtain ⟨t4, hD, hd4, hgb⟩ := rdo_run 1 (by decide) (putW t2 rv b (turned b (fun x y => x && y) S T)) (ok0 hb2 hq2) o (t1.store.length + 1) ov t1.store.length b bN iv _ S T hd3 hk3 (free0 hb2 hq2) (by rw [hl3]; omega) A hA
  have hs4 := hgb.set hs3 (Ne.symm h.n2) (Ne.symm h.n1)
  have hp4 := hgb.set hp3 (by omega) (by omega)
  have hk4 := hgb.ref hk3 (by omega) (by omega)
  have hb4 : t4.base = 0 := hgb.base.trans hb2
  have hq4 : t4.prot = [] := hgb.prot.trans hq2
  obtain ⟨v, t5, hL, hg5, hrow⟩ := list_run t4 (ok0 hb4 hq4) _ _ bN T hp4
  have hb5 : t5.base = 0 := hg5.base.trans hb4
  have hq5 : t5.prot = [] := hg5.prot.trans hq4
  obtain ⟨w, t6, hA6, hg6, hrow6⟩ := rall_run t5 (ok0 hb5 hq5) _ _ bN _ T (hk4.grow hg5)
  have hel := elems_le T bN 0
  have hS := sameints_run t6 _ _ v w _ (hrow.grow hg6) hrow6 (by omega)
  have g46 := hg5.trans hg6
  refine ⟨t6, turned b (fun x y => x && y) S T, ?_, ⟨hs4.grow g46, hd4.grow g46, g46.base.trans hb4, g46.prot.trans hq4, h.n1, h.n2, ?_⟩, ⟨?_, ?_, ?_, fun i hi a c => ?_⟩⟩
  · apply ret_true'
    subst hstc
    exact do_op3 r o _ _ n nl xs A st t1 t2 _ t4 t5 t6 v w hN c1 hR c2 hJ hD hL hA6 hS ⟨rfl, rfl⟩
  · have := hgb.len; have := g46.len; omega
  · rw [g46.base, hb4, h.base]
  · rw [g46.prot, hq4, h.prot]
  · have := hgb.len; have := g46.len; have := gall.len; omega
  · have h1 := gall.len
    have h2 := hgb.len
    rw [g46.get i (by omega), hgb.same i (by omega) c, (putW_but t2 rv b _).same i a]
    exact gall.get i hi
theorem do_run4 (st : St) (r rv o ov b : Nat) (iv : V) (S : Nat → Bool) (h : Both st r rv o iv ov b S) (n : Int) (nl : Bool) (xs : List Int) (hxs : xs.length ≤ 60) :
    ∃ st' S', (run tb).call 12 [.ptr r 0, .ptr o 0, cV ⟨4, n, nl, xs⟩] st = some (.bool true, st') ∧ Both st' r rv o iv ov b S' ∧ Mod2 st st' rv ov := by
  have hg := box_grows st ⟨4, n, nl, xs⟩
  have hne : rv ≠ o := fun e => by have := h.s.hv; rw [e, h.d.hb] at this; cases this
  have hcc : ({ store := st.store ++ [.box (Cl.cells ⟨4, n, nl, xs⟩)], base := st.base, prot := st.prot } : St).store[st.store.length]? = some (.box [.int .i64 4, .int .i64 n, .list false (some nl) (ints xs)]) := by
    show (st.store ++ _)[st.store.length]? = _
    rw [app_get0']; rfl
  have hlen : ({ store := st.store ++ [.box (Cl.cells ⟨4, n, nl, xs⟩)], base := st.base, prot := st.prot } : St).store.length = st.store.length + 1 := by simp
  obtain ⟨stc, hstc⟩ : ∃ x : St, x = { store := st.store ++ [.box (Cl.cells ⟨4, n, nl, xs⟩)], base := st.base, prot := st.prot } := ⟨_, rfl⟩
  rw [← hstc] at hg hcc hlen
  have hbc : stc.base = 0 := by rw [hg.base]; exact h.base
  have hpc : stc.prot = [] := by rw [hg.prot]; exact h.prot
  have hrvl := lt_of_at h.s.hv
  have hrl := lt_of_at h.s.hb
  have hol := lt_of_at h.d.hb
  have hovl := h.l1
  obtain ⟨bN, hbN⟩ : ∃ bN : Nat, max 0 (min n 65536) = (bN : Int) := ⟨(max 0 (min n 65536)).toNat, by omega⟩
  have hokc := ok0 hbc hpc
  have hN := new_run stc n bN false (some nl) xs (by omega) hokc hbN
  have hzT := addAll_z (b := bN) xs (S := emptyS) (fun _ _ => rfl)
  have hg1 := newSt_grows stc bN (addAll bN emptyS xs)
  have hp1 := newSt_set (st := stc) (b := bN) (S := addAll bN emptyS xs) (by omega) hzT
  have hl1 : (newSt stc bN (addAll bN emptyS xs)).store.length = stc.store.length + 2 := by unfold newSt; simp
  have hb1 : (newSt stc bN (addAll bN emptyS xs)).base = 0 := hbc
  have hq1 : (newSt stc bN (addAll bN emptyS xs)).prot = [] := hpc
  generalize newSt stc bN (addAll bN emptyS xs) = t1 at *
  obtain ⟨t2, hR, hd2, hg2, hl2⟩ := rnew_run t1 n bN false (some nl) xs (by omega) (ok0 hb1 hq1) hbN
  generalize addAll bN emptyS xs = T at *
  have gall : Grows st t2 := (hg.trans hg1).trans hg2
  have hs2 := h.s.grow gall
  have hdd2 := h.d.grow gall
  have hp2 := hp1.grow hg2
  have hb2 : t2.base = 0 := by rw [hg2.base]; exact hb1
  have hq2 : t2.prot = [] := by rw [hg2.prot]; exact hq1
  have c1 := (hg1.at_ hcc)
  have c2 := hg2.at_ c1
  obtain ⟨A, hA⟩ : ∃ c : Bool, c = false ↔ ∀ i, S i = turned b (fun x y => x && !y) S T i := by
    classical
    exact ⟨!decide (∀ i, S i = turned b (fun x y => x && !y) S T i), by simp⟩
  have hJ := less_run r (stc.store.length + 1) rv stc.store.length b bN S T t2 hs2 hp2 (free0 hb2 hq2) (by omega) A hA
  have hs3 : SetAt (putW t2 rv b (turned b (fun x y => x && !y) S T)) r rv b (turned b (fun x y => x && !y) S T) := hs2.put turned_z
  have hp3 : SetAt (putW t2 rv b (turned b (fun x y => x && !y) S T)) (stc.store.length + 1) stc.store.length bN T := hp2.keep hs2 (by omega)
  have hd3 : RefAt (putW t2 rv b (turned b (fun x y => x && !y) S T)) o iv ov b S := hdd2.but (putW_but _ _ _ _) hne h.n1
  have hk3 : RefAt (putW t2 rv b (turned b (fun x y => x && !y) S T)) (t1.store.length + 1) (.slice t1.store.length 1 0 bN) t1.store.length bN T := hd2.but (putW_but _ _ _ _) (by omega) (by omega)
  have hl3 : (putW t2 rv b (turned b (fun x y => x && !y) S T)).store.length = t2.store.length := putW_len'
  obtain ⟨t4, hD, hd4, hgb⟩ := rdo_run 2 (by decide) (putW t2 rv b (turned b (fun x y => x && !y) S T)) (ok0 hb2 hq2) o (t1.store.length + 1) ov t1.store.length b bN iv _ S T hd3 hk3 (free0 hb2 hq2) (by rw [hl3]; omega) A hA
  have hs4 := hgb.set hs3 (Ne.symm h.n2) (Ne.symm h.n1)
  have hp4 := hgb.set hp3 (by omega) (by omega)
  have hk4 := hgb.ref hk3 (by omega) (by omega)
  have hb4 : t4.base = 0 := hgb.base.trans hb2
  have hq4 : t4.prot = [] := hgb.prot.trans hq2
  obtain ⟨v, t5, hL, hg5, hrow⟩ := list_run t4 (ok0 hb4 hq4) _ _ bN T hp4
  have hb5 : t5.base = 0 := hg5.base.trans hb4
  have hq5 : t5.prot = [] := hg5.prot.trans hq4
  obtain ⟨w, t6, hA6, hg6, hrow6⟩ := rall_run t5 (ok0 hb5 hq5) _ _ bN _ T (hk4.grow hg5)
  have hel := elems_le T bN 0
  have hS := sameints_run t6 _ _ v w _ (hrow.grow hg6) hrow6 (by omega)
  have g46 := hg5.trans hg6
  refine ⟨t6, turned b (fun x y => x && !y) S T, ?_, ⟨hs4.grow g46, hd4.grow g46, g46.base.trans hb4, g46.prot.trans hq4, h.n1, h.n2, ?_⟩, ⟨?_, ?_, ?_, fun i hi a c => ?_⟩⟩
  · apply ret_true'
    subst hstc
    exact do_op4 r o _ _ n nl xs A st t1 t2 _ t4 t5 t6 v w hN c1 hR c2 hJ hD hL hA6 hS ⟨rfl, rfl⟩
  · have := hgb.len; have := g46.len; omega
  · rw [g46.base, hb4, h.base]
  · rw [g46.prot, hq4, h.prot]
  · have := hgb.len; have := g46.len; have := gall.len; omega
  · have h1 := gall.len
    have h2 := hgb.len
    rw [g46.get i (by omega), hgb.same i (by omega) c, (putW_but t2 rv b _).same i a]
    exact gall.get i hi
theorem do_run5 (st : St) (r rv o ov b : Nat) (iv : V) (S : Nat → Bool) (h : Both st r rv o iv ov b S) (n : Int) (nl : Bool) (xs : List Int) :
    ∃ st' S', (run tb).call 12 [.ptr r 0, .ptr o 0, cV ⟨5, n, nl, xs⟩] st = some (.bool true, st') ∧ Both st' r rv o iv ov b S' ∧ Mod2 st st' rv ov := by
  have hg := box_grows st ⟨5, n, nl, xs⟩
  have hne : rv ≠ o := fun e => by have := h.s.hv; rw [e, h.d.hb] at this; cases this
  obtain ⟨stc, hstc⟩ : ∃ x : St, x = { store := st.store ++ [.box (Cl.cells ⟨5, n, nl, xs⟩)], base := st.base, prot := st.prot } := ⟨_, rfl⟩
  rw [← hstc] at hg
  have hsc := h.s.grow hg
  have hdc := h.d.grow hg
  have hbc : stc.base = 0 := by rw [hg.base]; exact h.base
  have hpc : stc.prot = [] := by rw [hg.prot]; exact h.prot
  have hlen : stc.store.length = st.store.length + 1 := by rw [hstc]; simp
  have hF := fill_run stc r rv b S hsc (free0 hbc hpc)
  have hs1 : SetAt (putW stc rv b (fun i => decide (i < b))) r rv b (fun i => decide (i < b)) := hsc.put (fun i hi => by simp; omega)
  have hd1 : RefAt (putW stc rv b (fun i => decide (i < b))) o iv ov b S := hdc.but (putW_but _ _ _ _) hne h.n1
  have H : Ret (fun v st' => v = .bool true ∧ RefAt st' o iv ov b (fun i => decide (i < b)) ∧ But (putW stc rv b (fun i => decide (i < b))) st' ov) ((run tb).call 12 [.ptr r 0, .ptr o 0, cV ⟨5, n, nl, xs⟩] st) := by
    subst hstc
    exact do_fill r o ov b iv n nl xs S st _ hF hd1 (free0 hbc hpc) (fun st' a c => ⟨rfl, a, c⟩)
  obtain ⟨v, st', h1, rfl, h2, h3⟩ := H
  refine ⟨st', fun i => decide (i < b), h1, ⟨hs1.but h3 (Ne.symm h.n2) (Ne.symm h.n1), h2, h3.base.trans hbc, h3.prot.trans hpc, h.n1, h.n2, by rw [h3.len, putW_len', hlen]; have := h.l1; omega⟩, ⟨h3.base.trans hg.base, h3.prot.trans hg.prot, by rw [h3.len, putW_len', hlen]; omega, fun i hi a c => ?_⟩⟩
  rw [h3.same i c, (putW_but stc rv b _).same i a]; exact hg.get i hi
theorem do_run6 (st : St) (r rv o ov b : Nat) (iv : V) (S : Nat → Bool) (h : Both st r rv o iv ov b S) (n : Int) (nl : Bool) (xs : List Int) :
    ∃ st' S', (run tb).call 12 [.ptr r 0, .ptr o 0, cV ⟨6, n, nl, xs⟩] st = some (.bool true, st') ∧ Both st' r rv o iv ov b S' ∧ Mod2 st st' rv ov := by
  have hg := box_grows st ⟨6, n, nl, xs⟩
  have hne : rv ≠ o := fun e => by have := h.s.hv; rw [e, h.d.hb] at this; cases this
  obtain ⟨stc, hstc⟩ : ∃ x : St, x = { store := st.store ++ [.box (Cl.cells ⟨6, n, nl, xs⟩)], base := st.base, prot := st.prot } := ⟨_, rfl⟩
  rw [← hstc] at hg
  have hsc := h.s.grow hg
  have hdc := h.d.grow hg
  have hbc : stc.base = 0 := by rw [hg.base]; exact h.base
  have hpc : stc.prot = [] := by rw [hg.prot]; exact h.prot
  have hlen : stc.store.length = st.store.length + 1 := by rw [hstc]; simp
  have hj := join_self stc r rv b S hsc (free0 hbc hpc)
  have hm := meet_self stc r rv b S hsc (free0 hbc hpc)
  refine ⟨stc, S, ?_, ⟨hsc, hdc, hbc, hpc, h.n1, h.n2, by have := h.l1; omega⟩, ⟨hg.base, hg.prot, hg.len, fun i hi _ _ => hg.get i hi⟩⟩
  apply ret_true'
  subst hstc
  exact do_self r o n nl xs st hj hm ⟨rfl, rfl⟩
theorem do_runX (st : St) (r rv o ov b : Nat) (iv : V) (S : Nat → Bool) (h : Both st r rv o iv ov b S) (w n : Int) (nl : Bool) (xs : List Int) (h0 : ¬ w = 0) (h1 : ¬ w = 1) (h2 : ¬ w = 2) (h3 : ¬ w = 3) (h4 : ¬ w = 4) (h5 : ¬ w = 5) (h6 : ¬ w = 6) :
    ∃ st' S', (run tb).call 12 [.ptr r 0, .ptr o 0, cV ⟨w, n, nl, xs⟩] st = some (.bool true, st') ∧ Both st' r rv o iv ov b S' ∧ Mod2 st st' rv ov := by
  have hg := box_grows st ⟨w, n, nl, xs⟩
  have hne : rv ≠ o := fun e => by have := h.s.hv; rw [e, h.d.hb] at this; cases this
  obtain ⟨stc, hstc⟩ : ∃ x : St, x = { store := st.store ++ [.box (Cl.cells ⟨w, n, nl, xs⟩)], base := st.base, prot := st.prot } := ⟨_, rfl⟩
  rw [← hstc] at hg
  have hsc := h.s.grow hg
  have hdc := h.d.grow hg
  have hbc : stc.base = 0 := by rw [hg.base]; exact h.base
  have hpc : stc.prot = [] := by rw [hg.prot]; exact h.prot
  have hlen : stc.store.length = st.store.length + 1 := by rw [hstc]; simp
  refine ⟨stc, S, ?_, ⟨hsc, hdc, hbc, hpc, h.n1, h.n2, by have := h.l1; omega⟩, ⟨hg.base, hg.prot, hg.len, fun i hi _ _ => hg.get i hi⟩⟩
  apply ret_true'
  subst hstc
  exact do_other r o w n nl xs st h0 h1 h2 h3 h4 h5 h6 ⟨rfl, rfl⟩
theorem do_run (st : St) (r rv o ov b : Nat) (iv : V) (S : Nat → Bool) (h : Both st r rv o iv ov b S) (c : Cl) (hc : c.big = false) :
    ∃ st' S', (run tb).call 12 [.ptr r 0, .ptr o 0, cV c] st = some (.bool true, st') ∧ Both st' r rv o iv ov b S' ∧ Mod2 st st' rv ov := by
  obtain ⟨w, n, nl, xs⟩ := c
  have hxs : xs.length ≤ 60 := by
    simp only [Cl.big, Bool.or_eq_false_iff, decide_eq_false_iff_not] at hc
    omega
  by_cases h0 : w = 0
  · subst h0; exact do_run01 true st r rv o ov b iv S h n nl xs
  by_cases h1 : w = 1
  · subst h1; exact do_run01 false st r rv o ov b iv S h n nl xs
  by_cases h2 : w = 2
  · subst h2; exact do_run2 st r rv o ov b iv S h n nl xs hxs
  by_cases h3 : w = 3
  · subst h3; exact do_run3 st r rv o ov b iv S h n nl xs hxs
  by_cases h4 : w = 4
  · subst h4; exact do_run4 st r rv o ov b iv S h n nl xs hxs
  by_cases h5 : w = 5
  · subst h5; exact do_run5 st r rv o ov b iv S h n nl xs
  by_cases h6 : w = 6
  · subst h6; exact do_run6 st r rv o ov b iv S h n nl xs
  exact do_runX st r rv o ov b iv S h w n nl xs h0 h1 h2 h3 h4 h5 h6
end Go.Proofs.YtgknieohkniojaaDoor
namespace Go.Proofs.YtgknieohkniojaaDoor
open Go.Abs
set_option maxRecDepth 100000
set_option linter.unusedSimpArgs false
set_option linter.unusedVariables false
set_option maxHeartbeats 4000000
def probe1 : Option (V × St) → Option (Option O)
  | some (.bool true, st) => if st.base == 0 && st.prot.isEmpty then some st.store[0]? else none
  | _ => none
theorem alive1_run (x : O) : probe1 ((ev tb 2000).call 8 [] { store := [x], base := 0, prot := [] }) = some (some x) := by rw [tb_eq]; kernel_rfl
theorem alive1 (x : O) : ∃ st, (run tb).call 8 [] { store := [x], base := 0, prot := [] } = some (.bool true, st) ∧ st.base = 0 ∧ st.prot = [] ∧ st.store[0]? = some x := by
  have h := alive1_run x
  unfold probe1 at h
  split at h
  · rename_i st e
    split at h
    · rename_i hc
      simp only [Bool.and_eq_true, beq_iff_eq, List.isEmpty_iff] at hc
      simp only [Option.some.injEq] at h
      exact ⟨st, run_call_of e, hc.1, hc.2, h⟩
    · cases h
  · cases h
theorem ty25 : tb.ty 25 = some { size := 3, bytes := 40, agg := true, zero := .agg [.int .i64 0, .int .i64 0, .list true (some true) []], und := .struct (match Tryd.prog.underlying 25 with | some (.struct fs) => fs | _ => #[]), plain := true } := by rw [tb_eq]; kernel_rfl
theorem build23 {fr : Fr} {st : St} {S : Go.Abs.S} {x : Operand} {a b c : V} (hx : evArg tb fr x = some (.agg [a, b, c])) : evMem tb S fr st (.buildSlice 23 1 #[(0, x)]) = some (.list true (some false) [.agg [a, b, c]], st) := by
  show evMem0 tb fr st (.buildSlice 23 1 #[(0, x)]) = _
  unfold evMem0
  simp [evArgs, und23, ty25, hx, setAll, V.cells]
/-- A round of the law's loop. -/
theorem calls_round (r o i i1 n m : Nat) (w cn : Int) (nl : Bool) (xs : List Int) (cs : List V) (full : Bool) (nl' : Option Bool) (st t1 t2 t3 t4 : St) (v1 v2 v3 : V) (f : Nat → V) (hx : cs[i]? = some (.agg [.int .i64 w, .int .i64 cn, .list false (some nl) (ints xs)])) (hl : cs.length = n) (hi : i < n)
    (hd : (run tb).call 12 [.ptr r 0, .ptr o 0, .agg [.int .i64 w, .int .i64 cn, .list false (some nl) (ints xs)]] st = some (.bool true, t1)) (h14 : (run tb).call 14 [.ptr r 0] t1 = some (v1, t2)) (h15 : (run tb).call 15 [.ptr o 0] t2 = some (v2, t3)) (h13 : (run tb).call 13 [v1, v2] t3 = some (.bool true, t3))
    (h16 : (run tb).call 16 [.ptr r 0] t3 = some (.int .i64 (m : Nat), t3)) (h15' : (run tb).call 15 [.ptr o 0] t3 = some (v3, t4)) (hv3 : v3 = .list true (some false) [] ∧ m = 0 ∨ ∃ k, v3 = .slice k 1 0 m) (hn : intBin .add .i64 (i : Nat) 1 = some (.int .i64 (i1 : Nat)))
    (q2 : f 2 = .list full nl' cs) (q11 : f 11 = .ptr r 0) (q12 : f 12 = .ptr o 0) (q13 : f 13 = .int .i64 (i : Nat)) {Q : E → (Nat → V) → St → Prop}
    (next : ∀ f', (∀ j, j < 13 → f' j = f j) → f' 13 = .int .i64 (i1 : Nat) → Out 108 [] Q ((run tb).code none c3_34 (mk 108 f' []) t4)) : Out 108 [] Q ((run tb).code none c3_34 (mk 108 f []) st) := by
  have hme : (((m : Nat) : Int) != ((m : Nat) : Int)) = false := by simp
  rcases hv3 with ⟨rfl, rfl⟩ | ⟨k3, rfl⟩
  · rw [go_loop_of e3_34]
    simp [g3_35, g3_36, g3_37, g3_38, g3_39, g3_40, g3_41, g3_42, g3_43, g3_44, g3_45, g3_46, g3_47, g3_48, g3_49, g3_50, l3_37, l3_44, l3_47, l3_50, steps_nil, steps_cons, draws_nil, draws_cons, step_mk, stepB_some, stepB_none, memB_mk, thenS_some, regB_some, branch_bool, sel_true, sel_false, wanted_none, wanted_some, asB, mk_put, mk_put_none, arg_tmp, arg_const, arg_func, arg_global, upd_same, upd_ne, evPure, evArgs, m_load, m_store, m_alloc, m_box, m_call, m_lookup, m_mapUpdate, m_inv, evLoad, readCells, evFieldAddr, evIndexAddr, asIdx, ofValue, isPure, evBin, ib_lss, ib_leq, ib_gtr, ib_geq, ib_eql, ib_neq, evUn, leave_normal, leave_ret, finish, then_normal, then_exit, then_ret, close_normal, close_exit, close_ret, evConv, mk_marks, dropMarks, resOf, resList, mk_getD, argF, List.getD_cons_zero, List.getD_cons_succ, V.cells, evLen, kdOp, kdOf, readsOf, protS, eq_bool, eq_nil28, evStore, V.oneCell, putElem, splice, -List.getD_eq_getElem?_getD, -getElem?_pos, und55, und53, und22, size3, size53, size58, size22, ty3, ty4, ty53, ty58, ty22, q2, q11, q12, q13, hx, hl, hi, hd, h14, h15, h13, h16, h15', hn, hme, ty25, und23, und25, size25]
    refine next _ (fun j hj => ?_) ?_
    · have w1 : ∀ k, 41 ≤ k → j ≠ k := fun k hk => by omega
      have w2 : j ≠ 13 := by omega
      simp [upd_ne, w1, w2]
    · simp [upd_same]
  · rw [go_loop_of e3_34]
    simp [g3_35, g3_36, g3_37, g3_38, g3_39, g3_40, g3_41, g3_42, g3_43, g3_44, g3_45, g3_46, g3_47, g3_48, g3_49, g3_50, l3_37, l3_44, l3_47, l3_50, steps_nil, steps_cons, draws_nil, draws_cons, step_mk, stepB_some, stepB_none, memB_mk, thenS_some, regB_some, branch_bool, sel_true, sel_false, wanted_none, wanted_some, asB, mk_put, mk_put_none, arg_tmp, arg_const, arg_func, arg_global, upd_same, upd_ne, evPure, evArgs, m_load, m_store, m_alloc, m_box, m_call, m_lookup, m_mapUpdate, m_inv, evLoad, readCells, evFieldAddr, evIndexAddr, asIdx, ofValue, isPure, evBin, ib_lss, ib_leq, ib_gtr, ib_geq, ib_eql, ib_neq, evUn, leave_normal, leave_ret, finish, then_normal, then_exit, then_ret, close_normal, close_exit, close_ret, evConv, mk_marks, dropMarks, resOf, resList, mk_getD, argF, List.getD_cons_zero, List.getD_cons_succ, V.cells, evLen, kdOp, kdOf, readsOf, protS, eq_bool, eq_nil28, evStore, V.oneCell, putElem, splice, -List.getD_eq_getElem?_getD, -getElem?_pos, und55, und53, und22, size3, size53, size58, size22, ty3, ty4, ty53, ty58, ty22, q2, q11, q12, q13, hx, hl, hi, hd, h14, h15, h13, h16, h15', hn, hme, ty25, und23, und25, size25]
    refine next _ (fun j hj => ?_) ?_
    · have w1 : ∀ k, 41 ≤ k → j ≠ k := fun k hk => by omega
      have w2 : j ≠ 13 := by omega
      simp [upd_ne, w1, w2]
    · simp [upd_same]
theorem elems_len' (S : Nat → Bool) : ∀ (n lo : Nat), (elems S lo n).length = cnt (fun j => S (lo + j)) n
  | 0, lo => rfl
  | n + 1, lo => by
    have e : n + 1 = 1 + n := by omega
    have h1 := elems_len' S n (lo + 1)
    have h2 := cnt_add (fun j => S (lo + j)) 1 n
    rw [e, h2]
    have h3 : cnt (fun j => S (lo + j)) 1 = if S lo then 1 else 0 := by simp [cnt]
    have h4 : (fun j => S (lo + (1 + j))) = fun j => S (lo + 1 + j) := by funext j; congr 1; omega
    rw [h3, h4, ← h1, ← e]
    simp only [elems]
    split <;> simp [Nat.add_comm]
theorem bound_run' (st : St) (r rv b : Nat) (S : Nat → Bool) (h : SetAt st r rv b S) : (run tb).call 18 [.ptr r 0] st = some (.int .i64 (b : Nat), st) := by
  have hb := h.hb
  rw [run18 (by simp)]
  simp [g18_0, g18_1, g18_2, g18_3, g18_4, l18_1, l18_3, steps_nil, steps_cons, draws_nil, draws_cons, step_mk, stepB_some, stepB_none, memB_mk, thenS_some, regB_some, branch_bool, sel_true, sel_false, wanted_none, wanted_some, asB, mk_put, mk_put_none, arg_tmp, arg_const, arg_func, arg_global, upd_same, upd_ne, evPure, evArgs, m_load, m_store, m_alloc, m_box, m_call, m_lookup, m_mapUpdate, m_inv, evLoad, readCells, evFieldAddr, evIndexAddr, asIdx, ofValue, isPure, evBin, ib_lss, ib_leq, ib_gtr, ib_geq, ib_eql, ib_neq, evUn, leave_normal, leave_ret, finish, then_normal, then_exit, then_ret, close_normal, close_exit, close_ret, evConv, mk_marks, dropMarks, resOf, resList, mk_getD, argF, List.getD_cons_zero, List.getD_cons_succ, V.cells, evLen, kdOp, kdOf, readsOf, protS, eq_bool, eq_nil28, evStore, V.oneCell, putElem, splice, -List.getD_eq_getElem?_getD, -getElem?_pos, und55, und53, und22, size3, size53, size58, size22, ty3, ty4, ty53, ty58, ty22, hb]
theorem Both.grow {st st' : St} {r rv o ov b : Nat} {iv : V} {S : Nat → Bool} (h : Both st r rv o iv ov b S) (g : Grows st st') : Both st' r rv o iv ov b S :=
  ⟨h.s.grow g, h.d.grow g, g.base.trans h.base, g.prot.trans h.prot, h.n1, h.n2, Nat.lt_of_lt_of_le h.l1 g.len⟩
theorem row_len {m : Nat} {st : St} {v : V} {xs : List Nat} (h : RowAt m st v xs) : v = .list true (some false) [] ∧ xs.length = 0 ∨ ∃ k, v = .slice k 1 0 xs.length := by
  rcases h with ⟨rfl, rfl⟩ | ⟨k, _, h, _⟩
  · exact .inl ⟨rfl, rfl⟩
  · exact .inr ⟨k, h⟩
theorem calls_loop (r rv o ov b : Nat) (iv : V) (X : O) (cls : List Cl) (full : Bool) (nl' : Option Bool) (hlen : cls.length < 1000) (hbig : ∀ c ∈ cls, c.big = false) (z1 : 0 ≠ rv) (z2 : 0 ≠ ov) :
    ∀ (d i : Nat) (S : Nat → Bool) (f : Nat → V) (st : St), i + d = cls.length → Both st r rv o iv ov b S → st.store[0]? = some X → f 2 = .list full nl' (cls.map cV) → f 11 = .ptr r 0 → f 12 = .ptr o 0 → f 13 = .int .i64 (i : Nat) →
    Out 108 [] (fun e f' st' => e = .exit 0 ∧ (∃ S', Both st' r rv o iv ov b S') ∧ st'.store[0]? = some X ∧ ∀ j, j < 13 → f' j = f j) ((run tb).code none c3_34 (mk 108 f []) st)
  | 0, i, S, f, st, hi, hB, hX, q2, q11, q12, q13 => by
    have hi : i = cls.length := hi
    subst hi
    have hm : (cls.map cV).length = cls.length := by simp
    generalize hQ : (fun (e : E) (f' : Nat → V) (st' : St) => e = .exit 0 ∧ (∃ S', Both st' r rv o iv ov b S') ∧ st'.store[0]? = some X ∧ ∀ j, j < 13 → f' j = f j) = Q
    have hfin : ∀ f', (∀ j, j < 13 → f' j = f j) → Q (.exit 0) f' st := fun f' hf => by subst hQ; exact ⟨rfl, ⟨S, hB⟩, hX, hf⟩
    generalize cls.map cV = cs at *
    rw [go_loop_of e3_34]
    simp [g3_35, g3_36, g3_37, g3_38, g3_39, g3_40, g3_41, g3_42, g3_43, g3_44, g3_45, g3_46, g3_47, g3_48, g3_49, g3_50, l3_37, l3_44, l3_47, l3_50, steps_nil, steps_cons, draws_nil, draws_cons, step_mk, stepB_some, stepB_none, memB_mk, thenS_some, regB_some, branch_bool, sel_true, sel_false, wanted_none, wanted_some, asB, mk_put, mk_put_none, arg_tmp, arg_const, arg_func, arg_global, upd_same, upd_ne, evPure, evArgs, m_load, m_store, m_alloc, m_box, m_call, m_lookup, m_mapUpdate, m_inv, evLoad, readCells, evFieldAddr, evIndexAddr, asIdx, ofValue, isPure, evBin, ib_lss, ib_leq, ib_gtr, ib_geq, ib_eql, ib_neq, evUn, leave_normal, leave_ret, finish, then_normal, then_exit, then_ret, close_normal, close_exit, close_ret, evConv, mk_marks, dropMarks, resOf, resList, mk_getD, argF, List.getD_cons_zero, List.getD_cons_succ, V.cells, evLen, kdOp, kdOf, readsOf, protS, eq_bool, eq_nil28, evStore, V.oneCell, putElem, splice, -List.getD_eq_getElem?_getD, -getElem?_pos, und55, und53, und22, size3, size53, size58, size22, ty3, ty4, ty53, ty58, ty22, q2, q13, hm, und23]
    refine .one (hfin _ fun j hj => ?_)
    have w1 : ∀ k, 41 ≤ k → j ≠ k := fun k hk => by omega
    simp [upd_ne, w1]
  | d + 1, i, S, f, st, hi, hB, hX, q2, q11, q12, q13 => by
    have hlt : i < cls.length := by omega
    have hx : (cls.map cV)[i]? = some (cV cls[i]) := by simp [hlt]
    have hn : intBin .add .i64 (i : Nat) 1 = some (.int .i64 ((i + 1 : Nat) : Int)) := by rw [add64 (by omega) (by omega)]; simp
    obtain ⟨t1, S1, hd, hB1, hM⟩ := do_run st r rv o ov b iv S hB cls[i] (hbig _ (List.getElem_mem hlt))
    obtain ⟨v1, t2, h14, g2, w1⟩ := list_run t1 (ok0 hB1.base hB1.prot) r rv b S1 hB1.s
    have hB2 := hB1.grow g2
    obtain ⟨v2, t3, h15, g3, w2⟩ := rall_run t2 (ok0 hB2.base hB2.prot) o ov b iv S1 hB2.d
    have hB3 := hB2.grow g3
    have hel := elems_le S1 b 0
    have hbm := hB1.s.hm
    have h13 := sameints_run t3 _ _ v1 v2 _ (w1.grow g3) w2 (by omega)
    have h16 := len_run t3 r rv b S1 hB3.s
    obtain ⟨v3, t4, h15', g4, w3⟩ := rall_run t3 (ok0 hB3.base hB3.prot) o ov b iv S1 hB3.d
    have hB4 := hB3.grow g4
    have hcnt : (elems S1 0 b).length = cnt S1 b := by
      rw [elems_len']
      apply cnt_congr
      intro j _
      rw [Nat.zero_add]
    have hv3 := row_len w3
    rw [hcnt] at hv3
    have hX4 : t4.store[0]? = some X := ((g2.trans g3).trans g4).at_ (by rw [hM.same 0 (lt_of_at hX) z1 z2]; exact hX)
    refine calls_round r o i (i + 1) cls.length (cnt S1 b) _ _ _ _ (cls.map cV) full nl' st t1 t2 t3 t4 v1 v2 v3 f hx (by simp) hlt hd h14 h15 h13 h16 h15' hv3 hn q2 q11 q12 q13 ?_
    intro f' hf h13'
    refine (calls_loop r rv o ov b iv X cls full nl' hlen hbig z1 z2 d (i + 1) S1 f' t4 (by omega) hB4 hX4 ?_ ?_ ?_ h13').mono ?_
    · rw [hf 2 (by omega)]; exact q2
    · rw [hf 11 (by omega)]; exact q11
    · rw [hf 12 (by omega)]; exact q12
    · rintro e f2 s2 ⟨a1, a2, a3, a4⟩
      exact ⟨a1, a2, a3, fun j hj => (a4 j hj).trans (hf j hj)⟩
/-- The law's end. -/
theorem calls_end (r o k t b : Nat) (nn : Int) (a : Bool) (w cn : Int) (nl : Bool) (xs : List Int) (iv : V) (st s1 s2 s3 s4 s5 : St) (v1 v2 : V) (f : Nat → V) (hiv : iv = .list true (some false) [] ∧ b = 0 ∨ ∃ ov, iv = .slice ov 1 0 b)
    (h17 : (run tb).call 17 [.ptr r 0] st = some (.ptr t 0, s1)) (hb : s1.store[o]? = some (.box [iv])) (hc : s1.store[0]? = some (.box [.int .i64 w, .int .i64 cn, .list false (some nl) (ints xs)]))
    (h18 : ∀ P, (run tb).call 18 [.ptr r 0] { s1 with prot := P } = some (.int .i64 (b : Nat), { s1 with prot := P })) (h19 : ∀ P, (run tb).call 19 [.ptr r 0, .int .i64 nn] { s1 with prot := P } = some (.bool a, { s1 with prot := P })) (h20 : ∀ P, (run tb).call 20 [.ptr o 0, .int .i64 nn] { s1 with prot := P } = some (.bool a, { s1 with prot := P }))
    (h21 : (run tb).call 21 [.ptr o 0] { s1 with prot := 0 :: s1.prot } = some (.ptr k 0, s2)) (h12 : (run tb).call 12 [.ptr t 0, .ptr k 0, .agg [.int .i64 w, .int .i64 cn, .list false (some nl) (ints xs)]] { s2 with prot := s1.prot } = some (.bool true, s3)) (hp3 : s3.prot = s1.prot)
    (h14 : (run tb).call 14 [.ptr r 0] s3 = some (v1, s4)) (hp4 : s4.prot = s1.prot) (h15 : (run tb).call 15 [.ptr o 0] s4 = some (v2, s5)) (hp5 : s5.prot = s1.prot) (h13 : (run tb).call 13 [v1, v2] s5 = some (.bool true, s5))
    (q4 : f 4 = .int .i64 nn) (q8 : f 8 = .ptr 0 0) (q11 : f 11 = .ptr r 0) (q12 : f 12 = .ptr o 0) {Q : V → St → Prop} (hQ : Q (.bool true) s5) : Ret Q (leave tb [.tmp 10] ((run tb).code none c3_51 (mk 108 f []) st)) := by
  have e3 : ({ store := s3.store, base := s3.base, prot := s1.prot } : St) = s3 := by rw [← hp3]
  have e4 : ({ store := s4.store, base := s4.base, prot := s1.prot } : St) = s4 := by rw [← hp4]
  have e5 : ({ store := s5.store, base := s5.base, prot := s1.prot } : St) = s5 := by rw [← hp5]
  have f4 : ({ store := s4.store, base := s4.base, prot := s3.prot } : St) = s4 := by rw [hp3, ← hp4]
  have f5 : ({ store := s5.store, base := s5.base, prot := s4.prot } : St) = s5 := by rw [hp4, ← hp5]
  have f6 : ({ store := s5.store, base := s5.base, prot := s3.prot } : St) = s5 := by rw [hp3, ← hp5]
  have hbb : (((b : Nat) : Int) == ((b : Nat) : Int)) = true := by simp
  rcases hiv with ⟨rfl, rfl⟩ | ⟨ov, rfl⟩
  · simp (config := { decide := true }) [g3_51, g3_52, g3_53, g3_54, g3_55, l3_52, l3_54, steps_nil, steps_cons, draws_nil, draws_cons, step_mk, stepB_some, stepB_none, memB_mk, thenS_some, regB_some, branch_bool, sel_true, sel_false, wanted_none, wanted_some, asB, mk_put, mk_put_none, arg_tmp, arg_const, arg_func, arg_global, upd_same, upd_ne, evPure, evArgs, m_load, m_store, m_alloc, m_box, m_call, m_lookup, m_mapUpdate, m_inv, evLoad, readCells, evFieldAddr, evIndexAddr, asIdx, ofValue, isPure, evBin, ib_lss, ib_leq, ib_gtr, ib_geq, ib_eql, ib_neq, evUn, leave_normal, leave_ret, finish, then_normal, then_exit, then_ret, close_normal, close_exit, close_ret, evConv, mk_marks, dropMarks, resOf, resList, mk_getD, argF, List.getD_cons_zero, List.getD_cons_succ, V.cells, evLen, kdOp, kdOf, readsOf, protS, eq_bool, eq_nil28, evStore, V.oneCell, putElem, splice, -List.getD_eq_getElem?_getD, -getElem?_pos, und55, und53, und22, size3, size53, size58, size22, ty3, ty4, ty53, ty58, ty22, q4, q8, q11, q12, h17, hb, hc, h18, h19, h20, h21, h12, h14, h15, h13, e3, e4, e5, f4, f5, f6, ty25, und40, und38, ty38, size38, eq_nil28, eq_bool]
    exact .one hQ
  · simp (config := { decide := true }) [g3_51, g3_52, g3_53, g3_54, g3_55, l3_52, l3_54, steps_nil, steps_cons, draws_nil, draws_cons, step_mk, stepB_some, stepB_none, memB_mk, thenS_some, regB_some, branch_bool, sel_true, sel_false, wanted_none, wanted_some, asB, mk_put, mk_put_none, arg_tmp, arg_const, arg_func, arg_global, upd_same, upd_ne, evPure, evArgs, m_load, m_store, m_alloc, m_box, m_call, m_lookup, m_mapUpdate, m_inv, evLoad, readCells, evFieldAddr, evIndexAddr, asIdx, ofValue, isPure, evBin, ib_lss, ib_leq, ib_gtr, ib_geq, ib_eql, ib_neq, evUn, leave_normal, leave_ret, finish, then_normal, then_exit, then_ret, close_normal, close_exit, close_ret, evConv, mk_marks, dropMarks, resOf, resList, mk_getD, argF, List.getD_cons_zero, List.getD_cons_succ, V.cells, evLen, kdOp, kdOf, readsOf, protS, eq_bool, eq_nil28, evStore, V.oneCell, putElem, splice, -List.getD_eq_getElem?_getD, -getElem?_pos, und55, und53, und22, size3, size53, size58, size22, ty3, ty4, ty53, ty58, ty22, q4, q8, q11, q12, h17, hb, hc, h18, h19, h20, h21, h12, h14, h15, h13, e3, e4, e5, f4, f5, f6, ty25, und40, und38, ty38, size38, eq_nil28, eq_bool]
    exact .one hQ
end Go.Proofs.YtgknieohkniojaaDoor
namespace Go.Proofs.YtgknieohkniojaaDoor
open Go.Abs
set_option maxRecDepth 100000
set_option linter.unusedSimpArgs false
set_option linter.unusedVariables false
set_option maxHeartbeats 4000000
theorem calls_fin (r rv o ov b : Nat) (iv : V) (S : Nat → Bool) (st : St) (hB : Both st r rv o iv ov b S) (nn : Int) (w cn : Int) (nl : Bool) (xs : List Int) (hbig : (Cl.big ⟨w, cn, nl, xs⟩) = false) (hX : st.store[0]? = some (.box [.int .i64 w, .int .i64 cn, .list false (some nl) (ints xs)])) (f : Nat → V)
    (q4 : f 4 = .int .i64 nn) (q8 : f 8 = .ptr 0 0) (q11 : f 11 = .ptr r 0) (q12 : f 12 = .ptr o 0) {Q : V → St → Prop} (hQ : ∀ s, Q (.bool true) s) : Ret Q (leave tb [.tmp 10] ((run tb).code none c3_51 (mk 108 f []) st)) := by
  have h17 := clone_run st (ok0 hB.base hB.prot) r rv b S hB.s
  have g1 := newSt_grows st b S
  have hc1 := newSt_set (st := st) (b := b) (S := S) hB.s.hm hB.s.hz
  have hlen1 : (newSt st b S).store.length = st.store.length + 2 := by unfold newSt; simp
  have hB1 := hB.grow g1
  have hX1 := g1.at_ hX
  generalize newSt st b S = s1 at *
  obtain ⟨k, iv', s2, h21, hR2, g2, hk1, hk2⟩ := rcopy_run { s1 with prot := 0 :: s1.prot } o ov b iv S ⟨hB1.d.hb, hB1.d.hi, hB1.d.hz, hB1.d.hm⟩
  have hk1' : s1.store.length ≤ k := hk1
  have hs2 : SetAt { s2 with prot := s1.prot } (st.store.length + 1) st.store.length b S := ⟨g2.at_ hc1.hb, g2.at_ hc1.hv, hc1.hz, hc1.hm⟩
  have hd2 : RefAt { s2 with prot := s1.prot } k iv' s1.store.length b S := ⟨hR2.hb, hR2.hi, hR2.hz, hR2.hm⟩
  have hB2 : Both { s2 with prot := s1.prot } (st.store.length + 1) st.store.length k iv' s1.store.length b S := ⟨hs2, hd2, g2.base.trans hB1.base, hB1.prot, by omega, by omega, by show s1.store.length < s2.store.length; omega⟩
  obtain ⟨s3, S3, h12, hB3, hM⟩ := do_run _ _ _ _ _ _ _ _ hB2 ⟨w, cn, nl, xs⟩ hbig
  have old : ∀ i x, st.store[i]? = some x → s3.store[i]? = some x := fun i x h => by
    have hi := lt_of_at h
    have h2 : s2.store[i]? = some x := g2.at_ (g1.at_ h)
    rw [hM.same i (lt_of_at h2) (by omega) (by omega)]; exact h2
  have hs3 : SetAt s3 r rv b S := ⟨old _ _ hB.s.hb, old _ _ hB.s.hv, hB.s.hz, hB.s.hm⟩
  have hd3 : RefAt s3 o iv ov b S := ⟨old _ _ hB.d.hb, by
    rcases hB.d.hi with ⟨h1, h2⟩ | h1
    · exact .inl ⟨h1, old _ _ h2⟩
    · exact .inr h1, hB.d.hz, hB.d.hm⟩
  obtain ⟨v1, s4, h14, g4, w1⟩ := list_run s3 (ok0 hB3.base hB3.prot) r rv b S hs3
  have hb4 : s4.base = 0 := g4.base.trans hB3.base
  have hp4 : s4.prot = [] := g4.prot.trans hB3.prot
  obtain ⟨v2, s5, h15, g5, w2⟩ := rall_run s4 (ok0 hb4 hp4) o ov b iv S (hd3.grow g4)
  have hp5 : s5.prot = [] := g5.prot.trans hp4
  have hel := elems_le S b 0
  have hbm := hB.s.hm
  have h13 := sameints_run s5 _ _ v1 v2 _ (w1.grow g5) w2 (by omega)
  have hiv : iv = .list true (some false) [] ∧ b = 0 ∨ ∃ ov, iv = .slice ov 1 0 b := by
    rcases hB.d.hi with ⟨h1, _⟩ | ⟨h1, h2⟩
    · exact .inr ⟨ov, h1⟩
    · exact .inl ⟨h2, h1⟩
  exact calls_end r o k _ b nn (inS S nn) w cn nl xs iv st s1 s2 s3 s4 s5 v1 v2 f hiv h17 hB1.d.hb hX1 (fun P => bound_run' _ r rv b S (hB1.s.prot' P)) (fun P => has_run _ r rv b S nn (hB1.s.prot' P)) (fun P => rhas_run _ o ov b iv S nn ⟨hB1.d.hb, hB1.d.hi, hB1.d.hz, hB1.d.hm⟩)
    h21 h12 (hB3.prot.trans hB1.prot.symm) h14 (hp4.trans hB1.prot.symm) h15 (hp5.trans hB1.prot.symm) h13 q4 q8 q11 q12 (hQ _)
theorem calls_run (bd : Int) (n1 : Bool) (first : List Int) (nc : Bool) (cls : List Cl) (w cn : Int) (nl : Bool) (xs : List Int) (nn : Int) : ∃ st', (run tb).call 3 [.int .i64 bd, .list false (some n1) (ints first), .list false (some nc) (cls.map cV), .agg [.int .i64 w, .int .i64 cn, .list false (some nl) (ints xs)], .int .i64 nn] st0 = some (.bool true, st') := by
  suffices H : Ret (fun v _ => v = .bool true) ((run tb).call 3 [.int .i64 bd, .list false (some n1) (ints first), .list false (some nc) (cls.map cV), .agg [.int .i64 w, .int .i64 cn, .list false (some nl) (ints xs)], .int .i64 nn] st0) by
    obtain ⟨v, st, h1, rfl⟩ := H
    exact ⟨st, h1⟩
  have hQ : ∀ s : St, (fun (v : V) (_ : St) => v = .bool true) (.bool true) s := fun _ => rfl
  generalize (fun (v : V) (_ : St) => v = .bool true) = Q at *
  obtain ⟨sa, ha, hb0, hp0, g0⟩ := alive1 (.box [.int .i64 w, .int .i64 cn, .list false (some nl) (ints xs)])
  have hgr := fun st => great_run false (some nc) cls st
  have hgl := fun st => great_run true (some false) [⟨w, cn, nl, xs⟩] st
  have hgl1 : (decide ((60 : Int) < ((([⟨w, cn, nl, xs⟩] : List Cl).length : Nat) : Int)) || ([⟨w, cn, nl, xs⟩] : List Cl).any Cl.big) = Cl.big ⟨w, cn, nl, xs⟩ := by simp
  rw [hgl1] at hgl
  have hgl2 : ([⟨w, cn, nl, xs⟩] : List Cl).map cV = [.agg [.int .i64 w, .int .i64 cn, .list false (some nl) (ints xs)]] := rfl
  rw [hgl2] at hgl
  have hall : (decide ((60 : Int) < (cls.length : Int)) || cls.any Cl.big) = false → cls.length ≤ 60 ∧ ∀ c ∈ cls, c.big = false := fun h => by
    simp only [Bool.or_eq_false_iff, decide_eq_false_iff_not] at h
    refine ⟨by omega, fun c hc => ?_⟩
    have := List.any_eq_false.1 h.2 c hc
    simpa using this
  have hloop := fun r rv o ov b iv X h1 h2 h3 h4 => calls_loop r rv o ov b iv X cls false (some nc) h1 h2 h3 h4 cls.length 0
  generalize (decide ((60 : Int) < (cls.length : Int)) || cls.any Cl.big) = G at *
  generalize hLb : Cl.big ⟨w, cn, nl, xs⟩ = Lb at *
  generalize cls.map cV = cs at *
  rw [run3 (by simp)]
  by_cases h1 : bd > 1000
  · simp [g3_0, g3_1, g3_2, g3_3, g3_4, g3_5, g3_6, g3_7, g3_8, g3_9, g3_10, g3_11, g3_12, g3_13, g3_14, g3_15, g3_16, g3_17, l3_1, l3_4, l3_7, l3_12, l3_15, steps_nil, steps_cons, draws_nil, draws_cons, step_mk, stepB_some, stepB_none, memB_mk, thenS_some, regB_some, branch_bool, sel_true, sel_false, wanted_none, wanted_some, asB, mk_put, mk_put_none, arg_tmp, arg_const, arg_func, arg_global, upd_same, upd_ne, evPure, evArgs, m_load, m_store, m_alloc, m_box, m_call, m_lookup, m_mapUpdate, m_inv, evLoad, readCells, evFieldAddr, evIndexAddr, asIdx, ofValue, isPure, evBin, ib_lss, ib_leq, ib_gtr, ib_geq, ib_eql, ib_neq, evUn, leave_normal, leave_ret, finish, then_normal, then_exit, then_ret, close_normal, close_exit, close_ret, evConv, mk_marks, dropMarks, resOf, resList, mk_getD, argF, List.getD_cons_zero, List.getD_cons_succ, V.cells, evLen, kdOp, kdOf, readsOf, protS, eq_bool, eq_nil28, evStore, V.oneCell, putElem, splice, -List.getD_eq_getElem?_getD, -getElem?_pos, und55, und53, und22, size3, size53, size58, size22, ty3, ty4, ty53, ty58, ty22, ha, h1, ints_len, St.new, st0, ty25, build23 (a := .int .i64 w) (b := .int .i64 cn) (c := .list false (some nl) (ints xs)), hgr, hgl, g0]
    exact .one (hQ _)
  by_cases h2 : first.length > 60
  · have h2' : (60 : Int) < (first.length : Int) := by omega
    simp [g3_0, g3_1, g3_2, g3_3, g3_4, g3_5, g3_6, g3_7, g3_8, g3_9, g3_10, g3_11, g3_12, g3_13, g3_14, g3_15, g3_16, g3_17, l3_1, l3_4, l3_7, l3_12, l3_15, steps_nil, steps_cons, draws_nil, draws_cons, step_mk, stepB_some, stepB_none, memB_mk, thenS_some, regB_some, branch_bool, sel_true, sel_false, wanted_none, wanted_some, asB, mk_put, mk_put_none, arg_tmp, arg_const, arg_func, arg_global, upd_same, upd_ne, evPure, evArgs, m_load, m_store, m_alloc, m_box, m_call, m_lookup, m_mapUpdate, m_inv, evLoad, readCells, evFieldAddr, evIndexAddr, asIdx, ofValue, isPure, evBin, ib_lss, ib_leq, ib_gtr, ib_geq, ib_eql, ib_neq, evUn, leave_normal, leave_ret, finish, then_normal, then_exit, then_ret, close_normal, close_exit, close_ret, evConv, mk_marks, dropMarks, resOf, resList, mk_getD, argF, List.getD_cons_zero, List.getD_cons_succ, V.cells, evLen, kdOp, kdOf, readsOf, protS, eq_bool, eq_nil28, evStore, V.oneCell, putElem, splice, -List.getD_eq_getElem?_getD, -getElem?_pos, und55, und53, und22, size3, size53, size58, size22, ty3, ty4, ty53, ty58, ty22, ha, h1, h2', ints_len, St.new, st0, ty25, build23 (a := .int .i64 w) (b := .int .i64 cn) (c := .list false (some nl) (ints xs)), hgr, hgl, g0]
    exact .one (hQ _)
  have h2' : ¬ (60 : Int) < (first.length : Int) := by omega
  cases G with
  | true =>
    simp [g3_0, g3_1, g3_2, g3_3, g3_4, g3_5, g3_6, g3_7, g3_8, g3_9, g3_10, g3_11, g3_12, g3_13, g3_14, g3_15, g3_16, g3_17, l3_1, l3_4, l3_7, l3_12, l3_15, steps_nil, steps_cons, draws_nil, draws_cons, step_mk, stepB_some, stepB_none, memB_mk, thenS_some, regB_some, branch_bool, sel_true, sel_false, wanted_none, wanted_some, asB, mk_put, mk_put_none, arg_tmp, arg_const, arg_func, arg_global, upd_same, upd_ne, evPure, evArgs, m_load, m_store, m_alloc, m_box, m_call, m_lookup, m_mapUpdate, m_inv, evLoad, readCells, evFieldAddr, evIndexAddr, asIdx, ofValue, isPure, evBin, ib_lss, ib_leq, ib_gtr, ib_geq, ib_eql, ib_neq, evUn, leave_normal, leave_ret, finish, then_normal, then_exit, then_ret, close_normal, close_exit, close_ret, evConv, mk_marks, dropMarks, resOf, resList, mk_getD, argF, List.getD_cons_zero, List.getD_cons_succ, V.cells, evLen, kdOp, kdOf, readsOf, protS, eq_bool, eq_nil28, evStore, V.oneCell, putElem, splice, -List.getD_eq_getElem?_getD, -getElem?_pos, und55, und53, und22, size3, size53, size58, size22, ty3, ty4, ty53, ty58, ty22, ha, h1, h2', ints_len, St.new, st0, ty25, build23 (a := .int .i64 w) (b := .int .i64 cn) (c := .list false (some nl) (ints xs)), hgr, hgl, g0]
    exact .one (hQ _)
  | false =>
    cases Lb with
    | true =>
      simp [g3_0, g3_1, g3_2, g3_3, g3_4, g3_5, g3_6, g3_7, g3_8, g3_9, g3_10, g3_11, g3_12, g3_13, g3_14, g3_15, g3_16, g3_17, l3_1, l3_4, l3_7, l3_12, l3_15, steps_nil, steps_cons, draws_nil, draws_cons, step_mk, stepB_some, stepB_none, memB_mk, thenS_some, regB_some, branch_bool, sel_true, sel_false, wanted_none, wanted_some, asB, mk_put, mk_put_none, arg_tmp, arg_const, arg_func, arg_global, upd_same, upd_ne, evPure, evArgs, m_load, m_store, m_alloc, m_box, m_call, m_lookup, m_mapUpdate, m_inv, evLoad, readCells, evFieldAddr, evIndexAddr, asIdx, ofValue, isPure, evBin, ib_lss, ib_leq, ib_gtr, ib_geq, ib_eql, ib_neq, evUn, leave_normal, leave_ret, finish, then_normal, then_exit, then_ret, close_normal, close_exit, close_ret, evConv, mk_marks, dropMarks, resOf, resList, mk_getD, argF, List.getD_cons_zero, List.getD_cons_succ, V.cells, evLen, kdOp, kdOf, readsOf, protS, eq_bool, eq_nil28, evStore, V.oneCell, putElem, splice, -List.getD_eq_getElem?_getD, -getElem?_pos, und55, und53, und22, size3, size53, size58, size22, ty3, ty4, ty53, ty58, ty22, ha, h1, h2', ints_len, St.new, st0, ty25, build23 (a := .int .i64 w) (b := .int .i64 cn) (c := .list false (some nl) (ints xs)), hgr, hgl, g0]
      exact .one (hQ _)
    | false =>
      obtain ⟨hl60, hbig⟩ := hall rfl
      obtain ⟨b, hcb⟩ : ∃ b : Nat, max 0 (min bd 65536) = (b : Int) := ⟨(max 0 (min bd 65536)).toNat, by omega⟩
      have hN := new_run sa bd b false (some n1) first (by omega) (ok0 hb0 hp0) hcb
      have hzT := addAll_z (b := b) first (S := emptyS) (fun _ _ => rfl)
      have gr := newSt_grows sa b (addAll b emptyS first)
      have hs := newSt_set (st := sa) (b := b) (S := addAll b emptyS first) (by omega) hzT
      have hl1 : (newSt sa b (addAll b emptyS first)).store.length = sa.store.length + 2 := by unfold newSt; simp
      have hb1 : (newSt sa b (addAll b emptyS first)).base = 0 := hb0
      have hp1 : (newSt sa b (addAll b emptyS first)).prot = [] := hp0
      generalize newSt sa b (addAll b emptyS first) = s1 at *
      obtain ⟨s2, hR, hd2, g2, hl2⟩ := rnew_run s1 bd b false (some n1) first (by omega) (ok0 hb1 hp1) hcb
      generalize addAll b emptyS first = S at *
      have w0 := lt_of_at g0
      have hB : Both s2 (sa.store.length + 1) sa.store.length (s1.store.length + 1) (.slice s1.store.length 1 0 b) s1.store.length b S := ⟨hs.grow g2, hd2, g2.base.trans hb1, g2.prot.trans hp1, by omega, by omega, by omega⟩
      have hX := g2.at_ (gr.at_ g0)
      simp [g3_0, g3_1, g3_2, g3_3, g3_4, g3_5, g3_6, g3_7, g3_8, g3_9, g3_10, g3_11, g3_12, g3_13, g3_14, g3_15, g3_16, g3_17, g3_18, g3_19, g3_20, g3_21, g3_22, g3_23, g3_24, g3_25, g3_26, g3_27, g3_28, g3_29, g3_30, g3_31, g3_32, g3_33, l3_1, l3_4, l3_7, l3_12, l3_15, l3_19, l3_21, l3_24, l3_27, l3_32, steps_nil, steps_cons, draws_nil, draws_cons, step_mk, stepB_some, stepB_none, memB_mk, thenS_some, regB_some, branch_bool, sel_true, sel_false, wanted_none, wanted_some, asB, mk_put, mk_put_none, arg_tmp, arg_const, arg_func, arg_global, upd_same, upd_ne, evPure, evArgs, m_load, m_store, m_alloc, m_box, m_call, m_lookup, m_mapUpdate, m_inv, evLoad, readCells, evFieldAddr, evIndexAddr, asIdx, ofValue, isPure, evBin, ib_lss, ib_leq, ib_gtr, ib_geq, ib_eql, ib_neq, evUn, leave_normal, leave_ret, finish, then_normal, then_exit, then_ret, close_normal, close_exit, close_ret, evConv, mk_marks, dropMarks, resOf, resList, mk_getD, argF, List.getD_cons_zero, List.getD_cons_succ, V.cells, evLen, kdOp, kdOf, readsOf, protS, eq_bool, eq_nil28, evStore, V.oneCell, putElem, splice, -List.getD_eq_getElem?_getD, -getElem?_pos, und55, und53, und22, size3, size53, size58, size22, ty3, ty4, ty53, ty58, ty22, ha, h1, h2', ints_len, St.new, st0, ty25, build23 (a := .int .i64 w) (b := .int .i64 cn) (c := .list false (some nl) (ints xs)), hgr, hgl, g0, hN, hR]
      refine Out.use (C := fun o => Ret Q (leave tb _ (andThen (closeB 0 o) _))) (hloop _ _ _ _ b _ _ (by omega) hbig (by omega) (by omega) S _ s2 (by omega) hB hX ?_ ?_ ?_ ?_) ?_
      · simp [upd_ne, argF]
      · simp [upd_ne, upd_same]
      · simp [upd_ne, upd_same]
      · simp [upd_same]
      · rintro e f st' ⟨rfl, ⟨S', hB'⟩, hX', hf⟩
        simp only [close_exit, if_true, then_normal]
        refine calls_fin _ _ _ _ b _ S' st' hB' nn w cn nl xs hLb hX' f ?_ ?_ ?_ ?_ hQ
        · rw [hf 4 (by omega)]; simp [upd_ne, argF]
        · rw [hf 8 (by omega)]; simp [upd_ne, upd_same]
        · rw [hf 11 (by omega)]; simp [upd_ne, upd_same]
        · rw [hf 12 (by omega)]; simp [upd_ne, upd_same]
theorem shaped_cl {n : Nat} {x : V} (h : Shaped Tryd.prog n 25 x) : ∃ (w cn : Int) (nl : Bool) (xs : List Int), x = .agg [.int .i64 w, .int .i64 cn, .list false (some nl) (ints xs)] := by
  cases n with
  | zero => exact h.elim
  | succ n =>
    unfold Shaped at h
    rw [Tryd.underlying25] at h
    obtain ⟨ys, rfl, hl, hf⟩ := h
    have hl' : ys.length = 3 := hl
    rcases ys with _ | ⟨y0, _ | ⟨y1, _ | ⟨y2, _ | ⟨y3, r⟩⟩⟩⟩
    · simp at hl'
    · simp at hl'
    · simp at hl'
    · have h0 := hf 0 _ y0 rfl rfl
      have h1 := hf 1 _ y1 rfl rfl
      have h2 := hf 2 _ y2 rfl rfl
      obtain ⟨i0, rfl, _⟩ := shaped_int Tryd.underlying3 h0
      obtain ⟨i1, rfl, _⟩ := shaped_int Tryd.underlying3 h1
      obtain ⟨nl, is, rfl, _⟩ := shaped_ints Tryd.underlying22 Tryd.underlying3 h2
      exact ⟨i0, i1, nl, is, rfl⟩
    · simp at hl'
theorem shaped_cls {n : Nat} {x : V} (h : Shaped Tryd.prog n 23 x) : ∃ (nl : Bool) (cls : List Cl), x = .list false (some nl) (cls.map cV) := by
  cases n with
  | zero => exact h.elim
  | succ n =>
    unfold Shaped at h
    rw [Tryd.underlying23] at h
    obtain ⟨nl, xs, rfl, _, _, hx⟩ := h
    have : ∀ xs : List V, (∀ y ∈ xs, Shaped Tryd.prog n 25 y) → ∃ cls : List Cl, xs = cls.map cV := by
      intro xs
      induction xs with
      | nil => intro _; exact ⟨[], rfl⟩
      | cons y ys ih =>
        intro h
        obtain ⟨w, cn, l, zs, rfl⟩ := shaped_cl (h y (by simp))
        obtain ⟨cls, rfl⟩ := ih fun z hz => h z (by simp [hz])
        exact ⟨⟨w, cn, l, zs⟩ :: cls, rfl⟩
    obtain ⟨cls, rfl⟩ := this xs hx
    exact ⟨nl, cls, rfl⟩
end Go.Proofs.YtgknieohkniojaaDoor
namespace Go.Proofs.YtgknieohkniojaaDoor
open Go Go.Abs Go.ChangeShapes Go.WideShapes Go.RowKit
set_option maxRecDepth 100000
theorem calls_args (xs : List V) (hl : xs.length = Tryd.f3.params.toList.length) (hs : ∀ (j : Nat) t x, Tryd.f3.params.toList[j]? = some t → xs[j]? = some x → ∃ n, Shaped Tryd.prog n t x) : ∃ st', (run tb).call 3 xs st0 = some (.bool true, st') := by
  rw [Tryd.params3] at hl hs
  obtain ⟨x0, x1, x2, x3, x4, rfl⟩ : ∃ x0 x1 x2 x3 x4, xs = [x0, x1, x2, x3, x4] := by
    rcases xs with _ | ⟨x0, _ | ⟨x1, _ | ⟨x2, _ | ⟨x3, _ | ⟨x4, _ | ⟨z, r⟩⟩⟩⟩⟩⟩
    · simp at hl
    · simp at hl
    · simp at hl
    · simp at hl
    · simp at hl
    · exact ⟨x0, x1, x2, x3, x4, rfl⟩
    · simp at hl
  obtain ⟨n0, h0⟩ := hs 0 3 x0 rfl rfl
  obtain ⟨n1, h1⟩ := hs 1 22 x1 rfl rfl
  obtain ⟨n2, h2⟩ := hs 2 23 x2 rfl rfl
  obtain ⟨n3, h3⟩ := hs 3 25 x3 rfl rfl
  obtain ⟨n4, h4⟩ := hs 4 3 x4 rfl rfl
  obtain ⟨i0, rfl, b0⟩ := shaped_int Tryd.underlying3 h0
  obtain ⟨nl1, is1, rfl, l1, b1⟩ := shaped_ints Tryd.underlying22 Tryd.underlying3 h1
  obtain ⟨nl2, cls2, rfl⟩ := shaped_cls h2
  obtain ⟨w3, cn3, nl3, xs3, rfl⟩ := shaped_cl h3
  obtain ⟨i4, rfl, b4⟩ := shaped_int Tryd.underlying3 h4
  exact calls_run i0 nl1 is1 nl2 cls2 w3 cn3 nl3 xs3 i4
theorem calls_lifted (os : Os) (started : os.Started) (H : Type) (enc : TypeId × Value → H) :
    ReturnsInHanded {} Tryd.checked os 3 .any (fun w args => (Rows.bitsCallsSpec.pre enc Tryd.prog Tryd.f3 [] false w args ∧ laidMetH Tryd.prog Rows.bitsCallsRow.laid w) ∧ sizedMet enc Tryd.prog Tryd.f3 (OpenSpec.ofChange Rows.bitsCallsSpec) false w args)
      (Rows.bitsCallsSpec.post enc Tryd.prog Tryd.f3 false true false false) :=
  lifted (C := Tryd.checked) tb_fits Tryd.laidOut Tryd.own started (fun W h => glob_ok h) (by kernel_rfl) Tryd.func3 rfl Tryd.underlying4 rfl [3, 22, 25, 23] types_ok (by kernel_rfl)
    (fun ds h => by
      rw [show Tryd.f3.params.toList = [3, 22, 23, 25, 3] from by rw [Tryd.params3]] at h
      rcases ds with _ | ⟨x0, _ | ⟨x1, _ | ⟨x2, _ | ⟨x3, _ | ⟨x4, _ | ⟨z, r⟩⟩⟩⟩⟩⟩
      · simp at h
      · simp at h
      · simp at h
      · simp at h
      · simp at h
      · rfl
      · simp at h)
    calls_args
    (ChangeSpec.witness_at (enc := enc) (C := Tryd.checked) (os := os) (X := fun w _ => laidMetH Tryd.prog Rows.bitsCallsRow.laid w) false (laidWorld os) #[.int .i64 0, .slice none 0 0, .slice none 0 0, .agg #[.int .i64 0, .int .i64 0, .slice none 0 0], .int .i64 0] 8 rfl (by kernel_rfl) (by kernel_rfl) (by kernel_rfl) (by kernel_rfl) (by kernel_rfl) (laidWorld_met os _))
theorem calls_holds : Rows.BitsCallsSaid :=
  OpenClaim.holds_of_wide 3 Tryd.f3 rfl rfl rfl rfl rfl rfl rfl ⟨rfl, rfl, rfl, rfl, rfl⟩ rfl rfl rfl rfl rfl (by kernel_rfl) Tryd.func3 (by kernel_rfl)
    (of_decide_eq_true (by kernel_rfl)) (by unfold Func.isWrapper; rw [if_neg (of_decide_eq_false (by kernel_rfl))]; exact ⟨rfl, rfl⟩)
    (fun os started H enc _ => calls_lifted os started H enc)
theorem calls_plain : ∀ t, t ∈ [3, 22, 23, 25, 3] → Tryd.prog.wantsStandIn t = false := by
  intro t ht
  have h : ([3, 22, 23, 25, 3].all fun t => Tryd.prog.wantsStandIn t == false) = true := by kernel_rfl
  exact eq_of_beq (List.all_eq_true.1 h t ht)
theorem calls_card : Rows.BitsCallsCardSaid :=
  Claim7.holds_tied_plain_at .later [] [.data] true (true, "9295b955cc89ea01dc10a212d3bb8874e736bfb4ce157a7f326887aee0c80cde") false
    calls_holds (fun _ h => by cases h) (by kernel_rfl) (fun _ h => by cases h) bitsCalls_row_tie rfl ⟨rfl, rfl⟩ (by kernel_rfl) rfl
    (fun f fn hf hfn => by
      obtain rfl : f = 3 := Option.some.inj ((show Tryd.prog.funcNamed "drogue/droguelaw02.BitsCalls" = some 3 by kernel_rfl).symm.trans hf) |>.symm
      obtain rfl : fn = Tryd.f3 := (Option.some.inj (Tryd.func3.symm.trans hfn)).symm
      exact ⟨by kernel_rfl, fun j t ht => calls_plain t (by
        rw [Tryd.params3] at ht
        exact List.mem_of_getElem? (i := j) (by simpa using ht))⟩)
    (by kernel_rfl)
end Go.Proofs.YtgknieohkniojaaDoor
