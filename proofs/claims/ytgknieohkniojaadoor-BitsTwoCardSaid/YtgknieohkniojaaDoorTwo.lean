/- The parts of the functions: names for the places of their code. The law BitsTwo, walked. BitsTwo: the row, the card. -/
import Derived.Test.YtgknieohkniojaaDoorSet
import Derived.Test.YtgknieohkniojaaDoorFwF
import Derived.Test.YtgknieohkniojaaDoorPairs
import Derived.Test.YtgknieohkniojaaDoorCards
import Derived.Test.YtgknieohkniojaaDoorTie
import Derived.SevenTiedAt
set_option linter.unusedVariables false
set_option linter.unusedSimpArgs false
set_option linter.unnecessarySimpa false
set_option linter.all false
namespace Go.Proofs.YtgknieohkniojaaDoor
open Go.Abs
set_option maxRecDepth 1000000
set_option linter.unusedSimpArgs false
variable {rd : Option Nat} {f : Nat → V} {m : List Nat} {st : St}
noncomputable def c4_0 : Code := bodyOf Tryd.f4
theorem b4 : Tryd.f4.body = some c4_0 := rfl
theorem n4 : Tryd.f4.ntmps = 110 := rfl
theorem r4 : Tryd.f4.results = #[.tmp 8] := rfl
theorem fn4 : tb.fn 4 = some Tryd.f4 := Tryd.func4
theorem run4 {args : List V} {st : St} (ha : args.length ≤ 110) : (run tb).call 4 args st = leave tb [.tmp 8] ((run tb).code none c4_0 (mk 110 (argF args) []) st) := call_run fn4 rfl b4 n4 r4 ha
noncomputable def c4_1 : Code := kid c4_0 0
noncomputable def c4_2 : Code := kid c4_0 1
noncomputable def c4_3 : Code := kid c4_2 0
noncomputable def c4_4 : Code := kid c4_3 0
noncomputable def c4_5 : Code := kid c4_3 1
noncomputable def c4_6 : Code := kid c4_5 0
noncomputable def c4_7 : Code := kid c4_6 0
noncomputable def c4_8 : Code := kid c4_6 1
noncomputable def c4_9 : Code := kid c4_5 1
noncomputable def c4_10 : Code := kid c4_2 1
noncomputable def c4_11 : Code := kid c4_10 0
noncomputable def c4_12 : Code := kid c4_11 0
noncomputable def c4_13 : Code := kid c4_11 1
noncomputable def c4_14 : Code := kid c4_13 0
noncomputable def c4_15 : Code := kid c4_14 0
noncomputable def c4_16 : Code := kid c4_14 1
noncomputable def c4_17 : Code := kid c4_13 1
noncomputable def c4_18 : Code := kid c4_10 1
noncomputable def c4_19 : Code := kid c4_18 0
noncomputable def c4_20 : Code := kid c4_18 1
noncomputable def c4_21 : Code := kid c4_20 0
noncomputable def c4_22 : Code := kid c4_20 1
noncomputable def c4_23 : Code := kid c4_22 0
noncomputable def c4_24 : Code := kid c4_23 0
noncomputable def c4_25 : Code := kid c4_23 1
noncomputable def c4_26 : Code := kid c4_25 0
noncomputable def c4_27 : Code := kid c4_26 0
noncomputable def c4_28 : Code := kid c4_26 1
noncomputable def c4_29 : Code := kid c4_25 1
noncomputable def c4_30 : Code := kid c4_22 1
noncomputable def c4_31 : Code := kid c4_30 0
noncomputable def c4_32 : Code := kid c4_30 1
noncomputable def c4_33 : Code := kid c4_32 0
noncomputable def c4_34 : Code := kid c4_32 1
noncomputable def c4_35 : Code := kid c4_34 0
noncomputable def c4_36 : Code := kid c4_35 0
noncomputable def c4_37 : Code := kid c4_35 1
noncomputable def c4_38 : Code := kid c4_37 0
noncomputable def c4_39 : Code := kid c4_38 0
noncomputable def c4_40 : Code := kid c4_39 0
noncomputable def c4_41 : Code := kid c4_40 0
noncomputable def c4_42 : Code := kid c4_40 1
noncomputable def c4_43 : Code := kid c4_42 0
noncomputable def c4_44 : Code := kid c4_42 1
noncomputable def c4_45 : Code := kid c4_39 1
noncomputable def c4_46 : Code := kid c4_45 0
noncomputable def c4_47 : Code := kid c4_46 0
noncomputable def c4_48 : Code := kid c4_47 0
noncomputable def c4_49 : Code := kid c4_47 1
noncomputable def c4_50 : Code := kid c4_45 1
noncomputable def c4_51 : Code := kid c4_34 1
noncomputable def c4_52 : Code := kid c4_51 0
noncomputable def c4_53 : Code := kid c4_51 1
noncomputable def o4_1 : Array Oper := opsOf (kid (bodyOf Tryd.f4) 0)
noncomputable def o4_4 : Array Oper := opsOf (kid (kid (kid (bodyOf Tryd.f4) 1) 0) 0)
noncomputable def o4_7 : Array Oper := opsOf (kid (kid (kid (kid (kid (bodyOf Tryd.f4) 1) 0) 1) 0) 0)
noncomputable def o4_12 : Array Oper := opsOf (kid (kid (kid (kid (bodyOf Tryd.f4) 1) 1) 0) 0)
noncomputable def o4_15 : Array Oper := opsOf (kid (kid (kid (kid (kid (kid (bodyOf Tryd.f4) 1) 1) 0) 1) 0) 0)
noncomputable def o4_19 : Array Oper := opsOf (kid (kid (kid (kid (bodyOf Tryd.f4) 1) 1) 1) 0)
noncomputable def o4_21 : Array Oper := opsOf (kid (kid (kid (kid (kid (bodyOf Tryd.f4) 1) 1) 1) 1) 0)
noncomputable def o4_24 : Array Oper := opsOf (kid (kid (kid (kid (kid (kid (kid (bodyOf Tryd.f4) 1) 1) 1) 1) 1) 0) 0)
noncomputable def o4_27 : Array Oper := opsOf (kid (kid (kid (kid (kid (kid (kid (kid (kid (bodyOf Tryd.f4) 1) 1) 1) 1) 1) 0) 1) 0) 0)
noncomputable def o4_31 : Array Oper := opsOf (kid (kid (kid (kid (kid (kid (kid (bodyOf Tryd.f4) 1) 1) 1) 1) 1) 1) 0)
noncomputable def o4_33 : Array Oper := opsOf (kid (kid (kid (kid (kid (kid (kid (kid (bodyOf Tryd.f4) 1) 1) 1) 1) 1) 1) 1) 0)
noncomputable def o4_36 : Array Oper := opsOf (kid (kid (kid (kid (kid (kid (kid (kid (kid (kid (bodyOf Tryd.f4) 1) 1) 1) 1) 1) 1) 1) 1) 0) 0)
noncomputable def o4_41 : Array Oper := opsOf (kid (kid (kid (kid (kid (kid (kid (kid (kid (kid (kid (kid (kid (kid (bodyOf Tryd.f4) 1) 1) 1) 1) 1) 1) 1) 1) 0) 1) 0) 0) 0) 0)
noncomputable def o4_48 : Array Oper := opsOf (kid (kid (kid (kid (kid (kid (kid (kid (kid (kid (kid (kid (kid (kid (kid (kid (bodyOf Tryd.f4) 1) 1) 1) 1) 1) 1) 1) 1) 0) 1) 0) 0) 1) 0) 0) 0)
noncomputable def o4_49 : Array Oper := opsOf (kid (kid (kid (kid (kid (kid (kid (kid (kid (kid (kid (kid (kid (kid (kid (kid (bodyOf Tryd.f4) 1) 1) 1) 1) 1) 1) 1) 1) 0) 1) 0) 0) 1) 0) 0) 1)
noncomputable def o4_50 : Array Oper := opsOf (kid (kid (kid (kid (kid (kid (kid (kid (kid (kid (kid (kid (kid (kid (bodyOf Tryd.f4) 1) 1) 1) 1) 1) 1) 1) 1) 0) 1) 0) 0) 1) 1)
noncomputable def o4_52 : Array Oper := opsOf (kid (kid (kid (kid (kid (kid (kid (kid (kid (kid (bodyOf Tryd.f4) 1) 1) 1) 1) 1) 1) 1) 1) 1) 0)
theorem e4_0 : c4_0 = .seq c4_1 c4_2 := rfl
theorem e4_1 : c4_1 = .region 0 o4_1 false := rfl
theorem e4_2 : c4_2 = .seq c4_3 c4_10 := rfl
theorem e4_3 : c4_3 = .seq c4_4 c4_5 := rfl
theorem e4_4 : c4_4 = .region 1 o4_4 false := rfl
theorem e4_5 : c4_5 = .cond (.tmp 15) c4_6 c4_9 := rfl
theorem e4_6 : c4_6 = .seq c4_7 c4_8 := rfl
theorem e4_7 : c4_7 = .region 2 o4_7 false := rfl
theorem e4_8 : c4_8 = .ret := rfl
theorem e4_9 : c4_9 = .skip := rfl
theorem e4_10 : c4_10 = .seq c4_11 c4_18 := rfl
theorem e4_11 : c4_11 = .seq c4_12 c4_13 := rfl
theorem e4_12 : c4_12 = .region 3 o4_12 false := rfl
theorem e4_13 : c4_13 = .cond (.tmp 31) c4_14 c4_17 := rfl
theorem e4_14 : c4_14 = .seq c4_15 c4_16 := rfl
theorem e4_15 : c4_15 = .region 4 o4_15 false := rfl
theorem e4_16 : c4_16 = .ret := rfl
theorem e4_17 : c4_17 = .skip := rfl
theorem e4_18 : c4_18 = .seq c4_19 c4_20 := rfl
theorem e4_19 : c4_19 = .region 5 o4_19 false := rfl
theorem e4_20 : c4_20 = .seq c4_21 c4_22 := rfl
theorem e4_21 : c4_21 = .region 6 o4_21 false := rfl
theorem e4_22 : c4_22 = .seq c4_23 c4_30 := rfl
theorem e4_23 : c4_23 = .seq c4_24 c4_25 := rfl
theorem e4_24 : c4_24 = .region 7 o4_24 false := rfl
theorem e4_25 : c4_25 = .cond (.tmp 43) c4_26 c4_29 := rfl
theorem e4_26 : c4_26 = .seq c4_27 c4_28 := rfl
theorem e4_27 : c4_27 = .region 8 o4_27 false := rfl
theorem e4_28 : c4_28 = .ret := rfl
theorem e4_29 : c4_29 = .skip := rfl
theorem e4_30 : c4_30 = .seq c4_31 c4_32 := rfl
theorem e4_31 : c4_31 = .region 9 o4_31 false := rfl
theorem e4_32 : c4_32 = .seq c4_33 c4_34 := rfl
theorem e4_33 : c4_33 = .region 10 o4_33 false := rfl
theorem e4_34 : c4_34 = .seq c4_35 c4_51 := rfl
theorem e4_35 : c4_35 = .seq c4_36 c4_37 := rfl
theorem e4_36 : c4_36 = .region 11 o4_36 false := rfl
theorem e4_37 : c4_37 = .block 0 c4_38 := rfl
theorem e4_38 : c4_38 = .loop c4_39 := rfl
theorem e4_39 : c4_39 = .seq c4_40 c4_45 := rfl
theorem e4_40 : c4_40 = .seq c4_41 c4_42 := rfl
theorem e4_41 : c4_41 = .region 12 o4_41 false := rfl
theorem e4_42 : c4_42 = .cond (.tmp 45) c4_43 c4_44 := rfl
theorem e4_43 : c4_43 = .skip := rfl
theorem e4_44 : c4_44 = .exit 0 := rfl
theorem e4_45 : c4_45 = .seq c4_46 c4_50 := rfl
theorem e4_46 : c4_46 = .block 1 c4_47 := rfl
theorem e4_47 : c4_47 = .seq c4_48 c4_49 := rfl
theorem e4_48 : c4_48 = .region 14 o4_48 false := rfl
theorem e4_49 : c4_49 = .region 15 o4_49 false := rfl
theorem e4_50 : c4_50 = .region 13 o4_50 false := rfl
theorem e4_51 : c4_51 = .seq c4_52 c4_53 := rfl
theorem e4_52 : c4_52 = .region 16 o4_52 false := rfl
theorem e4_53 : c4_53 = .ret := rfl
theorem g4_0 : (run tb).code rd c4_0 (mk 110 f m) st = andThen ((run tb).code rd c4_1 (mk 110 f m) st) (fun fr st => (run tb).code rd c4_2 fr st) := gx_seq e4_0
noncomputable def l4_1 : { l : List Step // lightOf o4_1 = l } := by refine ⟨?_, ?h⟩; case h => simp only [lightOf, o4_1, opsOf, kid, bodyOf, Tryd.f4, Option.getD_some, List.map, stepOf, Option.map, List.getElem?_toArray, List.getElem?_cons_succ, List.getElem?_cons_zero, Option.bind_some]; rfl
theorem g4_1 : (run tb).code rd c4_1 (mk 110 f m) st = regB (evSteps tb (run tb) l4_1.1 (mk 110 f m) st) := gx_region e4_1 l4_1.2
theorem g4_2 : (run tb).code rd c4_2 (mk 110 f m) st = andThen ((run tb).code rd c4_3 (mk 110 f m) st) (fun fr st => (run tb).code rd c4_10 fr st) := gx_seq e4_2
theorem g4_3 : (run tb).code rd c4_3 (mk 110 f m) st = andThen ((run tb).code rd c4_4 (mk 110 f m) st) (fun fr st => (run tb).code rd c4_5 fr st) := gx_seq e4_3
noncomputable def l4_4 : { l : List Step // lightOf o4_4 = l } := by refine ⟨?_, ?h⟩; case h => simp only [lightOf, o4_4, opsOf, kid, bodyOf, Tryd.f4, Option.getD_some, List.map, stepOf, Option.map, List.getElem?_toArray, List.getElem?_cons_succ, List.getElem?_cons_zero, Option.bind_some]; rfl
theorem g4_4 : (run tb).code rd c4_4 (mk 110 f m) st = regB (evSteps tb (run tb) l4_4.1 (mk 110 f m) st) := gx_region e4_4 l4_4.2
theorem g4_5 : (run tb).code rd c4_5 (mk 110 f m) st = branch (f 15) (fun x => (run tb).code rd (sel x c4_6 c4_9) (mk 110 f m) st) := gx_cond e4_5 (by decide)
theorem g4_6 : (run tb).code rd c4_6 (mk 110 f m) st = andThen ((run tb).code rd c4_7 (mk 110 f m) st) (fun fr st => (run tb).code rd c4_8 fr st) := gx_seq e4_6
noncomputable def l4_7 : { l : List Step // lightOf o4_7 = l } := by refine ⟨?_, ?h⟩; case h => simp only [lightOf, o4_7, opsOf, kid, bodyOf, Tryd.f4, Option.getD_some, List.map, stepOf, Option.map, List.getElem?_toArray, List.getElem?_cons_succ, List.getElem?_cons_zero, Option.bind_some]; rfl
theorem g4_7 : (run tb).code rd c4_7 (mk 110 f m) st = regB (evSteps tb (run tb) l4_7.1 (mk 110 f m) st) := gx_region e4_7 l4_7.2
theorem g4_8 : (run tb).code rd c4_8 (mk 110 f m) st = some (.ret, mk 110 f m, st) := gx_ret e4_8
theorem g4_9 : (run tb).code rd c4_9 (mk 110 f m) st = some (.normal, mk 110 f m, st) := gx_skip e4_9
theorem g4_10 : (run tb).code rd c4_10 (mk 110 f m) st = andThen ((run tb).code rd c4_11 (mk 110 f m) st) (fun fr st => (run tb).code rd c4_18 fr st) := gx_seq e4_10
theorem g4_11 : (run tb).code rd c4_11 (mk 110 f m) st = andThen ((run tb).code rd c4_12 (mk 110 f m) st) (fun fr st => (run tb).code rd c4_13 fr st) := gx_seq e4_11
noncomputable def l4_12 : { l : List Step // lightOf o4_12 = l } := by refine ⟨?_, ?h⟩; case h => simp only [lightOf, o4_12, opsOf, kid, bodyOf, Tryd.f4, Option.getD_some, List.map, stepOf, Option.map, List.getElem?_toArray, List.getElem?_cons_succ, List.getElem?_cons_zero, Option.bind_some]; rfl
theorem g4_12 : (run tb).code rd c4_12 (mk 110 f m) st = regB (evSteps tb (run tb) l4_12.1 (mk 110 f m) st) := gx_region e4_12 l4_12.2
theorem g4_13 : (run tb).code rd c4_13 (mk 110 f m) st = branch (f 31) (fun x => (run tb).code rd (sel x c4_14 c4_17) (mk 110 f m) st) := gx_cond e4_13 (by decide)
theorem g4_14 : (run tb).code rd c4_14 (mk 110 f m) st = andThen ((run tb).code rd c4_15 (mk 110 f m) st) (fun fr st => (run tb).code rd c4_16 fr st) := gx_seq e4_14
noncomputable def l4_15 : { l : List Step // lightOf o4_15 = l } := by refine ⟨?_, ?h⟩; case h => simp only [lightOf, o4_15, opsOf, kid, bodyOf, Tryd.f4, Option.getD_some, List.map, stepOf, Option.map, List.getElem?_toArray, List.getElem?_cons_succ, List.getElem?_cons_zero, Option.bind_some]; rfl
theorem g4_15 : (run tb).code rd c4_15 (mk 110 f m) st = regB (evSteps tb (run tb) l4_15.1 (mk 110 f m) st) := gx_region e4_15 l4_15.2
theorem g4_16 : (run tb).code rd c4_16 (mk 110 f m) st = some (.ret, mk 110 f m, st) := gx_ret e4_16
theorem g4_17 : (run tb).code rd c4_17 (mk 110 f m) st = some (.normal, mk 110 f m, st) := gx_skip e4_17
theorem g4_18 : (run tb).code rd c4_18 (mk 110 f m) st = andThen ((run tb).code rd c4_19 (mk 110 f m) st) (fun fr st => (run tb).code rd c4_20 fr st) := gx_seq e4_18
noncomputable def l4_19 : { l : List Step // lightOf o4_19 = l } := by refine ⟨?_, ?h⟩; case h => simp only [lightOf, o4_19, opsOf, kid, bodyOf, Tryd.f4, Option.getD_some, List.map, stepOf, Option.map, List.getElem?_toArray, List.getElem?_cons_succ, List.getElem?_cons_zero, Option.bind_some]; rfl
theorem g4_19 : (run tb).code rd c4_19 (mk 110 f m) st = regB (evSteps tb (run tb) l4_19.1 (mk 110 f m) st) := gx_region e4_19 l4_19.2
theorem g4_20 : (run tb).code rd c4_20 (mk 110 f m) st = andThen ((run tb).code rd c4_21 (mk 110 f m) st) (fun fr st => (run tb).code rd c4_22 fr st) := gx_seq e4_20
noncomputable def l4_21 : { l : List Step // lightOf o4_21 = l } := by refine ⟨?_, ?h⟩; case h => simp only [lightOf, o4_21, opsOf, kid, bodyOf, Tryd.f4, Option.getD_some, List.map, stepOf, Option.map, List.getElem?_toArray, List.getElem?_cons_succ, List.getElem?_cons_zero, Option.bind_some]; rfl
theorem g4_21 : (run tb).code rd c4_21 (mk 110 f m) st = regB (evSteps tb (run tb) l4_21.1 (mk 110 f m) st) := gx_region e4_21 l4_21.2
theorem g4_22 : (run tb).code rd c4_22 (mk 110 f m) st = andThen ((run tb).code rd c4_23 (mk 110 f m) st) (fun fr st => (run tb).code rd c4_30 fr st) := gx_seq e4_22
theorem g4_23 : (run tb).code rd c4_23 (mk 110 f m) st = andThen ((run tb).code rd c4_24 (mk 110 f m) st) (fun fr st => (run tb).code rd c4_25 fr st) := gx_seq e4_23
noncomputable def l4_24 : { l : List Step // lightOf o4_24 = l } := by refine ⟨?_, ?h⟩; case h => simp only [lightOf, o4_24, opsOf, kid, bodyOf, Tryd.f4, Option.getD_some, List.map, stepOf, Option.map, List.getElem?_toArray, List.getElem?_cons_succ, List.getElem?_cons_zero, Option.bind_some]; rfl
theorem g4_24 : (run tb).code rd c4_24 (mk 110 f m) st = regB (evSteps tb (run tb) l4_24.1 (mk 110 f m) st) := gx_region e4_24 l4_24.2
theorem g4_25 : (run tb).code rd c4_25 (mk 110 f m) st = branch (f 43) (fun x => (run tb).code rd (sel x c4_26 c4_29) (mk 110 f m) st) := gx_cond e4_25 (by decide)
theorem g4_26 : (run tb).code rd c4_26 (mk 110 f m) st = andThen ((run tb).code rd c4_27 (mk 110 f m) st) (fun fr st => (run tb).code rd c4_28 fr st) := gx_seq e4_26
noncomputable def l4_27 : { l : List Step // lightOf o4_27 = l } := by refine ⟨?_, ?h⟩; case h => simp only [lightOf, o4_27, opsOf, kid, bodyOf, Tryd.f4, Option.getD_some, List.map, stepOf, Option.map, List.getElem?_toArray, List.getElem?_cons_succ, List.getElem?_cons_zero, Option.bind_some]; rfl
theorem g4_27 : (run tb).code rd c4_27 (mk 110 f m) st = regB (evSteps tb (run tb) l4_27.1 (mk 110 f m) st) := gx_region e4_27 l4_27.2
theorem g4_28 : (run tb).code rd c4_28 (mk 110 f m) st = some (.ret, mk 110 f m, st) := gx_ret e4_28
theorem g4_29 : (run tb).code rd c4_29 (mk 110 f m) st = some (.normal, mk 110 f m, st) := gx_skip e4_29
theorem g4_30 : (run tb).code rd c4_30 (mk 110 f m) st = andThen ((run tb).code rd c4_31 (mk 110 f m) st) (fun fr st => (run tb).code rd c4_32 fr st) := gx_seq e4_30
noncomputable def l4_31 : { l : List Step // lightOf o4_31 = l } := by refine ⟨?_, ?h⟩; case h => simp only [lightOf, o4_31, opsOf, kid, bodyOf, Tryd.f4, Option.getD_some, List.map, stepOf, Option.map, List.getElem?_toArray, List.getElem?_cons_succ, List.getElem?_cons_zero, Option.bind_some]; rfl
theorem g4_31 : (run tb).code rd c4_31 (mk 110 f m) st = regB (evSteps tb (run tb) l4_31.1 (mk 110 f m) st) := gx_region e4_31 l4_31.2
theorem g4_32 : (run tb).code rd c4_32 (mk 110 f m) st = andThen ((run tb).code rd c4_33 (mk 110 f m) st) (fun fr st => (run tb).code rd c4_34 fr st) := gx_seq e4_32
noncomputable def l4_33 : { l : List Step // lightOf o4_33 = l } := by refine ⟨?_, ?h⟩; case h => simp only [lightOf, o4_33, opsOf, kid, bodyOf, Tryd.f4, Option.getD_some, List.map, stepOf, Option.map, List.getElem?_toArray, List.getElem?_cons_succ, List.getElem?_cons_zero, Option.bind_some]; rfl
theorem g4_33 : (run tb).code rd c4_33 (mk 110 f m) st = regB (evSteps tb (run tb) l4_33.1 (mk 110 f m) st) := gx_region e4_33 l4_33.2
theorem g4_34 : (run tb).code rd c4_34 (mk 110 f m) st = andThen ((run tb).code rd c4_35 (mk 110 f m) st) (fun fr st => (run tb).code rd c4_51 fr st) := gx_seq e4_34
theorem g4_35 : (run tb).code rd c4_35 (mk 110 f m) st = andThen ((run tb).code rd c4_36 (mk 110 f m) st) (fun fr st => (run tb).code rd c4_37 fr st) := gx_seq e4_35
noncomputable def l4_36 : { l : List Step // lightOf o4_36 = l } := by refine ⟨?_, ?h⟩; case h => simp only [lightOf, o4_36, opsOf, kid, bodyOf, Tryd.f4, Option.getD_some, List.map, stepOf, Option.map, List.getElem?_toArray, List.getElem?_cons_succ, List.getElem?_cons_zero, Option.bind_some]; rfl
theorem g4_36 : (run tb).code rd c4_36 (mk 110 f m) st = regB (evSteps tb (run tb) l4_36.1 (mk 110 f m) st) := gx_region e4_36 l4_36.2
theorem g4_37 : (run tb).code rd c4_37 (mk 110 f m) st = closeB 0 ((run tb).code rd c4_38 (mk 110 f m) st) := gx_block e4_37
theorem g4_39 : (run tb).code rd c4_39 (mk 110 f m) st = andThen ((run tb).code rd c4_40 (mk 110 f m) st) (fun fr st => (run tb).code rd c4_45 fr st) := gx_seq e4_39
theorem g4_40 : (run tb).code rd c4_40 (mk 110 f m) st = andThen ((run tb).code rd c4_41 (mk 110 f m) st) (fun fr st => (run tb).code rd c4_42 fr st) := gx_seq e4_40
noncomputable def l4_41 : { l : List Step // lightOf o4_41 = l } := by refine ⟨?_, ?h⟩; case h => simp only [lightOf, o4_41, opsOf, kid, bodyOf, Tryd.f4, Option.getD_some, List.map, stepOf, Option.map, List.getElem?_toArray, List.getElem?_cons_succ, List.getElem?_cons_zero, Option.bind_some]; rfl
theorem g4_41 : (run tb).code rd c4_41 (mk 110 f m) st = regB (evSteps tb (run tb) l4_41.1 (mk 110 f m) st) := gx_region e4_41 l4_41.2
theorem g4_42 : (run tb).code rd c4_42 (mk 110 f m) st = branch (f 45) (fun x => (run tb).code rd (sel x c4_43 c4_44) (mk 110 f m) st) := gx_cond e4_42 (by decide)
theorem g4_43 : (run tb).code rd c4_43 (mk 110 f m) st = some (.normal, mk 110 f m, st) := gx_skip e4_43
theorem g4_44 : (run tb).code rd c4_44 (mk 110 f m) st = some (.exit 0, mk 110 f m, st) := gx_exit e4_44
theorem g4_45 : (run tb).code rd c4_45 (mk 110 f m) st = andThen ((run tb).code rd c4_46 (mk 110 f m) st) (fun fr st => (run tb).code rd c4_50 fr st) := gx_seq e4_45
theorem g4_46 : (run tb).code rd c4_46 (mk 110 f m) st = closeB 1 ((run tb).code rd c4_47 (mk 110 f m) st) := gx_block e4_46
theorem g4_47 : (run tb).code rd c4_47 (mk 110 f m) st = andThen ((run tb).code rd c4_48 (mk 110 f m) st) (fun fr st => (run tb).code rd c4_49 fr st) := gx_seq e4_47
noncomputable def l4_48 : { l : List Step // lightOf o4_48 = l } := by refine ⟨?_, ?h⟩; case h => simp only [lightOf, o4_48, opsOf, kid, bodyOf, Tryd.f4, Option.getD_some, List.map, stepOf, Option.map, List.getElem?_toArray, List.getElem?_cons_succ, List.getElem?_cons_zero, Option.bind_some]; rfl
theorem g4_48 : (run tb).code rd c4_48 (mk 110 f m) st = regB (evSteps tb (run tb) l4_48.1 (mk 110 f m) st) := gx_region e4_48 l4_48.2
noncomputable def l4_49 : { l : List Step // lightOf o4_49 = l } := by refine ⟨?_, ?h⟩; case h => simp only [lightOf, o4_49, opsOf, kid, bodyOf, Tryd.f4, Option.getD_some, List.map, stepOf, Option.map, List.getElem?_toArray, List.getElem?_cons_succ, List.getElem?_cons_zero, Option.bind_some]; rfl
theorem g4_49 : (run tb).code rd c4_49 (mk 110 f m) st = regB (evSteps tb (run tb) l4_49.1 (mk 110 f m) st) := gx_region e4_49 l4_49.2
noncomputable def l4_50 : { l : List Step // lightOf o4_50 = l } := by refine ⟨?_, ?h⟩; case h => simp only [lightOf, o4_50, opsOf, kid, bodyOf, Tryd.f4, Option.getD_some, List.map, stepOf, Option.map, List.getElem?_toArray, List.getElem?_cons_succ, List.getElem?_cons_zero, Option.bind_some]; rfl
theorem g4_50 : (run tb).code rd c4_50 (mk 110 f m) st = regB (evSteps tb (run tb) l4_50.1 (mk 110 f m) st) := gx_region e4_50 l4_50.2
theorem g4_51 : (run tb).code rd c4_51 (mk 110 f m) st = andThen ((run tb).code rd c4_52 (mk 110 f m) st) (fun fr st => (run tb).code rd c4_53 fr st) := gx_seq e4_51
noncomputable def l4_52 : { l : List Step // lightOf o4_52 = l } := by refine ⟨?_, ?h⟩; case h => simp only [lightOf, o4_52, opsOf, kid, bodyOf, Tryd.f4, Option.getD_some, List.map, stepOf, Option.map, List.getElem?_toArray, List.getElem?_cons_succ, List.getElem?_cons_zero, Option.bind_some]; rfl
theorem g4_52 : (run tb).code rd c4_52 (mk 110 f m) st = regB (evSteps tb (run tb) l4_52.1 (mk 110 f m) st) := gx_region e4_52 l4_52.2
theorem g4_53 : (run tb).code rd c4_53 (mk 110 f m) st = some (.ret, mk 110 f m, st) := gx_ret e4_53
end Go.Proofs.YtgknieohkniojaaDoor
namespace Go.Proofs.YtgknieohkniojaaDoor
open Go.Abs
set_option maxRecDepth 100000
set_option linter.unusedSimpArgs false
set_option linter.unusedVariables false
set_option maxHeartbeats 4000000
theorem inS_nat' (S : Nat → Bool) (k : Nat) : inS S (k : Int) = S k := by simp [inS]
theorem Grows.ok {st st' : St} (h : okSt st) (g : Grows st st') : okSt st' := ⟨by rw [g.base]; exact Nat.le_trans h.1 g.len, fun r hr => by rw [g.prot] at hr; exact Nat.lt_of_lt_of_le (h.2 r hr) g.len⟩
theorem newSt_grows (st : St) (b : Nat) (S : Nat → Bool) : Grows st (newSt st b S) := (Grows.refl st).app _
theorem wd_iff {M a b : Nat} {S S' : Nat → Bool} (hM : max (nw a) (nw b) = M) (hz : ∀ i, a ≤ i → S i = false) (hz' : ∀ i, b ≤ i → S' i = false) : (∀ k, k < M → (wd S k == wd S' k) = true) ↔ ∀ i, S i = S' i := by
  constructor
  · intro h i
    by_cases hi : i / 64 < M
    · have h1 := h _ hi
      simp only [beq_iff_eq] at h1
      have h2 : (wd S (i / 64)).testBit (i % 64) = (wd S' (i / 64)).testBit (i % 64) := by rw [h1]
      rw [wd_testBit, wd_testBit] at h2
      have e : 64 * (i / 64) + i % 64 = i := by omega
      rw [e] at h2
      simpa [Nat.mod_lt] using h2
    · rw [hz i (by unfold nw at hM; omega), hz' i (by unfold nw at hM; omega)]
  · intro h k _
    simp only [beq_iff_eq]
    exact wd_eq fun j _ => h _
theorem wd_apart {M a b : Nat} {S S' : Nat → Bool} (hM : max (nw a) (nw b) = M) (hz : ∀ i, a ≤ i → S i = false) (hz' : ∀ i, b ≤ i → S' i = false) : (∀ k, k < M → ((wd S k &&& wd S' k) == 0) = true) ↔ ∀ i, (S i && S' i) = false := by
  constructor
  · intro h i
    by_cases hi : i / 64 < M
    · have h1 := h _ hi
      simp only [beq_iff_eq] at h1
      have h2 : (wd S (i / 64) &&& wd S' (i / 64)).testBit (i % 64) = false := by rw [h1]; simp
      rw [Nat.testBit_and, wd_testBit, wd_testBit] at h2
      have e : 64 * (i / 64) + i % 64 = i := by omega
      rw [e] at h2
      simpa [Nat.mod_lt] using h2
    · rw [hz i (by unfold nw at hM; omega)]; rfl
  · intro h k _
    simp only [beq_iff_eq]
    apply eq_of_bits64 (Nat.lt_of_le_of_lt Nat.and_le_left (wd_lt _ _)) (by decide)
    intro j hj
    rw [Nat.testBit_and, wd_testBit, wd_testBit]
    have := h (64 * k + j)
    simp [hj, this]
theorem same_eq (st : St) (hok : okSt st) (ra rb rva rvb ma mb : Nat) (S S' : Nat → Bool) (hA : SetAt st ra rva ma S) (hB : SetAt st rb rvb mb S') (c : Bool) (hc : c = true ↔ ∀ i, S i = S' i) :
    ∃ st', (run tb).call 22 [.ptr ra 0, .ptr rb 0] st = some (.bool c, st') ∧ Grows st st' := by
  have h := same_calls st hok ra rb rva rvb ma mb _ S S' hA hB rfl (Q := fun v st' => v = .bool c ∧ Grows st st') (fun c' st4 hg h => ⟨by
    have h' : c' = true ↔ c = true := by rw [h, hc]; exact wd_iff rfl hA.hz hB.hz
    cases c <;> cases c' <;> simp_all, hg⟩)
  obtain ⟨v, st', h1, rfl, h3⟩ := h
  exact ⟨st', h1, h3⟩
theorem apart_eq (st : St) (hok : okSt st) (ra rb rva rvb ma mb : Nat) (S S' : Nat → Bool) (hA : SetAt st ra rva ma S) (hB : SetAt st rb rvb mb S') (c : Bool) (hc : c = true ↔ ∀ i, (S i && S' i) = false) :
    ∃ st', (run tb).call 23 [.ptr ra 0, .ptr rb 0] st = some (.bool c, st') ∧ Grows st st' := by
  have h := apart_calls st hok ra rb rva rvb ma mb _ S S' hA hB rfl (Q := fun v st' => v = .bool c ∧ Grows st st') (fun c' st4 hg h => ⟨by
    have h' : c' = true ↔ c = true := by rw [h, hc]; exact wd_apart rfl hA.hz hB.hz
    cases c <;> cases c' <;> simp_all, hg⟩)
  obtain ⟨v, st', h1, rfl, h3⟩ := h
  exact ⟨st', h1, h3⟩
def allB (p : Nat → Bool) : Nat → Bool
  | 0 => true
  | n + 1 => allB p n && p n
theorem allB_iff (p : Nat → Bool) : ∀ n, allB p n = true ↔ ∀ i, i < n → p i = true
  | 0 => by simp [allB]
  | n + 1 => by
    simp only [allB, Bool.and_eq_true, allB_iff p n]
    constructor
    · rintro ⟨h1, h2⟩ i hi
      by_cases e : i = n
      · subst e; exact h2
      · exact h1 i (by omega)
    · intro h; exact ⟨fun i hi => h i (by omega), h n (by omega)⟩
theorem two_step (ra rb i i1 : Nat) (c1 c2 s t : Bool) (st : St) (f : Nat → V) (hi : (i : Int) ≤ 1000) (hn : intBin .add .i64 (i : Nat) 1 = some (.int .i64 (i1 : Nat)))
    (hA : (run tb).call 19 [.ptr ra 0, .int .i64 (i : Nat)] st = some (.bool s, st)) (hB : (run tb).call 19 [.ptr rb 0, .int .i64 (i : Nat)] st = some (.bool t, st))
    (h9 : f 9 = .ptr ra 0) (h10 : f 10 = .ptr rb 0) (h11 : f 11 = .bool c1) (h12 : f 12 = .bool c2) (h13 : f 13 = .int .i64 (i : Nat)) {Q : E → (Nat → V) → St → Prop}
    (next : ∀ f', f' 9 = .ptr ra 0 → f' 10 = .ptr rb 0 → f' 11 = .bool (c1 && (s == t)) → f' 12 = .bool (c2 && !(s && t)) → f' 13 = .int .i64 (i1 : Nat) → Out 110 [] Q ((run tb).code none c4_38 (mk 110 f' []) st)) :
    Out 110 [] Q ((run tb).code none c4_38 (mk 110 f []) st) := by
  rw [go_loop_of e4_38]
  cases c1 <;> cases c2 <;> cases s <;> cases t
  all_goals
    simp [g4_39, g4_40, g4_41, g4_42, g4_43, g4_44, g4_45, g4_46, g4_47, g4_48, g4_49, g4_50, l4_41, l4_48, l4_49, l4_50, steps_nil, steps_cons, draws_nil, draws_cons, step_mk, stepB_some, stepB_none, memB_mk, thenS_some, regB_some, branch_bool, sel_true, sel_false, wanted_none, wanted_some, asB, mk_put, mk_put_none, arg_tmp, arg_const, arg_func, arg_global, upd_same, upd_ne, evPure, evArgs, m_load, m_store, m_alloc, m_box, m_call, m_lookup, m_mapUpdate, m_inv, evLoad, readCells, evFieldAddr, evIndexAddr, asIdx, ofValue, isPure, evBin, ib_lss, ib_leq, ib_gtr, ib_geq, ib_eql, ib_neq, evUn, leave_normal, leave_ret, finish, then_normal, then_exit, then_ret, close_normal, close_exit, close_ret, evConv, mk_marks, dropMarks, resOf, resList, mk_getD, argF, List.getD_cons_zero, List.getD_cons_succ, V.cells, evLen, kdOp, kdOf, readsOf, protS, eq_bool, eq_nil28, evStore, V.oneCell, putElem, splice, -List.getD_eq_getElem?_getD, -getElem?_pos, und55, und53, und22, size3, size53, size58, size22, ty3, ty4, ty53, ty58, ty22, h9, h10, h11, h12, h13, hA, hB, hi, hn]
    refine next _ ?_ ?_ ?_ ?_ ?_
    all_goals simp [upd_same, upd_ne, h9, h10, h11, h12]
theorem two_loop (ra rb rva rvb a b : Nat) (S S' : Nat → Bool) (st : St) (hA : SetAt st ra rva a S) (hB : SetAt st rb rvb b S') : ∀ (d i : Nat) (f : Nat → V), i + d = 1001 → f 9 = .ptr ra 0 → f 10 = .ptr rb 0 → f 11 = .bool (allB (fun i => S i == S' i) i) → f 12 = .bool (allB (fun i => !(S i && S' i)) i) → f 13 = .int .i64 (i : Nat) →
    Out 110 [] (fun e f' st' => e = .exit 0 ∧ st' = st ∧ f' 9 = .ptr ra 0 ∧ f' 10 = .ptr rb 0 ∧ f' 11 = .bool (allB (fun i => S i == S' i) 1001) ∧ f' 12 = .bool (allB (fun i => !(S i && S' i)) 1001)) ((run tb).code none c4_38 (mk 110 f []) st)
  | 0, i, f, hi, h9, h10, h11, h12, h13 => by
    have hi : i = 1001 := hi
    subst hi
    generalize allB (fun i => S i == S' i) 1001 = x1 at *
    generalize allB (fun i => !(S i && S' i)) 1001 = x2 at *
    rw [go_loop_of e4_38]
    simp [g4_39, g4_40, g4_41, g4_42, g4_43, g4_44, g4_45, g4_46, g4_47, g4_48, g4_49, g4_50, l4_41, l4_48, l4_49, l4_50, steps_nil, steps_cons, draws_nil, draws_cons, step_mk, stepB_some, stepB_none, memB_mk, thenS_some, regB_some, branch_bool, sel_true, sel_false, wanted_none, wanted_some, asB, mk_put, mk_put_none, arg_tmp, arg_const, arg_func, arg_global, upd_same, upd_ne, evPure, evArgs, m_load, m_store, m_alloc, m_box, m_call, m_lookup, m_mapUpdate, m_inv, evLoad, readCells, evFieldAddr, evIndexAddr, asIdx, ofValue, isPure, evBin, ib_lss, ib_leq, ib_gtr, ib_geq, ib_eql, ib_neq, evUn, leave_normal, leave_ret, finish, then_normal, then_exit, then_ret, close_normal, close_exit, close_ret, evConv, mk_marks, dropMarks, resOf, resList, mk_getD, argF, List.getD_cons_zero, List.getD_cons_succ, V.cells, evLen, kdOp, kdOf, readsOf, protS, eq_bool, eq_nil28, evStore, V.oneCell, putElem, splice, -List.getD_eq_getElem?_getD, -getElem?_pos, und55, und53, und22, size3, size53, size58, size22, ty3, ty4, ty53, ty58, ty22, h9, h10, h13]
    exact .one ⟨rfl, rfl, by simp [upd_ne, h9], by simp [upd_ne, h10], by simp [upd_ne, h11], by simp [upd_ne, h12]⟩
  | d + 1, i, f, hi, h9, h10, h11, h12, h13 => by
    have hA' := has_run st ra rva a S i hA
    have hB' := has_run st rb rvb b S' i hB
    rw [inS_nat'] at hA' hB'
    have hn : intBin .add .i64 (i : Nat) 1 = some (.int .i64 ((i + 1 : Nat) : Int)) := by rw [add64 (by omega) (by omega)]; simp
    exact two_step ra rb i (i + 1) _ _ _ _ st f (by omega) hn hA' hB' h9 h10 h11 h12 h13 (fun f' q9 q10 q11 q12 q13 => two_loop ra rb rva rvb a b S S' st hA hB d (i + 1) f' (by omega) q9 q10 q11 q12 q13)
theorem cnt_zero {S : Nat → Bool} : ∀ {n : Nat}, cnt S n = 0 → ∀ i, i < n → S i = false
  | 0, _, i, hi => absurd hi (Nat.not_lt_zero _)
  | n + 1, h, i, hi => by
    simp only [cnt] at h
    by_cases e : i = n
    · subst e
      cases hs : S i with
      | false => rfl
      | true => rw [hs] at h; simp at h
    · have h' : cnt S n = 0 := by omega
      exact cnt_zero h' i (by omega)
/-- The last comparison. -/
theorem two_end (ra rb : Nat) (c1 c2 c3 : Bool) (n : Nat) (st s1 s2 s3 s4 s5 s6 : St) (f : Nat → V) (hn : ((n : Int) == 0) = c3)
    (h1 : (run tb).call 22 [.ptr ra 0, .ptr rb 0] st = some (.bool c1, s1)) (h2 : (run tb).call 22 [.ptr rb 0, .ptr ra 0] s1 = some (.bool c1, s2)) (h3 : (run tb).call 23 [.ptr ra 0, .ptr rb 0] s2 = some (.bool c2, s3)) (h4 : (run tb).call 23 [.ptr rb 0, .ptr ra 0] s3 = some (.bool c2, s4))
    (h5 : (run tb).call 22 [.ptr ra 0, .ptr ra 0] s4 = some (.bool true, s5)) (h6 : (run tb).call 23 [.ptr ra 0, .ptr ra 0] s5 = some (.bool c3, s6)) (h7 : (run tb).call 16 [.ptr ra 0] s6 = some (.int .i64 (n : Nat), s6))
    (q9 : f 9 = .ptr ra 0) (q10 : f 10 = .ptr rb 0) (q11 : f 11 = .bool c1) (q12 : f 12 = .bool c2) : leave tb [.tmp 8] ((run tb).code none c4_51 (mk 110 f []) st) = some (.bool true, s6) := by
  simp [g4_51, g4_52, g4_53, l4_52, steps_nil, steps_cons, draws_nil, draws_cons, step_mk, stepB_some, stepB_none, memB_mk, thenS_some, regB_some, branch_bool, sel_true, sel_false, wanted_none, wanted_some, asB, mk_put, mk_put_none, arg_tmp, arg_const, arg_func, arg_global, upd_same, upd_ne, evPure, evArgs, m_load, m_store, m_alloc, m_box, m_call, m_lookup, m_mapUpdate, m_inv, evLoad, readCells, evFieldAddr, evIndexAddr, asIdx, ofValue, isPure, evBin, ib_lss, ib_leq, ib_gtr, ib_geq, ib_eql, ib_neq, evUn, leave_normal, leave_ret, finish, then_normal, then_exit, then_ret, close_normal, close_exit, close_ret, evConv, mk_marks, dropMarks, resOf, resList, mk_getD, argF, List.getD_cons_zero, List.getD_cons_succ, V.cells, evLen, kdOp, kdOf, readsOf, protS, eq_bool, eq_nil28, evStore, V.oneCell, putElem, splice, -List.getD_eq_getElem?_getD, -getElem?_pos, und55, und53, und22, size3, size53, size58, size22, ty3, ty4, ty53, ty58, ty22, q9, q10, q11, q12, h1, h2, h3, h4, h5, h6, h7, hn]
theorem two_run (a0 b0 : Int) (nx ny : Bool) (xs ys : List Int) : ∃ st', (run tb).call 4 [.int .i64 a0, .int .i64 b0, .list false (some nx) (ints xs), .list false (some ny) (ints ys)] st0 = some (.bool true, st') := by
  obtain ⟨sa, ha, hb0, hp0⟩ := alive_st
  have ha := run_call_of ha
  have hok : okSt sa := ⟨by omega, by rw [hp0]; simp⟩
  rw [run4 (by simp)]
  by_cases g1 : a0 > 1000
  · refine ⟨sa, ?_⟩
    simp [g4_0, g4_1, g4_2, g4_3, g4_4, g4_5, g4_6, g4_7, g4_8, g4_9, g4_10, g4_11, g4_12, g4_13, g4_14, g4_15, g4_16, g4_17, l4_1, l4_4, l4_7, l4_12, l4_15, steps_nil, steps_cons, draws_nil, draws_cons, step_mk, stepB_some, stepB_none, memB_mk, thenS_some, regB_some, branch_bool, sel_true, sel_false, wanted_none, wanted_some, asB, mk_put, mk_put_none, arg_tmp, arg_const, arg_func, arg_global, upd_same, upd_ne, evPure, evArgs, m_load, m_store, m_alloc, m_box, m_call, m_lookup, m_mapUpdate, m_inv, evLoad, readCells, evFieldAddr, evIndexAddr, asIdx, ofValue, isPure, evBin, ib_lss, ib_leq, ib_gtr, ib_geq, ib_eql, ib_neq, evUn, leave_normal, leave_ret, finish, then_normal, then_exit, then_ret, close_normal, close_exit, close_ret, evConv, mk_marks, dropMarks, resOf, resList, mk_getD, argF, List.getD_cons_zero, List.getD_cons_succ, V.cells, evLen, kdOp, kdOf, readsOf, protS, eq_bool, eq_nil28, evStore, V.oneCell, putElem, splice, -List.getD_eq_getElem?_getD, -getElem?_pos, und55, und53, und22, size3, size53, size58, size22, ty3, ty4, ty53, ty58, ty22, ha, g1, ints_len]
  · by_cases g2 : b0 > 1000
    · refine ⟨sa, ?_⟩
      simp [g4_0, g4_1, g4_2, g4_3, g4_4, g4_5, g4_6, g4_7, g4_8, g4_9, g4_10, g4_11, g4_12, g4_13, g4_14, g4_15, g4_16, g4_17, l4_1, l4_4, l4_7, l4_12, l4_15, steps_nil, steps_cons, draws_nil, draws_cons, step_mk, stepB_some, stepB_none, memB_mk, thenS_some, regB_some, branch_bool, sel_true, sel_false, wanted_none, wanted_some, asB, mk_put, mk_put_none, arg_tmp, arg_const, arg_func, arg_global, upd_same, upd_ne, evPure, evArgs, m_load, m_store, m_alloc, m_box, m_call, m_lookup, m_mapUpdate, m_inv, evLoad, readCells, evFieldAddr, evIndexAddr, asIdx, ofValue, isPure, evBin, ib_lss, ib_leq, ib_gtr, ib_geq, ib_eql, ib_neq, evUn, leave_normal, leave_ret, finish, then_normal, then_exit, then_ret, close_normal, close_exit, close_ret, evConv, mk_marks, dropMarks, resOf, resList, mk_getD, argF, List.getD_cons_zero, List.getD_cons_succ, V.cells, evLen, kdOp, kdOf, readsOf, protS, eq_bool, eq_nil28, evStore, V.oneCell, putElem, splice, -List.getD_eq_getElem?_getD, -getElem?_pos, und55, und53, und22, size3, size53, size58, size22, ty3, ty4, ty53, ty58, ty22, ha, g1, g2, ints_len]
    · by_cases g3 : xs.length > 60
      · refine ⟨sa, ?_⟩
        have g3' : (60 : Int) < (xs.length : Int) := by omega
        simp [g4_0, g4_1, g4_2, g4_3, g4_4, g4_5, g4_6, g4_7, g4_8, g4_9, g4_10, g4_11, g4_12, g4_13, g4_14, g4_15, g4_16, g4_17, l4_1, l4_4, l4_7, l4_12, l4_15, steps_nil, steps_cons, draws_nil, draws_cons, step_mk, stepB_some, stepB_none, memB_mk, thenS_some, regB_some, branch_bool, sel_true, sel_false, wanted_none, wanted_some, asB, mk_put, mk_put_none, arg_tmp, arg_const, arg_func, arg_global, upd_same, upd_ne, evPure, evArgs, m_load, m_store, m_alloc, m_box, m_call, m_lookup, m_mapUpdate, m_inv, evLoad, readCells, evFieldAddr, evIndexAddr, asIdx, ofValue, isPure, evBin, ib_lss, ib_leq, ib_gtr, ib_geq, ib_eql, ib_neq, evUn, leave_normal, leave_ret, finish, then_normal, then_exit, then_ret, close_normal, close_exit, close_ret, evConv, mk_marks, dropMarks, resOf, resList, mk_getD, argF, List.getD_cons_zero, List.getD_cons_succ, V.cells, evLen, kdOp, kdOf, readsOf, protS, eq_bool, eq_nil28, evStore, V.oneCell, putElem, splice, -List.getD_eq_getElem?_getD, -getElem?_pos, und55, und53, und22, size3, size53, size58, size22, ty3, ty4, ty53, ty58, ty22, ha, g1, g2, g3', ints_len]
      · have g3' : ¬ (60 : Int) < (xs.length : Int) := by omega
        by_cases g4 : ys.length > 60
        · refine ⟨sa, ?_⟩
          have g4' : (60 : Int) < (ys.length : Int) := by omega
          simp [g4_0, g4_1, g4_2, g4_3, g4_4, g4_5, g4_6, g4_7, g4_8, g4_9, g4_10, g4_11, g4_12, g4_13, g4_14, g4_15, g4_16, g4_17, l4_1, l4_4, l4_7, l4_12, l4_15, steps_nil, steps_cons, draws_nil, draws_cons, step_mk, stepB_some, stepB_none, memB_mk, thenS_some, regB_some, branch_bool, sel_true, sel_false, wanted_none, wanted_some, asB, mk_put, mk_put_none, arg_tmp, arg_const, arg_func, arg_global, upd_same, upd_ne, evPure, evArgs, m_load, m_store, m_alloc, m_box, m_call, m_lookup, m_mapUpdate, m_inv, evLoad, readCells, evFieldAddr, evIndexAddr, asIdx, ofValue, isPure, evBin, ib_lss, ib_leq, ib_gtr, ib_geq, ib_eql, ib_neq, evUn, leave_normal, leave_ret, finish, then_normal, then_exit, then_ret, close_normal, close_exit, close_ret, evConv, mk_marks, dropMarks, resOf, resList, mk_getD, argF, List.getD_cons_zero, List.getD_cons_succ, V.cells, evLen, kdOp, kdOf, readsOf, protS, eq_bool, eq_nil28, evStore, V.oneCell, putElem, splice, -List.getD_eq_getElem?_getD, -getElem?_pos, und55, und53, und22, size3, size53, size58, size22, ty3, ty4, ty53, ty58, ty22, ha, g1, g2, g3', g4', ints_len]
        · have g4' : ¬ (60 : Int) < (ys.length : Int) := by omega
          obtain ⟨a, hca⟩ : ∃ a : Nat, max 0 (min a0 65536) = (a : Int) := ⟨(max 0 (min a0 65536)).toNat, by omega⟩
          obtain ⟨b, hcb⟩ : ∃ b : Nat, max 0 (min b0 65536) = (b : Int) := ⟨(max 0 (min b0 65536)).toNat, by omega⟩
          have hn1 := new_run sa a0 a false (some nx) xs (by omega) hok hca
          have hzS := addAll_z (b := a) xs (S := emptyS) (fun _ _ => rfl)
          have hzT := addAll_z (b := b) ys (S := emptyS) (fun _ _ => rfl)
          generalize addAll a emptyS xs = S at *
          have hA1 := newSt_set (st := sa) (b := a) (S := S) (by omega) hzS
          have hok1 := Grows.ok hok (newSt_grows sa a S)
          generalize newSt sa a S = s1 at *
          have hn2 := new_run s1 b0 b false (some ny) ys (by omega) hok1 hcb
          generalize addAll b emptyS ys = U at *
          have hB := newSt_set (st := s1) (b := b) (S := U) (by omega) hzT
          have hg2 := newSt_grows s1 b U
          have hok2 := Grows.ok hok1 hg2
          have hA := hA1.grow hg2
          generalize newSt s1 b U = s2 at *
          generalize sa.store.length = L1 at *
          generalize s1.store.length = L2 at *
          simp [g4_0, g4_1, g4_2, g4_3, g4_4, g4_5, g4_6, g4_7, g4_8, g4_9, g4_10, g4_11, g4_12, g4_13, g4_14, g4_15, g4_16, g4_17, g4_18, g4_19, g4_20, g4_21, g4_22, g4_23, g4_24, g4_25, g4_26, g4_27, g4_28, g4_29, g4_30, g4_31, g4_32, g4_33, g4_34, g4_35, g4_36, g4_37, l4_1, l4_4, l4_7, l4_12, l4_15, l4_19, l4_21, l4_24, l4_27, l4_31, l4_33, l4_36, steps_nil, steps_cons, draws_nil, draws_cons, step_mk, stepB_some, stepB_none, memB_mk, thenS_some, regB_some, branch_bool, sel_true, sel_false, wanted_none, wanted_some, asB, mk_put, mk_put_none, arg_tmp, arg_const, arg_func, arg_global, upd_same, upd_ne, evPure, evArgs, m_load, m_store, m_alloc, m_box, m_call, m_lookup, m_mapUpdate, m_inv, evLoad, readCells, evFieldAddr, evIndexAddr, asIdx, ofValue, isPure, evBin, ib_lss, ib_leq, ib_gtr, ib_geq, ib_eql, ib_neq, evUn, leave_normal, leave_ret, finish, then_normal, then_exit, then_ret, close_normal, close_exit, close_ret, evConv, mk_marks, dropMarks, resOf, resList, mk_getD, argF, List.getD_cons_zero, List.getD_cons_succ, V.cells, evLen, kdOp, kdOf, readsOf, protS, eq_bool, eq_nil28, evStore, V.oneCell, putElem, splice, -List.getD_eq_getElem?_getD, -getElem?_pos, und55, und53, und22, size3, size53, size58, size22, ty3, ty4, ty53, ty58, ty22, ha, g1, g2, g3', g4', ints_len, hn1, hn2]
          refine Out.use (C := fun o => ∃ st', leave tb _ (andThen (closeB 0 o) _) = some (.bool true, st')) (two_loop (L1 + 1) (L2 + 1) L1 L2 a b S U s2 hA hB 1001 0 _ (by omega) ?_ ?_ ?_ ?_ ?_) ?_
          · simp [upd_same, upd_ne]
          · simp [upd_same, upd_ne]
          · simp [upd_same, upd_ne, allB]
          · simp [upd_same, upd_ne, allB]
          · simp [upd_same, upd_ne]
          · rintro e f st' ⟨rfl, rfl, q9, q10, q11, q12⟩
            have e1 : allB (fun i => S i == U i) 1001 = true ↔ ∀ i, S i = U i := by
              rw [allB_iff]
              constructor
              · intro h i
                by_cases hi : i < 1001
                · simpa using h i hi
                · rw [hA.hz i (by omega), hB.hz i (by omega)]
              · intro h i _; simp [h i]
            have e2 : allB (fun i => !(S i && U i)) 1001 = true ↔ ∀ i, (S i && U i) = false := by
              rw [allB_iff]
              constructor
              · intro h i
                by_cases hi : i < 1001
                · have := h i hi
                  cases hs : S i <;> cases hu : U i <;> simp_all
                · rw [hA.hz i (by omega)]; rfl
              · intro h i _; simp [h i]
            generalize allB (fun i => S i == U i) 1001 = c1 at *
            generalize allB (fun i => !(S i && U i)) 1001 = c2 at *
            obtain ⟨t1, k1, w1⟩ := same_eq _ hok2 _ _ _ _ _ _ S U hA hB c1 e1
            have hA := hA.grow w1; have hB := hB.grow w1; have hok2 := Grows.ok hok2 w1
            obtain ⟨t2, k2, w2⟩ := same_eq _ hok2 _ _ _ _ _ _ U S hB hA c1 (e1.trans ⟨fun h i => (h i).symm, fun h i => (h i).symm⟩)
            have hA := hA.grow w2; have hB := hB.grow w2; have hok2 := Grows.ok hok2 w2
            obtain ⟨t3, k3, w3⟩ := apart_eq _ hok2 _ _ _ _ _ _ S U hA hB c2 e2
            have hA := hA.grow w3; have hB := hB.grow w3; have hok2 := Grows.ok hok2 w3
            obtain ⟨t4, k4, w4⟩ := apart_eq _ hok2 _ _ _ _ _ _ U S hB hA c2 (e2.trans ⟨fun h i => by rw [Bool.and_comm]; exact h i, fun h i => by rw [Bool.and_comm]; exact h i⟩)
            have hA := hA.grow w4; have hB := hB.grow w4; have hok2 := Grows.ok hok2 w4
            obtain ⟨t5, k5, w5⟩ := same_eq _ hok2 _ _ _ _ _ _ S S hA hA true (by simp)
            have hA := hA.grow w5; have hB := hB.grow w5; have hok2 := Grows.ok hok2 w5
            obtain ⟨t6, k6, w6⟩ := apart_eq _ hok2 _ _ _ _ _ _ S S hA hA ((cnt S a : Int) == 0) (by
              simp only [beq_iff_eq, Bool.and_self]
              constructor
              · intro h i
                by_cases hi : i < a
                · have := cnt_zero (S := S) (n := a) (by omega) i hi
                  exact this
                · exact hA.hz i (by omega)
              · intro h
                have : cnt S a = cnt S 0 := cnt_none (n := 0) (fun i _ => h i) (by omega)
                rw [this]; rfl)
            have hA := hA.grow w6
            have k7 := len_run t6 _ _ _ S hA
            refine ⟨t6, ?_⟩
            simp only [close_exit, if_true, then_normal]
            exact two_end _ _ c1 c2 _ (cnt S a) _ t1 t2 t3 t4 t5 t6 f rfl k1 k2 k3 k4 k5 k6 k7 q9 q10 q11 q12
end Go.Proofs.YtgknieohkniojaaDoor
namespace Go.Proofs.YtgknieohkniojaaDoor
open Go Go.Abs Go.ChangeShapes Go.WideShapes Go.RowKit
set_option maxRecDepth 100000
theorem two_args (xs : List V) (hl : xs.length = Tryd.f4.params.toList.length) (hs : ∀ (j : Nat) t x, Tryd.f4.params.toList[j]? = some t → xs[j]? = some x → ∃ n, Shaped Tryd.prog n t x) : ∃ st', (run tb).call 4 xs st0 = some (.bool true, st') := by
  rw [Tryd.params4] at hl hs
  obtain ⟨x0, x1, x2, x3, rfl⟩ : ∃ x0 x1 x2 x3, xs = [x0, x1, x2, x3] := by
    rcases xs with _ | ⟨x0, _ | ⟨x1, _ | ⟨x2, _ | ⟨x3, _ | ⟨z, r⟩⟩⟩⟩⟩
    · simp at hl
    · simp at hl
    · simp at hl
    · simp at hl
    · exact ⟨x0, x1, x2, x3, rfl⟩
    · simp at hl
  obtain ⟨n0, h0⟩ := hs 0 3 x0 rfl rfl
  obtain ⟨n1, h1⟩ := hs 1 3 x1 rfl rfl
  obtain ⟨n2, h2⟩ := hs 2 22 x2 rfl rfl
  obtain ⟨n3, h3⟩ := hs 3 22 x3 rfl rfl
  obtain ⟨i0, rfl, b0⟩ := shaped_int Tryd.underlying3 h0
  obtain ⟨i1, rfl, b1⟩ := shaped_int Tryd.underlying3 h1
  obtain ⟨nl2, is2, rfl, l2, b2⟩ := shaped_ints Tryd.underlying22 Tryd.underlying3 h2
  obtain ⟨nl3, is3, rfl, l3, b3⟩ := shaped_ints Tryd.underlying22 Tryd.underlying3 h3
  exact two_run i0 i1 nl2 nl3 is2 is3
theorem two_lifted (os : Os) (started : os.Started) (H : Type) (enc : TypeId × Value → H) :
    ReturnsInHanded {} Tryd.checked os 4 .any (fun w args => (Rows.bitsTwoSpec.pre enc Tryd.prog Tryd.f4 [] false w args ∧ laidMetH Tryd.prog Rows.bitsTwoRow.laid w) ∧ sizedMet enc Tryd.prog Tryd.f4 (OpenSpec.ofChange Rows.bitsTwoSpec) false w args)
      (Rows.bitsTwoSpec.post enc Tryd.prog Tryd.f4 false true false false) :=
  lifted (C := Tryd.checked) tb_fits Tryd.laidOut Tryd.own started (fun W h => glob_ok h) (by kernel_rfl) Tryd.func4 rfl Tryd.underlying4 rfl [3, 22, 25, 23] types_ok (by kernel_rfl)
    (fun ds h => by
      rw [show Tryd.f4.params.toList = [3, 3, 22, 22] from by rw [Tryd.params4]] at h
      rcases ds with _ | ⟨x0, _ | ⟨x1, _ | ⟨x2, _ | ⟨x3, _ | ⟨z, r⟩⟩⟩⟩⟩
      · simp at h
      · simp at h
      · simp at h
      · simp at h
      · rfl
      · simp at h)
    two_args
    (ChangeSpec.witness_at (enc := enc) (C := Tryd.checked) (os := os) (X := fun w _ => laidMetH Tryd.prog Rows.bitsTwoRow.laid w) false (laidWorld os) #[.int .i64 0, .int .i64 0, .slice none 0 0, .slice none 0 0] 8 rfl (by kernel_rfl) (by kernel_rfl) (by kernel_rfl) (by kernel_rfl) (by kernel_rfl) (laidWorld_met os _))
theorem two_holds : Rows.BitsTwoSaid :=
  OpenClaim.holds_of_wide 4 Tryd.f4 rfl rfl rfl rfl rfl rfl rfl ⟨rfl, rfl, rfl, rfl, rfl⟩ rfl rfl rfl rfl rfl (by kernel_rfl) Tryd.func4 (by kernel_rfl)
    (of_decide_eq_true (by kernel_rfl)) (by unfold Func.isWrapper; rw [if_neg (of_decide_eq_false (by kernel_rfl))]; exact ⟨rfl, rfl⟩)
    (fun os started H enc _ => two_lifted os started H enc)
theorem two_plain : ∀ t, t ∈ [3, 3, 22, 22] → Tryd.prog.wantsStandIn t = false := by
  intro t ht
  have h : ([3, 3, 22, 22].all fun t => Tryd.prog.wantsStandIn t == false) = true := by kernel_rfl
  exact eq_of_beq (List.all_eq_true.1 h t ht)
theorem two_card : Rows.BitsTwoCardSaid :=
  Claim7.holds_tied_plain_at .later [] [.data] true (true, "9295b955cc89ea01dc10a212d3bb8874e736bfb4ce157a7f326887aee0c80cde") false
    two_holds (fun _ h => by cases h) (by kernel_rfl) (fun _ h => by cases h) bitsTwo_row_tie rfl ⟨rfl, rfl⟩ (by kernel_rfl) rfl
    (fun f fn hf hfn => by
      obtain rfl : f = 4 := Option.some.inj ((show Tryd.prog.funcNamed "drogue/droguelaw02.BitsTwo" = some 4 by kernel_rfl).symm.trans hf) |>.symm
      obtain rfl : fn = Tryd.f4 := (Option.some.inj (Tryd.func4.symm.trans hfn)).symm
      exact ⟨by kernel_rfl, fun j t ht => two_plain t (by
        rw [Tryd.params4] at ht
        exact List.mem_of_getElem? (i := j) (by simpa using ht))⟩)
    (by kernel_rfl)
end Go.Proofs.YtgknieohkniojaaDoor
