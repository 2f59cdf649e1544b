/- The parts of the functions: names for the places of their code. The walks: the document's set. The walks: the document's set, copied and told. The walks: a set's numbers as a row; two rows that are the same. The walks: the document's Do; Fill. The walks: great. -/
import Derived.Test.YtgknieohkniojaaDoorSet
import Derived.Test.YtgknieohkniojaaDoorFwF
import Derived.Test.YtgknieohkniojaaDoorAll
import Derived.Test.YtgknieohkniojaaDoorTurn
set_option linter.unusedVariables false
set_option linter.unusedSimpArgs false
set_option linter.unnecessarySimpa false
set_option linter.all false
namespace Go.Proofs.YtgknieohkniojaaDoor
open Go.Abs
set_option maxRecDepth 1000000
set_option linter.unusedSimpArgs false
variable {rd : Option Nat} {f : Nat → V} {m : List Nat} {st : St}
noncomputable def c9_0 : Code := bodyOf Tryd.f9
theorem b9 : Tryd.f9.body = some c9_0 := rfl
theorem n9 : Tryd.f9.ntmps = 44 := rfl
theorem r9 : Tryd.f9.results = #[.tmp 2] := rfl
theorem fn9 : tb.fn 9 = some Tryd.f9 := by rw [tb_eq]; exact Tryd.func9
theorem run9 {args : List V} {st : St} (ha : args.length ≤ 44) : (run tb).call 9 args st = leave tb [.tmp 2] ((run tb).code none c9_0 (mk 44 (argF args) []) st) := call_run fn9 (tbmode 9) b9 n9 r9 ha
noncomputable def c9_1 : Code := kid c9_0 0
noncomputable def c9_2 : Code := kid c9_0 1
noncomputable def c9_3 : Code := kid c9_2 0
noncomputable def c9_4 : Code := kid c9_3 0
noncomputable def c9_5 : Code := kid c9_3 1
noncomputable def c9_6 : Code := kid c9_5 0
noncomputable def c9_7 : Code := kid c9_6 0
noncomputable def c9_8 : Code := kid c9_6 1
noncomputable def c9_9 : Code := kid c9_5 1
noncomputable def c9_10 : Code := kid c9_2 1
noncomputable def c9_11 : Code := kid c9_10 0
noncomputable def c9_12 : Code := kid c9_11 0
noncomputable def c9_13 : Code := kid c9_11 1
noncomputable def c9_14 : Code := kid c9_13 0
noncomputable def c9_15 : Code := kid c9_14 0
noncomputable def c9_16 : Code := kid c9_15 0
noncomputable def c9_17 : Code := kid c9_16 0
noncomputable def c9_18 : Code := kid c9_16 1
noncomputable def c9_19 : Code := kid c9_18 0
noncomputable def c9_20 : Code := kid c9_18 1
noncomputable def c9_21 : Code := kid c9_15 1
noncomputable def c9_22 : Code := kid c9_21 0
noncomputable def c9_23 : Code := kid c9_22 0
noncomputable def c9_24 : Code := kid c9_23 0
noncomputable def c9_25 : Code := kid c9_23 1
noncomputable def c9_26 : Code := kid c9_25 0
noncomputable def c9_27 : Code := kid c9_26 0
noncomputable def c9_28 : Code := kid c9_26 1
noncomputable def c9_29 : Code := kid c9_25 1
noncomputable def c9_30 : Code := kid c9_21 1
noncomputable def c9_31 : Code := kid c9_10 1
noncomputable def c9_32 : Code := kid c9_31 0
noncomputable def c9_33 : Code := kid c9_31 1
noncomputable def o9_1 : Array Oper := opsOf (kid (bodyOf Tryd.f9) 0)
noncomputable def o9_4 : Array Oper := opsOf (kid (kid (kid (bodyOf Tryd.f9) 1) 0) 0)
noncomputable def o9_7 : Array Oper := opsOf (kid (kid (kid (kid (kid (bodyOf Tryd.f9) 1) 0) 1) 0) 0)
noncomputable def o9_12 : Array Oper := opsOf (kid (kid (kid (kid (bodyOf Tryd.f9) 1) 1) 0) 0)
noncomputable def o9_17 : Array Oper := opsOf (kid (kid (kid (kid (kid (kid (kid (kid (bodyOf Tryd.f9) 1) 1) 0) 1) 0) 0) 0) 0)
noncomputable def o9_24 : Array Oper := opsOf (kid (kid (kid (kid (kid (kid (kid (kid (kid (kid (bodyOf Tryd.f9) 1) 1) 0) 1) 0) 0) 1) 0) 0) 0)
noncomputable def o9_27 : Array Oper := opsOf (kid (kid (kid (kid (kid (kid (kid (kid (kid (kid (kid (kid (bodyOf Tryd.f9) 1) 1) 0) 1) 0) 0) 1) 0) 0) 1) 0) 0)
noncomputable def o9_30 : Array Oper := opsOf (kid (kid (kid (kid (kid (kid (kid (kid (bodyOf Tryd.f9) 1) 1) 0) 1) 0) 0) 1) 1)
noncomputable def o9_32 : Array Oper := opsOf (kid (kid (kid (kid (bodyOf Tryd.f9) 1) 1) 1) 0)
theorem e9_0 : c9_0 = .seq c9_1 c9_2 := rfl
theorem e9_1 : c9_1 = .region 0 o9_1 false := rfl
theorem e9_2 : c9_2 = .seq c9_3 c9_10 := rfl
theorem e9_3 : c9_3 = .seq c9_4 c9_5 := rfl
theorem e9_4 : c9_4 = .region 1 o9_4 false := rfl
theorem e9_5 : c9_5 = .cond (.tmp 6) c9_6 c9_9 := rfl
theorem e9_6 : c9_6 = .seq c9_7 c9_8 := rfl
theorem e9_7 : c9_7 = .region 2 o9_7 false := rfl
theorem e9_8 : c9_8 = .ret := rfl
theorem e9_9 : c9_9 = .skip := rfl
theorem e9_10 : c9_10 = .seq c9_11 c9_31 := rfl
theorem e9_11 : c9_11 = .seq c9_12 c9_13 := rfl
theorem e9_12 : c9_12 = .region 3 o9_12 false := rfl
theorem e9_13 : c9_13 = .block 0 c9_14 := rfl
theorem e9_14 : c9_14 = .loop c9_15 := rfl
theorem e9_15 : c9_15 = .seq c9_16 c9_21 := rfl
theorem e9_16 : c9_16 = .seq c9_17 c9_18 := rfl
theorem e9_17 : c9_17 = .region 4 o9_17 false := rfl
theorem e9_18 : c9_18 = .cond (.tmp 10) c9_19 c9_20 := rfl
theorem e9_19 : c9_19 = .skip := rfl
theorem e9_20 : c9_20 = .exit 0 := rfl
theorem e9_21 : c9_21 = .seq c9_22 c9_30 := rfl
theorem e9_22 : c9_22 = .block 1 c9_23 := rfl
theorem e9_23 : c9_23 = .seq c9_24 c9_25 := rfl
theorem e9_24 : c9_24 = .region 6 o9_24 false := rfl
theorem e9_25 : c9_25 = .cond (.tmp 43) c9_26 c9_29 := rfl
theorem e9_26 : c9_26 = .seq c9_27 c9_28 := rfl
theorem e9_27 : c9_27 = .region 7 o9_27 false := rfl
theorem e9_28 : c9_28 = .ret := rfl
theorem e9_29 : c9_29 = .skip := rfl
theorem e9_30 : c9_30 = .region 5 o9_30 false := rfl
theorem e9_31 : c9_31 = .seq c9_32 c9_33 := rfl
theorem e9_32 : c9_32 = .region 8 o9_32 false := rfl
theorem e9_33 : c9_33 = .ret := rfl
theorem g9_0 : (run tb).code rd c9_0 (mk 44 f m) st = andThen ((run tb).code rd c9_1 (mk 44 f m) st) (fun fr st => (run tb).code rd c9_2 fr st) := gx_seq e9_0
noncomputable def l9_1 : { l : List Step // lightOf o9_1 = l } := by refine ⟨?_, ?h⟩; case h => simp only [lightOf, o9_1, opsOf, kid, bodyOf, Tryd.f9, Option.getD_some, List.map, stepOf, Option.map, List.getElem?_toArray, List.getElem?_cons_succ, List.getElem?_cons_zero, Option.bind_some]; rfl
theorem g9_1 : (run tb).code rd c9_1 (mk 44 f m) st = regB (evSteps tb (run tb) l9_1.1 (mk 44 f m) st) := gx_region e9_1 l9_1.2
theorem g9_2 : (run tb).code rd c9_2 (mk 44 f m) st = andThen ((run tb).code rd c9_3 (mk 44 f m) st) (fun fr st => (run tb).code rd c9_10 fr st) := gx_seq e9_2
theorem g9_3 : (run tb).code rd c9_3 (mk 44 f m) st = andThen ((run tb).code rd c9_4 (mk 44 f m) st) (fun fr st => (run tb).code rd c9_5 fr st) := gx_seq e9_3
noncomputable def l9_4 : { l : List Step // lightOf o9_4 = l } := by refine ⟨?_, ?h⟩; case h => simp only [lightOf, o9_4, opsOf, kid, bodyOf, Tryd.f9, Option.getD_some, List.map, stepOf, Option.map, List.getElem?_toArray, List.getElem?_cons_succ, List.getElem?_cons_zero, Option.bind_some]; rfl
theorem g9_4 : (run tb).code rd c9_4 (mk 44 f m) st = regB (evSteps tb (run tb) l9_4.1 (mk 44 f m) st) := gx_region e9_4 l9_4.2
theorem g9_5 : (run tb).code rd c9_5 (mk 44 f m) st = branch (f 6) (fun x => (run tb).code rd (sel x c9_6 c9_9) (mk 44 f m) st) := gx_cond e9_5 (by decide)
theorem g9_6 : (run tb).code rd c9_6 (mk 44 f m) st = andThen ((run tb).code rd c9_7 (mk 44 f m) st) (fun fr st => (run tb).code rd c9_8 fr st) := gx_seq e9_6
noncomputable def l9_7 : { l : List Step // lightOf o9_7 = l } := by refine ⟨?_, ?h⟩; case h => simp only [lightOf, o9_7, opsOf, kid, bodyOf, Tryd.f9, Option.getD_some, List.map, stepOf, Option.map, List.getElem?_toArray, List.getElem?_cons_succ, List.getElem?_cons_zero, Option.bind_some]; rfl
theorem g9_7 : (run tb).code rd c9_7 (mk 44 f m) st = regB (evSteps tb (run tb) l9_7.1 (mk 44 f m) st) := gx_region e9_7 l9_7.2
theorem g9_8 : (run tb).code rd c9_8 (mk 44 f m) st = some (.ret, mk 44 f m, st) := gx_ret e9_8
theorem g9_9 : (run tb).code rd c9_9 (mk 44 f m) st = some (.normal, mk 44 f m, st) := gx_skip e9_9
theorem g9_10 : (run tb).code rd c9_10 (mk 44 f m) st = andThen ((run tb).code rd c9_11 (mk 44 f m) st) (fun fr st => (run tb).code rd c9_31 fr st) := gx_seq e9_10
theorem g9_11 : (run tb).code rd c9_11 (mk 44 f m) st = andThen ((run tb).code rd c9_12 (mk 44 f m) st) (fun fr st => (run tb).code rd c9_13 fr st) := gx_seq e9_11
noncomputable def l9_12 : { l : List Step // lightOf o9_12 = l } := by refine ⟨?_, ?h⟩; case h => simp only [lightOf, o9_12, opsOf, kid, bodyOf, Tryd.f9, Option.getD_some, List.map, stepOf, Option.map, List.getElem?_toArray, List.getElem?_cons_succ, List.getElem?_cons_zero, Option.bind_some]; rfl
theorem g9_12 : (run tb).code rd c9_12 (mk 44 f m) st = regB (evSteps tb (run tb) l9_12.1 (mk 44 f m) st) := gx_region e9_12 l9_12.2
theorem g9_13 : (run tb).code rd c9_13 (mk 44 f m) st = closeB 0 ((run tb).code rd c9_14 (mk 44 f m) st) := gx_block e9_13
theorem g9_15 : (run tb).code rd c9_15 (mk 44 f m) st = andThen ((run tb).code rd c9_16 (mk 44 f m) st) (fun fr st => (run tb).code rd c9_21 fr st) := gx_seq e9_15
theorem g9_16 : (run tb).code rd c9_16 (mk 44 f m) st = andThen ((run tb).code rd c9_17 (mk 44 f m) st) (fun fr st => (run tb).code rd c9_18 fr st) := gx_seq e9_16
noncomputable def l9_17 : { l : List Step // lightOf o9_17 = l } := by refine ⟨?_, ?h⟩; case h => simp only [lightOf, o9_17, opsOf, kid, bodyOf, Tryd.f9, Option.getD_some, List.map, stepOf, Option.map, List.getElem?_toArray, List.getElem?_cons_succ, List.getElem?_cons_zero, Option.bind_some]; rfl
theorem g9_17 : (run tb).code rd c9_17 (mk 44 f m) st = regB (evSteps tb (run tb) l9_17.1 (mk 44 f m) st) := gx_region e9_17 l9_17.2
theorem g9_18 : (run tb).code rd c9_18 (mk 44 f m) st = branch (f 10) (fun x => (run tb).code rd (sel x c9_19 c9_20) (mk 44 f m) st) := gx_cond e9_18 (by decide)
theorem g9_19 : (run tb).code rd c9_19 (mk 44 f m) st = some (.normal, mk 44 f m, st) := gx_skip e9_19
theorem g9_20 : (run tb).code rd c9_20 (mk 44 f m) st = some (.exit 0, mk 44 f m, st) := gx_exit e9_20
theorem g9_21 : (run tb).code rd c9_21 (mk 44 f m) st = andThen ((run tb).code rd c9_22 (mk 44 f m) st) (fun fr st => (run tb).code rd c9_30 fr st) := gx_seq e9_21
theorem g9_22 : (run tb).code rd c9_22 (mk 44 f m) st = closeB 1 ((run tb).code rd c9_23 (mk 44 f m) st) := gx_block e9_22
theorem g9_23 : (run tb).code rd c9_23 (mk 44 f m) st = andThen ((run tb).code rd c9_24 (mk 44 f m) st) (fun fr st => (run tb).code rd c9_25 fr st) := gx_seq e9_23
noncomputable def l9_24 : { l : List Step // lightOf o9_24 = l } := by refine ⟨?_, ?h⟩; case h => simp only [lightOf, o9_24, opsOf, kid, bodyOf, Tryd.f9, Option.getD_some, List.map, stepOf, Option.map, List.getElem?_toArray, List.getElem?_cons_succ, List.getElem?_cons_zero, Option.bind_some]; rfl
theorem g9_24 : (run tb).code rd c9_24 (mk 44 f m) st = regB (evSteps tb (run tb) l9_24.1 (mk 44 f m) st) := gx_region e9_24 l9_24.2
theorem g9_25 : (run tb).code rd c9_25 (mk 44 f m) st = branch (f 43) (fun x => (run tb).code rd (sel x c9_26 c9_29) (mk 44 f m) st) := gx_cond e9_25 (by decide)
theorem g9_26 : (run tb).code rd c9_26 (mk 44 f m) st = andThen ((run tb).code rd c9_27 (mk 44 f m) st) (fun fr st => (run tb).code rd c9_28 fr st) := gx_seq e9_26
noncomputable def l9_27 : { l : List Step // lightOf o9_27 = l } := by refine ⟨?_, ?h⟩; case h => simp only [lightOf, o9_27, opsOf, kid, bodyOf, Tryd.f9, Option.getD_some, List.map, stepOf, Option.map, List.getElem?_toArray, List.getElem?_cons_succ, List.getElem?_cons_zero, Option.bind_some]; rfl
theorem g9_27 : (run tb).code rd c9_27 (mk 44 f m) st = regB (evSteps tb (run tb) l9_27.1 (mk 44 f m) st) := gx_region e9_27 l9_27.2
theorem g9_28 : (run tb).code rd c9_28 (mk 44 f m) st = some (.ret, mk 44 f m, st) := gx_ret e9_28
theorem g9_29 : (run tb).code rd c9_29 (mk 44 f m) st = some (.normal, mk 44 f m, st) := gx_skip e9_29
noncomputable def l9_30 : { l : List Step // lightOf o9_30 = l } := by refine ⟨?_, ?h⟩; case h => simp only [lightOf, o9_30, opsOf, kid, bodyOf, Tryd.f9, Option.getD_some, List.map, stepOf, Option.map, List.getElem?_toArray, List.getElem?_cons_succ, List.getElem?_cons_zero, Option.bind_some]; rfl
theorem g9_30 : (run tb).code rd c9_30 (mk 44 f m) st = regB (evSteps tb (run tb) l9_30.1 (mk 44 f m) st) := gx_region e9_30 l9_30.2
theorem g9_31 : (run tb).code rd c9_31 (mk 44 f m) st = andThen ((run tb).code rd c9_32 (mk 44 f m) st) (fun fr st => (run tb).code rd c9_33 fr st) := gx_seq e9_31
noncomputable def l9_32 : { l : List Step // lightOf o9_32 = l } := by refine ⟨?_, ?h⟩; case h => simp only [lightOf, o9_32, opsOf, kid, bodyOf, Tryd.f9, Option.getD_some, List.map, stepOf, Option.map, List.getElem?_toArray, List.getElem?_cons_succ, List.getElem?_cons_zero, Option.bind_some]; rfl
theorem g9_32 : (run tb).code rd c9_32 (mk 44 f m) st = regB (evSteps tb (run tb) l9_32.1 (mk 44 f m) st) := gx_region e9_32 l9_32.2
theorem g9_33 : (run tb).code rd c9_33 (mk 44 f m) st = some (.ret, mk 44 f m, st) := gx_ret e9_33
noncomputable def c11_0 : Code := bodyOf Tryd.f11
theorem b11 : Tryd.f11.body = some c11_0 := rfl
theorem n11 : Tryd.f11.ntmps = 26 := rfl
theorem r11 : Tryd.f11.results = #[.tmp 4] := rfl
theorem fn11 : tb.fn 11 = some Tryd.f11 := by rw [tb_eq]; exact Tryd.func11
theorem run11 {args : List V} {st : St} (ha : args.length ≤ 26) : (run tb).call 11 args st = leave tb [.tmp 4] ((run tb).code none c11_0 (mk 26 (argF args) []) st) := call_run fn11 (tbmode 11) b11 n11 r11 ha
noncomputable def c11_1 : Code := kid c11_0 0
noncomputable def c11_2 : Code := kid c11_0 1
noncomputable def c11_3 : Code := kid c11_2 0
noncomputable def c11_4 : Code := kid c11_2 1
noncomputable def c11_5 : Code := kid c11_4 0
noncomputable def c11_6 : Code := kid c11_5 0
noncomputable def c11_7 : Code := kid c11_5 1
noncomputable def c11_8 : Code := kid c11_7 0
noncomputable def c11_9 : Code := kid c11_8 0
noncomputable def c11_10 : Code := kid c11_9 0
noncomputable def c11_11 : Code := kid c11_10 0
noncomputable def c11_12 : Code := kid c11_10 1
noncomputable def c11_13 : Code := kid c11_12 0
noncomputable def c11_14 : Code := kid c11_12 1
noncomputable def c11_15 : Code := kid c11_9 1
noncomputable def c11_16 : Code := kid c11_15 0
noncomputable def c11_17 : Code := kid c11_16 0
noncomputable def c11_18 : Code := kid c11_15 1
noncomputable def c11_19 : Code := kid c11_4 1
noncomputable def c11_20 : Code := kid c11_19 0
noncomputable def c11_21 : Code := kid c11_19 1
noncomputable def o11_1 : Array Oper := opsOf (kid (bodyOf Tryd.f11) 0)
noncomputable def o11_3 : Array Oper := opsOf (kid (kid (bodyOf Tryd.f11) 1) 0)
noncomputable def o11_6 : Array Oper := opsOf (kid (kid (kid (kid (bodyOf Tryd.f11) 1) 1) 0) 0)
noncomputable def o11_11 : Array Oper := opsOf (kid (kid (kid (kid (kid (kid (kid (kid (bodyOf Tryd.f11) 1) 1) 0) 1) 0) 0) 0) 0)
noncomputable def o11_17 : Array Oper := opsOf (kid (kid (kid (kid (kid (kid (kid (kid (kid (bodyOf Tryd.f11) 1) 1) 0) 1) 0) 0) 1) 0) 0)
noncomputable def o11_18 : Array Oper := opsOf (kid (kid (kid (kid (kid (kid (kid (kid (bodyOf Tryd.f11) 1) 1) 0) 1) 0) 0) 1) 1)
noncomputable def o11_20 : Array Oper := opsOf (kid (kid (kid (kid (bodyOf Tryd.f11) 1) 1) 1) 0)
theorem e11_0 : c11_0 = .seq c11_1 c11_2 := rfl
theorem e11_1 : c11_1 = .region 0 o11_1 false := rfl
theorem e11_2 : c11_2 = .seq c11_3 c11_4 := rfl
theorem e11_3 : c11_3 = .region 1 o11_3 false := rfl
theorem e11_4 : c11_4 = .seq c11_5 c11_19 := rfl
theorem e11_5 : c11_5 = .seq c11_6 c11_7 := rfl
theorem e11_6 : c11_6 = .region 2 o11_6 false := rfl
theorem e11_7 : c11_7 = .block 0 c11_8 := rfl
theorem e11_8 : c11_8 = .loop c11_9 := rfl
theorem e11_9 : c11_9 = .seq c11_10 c11_15 := rfl
theorem e11_10 : c11_10 = .seq c11_11 c11_12 := rfl
theorem e11_11 : c11_11 = .region 3 o11_11 false := rfl
theorem e11_12 : c11_12 = .cond (.tmp 16) c11_13 c11_14 := rfl
theorem e11_13 : c11_13 = .skip := rfl
theorem e11_14 : c11_14 = .exit 0 := rfl
theorem e11_15 : c11_15 = .seq c11_16 c11_18 := rfl
theorem e11_16 : c11_16 = .block 1 c11_17 := rfl
theorem e11_17 : c11_17 = .region 5 o11_17 false := rfl
theorem e11_18 : c11_18 = .region 4 o11_18 false := rfl
theorem e11_19 : c11_19 = .seq c11_20 c11_21 := rfl
theorem e11_20 : c11_20 = .region 6 o11_20 false := rfl
theorem e11_21 : c11_21 = .ret := rfl
theorem g11_0 : (run tb).code rd c11_0 (mk 26 f m) st = andThen ((run tb).code rd c11_1 (mk 26 f m) st) (fun fr st => (run tb).code rd c11_2 fr st) := gx_seq e11_0
noncomputable def l11_1 : { l : List Step // lightOf o11_1 = l } := by refine ⟨?_, ?h⟩; case h => simp only [lightOf, o11_1, opsOf, kid, bodyOf, Tryd.f11, Option.getD_some, List.map, stepOf, Option.map, List.getElem?_toArray, List.getElem?_cons_succ, List.getElem?_cons_zero, Option.bind_some]; rfl
theorem g11_1 : (run tb).code rd c11_1 (mk 26 f m) st = regB (evSteps tb (run tb) l11_1.1 (mk 26 f m) st) := gx_region e11_1 l11_1.2
theorem g11_2 : (run tb).code rd c11_2 (mk 26 f m) st = andThen ((run tb).code rd c11_3 (mk 26 f m) st) (fun fr st => (run tb).code rd c11_4 fr st) := gx_seq e11_2
noncomputable def l11_3 : { l : List Step // lightOf o11_3 = l } := by refine ⟨?_, ?h⟩; case h => simp only [lightOf, o11_3, opsOf, kid, bodyOf, Tryd.f11, Option.getD_some, List.map, stepOf, Option.map, List.getElem?_toArray, List.getElem?_cons_succ, List.getElem?_cons_zero, Option.bind_some]; rfl
theorem g11_3 : (run tb).code rd c11_3 (mk 26 f m) st = regB (evSteps tb (run tb) l11_3.1 (mk 26 f m) st) := gx_region e11_3 l11_3.2
theorem g11_4 : (run tb).code rd c11_4 (mk 26 f m) st = andThen ((run tb).code rd c11_5 (mk 26 f m) st) (fun fr st => (run tb).code rd c11_19 fr st) := gx_seq e11_4
theorem g11_5 : (run tb).code rd c11_5 (mk 26 f m) st = andThen ((run tb).code rd c11_6 (mk 26 f m) st) (fun fr st => (run tb).code rd c11_7 fr st) := gx_seq e11_5
noncomputable def l11_6 : { l : List Step // lightOf o11_6 = l } := by refine ⟨?_, ?h⟩; case h => simp only [lightOf, o11_6, opsOf, kid, bodyOf, Tryd.f11, Option.getD_some, List.map, stepOf, Option.map, List.getElem?_toArray, List.getElem?_cons_succ, List.getElem?_cons_zero, Option.bind_some]; rfl
theorem g11_6 : (run tb).code rd c11_6 (mk 26 f m) st = regB (evSteps tb (run tb) l11_6.1 (mk 26 f m) st) := gx_region e11_6 l11_6.2
theorem g11_7 : (run tb).code rd c11_7 (mk 26 f m) st = closeB 0 ((run tb).code rd c11_8 (mk 26 f m) st) := gx_block e11_7
theorem g11_9 : (run tb).code rd c11_9 (mk 26 f m) st = andThen ((run tb).code rd c11_10 (mk 26 f m) st) (fun fr st => (run tb).code rd c11_15 fr st) := gx_seq e11_9
theorem g11_10 : (run tb).code rd c11_10 (mk 26 f m) st = andThen ((run tb).code rd c11_11 (mk 26 f m) st) (fun fr st => (run tb).code rd c11_12 fr st) := gx_seq e11_10
noncomputable def l11_11 : { l : List Step // lightOf o11_11 = l } := by refine ⟨?_, ?h⟩; case h => simp only [lightOf, o11_11, opsOf, kid, bodyOf, Tryd.f11, Option.getD_some, List.map, stepOf, Option.map, List.getElem?_toArray, List.getElem?_cons_succ, List.getElem?_cons_zero, Option.bind_some]; rfl
theorem g11_11 : (run tb).code rd c11_11 (mk 26 f m) st = regB (evSteps tb (run tb) l11_11.1 (mk 26 f m) st) := gx_region e11_11 l11_11.2
theorem g11_12 : (run tb).code rd c11_12 (mk 26 f m) st = branch (f 16) (fun x => (run tb).code rd (sel x c11_13 c11_14) (mk 26 f m) st) := gx_cond e11_12 (by decide)
theorem g11_13 : (run tb).code rd c11_13 (mk 26 f m) st = some (.normal, mk 26 f m, st) := gx_skip e11_13
theorem g11_14 : (run tb).code rd c11_14 (mk 26 f m) st = some (.exit 0, mk 26 f m, st) := gx_exit e11_14
theorem g11_15 : (run tb).code rd c11_15 (mk 26 f m) st = andThen ((run tb).code rd c11_16 (mk 26 f m) st) (fun fr st => (run tb).code rd c11_18 fr st) := gx_seq e11_15
theorem g11_16 : (run tb).code rd c11_16 (mk 26 f m) st = closeB 1 ((run tb).code rd c11_17 (mk 26 f m) st) := gx_block e11_16
noncomputable def l11_17 : { l : List Step // lightOf o11_17 = l } := by refine ⟨?_, ?h⟩; case h => simp only [lightOf, o11_17, opsOf, kid, bodyOf, Tryd.f11, Option.getD_some, List.map, stepOf, Option.map, List.getElem?_toArray, List.getElem?_cons_succ, List.getElem?_cons_zero, Option.bind_some]; rfl
theorem g11_17 : (run tb).code rd c11_17 (mk 26 f m) st = regB (evSteps tb (run tb) l11_17.1 (mk 26 f m) st) := gx_region e11_17 l11_17.2
noncomputable def l11_18 : { l : List Step // lightOf o11_18 = l } := by refine ⟨?_, ?h⟩; case h => simp only [lightOf, o11_18, opsOf, kid, bodyOf, Tryd.f11, Option.getD_some, List.map, stepOf, Option.map, List.getElem?_toArray, List.getElem?_cons_succ, List.getElem?_cons_zero, Option.bind_some]; rfl
theorem g11_18 : (run tb).code rd c11_18 (mk 26 f m) st = regB (evSteps tb (run tb) l11_18.1 (mk 26 f m) st) := gx_region e11_18 l11_18.2
theorem g11_19 : (run tb).code rd c11_19 (mk 26 f m) st = andThen ((run tb).code rd c11_20 (mk 26 f m) st) (fun fr st => (run tb).code rd c11_21 fr st) := gx_seq e11_19
noncomputable def l11_20 : { l : List Step // lightOf o11_20 = l } := by refine ⟨?_, ?h⟩; case h => simp only [lightOf, o11_20, opsOf, kid, bodyOf, Tryd.f11, Option.getD_some, List.map, stepOf, Option.map, List.getElem?_toArray, List.getElem?_cons_succ, List.getElem?_cons_zero, Option.bind_some]; rfl
theorem g11_20 : (run tb).code rd c11_20 (mk 26 f m) st = regB (evSteps tb (run tb) l11_20.1 (mk 26 f m) st) := gx_region e11_20 l11_20.2
theorem g11_21 : (run tb).code rd c11_21 (mk 26 f m) st = some (.ret, mk 26 f m, st) := gx_ret e11_21
noncomputable def c13_0 : Code := bodyOf Tryd.f13
theorem b13 : Tryd.f13.body = some c13_0 := rfl
theorem n13 : Tryd.f13.ntmps = 26 := rfl
theorem r13 : Tryd.f13.results = #[.tmp 4] := rfl
theorem fn13 : tb.fn 13 = some Tryd.f13 := by rw [tb_eq]; exact Tryd.func13
theorem run13 {args : List V} {st : St} (ha : args.length ≤ 26) : (run tb).call 13 args st = leave tb [.tmp 4] ((run tb).code none c13_0 (mk 26 (argF args) []) st) := call_run fn13 (tbmode 13) b13 n13 r13 ha
noncomputable def c13_1 : Code := kid c13_0 0
noncomputable def c13_2 : Code := kid c13_0 1
noncomputable def c13_3 : Code := kid c13_2 0
noncomputable def c13_4 : Code := kid c13_3 0
noncomputable def c13_5 : Code := kid c13_3 1
noncomputable def c13_6 : Code := kid c13_5 0
noncomputable def c13_7 : Code := kid c13_6 0
noncomputable def c13_8 : Code := kid c13_6 1
noncomputable def c13_9 : Code := kid c13_5 1
noncomputable def c13_10 : Code := kid c13_2 1
noncomputable def c13_11 : Code := kid c13_10 0
noncomputable def c13_12 : Code := kid c13_11 0
noncomputable def c13_13 : Code := kid c13_11 1
noncomputable def c13_14 : Code := kid c13_13 0
noncomputable def c13_15 : Code := kid c13_14 0
noncomputable def c13_16 : Code := kid c13_15 0
noncomputable def c13_17 : Code := kid c13_16 0
noncomputable def c13_18 : Code := kid c13_16 1
noncomputable def c13_19 : Code := kid c13_18 0
noncomputable def c13_20 : Code := kid c13_18 1
noncomputable def c13_21 : Code := kid c13_15 1
noncomputable def c13_22 : Code := kid c13_21 0
noncomputable def c13_23 : Code := kid c13_22 0
noncomputable def c13_24 : Code := kid c13_23 0
noncomputable def c13_25 : Code := kid c13_23 1
noncomputable def c13_26 : Code := kid c13_25 0
noncomputable def c13_27 : Code := kid c13_26 0
noncomputable def c13_28 : Code := kid c13_26 1
noncomputable def c13_29 : Code := kid c13_25 1
noncomputable def c13_30 : Code := kid c13_21 1
noncomputable def c13_31 : Code := kid c13_10 1
noncomputable def c13_32 : Code := kid c13_31 0
noncomputable def c13_33 : Code := kid c13_31 1
noncomputable def o13_1 : Array Oper := opsOf (kid (bodyOf Tryd.f13) 0)
noncomputable def o13_4 : Array Oper := opsOf (kid (kid (kid (bodyOf Tryd.f13) 1) 0) 0)
noncomputable def o13_7 : Array Oper := opsOf (kid (kid (kid (kid (kid (bodyOf Tryd.f13) 1) 0) 1) 0) 0)
noncomputable def o13_12 : Array Oper := opsOf (kid (kid (kid (kid (bodyOf Tryd.f13) 1) 1) 0) 0)
noncomputable def o13_17 : Array Oper := opsOf (kid (kid (kid (kid (kid (kid (kid (kid (bodyOf Tryd.f13) 1) 1) 0) 1) 0) 0) 0) 0)
noncomputable def o13_24 : Array Oper := opsOf (kid (kid (kid (kid (kid (kid (kid (kid (kid (kid (bodyOf Tryd.f13) 1) 1) 0) 1) 0) 0) 1) 0) 0) 0)
noncomputable def o13_27 : Array Oper := opsOf (kid (kid (kid (kid (kid (kid (kid (kid (kid (kid (kid (kid (bodyOf Tryd.f13) 1) 1) 0) 1) 0) 0) 1) 0) 0) 1) 0) 0)
noncomputable def o13_30 : Array Oper := opsOf (kid (kid (kid (kid (kid (kid (kid (kid (bodyOf Tryd.f13) 1) 1) 0) 1) 0) 0) 1) 1)
noncomputable def o13_32 : Array Oper := opsOf (kid (kid (kid (kid (bodyOf Tryd.f13) 1) 1) 1) 0)
theorem e13_0 : c13_0 = .seq c13_1 c13_2 := rfl
theorem e13_1 : c13_1 = .region 0 o13_1 false := rfl
theorem e13_2 : c13_2 = .seq c13_3 c13_10 := rfl
theorem e13_3 : c13_3 = .seq c13_4 c13_5 := rfl
theorem e13_4 : c13_4 = .region 1 o13_4 false := rfl
theorem e13_5 : c13_5 = .cond (.tmp 10) c13_6 c13_9 := rfl
theorem e13_6 : c13_6 = .seq c13_7 c13_8 := rfl
theorem e13_7 : c13_7 = .region 2 o13_7 false := rfl
theorem e13_8 : c13_8 = .ret := rfl
theorem e13_9 : c13_9 = .skip := rfl
theorem e13_10 : c13_10 = .seq c13_11 c13_31 := rfl
theorem e13_11 : c13_11 = .seq c13_12 c13_13 := rfl
theorem e13_12 : c13_12 = .region 3 o13_12 false := rfl
theorem e13_13 : c13_13 = .block 0 c13_14 := rfl
theorem e13_14 : c13_14 = .loop c13_15 := rfl
theorem e13_15 : c13_15 = .seq c13_16 c13_21 := rfl
theorem e13_16 : c13_16 = .seq c13_17 c13_18 := rfl
theorem e13_17 : c13_17 = .region 4 o13_17 false := rfl
theorem e13_18 : c13_18 = .cond (.tmp 14) c13_19 c13_20 := rfl
theorem e13_19 : c13_19 = .skip := rfl
theorem e13_20 : c13_20 = .exit 0 := rfl
theorem e13_21 : c13_21 = .seq c13_22 c13_30 := rfl
theorem e13_22 : c13_22 = .block 1 c13_23 := rfl
theorem e13_23 : c13_23 = .seq c13_24 c13_25 := rfl
theorem e13_24 : c13_24 = .region 6 o13_24 true := rfl
theorem e13_25 : c13_25 = .cond (.tmp 25) c13_26 c13_29 := rfl
theorem e13_26 : c13_26 = .seq c13_27 c13_28 := rfl
theorem e13_27 : c13_27 = .region 7 o13_27 false := rfl
theorem e13_28 : c13_28 = .ret := rfl
theorem e13_29 : c13_29 = .skip := rfl
theorem e13_30 : c13_30 = .region 5 o13_30 false := rfl
theorem e13_31 : c13_31 = .seq c13_32 c13_33 := rfl
theorem e13_32 : c13_32 = .region 8 o13_32 false := rfl
theorem e13_33 : c13_33 = .ret := rfl
theorem g13_0 : (run tb).code rd c13_0 (mk 26 f m) st = andThen ((run tb).code rd c13_1 (mk 26 f m) st) (fun fr st => (run tb).code rd c13_2 fr st) := gx_seq e13_0
noncomputable def l13_1 : { l : List Step // lightOf o13_1 = l } := by refine ⟨?_, ?h⟩; case h => simp only [lightOf, o13_1, opsOf, kid, bodyOf, Tryd.f13, Option.getD_some, List.map, stepOf, Option.map, List.getElem?_toArray, List.getElem?_cons_succ, List.getElem?_cons_zero, Option.bind_some]; rfl
theorem g13_1 : (run tb).code rd c13_1 (mk 26 f m) st = regB (evSteps tb (run tb) l13_1.1 (mk 26 f m) st) := gx_region e13_1 l13_1.2
theorem g13_2 : (run tb).code rd c13_2 (mk 26 f m) st = andThen ((run tb).code rd c13_3 (mk 26 f m) st) (fun fr st => (run tb).code rd c13_10 fr st) := gx_seq e13_2
theorem g13_3 : (run tb).code rd c13_3 (mk 26 f m) st = andThen ((run tb).code rd c13_4 (mk 26 f m) st) (fun fr st => (run tb).code rd c13_5 fr st) := gx_seq e13_3
noncomputable def l13_4 : { l : List Step // lightOf o13_4 = l } := by refine ⟨?_, ?h⟩; case h => simp only [lightOf, o13_4, opsOf, kid, bodyOf, Tryd.f13, Option.getD_some, List.map, stepOf, Option.map, List.getElem?_toArray, List.getElem?_cons_succ, List.getElem?_cons_zero, Option.bind_some]; rfl
theorem g13_4 : (run tb).code rd c13_4 (mk 26 f m) st = regB (evSteps tb (run tb) l13_4.1 (mk 26 f m) st) := gx_region e13_4 l13_4.2
theorem g13_5 : (run tb).code rd c13_5 (mk 26 f m) st = branch (f 10) (fun x => (run tb).code rd (sel x c13_6 c13_9) (mk 26 f m) st) := gx_cond e13_5 (by decide)
theorem g13_6 : (run tb).code rd c13_6 (mk 26 f m) st = andThen ((run tb).code rd c13_7 (mk 26 f m) st) (fun fr st => (run tb).code rd c13_8 fr st) := gx_seq e13_6
noncomputable def l13_7 : { l : List Step // lightOf o13_7 = l } := by refine ⟨?_, ?h⟩; case h => simp only [lightOf, o13_7, opsOf, kid, bodyOf, Tryd.f13, Option.getD_some, List.map, stepOf, Option.map, List.getElem?_toArray, List.getElem?_cons_succ, List.getElem?_cons_zero, Option.bind_some]; rfl
theorem g13_7 : (run tb).code rd c13_7 (mk 26 f m) st = regB (evSteps tb (run tb) l13_7.1 (mk 26 f m) st) := gx_region e13_7 l13_7.2
theorem g13_8 : (run tb).code rd c13_8 (mk 26 f m) st = some (.ret, mk 26 f m, st) := gx_ret e13_8
theorem g13_9 : (run tb).code rd c13_9 (mk 26 f m) st = some (.normal, mk 26 f m, st) := gx_skip e13_9
theorem g13_10 : (run tb).code rd c13_10 (mk 26 f m) st = andThen ((run tb).code rd c13_11 (mk 26 f m) st) (fun fr st => (run tb).code rd c13_31 fr st) := gx_seq e13_10
theorem g13_11 : (run tb).code rd c13_11 (mk 26 f m) st = andThen ((run tb).code rd c13_12 (mk 26 f m) st) (fun fr st => (run tb).code rd c13_13 fr st) := gx_seq e13_11
noncomputable def l13_12 : { l : List Step // lightOf o13_12 = l } := by refine ⟨?_, ?h⟩; case h => simp only [lightOf, o13_12, opsOf, kid, bodyOf, Tryd.f13, Option.getD_some, List.map, stepOf, Option.map, List.getElem?_toArray, List.getElem?_cons_succ, List.getElem?_cons_zero, Option.bind_some]; rfl
theorem g13_12 : (run tb).code rd c13_12 (mk 26 f m) st = regB (evSteps tb (run tb) l13_12.1 (mk 26 f m) st) := gx_region e13_12 l13_12.2
theorem g13_13 : (run tb).code rd c13_13 (mk 26 f m) st = closeB 0 ((run tb).code rd c13_14 (mk 26 f m) st) := gx_block e13_13
theorem g13_15 : (run tb).code rd c13_15 (mk 26 f m) st = andThen ((run tb).code rd c13_16 (mk 26 f m) st) (fun fr st => (run tb).code rd c13_21 fr st) := gx_seq e13_15
theorem g13_16 : (run tb).code rd c13_16 (mk 26 f m) st = andThen ((run tb).code rd c13_17 (mk 26 f m) st) (fun fr st => (run tb).code rd c13_18 fr st) := gx_seq e13_16
noncomputable def l13_17 : { l : List Step // lightOf o13_17 = l } := by refine ⟨?_, ?h⟩; case h => simp only [lightOf, o13_17, opsOf, kid, bodyOf, Tryd.f13, Option.getD_some, List.map, stepOf, Option.map, List.getElem?_toArray, List.getElem?_cons_succ, List.getElem?_cons_zero, Option.bind_some]; rfl
theorem g13_17 : (run tb).code rd c13_17 (mk 26 f m) st = regB (evSteps tb (run tb) l13_17.1 (mk 26 f m) st) := gx_region e13_17 l13_17.2
theorem g13_18 : (run tb).code rd c13_18 (mk 26 f m) st = branch (f 14) (fun x => (run tb).code rd (sel x c13_19 c13_20) (mk 26 f m) st) := gx_cond e13_18 (by decide)
theorem g13_19 : (run tb).code rd c13_19 (mk 26 f m) st = some (.normal, mk 26 f m, st) := gx_skip e13_19
theorem g13_20 : (run tb).code rd c13_20 (mk 26 f m) st = some (.exit 0, mk 26 f m, st) := gx_exit e13_20
theorem g13_21 : (run tb).code rd c13_21 (mk 26 f m) st = andThen ((run tb).code rd c13_22 (mk 26 f m) st) (fun fr st => (run tb).code rd c13_30 fr st) := gx_seq e13_21
theorem g13_22 : (run tb).code rd c13_22 (mk 26 f m) st = closeB 1 ((run tb).code rd c13_23 (mk 26 f m) st) := gx_block e13_22
theorem g13_23 : (run tb).code rd c13_23 (mk 26 f m) st = andThen ((run tb).code rd c13_24 (mk 26 f m) st) (fun fr st => (run tb).code rd c13_25 fr st) := gx_seq e13_23
noncomputable def l13_24 : { l : List DStep // drawAt o13_24 [(0, 0), (1, 0), (2, 3), (3, 7), (4, 0), (5, 0), (6, 48), (7, 112), (8, 255)] = l } := by refine ⟨?_, ?h⟩; case h => simp only [drawAt, entsAt, o13_24, opsOf, kid, bodyOf, Tryd.f13, Option.getD_some, List.map, stepOf, Option.map, List.getElem?_toArray, List.getElem?_cons_succ, List.getElem?_cons_zero, Option.bind_some]; rfl
theorem g13_24 : (run tb).code rd c13_24 (mk 26 f m) st = regB (evDraws tb (run tb) l13_24.1 [] (mk 26 f m) st) := gx_draw [(0, 0), (1, 0), (2, 3), (3, 7), (4, 0), (5, 0), (6, 48), (7, 112), (8, 255)] e13_24 (by kernel_rfl) l13_24.2
theorem g13_25 : (run tb).code rd c13_25 (mk 26 f m) st = branch (f 25) (fun x => (run tb).code rd (sel x c13_26 c13_29) (mk 26 f m) st) := gx_cond e13_25 (by decide)
theorem g13_26 : (run tb).code rd c13_26 (mk 26 f m) st = andThen ((run tb).code rd c13_27 (mk 26 f m) st) (fun fr st => (run tb).code rd c13_28 fr st) := gx_seq e13_26
noncomputable def l13_27 : { l : List Step // lightOf o13_27 = l } := by refine ⟨?_, ?h⟩; case h => simp only [lightOf, o13_27, opsOf, kid, bodyOf, Tryd.f13, Option.getD_some, List.map, stepOf, Option.map, List.getElem?_toArray, List.getElem?_cons_succ, List.getElem?_cons_zero, Option.bind_some]; rfl
theorem g13_27 : (run tb).code rd c13_27 (mk 26 f m) st = regB (evSteps tb (run tb) l13_27.1 (mk 26 f m) st) := gx_region e13_27 l13_27.2
theorem g13_28 : (run tb).code rd c13_28 (mk 26 f m) st = some (.ret, mk 26 f m, st) := gx_ret e13_28
theorem g13_29 : (run tb).code rd c13_29 (mk 26 f m) st = some (.normal, mk 26 f m, st) := gx_skip e13_29
noncomputable def l13_30 : { l : List Step // lightOf o13_30 = l } := by refine ⟨?_, ?h⟩; case h => simp only [lightOf, o13_30, opsOf, kid, bodyOf, Tryd.f13, Option.getD_some, List.map, stepOf, Option.map, List.getElem?_toArray, List.getElem?_cons_succ, List.getElem?_cons_zero, Option.bind_some]; rfl
theorem g13_30 : (run tb).code rd c13_30 (mk 26 f m) st = regB (evSteps tb (run tb) l13_30.1 (mk 26 f m) st) := gx_region e13_30 l13_30.2
theorem g13_31 : (run tb).code rd c13_31 (mk 26 f m) st = andThen ((run tb).code rd c13_32 (mk 26 f m) st) (fun fr st => (run tb).code rd c13_33 fr st) := gx_seq e13_31
noncomputable def l13_32 : { l : List Step // lightOf o13_32 = l } := by refine ⟨?_, ?h⟩; case h => simp only [lightOf, o13_32, opsOf, kid, bodyOf, Tryd.f13, Option.getD_some, List.map, stepOf, Option.map, List.getElem?_toArray, List.getElem?_cons_succ, List.getElem?_cons_zero, Option.bind_some]; rfl
theorem g13_32 : (run tb).code rd c13_32 (mk 26 f m) st = regB (evSteps tb (run tb) l13_32.1 (mk 26 f m) st) := gx_region e13_32 l13_32.2
theorem g13_33 : (run tb).code rd c13_33 (mk 26 f m) st = some (.ret, mk 26 f m, st) := gx_ret e13_33
noncomputable def c15_0 : Code := bodyOf Tryd.f15
theorem b15 : Tryd.f15.body = some c15_0 := rfl
theorem n15 : Tryd.f15.ntmps = 27 := rfl
theorem r15 : Tryd.f15.results = #[.tmp 2] := rfl
theorem fn15 : tb.fn 15 = some Tryd.f15 := by rw [tb_eq]; exact Tryd.func15
theorem run15 {args : List V} {st : St} (ha : args.length ≤ 27) : (run tb).call 15 args st = leave tb [.tmp 2] ((run tb).code none c15_0 (mk 27 (argF args) []) st) := call_run fn15 (tbmode 15) b15 n15 r15 ha
noncomputable def c15_1 : Code := kid c15_0 0
noncomputable def c15_2 : Code := kid c15_0 1
noncomputable def c15_3 : Code := kid c15_2 0
noncomputable def c15_4 : Code := kid c15_2 1
noncomputable def c15_5 : Code := kid c15_4 0
noncomputable def c15_6 : Code := kid c15_5 0
noncomputable def c15_7 : Code := kid c15_5 1
noncomputable def c15_8 : Code := kid c15_7 0
noncomputable def c15_9 : Code := kid c15_8 0
noncomputable def c15_10 : Code := kid c15_9 0
noncomputable def c15_11 : Code := kid c15_10 0
noncomputable def c15_12 : Code := kid c15_10 1
noncomputable def c15_13 : Code := kid c15_12 0
noncomputable def c15_14 : Code := kid c15_12 1
noncomputable def c15_15 : Code := kid c15_9 1
noncomputable def c15_16 : Code := kid c15_15 0
noncomputable def c15_17 : Code := kid c15_16 0
noncomputable def c15_18 : Code := kid c15_17 0
noncomputable def c15_19 : Code := kid c15_17 1
noncomputable def c15_20 : Code := kid c15_19 0
noncomputable def c15_21 : Code := kid c15_19 1
noncomputable def c15_22 : Code := kid c15_15 1
noncomputable def c15_23 : Code := kid c15_4 1
noncomputable def c15_24 : Code := kid c15_23 0
noncomputable def c15_25 : Code := kid c15_23 1
noncomputable def o15_1 : Array Oper := opsOf (kid (bodyOf Tryd.f15) 0)
noncomputable def o15_3 : Array Oper := opsOf (kid (kid (bodyOf Tryd.f15) 1) 0)
noncomputable def o15_6 : Array Oper := opsOf (kid (kid (kid (kid (bodyOf Tryd.f15) 1) 1) 0) 0)
noncomputable def o15_11 : Array Oper := opsOf (kid (kid (kid (kid (kid (kid (kid (kid (bodyOf Tryd.f15) 1) 1) 0) 1) 0) 0) 0) 0)
noncomputable def o15_18 : Array Oper := opsOf (kid (kid (kid (kid (kid (kid (kid (kid (kid (kid (bodyOf Tryd.f15) 1) 1) 0) 1) 0) 0) 1) 0) 0) 0)
noncomputable def o15_20 : Array Oper := opsOf (kid (kid (kid (kid (kid (kid (kid (kid (kid (kid (kid (bodyOf Tryd.f15) 1) 1) 0) 1) 0) 0) 1) 0) 0) 1) 0)
noncomputable def o15_22 : Array Oper := opsOf (kid (kid (kid (kid (kid (kid (kid (kid (bodyOf Tryd.f15) 1) 1) 0) 1) 0) 0) 1) 1)
noncomputable def o15_24 : Array Oper := opsOf (kid (kid (kid (kid (bodyOf Tryd.f15) 1) 1) 1) 0)
theorem e15_0 : c15_0 = .seq c15_1 c15_2 := rfl
theorem e15_1 : c15_1 = .region 0 o15_1 false := rfl
theorem e15_2 : c15_2 = .seq c15_3 c15_4 := rfl
theorem e15_3 : c15_3 = .region 1 o15_3 false := rfl
theorem e15_4 : c15_4 = .seq c15_5 c15_23 := rfl
theorem e15_5 : c15_5 = .seq c15_6 c15_7 := rfl
theorem e15_6 : c15_6 = .region 2 o15_6 false := rfl
theorem e15_7 : c15_7 = .block 0 c15_8 := rfl
theorem e15_8 : c15_8 = .loop c15_9 := rfl
theorem e15_9 : c15_9 = .seq c15_10 c15_15 := rfl
theorem e15_10 : c15_10 = .seq c15_11 c15_12 := rfl
theorem e15_11 : c15_11 = .region 3 o15_11 false := rfl
theorem e15_12 : c15_12 = .cond (.tmp 12) c15_13 c15_14 := rfl
theorem e15_13 : c15_13 = .skip := rfl
theorem e15_14 : c15_14 = .exit 0 := rfl
theorem e15_15 : c15_15 = .seq c15_16 c15_22 := rfl
theorem e15_16 : c15_16 = .block 1 c15_17 := rfl
theorem e15_17 : c15_17 = .seq c15_18 c15_19 := rfl
theorem e15_18 : c15_18 = .region 5 o15_18 false := rfl
theorem e15_19 : c15_19 = .cond (.tmp 21) c15_20 c15_21 := rfl
theorem e15_20 : c15_20 = .region 6 o15_20 false := rfl
theorem e15_21 : c15_21 = .skip := rfl
theorem e15_22 : c15_22 = .region 4 o15_22 false := rfl
theorem e15_23 : c15_23 = .seq c15_24 c15_25 := rfl
theorem e15_24 : c15_24 = .region 7 o15_24 false := rfl
theorem e15_25 : c15_25 = .ret := rfl
theorem g15_0 : (run tb).code rd c15_0 (mk 27 f m) st = andThen ((run tb).code rd c15_1 (mk 27 f m) st) (fun fr st => (run tb).code rd c15_2 fr st) := gx_seq e15_0
noncomputable def l15_1 : { l : List Step // lightOf o15_1 = l } := by refine ⟨?_, ?h⟩; case h => simp only [lightOf, o15_1, opsOf, kid, bodyOf, Tryd.f15, Option.getD_some, List.map, stepOf, Option.map, List.getElem?_toArray, List.getElem?_cons_succ, List.getElem?_cons_zero, Option.bind_some]; rfl
theorem g15_1 : (run tb).code rd c15_1 (mk 27 f m) st = regB (evSteps tb (run tb) l15_1.1 (mk 27 f m) st) := gx_region e15_1 l15_1.2
theorem g15_2 : (run tb).code rd c15_2 (mk 27 f m) st = andThen ((run tb).code rd c15_3 (mk 27 f m) st) (fun fr st => (run tb).code rd c15_4 fr st) := gx_seq e15_2
noncomputable def l15_3 : { l : List Step // lightOf o15_3 = l } := by refine ⟨?_, ?h⟩; case h => simp only [lightOf, o15_3, opsOf, kid, bodyOf, Tryd.f15, Option.getD_some, List.map, stepOf, Option.map, List.getElem?_toArray, List.getElem?_cons_succ, List.getElem?_cons_zero, Option.bind_some]; rfl
theorem g15_3 : (run tb).code rd c15_3 (mk 27 f m) st = regB (evSteps tb (run tb) l15_3.1 (mk 27 f m) st) := gx_region e15_3 l15_3.2
theorem g15_4 : (run tb).code rd c15_4 (mk 27 f m) st = andThen ((run tb).code rd c15_5 (mk 27 f m) st) (fun fr st => (run tb).code rd c15_23 fr st) := gx_seq e15_4
theorem g15_5 : (run tb).code rd c15_5 (mk 27 f m) st = andThen ((run tb).code rd c15_6 (mk 27 f m) st) (fun fr st => (run tb).code rd c15_7 fr st) := gx_seq e15_5
noncomputable def l15_6 : { l : List Step // lightOf o15_6 = l } := by refine ⟨?_, ?h⟩; case h => simp only [lightOf, o15_6, opsOf, kid, bodyOf, Tryd.f15, Option.getD_some, List.map, stepOf, Option.map, List.getElem?_toArray, List.getElem?_cons_succ, List.getElem?_cons_zero, Option.bind_some]; rfl
theorem g15_6 : (run tb).code rd c15_6 (mk 27 f m) st = regB (evSteps tb (run tb) l15_6.1 (mk 27 f m) st) := gx_region e15_6 l15_6.2
theorem g15_7 : (run tb).code rd c15_7 (mk 27 f m) st = closeB 0 ((run tb).code rd c15_8 (mk 27 f m) st) := gx_block e15_7
theorem g15_9 : (run tb).code rd c15_9 (mk 27 f m) st = andThen ((run tb).code rd c15_10 (mk 27 f m) st) (fun fr st => (run tb).code rd c15_15 fr st) := gx_seq e15_9
theorem g15_10 : (run tb).code rd c15_10 (mk 27 f m) st = andThen ((run tb).code rd c15_11 (mk 27 f m) st) (fun fr st => (run tb).code rd c15_12 fr st) := gx_seq e15_10
noncomputable def l15_11 : { l : List Step // lightOf o15_11 = l } := by refine ⟨?_, ?h⟩; case h => simp only [lightOf, o15_11, opsOf, kid, bodyOf, Tryd.f15, Option.getD_some, List.map, stepOf, Option.map, List.getElem?_toArray, List.getElem?_cons_succ, List.getElem?_cons_zero, Option.bind_some]; rfl
theorem g15_11 : (run tb).code rd c15_11 (mk 27 f m) st = regB (evSteps tb (run tb) l15_11.1 (mk 27 f m) st) := gx_region e15_11 l15_11.2
theorem g15_12 : (run tb).code rd c15_12 (mk 27 f m) st = branch (f 12) (fun x => (run tb).code rd (sel x c15_13 c15_14) (mk 27 f m) st) := gx_cond e15_12 (by decide)
theorem g15_13 : (run tb).code rd c15_13 (mk 27 f m) st = some (.normal, mk 27 f m, st) := gx_skip e15_13
theorem g15_14 : (run tb).code rd c15_14 (mk 27 f m) st = some (.exit 0, mk 27 f m, st) := gx_exit e15_14
theorem g15_15 : (run tb).code rd c15_15 (mk 27 f m) st = andThen ((run tb).code rd c15_16 (mk 27 f m) st) (fun fr st => (run tb).code rd c15_22 fr st) := gx_seq e15_15
theorem g15_16 : (run tb).code rd c15_16 (mk 27 f m) st = closeB 1 ((run tb).code rd c15_17 (mk 27 f m) st) := gx_block e15_16
theorem g15_17 : (run tb).code rd c15_17 (mk 27 f m) st = andThen ((run tb).code rd c15_18 (mk 27 f m) st) (fun fr st => (run tb).code rd c15_19 fr st) := gx_seq e15_17
noncomputable def l15_18 : { l : List Step // lightOf o15_18 = l } := by refine ⟨?_, ?h⟩; case h => simp only [lightOf, o15_18, opsOf, kid, bodyOf, Tryd.f15, Option.getD_some, List.map, stepOf, Option.map, List.getElem?_toArray, List.getElem?_cons_succ, List.getElem?_cons_zero, Option.bind_some]; rfl
theorem g15_18 : (run tb).code rd c15_18 (mk 27 f m) st = regB (evSteps tb (run tb) l15_18.1 (mk 27 f m) st) := gx_region e15_18 l15_18.2
theorem g15_19 : (run tb).code rd c15_19 (mk 27 f m) st = branch (f 21) (fun x => (run tb).code rd (sel x c15_20 c15_21) (mk 27 f m) st) := gx_cond e15_19 (by decide)
noncomputable def l15_20 : { l : List Step // lightOf o15_20 = l } := by refine ⟨?_, ?h⟩; case h => simp only [lightOf, o15_20, opsOf, kid, bodyOf, Tryd.f15, Option.getD_some, List.map, stepOf, Option.map, List.getElem?_toArray, List.getElem?_cons_succ, List.getElem?_cons_zero, Option.bind_some]; rfl
theorem g15_20 : (run tb).code rd c15_20 (mk 27 f m) st = regB (evSteps tb (run tb) l15_20.1 (mk 27 f m) st) := gx_region e15_20 l15_20.2
theorem g15_21 : (run tb).code rd c15_21 (mk 27 f m) st = some (.normal, mk 27 f m, st) := gx_skip e15_21
noncomputable def l15_22 : { l : List Step // lightOf o15_22 = l } := by refine ⟨?_, ?h⟩; case h => simp only [lightOf, o15_22, opsOf, kid, bodyOf, Tryd.f15, Option.getD_some, List.map, stepOf, Option.map, List.getElem?_toArray, List.getElem?_cons_succ, List.getElem?_cons_zero, Option.bind_some]; rfl
theorem g15_22 : (run tb).code rd c15_22 (mk 27 f m) st = regB (evSteps tb (run tb) l15_22.1 (mk 27 f m) st) := gx_region e15_22 l15_22.2
theorem g15_23 : (run tb).code rd c15_23 (mk 27 f m) st = andThen ((run tb).code rd c15_24 (mk 27 f m) st) (fun fr st => (run tb).code rd c15_25 fr st) := gx_seq e15_23
noncomputable def l15_24 : { l : List Step // lightOf o15_24 = l } := by refine ⟨?_, ?h⟩; case h => simp only [lightOf, o15_24, opsOf, kid, bodyOf, Tryd.f15, Option.getD_some, List.map, stepOf, Option.map, List.getElem?_toArray, List.getElem?_cons_succ, List.getElem?_cons_zero, Option.bind_some]; rfl
theorem g15_24 : (run tb).code rd c15_24 (mk 27 f m) st = regB (evSteps tb (run tb) l15_24.1 (mk 27 f m) st) := gx_region e15_24 l15_24.2
theorem g15_25 : (run tb).code rd c15_25 (mk 27 f m) st = some (.ret, mk 27 f m, st) := gx_ret e15_25
noncomputable def c20_0 : Code := bodyOf Tryd.f20
theorem b20 : Tryd.f20.body = some c20_0 := rfl
theorem n20 : Tryd.f20.ntmps = 25 := rfl
theorem r20 : Tryd.f20.results = #[.tmp 4] := rfl
theorem fn20 : tb.fn 20 = some Tryd.f20 := by rw [tb_eq]; exact Tryd.func20
theorem run20 {args : List V} {st : St} (ha : args.length ≤ 25) : (run tb).call 20 args st = leave tb [.tmp 4] ((run tb).code none c20_0 (mk 25 (argF args) []) st) := call_run fn20 (tbmode 20) b20 n20 r20 ha
noncomputable def c20_1 : Code := kid c20_0 0
noncomputable def c20_2 : Code := kid c20_0 1
noncomputable def c20_3 : Code := kid c20_2 0
noncomputable def c20_4 : Code := kid c20_2 1
noncomputable def o20_1 : Array Oper := opsOf (kid (bodyOf Tryd.f20) 0)
noncomputable def o20_3 : Array Oper := opsOf (kid (kid (bodyOf Tryd.f20) 1) 0)
theorem e20_0 : c20_0 = .seq c20_1 c20_2 := rfl
theorem e20_1 : c20_1 = .region 0 o20_1 false := rfl
theorem e20_2 : c20_2 = .seq c20_3 c20_4 := rfl
theorem e20_3 : c20_3 = .region 1 o20_3 false := rfl
theorem e20_4 : c20_4 = .ret := rfl
theorem g20_0 : (run tb).code rd c20_0 (mk 25 f m) st = andThen ((run tb).code rd c20_1 (mk 25 f m) st) (fun fr st => (run tb).code rd c20_2 fr st) := gx_seq e20_0
noncomputable def l20_1 : { l : List Step // lightOf o20_1 = l } := by refine ⟨?_, ?h⟩; case h => simp only [lightOf, o20_1, opsOf, kid, bodyOf, Tryd.f20, Option.getD_some, List.map, stepOf, Option.map, List.getElem?_toArray, List.getElem?_cons_succ, List.getElem?_cons_zero, Option.bind_some]; rfl
theorem g20_1 : (run tb).code rd c20_1 (mk 25 f m) st = regB (evSteps tb (run tb) l20_1.1 (mk 25 f m) st) := gx_region e20_1 l20_1.2
theorem g20_2 : (run tb).code rd c20_2 (mk 25 f m) st = andThen ((run tb).code rd c20_3 (mk 25 f m) st) (fun fr st => (run tb).code rd c20_4 fr st) := gx_seq e20_2
noncomputable def l20_3 : { l : List Step // lightOf o20_3 = l } := by refine ⟨?_, ?h⟩; case h => simp only [lightOf, o20_3, opsOf, kid, bodyOf, Tryd.f20, Option.getD_some, List.map, stepOf, Option.map, List.getElem?_toArray, List.getElem?_cons_succ, List.getElem?_cons_zero, Option.bind_some]; rfl
theorem g20_3 : (run tb).code rd c20_3 (mk 25 f m) st = regB (evSteps tb (run tb) l20_3.1 (mk 25 f m) st) := gx_region e20_3 l20_3.2
theorem g20_4 : (run tb).code rd c20_4 (mk 25 f m) st = some (.ret, mk 25 f m, st) := gx_ret e20_4
noncomputable def c21_0 : Code := bodyOf Tryd.f21
theorem b21 : Tryd.f21.body = some c21_0 := rfl
theorem n21 : Tryd.f21.ntmps = 11 := rfl
theorem r21 : Tryd.f21.results = #[.tmp 2] := rfl
theorem fn21 : tb.fn 21 = some Tryd.f21 := by rw [tb_eq]; exact Tryd.func21
theorem run21 {args : List V} {st : St} (ha : args.length ≤ 11) : (run tb).call 21 args st = leave tb [.tmp 2] ((run tb).code none c21_0 (mk 11 (argF args) []) st) := call_run fn21 (tbmode 21) b21 n21 r21 ha
noncomputable def c21_1 : Code := kid c21_0 0
noncomputable def c21_2 : Code := kid c21_0 1
noncomputable def c21_3 : Code := kid c21_2 0
noncomputable def c21_4 : Code := kid c21_2 1
noncomputable def o21_1 : Array Oper := opsOf (kid (bodyOf Tryd.f21) 0)
noncomputable def o21_3 : Array Oper := opsOf (kid (kid (bodyOf Tryd.f21) 1) 0)
theorem e21_0 : c21_0 = .seq c21_1 c21_2 := rfl
theorem e21_1 : c21_1 = .region 0 o21_1 false := rfl
theorem e21_2 : c21_2 = .seq c21_3 c21_4 := rfl
theorem e21_3 : c21_3 = .region 1 o21_3 false := rfl
theorem e21_4 : c21_4 = .ret := rfl
theorem g21_0 : (run tb).code rd c21_0 (mk 11 f m) st = andThen ((run tb).code rd c21_1 (mk 11 f m) st) (fun fr st => (run tb).code rd c21_2 fr st) := gx_seq e21_0
noncomputable def l21_1 : { l : List Step // lightOf o21_1 = l } := by refine ⟨?_, ?h⟩; case h => simp only [lightOf, o21_1, opsOf, kid, bodyOf, Tryd.f21, Option.getD_some, List.map, stepOf, Option.map, List.getElem?_toArray, List.getElem?_cons_succ, List.getElem?_cons_zero, Option.bind_some]; rfl
theorem g21_1 : (run tb).code rd c21_1 (mk 11 f m) st = regB (evSteps tb (run tb) l21_1.1 (mk 11 f m) st) := gx_region e21_1 l21_1.2
theorem g21_2 : (run tb).code rd c21_2 (mk 11 f m) st = andThen ((run tb).code rd c21_3 (mk 11 f m) st) (fun fr st => (run tb).code rd c21_4 fr st) := gx_seq e21_2
noncomputable def l21_3 : { l : List Step // lightOf o21_3 = l } := by refine ⟨?_, ?h⟩; case h => simp only [lightOf, o21_3, opsOf, kid, bodyOf, Tryd.f21, Option.getD_some, List.map, stepOf, Option.map, List.getElem?_toArray, List.getElem?_cons_succ, List.getElem?_cons_zero, Option.bind_some]; rfl
theorem g21_3 : (run tb).code rd c21_3 (mk 11 f m) st = regB (evSteps tb (run tb) l21_3.1 (mk 11 f m) st) := gx_region e21_3 l21_3.2
theorem g21_4 : (run tb).code rd c21_4 (mk 11 f m) st = some (.ret, mk 11 f m, st) := gx_ret e21_4
noncomputable def c31_0 : Code := bodyOf Tryd.f31
theorem b31 : Tryd.f31.body = some c31_0 := rfl
theorem n31 : Tryd.f31.ntmps = 36 := rfl
theorem r31 : Tryd.f31.results = #[.tmp 6] := rfl
theorem fn31 : tb.fn 31 = some Tryd.f31 := by rw [tb_eq]; exact Tryd.func31
theorem run31 {args : List V} {st : St} (ha : args.length ≤ 36) : (run tb).call 31 args st = leave tb [.tmp 6] ((run tb).code none c31_0 (mk 36 (argF args) []) st) := call_run fn31 (tbmode 31) b31 n31 r31 ha
noncomputable def c31_1 : Code := kid c31_0 0
noncomputable def c31_2 : Code := kid c31_0 1
noncomputable def c31_3 : Code := kid c31_2 0
noncomputable def c31_4 : Code := kid c31_3 0
noncomputable def c31_5 : Code := kid c31_3 1
noncomputable def c31_6 : Code := kid c31_5 0
noncomputable def c31_7 : Code := kid c31_6 0
noncomputable def c31_8 : Code := kid c31_6 1
noncomputable def c31_9 : Code := kid c31_5 1
noncomputable def c31_10 : Code := kid c31_2 1
noncomputable def c31_11 : Code := kid c31_10 0
noncomputable def c31_12 : Code := kid c31_10 1
noncomputable def c31_13 : Code := kid c31_12 0
noncomputable def c31_14 : Code := kid c31_12 1
noncomputable def o31_1 : Array Oper := opsOf (kid (bodyOf Tryd.f31) 0)
noncomputable def o31_4 : Array Oper := opsOf (kid (kid (kid (bodyOf Tryd.f31) 1) 0) 0)
noncomputable def o31_7 : Array Oper := opsOf (kid (kid (kid (kid (kid (bodyOf Tryd.f31) 1) 0) 1) 0) 0)
noncomputable def o31_11 : Array Oper := opsOf (kid (kid (kid (bodyOf Tryd.f31) 1) 1) 0)
noncomputable def o31_13 : Array Oper := opsOf (kid (kid (kid (kid (bodyOf Tryd.f31) 1) 1) 1) 0)
theorem e31_0 : c31_0 = .seq c31_1 c31_2 := rfl
theorem e31_1 : c31_1 = .region 0 o31_1 false := rfl
theorem e31_2 : c31_2 = .seq c31_3 c31_10 := rfl
theorem e31_3 : c31_3 = .seq c31_4 c31_5 := rfl
theorem e31_4 : c31_4 = .region 1 o31_4 false := rfl
theorem e31_5 : c31_5 = .cond (.tmp 28) c31_6 c31_9 := rfl
theorem e31_6 : c31_6 = .seq c31_7 c31_8 := rfl
theorem e31_7 : c31_7 = .region 2 o31_7 false := rfl
theorem e31_8 : c31_8 = .ret := rfl
theorem e31_9 : c31_9 = .skip := rfl
theorem e31_10 : c31_10 = .seq c31_11 c31_12 := rfl
theorem e31_11 : c31_11 = .region 3 o31_11 false := rfl
theorem e31_12 : c31_12 = .seq c31_13 c31_14 := rfl
theorem e31_13 : c31_13 = .region 4 o31_13 false := rfl
theorem e31_14 : c31_14 = .ret := rfl
theorem g31_0 : (run tb).code rd c31_0 (mk 36 f m) st = andThen ((run tb).code rd c31_1 (mk 36 f m) st) (fun fr st => (run tb).code rd c31_2 fr st) := gx_seq e31_0
noncomputable def l31_1 : { l : List Step // lightOf o31_1 = l } := by refine ⟨?_, ?h⟩; case h => simp only [lightOf, o31_1, opsOf, kid, bodyOf, Tryd.f31, Option.getD_some, List.map, stepOf, Option.map, List.getElem?_toArray, List.getElem?_cons_succ, List.getElem?_cons_zero, Option.bind_some]; rfl
theorem g31_1 : (run tb).code rd c31_1 (mk 36 f m) st = regB (evSteps tb (run tb) l31_1.1 (mk 36 f m) st) := gx_region e31_1 l31_1.2
theorem g31_2 : (run tb).code rd c31_2 (mk 36 f m) st = andThen ((run tb).code rd c31_3 (mk 36 f m) st) (fun fr st => (run tb).code rd c31_10 fr st) := gx_seq e31_2
theorem g31_3 : (run tb).code rd c31_3 (mk 36 f m) st = andThen ((run tb).code rd c31_4 (mk 36 f m) st) (fun fr st => (run tb).code rd c31_5 fr st) := gx_seq e31_3
noncomputable def l31_4 : { l : List Step // lightOf o31_4 = l } := by refine ⟨?_, ?h⟩; case h => simp only [lightOf, o31_4, opsOf, kid, bodyOf, Tryd.f31, Option.getD_some, List.map, stepOf, Option.map, List.getElem?_toArray, List.getElem?_cons_succ, List.getElem?_cons_zero, Option.bind_some]; rfl
theorem g31_4 : (run tb).code rd c31_4 (mk 36 f m) st = regB (evSteps tb (run tb) l31_4.1 (mk 36 f m) st) := gx_region e31_4 l31_4.2
theorem g31_5 : (run tb).code rd c31_5 (mk 36 f m) st = branch (f 28) (fun x => (run tb).code rd (sel x c31_6 c31_9) (mk 36 f m) st) := gx_cond e31_5 (by decide)
theorem g31_6 : (run tb).code rd c31_6 (mk 36 f m) st = andThen ((run tb).code rd c31_7 (mk 36 f m) st) (fun fr st => (run tb).code rd c31_8 fr st) := gx_seq e31_6
noncomputable def l31_7 : { l : List Step // lightOf o31_7 = l } := by refine ⟨?_, ?h⟩; case h => simp only [lightOf, o31_7, opsOf, kid, bodyOf, Tryd.f31, Option.getD_some, List.map, stepOf, Option.map, List.getElem?_toArray, List.getElem?_cons_succ, List.getElem?_cons_zero, Option.bind_some]; rfl
theorem g31_7 : (run tb).code rd c31_7 (mk 36 f m) st = regB (evSteps tb (run tb) l31_7.1 (mk 36 f m) st) := gx_region e31_7 l31_7.2
theorem g31_8 : (run tb).code rd c31_8 (mk 36 f m) st = some (.ret, mk 36 f m, st) := gx_ret e31_8
theorem g31_9 : (run tb).code rd c31_9 (mk 36 f m) st = some (.normal, mk 36 f m, st) := gx_skip e31_9
theorem g31_10 : (run tb).code rd c31_10 (mk 36 f m) st = andThen ((run tb).code rd c31_11 (mk 36 f m) st) (fun fr st => (run tb).code rd c31_12 fr st) := gx_seq e31_10
noncomputable def l31_11 : { l : List Step // lightOf o31_11 = l } := by refine ⟨?_, ?h⟩; case h => simp only [lightOf, o31_11, opsOf, kid, bodyOf, Tryd.f31, Option.getD_some, List.map, stepOf, Option.map, List.getElem?_toArray, List.getElem?_cons_succ, List.getElem?_cons_zero, Option.bind_some]; rfl
theorem g31_11 : (run tb).code rd c31_11 (mk 36 f m) st = regB (evSteps tb (run tb) l31_11.1 (mk 36 f m) st) := gx_region e31_11 l31_11.2
theorem g31_12 : (run tb).code rd c31_12 (mk 36 f m) st = andThen ((run tb).code rd c31_13 (mk 36 f m) st) (fun fr st => (run tb).code rd c31_14 fr st) := gx_seq e31_12
noncomputable def l31_13 : { l : List Step // lightOf o31_13 = l } := by refine ⟨?_, ?h⟩; case h => simp only [lightOf, o31_13, opsOf, kid, bodyOf, Tryd.f31, Option.getD_some, List.map, stepOf, Option.map, List.getElem?_toArray, List.getElem?_cons_succ, List.getElem?_cons_zero, Option.bind_some]; rfl
theorem g31_13 : (run tb).code rd c31_13 (mk 36 f m) st = regB (evSteps tb (run tb) l31_13.1 (mk 36 f m) st) := gx_region e31_13 l31_13.2
theorem g31_14 : (run tb).code rd c31_14 (mk 36 f m) st = some (.ret, mk 36 f m, st) := gx_ret e31_14
noncomputable def c32_0 : Code := bodyOf Tryd.f32
theorem b32 : Tryd.f32.body = some c32_0 := rfl
theorem n32 : Tryd.f32.ntmps = 63 := rfl
theorem r32 : Tryd.f32.results = #[.tmp 6] := rfl
theorem fn32 : tb.fn 32 = some Tryd.f32 := by rw [tb_eq]; exact Tryd.func32
theorem run32 {args : List V} {st : St} (ha : args.length ≤ 63) : (run tb).call 32 args st = leave tb [.tmp 6] ((run tb).code none c32_0 (mk 63 (argF args) []) st) := call_run fn32 (tbmode 32) b32 n32 r32 ha
noncomputable def c32_1 : Code := kid c32_0 0
noncomputable def c32_2 : Code := kid c32_0 1
noncomputable def c32_3 : Code := kid c32_2 0
noncomputable def c32_4 : Code := kid c32_2 1
noncomputable def c32_5 : Code := kid c32_4 0
noncomputable def c32_6 : Code := kid c32_4 1
noncomputable def c32_7 : Code := kid c32_6 0
noncomputable def c32_8 : Code := kid c32_7 0
noncomputable def c32_9 : Code := kid c32_7 1
noncomputable def c32_10 : Code := kid c32_9 0
noncomputable def c32_11 : Code := kid c32_10 0
noncomputable def c32_12 : Code := kid c32_11 0
noncomputable def c32_13 : Code := kid c32_12 0
noncomputable def c32_14 : Code := kid c32_12 1
noncomputable def c32_15 : Code := kid c32_14 0
noncomputable def c32_16 : Code := kid c32_14 1
noncomputable def c32_17 : Code := kid c32_11 1
noncomputable def c32_18 : Code := kid c32_17 0
noncomputable def c32_19 : Code := kid c32_18 0
noncomputable def c32_20 : Code := kid c32_19 0
noncomputable def c32_21 : Code := kid c32_19 1
noncomputable def c32_22 : Code := kid c32_21 0
noncomputable def c32_23 : Code := kid c32_22 0
noncomputable def c32_24 : Code := kid c32_22 1
noncomputable def c32_25 : Code := kid c32_24 0
noncomputable def c32_26 : Code := kid c32_25 0
noncomputable def c32_27 : Code := kid c32_25 1
noncomputable def c32_28 : Code := kid c32_27 0
noncomputable def c32_29 : Code := kid c32_27 1
noncomputable def c32_30 : Code := kid c32_29 0
noncomputable def c32_31 : Code := kid c32_29 1
noncomputable def c32_32 : Code := kid c32_31 0
noncomputable def c32_33 : Code := kid c32_31 1
noncomputable def c32_34 : Code := kid c32_33 0
noncomputable def c32_35 : Code := kid c32_33 1
noncomputable def c32_36 : Code := kid c32_35 0
noncomputable def c32_37 : Code := kid c32_35 1
noncomputable def c32_38 : Code := kid c32_21 1
noncomputable def c32_39 : Code := kid c32_17 1
noncomputable def c32_40 : Code := kid c32_6 1
noncomputable def c32_41 : Code := kid c32_40 0
noncomputable def c32_42 : Code := kid c32_40 1
noncomputable def o32_1 : Array Oper := opsOf (kid (bodyOf Tryd.f32) 0)
noncomputable def o32_3 : Array Oper := opsOf (kid (kid (bodyOf Tryd.f32) 1) 0)
noncomputable def o32_5 : Array Oper := opsOf (kid (kid (kid (bodyOf Tryd.f32) 1) 1) 0)
noncomputable def o32_8 : Array Oper := opsOf (kid (kid (kid (kid (kid (bodyOf Tryd.f32) 1) 1) 1) 0) 0)
noncomputable def o32_13 : Array Oper := opsOf (kid (kid (kid (kid (kid (kid (kid (kid (kid (bodyOf Tryd.f32) 1) 1) 1) 0) 1) 0) 0) 0) 0)
noncomputable def o32_20 : Array Oper := opsOf (kid (kid (kid (kid (kid (kid (kid (kid (kid (kid (kid (bodyOf Tryd.f32) 1) 1) 1) 0) 1) 0) 0) 1) 0) 0) 0)
noncomputable def o32_23 : Array Oper := opsOf (kid (kid (kid (kid (kid (kid (kid (kid (kid (kid (kid (kid (kid (bodyOf Tryd.f32) 1) 1) 1) 0) 1) 0) 0) 1) 0) 0) 1) 0) 0)
noncomputable def o32_26 : Array Oper := opsOf (kid (kid (kid (kid (kid (kid (kid (kid (kid (kid (kid (kid (kid (kid (kid (bodyOf Tryd.f32) 1) 1) 1) 0) 1) 0) 0) 1) 0) 0) 1) 0) 1) 0) 0)
noncomputable def o32_28 : Array Oper := opsOf (kid (kid (kid (kid (kid (kid (kid (kid (kid (kid (kid (kid (kid (kid (kid (kid (bodyOf Tryd.f32) 1) 1) 1) 0) 1) 0) 0) 1) 0) 0) 1) 0) 1) 0) 1) 0)
noncomputable def o32_30 : Array Oper := opsOf (kid (kid (kid (kid (kid (kid (kid (kid (kid (kid (kid (kid (kid (kid (kid (kid (kid (bodyOf Tryd.f32) 1) 1) 1) 0) 1) 0) 0) 1) 0) 0) 1) 0) 1) 0) 1) 1) 0)
noncomputable def o32_32 : Array Oper := opsOf (kid (kid (kid (kid (kid (kid (kid (kid (kid (kid (kid (kid (kid (kid (kid (kid (kid (kid (bodyOf Tryd.f32) 1) 1) 1) 0) 1) 0) 0) 1) 0) 0) 1) 0) 1) 0) 1) 1) 1) 0)
noncomputable def o32_34 : Array Oper := opsOf (kid (kid (kid (kid (kid (kid (kid (kid (kid (kid (kid (kid (kid (kid (kid (kid (kid (kid (kid (bodyOf Tryd.f32) 1) 1) 1) 0) 1) 0) 0) 1) 0) 0) 1) 0) 1) 0) 1) 1) 1) 1) 0)
noncomputable def o32_36 : Array Oper := opsOf (kid (kid (kid (kid (kid (kid (kid (kid (kid (kid (kid (kid (kid (kid (kid (kid (kid (kid (kid (kid (bodyOf Tryd.f32) 1) 1) 1) 0) 1) 0) 0) 1) 0) 0) 1) 0) 1) 0) 1) 1) 1) 1) 1) 0)
noncomputable def o32_38 : Array Oper := opsOf (kid (kid (kid (kid (kid (kid (kid (kid (kid (kid (kid (kid (bodyOf Tryd.f32) 1) 1) 1) 0) 1) 0) 0) 1) 0) 0) 1) 1)
noncomputable def o32_39 : Array Oper := opsOf (kid (kid (kid (kid (kid (kid (kid (kid (kid (bodyOf Tryd.f32) 1) 1) 1) 0) 1) 0) 0) 1) 1)
noncomputable def o32_41 : Array Oper := opsOf (kid (kid (kid (kid (kid (bodyOf Tryd.f32) 1) 1) 1) 1) 0)
theorem e32_0 : c32_0 = .seq c32_1 c32_2 := rfl
theorem e32_1 : c32_1 = .region 0 o32_1 false := rfl
theorem e32_2 : c32_2 = .seq c32_3 c32_4 := rfl
theorem e32_3 : c32_3 = .region 1 o32_3 false := rfl
theorem e32_4 : c32_4 = .seq c32_5 c32_6 := rfl
theorem e32_5 : c32_5 = .region 2 o32_5 false := rfl
theorem e32_6 : c32_6 = .seq c32_7 c32_40 := rfl
theorem e32_7 : c32_7 = .seq c32_8 c32_9 := rfl
theorem e32_8 : c32_8 = .region 3 o32_8 false := rfl
theorem e32_9 : c32_9 = .block 0 c32_10 := rfl
theorem e32_10 : c32_10 = .loop c32_11 := rfl
theorem e32_11 : c32_11 = .seq c32_12 c32_17 := rfl
theorem e32_12 : c32_12 = .seq c32_13 c32_14 := rfl
theorem e32_13 : c32_13 = .region 4 o32_13 false := rfl
theorem e32_14 : c32_14 = .cond (.tmp 19) c32_15 c32_16 := rfl
theorem e32_15 : c32_15 = .skip := rfl
theorem e32_16 : c32_16 = .exit 0 := rfl
theorem e32_17 : c32_17 = .seq c32_18 c32_39 := rfl
theorem e32_18 : c32_18 = .block 1 c32_19 := rfl
theorem e32_19 : c32_19 = .seq c32_20 c32_21 := rfl
theorem e32_20 : c32_20 = .region 6 o32_20 false := rfl
theorem e32_21 : c32_21 = .seq c32_22 c32_38 := rfl
theorem e32_22 : c32_22 = .seq c32_23 c32_24 := rfl
theorem e32_23 : c32_23 = .region 7 o32_23 false := rfl
theorem e32_24 : c32_24 = .block 2 c32_25 := rfl
theorem e32_25 : c32_25 = .seq c32_26 c32_27 := rfl
theorem e32_26 : c32_26 = .region 8 o32_26 false := rfl
theorem e32_27 : c32_27 = .cond (.tmp 30) c32_28 c32_29 := rfl
theorem e32_28 : c32_28 = .region 9 o32_28 false := rfl
theorem e32_29 : c32_29 = .seq c32_30 c32_31 := rfl
theorem e32_30 : c32_30 = .region 10 o32_30 false := rfl
theorem e32_31 : c32_31 = .cond (.tmp 38) c32_32 c32_33 := rfl
theorem e32_32 : c32_32 = .region 11 o32_32 false := rfl
theorem e32_33 : c32_33 = .seq c32_34 c32_35 := rfl
theorem e32_34 : c32_34 = .region 12 o32_34 false := rfl
theorem e32_35 : c32_35 = .cond (.tmp 46) c32_36 c32_37 := rfl
theorem e32_36 : c32_36 = .region 13 o32_36 false := rfl
theorem e32_37 : c32_37 = .skip := rfl
theorem e32_38 : c32_38 = .region 14 o32_38 false := rfl
theorem e32_39 : c32_39 = .region 5 o32_39 false := rfl
theorem e32_40 : c32_40 = .seq c32_41 c32_42 := rfl
theorem e32_41 : c32_41 = .region 15 o32_41 false := rfl
theorem e32_42 : c32_42 = .ret := rfl
theorem g32_0 : (run tb).code rd c32_0 (mk 63 f m) st = andThen ((run tb).code rd c32_1 (mk 63 f m) st) (fun fr st => (run tb).code rd c32_2 fr st) := gx_seq e32_0
noncomputable def l32_1 : { l : List Step // lightOf o32_1 = l } := by refine ⟨?_, ?h⟩; case h => simp only [lightOf, o32_1, opsOf, kid, bodyOf, Tryd.f32, Option.getD_some, List.map, stepOf, Option.map, List.getElem?_toArray, List.getElem?_cons_succ, List.getElem?_cons_zero, Option.bind_some]; rfl
theorem g32_1 : (run tb).code rd c32_1 (mk 63 f m) st = regB (evSteps tb (run tb) l32_1.1 (mk 63 f m) st) := gx_region e32_1 l32_1.2
theorem g32_2 : (run tb).code rd c32_2 (mk 63 f m) st = andThen ((run tb).code rd c32_3 (mk 63 f m) st) (fun fr st => (run tb).code rd c32_4 fr st) := gx_seq e32_2
noncomputable def l32_3 : { l : List Step // lightOf o32_3 = l } := by refine ⟨?_, ?h⟩; case h => simp only [lightOf, o32_3, opsOf, kid, bodyOf, Tryd.f32, Option.getD_some, List.map, stepOf, Option.map, List.getElem?_toArray, List.getElem?_cons_succ, List.getElem?_cons_zero, Option.bind_some]; rfl
theorem g32_3 : (run tb).code rd c32_3 (mk 63 f m) st = regB (evSteps tb (run tb) l32_3.1 (mk 63 f m) st) := gx_region e32_3 l32_3.2
theorem g32_4 : (run tb).code rd c32_4 (mk 63 f m) st = andThen ((run tb).code rd c32_5 (mk 63 f m) st) (fun fr st => (run tb).code rd c32_6 fr st) := gx_seq e32_4
noncomputable def l32_5 : { l : List Step // lightOf o32_5 = l } := by refine ⟨?_, ?h⟩; case h => simp only [lightOf, o32_5, opsOf, kid, bodyOf, Tryd.f32, Option.getD_some, List.map, stepOf, Option.map, List.getElem?_toArray, List.getElem?_cons_succ, List.getElem?_cons_zero, Option.bind_some]; rfl
theorem g32_5 : (run tb).code rd c32_5 (mk 63 f m) st = regB (evSteps tb (run tb) l32_5.1 (mk 63 f m) st) := gx_region e32_5 l32_5.2
theorem g32_6 : (run tb).code rd c32_6 (mk 63 f m) st = andThen ((run tb).code rd c32_7 (mk 63 f m) st) (fun fr st => (run tb).code rd c32_40 fr st) := gx_seq e32_6
theorem g32_7 : (run tb).code rd c32_7 (mk 63 f m) st = andThen ((run tb).code rd c32_8 (mk 63 f m) st) (fun fr st => (run tb).code rd c32_9 fr st) := gx_seq e32_7
noncomputable def l32_8 : { l : List Step // lightOf o32_8 = l } := by refine ⟨?_, ?h⟩; case h => simp only [lightOf, o32_8, opsOf, kid, bodyOf, Tryd.f32, Option.getD_some, List.map, stepOf, Option.map, List.getElem?_toArray, List.getElem?_cons_succ, List.getElem?_cons_zero, Option.bind_some]; rfl
theorem g32_8 : (run tb).code rd c32_8 (mk 63 f m) st = regB (evSteps tb (run tb) l32_8.1 (mk 63 f m) st) := gx_region e32_8 l32_8.2
theorem g32_9 : (run tb).code rd c32_9 (mk 63 f m) st = closeB 0 ((run tb).code rd c32_10 (mk 63 f m) st) := gx_block e32_9
theorem g32_11 : (run tb).code rd c32_11 (mk 63 f m) st = andThen ((run tb).code rd c32_12 (mk 63 f m) st) (fun fr st => (run tb).code rd c32_17 fr st) := gx_seq e32_11
theorem g32_12 : (run tb).code rd c32_12 (mk 63 f m) st = andThen ((run tb).code rd c32_13 (mk 63 f m) st) (fun fr st => (run tb).code rd c32_14 fr st) := gx_seq e32_12
noncomputable def l32_13 : { l : List Step // lightOf o32_13 = l } := by refine ⟨?_, ?h⟩; case h => simp only [lightOf, o32_13, opsOf, kid, bodyOf, Tryd.f32, Option.getD_some, List.map, stepOf, Option.map, List.getElem?_toArray, List.getElem?_cons_succ, List.getElem?_cons_zero, Option.bind_some]; rfl
theorem g32_13 : (run tb).code rd c32_13 (mk 63 f m) st = regB (evSteps tb (run tb) l32_13.1 (mk 63 f m) st) := gx_region e32_13 l32_13.2
theorem g32_14 : (run tb).code rd c32_14 (mk 63 f m) st = branch (f 19) (fun x => (run tb).code rd (sel x c32_15 c32_16) (mk 63 f m) st) := gx_cond e32_14 (by decide)
theorem g32_15 : (run tb).code rd c32_15 (mk 63 f m) st = some (.normal, mk 63 f m, st) := gx_skip e32_15
theorem g32_16 : (run tb).code rd c32_16 (mk 63 f m) st = some (.exit 0, mk 63 f m, st) := gx_exit e32_16
theorem g32_17 : (run tb).code rd c32_17 (mk 63 f m) st = andThen ((run tb).code rd c32_18 (mk 63 f m) st) (fun fr st => (run tb).code rd c32_39 fr st) := gx_seq e32_17
theorem g32_18 : (run tb).code rd c32_18 (mk 63 f m) st = closeB 1 ((run tb).code rd c32_19 (mk 63 f m) st) := gx_block e32_18
theorem g32_19 : (run tb).code rd c32_19 (mk 63 f m) st = andThen ((run tb).code rd c32_20 (mk 63 f m) st) (fun fr st => (run tb).code rd c32_21 fr st) := gx_seq e32_19
noncomputable def l32_20 : { l : List Step // lightOf o32_20 = l } := by refine ⟨?_, ?h⟩; case h => simp only [lightOf, o32_20, opsOf, kid, bodyOf, Tryd.f32, Option.getD_some, List.map, stepOf, Option.map, List.getElem?_toArray, List.getElem?_cons_succ, List.getElem?_cons_zero, Option.bind_some]; rfl
theorem g32_20 : (run tb).code rd c32_20 (mk 63 f m) st = regB (evSteps tb (run tb) l32_20.1 (mk 63 f m) st) := gx_region e32_20 l32_20.2
theorem g32_21 : (run tb).code rd c32_21 (mk 63 f m) st = andThen ((run tb).code rd c32_22 (mk 63 f m) st) (fun fr st => (run tb).code rd c32_38 fr st) := gx_seq e32_21
theorem g32_22 : (run tb).code rd c32_22 (mk 63 f m) st = andThen ((run tb).code rd c32_23 (mk 63 f m) st) (fun fr st => (run tb).code rd c32_24 fr st) := gx_seq e32_22
noncomputable def l32_23 : { l : List Step // lightOf o32_23 = l } := by refine ⟨?_, ?h⟩; case h => simp only [lightOf, o32_23, opsOf, kid, bodyOf, Tryd.f32, Option.getD_some, List.map, stepOf, Option.map, List.getElem?_toArray, List.getElem?_cons_succ, List.getElem?_cons_zero, Option.bind_some]; rfl
theorem g32_23 : (run tb).code rd c32_23 (mk 63 f m) st = regB (evSteps tb (run tb) l32_23.1 (mk 63 f m) st) := gx_region e32_23 l32_23.2
theorem g32_24 : (run tb).code rd c32_24 (mk 63 f m) st = closeB 2 ((run tb).code rd c32_25 (mk 63 f m) st) := gx_block e32_24
theorem g32_25 : (run tb).code rd c32_25 (mk 63 f m) st = andThen ((run tb).code rd c32_26 (mk 63 f m) st) (fun fr st => (run tb).code rd c32_27 fr st) := gx_seq e32_25
noncomputable def l32_26 : { l : List Step // lightOf o32_26 = l } := by refine ⟨?_, ?h⟩; case h => simp only [lightOf, o32_26, opsOf, kid, bodyOf, Tryd.f32, Option.getD_some, List.map, stepOf, Option.map, List.getElem?_toArray, List.getElem?_cons_succ, List.getElem?_cons_zero, Option.bind_some]; rfl
theorem g32_26 : (run tb).code rd c32_26 (mk 63 f m) st = regB (evSteps tb (run tb) l32_26.1 (mk 63 f m) st) := gx_region e32_26 l32_26.2
theorem g32_27 : (run tb).code rd c32_27 (mk 63 f m) st = branch (f 30) (fun x => (run tb).code rd (sel x c32_28 c32_29) (mk 63 f m) st) := gx_cond e32_27 (by decide)
noncomputable def l32_28 : { l : List Step // lightOf o32_28 = l } := by refine ⟨?_, ?h⟩; case h => simp only [lightOf, o32_28, opsOf, kid, bodyOf, Tryd.f32, Option.getD_some, List.map, stepOf, Option.map, List.getElem?_toArray, List.getElem?_cons_succ, List.getElem?_cons_zero, Option.bind_some]; rfl
theorem g32_28 : (run tb).code rd c32_28 (mk 63 f m) st = regB (evSteps tb (run tb) l32_28.1 (mk 63 f m) st) := gx_region e32_28 l32_28.2
theorem g32_29 : (run tb).code rd c32_29 (mk 63 f m) st = andThen ((run tb).code rd c32_30 (mk 63 f m) st) (fun fr st => (run tb).code rd c32_31 fr st) := gx_seq e32_29
noncomputable def l32_30 : { l : List Step // lightOf o32_30 = l } := by refine ⟨?_, ?h⟩; case h => simp only [lightOf, o32_30, opsOf, kid, bodyOf, Tryd.f32, Option.getD_some, List.map, stepOf, Option.map, List.getElem?_toArray, List.getElem?_cons_succ, List.getElem?_cons_zero, Option.bind_some]; rfl
theorem g32_30 : (run tb).code rd c32_30 (mk 63 f m) st = regB (evSteps tb (run tb) l32_30.1 (mk 63 f m) st) := gx_region e32_30 l32_30.2
theorem g32_31 : (run tb).code rd c32_31 (mk 63 f m) st = branch (f 38) (fun x => (run tb).code rd (sel x c32_32 c32_33) (mk 63 f m) st) := gx_cond e32_31 (by decide)
noncomputable def l32_32 : { l : List Step // lightOf o32_32 = l } := by refine ⟨?_, ?h⟩; case h => simp only [lightOf, o32_32, opsOf, kid, bodyOf, Tryd.f32, Option.getD_some, List.map, stepOf, Option.map, List.getElem?_toArray, List.getElem?_cons_succ, List.getElem?_cons_zero, Option.bind_some]; rfl
theorem g32_32 : (run tb).code rd c32_32 (mk 63 f m) st = regB (evSteps tb (run tb) l32_32.1 (mk 63 f m) st) := gx_region e32_32 l32_32.2
theorem g32_33 : (run tb).code rd c32_33 (mk 63 f m) st = andThen ((run tb).code rd c32_34 (mk 63 f m) st) (fun fr st => (run tb).code rd c32_35 fr st) := gx_seq e32_33
noncomputable def l32_34 : { l : List Step // lightOf o32_34 = l } := by refine ⟨?_, ?h⟩; case h => simp only [lightOf, o32_34, opsOf, kid, bodyOf, Tryd.f32, Option.getD_some, List.map, stepOf, Option.map, List.getElem?_toArray, List.getElem?_cons_succ, List.getElem?_cons_zero, Option.bind_some]; rfl
theorem g32_34 : (run tb).code rd c32_34 (mk 63 f m) st = regB (evSteps tb (run tb) l32_34.1 (mk 63 f m) st) := gx_region e32_34 l32_34.2
theorem g32_35 : (run tb).code rd c32_35 (mk 63 f m) st = branch (f 46) (fun x => (run tb).code rd (sel x c32_36 c32_37) (mk 63 f m) st) := gx_cond e32_35 (by decide)
noncomputable def l32_36 : { l : List Step // lightOf o32_36 = l } := by refine ⟨?_, ?h⟩; case h => simp only [lightOf, o32_36, opsOf, kid, bodyOf, Tryd.f32, Option.getD_some, List.map, stepOf, Option.map, List.getElem?_toArray, List.getElem?_cons_succ, List.getElem?_cons_zero, Option.bind_some]; rfl
theorem g32_36 : (run tb).code rd c32_36 (mk 63 f m) st = regB (evSteps tb (run tb) l32_36.1 (mk 63 f m) st) := gx_region e32_36 l32_36.2
theorem g32_37 : (run tb).code rd c32_37 (mk 63 f m) st = some (.normal, mk 63 f m, st) := gx_skip e32_37
noncomputable def l32_38 : { l : List Step // lightOf o32_38 = l } := by refine ⟨?_, ?h⟩; case h => simp only [lightOf, o32_38, opsOf, kid, bodyOf, Tryd.f32, Option.getD_some, List.map, stepOf, Option.map, List.getElem?_toArray, List.getElem?_cons_succ, List.getElem?_cons_zero, Option.bind_some]; rfl
theorem g32_38 : (run tb).code rd c32_38 (mk 63 f m) st = regB (evSteps tb (run tb) l32_38.1 (mk 63 f m) st) := gx_region e32_38 l32_38.2
noncomputable def l32_39 : { l : List Step // lightOf o32_39 = l } := by refine ⟨?_, ?h⟩; case h => simp only [lightOf, o32_39, opsOf, kid, bodyOf, Tryd.f32, Option.getD_some, List.map, stepOf, Option.map, List.getElem?_toArray, List.getElem?_cons_succ, List.getElem?_cons_zero, Option.bind_some]; rfl
theorem g32_39 : (run tb).code rd c32_39 (mk 63 f m) st = regB (evSteps tb (run tb) l32_39.1 (mk 63 f m) st) := gx_region e32_39 l32_39.2
theorem g32_40 : (run tb).code rd c32_40 (mk 63 f m) st = andThen ((run tb).code rd c32_41 (mk 63 f m) st) (fun fr st => (run tb).code rd c32_42 fr st) := gx_seq e32_40
noncomputable def l32_41 : { l : List Step // lightOf o32_41 = l } := by refine ⟨?_, ?h⟩; case h => simp only [lightOf, o32_41, opsOf, kid, bodyOf, Tryd.f32, Option.getD_some, List.map, stepOf, Option.map, List.getElem?_toArray, List.getElem?_cons_succ, List.getElem?_cons_zero, Option.bind_some]; rfl
theorem g32_41 : (run tb).code rd c32_41 (mk 63 f m) st = regB (evSteps tb (run tb) l32_41.1 (mk 63 f m) st) := gx_region e32_41 l32_41.2
theorem g32_42 : (run tb).code rd c32_42 (mk 63 f m) st = some (.ret, mk 63 f m, st) := gx_ret e32_42
end Go.Proofs.YtgknieohkniojaaDoor
namespace Go.Proofs.YtgknieohkniojaaDoor
open Go.Abs
set_option maxRecDepth 100000
set_option linter.unusedSimpArgs false
set_option linter.unusedVariables false
set_option maxHeartbeats 4000000
theorem und40 : tb.und 40 = some (.struct (match Tryd.prog.underlying 40 with | some (.struct fs) => fs | _ => #[])) := by rw [tb_eq]; kernel_rfl
theorem und38 : tb.und 38 = some (.slice 4) := by rw [tb_eq]; kernel_rfl
theorem ty38 : tb.ty 38 = some { size := 1, bytes := 24, agg := false, zero := .list true (some true) [], und := .slice 4, plain := true } := by rw [tb_eq]; kernel_rfl
theorem size38 : tb.size 38 = some 1 := by rw [tb_eq]; kernel_rfl
theorem size4' : tb.size 4 = some 1 := by rw [tb_eq]; kernel_rfl
def bools (b : Nat) (S : Nat → Bool) : List V := (List.range b).map fun i => V.bool (S i)
theorem bools_len (b : Nat) (S : Nat → Bool) : (bools b S).length = b := by simp [bools]
theorem bools_get {b k : Nat} (S : Nat → Bool) (h : k < b) : (bools b S)[k]? = some (.bool (S k)) := by simp [bools, h]
theorem bools_set (b k : Nat) (S : Nat → Bool) (v : Bool) : (bools b S).set k (.bool v) = bools b (putAt S k v) := by
  apply List.ext_getElem?
  intro i
  rw [List.getElem?_set, bools_len]
  by_cases hi : i < b
  · by_cases hk : k = i
    · subst hk; rw [if_pos rfl, if_pos hi, bools_get _ hi]; simp [putAt]
    · have : ¬ i = k := fun h => hk h.symm
      rw [if_neg hk, bools_get _ hi, bools_get _ hi]; simp [putAt, this]
  · have e1 : ∀ S, (bools b S)[i]? = Option.none := fun S => by simp [bools]; omega
    by_cases hk : k = i
    · subst hk; rw [if_pos rfl, if_neg hi, e1]
    · rw [if_neg hk, e1, e1]
/-- The document's set lies in the store. -/
structure RefAt (st : St) (o : Nat) (iv : V) (ov b : Nat) (S : Nat → Bool) : Prop where
  hb : st.store[o]? = some (.box [iv])
  hi : iv = .slice ov 1 0 b ∧ st.store[ov]? = some (.vec false (bools b S)) ∨ b = 0 ∧ iv = .list true (some false) []
  hz : ∀ i, b ≤ i → S i = false
  hm : b ≤ 65536
/-- Nothing but one object has changed. -/
structure But (st st' : St) (x : Nat) : Prop where
  base : st'.base = st.base
  prot : st'.prot = st.prot
  len : st'.store.length = st.store.length
  same : ∀ i, i ≠ x → st'.store[i]? = st.store[i]?
theorem But.refl (st : St) (x : Nat) : But st st x := ⟨rfl, rfl, rfl, fun _ _ => rfl⟩
theorem But.set (st : St) (x : Nat) (o : O) : But st { st with store := st.store.set x o } x := ⟨rfl, rfl, by simp, fun i hi => by
  show (st.store.set x o)[i]? = _
  rw [List.getElem?_set_ne (Ne.symm hi)]⟩
theorem But.trans {a b c : St} {x : Nat} (h : But a b x) (h' : But b c x) : But a c x := ⟨h'.base.trans h.base, h'.prot.trans h.prot, h'.len.trans h.len, fun i hi => (h'.same i hi).trans (h.same i hi)⟩
theorem rhas_out (st : St) (o ov b : Nat) (iv : V) (S : Nat → Bool) (i : Int) (h : RefAt st o iv ov b S) (hi : ¬ (0 ≤ i ∧ i < b)) : (run tb).call 20 [.ptr o 0, .int .i64 i] st = some (.bool false, st) := by
  have hb := h.hb
  by_cases h0 : 0 ≤ i
  · have h1 : ¬ i < (b : Int) := by omega
    rcases h.hi with ⟨rfl, hv⟩ | ⟨rfl, rfl⟩
    · rw [run20 (by simp)]
      simp [g20_0, g20_1, g20_2, g20_3, g20_4, l20_1, l20_3, steps_nil, steps_cons, draws_nil, draws_cons, step_mk, stepB_some, stepB_none, memB_mk, thenS_some, regB_some, branch_bool, sel_true, sel_false, wanted_none, wanted_some, asB, mk_put, mk_put_none, arg_tmp, arg_const, arg_func, arg_global, upd_same, upd_ne, evPure, evArgs, m_load, m_store, m_alloc, m_box, m_call, m_lookup, m_mapUpdate, m_inv, evLoad, readCells, evFieldAddr, evIndexAddr, asIdx, ofValue, isPure, evBin, ib_lss, ib_leq, ib_gtr, ib_geq, ib_eql, ib_neq, evUn, leave_normal, leave_ret, finish, then_normal, then_exit, then_ret, close_normal, close_exit, close_ret, evConv, mk_marks, dropMarks, resOf, resList, mk_getD, argF, List.getD_cons_zero, List.getD_cons_succ, V.cells, evLen, kdOp, kdOf, readsOf, protS, eq_bool, eq_nil28, evStore, V.oneCell, putElem, splice, -List.getD_eq_getElem?_getD, -getElem?_pos, und55, und53, und22, size3, size53, size58, size22, ty3, ty4, ty53, ty58, ty22, h0, h1, hb, und40, und38, ty38, size38]
    · have h2 : ¬ i < 0 := by omega
      rw [run20 (by simp)]
      simp [g20_0, g20_1, g20_2, g20_3, g20_4, l20_1, l20_3, steps_nil, steps_cons, draws_nil, draws_cons, step_mk, stepB_some, stepB_none, memB_mk, thenS_some, regB_some, branch_bool, sel_true, sel_false, wanted_none, wanted_some, asB, mk_put, mk_put_none, arg_tmp, arg_const, arg_func, arg_global, upd_same, upd_ne, evPure, evArgs, m_load, m_store, m_alloc, m_box, m_call, m_lookup, m_mapUpdate, m_inv, evLoad, readCells, evFieldAddr, evIndexAddr, asIdx, ofValue, isPure, evBin, ib_lss, ib_leq, ib_gtr, ib_geq, ib_eql, ib_neq, evUn, leave_normal, leave_ret, finish, then_normal, then_exit, then_ret, close_normal, close_exit, close_ret, evConv, mk_marks, dropMarks, resOf, resList, mk_getD, argF, List.getD_cons_zero, List.getD_cons_succ, V.cells, evLen, kdOp, kdOf, readsOf, protS, eq_bool, eq_nil28, evStore, V.oneCell, putElem, splice, -List.getD_eq_getElem?_getD, -getElem?_pos, und55, und53, und22, size3, size53, size58, size22, ty3, ty4, ty53, ty58, ty22, h0, h2, hb, und40, und38, ty38, size38]
  · rw [run20 (by simp)]
    simp [g20_0, g20_1, g20_2, g20_3, g20_4, l20_1, l20_3, steps_nil, steps_cons, draws_nil, draws_cons, step_mk, stepB_some, stepB_none, memB_mk, thenS_some, regB_some, branch_bool, sel_true, sel_false, wanted_none, wanted_some, asB, mk_put, mk_put_none, arg_tmp, arg_const, arg_func, arg_global, upd_same, upd_ne, evPure, evArgs, m_load, m_store, m_alloc, m_box, m_call, m_lookup, m_mapUpdate, m_inv, evLoad, readCells, evFieldAddr, evIndexAddr, asIdx, ofValue, isPure, evBin, ib_lss, ib_leq, ib_gtr, ib_geq, ib_eql, ib_neq, evUn, leave_normal, leave_ret, finish, then_normal, then_exit, then_ret, close_normal, close_exit, close_ret, evConv, mk_marks, dropMarks, resOf, resList, mk_getD, argF, List.getD_cons_zero, List.getD_cons_succ, V.cells, evLen, kdOp, kdOf, readsOf, protS, eq_bool, eq_nil28, evStore, V.oneCell, putElem, splice, -List.getD_eq_getElem?_getD, -getElem?_pos, und55, und53, und22, size3, size53, size58, size22, ty3, ty4, ty53, ty58, ty22, h0, hb, und40, und38, ty38, size38]
theorem rhas_in (st : St) (o ov b k : Nat) (x : Bool) (bs : List V) (hb : st.store[o]? = some (.box [.slice ov 1 0 b])) (hv : st.store[ov]? = some (.vec false bs)) (hk : k < b) (hx : bs[k]? = some (.bool x)) : (run tb).call 20 [.ptr o 0, .int .i64 (k : Nat)] st = some (.bool x, st) := by
  rw [run20 (by simp)]
  simp [g20_0, g20_1, g20_2, g20_3, g20_4, l20_1, l20_3, steps_nil, steps_cons, draws_nil, draws_cons, step_mk, stepB_some, stepB_none, memB_mk, thenS_some, regB_some, branch_bool, sel_true, sel_false, wanted_none, wanted_some, asB, mk_put, mk_put_none, arg_tmp, arg_const, arg_func, arg_global, upd_same, upd_ne, evPure, evArgs, m_load, m_store, m_alloc, m_box, m_call, m_lookup, m_mapUpdate, m_inv, evLoad, readCells, evFieldAddr, evIndexAddr, asIdx, ofValue, isPure, evBin, ib_lss, ib_leq, ib_gtr, ib_geq, ib_eql, ib_neq, evUn, leave_normal, leave_ret, finish, then_normal, then_exit, then_ret, close_normal, close_exit, close_ret, evConv, mk_marks, dropMarks, resOf, resList, mk_getD, argF, List.getD_cons_zero, List.getD_cons_succ, V.cells, evLen, kdOp, kdOf, readsOf, protS, eq_bool, eq_nil28, evStore, V.oneCell, putElem, splice, -List.getD_eq_getElem?_getD, -getElem?_pos, und55, und53, und22, size3, size53, size58, size22, ty3, ty4, ty53, ty58, ty22, hb, hv, hk, hx, und40, und38, ty38, size38, size4', ty4]
theorem rhas_run (st : St) (o ov b : Nat) (iv : V) (S : Nat → Bool) (i : Int) (h : RefAt st o iv ov b S) : (run tb).call 20 [.ptr o 0, .int .i64 i] st = some (.bool (inS S i), st) := by
  by_cases hi : 0 ≤ i ∧ i < b
  · obtain ⟨k, rfl⟩ : ∃ k : Nat, i = k := ⟨i.toNat, by omega⟩
    have hk : k < b := by omega
    rcases h.hi with ⟨rfl, hv⟩ | ⟨hz, _⟩
    · rw [rhas_in st o ov b k _ _ h.hb hv hk (bools_get S hk), inS_nat']
    · omega
  · rw [rhas_out st o ov b iv S i h hi]
    have : inS S i = false := by
      unfold inS
      by_cases h0 : 0 ≤ i
      · rw [h.hz _ (by omega)]; simp
      · simp [h0]
    rw [this]
theorem rput_out (st : St) (o ov b : Nat) (iv : V) (S : Nat → Bool) (i : Int) (v : Bool) (h : RefAt st o iv ov b S) (hi : ¬ (0 ≤ i ∧ i < b)) : (run tb).call 31 [.ptr o 0, .int .i64 i, .bool v] st = some (.bool false, st) := by
  have hb := h.hb
  by_cases h0 : i < 0
  · rw [run31 (by simp)]
    simp [g31_0, g31_1, g31_2, g31_3, g31_4, g31_5, g31_6, g31_7, g31_8, g31_9, g31_10, g31_11, g31_12, g31_13, g31_14, l31_1, l31_4, l31_7, l31_11, l31_13, steps_nil, steps_cons, draws_nil, draws_cons, step_mk, stepB_some, stepB_none, memB_mk, thenS_some, regB_some, branch_bool, sel_true, sel_false, wanted_none, wanted_some, asB, mk_put, mk_put_none, arg_tmp, arg_const, arg_func, arg_global, upd_same, upd_ne, evPure, evArgs, m_load, m_store, m_alloc, m_box, m_call, m_lookup, m_mapUpdate, m_inv, evLoad, readCells, evFieldAddr, evIndexAddr, asIdx, ofValue, isPure, evBin, ib_lss, ib_leq, ib_gtr, ib_geq, ib_eql, ib_neq, evUn, leave_normal, leave_ret, finish, then_normal, then_exit, then_ret, close_normal, close_exit, close_ret, evConv, mk_marks, dropMarks, resOf, resList, mk_getD, argF, List.getD_cons_zero, List.getD_cons_succ, V.cells, evLen, kdOp, kdOf, readsOf, protS, eq_bool, eq_nil28, evStore, V.oneCell, putElem, splice, -List.getD_eq_getElem?_getD, -getElem?_pos, und55, und53, und22, size3, size53, size58, size22, ty3, ty4, ty53, ty58, ty22, h0, hb, und40, und38, ty38, size38]
  · have h1 : (b : Int) ≤ i := by omega
    rcases h.hi with ⟨rfl, hv⟩ | ⟨rfl, rfl⟩
    · rw [run31 (by simp)]
      simp [g31_0, g31_1, g31_2, g31_3, g31_4, g31_5, g31_6, g31_7, g31_8, g31_9, g31_10, g31_11, g31_12, g31_13, g31_14, l31_1, l31_4, l31_7, l31_11, l31_13, steps_nil, steps_cons, draws_nil, draws_cons, step_mk, stepB_some, stepB_none, memB_mk, thenS_some, regB_some, branch_bool, sel_true, sel_false, wanted_none, wanted_some, asB, mk_put, mk_put_none, arg_tmp, arg_const, arg_func, arg_global, upd_same, upd_ne, evPure, evArgs, m_load, m_store, m_alloc, m_box, m_call, m_lookup, m_mapUpdate, m_inv, evLoad, readCells, evFieldAddr, evIndexAddr, asIdx, ofValue, isPure, evBin, ib_lss, ib_leq, ib_gtr, ib_geq, ib_eql, ib_neq, evUn, leave_normal, leave_ret, finish, then_normal, then_exit, then_ret, close_normal, close_exit, close_ret, evConv, mk_marks, dropMarks, resOf, resList, mk_getD, argF, List.getD_cons_zero, List.getD_cons_succ, V.cells, evLen, kdOp, kdOf, readsOf, protS, eq_bool, eq_nil28, evStore, V.oneCell, putElem, splice, -List.getD_eq_getElem?_getD, -getElem?_pos, und55, und53, und22, size3, size53, size58, size22, ty3, ty4, ty53, ty58, ty22, h0, h1, hb, und40, und38, ty38, size38]
    · have h2 : 0 ≤ i := by omega
      rw [run31 (by simp)]
      simp [g31_0, g31_1, g31_2, g31_3, g31_4, g31_5, g31_6, g31_7, g31_8, g31_9, g31_10, g31_11, g31_12, g31_13, g31_14, l31_1, l31_4, l31_7, l31_11, l31_13, steps_nil, steps_cons, draws_nil, draws_cons, step_mk, stepB_some, stepB_none, memB_mk, thenS_some, regB_some, branch_bool, sel_true, sel_false, wanted_none, wanted_some, asB, mk_put, mk_put_none, arg_tmp, arg_const, arg_func, arg_global, upd_same, upd_ne, evPure, evArgs, m_load, m_store, m_alloc, m_box, m_call, m_lookup, m_mapUpdate, m_inv, evLoad, readCells, evFieldAddr, evIndexAddr, asIdx, ofValue, isPure, evBin, ib_lss, ib_leq, ib_gtr, ib_geq, ib_eql, ib_neq, evUn, leave_normal, leave_ret, finish, then_normal, then_exit, then_ret, close_normal, close_exit, close_ret, evConv, mk_marks, dropMarks, resOf, resList, mk_getD, argF, List.getD_cons_zero, List.getD_cons_succ, V.cells, evLen, kdOp, kdOf, readsOf, protS, eq_bool, eq_nil28, evStore, V.oneCell, putElem, splice, -List.getD_eq_getElem?_getD, -getElem?_pos, und55, und53, und22, size3, size53, size58, size22, ty3, ty4, ty53, ty58, ty22, h0, h2, hb, und40, und38, ty38, size38]
theorem rput_same (st : St) (o ov b k : Nat) (x v : Bool) (bs : List V) (hb : st.store[o]? = some (.box [.slice ov 1 0 b])) (hv : st.store[ov]? = some (.vec false bs)) (hk : k < b) (hx : bs[k]? = some (.bool x)) (he : (x == v) = true) : (run tb).call 31 [.ptr o 0, .int .i64 (k : Nat), .bool v] st = some (.bool false, st) := by
  have h1 : ¬ (b : Int) ≤ (k : Nat) := by omega
  have h2 : ¬ ((k : Nat) : Int) < 0 := by omega
  have h3 : ¬ b ≤ k := by omega
  rw [run31 (by simp)]
  simp [g31_0, g31_1, g31_2, g31_3, g31_4, g31_5, g31_6, g31_7, g31_8, g31_9, g31_10, g31_11, g31_12, g31_13, g31_14, l31_1, l31_4, l31_7, l31_11, l31_13, steps_nil, steps_cons, draws_nil, draws_cons, step_mk, stepB_some, stepB_none, memB_mk, thenS_some, regB_some, branch_bool, sel_true, sel_false, wanted_none, wanted_some, asB, mk_put, mk_put_none, arg_tmp, arg_const, arg_func, arg_global, upd_same, upd_ne, evPure, evArgs, m_load, m_store, m_alloc, m_box, m_call, m_lookup, m_mapUpdate, m_inv, evLoad, readCells, evFieldAddr, evIndexAddr, asIdx, ofValue, isPure, evBin, ib_lss, ib_leq, ib_gtr, ib_geq, ib_eql, ib_neq, evUn, leave_normal, leave_ret, finish, then_normal, then_exit, then_ret, close_normal, close_exit, close_ret, evConv, mk_marks, dropMarks, resOf, resList, mk_getD, argF, List.getD_cons_zero, List.getD_cons_succ, V.cells, evLen, kdOp, kdOf, readsOf, protS, eq_bool, eq_nil28, evStore, V.oneCell, putElem, splice, -List.getD_eq_getElem?_getD, -getElem?_pos, und55, und53, und22, size3, size53, size58, size22, ty3, ty4, ty53, ty58, ty22, hb, hv, hk, hx, h1, h2, h3, he, und40, und38, ty38, size38, size4', ty4]
theorem rput_turn (st : St) (o ov b k : Nat) (x v : Bool) (bs : List V) (hb : st.store[o]? = some (.box [.slice ov 1 0 b])) (hv : st.store[ov]? = some (.vec false bs)) (hl : Free st ov) (hk : k < b) (hx : bs[k]? = some (.bool x)) (he : (x == v) = false) : (run tb).call 31 [.ptr o 0, .int .i64 (k : Nat), .bool v] st = some (.bool true, { st with store := st.store.set ov (.vec false (bs.set k (.bool v))) }) := by
  have hkk : st.locked ov = false := by simp [St.locked, Nat.not_lt.2 hl.1, hl.2]
  have h1 : ¬ (b : Int) ≤ (k : Nat) := by omega
  have h2 : ¬ ((k : Nat) : Int) < 0 := by omega
  have h3 : ¬ b ≤ k := by omega
  rw [run31 (by simp)]
  simp [g31_0, g31_1, g31_2, g31_3, g31_4, g31_5, g31_6, g31_7, g31_8, g31_9, g31_10, g31_11, g31_12, g31_13, g31_14, l31_1, l31_4, l31_7, l31_11, l31_13, steps_nil, steps_cons, draws_nil, draws_cons, step_mk, stepB_some, stepB_none, memB_mk, thenS_some, regB_some, branch_bool, sel_true, sel_false, wanted_none, wanted_some, asB, mk_put, mk_put_none, arg_tmp, arg_const, arg_func, arg_global, upd_same, upd_ne, evPure, evArgs, m_load, m_store, m_alloc, m_box, m_call, m_lookup, m_mapUpdate, m_inv, evLoad, readCells, evFieldAddr, evIndexAddr, asIdx, ofValue, isPure, evBin, ib_lss, ib_leq, ib_gtr, ib_geq, ib_eql, ib_neq, evUn, leave_normal, leave_ret, finish, then_normal, then_exit, then_ret, close_normal, close_exit, close_ret, evConv, mk_marks, dropMarks, resOf, resList, mk_getD, argF, List.getD_cons_zero, List.getD_cons_succ, V.cells, evLen, kdOp, kdOf, readsOf, protS, eq_bool, eq_nil28, evStore, V.oneCell, putElem, splice, -List.getD_eq_getElem?_getD, -getElem?_pos, und55, und53, und22, size3, size53, size58, size22, ty3, ty4, ty53, ty58, ty22, hb, hv, hk, hx, h1, h2, h3, he, hkk, und40, und38, ty38, size38, size4', ty4]
/-- A number is put into the document's set. -/
def putS (b : Nat) (S : Nat → Bool) (i : Int) (v : Bool) : Nat → Bool := fun j => if (j : Int) = i ∧ j < b then v else S j
theorem putS_z {b : Nat} {S : Nat → Bool} {i : Int} {v : Bool} (h : ∀ j, b ≤ j → S j = false) : ∀ j, b ≤ j → putS b S i v j = false := fun j hj => by
  unfold putS; rw [if_neg (by omega)]; exact h j hj
theorem rput_run (st : St) (o ov b : Nat) (iv : V) (S : Nat → Bool) (i : Int) (v : Bool) (h : RefAt st o iv ov b S) (hl : Free st ov) :
    ∃ st', (run tb).call 31 [.ptr o 0, .int .i64 i, .bool v] st = some (.bool (decide (0 ≤ i) && decide (i < b) && (inS S i != v)), st') ∧ RefAt st' o iv ov b (putS b S i v) ∧ But st st' ov := by
  by_cases hi : 0 ≤ i ∧ i < b
  · obtain ⟨k, rfl⟩ : ∃ k : Nat, i = k := ⟨i.toNat, by omega⟩
    have hk : k < b := by omega
    have e1 : (decide (0 ≤ (k : Int)) && decide ((k : Int) < b)) = true := by simp [hk]
    rcases h.hi with ⟨rfl, hv⟩ | ⟨hz, _⟩
    · rw [e1, inS_nat']
      cases he : S k == v with
      | true =>
        refine ⟨st, ?_, ⟨h.hb, .inl ⟨rfl, ?_⟩, putS_z h.hz, h.hm⟩, But.refl _ _⟩
        · rw [rput_same st o ov b k _ v _ h.hb hv hk (bools_get S hk) he]
          have : (S k != v) = false := by simp only [bne, he]; rfl
          rw [this]; rfl
        · have : putS b S k v = S := by
            funext j
            unfold putS
            split
            · rename_i hj
              have : j = k := by omega
              subst this
              exact (eq_of_beq he).symm
            · rfl
          rw [this]; exact hv
      | false =>
        have hne : o ≠ ov := fun e => by have := h.hb; rw [e, hv] at this; cases this
        refine ⟨{ st with store := st.store.set ov (.vec false ((bools b S).set k (.bool v))) }, ?_, ⟨?_, .inl ⟨rfl, ?_⟩, putS_z h.hz, h.hm⟩, But.set _ _ _⟩
        · rw [rput_turn st o ov b k _ v _ h.hb hv hl hk (bools_get S hk) he]
          have : (S k != v) = true := by simp only [bne, he]; rfl
          rw [this]; rfl
        · show (st.store.set ov _)[o]? = _
          rw [List.getElem?_set_ne (Ne.symm hne)]; exact h.hb
        · show (st.store.set ov _)[ov]? = _
          rw [List.getElem?_set_self (lt_of_at hv), bools_set]
          have : putAt S k v = putS b S k v := by
            funext j
            unfold putAt putS
            by_cases hj : j = k
            · subst hj; simp [hk]
            · have : ¬ ((j : Int) = k ∧ j < b) := by omega
              rw [if_neg hj, if_neg this]
          rw [this]
    · omega
  · refine ⟨st, ?_, ?_, But.refl _ _⟩
    · rw [rput_out st o ov b iv S i v h hi]
      have : (decide (0 ≤ i) && decide (i < b)) = false := by rw [← Bool.decide_and]; exact decide_eq_false hi
      rw [this]; rfl
    · have : putS b S i v = S := by
        funext j
        unfold putS
        rw [if_neg]
        intro hj
        exact hi ⟨by omega, by omega⟩
      rw [this]; exact h
theorem ty40 : tb.ty 40 = some { size := 1, bytes := 24, agg := true, zero := .agg [.list true (some true) []], und := .struct (match Tryd.prog.underlying 40 with | some (.struct fs) => fs | _ => #[]), plain := true } := by rw [tb_eq]; kernel_rfl
theorem places40 : placesOf tb (match Tryd.prog.underlying 40 with | some (.struct fs) => fs | _ => #[]).toList = some [(0, 1)] := by rw [tb_eq]; kernel_rfl
theorem build40s (r s o l : Nat) : evBuild tb 40 [(0, .slice r s o l)] = some (.agg [.slice r s o l]) := by
  unfold evBuild
  rw [ty40]
  simp only [places40]
  simp [fill, V.cells]
theorem build40l (f : Bool) (nl : Option Bool) (xs : List V) : evBuild tb 40 [(0, .list f nl xs)] = some (.agg [.list f nl xs]) := by
  unfold evBuild
  rw [ty40]
  simp only [places40]
  simp [fill, V.cells]
theorem make38 {fr : Fr} {st : St} {l c : Operand} {n : Nat} (hl : evArg tb fr l = some (.int .i64 n)) (hc : evArg tb fr c = some (.int .i64 n)) (hn : n < 1048576) {S : Go.Abs.S} :
    evMem tb S fr st (.makeSlice 38 l c) = some (.slice st.store.length 1 0 n, { st with store := st.store ++ [.vec false (List.replicate n (.bool false))] }) :=
  m_makeSlice und38 ty4 (by decide) rfl hl hc (by show n * 1 < 2 ^ 40; omega) (by omega)
theorem bools_empty (b : Nat) : List.replicate b (V.bool false) = bools b emptyS := by
  apply List.ext_getElem?
  intro i
  by_cases hi : i < b
  · rw [bools_get _ hi]; simp [hi, emptyS]
  · have : (bools b emptyS)[i]? = Option.none := by simp [bools]; omega
    rw [this]; simp; omega
def putAllS (b : Nat) (S : Nat → Bool) (is : List Int) : Nat → Bool := is.foldl (fun S i => putS b S i true) S
theorem putS_add (b : Nat) (S : Nat → Bool) (i : Int) : putS b S i true = addS b S i := by
  funext j
  unfold putS addS
  by_cases h : (j : Int) = i ∧ j < b
  · rw [if_pos h]; simp [h.1, h.2]
  · rw [if_neg h]
    have : (decide (j < b) && decide ((j : Int) = i)) = false := by
      rw [← Bool.decide_and]; exact decide_eq_false (fun e => h ⟨e.2, e.1⟩)
    rw [this]; simp
theorem putS_cut (b : Nat) (S : Nat → Bool) (i : Int) (h : ∀ j, b ≤ j → S j = false) : putS b S i false = cutS S i := by
  funext j
  unfold putS cutS
  by_cases hj : (j : Int) = i ∧ j < b
  · rw [if_pos hj]; simp [hj.1]
  · rw [if_neg hj]
    by_cases he : (j : Int) = i
    · have : ¬ j < b := fun e => hj ⟨he, e⟩
      rw [h j (by omega)]; simp
    · simp [he]
theorem rnew_loop (o ov b : Nat) (iv : V) (full : Bool) (nl : Option Bool) (is : List Int) (hlen : is.length < 2 ^ 40) : ∀ (d k : Nat) (S : Nat → Bool) (st : St) (f : Nat → V), k + d = is.length → RefAt st o iv ov b S → Free st ov →
    f 1 = .list full nl (ints is) → f 6 = .int .i64 (k : Nat) → f 5 = .ptr o 0 →
    Out 26 [] (fun e f' st' => e = .exit 0 ∧ RefAt st' o iv ov b (addAll b S (is.drop k)) ∧ But st st' ov ∧ f' 5 = .ptr o 0) ((run tb).code none c11_8 (mk 26 f []) st)
  | 0, k, S, st, f, hk, hs, hl, h1, h6, h5 => by
    have hk : k = is.length := hk
    subst hk
    rw [go_loop_of e11_8]
    simp [g11_9, g11_10, g11_11, g11_12, g11_13, g11_14, g11_15, g11_16, g11_17, g11_18, l11_11, l11_17, l11_18, steps_nil, steps_cons, draws_nil, draws_cons, step_mk, stepB_some, stepB_none, memB_mk, thenS_some, regB_some, branch_bool, sel_true, sel_false, wanted_none, wanted_some, asB, mk_put, mk_put_none, arg_tmp, arg_const, arg_func, arg_global, upd_same, upd_ne, evPure, evArgs, m_load, m_store, m_alloc, m_box, m_call, m_lookup, m_mapUpdate, m_inv, evLoad, readCells, evFieldAddr, evIndexAddr, asIdx, ofValue, isPure, evBin, ib_lss, ib_leq, ib_gtr, ib_geq, ib_eql, ib_neq, evUn, leave_normal, leave_ret, finish, then_normal, then_exit, then_ret, close_normal, close_exit, close_ret, evConv, mk_marks, dropMarks, resOf, resList, mk_getD, argF, List.getD_cons_zero, List.getD_cons_succ, V.cells, evLen, kdOp, kdOf, readsOf, protS, eq_bool, eq_nil28, evStore, V.oneCell, putElem, splice, -List.getD_eq_getElem?_getD, -getElem?_pos, und55, und53, und22, size3, size53, size58, size22, ty3, ty4, ty53, ty58, ty22, h1, h6, h5, ints_len]
    refine .one ⟨rfl, ?_, But.refl _ _, by simp [upd_ne, h5]⟩
    first | exact hs | (have h := List.drop_length (l := is); rw [h]; exact hs)
  | d + 1, k, S, st, f, hk, hs, hl, h1, h6, h5 => by
    have hlt : k < is.length := by omega
    have hi := ints_get hlt
    obtain ⟨st1, hp, hs1, hbut⟩ := rput_run st o ov b iv S is[k] true hs hl
    rw [putS_add] at hs1
    have ih := rnew_loop o ov b iv full nl is hlen d (k + 1) (addS b S is[k]) st1
    have ed : is.drop k = is[k] :: is.drop (k + 1) := List.drop_eq_getElem_cons hlt
    have a2 : intBin .add .i64 (k : Int) 1 = some (.int .i64 ((k + 1 : Nat) : Int)) := by rw [add64 (by omega) (by omega)]; simp
    rw [ed]
    generalize is[k] = i at *
    rw [go_loop_of e11_8]
    simp [g11_9, g11_10, g11_11, g11_12, g11_13, g11_14, g11_15, g11_16, g11_17, g11_18, l11_11, l11_17, l11_18, steps_nil, steps_cons, draws_nil, draws_cons, step_mk, stepB_some, stepB_none, memB_mk, thenS_some, regB_some, branch_bool, sel_true, sel_false, wanted_none, wanted_some, asB, mk_put, mk_put_none, arg_tmp, arg_const, arg_func, arg_global, upd_same, upd_ne, evPure, evArgs, m_load, m_store, m_alloc, m_box, m_call, m_lookup, m_mapUpdate, m_inv, evLoad, readCells, evFieldAddr, evIndexAddr, asIdx, ofValue, isPure, evBin, ib_lss, ib_leq, ib_gtr, ib_geq, ib_eql, ib_neq, evUn, leave_normal, leave_ret, finish, then_normal, then_exit, then_ret, close_normal, close_exit, close_ret, evConv, mk_marks, dropMarks, resOf, resList, mk_getD, argF, List.getD_cons_zero, List.getD_cons_succ, V.cells, evLen, kdOp, kdOf, readsOf, protS, eq_bool, eq_nil28, evStore, V.oneCell, putElem, splice, -List.getD_eq_getElem?_getD, -getElem?_pos, und55, und53, und22, size3, size53, size58, size22, ty3, ty4, ty53, ty58, ty22, h1, h6, h5, hi, hp, a2, hlt, ints_len]
    refine (ih _ (by omega) hs1 ⟨by rw [hbut.base]; exact hl.1, by rw [hbut.prot]; exact hl.2⟩ ?_ ?_ ?_).mono ?_
    · simp [upd_same, upd_ne, h1]
    · simp [upd_same, upd_ne]
    · simp [upd_same, upd_ne, h5]
    · rintro e f' st' ⟨a, c, dd, e'⟩
      exact ⟨a, c, hbut.trans dd, e'⟩
theorem rnew_run (st : St) (bd : Int) (b : Nat) (full : Bool) (nl : Option Bool) (is : List Int) (hlen : is.length < 2 ^ 40) (hok : okSt st) (hb : max 0 (min bd 65536) = (b : Int)) :
    ∃ st', (run tb).call 11 [.int .i64 bd, .list full nl (ints is)] st = some (.ptr (st.store.length + 1) 0, st') ∧ RefAt st' (st.store.length + 1) (.slice st.store.length 1 0 b) st.store.length b (addAll b emptyS is) ∧ Grows st st' ∧ st'.store.length = st.store.length + 2 := by
  have hb1 : b ≤ 65536 := by omega
  have hm2 : b < 1048576 := by omega
  have hw := bools_empty b
  have hs : RefAt { st with store := st.store ++ [.vec false (bools b emptyS), .box [.slice st.store.length 1 0 b]] } (st.store.length + 1) (.slice st.store.length 1 0 b) st.store.length b emptyS := ⟨by
    show (st.store ++ _)[_]? = _
    rw [List.getElem?_append_right (by omega)]; simp, .inl ⟨rfl, by
    show (st.store ++ _)[_]? = _
    rw [List.getElem?_append_right (by omega)]; simp⟩, fun _ _ => rfl, hb1⟩
  have hfree : Free { st with store := st.store ++ [.vec false (bools b emptyS), .box [.slice st.store.length 1 0 b]] } st.store.length := ⟨hok.1, fun hm => by have := hok.2 _ hm; omega⟩
  suffices H : ∀ Q : V → St → Prop, (∀ st', RefAt st' (st.store.length + 1) (.slice st.store.length 1 0 b) st.store.length b (addAll b emptyS is) → But { st with store := st.store ++ [.vec false (bools b emptyS), .box [.slice st.store.length 1 0 b]] } st' st.store.length → Q (.ptr (st.store.length + 1) 0) st') → Ret Q ((run tb).call 11 [.int .i64 bd, .list full nl (ints is)] st) by
    obtain ⟨v, st', h1, rfl, h3, h4⟩ := H (fun v st' => v = .ptr (st.store.length + 1) 0 ∧ RefAt st' (st.store.length + 1) (.slice st.store.length 1 0 b) st.store.length b (addAll b emptyS is) ∧ But { st with store := st.store ++ [.vec false (bools b emptyS), .box [.slice st.store.length 1 0 b]] } st' st.store.length) (fun st' a c => ⟨rfl, a, c⟩)
    refine ⟨st', h1, h3, ⟨h4.base, h4.prot, ?_, fun i hi => ?_⟩, ?_⟩
    · rw [h4.len]; simp
    · rw [h4.same i (by omega)]
      show (st.store ++ _)[i]? = _
      rw [List.getElem?_append_left hi]
    · rw [h4.len]; simp
  intro Q hQ
  rw [run11 (by simp)]
  simp [g11_0, g11_1, g11_2, g11_3, g11_4, g11_5, g11_6, g11_7, g11_19, g11_20, g11_21, l11_1, l11_3, l11_6, l11_20, steps_nil, steps_cons, draws_nil, draws_cons, step_mk, stepB_some, stepB_none, memB_mk, thenS_some, regB_some, branch_bool, sel_true, sel_false, wanted_none, wanted_some, asB, mk_put, mk_put_none, arg_tmp, arg_const, arg_func, arg_global, upd_same, upd_ne, evPure, evArgs, m_load, m_store, m_alloc, m_box, m_call, m_lookup, m_mapUpdate, m_inv, evLoad, readCells, evFieldAddr, evIndexAddr, asIdx, ofValue, isPure, evBin, ib_lss, ib_leq, ib_gtr, ib_geq, ib_eql, ib_neq, evUn, leave_normal, leave_ret, finish, then_normal, then_exit, then_ret, close_normal, close_exit, close_ret, evConv, mk_marks, dropMarks, resOf, resList, mk_getD, argF, List.getD_cons_zero, List.getD_cons_succ, V.cells, evLen, kdOp, kdOf, readsOf, protS, eq_bool, eq_nil28, evStore, V.oneCell, putElem, splice, -List.getD_eq_getElem?_getD, -getElem?_pos, und55, und53, und22, size3, size53, size58, size22, ty3, ty4, ty53, ty58, ty22, min_int, max_int, hb, make38 (n := b), hm2, hw, build40s, St.new]
  refine Out.use (C := fun o => Ret Q (leave tb _ (andThen (closeB 0 o) _))) (rnew_loop (st.store.length + 1) st.store.length b (.slice st.store.length 1 0 b) full nl is hlen is.length 0 emptyS { st with store := st.store ++ [.vec false (bools b emptyS), .box [.slice st.store.length 1 0 b]] } _ (by omega) hs hfree ?_ ?_ ?_) ?_
  · simp [upd_same, upd_ne, argF]
  · simp [upd_same, upd_ne]
  · simp [upd_same, upd_ne]
  · rintro e f st' ⟨rfl, h3, h4, h5⟩
    simp [g11_19, g11_20, g11_21, l11_20, steps_nil, steps_cons, draws_nil, draws_cons, step_mk, stepB_some, stepB_none, memB_mk, thenS_some, regB_some, branch_bool, sel_true, sel_false, wanted_none, wanted_some, asB, mk_put, mk_put_none, arg_tmp, arg_const, arg_func, arg_global, upd_same, upd_ne, evPure, evArgs, m_load, m_store, m_alloc, m_box, m_call, m_lookup, m_mapUpdate, m_inv, evLoad, readCells, evFieldAddr, evIndexAddr, asIdx, ofValue, isPure, evBin, ib_lss, ib_leq, ib_gtr, ib_geq, ib_eql, ib_neq, evUn, leave_normal, leave_ret, finish, then_normal, then_exit, then_ret, close_normal, close_exit, close_ret, evConv, mk_marks, dropMarks, resOf, resList, mk_getD, argF, List.getD_cons_zero, List.getD_cons_succ, V.cells, evLen, kdOp, kdOf, readsOf, protS, eq_bool, eq_nil28, evStore, V.oneCell, putElem, splice, -List.getD_eq_getElem?_getD, -getElem?_pos, und55, und53, und22, size3, size53, size58, size22, ty3, ty4, ty53, ty58, ty22, h5]
    exact .one (hQ st' h3 h4)
end Go.Proofs.YtgknieohkniojaaDoor
namespace Go.Proofs.YtgknieohkniojaaDoor
open Go.Abs
set_option maxRecDepth 100000
set_option linter.unusedSimpArgs false
set_option linter.unusedVariables false
set_option maxHeartbeats 4000000
theorem RefAt.grow {st st' : St} {o ov b : Nat} {iv : V} {S : Nat → Bool} (h : RefAt st o iv ov b S) (g : Grows st st') : RefAt st' o iv ov b S :=
  ⟨g.at_ h.hb, by
    rcases h.hi with ⟨h1, h2⟩ | h1
    · exact .inl ⟨h1, g.at_ h2⟩
    · exact .inr h1, h.hz, h.hm⟩
theorem RefAt.but {st st' : St} {o ov b x : Nat} {iv : V} {S : Nat → Bool} (h : RefAt st o iv ov b S) (g : But st st' x) (h1 : x ≠ o) (h2 : x ≠ ov) : RefAt st' o iv ov b S :=
  ⟨by rw [g.same _ (Ne.symm h1)]; exact h.hb, by
    rcases h.hi with ⟨h3, h4⟩ | h3
    · exact .inl ⟨h3, by rw [g.same _ (Ne.symm h2)]; exact h4⟩
    · exact .inr h3, h.hz, h.hm⟩
theorem SetAt.but {st st' : St} {r rv b x : Nat} {S : Nat → Bool} (h : SetAt st r rv b S) (g : But st st' x) (h1 : x ≠ r) (h2 : x ≠ rv) : SetAt st' r rv b S :=
  ⟨by rw [g.same _ (Ne.symm h1)]; exact h.hb, by rw [g.same _ (Ne.symm h2)]; exact h.hv, h.hz, h.hm⟩
theorem build38 {fr : Fr} {st : St} {S : Go.Abs.S} : evMem tb S fr st (.buildSlice 38 0 #[]) = some (.list true (some false) [], st) := by
  show evMem0 tb fr st (.buildSlice 38 0 #[]) = _
  unfold evMem0
  simp [evArgs, und38, ty4, setAll, V.cells]
theorem append38 {fr : Fr} {st : St} {S : Go.Abs.S} {x y : Operand} {nl : Option Bool} {rv m : Nat} {ws : List V} (hx : evArg tb fr x = some (.list true nl [])) (hy : evArg tb fr y = some (.slice rv 1 0 m))
    (h2 : st.store[rv]? = some (.vec false ws)) (hw : ws.length = m) (ho : ws.all (fun v => v.cells.length == 1 && v.cells.all V.oneCell) = true) (hm : m < 70000) :
    evMem tb S fr st (.call { callee := .builtin .append, args := #[x, y], argTypes := #[38, 38] }) = some (if m = 0 then (.list true nl [], st) else (.slice st.store.length 1 0 m, { st with store := st.store ++ [.vec false ws] })) := by
  show evMem0 tb fr st (.call { callee := .builtin .append, args := #[x, y], argTypes := #[38, 38] }) = _
  have hargs : evArgs tb fr (#[x, y] : Array Operand).toList = some [.list true nl [], .slice rv 1 0 m] := by simp [evArgs, hx, hy]
  have hsrc : srcElems st (.slice rv 1 0 m) = some ws := by
    simp only [srcElems, h2]
    rw [if_pos (by omega), List.drop_zero, List.take_of_length_le (by omega)]
  have e : ((#[38, 38] : Array TypeId)[1]?).bind tb.und = some (.slice 4) := und38
  have e0 : (#[38, 38] : Array TypeId)[0]? = some 38 := rfl
  unfold evMem0
  simp only [hargs, e0, e]
  unfold evAppend
  simp only [und38, ty4, hsrc, ho]
  by_cases hz : m = 0
  · subst hz
    have : ws = [] := List.eq_nil_of_length_eq_zero hw
    subst this
    simp
  · have hne : ws.isEmpty = false := by cases ws with | nil => exact absurd hw (fun h => hz h.symm) | cons a l => rfl
    simp only [hne, hz, if_false]
    simp [hw]
    omega
theorem append38e {fr : Fr} {st : St} {S : Go.Abs.S} {x y : Operand} {nl nl' : Option Bool} {f : Bool} (hx : evArg tb fr x = some (.list true nl [])) (hy : evArg tb fr y = some (.list f nl' [])) :
    evMem tb S fr st (.call { callee := .builtin .append, args := #[x, y], argTypes := #[38, 38] }) = some (.list true nl [], st) := by
  show evMem0 tb fr st (.call { callee := .builtin .append, args := #[x, y], argTypes := #[38, 38] }) = _
  have hargs : evArgs tb fr (#[x, y] : Array Operand).toList = some [.list true nl [], .list f nl' []] := by simp [evArgs, hx, hy]
  have e : ((#[38, 38] : Array TypeId)[1]?).bind tb.und = some (.slice 4) := und38
  have e0 : (#[38, 38] : Array TypeId)[0]? = some 38 := rfl
  unfold evMem0
  simp only [hargs, e0, e]
  unfold evAppend
  simp only [und38, ty4, srcElems]
  simp
theorem bools_one (b : Nat) (S : Nat → Bool) : (bools b S).all (fun v => v.cells.length == 1 && v.cells.all V.oneCell) = true := by
  rw [List.all_eq_true]
  intro v hv
  unfold bools at hv
  obtain ⟨k, _, rfl⟩ := List.mem_map.1 hv
  rfl
theorem rcopy_run (st : St) (o ov b : Nat) (iv : V) (S : Nat → Bool) (h : RefAt st o iv ov b S) :
    ∃ k iv' st', (run tb).call 21 [.ptr o 0] st = some (.ptr k 0, st') ∧ RefAt st' k iv' st.store.length b S ∧ Grows st st' ∧ st.store.length ≤ k ∧ k < st'.store.length := by
  have hb := h.hb
  have hm := h.hm
  by_cases hz : b = 0
  · subst hz
    have hap : ∀ fr : Fr, evArg tb fr (.tmp 3) = some (.list true (some false) []) → evArg tb fr (.tmp 7) = some iv → evMem tb (run tb) fr st (.call { callee := .builtin .append, args := #[.tmp 3, .tmp 7], argTypes := #[38, 38] }) = some (.list true (some false) [], st) := fun fr hx hy => by
      rcases h.hi with ⟨rfl, hv⟩ | ⟨_, rfl⟩
      · have := append38 (st := st) (S := run tb) hx hy hv (bools_len _ _) (bools_one 0 S) (by omega)
        rw [if_pos rfl] at this; exact this
      · exact append38e hx hy
    refine ⟨st.store.length, .list true (some false) [], { st with store := st.store ++ [.box [.list true (some false) []]] }, ?_, ⟨?_, .inr ⟨rfl, rfl⟩, h.hz, h.hm⟩, (Grows.refl st).app _, Nat.le_refl _, by simp⟩
    · rw [run21 (by simp)]
      simp [g21_0, g21_1, g21_2, g21_3, g21_4, l21_1, l21_3, steps_nil, steps_cons, draws_nil, draws_cons, step_mk, stepB_some, stepB_none, memB_mk, thenS_some, regB_some, branch_bool, sel_true, sel_false, wanted_none, wanted_some, asB, mk_put, mk_put_none, arg_tmp, arg_const, arg_func, arg_global, upd_same, upd_ne, evPure, evArgs, m_load, m_store, m_alloc, m_box, m_call, m_lookup, m_mapUpdate, m_inv, evLoad, readCells, evFieldAddr, evIndexAddr, asIdx, ofValue, isPure, evBin, ib_lss, ib_leq, ib_gtr, ib_geq, ib_eql, ib_neq, evUn, leave_normal, leave_ret, finish, then_normal, then_exit, then_ret, close_normal, close_exit, close_ret, evConv, mk_marks, dropMarks, resOf, resList, mk_getD, argF, List.getD_cons_zero, List.getD_cons_succ, V.cells, evLen, kdOp, kdOf, readsOf, protS, eq_bool, eq_nil28, evStore, V.oneCell, putElem, splice, -List.getD_eq_getElem?_getD, -getElem?_pos, und55, und53, und22, size3, size53, size58, size22, ty3, ty4, ty53, ty58, ty22, hb, hap, build38, build40l, St.new, und40, ty38, size38]
    · show (st.store ++ _)[st.store.length]? = _
      rw [List.getElem?_append_right (by omega)]; simp
  · obtain ⟨rfl, hv⟩ : iv = .slice ov 1 0 b ∧ st.store[ov]? = some (.vec false (bools b S)) := by
      rcases h.hi with h1 | ⟨h1, _⟩
      · exact h1
      · exact absurd h1 hz
    have hap := fun (fr : Fr) hx hy => append38 (fr := fr) (st := st) (S := run tb) (x := .tmp 3) (y := .tmp 7) (nl := some false) hx hy hv (bools_len _ _) (bools_one b S) (by omega)
    simp only [if_neg hz] at hap
    refine ⟨st.store.length + 1, .slice st.store.length 1 0 b, { st with store := st.store ++ [.vec false (bools b S), .box [.slice st.store.length 1 0 b]] }, ?_, ⟨?_, .inl ⟨rfl, ?_⟩, h.hz, h.hm⟩, (Grows.refl st).app _, by omega, by simp⟩
    · rw [run21 (by simp)]
      simp [g21_0, g21_1, g21_2, g21_3, g21_4, l21_1, l21_3, steps_nil, steps_cons, draws_nil, draws_cons, step_mk, stepB_some, stepB_none, memB_mk, thenS_some, regB_some, branch_bool, sel_true, sel_false, wanted_none, wanted_some, asB, mk_put, mk_put_none, arg_tmp, arg_const, arg_func, arg_global, upd_same, upd_ne, evPure, evArgs, m_load, m_store, m_alloc, m_box, m_call, m_lookup, m_mapUpdate, m_inv, evLoad, readCells, evFieldAddr, evIndexAddr, asIdx, ofValue, isPure, evBin, ib_lss, ib_leq, ib_gtr, ib_geq, ib_eql, ib_neq, evUn, leave_normal, leave_ret, finish, then_normal, then_exit, then_ret, close_normal, close_exit, close_ret, evConv, mk_marks, dropMarks, resOf, resList, mk_getD, argF, List.getD_cons_zero, List.getD_cons_succ, V.cells, evLen, kdOp, kdOf, readsOf, protS, eq_bool, eq_nil28, evStore, V.oneCell, putElem, splice, -List.getD_eq_getElem?_getD, -getElem?_pos, und55, und53, und22, size3, size53, size58, size22, ty3, ty4, ty53, ty58, ty22, hb, hap, build38, build40s, St.new, und40, ty38, size38]
    · show (st.store ++ _)[st.store.length + 1]? = _
      rw [List.getElem?_append_right (by omega)]; simp
    · show (st.store ++ _)[st.store.length]? = _
      rw [List.getElem?_append_right (by omega)]; simp
/- Rows of numbers that grow. -/
def natsV (xs : List Nat) : List V := xs.map fun n => V.int .i64 (n : Nat)
/-- A row of numbers lies at or behind an index. -/
def RowAt (m : Nat) (st : St) (v : V) (xs : List Nat) : Prop := xs = [] ∧ v = .list true (some false) [] ∨ ∃ k, m ≤ k ∧ v = .slice k 1 0 xs.length ∧ xs ≠ [] ∧ st.store[k]? = some (.vec true (natsV xs))
theorem build22 {fr : Fr} {st : St} {S : Go.Abs.S} : evMem tb S fr st (.buildSlice 22 0 #[]) = some (.list true (some false) [], st) := by
  show evMem0 tb fr st (.buildSlice 22 0 #[]) = _
  unfold evMem0
  simp [evArgs, und22, ty3, setAll, V.cells]
theorem build22_1 {fr : Fr} {st : St} {S : Go.Abs.S} {x : Operand} {i : Int} (hx : evArg tb fr x = some (.int .i64 i)) : evMem tb S fr st (.buildSlice 22 1 #[(0, x)]) = some (.list true (some false) [.int .i64 i], st) := by
  show evMem0 tb fr st (.buildSlice 22 1 #[(0, x)]) = _
  unfold evMem0
  simp [evArgs, und22, ty3, setAll, V.cells, hx]
theorem natsV_one (xs : List Nat) : (natsV xs).all (fun v => v.cells.length == 1 && v.cells.all V.oneCell) = true := by
  rw [List.all_eq_true]
  intro v hv
  unfold natsV at hv
  obtain ⟨k, _, rfl⟩ := List.mem_map.1 hv
  rfl
/-- One number more. -/
theorem append22 {st : St} {v : V} {xs : List Nat} {i m : Nat} (hv : RowAt m st v xs) (hlen : xs.length < 100000) (hlock : ∀ k, m ≤ k → st.locked k = false) (hm : m ≤ st.store.length) :
    ∃ v' st', (∀ (fr : Fr) (S : Go.Abs.S) (x y : Operand), evArg tb fr x = some v → evArg tb fr y = some (.list true (some false) [.int .i64 (i : Nat)]) → evMem tb S fr st (.call { callee := .builtin .append, args := #[x, y], argTypes := #[22, 22] }) = some (v', st')) ∧ RowAt m st' v' (xs ++ [i]) ∧ (∀ j, j < m → st'.store[j]? = st.store[j]?) ∧ st'.base = st.base ∧ st'.prot = st.prot ∧ st.store.length ≤ st'.store.length := by
  have e : ((#[22, 22] : Array TypeId)[1]?).bind tb.und = some (.slice 3) := und22
  have e0 : (#[22, 22] : Array TypeId)[0]? = some 22 := rfl
  rcases hv with ⟨rfl, rfl⟩ | ⟨k, hk, rfl, hne, hst⟩
  · refine ⟨.slice st.store.length 1 0 1, { st with store := st.store ++ [.vec true [.int .i64 (i : Nat)]] }, fun fr S x y hx hy => ?_, .inr ⟨st.store.length, hm, rfl, by simp, ?_⟩, fun j hj => ?_, rfl, rfl, by simp⟩
    · have hargs : evArgs tb fr (#[x, y] : Array Operand).toList = some [.list true (some false) [], .list true (some false) [.int .i64 (i : Nat)]] := by simp [evArgs, hx, hy]
      show evMem0 tb fr st (.call { callee := .builtin .append, args := #[x, y], argTypes := #[22, 22] }) = _
      unfold evMem0
      simp only [hargs, e0, e]
      unfold evAppend
      simp only [und22, ty3, srcElems]
      simp [V.cells, V.oneCell]
    · show (st.store ++ _)[st.store.length]? = _
      rw [List.getElem?_append_right (by omega)]; simp [natsV]
    · show (st.store ++ _)[j]? = _
      rw [List.getElem?_append_left (by omega)]
  · have hl := hlock k hk
    have hle : (natsV xs).length = xs.length := by simp [natsV]
    refine ⟨.slice st.store.length 1 0 (xs.length + 1), { st with store := st.store.set k .dead ++ [.vec true (natsV xs ++ [.int .i64 (i : Nat)])] }, fun fr S x y hx hy => ?_, .inr ⟨st.store.length, hm, by simp, by simp, ?_⟩, fun j hj => ?_, rfl, rfl, by simp⟩
    · have hargs : evArgs tb fr (#[x, y] : Array Operand).toList = some [.slice k 1 0 xs.length, .list true (some false) [.int .i64 (i : Nat)]] := by simp [evArgs, hx, hy]
      show evMem0 tb fr st (.call { callee := .builtin .append, args := #[x, y], argTypes := #[22, 22] }) = _
      unfold evMem0
      simp only [hargs, e0, e]
      unfold evAppend
      simp only [und22, ty3, srcElems]
      simp [V.cells, V.oneCell, hl, hst, hle]
      omega
    · show (st.store.set k .dead ++ _)[st.store.length]? = _
      rw [List.getElem?_append_right (by simp)]
      simp [natsV]
    · have hjl : j < st.store.length := by omega
      show (st.store.set k .dead ++ _)[j]? = _
      rw [List.getElem?_append_left (by simp; omega), List.getElem?_set_ne (by omega)]
theorem elems_succ (S : Nat → Bool) (k : Nat) : elems S 0 (k + 1) = elems S 0 k ++ (if S k then [k] else []) := by
  rw [elems_app]
  simp only [elems, Nat.zero_add]
theorem elems_le (S : Nat → Bool) : ∀ (n lo : Nat), (elems S lo n).length ≤ n
  | 0, _ => Nat.le_refl _
  | n + 1, lo => by
    have := elems_le S n (lo + 1)
    simp only [elems]
    split
    · simp; exact this
    · omega
theorem rall_loop (s0 : St) (hok : okSt s0) (o ov b : Nat) (iv : V) (S : Nat → Bool) (hR : RefAt s0 o iv ov b S) : ∀ (d k : Nat) (f : Nat → V) (st : St) (v : V), k + d = b → Grows s0 st → RowAt s0.store.length st v (elems S 0 k) → f 0 = .ptr o 0 → f 3 = v → f 4 = .int .i64 (k : Nat) →
    Out 27 [] (fun e f' st' => e = .exit 0 ∧ Grows s0 st' ∧ RowAt s0.store.length st' (f' 3) (elems S 0 b)) ((run tb).code none c15_8 (mk 27 f []) st)
  | 0, k, f, st, v, hk, hg, hrow, h0, h3, h4 => by
    have hk : k = b := hk
    subst hk
    have hR' := hR.grow hg
    have hb := hR'.hb
    generalize hQ : (fun (e : E) (f' : Nat → V) (st' : St) => e = .exit 0 ∧ Grows s0 st' ∧ RowAt s0.store.length st' (f' 3) (elems S 0 k)) = Q
    have hfin : ∀ f', f' 3 = v → Q (.exit 0) f' st := fun f' hf => by subst hQ; exact ⟨rfl, hg, by rw [hf]; exact hrow⟩
    rw [go_loop_of e15_8]
    rcases hR'.hi with ⟨rfl, hv⟩ | ⟨hz, rfl⟩
    · simp [g15_9, g15_10, g15_11, g15_12, g15_13, g15_14, g15_15, g15_16, g15_17, g15_18, g15_19, g15_20, g15_21, g15_22, l15_11, l15_18, l15_20, l15_22, steps_nil, steps_cons, draws_nil, draws_cons, step_mk, stepB_some, stepB_none, memB_mk, thenS_some, regB_some, branch_bool, sel_true, sel_false, wanted_none, wanted_some, asB, mk_put, mk_put_none, arg_tmp, arg_const, arg_func, arg_global, upd_same, upd_ne, evPure, evArgs, m_load, m_store, m_alloc, m_box, m_call, m_lookup, m_mapUpdate, m_inv, evLoad, readCells, evFieldAddr, evIndexAddr, asIdx, ofValue, isPure, evBin, ib_lss, ib_leq, ib_gtr, ib_geq, ib_eql, ib_neq, evUn, leave_normal, leave_ret, finish, then_normal, then_exit, then_ret, close_normal, close_exit, close_ret, evConv, mk_marks, dropMarks, resOf, resList, mk_getD, argF, List.getD_cons_zero, List.getD_cons_succ, V.cells, evLen, kdOp, kdOf, readsOf, protS, eq_bool, eq_nil28, evStore, V.oneCell, putElem, splice, -List.getD_eq_getElem?_getD, -getElem?_pos, und55, und53, und22, size3, size53, size58, size22, ty3, ty4, ty53, ty58, ty22, h0, h3, h4, hb, und40, und38, ty38, size38]
      exact .one (hfin _ (by simp [upd_ne, h3]))
    · subst hz
      simp [g15_9, g15_10, g15_11, g15_12, g15_13, g15_14, g15_15, g15_16, g15_17, g15_18, g15_19, g15_20, g15_21, g15_22, l15_11, l15_18, l15_20, l15_22, steps_nil, steps_cons, draws_nil, draws_cons, step_mk, stepB_some, stepB_none, memB_mk, thenS_some, regB_some, branch_bool, sel_true, sel_false, wanted_none, wanted_some, asB, mk_put, mk_put_none, arg_tmp, arg_const, arg_func, arg_global, upd_same, upd_ne, evPure, evArgs, m_load, m_store, m_alloc, m_box, m_call, m_lookup, m_mapUpdate, m_inv, evLoad, readCells, evFieldAddr, evIndexAddr, asIdx, ofValue, isPure, evBin, ib_lss, ib_leq, ib_gtr, ib_geq, ib_eql, ib_neq, evUn, leave_normal, leave_ret, finish, then_normal, then_exit, then_ret, close_normal, close_exit, close_ret, evConv, mk_marks, dropMarks, resOf, resList, mk_getD, argF, List.getD_cons_zero, List.getD_cons_succ, V.cells, evLen, kdOp, kdOf, readsOf, protS, eq_bool, eq_nil28, evStore, V.oneCell, putElem, splice, -List.getD_eq_getElem?_getD, -getElem?_pos, und55, und53, und22, size3, size53, size58, size22, ty3, ty4, ty53, ty58, ty22, h0, h3, h4, hb, und40, und38, ty38, size38]
      exact .one (hfin _ (by simp [upd_ne, h3]))
  | d + 1, k, f, st, v, hk, hg, hrow, h0, h3, h4 => by
    have hR' := hR.grow hg
    have hb := hR'.hb
    have hbm := hR.hm
    have hkb : k < b := by omega
    obtain ⟨rfl, hv⟩ : iv = .slice ov 1 0 b ∧ st.store[ov]? = some (.vec false (bools b S)) := by
      rcases hR'.hi with h1 | ⟨h1, _⟩
      · exact h1
      · omega
    have hget := bools_get S hkb
    have hn : intBin .add .i64 (k : Int) 1 = some (.int .i64 ((k + 1 : Nat) : Int)) := by rw [add64 (by omega) (by omega)]; simp
    have es := elems_succ S k
    have el := elems_le S k 0
    have ih := rall_loop s0 hok o ov b _ S hR d (k + 1)
    cases hs : S k with
    | true =>
      rw [hs] at es hget
      simp only [if_true] at es
      rw [es] at ih
      have lk : ∀ j, s0.store.length ≤ j → st.locked j = false := fun j hj => by
        have a : ¬ j < st.base := by rw [hg.base]; have := hok.1; omega
        have c : ¬ j ∈ st.prot := by rw [hg.prot]; exact fun h => by have := hok.2 _ h; omega
        simp [St.locked, a, c]
      obtain ⟨v', st', hap, hrow', hold, hba, hpr, hle⟩ := append22 (i := k) hrow (by omega) lk hg.len
      have hg' : Grows s0 st' := ⟨hba.trans hg.base, hpr.trans hg.prot, Nat.le_trans hg.len hle, fun j hj => (hold j hj).trans (hg.get j hj)⟩
      have hb1 := fun (fr : Fr) x hx => build22_1 (fr := fr) (st := st) (S := run tb) (x := x) (i := (k : Nat)) hx
      rw [go_loop_of e15_8]
      simp [g15_9, g15_10, g15_11, g15_12, g15_13, g15_14, g15_15, g15_16, g15_17, g15_18, g15_19, g15_20, g15_21, g15_22, l15_11, l15_18, l15_20, l15_22, steps_nil, steps_cons, draws_nil, draws_cons, step_mk, stepB_some, stepB_none, memB_mk, thenS_some, regB_some, branch_bool, sel_true, sel_false, wanted_none, wanted_some, asB, mk_put, mk_put_none, arg_tmp, arg_const, arg_func, arg_global, upd_same, upd_ne, evPure, evArgs, m_load, m_store, m_alloc, m_box, m_call, m_lookup, m_mapUpdate, m_inv, evLoad, readCells, evFieldAddr, evIndexAddr, asIdx, ofValue, isPure, evBin, ib_lss, ib_leq, ib_gtr, ib_geq, ib_eql, ib_neq, evUn, leave_normal, leave_ret, finish, then_normal, then_exit, then_ret, close_normal, close_exit, close_ret, evConv, mk_marks, dropMarks, resOf, resList, mk_getD, argF, List.getD_cons_zero, List.getD_cons_succ, V.cells, evLen, kdOp, kdOf, readsOf, protS, eq_bool, eq_nil28, evStore, V.oneCell, putElem, splice, -List.getD_eq_getElem?_getD, -getElem?_pos, und55, und53, und22, size3, size53, size58, size22, ty3, ty4, ty53, ty58, ty22, h0, h3, h4, hb, hv, hget, hkb, hap, hb1, hn, und40, und38, ty38, size38, size4', ty4]
      refine ih _ st' v' (by omega) hg' hrow' ?_ ?_ ?_
      · simp [upd_ne, h0]
      · simp [upd_ne, upd_same]
      · simp [upd_same]
    | false =>
      rw [hs] at es hget
      simp only [Bool.false_eq_true, if_false, List.append_nil] at es
      rw [es] at ih
      rw [go_loop_of e15_8]
      simp [g15_9, g15_10, g15_11, g15_12, g15_13, g15_14, g15_15, g15_16, g15_17, g15_18, g15_19, g15_20, g15_21, g15_22, l15_11, l15_18, l15_20, l15_22, steps_nil, steps_cons, draws_nil, draws_cons, step_mk, stepB_some, stepB_none, memB_mk, thenS_some, regB_some, branch_bool, sel_true, sel_false, wanted_none, wanted_some, asB, mk_put, mk_put_none, arg_tmp, arg_const, arg_func, arg_global, upd_same, upd_ne, evPure, evArgs, m_load, m_store, m_alloc, m_box, m_call, m_lookup, m_mapUpdate, m_inv, evLoad, readCells, evFieldAddr, evIndexAddr, asIdx, ofValue, isPure, evBin, ib_lss, ib_leq, ib_gtr, ib_geq, ib_eql, ib_neq, evUn, leave_normal, leave_ret, finish, then_normal, then_exit, then_ret, close_normal, close_exit, close_ret, evConv, mk_marks, dropMarks, resOf, resList, mk_getD, argF, List.getD_cons_zero, List.getD_cons_succ, V.cells, evLen, kdOp, kdOf, readsOf, protS, eq_bool, eq_nil28, evStore, V.oneCell, putElem, splice, -List.getD_eq_getElem?_getD, -getElem?_pos, und55, und53, und22, size3, size53, size58, size22, ty3, ty4, ty53, ty58, ty22, h0, h3, h4, hb, hv, hget, hkb, hn, und40, und38, ty38, size38, size4', ty4]
      refine ih _ st v (by omega) hg hrow ?_ ?_ ?_
      · simp [upd_ne, h0]
      · simp [upd_ne, h3]
      · simp [upd_same]
theorem rall_run (st : St) (hok : okSt st) (o ov b : Nat) (iv : V) (S : Nat → Bool) (h : RefAt st o iv ov b S) : ∃ v st', (run tb).call 15 [.ptr o 0] st = some (v, st') ∧ Grows st st' ∧ RowAt st.store.length st' v (elems S 0 b) := by
  suffices H : ∀ Q : V → St → Prop, (∀ v st', Grows st st' → RowAt st.store.length st' v (elems S 0 b) → Q v st') → Ret Q ((run tb).call 15 [.ptr o 0] st) by
    obtain ⟨v, st', h1, h2⟩ := H (fun v st' => Grows st st' ∧ RowAt st.store.length st' v (elems S 0 b)) (fun v st' a c => ⟨a, c⟩)
    exact ⟨v, st', h1, h2⟩
  intro Q hQ
  rw [run15 (by simp)]
  simp [g15_0, g15_1, g15_2, g15_3, g15_4, g15_5, g15_6, g15_7, l15_1, l15_3, l15_6, steps_nil, steps_cons, draws_nil, draws_cons, step_mk, stepB_some, stepB_none, memB_mk, thenS_some, regB_some, branch_bool, sel_true, sel_false, wanted_none, wanted_some, asB, mk_put, mk_put_none, arg_tmp, arg_const, arg_func, arg_global, upd_same, upd_ne, evPure, evArgs, m_load, m_store, m_alloc, m_box, m_call, m_lookup, m_mapUpdate, m_inv, evLoad, readCells, evFieldAddr, evIndexAddr, asIdx, ofValue, isPure, evBin, ib_lss, ib_leq, ib_gtr, ib_geq, ib_eql, ib_neq, evUn, leave_normal, leave_ret, finish, then_normal, then_exit, then_ret, close_normal, close_exit, close_ret, evConv, mk_marks, dropMarks, resOf, resList, mk_getD, argF, List.getD_cons_zero, List.getD_cons_succ, V.cells, evLen, kdOp, kdOf, readsOf, protS, eq_bool, eq_nil28, evStore, V.oneCell, putElem, splice, -List.getD_eq_getElem?_getD, -getElem?_pos, und55, und53, und22, size3, size53, size58, size22, ty3, ty4, ty53, ty58, ty22, build22]
  refine Out.use (C := fun o => Ret Q (leave tb _ (andThen (closeB 0 o) _))) (rall_loop st hok o ov b iv S h b 0 _ st (.list true (some false) []) (by omega) (Grows.refl _) (.inl ⟨rfl, rfl⟩) ?_ ?_ ?_) ?_
  · simp [upd_same, upd_ne, argF]
  · simp [upd_same, upd_ne]
  · simp [upd_same, upd_ne]
  · rintro e f st' ⟨rfl, hg, hrow⟩
    simp [g15_23, g15_24, g15_25, l15_24, steps_nil, steps_cons, draws_nil, draws_cons, step_mk, stepB_some, stepB_none, memB_mk, thenS_some, regB_some, branch_bool, sel_true, sel_false, wanted_none, wanted_some, asB, mk_put, mk_put_none, arg_tmp, arg_const, arg_func, arg_global, upd_same, upd_ne, evPure, evArgs, m_load, m_store, m_alloc, m_box, m_call, m_lookup, m_mapUpdate, m_inv, evLoad, readCells, evFieldAddr, evIndexAddr, asIdx, ofValue, isPure, evBin, ib_lss, ib_leq, ib_gtr, ib_geq, ib_eql, ib_neq, evUn, leave_normal, leave_ret, finish, then_normal, then_exit, then_ret, close_normal, close_exit, close_ret, evConv, mk_marks, dropMarks, resOf, resList, mk_getD, argF, List.getD_cons_zero, List.getD_cons_succ, V.cells, evLen, kdOp, kdOf, readsOf, protS, eq_bool, eq_nil28, evStore, V.oneCell, putElem, splice, -List.getD_eq_getElem?_getD, -getElem?_pos, und55, und53, und22, size3, size53, size58, size22, ty3, ty4, ty53, ty58, ty22]
    exact .one (hQ _ _ hg hrow)
end Go.Proofs.YtgknieohkniojaaDoor
namespace Go.Proofs.YtgknieohkniojaaDoor
open Go.Abs
set_option maxRecDepth 100000
set_option linter.unusedSimpArgs false
set_option linter.unusedVariables false
set_option maxHeartbeats 4000000
theorem same_loop (st : St) (xs : List Nat) (v w : V) (k1 k2 : Nat) (hv : v = .slice k1 1 0 xs.length) (hw : w = .slice k2 1 0 xs.length) (h1 : st.store[k1]? = some (.vec true (natsV xs))) (h2 : st.store[k2]? = some (.vec true (natsV xs))) (hl : xs.length < 100000) :
    ∀ (d k : Nat) (f : Nat → V), k + d = xs.length → f 0 = v → f 1 = w → f 5 = .int .i64 (k : Nat) → Out 26 [] (fun e f' st' => e = .exit 0 ∧ st' = st) ((run tb).code none c13_14 (mk 26 f []) st)
  | 0, k, f, hk, h0, h1', h5 => by
    have hk : k = xs.length := hk
    subst hk hv hw
    rw [go_loop_of e13_14]
    simp (config := { decide := true }) [g13_15, g13_16, g13_17, g13_18, g13_19, g13_20, g13_21, g13_22, g13_23, g13_24, g13_25, g13_26, g13_27, g13_28, g13_29, g13_30, l13_17, l13_24, l13_27, l13_30, steps_nil, steps_cons, draws_nil, draws_cons, step_mk, stepB_some, stepB_none, memB_mk, thenS_some, regB_some, branch_bool, sel_true, sel_false, wanted_none, wanted_some, asB, mk_put, mk_put_none, arg_tmp, arg_const, arg_func, arg_global, upd_same, upd_ne, evPure, evArgs, m_load, m_store, m_alloc, m_box, m_call, m_lookup, m_mapUpdate, m_inv, evLoad, readCells, evFieldAddr, evIndexAddr, asIdx, ofValue, isPure, evBin, ib_lss, ib_leq, ib_gtr, ib_geq, ib_eql, ib_neq, evUn, leave_normal, leave_ret, finish, then_normal, then_exit, then_ret, close_normal, close_exit, close_ret, evConv, mk_marks, dropMarks, resOf, resList, mk_getD, argF, List.getD_cons_zero, List.getD_cons_succ, V.cells, evLen, kdOp, kdOf, readsOf, protS, eq_bool, eq_nil28, evStore, V.oneCell, putElem, splice, -List.getD_eq_getElem?_getD, -getElem?_pos, und55, und53, und22, size3, size53, size58, size22, ty3, ty4, ty53, ty58, ty22, h0, h1', h5]
    exact .one ⟨rfl, rfl⟩
  | d + 1, k, f, hk, h0, h1', h5 => by
    have ih := same_loop st xs v w k1 k2 hv hw h1 h2 hl d (k + 1)
    have hlt : k < xs.length := by omega
    have hx : (natsV xs)[k]? = some (.int .i64 ((xs[k] : Nat) : Int)) := by simp [natsV, hlt]
    have hn : intBin .add .i64 (k : Int) 1 = some (.int .i64 ((k + 1 : Nat) : Int)) := by rw [add64 (by omega) (by omega)]; simp
    generalize xs[k] = x at *
    subst hv hw
    rw [go_loop_of e13_14]
    simp (config := { decide := true }) [g13_15, g13_16, g13_17, g13_18, g13_19, g13_20, g13_21, g13_22, g13_23, g13_24, g13_25, g13_26, g13_27, g13_28, g13_29, g13_30, l13_17, l13_24, l13_27, l13_30, steps_nil, steps_cons, draws_nil, draws_cons, step_mk, stepB_some, stepB_none, memB_mk, thenS_some, regB_some, branch_bool, sel_true, sel_false, wanted_none, wanted_some, asB, mk_put, mk_put_none, arg_tmp, arg_const, arg_func, arg_global, upd_same, upd_ne, evPure, evArgs, m_load, m_store, m_alloc, m_box, m_call, m_lookup, m_mapUpdate, m_inv, evLoad, readCells, evFieldAddr, evIndexAddr, asIdx, ofValue, isPure, evBin, ib_lss, ib_leq, ib_gtr, ib_geq, ib_eql, ib_neq, evUn, leave_normal, leave_ret, finish, then_normal, then_exit, then_ret, close_normal, close_exit, close_ret, evConv, mk_marks, dropMarks, resOf, resList, mk_getD, argF, List.getD_cons_zero, List.getD_cons_succ, V.cells, evLen, kdOp, kdOf, readsOf, protS, eq_bool, eq_nil28, evStore, V.oneCell, putElem, splice, -List.getD_eq_getElem?_getD, -getElem?_pos, und55, und53, und22, size3, size53, size58, size22, ty3, ty4, ty53, ty58, ty22, h0, h1', h5, h1, h2, hlt, hx, hn]
    refine ih _ (by omega) ?_ ?_ ?_
    · simp [upd_ne, h0]
    · simp [upd_ne, h1']
    · simp [upd_same]
theorem sameints_run (st : St) (m m' : Nat) (v w : V) (xs : List Nat) (hv : RowAt m st v xs) (hw : RowAt m' st w xs) (hl : xs.length < 100000) : (run tb).call 13 [v, w] st = some (.bool true, st) := by
  rcases hv with ⟨rfl, rfl⟩ | ⟨k1, _, hv, hne, h1⟩
  · rcases hw with ⟨_, rfl⟩ | ⟨k2, _, _, hne, _⟩
    · rw [run13 (by simp)]
      simp [g13_0, g13_1, g13_2, g13_3, g13_4, g13_5, g13_6, g13_7, g13_8, g13_9, g13_10, g13_11, g13_12, g13_13, l13_1, l13_4, l13_7, l13_12, steps_nil, steps_cons, draws_nil, draws_cons, step_mk, stepB_some, stepB_none, memB_mk, thenS_some, regB_some, branch_bool, sel_true, sel_false, wanted_none, wanted_some, asB, mk_put, mk_put_none, arg_tmp, arg_const, arg_func, arg_global, upd_same, upd_ne, evPure, evArgs, m_load, m_store, m_alloc, m_box, m_call, m_lookup, m_mapUpdate, m_inv, evLoad, readCells, evFieldAddr, evIndexAddr, asIdx, ofValue, isPure, evBin, ib_lss, ib_leq, ib_gtr, ib_geq, ib_eql, ib_neq, evUn, leave_normal, leave_ret, finish, then_normal, then_exit, then_ret, close_normal, close_exit, close_ret, evConv, mk_marks, dropMarks, resOf, resList, mk_getD, argF, List.getD_cons_zero, List.getD_cons_succ, V.cells, evLen, kdOp, kdOf, readsOf, protS, eq_bool, eq_nil28, evStore, V.oneCell, putElem, splice, -List.getD_eq_getElem?_getD, -getElem?_pos, und55, und53, und22, size3, size53, size58, size22, ty3, ty4, ty53, ty58, ty22]
      rw [go_loop_of e13_14]
      simp (config := { decide := true }) [g13_15, g13_16, g13_17, g13_18, g13_19, g13_20, g13_21, g13_22, g13_23, g13_24, g13_25, g13_26, g13_27, g13_28, g13_29, g13_30, g13_31, g13_32, g13_33, l13_17, l13_24, l13_27, l13_30, l13_32, steps_nil, steps_cons, draws_nil, draws_cons, step_mk, stepB_some, stepB_none, memB_mk, thenS_some, regB_some, branch_bool, sel_true, sel_false, wanted_none, wanted_some, asB, mk_put, mk_put_none, arg_tmp, arg_const, arg_func, arg_global, upd_same, upd_ne, evPure, evArgs, m_load, m_store, m_alloc, m_box, m_call, m_lookup, m_mapUpdate, m_inv, evLoad, readCells, evFieldAddr, evIndexAddr, asIdx, ofValue, isPure, evBin, ib_lss, ib_leq, ib_gtr, ib_geq, ib_eql, ib_neq, evUn, leave_normal, leave_ret, finish, then_normal, then_exit, then_ret, close_normal, close_exit, close_ret, evConv, mk_marks, dropMarks, resOf, resList, mk_getD, argF, List.getD_cons_zero, List.getD_cons_succ, V.cells, evLen, kdOp, kdOf, readsOf, protS, eq_bool, eq_nil28, evStore, V.oneCell, putElem, splice, -List.getD_eq_getElem?_getD, -getElem?_pos, und55, und53, und22, size3, size53, size58, size22, ty3, ty4, ty53, ty58, ty22]
    · exact absurd rfl hne
  · rcases hw with ⟨h, _⟩ | ⟨k2, _, hw, _, h2⟩
    · exact absurd h hne
    · have hloop := same_loop st xs v w k1 k2 hv hw h1 h2 hl xs.length 0
      subst hv hw
      rw [run13 (by simp)]
      simp [g13_0, g13_1, g13_2, g13_3, g13_4, g13_5, g13_6, g13_7, g13_8, g13_9, g13_10, g13_11, g13_12, g13_13, l13_1, l13_4, l13_7, l13_12, steps_nil, steps_cons, draws_nil, draws_cons, step_mk, stepB_some, stepB_none, memB_mk, thenS_some, regB_some, branch_bool, sel_true, sel_false, wanted_none, wanted_some, asB, mk_put, mk_put_none, arg_tmp, arg_const, arg_func, arg_global, upd_same, upd_ne, evPure, evArgs, m_load, m_store, m_alloc, m_box, m_call, m_lookup, m_mapUpdate, m_inv, evLoad, readCells, evFieldAddr, evIndexAddr, asIdx, ofValue, isPure, evBin, ib_lss, ib_leq, ib_gtr, ib_geq, ib_eql, ib_neq, evUn, leave_normal, leave_ret, finish, then_normal, then_exit, then_ret, close_normal, close_exit, close_ret, evConv, mk_marks, dropMarks, resOf, resList, mk_getD, argF, List.getD_cons_zero, List.getD_cons_succ, V.cells, evLen, kdOp, kdOf, readsOf, protS, eq_bool, eq_nil28, evStore, V.oneCell, putElem, splice, -List.getD_eq_getElem?_getD, -getElem?_pos, und55, und53, und22, size3, size53, size58, size22, ty3, ty4, ty53, ty58, ty22]
      refine Out.use (C := fun o => leave tb _ (andThen (closeB 0 o) _) = _) (hloop _ (by omega) ?_ ?_ ?_) ?_
      · simp [upd_ne, argF]
      · simp [upd_ne, argF]
      · simp [upd_same]
      · rintro e f st' ⟨rfl, rfl⟩
        simp [g13_31, g13_32, g13_33, l13_32, steps_nil, steps_cons, draws_nil, draws_cons, step_mk, stepB_some, stepB_none, memB_mk, thenS_some, regB_some, branch_bool, sel_true, sel_false, wanted_none, wanted_some, asB, mk_put, mk_put_none, arg_tmp, arg_const, arg_func, arg_global, upd_same, upd_ne, evPure, evArgs, m_load, m_store, m_alloc, m_box, m_call, m_lookup, m_mapUpdate, m_inv, evLoad, readCells, evFieldAddr, evIndexAddr, asIdx, ofValue, isPure, evBin, ib_lss, ib_leq, ib_gtr, ib_geq, ib_eql, ib_neq, evUn, leave_normal, leave_ret, finish, then_normal, then_exit, then_ret, close_normal, close_exit, close_ret, evConv, mk_marks, dropMarks, resOf, resList, mk_getD, argF, List.getD_cons_zero, List.getD_cons_succ, V.cells, evLen, kdOp, kdOf, readsOf, protS, eq_bool, eq_nil28, evStore, V.oneCell, putElem, splice, -List.getD_eq_getElem?_getD, -getElem?_pos, und55, und53, und22, size3, size53, size58, size22, ty3, ty4, ty53, ty58, ty22]
/-- A round of list: a number is put behind the row. -/
theorem list_round (F : Nat → V) (ds l p3 m x : Nat) (told : List Nat) (v : V) (st : St) (hb0 : st.base ≤ m) (hp0 : ∀ r ∈ st.prot, r < p3) (hb3 : st.base ≤ p3) (hbl : st.locked l = false) (hlm : l < m) (h3m : p3 < m) (hml : m ≤ st.store.length) (h3l : p3 < l)
    (hlp : st.store[l]? = some (.loop (loop0 (mk 14 F []).tmps #[8] c14_9 c14_10 ds))) (q3 : F 3 = .ptr p3 0) (g3 : st.store[p3]? = some (.box [v])) (hrow : RowAt m st v told) (hlen : told.length < 100000) :
    ∃ st' v', evYield (run tb) l [.int .i64 (x : Nat)] st = some (.bool true, st') ∧ st'.base = st.base ∧ st'.prot = st.prot ∧ m ≤ st'.store.length ∧ (∀ i, i < m → i ≠ p3 → st'.store[i]? = st.store[i]?) ∧ st'.store[p3]? = some (.box [v']) ∧ RowAt m st' v' (told ++ [x]) := by
  have hll := lt_of_at hlp
  obtain ⟨bz, hbz⟩ : ∃ bz : O, bz = .loop { (loop0 (mk 14 F []).tmps #[8] c14_9 c14_10 ds) with state := .busy } := ⟨_, rfl⟩
  have hrow' : RowAt m { st with store := st.store.set l bz } v told := by
    rcases hrow with h | ⟨k, hk, h1, h2, h3⟩
    · exact .inl h
    · refine .inr ⟨k, hk, h1, h2, ?_⟩
      show (st.store.set l bz)[k]? = _
      rw [List.getElem?_set_ne (by omega)]; exact h3
  have lk : ∀ j, m ≤ j → ({ st with store := st.store.set l bz } : St).locked j = false := fun j hj => by
    have a : ¬ j < st.base := by omega
    have c : ¬ j ∈ st.prot := fun h => by have := hp0 _ h; omega
    simp [St.locked, a, c]
  obtain ⟨v', st1, hap, hr1, hold, hba, hpr, hle⟩ := append22 (i := x) hrow' hlen lk (by show m ≤ (st.store.set l bz).length; rw [List.length_set]; exact hml)
  have hb1 := fun (fr : Fr) y hy => build22_1 (fr := fr) (st := { st with store := st.store.set l bz }) (S := run tb) (x := y) (i := (x : Nat)) hy
  have k3 : (st.store.set l bz)[p3]? = some (.box [v]) := by rw [List.getElem?_set_ne (by omega)]; exact g3
  have g31 : st1.store[p3]? = some (.box [v]) := (hold p3 h3m).trans k3
  have gl1 : st1.store[l]? = some bz := by
    rw [hold l hlm]
    show (st.store.set l bz)[l]? = _
    rw [List.getElem?_set_self hll]
  have lk3 : st1.locked p3 = false := by
    have a : ¬ p3 < st1.base := by rw [hba]; show ¬ p3 < st.base; omega
    have c : ¬ p3 ∈ st1.prot := by rw [hpr]; exact fun h => by have := hp0 _ h; omega
    simp [St.locked, a, c]
  obtain ⟨k', hk', hv', _, hst'⟩ : ∃ k', m ≤ k' ∧ v' = .slice k' 1 0 (told ++ [x]).length ∧ (told ++ [x]) ≠ [] ∧ st1.store[k']? = some (.vec true (natsV (told ++ [x]))) := by
    rcases hr1 with ⟨h, _⟩ | h
    · simp at h
    · exact h
  refine ⟨{ st1 with store := (st1.store.set p3 (.box [v'])).set l (.loop { (loop0 (mk 14 F []).tmps #[8] c14_9 c14_10 ds) with state := .ready, pending := none }) }, v', ?_, hba, hpr, ?_, ?_, ?_, ?_⟩
  · rw [yield_run (fr1 := mk 14 (upd (upd F 8 (.int .i64 (x : Nat))) 4 (.int .i64 (x : Nat))) []) hbl (loop_of hlp) rfl rfl]
    · show yieldEnd l ((run tb).code (some l) c14_10 _ { st with store := st.store.set l (.loop { (loop0 (mk 14 F []).tmps #[8] c14_9 c14_10 ds) with state := .busy }) }) = _
      rw [← hbz]
      generalize hN : (told ++ [x]).length = nn at *
      subst hv'
      simp [g14_10, g14_11, l14_11, steps_nil, steps_cons, draws_nil, draws_cons, step_mk, stepB_some, stepB_none, memB_mk, thenS_some, regB_some, branch_bool, sel_true, sel_false, wanted_none, wanted_some, asB, mk_put, mk_put_none, arg_tmp, arg_const, arg_func, arg_global, upd_same, upd_ne, evPure, evArgs, m_load, m_store, m_alloc, m_box, m_call, m_lookup, m_mapUpdate, m_inv, evLoad, readCells, evFieldAddr, evIndexAddr, asIdx, ofValue, isPure, evBin, ib_lss, ib_leq, ib_gtr, ib_geq, ib_eql, ib_neq, evUn, leave_normal, leave_ret, finish, then_normal, then_exit, then_ret, close_normal, close_exit, close_ret, evConv, mk_marks, dropMarks, resOf, resList, mk_getD, argF, List.getD_cons_zero, List.getD_cons_succ, V.cells, evLen, kdOp, kdOf, readsOf, protS, eq_bool, eq_nil28, evStore, V.oneCell, putElem, splice, -List.getD_eq_getElem?_getD, -getElem?_pos, und55, und53, und22, size3, size53, size58, size22, ty3, ty4, ty53, ty58, ty22, q3, k3, hb1, hap, g31, lk3, size22, ty22]
      subst hbz
      rw [end_any (lp := { (loop0 (mk 14 F []).tmps #[8] c14_9 c14_10 ds) with state := .busy })]
      · simp only [roundEnd]
      · show (st1.store.set p3 _)[l]? = _
        rw [List.getElem?_set_ne (by omega)]; exact gl1
    · show (run tb).code (some l) c14_9 { tmps := setParams [8] _ (mk 14 F []).tmps, marks := [] } st = _
      rw [params_fr]
      simp [g14_9, l14_9, steps_nil, steps_cons, draws_nil, draws_cons, step_mk, stepB_some, stepB_none, memB_mk, thenS_some, regB_some, branch_bool, sel_true, sel_false, wanted_none, wanted_some, asB, mk_put, mk_put_none, arg_tmp, arg_const, arg_func, arg_global, upd_same, upd_ne, evPure, evArgs, m_load, m_store, m_alloc, m_box, m_call, m_lookup, m_mapUpdate, m_inv, evLoad, readCells, evFieldAddr, evIndexAddr, asIdx, ofValue, isPure, evBin, ib_lss, ib_leq, ib_gtr, ib_geq, ib_eql, ib_neq, evUn, leave_normal, leave_ret, finish, then_normal, then_exit, then_ret, close_normal, close_exit, close_ret, evConv, mk_marks, dropMarks, resOf, resList, mk_getD, argF, List.getD_cons_zero, List.getD_cons_succ, V.cells, evLen, kdOp, kdOf, readsOf, protS, eq_bool, eq_nil28, evStore, V.oneCell, putElem, splice, -List.getD_eq_getElem?_getD, -getElem?_pos, und55, und53, und22, size3, size53, size58, size22, ty3, ty4, ty53, ty58, ty22, updAll]
  · show m ≤ ((st1.store.set p3 _).set l _).length
    rw [List.length_set, List.length_set]
    have : (st.store.set l bz).length ≤ st1.store.length := hle
    rw [List.length_set] at this
    omega
  · intro i hi hne
    show ((st1.store.set p3 _).set l _)[i]? = _
    by_cases e : l = i
    · subst e
      rw [List.getElem?_set_self (by rw [List.length_set]; exact lt_of_at gl1)]
      exact hlp.symm
    · rw [List.getElem?_set_ne e, List.getElem?_set_ne (Ne.symm hne), hold i hi]
      show (st.store.set l bz)[i]? = _
      rw [List.getElem?_set_ne e]
  · show ((st1.store.set p3 _).set l _)[p3]? = _
    rw [List.getElem?_set_ne (by omega), List.getElem?_set_self (lt_of_at g31)]
  · refine .inr ⟨k', hk', hv', by simp, ?_⟩
    show ((st1.store.set p3 _).set l _)[k']? = _
    rw [List.getElem?_set_ne (by omega), List.getElem?_set_ne (by omega)]; exact hst'
theorem elems_end {S : Nat → Bool} {b : Nat} (h : ∀ i, b ≤ i → S i = false) (d : Nat) : elems S 0 (b + d) = elems S 0 b := by
  rw [elems_app, Nat.zero_add]
  have := elems_skip S d b 0 (fun j _ => h _ (by omega))
  simp only [Nat.add_zero, elems] at this
  rw [this, List.append_nil]
/-- The loop of list: sC is the state at its call. -/
theorem list_all (F : Nat → V) (ds l p3 pb r rv b : Nat) (S : Nat → Bool) (sC : St) (hb0 : sC.base ≤ p3) (hp0 : ∀ q ∈ sC.prot, q < p3) (h3l : p3 < l) (hlen : l + 1 = sC.store.length)
    (hlp : sC.store[l]? = some (.loop (loop0 (mk 14 F []).tmps #[8] c14_9 c14_10 ds))) (q3 : F 3 = .ptr p3 0) (g3 : sC.store[p3]? = some (.box [.list true (some false) []])) (hs : SetAt sC r rv b S) (gb : sC.store[pb]? = some (.box [.ptr r 0])) :
    Ret (fun (_ : V) (s2 : St) => s2.base = sC.base ∧ s2.prot = sC.prot ∧ sC.store.length ≤ s2.store.length ∧ (∀ i, i < sC.store.length → i ≠ p3 → s2.store[i]? = sC.store[i]?) ∧ ∃ v, s2.store[p3]? = some (.box [v]) ∧ RowAt sC.store.length s2 v (elems S 0 b)) ((run tb).call 40 [.func (.yield l) [] [], .ptr pb 0] sC) := by
  have hbm := hs.hm
  by_cases hz : nw b = 0
  · have hb : b = 0 := by unfold nw at hz; omega
    refine all_run l b pb r rv S (fun rem st => rem = [] ∧ st = sC) (fun st => st = sC) sC gb hs (fun n rem st h => by cases h.1) (fun st h => h.2) (fun _ _ _ h => absurd hz h) (fun _ => ⟨rfl, rfl⟩) (fun h => absurd hz h) |>.use (C := fun o => Ret _ o) ?_
    rintro v s2 ⟨_, rfl⟩
    exact .one ⟨rfl, rfl, Nat.le_refl _, fun _ _ _ => rfl, _, g3, .inl ⟨by rw [hb]; rfl, rfl⟩⟩
  · have hend : elems S 0 (64 * nw b) = elems S 0 b := by
      have e : 64 * nw b = b + (64 * nw b - b) := by unfold nw; omega
      rw [e]; exact elems_end hs.hz _
    have hel := elems_le S b 0
    refine all_run l b pb r rv S (fun rem st => ∃ told v, told ++ rem = elems S 0 b ∧ st.base = sC.base ∧ st.prot = sC.prot ∧ sC.store.length + 1 ≤ st.store.length ∧ (∀ i, i < sC.store.length + 1 → i ≠ p3 → st.store[i]? = (sC.store ++ [O.vec false (words b S)])[i]?) ∧ st.store[p3]? = some (.box [v]) ∧ RowAt (sC.store.length + 1) st v told)
      (fun st => ∃ v, st.base = sC.base ∧ st.prot = sC.prot ∧ sC.store.length + 1 ≤ st.store.length ∧ (∀ i, i < sC.store.length + 1 → i ≠ p3 → st.store[i]? = (sC.store ++ [O.vec false (words b S)])[i]?) ∧ st.store[p3]? = some (.box [v]) ∧ RowAt (sC.store.length + 1) st v (elems S 0 b)) sC gb hs ?_ ?_ ?_ (fun h => absurd h hz) (fun _ => ⟨[], _, by rw [List.nil_append]; exact hend, rfl, rfl, ?_, fun _ _ _ => rfl, ?_, .inl ⟨rfl, rfl⟩⟩) |>.use (C := fun o => Ret _ o) ?_
    · rintro x rem st ⟨told, v, ht, h1, h2, h3, h4, h5, h6⟩
      have hl : st.store[l]? = some (.loop (loop0 (mk 14 F []).tmps #[8] c14_9 c14_10 ds)) := by
        rw [h4 l (by omega) (by omega), List.getElem?_append_left (by omega)]; exact hlp
      have hkl : st.locked l = false := by
        have a : ¬ l < st.base := by rw [h1]; omega
        have c : ¬ l ∈ st.prot := by rw [h2]; exact fun h => by have := hp0 _ h; omega
        simp [St.locked, a, c]
      have htl : told.length < 100000 := by
        have := congrArg List.length ht
        simp at this
        omega
      obtain ⟨st', v', a1, a2, a3, a4, a5, a6, a7⟩ := list_round F ds l p3 (sC.store.length + 1) x told v st (by rw [h1]; omega) (by rw [h2]; exact hp0) (by rw [h1]; exact hb0) hkl (by omega) (by omega) h3 h3l hl q3 h5 h6 htl
      exact .inl ⟨st', a1, told ++ [x], v', by rw [← ht]; simp, a2.trans h1, a3.trans h2, a4, fun i hi hne => (a5 i hi hne).trans (h4 i hi hne), a6, a7⟩
    · rintro st ⟨told, v, ht, h1, h2, h3, h4, h5, h6⟩
      rw [List.append_nil] at ht
      subst ht
      exact ⟨v, h1, h2, h3, h4, h5, h6⟩
    · rintro rem s1 ⟨told, v, ht, h1, h2, h3, h4, h5, h6⟩ _
      rw [h4 _ (by omega) (by omega), List.getElem?_append_right (by omega)]; simp
    · simp
    · show (sC.store ++ _)[p3]? = _
      rw [List.getElem?_append_left (by omega)]; exact g3
    · rintro v s2 ⟨_, w, h1, h2, h3, h4, h5, h6⟩
      refine .one ⟨h1, h2, by omega, fun i hi hne => ?_, w, h5, ?_⟩
      · rw [h4 i (by omega) hne, List.getElem?_append_left hi]
      · rcases h6 with h | ⟨k, hk, h⟩
        · exact .inl h
        · exact .inr ⟨k, by omega, h⟩
theorem app_get' {α : Type} (L xs : List α) (i : Nat) : (L ++ xs)[L.length + i]? = xs[i]? := by rw [List.getElem?_append_right (by omega)]; congr 1; omega
theorem app_get0' {α : Type} (L xs : List α) : (L ++ xs)[L.length]? = xs[0]? := by rw [List.getElem?_append_right (by omega)]; congr 1; omega
theorem app_set0' {α : Type} (L xs : List α) (y : α) : (L ++ xs).set L.length y = L ++ xs.set 0 y := by rw [List.set_append_right _ _ (by omega)]; congr 2; omega
theorem all_mk' (st : St) (r : Nat) : (run tb).call 27 [.ptr r 0] st = some (.func (.func 40) [] [.ptr st.store.length 0], { st with store := st.store ++ [.box [.ptr r 0]] }) := by
  rw [run27 (by simp)]
  simp [g27_0, g27_1, g27_2, g27_3, g27_4, l27_1, l27_3, steps_nil, steps_cons, draws_nil, draws_cons, step_mk, stepB_some, stepB_none, memB_mk, thenS_some, regB_some, branch_bool, sel_true, sel_false, wanted_none, wanted_some, asB, mk_put, mk_put_none, arg_tmp, arg_const, arg_func, arg_global, upd_same, upd_ne, evPure, evArgs, m_load, m_store, m_alloc, m_box, m_call, m_lookup, m_mapUpdate, m_inv, evLoad, readCells, evFieldAddr, evIndexAddr, asIdx, ofValue, isPure, evBin, ib_lss, ib_leq, ib_gtr, ib_geq, ib_eql, ib_neq, evUn, leave_normal, leave_ret, finish, then_normal, then_exit, then_ret, close_normal, close_exit, close_ret, evConv, mk_marks, dropMarks, resOf, resList, mk_getD, argF, List.getD_cons_zero, List.getD_cons_succ, V.cells, evLen, kdOp, kdOf, readsOf, protS, eq_bool, eq_nil28, evStore, V.oneCell, putElem, splice, -List.getD_eq_getElem?_getD, -getElem?_pos, und55, und53, und22, size3, size53, size58, size22, ty3, ty4, ty53, ty58, ty22, St.new]
theorem list_all2 (F : Nat → V) (st : St) (hok : okSt st) (r rv b : Nat) (S : Nat → Bool) (hs : SetAt st r rv b S) (q3 : F 3 = .ptr st.store.length 0) :
    Ret (fun (_ : V) (s2 : St) => Grows st s2 ∧ st.store.length + 4 ≤ s2.store.length ∧ s2.store[st.store.length + 2]? = some .defs ∧ (∃ lp, s2.store[st.store.length + 2 + 1]? = some (.loop lp) ∧ lp.state ≠ .busy ∧ lp.pending = none) ∧ ∃ v, s2.store[st.store.length]? = some (.box [v]) ∧ RowAt (st.store.length + 4) s2 v (elems S 0 b))
      ((run tb).call 40 [.func (.yield (st.store.length + 2 + 1)) [] [], .ptr (st.store.length + 1) 0] (enterSt { store := st.store ++ [.box [.list true (some false) []], .box [.ptr r 0]], base := st.base, prot := st.prot } (loop0 (mk 14 F []).tmps #[8] c14_9 c14_10 (st.store.length + 2)))) := by
  have hst : (enterSt { store := st.store ++ [.box [.list true (some false) []], .box [.ptr r 0]], base := st.base, prot := st.prot } (loop0 (mk 14 F []).tmps #[8] c14_9 c14_10 (st.store.length + 2))).store = st.store ++ [.box [.list true (some false) []], .box [.ptr r 0], .defs, .loop (loop0 (mk 14 F []).tmps #[8] c14_9 c14_10 (st.store.length + 2))] := by simp [enterSt]
  have hbC : (enterSt { store := st.store ++ [.box [.list true (some false) []], .box [.ptr r 0]], base := st.base, prot := st.prot } (loop0 (mk 14 F []).tmps #[8] c14_9 c14_10 (st.store.length + 2))).base = st.base := rfl
  have hpC : (enterSt { store := st.store ++ [.box [.list true (some false) []], .box [.ptr r 0]], base := st.base, prot := st.prot } (loop0 (mk 14 F []).tmps #[8] c14_9 c14_10 (st.store.length + 2))).prot = st.prot := rfl
  generalize enterSt { store := st.store ++ [.box [.list true (some false) []], .box [.ptr r 0]], base := st.base, prot := st.prot } (loop0 (mk 14 F []).tmps #[8] c14_9 c14_10 (st.store.length + 2)) = sC at *
  have old : ∀ i o, st.store[i]? = some o → sC.store[i]? = some o := fun i o h => by rw [hst, List.getElem?_append_left (lt_of_at h)]; exact h
  have hlen : sC.store.length = st.store.length + 4 := by rw [hst]; simp
  have c0 : sC.store[st.store.length]? = some (.box [.list true (some false) []]) := by rw [hst, app_get0']; rfl
  have c1 : sC.store[st.store.length + 1]? = some (.box [.ptr r 0]) := by rw [hst, app_get']; rfl
  have c2 : sC.store[st.store.length + 2]? = some .defs := by rw [hst, app_get']; rfl
  have c3 : sC.store[st.store.length + 2 + 1]? = some (.loop (loop0 (mk 14 F []).tmps #[8] c14_9 c14_10 (st.store.length + 2))) := by rw [hst, Nat.add_assoc, app_get']; rfl
  have hsC : SetAt sC r rv b S := ⟨old _ _ hs.hb, old _ _ hs.hv, hs.hz, hs.hm⟩
  refine (list_all F (st.store.length + 2) (st.store.length + 2 + 1) st.store.length (st.store.length + 1) r rv b S sC (by rw [hbC]; exact hok.1) (by rw [hpC]; exact hok.2) (by omega) (by omega) c3 q3 c0 hsC c1).use (C := fun o => Ret _ o) ?_
  rintro v s2 ⟨h1, h2, h3, h4, w, h5, h6⟩
  rw [hlen] at h3 h4 h6
  refine .one ⟨⟨h1.trans hbC, h2.trans hpC, by omega, fun i hi => ?_⟩, h3, ?_, ⟨loop0 (mk 14 F []).tmps #[8] c14_9 c14_10 (st.store.length + 2), ?_, ?_, rfl⟩, w, h5, h6⟩
  · rw [h4 i (by omega) (by omega), hst, List.getElem?_append_left hi]
  · rw [h4 _ (by omega) (by omega)]; exact c2
  · rw [h4 _ (by omega) (by omega)]; exact c3
  · simp [loop0]
theorem list_run (st : St) (hok : okSt st) (r rv b : Nat) (S : Nat → Bool) (hs : SetAt st r rv b S) : ∃ v st', (run tb).call 14 [.ptr r 0] st = some (v, st') ∧ Grows st st' ∧ RowAt st.store.length st' v (elems S 0 b) := by
  suffices H : ∀ Q : V → St → Prop, (∀ v st', Grows st st' → RowAt st.store.length st' v (elems S 0 b) → Q v st') → Ret Q ((run tb).call 14 [.ptr r 0] st) by
    obtain ⟨v, st', h1, h2⟩ := H (fun v st' => Grows st st' ∧ RowAt st.store.length st' v (elems S 0 b)) (fun v st' a c => ⟨a, c⟩)
    exact ⟨v, st', h1, h2⟩
  intro Q hQ
  have lk : ∀ (y : St), y.base = st.base → y.prot = st.prot → y.locked st.store.length = false := fun y e1 e2 => by
    have a : ¬ st.store.length < st.base := by have := hok.1; omega
    have c : ¬ st.store.length ∈ st.prot := fun h => by have := hok.2 _ h; omega
    simp [St.locked, e1, e2, a, c]
  rw [run14 (by simp)]
  simp [g14_0, g14_1, g14_2, g14_3, g14_4, g14_5, g14_6, g14_7, g14_8, l14_1, l14_3, l14_6, steps_nil, steps_cons, draws_nil, draws_cons, step_mk, stepB_some, stepB_none, memB_mk, thenS_some, regB_some, branch_bool, sel_true, sel_false, wanted_none, wanted_some, asB, mk_put, mk_put_none, arg_tmp, arg_const, arg_func, arg_global, upd_same, upd_ne, evPure, evArgs, m_load, m_store, m_alloc, m_box, m_call, m_lookup, m_mapUpdate, m_inv, evLoad, readCells, evFieldAddr, evIndexAddr, asIdx, ofValue, isPure, evBin, ib_lss, ib_leq, ib_gtr, ib_geq, ib_eql, ib_neq, evUn, leave_normal, leave_ret, finish, then_normal, then_exit, then_ret, close_normal, close_exit, close_ret, evConv, mk_marks, dropMarks, resOf, resList, mk_getD, argF, List.getD_cons_zero, List.getD_cons_succ, V.cells, evLen, kdOp, kdOf, readsOf, protS, eq_bool, eq_nil28, evStore, V.oneCell, putElem, splice, -List.getD_eq_getElem?_getD, -getElem?_pos, und55, und53, und22, size3, size53, size58, size22, ty3, ty4, ty53, ty58, ty22, build22, ty22, size22, St.new, all_mk', range_inv, lk, app_get', app_get0', app_set0', List.getElem?_cons_zero, List.getElem?_cons_succ, List.set_cons_zero, List.set_cons_succ]
  refine Ret.use (C := fun o => Ret Q (leave tb _ (andThen (closeB 0 (afterRange tb none _ _ o)) _))) (list_all2 _ st hok r rv b S hs ?_) ?_
  · simp [upd_same, upd_ne]
  · rintro v s2 ⟨hg, hlen, hd, ⟨lp, hlp, hnb, hpe⟩, w, hw, hrow⟩
    have free : ∀ (y : St) i, y.base = s2.base → y.prot = s2.prot → st.store.length ≤ i → y.locked i = false := fun y i e1 e2 hi => by
      have a : ¬ i < s2.base := by rw [hg.base]; have := hok.1; omega
      have c : ¬ i ∈ s2.prot := by rw [hg.prot]; exact fun h => by have := hok.2 _ h; omega
      simp [St.locked, e1, e2, a, c]
    rw [after_normal hlp hnb (free _ _ rfl rfl (by omega)) hpe]
    have k0 : ∀ o, (s2.store.set (st.store.length + 2 + 1) o)[st.store.length]? = some (.box [w]) := fun o => by rw [List.getElem?_set_ne (by omega)]; exact hw
    have k2 : ∀ o, (s2.store.set (st.store.length + 2 + 1) o)[st.store.length + 2]? = some .defs := fun o => by rw [List.getElem?_set_ne (by omega)]; exact hd
    have lk2 : ∀ (y : St), y.base = s2.base → y.prot = s2.prot → y.locked (st.store.length + 2) = false := fun y e1 e2 => free y _ e1 e2 (by omega)
    generalize hN : (O.loop { lp with state := .exhausted }) = on
    simp [g14_12, g14_13, g14_14, l14_13, steps_nil, steps_cons, draws_nil, draws_cons, step_mk, stepB_some, stepB_none, memB_mk, thenS_some, regB_some, branch_bool, sel_true, sel_false, wanted_none, wanted_some, asB, mk_put, mk_put_none, arg_tmp, arg_const, arg_func, arg_global, upd_same, upd_ne, evPure, evArgs, m_load, m_store, m_alloc, m_box, m_call, m_lookup, m_mapUpdate, m_inv, evLoad, readCells, evFieldAddr, evIndexAddr, asIdx, ofValue, isPure, evBin, ib_lss, ib_leq, ib_gtr, ib_geq, ib_eql, ib_neq, evUn, leave_normal, leave_ret, finish, then_normal, then_exit, then_ret, close_normal, close_exit, close_ret, evConv, mk_marks, dropMarks, resOf, resList, mk_getD, argF, List.getD_cons_zero, List.getD_cons_succ, V.cells, evLen, kdOp, kdOf, readsOf, protS, eq_bool, eq_nil28, evStore, V.oneCell, putElem, splice, -List.getD_eq_getElem?_getD, -getElem?_pos, und55, und53, und22, size3, size53, size58, size22, ty3, ty4, ty53, ty58, ty22, k0, k2, lk2, ty22]
    refine .one (hQ _ _ ((hg.set (by omega) _).set (by omega) _) ?_)
    rcases hrow with h | ⟨k, hk, h1, h2, h3⟩
    · exact .inl h
    · refine .inr ⟨k, by omega, h1, h2, ?_⟩
      show ((s2.store.set _ _).set _ _)[k]? = _
      rw [List.getElem?_set_ne (by omega), List.getElem?_set_ne (by omega)]; exact h3
end Go.Proofs.YtgknieohkniojaaDoor
namespace Go.Proofs.YtgknieohkniojaaDoor
open Go.Abs
set_option maxRecDepth 100000
set_option linter.unusedSimpArgs false
set_option linter.unusedVariables false
set_option maxHeartbeats 4000000
/-- What Do makes of two booleans. -/
def opOf (what : Nat) (s t : Bool) : Bool := if what = 0 then s || t else if what = 1 then s && t else s && !t
theorem do_round (what : Nat) (hw : what = 0 ∨ what = 1 ∨ what = 2) (o q ov b i i1 : Nat) (s t p c : Bool) (bs : List V) (st st1 : St) (f : Nat → V)
    (hb : st.store[o]? = some (.box [.slice ov 1 0 b])) (hv : st.store[ov]? = some (.vec false bs)) (hi : i < b) (hs : bs[i]? = some (.bool s))
    (hhas : (run tb).call 20 [.ptr q 0, .int .i64 (i : Nat)] st = some (.bool t, st)) (hput : (run tb).call 31 [.ptr o 0, .int .i64 (i : Nat), .bool (opOf what s t)] st = some (.bool p, st1)) (hn : intBin .add .i64 (i : Nat) 1 = some (.int .i64 (i1 : Nat)))
    (h0 : f 0 = .ptr o 0) (h1 : f 1 = .int .i64 (what : Nat)) (h8 : f 8 = .ptr q 0) (h7 : f 7 = .bool c) (h9 : f 9 = .int .i64 (i : Nat)) {Q : E → (Nat → V) → St → Prop}
    (next : ∀ f', f' 0 = .ptr o 0 → f' 1 = .int .i64 (what : Nat) → f' 8 = .ptr q 0 → f' 7 = .bool (p || c) → f' 9 = .int .i64 (i1 : Nat) → Out 63 [] Q ((run tb).code none c32_10 (mk 63 f' []) st1)) :
    Out 63 [] Q ((run tb).code none c32_10 (mk 63 f []) st) := by
  rcases hw with rfl | rfl | rfl
  · simp only [opOf, if_true] at hput
    rw [go_loop_of e32_10]
    cases s <;> cases p
    all_goals
      simp only [Bool.false_or, Bool.true_or] at hput
      simp [g32_11, g32_12, g32_13, g32_14, g32_15, g32_16, g32_17, g32_18, g32_19, g32_20, g32_21, g32_22, g32_23, g32_24, g32_25, g32_26, g32_27, g32_28, g32_29, g32_30, g32_31, g32_32, g32_33, g32_34, g32_35, g32_36, g32_37, g32_38, g32_39, l32_13, l32_20, l32_23, l32_26, l32_28, l32_30, l32_32, l32_34, l32_36, l32_38, l32_39, steps_nil, steps_cons, draws_nil, draws_cons, step_mk, stepB_some, stepB_none, memB_mk, thenS_some, regB_some, branch_bool, sel_true, sel_false, wanted_none, wanted_some, asB, mk_put, mk_put_none, arg_tmp, arg_const, arg_func, arg_global, upd_same, upd_ne, evPure, evArgs, m_load, m_store, m_alloc, m_box, m_call, m_lookup, m_mapUpdate, m_inv, evLoad, readCells, evFieldAddr, evIndexAddr, asIdx, ofValue, isPure, evBin, ib_lss, ib_leq, ib_gtr, ib_geq, ib_eql, ib_neq, evUn, leave_normal, leave_ret, finish, then_normal, then_exit, then_ret, close_normal, close_exit, close_ret, evConv, mk_marks, dropMarks, resOf, resList, mk_getD, argF, List.getD_cons_zero, List.getD_cons_succ, V.cells, evLen, kdOp, kdOf, readsOf, protS, eq_bool, eq_nil28, evStore, V.oneCell, putElem, splice, -List.getD_eq_getElem?_getD, -getElem?_pos, und55, und53, und22, size3, size53, size58, size22, ty3, ty4, ty53, ty58, ty22, h0, h1, h7, h8, h9, hb, hv, hi, hs, hhas, hput, hn, und40, und38, ty38, size38, size4', ty4]
      refine next _ ?_ ?_ ?_ ?_ ?_
      all_goals simp [upd_ne, upd_same, h0, h1, h8, h7]
  · have e : opOf 1 s t = (s && t) := rfl
    rw [e] at hput
    rw [go_loop_of e32_10]
    cases s <;> cases p
    all_goals
      simp only [Bool.false_and, Bool.true_and] at hput
      simp [g32_11, g32_12, g32_13, g32_14, g32_15, g32_16, g32_17, g32_18, g32_19, g32_20, g32_21, g32_22, g32_23, g32_24, g32_25, g32_26, g32_27, g32_28, g32_29, g32_30, g32_31, g32_32, g32_33, g32_34, g32_35, g32_36, g32_37, g32_38, g32_39, l32_13, l32_20, l32_23, l32_26, l32_28, l32_30, l32_32, l32_34, l32_36, l32_38, l32_39, steps_nil, steps_cons, draws_nil, draws_cons, step_mk, stepB_some, stepB_none, memB_mk, thenS_some, regB_some, branch_bool, sel_true, sel_false, wanted_none, wanted_some, asB, mk_put, mk_put_none, arg_tmp, arg_const, arg_func, arg_global, upd_same, upd_ne, evPure, evArgs, m_load, m_store, m_alloc, m_box, m_call, m_lookup, m_mapUpdate, m_inv, evLoad, readCells, evFieldAddr, evIndexAddr, asIdx, ofValue, isPure, evBin, ib_lss, ib_leq, ib_gtr, ib_geq, ib_eql, ib_neq, evUn, leave_normal, leave_ret, finish, then_normal, then_exit, then_ret, close_normal, close_exit, close_ret, evConv, mk_marks, dropMarks, resOf, resList, mk_getD, argF, List.getD_cons_zero, List.getD_cons_succ, V.cells, evLen, kdOp, kdOf, readsOf, protS, eq_bool, eq_nil28, evStore, V.oneCell, putElem, splice, -List.getD_eq_getElem?_getD, -getElem?_pos, und55, und53, und22, size3, size53, size58, size22, ty3, ty4, ty53, ty58, ty22, h0, h1, h7, h8, h9, hb, hv, hi, hs, hhas, hput, hn, und40, und38, ty38, size38, size4', ty4]
      refine next _ ?_ ?_ ?_ ?_ ?_
      all_goals simp [upd_ne, upd_same, h0, h1, h8, h7]
  · have e : opOf 2 s t = (s && !t) := rfl
    rw [e] at hput
    rw [go_loop_of e32_10]
    cases s <;> cases p
    all_goals
      simp only [Bool.false_and, Bool.true_and] at hput
      simp [g32_11, g32_12, g32_13, g32_14, g32_15, g32_16, g32_17, g32_18, g32_19, g32_20, g32_21, g32_22, g32_23, g32_24, g32_25, g32_26, g32_27, g32_28, g32_29, g32_30, g32_31, g32_32, g32_33, g32_34, g32_35, g32_36, g32_37, g32_38, g32_39, l32_13, l32_20, l32_23, l32_26, l32_28, l32_30, l32_32, l32_34, l32_36, l32_38, l32_39, steps_nil, steps_cons, draws_nil, draws_cons, step_mk, stepB_some, stepB_none, memB_mk, thenS_some, regB_some, branch_bool, sel_true, sel_false, wanted_none, wanted_some, asB, mk_put, mk_put_none, arg_tmp, arg_const, arg_func, arg_global, upd_same, upd_ne, evPure, evArgs, m_load, m_store, m_alloc, m_box, m_call, m_lookup, m_mapUpdate, m_inv, evLoad, readCells, evFieldAddr, evIndexAddr, asIdx, ofValue, isPure, evBin, ib_lss, ib_leq, ib_gtr, ib_geq, ib_eql, ib_neq, evUn, leave_normal, leave_ret, finish, then_normal, then_exit, then_ret, close_normal, close_exit, close_ret, evConv, mk_marks, dropMarks, resOf, resList, mk_getD, argF, List.getD_cons_zero, List.getD_cons_succ, V.cells, evLen, kdOp, kdOf, readsOf, protS, eq_bool, eq_nil28, evStore, V.oneCell, putElem, splice, -List.getD_eq_getElem?_getD, -getElem?_pos, und55, und53, und22, size3, size53, size58, size22, ty3, ty4, ty53, ty58, ty22, h0, h1, h7, h8, h9, hb, hv, hi, hs, hhas, hput, hn, und40, und38, ty38, size38, size4', ty4]
      refine next _ ?_ ?_ ?_ ?_ ?_
      all_goals simp [upd_ne, upd_same, h0, h1, h8, h7]
/-- The first k are turned. -/
def mixI (S' S : Nat → Bool) (k : Nat) : Nat → Bool := fun i => if i < k then S' i else S i
theorem mixI_put (b k : Nat) (S' S : Nat → Bool) (hk : k < b) : putS b (mixI S' S k) (k : Nat) (S' k) = mixI S' S (k + 1) := by
  funext j
  unfold putS mixI
  by_cases h : j = k
  · subst h; simp [hk]
  · have h1 : ¬ ((j : Int) = (k : Nat) ∧ j < b) := by omega
    rw [if_neg h1]
    by_cases h2 : j < k
    · have : j < k + 1 := by omega
      simp [h2, this]
    · have : ¬ j < k + 1 := by omega
      simp [h2, this]
theorem do_loop (what : Nat) (hw : what = 0 ∨ what = 1 ∨ what = 2) (o q ov ovq b bq : Nat) (iv ivq : V) (S Oq : Nat → Bool) (hq1 : ov ≠ q) (hq2 : ov ≠ ovq) :
    ∀ (d k : Nat) (f : Nat → V) (st : St), k + d = b → RefAt st o iv ov b (mixI (turned b (opOf what) S Oq) S k) → RefAt st q ivq ovq bq Oq → Free st ov → f 0 = .ptr o 0 → f 1 = .int .i64 (what : Nat) → f 8 = .ptr q 0 → f 7 = .bool (!(allB (fun j => S j == turned b (opOf what) S Oq j) k)) → f 9 = .int .i64 (k : Nat) →
    Out 63 [] (fun e f' st' => e = .exit 0 ∧ RefAt st' o iv ov b (mixI (turned b (opOf what) S Oq) S b) ∧ But st st' ov ∧ f' 7 = .bool (!(allB (fun j => S j == turned b (opOf what) S Oq j) b))) ((run tb).code none c32_10 (mk 63 f []) st)
  | 0, k, f, st, hk, hR, hRq, hl, h0, h1, h8, h7, h9 => by
    have hk : k = b := hk
    subst hk
    have hb := hR.hb
    generalize allB (fun j => S j == turned k (opOf what) S Oq j) k = c at *
    generalize hQ : (fun (e : E) (f' : Nat → V) (st' : St) => e = .exit 0 ∧ RefAt st' o iv ov k (mixI (turned k (opOf what) S Oq) S k) ∧ But st st' ov ∧ f' 7 = .bool (!c)) = Q
    have hfin : ∀ f', f' 7 = .bool (!c) → Q (.exit 0) f' st := fun f' hf => by subst hQ; exact ⟨rfl, hR, But.refl _ _, hf⟩
    rw [go_loop_of e32_10]
    rcases hR.hi with ⟨rfl, hv⟩ | ⟨hz, rfl⟩
    · simp [g32_11, g32_12, g32_13, g32_14, g32_15, g32_16, g32_17, g32_18, g32_19, g32_20, g32_21, g32_22, g32_23, g32_24, g32_25, g32_26, g32_27, g32_28, g32_29, g32_30, g32_31, g32_32, g32_33, g32_34, g32_35, g32_36, g32_37, g32_38, g32_39, l32_13, l32_20, l32_23, l32_26, l32_28, l32_30, l32_32, l32_34, l32_36, l32_38, l32_39, steps_nil, steps_cons, draws_nil, draws_cons, step_mk, stepB_some, stepB_none, memB_mk, thenS_some, regB_some, branch_bool, sel_true, sel_false, wanted_none, wanted_some, asB, mk_put, mk_put_none, arg_tmp, arg_const, arg_func, arg_global, upd_same, upd_ne, evPure, evArgs, m_load, m_store, m_alloc, m_box, m_call, m_lookup, m_mapUpdate, m_inv, evLoad, readCells, evFieldAddr, evIndexAddr, asIdx, ofValue, isPure, evBin, ib_lss, ib_leq, ib_gtr, ib_geq, ib_eql, ib_neq, evUn, leave_normal, leave_ret, finish, then_normal, then_exit, then_ret, close_normal, close_exit, close_ret, evConv, mk_marks, dropMarks, resOf, resList, mk_getD, argF, List.getD_cons_zero, List.getD_cons_succ, V.cells, evLen, kdOp, kdOf, readsOf, protS, eq_bool, eq_nil28, evStore, V.oneCell, putElem, splice, -List.getD_eq_getElem?_getD, -getElem?_pos, und55, und53, und22, size3, size53, size58, size22, ty3, ty4, ty53, ty58, ty22, h0, h9, hb, und40, und38, ty38, size38]
      exact .one (hfin _ (by simp [upd_ne, h7]))
    · subst hz
      simp [g32_11, g32_12, g32_13, g32_14, g32_15, g32_16, g32_17, g32_18, g32_19, g32_20, g32_21, g32_22, g32_23, g32_24, g32_25, g32_26, g32_27, g32_28, g32_29, g32_30, g32_31, g32_32, g32_33, g32_34, g32_35, g32_36, g32_37, g32_38, g32_39, l32_13, l32_20, l32_23, l32_26, l32_28, l32_30, l32_32, l32_34, l32_36, l32_38, l32_39, steps_nil, steps_cons, draws_nil, draws_cons, step_mk, stepB_some, stepB_none, memB_mk, thenS_some, regB_some, branch_bool, sel_true, sel_false, wanted_none, wanted_some, asB, mk_put, mk_put_none, arg_tmp, arg_const, arg_func, arg_global, upd_same, upd_ne, evPure, evArgs, m_load, m_store, m_alloc, m_box, m_call, m_lookup, m_mapUpdate, m_inv, evLoad, readCells, evFieldAddr, evIndexAddr, asIdx, ofValue, isPure, evBin, ib_lss, ib_leq, ib_gtr, ib_geq, ib_eql, ib_neq, evUn, leave_normal, leave_ret, finish, then_normal, then_exit, then_ret, close_normal, close_exit, close_ret, evConv, mk_marks, dropMarks, resOf, resList, mk_getD, argF, List.getD_cons_zero, List.getD_cons_succ, V.cells, evLen, kdOp, kdOf, readsOf, protS, eq_bool, eq_nil28, evStore, V.oneCell, putElem, splice, -List.getD_eq_getElem?_getD, -getElem?_pos, und55, und53, und22, size3, size53, size58, size22, ty3, ty4, ty53, ty58, ty22, h0, h9, hb, und40, und38, ty38, size38]
      exact .one (hfin _ (by simp [upd_ne, h7]))
  | d + 1, k, f, st, hk, hR, hRq, hl, h0, h1, h8, h7, h9 => by
    have hkb : k < b := by omega
    have hbm := hR.hm
    obtain ⟨rfl, hv⟩ : iv = .slice ov 1 0 b ∧ st.store[ov]? = some (.vec false (bools b (mixI (turned b (opOf what) S Oq) S k))) := by
      rcases hR.hi with h | ⟨h, _⟩
      · exact h
      · omega
    have hget := bools_get (mixI (turned b (opOf what) S Oq) S k) hkb
    have hmk : mixI (turned b (opOf what) S Oq) S k k = S k := by unfold mixI; rw [if_neg (by omega)]
    rw [hmk] at hget
    have hhas := rhas_run st q ovq bq ivq Oq (k : Nat) hRq
    rw [inS_nat'] at hhas
    obtain ⟨st1, hput, hR1, hbut⟩ := rput_run st o ov b _ _ (k : Nat) (opOf what (S k) (Oq k)) hR hl
    have htk : turned b (opOf what) S Oq k = opOf what (S k) (Oq k) := by unfold turned; simp [hkb]
    rw [← htk, mixI_put b k _ S hkb] at hR1
    rw [inS_nat', hmk] at hput
    have hp : (decide (0 ≤ ((k : Nat) : Int)) && decide (((k : Nat) : Int) < (b : Int)) && (S k != opOf what (S k) (Oq k))) = !(S k == turned b (opOf what) S Oq k) := by
      rw [htk]
      simp [hkb, bne]
    rw [hp] at hput
    have hn : intBin .add .i64 (k : Int) 1 = some (.int .i64 ((k + 1 : Nat) : Int)) := by rw [add64 (by omega) (by omega)]; simp
    refine do_round what hw o q ov b k (k + 1) (S k) (Oq k) _ _ _ st st1 f hR.hb hv hkb hget hhas hput hn h0 h1 h8 h7 h9 ?_
    intro f' q0 q1 q8 q7 q9
    have hl1 : Free st1 ov := ⟨by rw [hbut.base]; exact hl.1, by rw [hbut.prot]; exact hl.2⟩
    refine (do_loop what hw o q ov ovq b bq _ ivq S Oq hq1 hq2 d (k + 1) f' st1 (by omega) hR1 (hRq.but hbut hq1 hq2) hl1 q0 q1 q8 ?_ q9).mono ?_
    · rw [q7]
      simp only [allB, Bool.not_and]
      rw [Bool.or_comm]
    · rintro e f2 st2 ⟨a1, a2, a3, a4⟩
      exact ⟨a1, a2, hbut.trans a3, a4⟩
/-- A state that has grown, and in which one object has changed. -/
structure GBut (st st' : St) (x : Nat) : Prop where
  base : st'.base = st.base
  prot : st'.prot = st.prot
  len : st.store.length ≤ st'.store.length
  same : ∀ i, i < st.store.length → i ≠ x → st'.store[i]? = st.store[i]?
theorem rdo_run (what : Nat) (hw : what = 0 ∨ what = 1 ∨ what = 2) (st : St) (hok : okSt st) (o p ov pv b bp : Nat) (iv jv : V) (S Oq : Nat → Bool) (hR : RefAt st o iv ov b S) (hP : RefAt st p jv pv bp Oq) (hl : Free st ov) (hov : ov < st.store.length) (c : Bool) (hc : c = false ↔ ∀ i, S i = turned b (opOf what) S Oq i) :
    ∃ st', (run tb).call 32 [.ptr o 0, .int .i64 (what : Nat), .ptr p 0] st = some (.bool c, st') ∧ RefAt st' o iv ov b (turned b (opOf what) S Oq) ∧ GBut st st' ov := by
  obtain ⟨k, iv', st1, hcp, hK, hg, hk1, hk2⟩ := rcopy_run st p pv bp jv Oq hP
  have hzT : ∀ i, b ≤ i → turned b (opOf what) S Oq i = false := turned_z
  have hm0 : mixI (turned b (opOf what) S Oq) S 0 = S := by funext i; simp [mixI]
  have hmb : mixI (turned b (opOf what) S Oq) S b = turned b (opOf what) S Oq := by
    funext i
    unfold mixI
    split
    · rfl
    · rw [hR.hz i (by omega), hzT i (by omega)]
  have hR1 := hR.grow hg
  have hl1 : Free st1 ov := ⟨by rw [hg.base]; exact hl.1, by rw [hg.prot]; exact hl.2⟩
  have hcc : (!(allB (fun j => S j == turned b (opOf what) S Oq j) b)) = c := by
    have h1 := allB_iff (fun j => S j == turned b (opOf what) S Oq j) b
    have h2 : allB (fun j => S j == turned b (opOf what) S Oq j) b = true ↔ c = false := by
      rw [h1, hc]
      constructor
      · intro h i
        by_cases hi : i < b
        · simpa using h i hi
        · rw [hR.hz i (by omega), hzT i (by omega)]
      · intro h i _
        simpa using h i
    cases hq : allB (fun j => S j == turned b (opOf what) S Oq j) b <;> cases c <;> simp_all
  suffices H : ∀ Q : V → St → Prop, (∀ st', RefAt st' o iv ov b (turned b (opOf what) S Oq) → But st1 st' ov → Q (.bool c) st') → Ret Q ((run tb).call 32 [.ptr o 0, .int .i64 (what : Nat), .ptr p 0] st) by
    obtain ⟨v, st', h1, rfl, h2, h3⟩ := H (fun v st' => v = .bool c ∧ RefAt st' o iv ov b (turned b (opOf what) S Oq) ∧ But st1 st' ov) (fun st' a c => ⟨rfl, a, c⟩)
    refine ⟨st', h1, h2, h3.base.trans hg.base, h3.prot.trans hg.prot, by rw [h3.len]; exact hg.len, fun i hi hne => ?_⟩
    rw [h3.same i hne]; exact hg.get i hi
  intro Q hQ
  have hloop := fun f => do_loop what hw o k ov st.store.length b bp iv iv' S Oq (by omega) (by omega) b 0 f st1 (by omega) (by rw [hm0]; exact hR1) hK hl1
  rw [hmb, hcc] at hloop
  rw [run32 (by simp)]
  simp [g32_0, g32_1, g32_2, g32_3, g32_4, g32_5, g32_6, g32_7, g32_8, g32_9, l32_1, l32_3, l32_5, l32_8, steps_nil, steps_cons, draws_nil, draws_cons, step_mk, stepB_some, stepB_none, memB_mk, thenS_some, regB_some, branch_bool, sel_true, sel_false, wanted_none, wanted_some, asB, mk_put, mk_put_none, arg_tmp, arg_const, arg_func, arg_global, upd_same, upd_ne, evPure, evArgs, m_load, m_store, m_alloc, m_box, m_call, m_lookup, m_mapUpdate, m_inv, evLoad, readCells, evFieldAddr, evIndexAddr, asIdx, ofValue, isPure, evBin, ib_lss, ib_leq, ib_gtr, ib_geq, ib_eql, ib_neq, evUn, leave_normal, leave_ret, finish, then_normal, then_exit, then_ret, close_normal, close_exit, close_ret, evConv, mk_marks, dropMarks, resOf, resList, mk_getD, argF, List.getD_cons_zero, List.getD_cons_succ, V.cells, evLen, kdOp, kdOf, readsOf, protS, eq_bool, eq_nil28, evStore, V.oneCell, putElem, splice, -List.getD_eq_getElem?_getD, -getElem?_pos, und55, und53, und22, size3, size53, size58, size22, ty3, ty4, ty53, ty58, ty22, hcp]
  refine Out.use (C := fun o => Ret Q (leave tb _ (andThen (closeB 0 o) _))) (hloop _ ?_ ?_ ?_ ?_ ?_) ?_
  · simp [upd_ne, argF]
  · simp [upd_ne, argF]
  · simp [upd_ne, upd_same]
  · simp [upd_ne, upd_same, allB]
  · simp [upd_same]
  · rintro e f st' ⟨rfl, h1, h2, h3⟩
    simp [g32_40, g32_41, g32_42, l32_41, steps_nil, steps_cons, draws_nil, draws_cons, step_mk, stepB_some, stepB_none, memB_mk, thenS_some, regB_some, branch_bool, sel_true, sel_false, wanted_none, wanted_some, asB, mk_put, mk_put_none, arg_tmp, arg_const, arg_func, arg_global, upd_same, upd_ne, evPure, evArgs, m_load, m_store, m_alloc, m_box, m_call, m_lookup, m_mapUpdate, m_inv, evLoad, readCells, evFieldAddr, evIndexAddr, asIdx, ofValue, isPure, evBin, ib_lss, ib_leq, ib_gtr, ib_geq, ib_eql, ib_neq, evUn, leave_normal, leave_ret, finish, then_normal, then_exit, then_ret, close_normal, close_exit, close_ret, evConv, mk_marks, dropMarks, resOf, resList, mk_getD, argF, List.getD_cons_zero, List.getD_cons_succ, V.cells, evLen, kdOp, kdOf, readsOf, protS, eq_bool, eq_nil28, evStore, V.oneCell, putElem, splice, -List.getD_eq_getElem?_getD, -getElem?_pos, und55, und53, und22, size3, size53, size58, size22, ty3, ty4, ty53, ty58, ty22, h3]
    exact .one (hQ st' h1 h2)
theorem turned_eq' {b : Nat} {op : Bool → Bool → Bool} {S T : Nat → Bool} (h0 : op false false = false) (hS : ∀ i, b ≤ i → S i = false) (hT : ∀ i, b ≤ i → T i = false) : turned b op S T = fun i => op (S i) (T i) := by
  funext i
  unfold turned
  by_cases hi : i < b
  · simp [hi]
  · rw [hS i (by omega), hT i (by omega), h0]; simp
/-- Fill; a set joined with itself, met with itself. -/
theorem fill_run (st : St) (r rv b : Nat) (S : Nat → Bool) (hs : SetAt st r rv b S) (hl : Free st rv) : (run tb).call 30 [.ptr r 0] st = some (.tup [], putW st rv b (fun i => decide (i < b))) := by
  have e : turned b (fun _ _ => true) S S = fun i => decide (i < b) := by funext i; simp [turned]
  obtain ⟨c, hc⟩ : ∃ c : Bool, c = false ↔ ∀ i, S i = turned b (fun _ _ => true) S S i := by
    classical
    exact ⟨!decide (∀ i, S i = turned b (fun _ _ => true) S S i), by simp⟩
  have h := turn_run r r rv b 44 (fun _ _ => true) S S st hs hl (fun _ => 18446744073709551615) (fun k => ⟨by decide, fun j hj => by
      show (2 ^ 64 - 1).testBit j = true
      rw [Nat.testBit_two_pow_sub_one]; simp [hj]⟩)
    (fun k hk => by
      have := word_run _ r rv b _ k (hs.put (mix_z (k := k) turned_z hs.hz) (S' := mixS (turned b (fun _ _ => true) S S) S k))
      rw [wd_mix] at this
      exact this) (fun k st => fill_how st _ _) c hc
  rw [e] at h
  rw [run30 (by simp)]
  simp [g30_0, l30_0, steps_nil, steps_cons, draws_nil, draws_cons, step_mk, stepB_some, stepB_none, memB_mk, thenS_some, regB_some, branch_bool, sel_true, sel_false, wanted_none, wanted_some, asB, mk_put, mk_put_none, arg_tmp, arg_const, arg_func, arg_global, upd_same, upd_ne, evPure, evArgs, m_load, m_store, m_alloc, m_box, m_call, m_lookup, m_mapUpdate, m_inv, evLoad, readCells, evFieldAddr, evIndexAddr, asIdx, ofValue, isPure, evBin, ib_lss, ib_leq, ib_gtr, ib_geq, ib_eql, ib_neq, evUn, leave_normal, leave_ret, finish, then_normal, then_exit, then_ret, close_normal, close_exit, close_ret, evConv, mk_marks, dropMarks, resOf, resList, mk_getD, argF, List.getD_cons_zero, List.getD_cons_succ, V.cells, evLen, kdOp, kdOf, readsOf, protS, eq_bool, eq_nil28, evStore, V.oneCell, putElem, splice, -List.getD_eq_getElem?_getD, -getElem?_pos, und55, und53, und22, size3, size53, size58, size22, ty3, ty4, ty53, ty58, ty22, h]
theorem join_self (st : St) (r rv b : Nat) (S : Nat → Bool) (hs : SetAt st r rv b S) (hl : Free st rv) : (run tb).call 26 [.ptr r 0, .ptr r 0] st = some (.bool false, st) := by
  have e : turned b (fun x y => x || y) S S = S := by rw [turned_eq' rfl hs.hz hs.hz]; funext i; simp
  have h := turn_run r r rv b 39 (fun x y => x || y) S S st hs hl (fun k => wd S k ||| wd S k) (fun k => ⟨Nat.or_lt_two_pow (wd_lt _ _) (wd_lt _ _), fun j hj => by rw [Nat.testBit_or, wdb _ _ _ hj]⟩)
    (fun k hk => by
      have := word_run _ r rv b _ k (hs.put (mix_z (k := k) turned_z hs.hz) (S' := mixS (turned b (fun x y => x || y) S S) S k))
      rw [wd_mix] at this
      exact this) (fun k st => join_how st _ _ (wd_lt _ _) (wd_lt _ _)) false (by rw [e]; simp)
  rw [e, putW_self hs fun _ => rfl] at h
  rw [run26 (by simp)]
  simp [g26_0, g26_1, g26_2, g26_3, g26_4, l26_1, l26_3, steps_nil, steps_cons, draws_nil, draws_cons, step_mk, stepB_some, stepB_none, memB_mk, thenS_some, regB_some, branch_bool, sel_true, sel_false, wanted_none, wanted_some, asB, mk_put, mk_put_none, arg_tmp, arg_const, arg_func, arg_global, upd_same, upd_ne, evPure, evArgs, m_load, m_store, m_alloc, m_box, m_call, m_lookup, m_mapUpdate, m_inv, evLoad, readCells, evFieldAddr, evIndexAddr, asIdx, ofValue, isPure, evBin, ib_lss, ib_leq, ib_gtr, ib_geq, ib_eql, ib_neq, evUn, leave_normal, leave_ret, finish, then_normal, then_exit, then_ret, close_normal, close_exit, close_ret, evConv, mk_marks, dropMarks, resOf, resList, mk_getD, argF, List.getD_cons_zero, List.getD_cons_succ, V.cells, evLen, kdOp, kdOf, readsOf, protS, eq_bool, eq_nil28, evStore, V.oneCell, putElem, splice, -List.getD_eq_getElem?_getD, -getElem?_pos, und55, und53, und22, size3, size53, size58, size22, ty3, ty4, ty53, ty58, ty22, h]
theorem meet_self (st : St) (r rv b : Nat) (S : Nat → Bool) (hs : SetAt st r rv b S) (hl : Free st rv) : (run tb).call 24 [.ptr r 0, .ptr r 0] st = some (.bool false, st) := by
  have e : turned b (fun x y => x && y) S S = S := by rw [turned_eq' rfl hs.hz hs.hz]; funext i; simp
  have h := turn_run r r rv b 37 (fun x y => x && y) S S st hs hl (fun k => wd S k &&& wd S k) (fun k => ⟨Nat.lt_of_le_of_lt Nat.and_le_left (wd_lt _ _), fun j hj => by rw [Nat.testBit_and, wdb _ _ _ hj]⟩)
    (fun k hk => by
      have := word_run _ r rv b _ k (hs.put (mix_z (k := k) turned_z hs.hz) (S' := mixS (turned b (fun x y => x && y) S S) S k))
      rw [wd_mix] at this
      exact this) (fun k st => meet_how st _ _ (wd_lt _ _) (wd_lt _ _)) false (by rw [e]; simp)
  rw [e, putW_self hs fun _ => rfl] at h
  rw [run24 (by simp)]
  simp [g24_0, g24_1, g24_2, g24_3, g24_4, l24_1, l24_3, steps_nil, steps_cons, draws_nil, draws_cons, step_mk, stepB_some, stepB_none, memB_mk, thenS_some, regB_some, branch_bool, sel_true, sel_false, wanted_none, wanted_some, asB, mk_put, mk_put_none, arg_tmp, arg_const, arg_func, arg_global, upd_same, upd_ne, evPure, evArgs, m_load, m_store, m_alloc, m_box, m_call, m_lookup, m_mapUpdate, m_inv, evLoad, readCells, evFieldAddr, evIndexAddr, asIdx, ofValue, isPure, evBin, ib_lss, ib_leq, ib_gtr, ib_geq, ib_eql, ib_neq, evUn, leave_normal, leave_ret, finish, then_normal, then_exit, then_ret, close_normal, close_exit, close_ret, evConv, mk_marks, dropMarks, resOf, resList, mk_getD, argF, List.getD_cons_zero, List.getD_cons_succ, V.cells, evLen, kdOp, kdOf, readsOf, protS, eq_bool, eq_nil28, evStore, V.oneCell, putElem, splice, -List.getD_eq_getElem?_getD, -getElem?_pos, und55, und53, und22, size3, size53, size58, size22, ty3, ty4, ty53, ty58, ty22, h]
end Go.Proofs.YtgknieohkniojaaDoor
namespace Go.Proofs.YtgknieohkniojaaDoor
open Go.Abs
set_option maxRecDepth 100000
set_option linter.unusedSimpArgs false
set_option linter.unusedVariables false
set_option maxHeartbeats 4000000
theorem und25 : tb.und 25 = some (.struct (match Tryd.prog.underlying 25 with | some (.struct fs) => fs | _ => #[])) := by rw [tb_eq]; kernel_rfl
theorem und23 : tb.und 23 = some (.slice 25) := by rw [tb_eq]; kernel_rfl
theorem size25 : tb.size 25 = some 3 := by rw [tb_eq]; kernel_rfl
/-- A call that a set is told. -/
structure Cl where
  what : Int
  n : Int
  nl : Bool
  xs : List Int
def Cl.cells (c : Cl) : List V := [.int .i64 c.what, .int .i64 c.n, .list false (some c.nl) (ints c.xs)]
def cV (c : Cl) : V := .agg c.cells
def Cl.big (c : Cl) : Bool := decide ((60 : Int) < (c.xs.length : Int)) || (decide ((1000 : Int) < c.n) && decide ((2 : Int) ≤ c.what) && decide (c.what ≤ 4))
theorem great_round (cs : List V) (k k1 n : Nat) (w m : Int) (nl : Bool) (xs : List Int) (p q r s : Bool) (full : Bool) (nl' : Option Bool) (st : St) (f : Nat → V) (hx : cs[k]? = some (.agg [.int .i64 w, .int .i64 m, .list false (some nl) (ints xs)])) (hl : cs.length = n) (hk : k < n)
    (hp : decide ((60 : Int) < (xs.length : Int)) = p) (hq : decide ((1000 : Int) < m) = q) (hr : decide ((2 : Int) ≤ w) = r) (hs : decide (w ≤ 4) = s) (hn : intBin .add .i64 (k : Nat) 1 = some (.int .i64 (k1 : Nat)))
    (h0 : f 0 = .list full nl' cs) (h3 : f 3 = .int .i64 (k : Nat)) {Q : E → (Nat → V) → St → Prop} (hbig : (p || (q && r && s)) = true → ∀ f', f' 2 = .bool true → Q .ret f' st)
    (next : (p || (q && r && s)) = false → ∀ f', f' 0 = .list full nl' cs → f' 3 = .int .i64 (k1 : Nat) → Out 44 [] Q ((run tb).code none c9_14 (mk 44 f' []) st)) : Out 44 [] Q ((run tb).code none c9_14 (mk 44 f []) st) := by
  rw [go_loop_of e9_14]
  cases p <;> cases q <;> cases r <;> cases s
  all_goals
    simp [g9_15, g9_16, g9_17, g9_18, g9_19, g9_20, g9_21, g9_22, g9_23, g9_24, g9_25, g9_26, g9_27, g9_28, g9_29, g9_30, l9_17, l9_24, l9_27, l9_30, steps_nil, steps_cons, draws_nil, draws_cons, step_mk, stepB_some, stepB_none, memB_mk, thenS_some, regB_some, branch_bool, sel_true, sel_false, wanted_none, wanted_some, asB, mk_put, mk_put_none, arg_tmp, arg_const, arg_func, arg_global, upd_same, upd_ne, evPure, evArgs, m_load, m_store, m_alloc, m_box, m_call, m_lookup, m_mapUpdate, m_inv, evLoad, readCells, evFieldAddr, evIndexAddr, asIdx, ofValue, isPure, evBin, ib_lss, ib_leq, ib_gtr, ib_geq, ib_eql, ib_neq, evUn, leave_normal, leave_ret, finish, then_normal, then_exit, then_ret, close_normal, close_exit, close_ret, evConv, mk_marks, dropMarks, resOf, resList, mk_getD, argF, List.getD_cons_zero, List.getD_cons_succ, V.cells, evLen, kdOp, kdOf, readsOf, protS, eq_bool, eq_nil28, evStore, V.oneCell, putElem, splice, -List.getD_eq_getElem?_getD, -getElem?_pos, und55, und53, und22, size3, size53, size58, size22, ty3, ty4, ty53, ty58, ty22, h0, h3, hx, hl, hk, hp, hq, hr, hs, hn, und25, und23, size25, ints_len]
    first
      | exact .one (hbig rfl _ (by simp [upd_same]))
      | (refine next rfl _ ?_ ?_
         · simp [upd_ne, h0]
         · simp [upd_same])
theorem great_loop (full : Bool) (nl' : Option Bool) (cls : List Cl) (st : St) (hlen : cls.length < 1000) : ∀ (d k : Nat) (f : Nat → V), k + d = cls.length → f 0 = .list full nl' (cls.map cV) → f 3 = .int .i64 (k : Nat) →
    Out 44 [] (fun e f' st' => st' = st ∧ (e = .exit 0 ∧ (cls.drop k).any Cl.big = false ∨ e = .ret ∧ f' 2 = .bool true ∧ (cls.drop k).any Cl.big = true)) ((run tb).code none c9_14 (mk 44 f []) st)
  | 0, k, f, hk, h0, h3 => by
    have hk : k = cls.length := hk
    subst hk
    have hd : cls.drop cls.length = [] := List.drop_length
    rw [hd]
    generalize hQ : (fun (e : E) (f' : Nat → V) (st' : St) => st' = st ∧ (e = .exit 0 ∧ ([] : List Cl).any Cl.big = false ∨ e = .ret ∧ f' 2 = .bool true ∧ ([] : List Cl).any Cl.big = true)) = Q
    have hfin : ∀ f', Q (.exit 0) f' st := fun f' => by subst hQ; exact ⟨rfl, .inl ⟨rfl, rfl⟩⟩
    have hm : (cls.map cV).length = cls.length := by simp
    generalize cls.map cV = cs at *
    rw [go_loop_of e9_14]
    simp [g9_15, g9_16, g9_17, g9_18, g9_19, g9_20, g9_21, g9_22, g9_23, g9_24, g9_25, g9_26, g9_27, g9_28, g9_29, g9_30, l9_17, l9_24, l9_27, l9_30, steps_nil, steps_cons, draws_nil, draws_cons, step_mk, stepB_some, stepB_none, memB_mk, thenS_some, regB_some, branch_bool, sel_true, sel_false, wanted_none, wanted_some, asB, mk_put, mk_put_none, arg_tmp, arg_const, arg_func, arg_global, upd_same, upd_ne, evPure, evArgs, m_load, m_store, m_alloc, m_box, m_call, m_lookup, m_mapUpdate, m_inv, evLoad, readCells, evFieldAddr, evIndexAddr, asIdx, ofValue, isPure, evBin, ib_lss, ib_leq, ib_gtr, ib_geq, ib_eql, ib_neq, evUn, leave_normal, leave_ret, finish, then_normal, then_exit, then_ret, close_normal, close_exit, close_ret, evConv, mk_marks, dropMarks, resOf, resList, mk_getD, argF, List.getD_cons_zero, List.getD_cons_succ, V.cells, evLen, kdOp, kdOf, readsOf, protS, eq_bool, eq_nil28, evStore, V.oneCell, putElem, splice, -List.getD_eq_getElem?_getD, -getElem?_pos, und55, und53, und22, size3, size53, size58, size22, ty3, ty4, ty53, ty58, ty22, h0, h3, hm, und23]
    exact .one (hfin _)
  | d + 1, k, f, hk, h0, h3 => by
    have hlt : k < cls.length := by omega
    have ed : cls.drop k = cls[k] :: cls.drop (k + 1) := List.drop_eq_getElem_cons hlt
    have hx : (cls.map cV)[k]? = some (cV cls[k]) := by simp [hlt]
    have hn : intBin .add .i64 (k : Nat) 1 = some (.int .i64 ((k + 1 : Nat) : Int)) := by rw [add64 (by omega) (by omega)]; simp
    rw [ed]
    refine great_round (cls.map cV) k (k + 1) cls.length _ _ _ _ _ _ _ _ full nl' st f hx (by simp) hlt rfl rfl rfl rfl hn h0 h3 ?_ ?_
    · intro hb f' h2
      refine ⟨rfl, .inr ⟨rfl, h2, ?_⟩⟩
      simp only [List.any_cons]
      have : Cl.big cls[k] = true := hb
      rw [this]; rfl
    · intro hb f' q0 q3
      refine (great_loop full nl' cls st hlen d (k + 1) f' (by omega) q0 q3).mono ?_
      rintro e f2 st2 ⟨h1, h⟩
      have hb' : Cl.big cls[k] = false := hb
      simp only [List.any_cons, hb', Bool.false_or]
      exact ⟨h1, h⟩
theorem great_run (full : Bool) (nl' : Option Bool) (cls : List Cl) (st : St) : (run tb).call 9 [.list full nl' (cls.map cV)] st = some (.bool (decide ((60 : Int) < (cls.length : Int)) || cls.any Cl.big), st) := by
  have hm : (cls.map cV).length = cls.length := by simp
  by_cases hl : (60 : Int) < (cls.length : Int)
  · have e : (decide ((60 : Int) < (cls.length : Int)) || cls.any Cl.big) = true := by simp [hl]
    rw [e]
    generalize cls.map cV = cs at *
    rw [run9 (by simp)]
    simp [g9_0, g9_1, g9_2, g9_3, g9_4, g9_5, g9_6, g9_7, g9_8, g9_9, g9_10, g9_11, g9_12, g9_13, l9_1, l9_4, l9_7, l9_12, steps_nil, steps_cons, draws_nil, draws_cons, step_mk, stepB_some, stepB_none, memB_mk, thenS_some, regB_some, branch_bool, sel_true, sel_false, wanted_none, wanted_some, asB, mk_put, mk_put_none, arg_tmp, arg_const, arg_func, arg_global, upd_same, upd_ne, evPure, evArgs, m_load, m_store, m_alloc, m_box, m_call, m_lookup, m_mapUpdate, m_inv, evLoad, readCells, evFieldAddr, evIndexAddr, asIdx, ofValue, isPure, evBin, ib_lss, ib_leq, ib_gtr, ib_geq, ib_eql, ib_neq, evUn, leave_normal, leave_ret, finish, then_normal, then_exit, then_ret, close_normal, close_exit, close_ret, evConv, mk_marks, dropMarks, resOf, resList, mk_getD, argF, List.getD_cons_zero, List.getD_cons_succ, V.cells, evLen, kdOp, kdOf, readsOf, protS, eq_bool, eq_nil28, evStore, V.oneCell, putElem, splice, -List.getD_eq_getElem?_getD, -getElem?_pos, und55, und53, und22, size3, size53, size58, size22, ty3, ty4, ty53, ty58, ty22, hm, hl, und23]
  · have e : (decide ((60 : Int) < (cls.length : Int)) || cls.any Cl.big) = cls.any Cl.big := by simp [hl]
    rw [e]
    have hloop := great_loop full nl' cls st (by omega) cls.length 0
    have hd : cls.drop 0 = cls := rfl
    rw [hd] at hloop
    generalize cls.any Cl.big = g at *
    generalize cls.map cV = cs at *
    rw [run9 (by simp)]
    simp [g9_0, g9_1, g9_2, g9_3, g9_4, g9_5, g9_6, g9_7, g9_8, g9_9, g9_10, g9_11, g9_12, g9_13, l9_1, l9_4, l9_7, l9_12, steps_nil, steps_cons, draws_nil, draws_cons, step_mk, stepB_some, stepB_none, memB_mk, thenS_some, regB_some, branch_bool, sel_true, sel_false, wanted_none, wanted_some, asB, mk_put, mk_put_none, arg_tmp, arg_const, arg_func, arg_global, upd_same, upd_ne, evPure, evArgs, m_load, m_store, m_alloc, m_box, m_call, m_lookup, m_mapUpdate, m_inv, evLoad, readCells, evFieldAddr, evIndexAddr, asIdx, ofValue, isPure, evBin, ib_lss, ib_leq, ib_gtr, ib_geq, ib_eql, ib_neq, evUn, leave_normal, leave_ret, finish, then_normal, then_exit, then_ret, close_normal, close_exit, close_ret, evConv, mk_marks, dropMarks, resOf, resList, mk_getD, argF, List.getD_cons_zero, List.getD_cons_succ, V.cells, evLen, kdOp, kdOf, readsOf, protS, eq_bool, eq_nil28, evStore, V.oneCell, putElem, splice, -List.getD_eq_getElem?_getD, -getElem?_pos, und55, und53, und22, size3, size53, size58, size22, ty3, ty4, ty53, ty58, ty22, hm, hl, und23]
    refine Out.use (C := fun o => leave tb _ (andThen (closeB 0 o) _) = _) (hloop _ (by omega) ?_ ?_) ?_
    · simp [upd_ne, argF]
    · simp [upd_same]
    · rintro e f st' ⟨rfl, ⟨rfl, rfl⟩ | ⟨rfl, h2, rfl⟩⟩
      · simp [g9_31, g9_32, g9_33, l9_32, steps_nil, steps_cons, draws_nil, draws_cons, step_mk, stepB_some, stepB_none, memB_mk, thenS_some, regB_some, branch_bool, sel_true, sel_false, wanted_none, wanted_some, asB, mk_put, mk_put_none, arg_tmp, arg_const, arg_func, arg_global, upd_same, upd_ne, evPure, evArgs, m_load, m_store, m_alloc, m_box, m_call, m_lookup, m_mapUpdate, m_inv, evLoad, readCells, evFieldAddr, evIndexAddr, asIdx, ofValue, isPure, evBin, ib_lss, ib_leq, ib_gtr, ib_geq, ib_eql, ib_neq, evUn, leave_normal, leave_ret, finish, then_normal, then_exit, then_ret, close_normal, close_exit, close_ret, evConv, mk_marks, dropMarks, resOf, resList, mk_getD, argF, List.getD_cons_zero, List.getD_cons_succ, V.cells, evLen, kdOp, kdOf, readsOf, protS, eq_bool, eq_nil28, evStore, V.oneCell, putElem, splice, -List.getD_eq_getElem?_getD, -getElem?_pos, und55, und53, und22, size3, size53, size58, size22, ty3, ty4, ty53, ty58, ty22]
      · simp [g9_31, g9_32, g9_33, l9_32, steps_nil, steps_cons, draws_nil, draws_cons, step_mk, stepB_some, stepB_none, memB_mk, thenS_some, regB_some, branch_bool, sel_true, sel_false, wanted_none, wanted_some, asB, mk_put, mk_put_none, arg_tmp, arg_const, arg_func, arg_global, upd_same, upd_ne, evPure, evArgs, m_load, m_store, m_alloc, m_box, m_call, m_lookup, m_mapUpdate, m_inv, evLoad, readCells, evFieldAddr, evIndexAddr, asIdx, ofValue, isPure, evBin, ib_lss, ib_leq, ib_gtr, ib_geq, ib_eql, ib_neq, evUn, leave_normal, leave_ret, finish, then_normal, then_exit, then_ret, close_normal, close_exit, close_ret, evConv, mk_marks, dropMarks, resOf, resList, mk_getD, argF, List.getD_cons_zero, List.getD_cons_succ, V.cells, evLen, kdOp, kdOf, readsOf, protS, eq_bool, eq_nil28, evStore, V.oneCell, putElem, splice, -List.getD_eq_getElem?_getD, -getElem?_pos, und55, und53, und22, size3, size53, size58, size22, ty3, ty4, ty53, ty58, ty22, h2]
end Go.Proofs.YtgknieohkniojaaDoor
