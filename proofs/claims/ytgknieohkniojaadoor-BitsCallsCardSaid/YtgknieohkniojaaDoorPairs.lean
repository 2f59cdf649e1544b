/- The parts of the functions: names for the places of their code. The walks: two sets side by side. Same and Apart, by what sets have. -/
import Derived.Test.YtgknieohkniojaaDoorSet
import Derived.Test.YtgknieohkniojaaDoorFwF
set_option linter.unusedVariables false
set_option linter.unusedSimpArgs false
set_option linter.unnecessarySimpa false
set_option linter.all false
namespace Go.Proofs.YtgknieohkniojaaDoor
open Go.Abs
set_option maxRecDepth 1000000
set_option linter.unusedSimpArgs false
variable {rd : Option Nat} {f : Nat → V} {m : List Nat} {st : St}
noncomputable def c18_0 : Code := bodyOf Tryd.f18
theorem b18 : Tryd.f18.body = some c18_0 := rfl
theorem n18 : Tryd.f18.ntmps = 7 := rfl
theorem r18 : Tryd.f18.results = #[.tmp 2] := rfl
theorem fn18 : tb.fn 18 = some Tryd.f18 := by rw [tb_eq]; exact Tryd.func18
theorem run18 {args : List V} {st : St} (ha : args.length ≤ 7) : (run tb).call 18 args st = leave tb [.tmp 2] ((run tb).code none c18_0 (mk 7 (argF args) []) st) := call_run fn18 (tbmode 18) b18 n18 r18 ha
noncomputable def c18_1 : Code := kid c18_0 0
noncomputable def c18_2 : Code := kid c18_0 1
noncomputable def c18_3 : Code := kid c18_2 0
noncomputable def c18_4 : Code := kid c18_2 1
noncomputable def o18_1 : Array Oper := opsOf (kid (bodyOf Tryd.f18) 0)
noncomputable def o18_3 : Array Oper := opsOf (kid (kid (bodyOf Tryd.f18) 1) 0)
theorem e18_0 : c18_0 = .seq c18_1 c18_2 := rfl
theorem e18_1 : c18_1 = .region 0 o18_1 false := rfl
theorem e18_2 : c18_2 = .seq c18_3 c18_4 := rfl
theorem e18_3 : c18_3 = .region 1 o18_3 false := rfl
theorem e18_4 : c18_4 = .ret := rfl
theorem g18_0 : (run tb).code rd c18_0 (mk 7 f m) st = andThen ((run tb).code rd c18_1 (mk 7 f m) st) (fun fr st => (run tb).code rd c18_2 fr st) := gx_seq e18_0
noncomputable def l18_1 : { l : List Step // lightOf o18_1 = l } := by refine ⟨?_, ?h⟩; case h => simp only [lightOf, o18_1, opsOf, kid, bodyOf, Tryd.f18, Option.getD_some, List.map, stepOf, Option.map, List.getElem?_toArray, List.getElem?_cons_succ, List.getElem?_cons_zero, Option.bind_some]; rfl
theorem g18_1 : (run tb).code rd c18_1 (mk 7 f m) st = regB (evSteps tb (run tb) l18_1.1 (mk 7 f m) st) := gx_region e18_1 l18_1.2
theorem g18_2 : (run tb).code rd c18_2 (mk 7 f m) st = andThen ((run tb).code rd c18_3 (mk 7 f m) st) (fun fr st => (run tb).code rd c18_4 fr st) := gx_seq e18_2
noncomputable def l18_3 : { l : List Step // lightOf o18_3 = l } := by refine ⟨?_, ?h⟩; case h => simp only [lightOf, o18_3, opsOf, kid, bodyOf, Tryd.f18, Option.getD_some, List.map, stepOf, Option.map, List.getElem?_toArray, List.getElem?_cons_succ, List.getElem?_cons_zero, Option.bind_some]; rfl
theorem g18_3 : (run tb).code rd c18_3 (mk 7 f m) st = regB (evSteps tb (run tb) l18_3.1 (mk 7 f m) st) := gx_region e18_3 l18_3.2
theorem g18_4 : (run tb).code rd c18_4 (mk 7 f m) st = some (.ret, mk 7 f m, st) := gx_ret e18_4
noncomputable def c22_0 : Code := bodyOf Tryd.f22
theorem b22 : Tryd.f22.body = some c22_0 := rfl
theorem n22 : Tryd.f22.ntmps = 15 := rfl
theorem r22 : Tryd.f22.results = #[.cell 4 4] := rfl
theorem fn22 : tb.fn 22 = some Tryd.f22 := by rw [tb_eq]; exact Tryd.func22
theorem run22 {args : List V} {st : St} (ha : args.length ≤ 15) : (run tb).call 22 args st = leave tb [.cell 4 4] ((run tb).code none c22_0 (mk 15 (argF args) []) st) := call_run fn22 (tbmode 22) b22 n22 r22 ha
noncomputable def c22_1 : Code := kid c22_0 0
noncomputable def c22_2 : Code := kid c22_0 1
noncomputable def c22_3 : Code := kid c22_2 0
noncomputable def c22_4 : Code := kid c22_3 0
noncomputable def c22_5 : Code := kid c22_3 1
noncomputable def c22_6 : Code := kid c22_5 0
noncomputable def c22_7 : Code := kid c22_6 0
noncomputable def c22_8 : Code := kid c22_7 0
noncomputable def c22_9 : Code := kid c22_7 1
noncomputable def c22_10 : Code := kid c22_6 1
noncomputable def c22_11 : Code := kid c22_10 0
noncomputable def c22_12 : Code := kid c22_11 0
noncomputable def c22_13 : Code := kid c22_11 1
noncomputable def c22_14 : Code := kid c22_13 0
noncomputable def c22_15 : Code := kid c22_14 0
noncomputable def c22_16 : Code := kid c22_14 1
noncomputable def c22_17 : Code := kid c22_13 1
noncomputable def c22_18 : Code := kid c22_2 1
noncomputable def c22_19 : Code := kid c22_18 0
noncomputable def c22_20 : Code := kid c22_18 1
noncomputable def o22_1 : Array Oper := opsOf (kid (bodyOf Tryd.f22) 0)
noncomputable def o22_4 : Array Oper := opsOf (kid (kid (kid (bodyOf Tryd.f22) 1) 0) 0)
noncomputable def o22_8 : Array Oper := opsOf (kid (kid (kid (kid (kid (kid (bodyOf Tryd.f22) 1) 0) 1) 0) 0) 0)
noncomputable def o22_9 : Array Oper := opsOf (kid (kid (kid (kid (kid (kid (bodyOf Tryd.f22) 1) 0) 1) 0) 0) 1)
noncomputable def o22_12 : Array Oper := opsOf (kid (kid (kid (kid (kid (kid (kid (bodyOf Tryd.f22) 1) 0) 1) 0) 1) 0) 0)
noncomputable def o22_15 : Array Oper := opsOf (kid (kid (kid (kid (kid (kid (kid (kid (kid (bodyOf Tryd.f22) 1) 0) 1) 0) 1) 0) 1) 0) 0)
noncomputable def o22_19 : Array Oper := opsOf (kid (kid (kid (bodyOf Tryd.f22) 1) 1) 0)
theorem e22_0 : c22_0 = .seq c22_1 c22_2 := rfl
theorem e22_1 : c22_1 = .region 0 o22_1 false := rfl
theorem e22_2 : c22_2 = .seq c22_3 c22_18 := rfl
theorem e22_3 : c22_3 = .seq c22_4 c22_5 := rfl
theorem e22_4 : c22_4 = .region 1 o22_4 false := rfl
theorem e22_5 : c22_5 = .block 0 c22_6 := rfl
theorem e22_6 : c22_6 = .rangeFunc (.tmp 9) #[10, 11] c22_7 c22_10 := rfl
theorem e22_7 : c22_7 = .seq c22_8 c22_9 := rfl
theorem e22_8 : c22_8 = .region 2 o22_8 false := rfl
theorem e22_9 : c22_9 = .region 3 o22_9 false := rfl
theorem e22_10 : c22_10 = .block 1 c22_11 := rfl
theorem e22_11 : c22_11 = .seq c22_12 c22_13 := rfl
theorem e22_12 : c22_12 = .region 4 o22_12 false := rfl
theorem e22_13 : c22_13 = .cond (.tmp 14) c22_14 c22_17 := rfl
theorem e22_14 : c22_14 = .seq c22_15 c22_16 := rfl
theorem e22_15 : c22_15 = .region 5 o22_15 false := rfl
theorem e22_16 : c22_16 = .ret := rfl
theorem e22_17 : c22_17 = .skip := rfl
theorem e22_18 : c22_18 = .seq c22_19 c22_20 := rfl
theorem e22_19 : c22_19 = .region 6 o22_19 false := rfl
theorem e22_20 : c22_20 = .ret := rfl
theorem g22_0 : (run tb).code rd c22_0 (mk 15 f m) st = andThen ((run tb).code rd c22_1 (mk 15 f m) st) (fun fr st => (run tb).code rd c22_2 fr st) := gx_seq e22_0
noncomputable def l22_1 : { l : List Step // lightOf o22_1 = l } := by refine ⟨?_, ?h⟩; case h => simp only [lightOf, o22_1, opsOf, kid, bodyOf, Tryd.f22, Option.getD_some, List.map, stepOf, Option.map, List.getElem?_toArray, List.getElem?_cons_succ, List.getElem?_cons_zero, Option.bind_some]; rfl
theorem g22_1 : (run tb).code rd c22_1 (mk 15 f m) st = regB (evSteps tb (run tb) l22_1.1 (mk 15 f m) st) := gx_region e22_1 l22_1.2
theorem g22_2 : (run tb).code rd c22_2 (mk 15 f m) st = andThen ((run tb).code rd c22_3 (mk 15 f m) st) (fun fr st => (run tb).code rd c22_18 fr st) := gx_seq e22_2
theorem g22_3 : (run tb).code rd c22_3 (mk 15 f m) st = andThen ((run tb).code rd c22_4 (mk 15 f m) st) (fun fr st => (run tb).code rd c22_5 fr st) := gx_seq e22_3
noncomputable def l22_4 : { l : List Step // lightOf o22_4 = l } := by refine ⟨?_, ?h⟩; case h => simp only [lightOf, o22_4, opsOf, kid, bodyOf, Tryd.f22, Option.getD_some, List.map, stepOf, Option.map, List.getElem?_toArray, List.getElem?_cons_succ, List.getElem?_cons_zero, Option.bind_some]; rfl
theorem g22_4 : (run tb).code rd c22_4 (mk 15 f m) st = regB (evSteps tb (run tb) l22_4.1 (mk 15 f m) st) := gx_region e22_4 l22_4.2
theorem g22_5 : (run tb).code rd c22_5 (mk 15 f m) st = closeB 0 ((run tb).code rd c22_6 (mk 15 f m) st) := gx_block e22_5
theorem g22_6 : (run tb).code none c22_6 (mk 15 f m) st = rangeB tb (f 9) 15 f m #[10, 11] c22_7 c22_10 st := gx_range e22_6 (by decide)
theorem g22_7 : (run tb).code rd c22_7 (mk 15 f m) st = andThen ((run tb).code rd c22_8 (mk 15 f m) st) (fun fr st => (run tb).code rd c22_9 fr st) := gx_seq e22_7
noncomputable def l22_8 : { l : List Step // lightOf o22_8 = l } := by refine ⟨?_, ?h⟩; case h => simp only [lightOf, o22_8, opsOf, kid, bodyOf, Tryd.f22, Option.getD_some, List.map, stepOf, Option.map, List.getElem?_toArray, List.getElem?_cons_succ, List.getElem?_cons_zero, Option.bind_some]; rfl
theorem g22_8 : (run tb).code rd c22_8 (mk 15 f m) st = regB (evSteps tb (run tb) l22_8.1 (mk 15 f m) st) := gx_region e22_8 l22_8.2
noncomputable def l22_9 : { l : List Step // lightOf o22_9 = l } := by refine ⟨?_, ?h⟩; case h => simp only [lightOf, o22_9, opsOf, kid, bodyOf, Tryd.f22, Option.getD_some, List.map, stepOf, Option.map, List.getElem?_toArray, List.getElem?_cons_succ, List.getElem?_cons_zero, Option.bind_some]; rfl
theorem g22_9 : (run tb).code rd c22_9 (mk 15 f m) st = regB (evSteps tb (run tb) l22_9.1 (mk 15 f m) st) := gx_region e22_9 l22_9.2
theorem g22_10 : (run tb).code rd c22_10 (mk 15 f m) st = closeB 1 ((run tb).code rd c22_11 (mk 15 f m) st) := gx_block e22_10
theorem g22_11 : (run tb).code rd c22_11 (mk 15 f m) st = andThen ((run tb).code rd c22_12 (mk 15 f m) st) (fun fr st => (run tb).code rd c22_13 fr st) := gx_seq e22_11
noncomputable def l22_12 : { l : List Step // lightOf o22_12 = l } := by refine ⟨?_, ?h⟩; case h => simp only [lightOf, o22_12, opsOf, kid, bodyOf, Tryd.f22, Option.getD_some, List.map, stepOf, Option.map, List.getElem?_toArray, List.getElem?_cons_succ, List.getElem?_cons_zero, Option.bind_some]; rfl
theorem g22_12 : (run tb).code rd c22_12 (mk 15 f m) st = regB (evSteps tb (run tb) l22_12.1 (mk 15 f m) st) := gx_region e22_12 l22_12.2
theorem g22_13 : (run tb).code rd c22_13 (mk 15 f m) st = branch (f 14) (fun x => (run tb).code rd (sel x c22_14 c22_17) (mk 15 f m) st) := gx_cond e22_13 (by decide)
theorem g22_14 : (run tb).code rd c22_14 (mk 15 f m) st = andThen ((run tb).code rd c22_15 (mk 15 f m) st) (fun fr st => (run tb).code rd c22_16 fr st) := gx_seq e22_14
noncomputable def l22_15 : { l : List Step // lightOf o22_15 = l } := by refine ⟨?_, ?h⟩; case h => simp only [lightOf, o22_15, opsOf, kid, bodyOf, Tryd.f22, Option.getD_some, List.map, stepOf, Option.map, List.getElem?_toArray, List.getElem?_cons_succ, List.getElem?_cons_zero, Option.bind_some]; rfl
theorem g22_15 : (run tb).code rd c22_15 (mk 15 f m) st = regB (evSteps tb (run tb) l22_15.1 (mk 15 f m) st) := gx_region e22_15 l22_15.2
theorem g22_16 : (run tb).code rd c22_16 (mk 15 f m) st = some (.ret, mk 15 f m, st) := gx_ret e22_16
theorem g22_17 : (run tb).code rd c22_17 (mk 15 f m) st = some (.normal, mk 15 f m, st) := gx_skip e22_17
theorem g22_18 : (run tb).code rd c22_18 (mk 15 f m) st = andThen ((run tb).code rd c22_19 (mk 15 f m) st) (fun fr st => (run tb).code rd c22_20 fr st) := gx_seq e22_18
noncomputable def l22_19 : { l : List Step // lightOf o22_19 = l } := by refine ⟨?_, ?h⟩; case h => simp only [lightOf, o22_19, opsOf, kid, bodyOf, Tryd.f22, Option.getD_some, List.map, stepOf, Option.map, List.getElem?_toArray, List.getElem?_cons_succ, List.getElem?_cons_zero, Option.bind_some]; rfl
theorem g22_19 : (run tb).code rd c22_19 (mk 15 f m) st = regB (evSteps tb (run tb) l22_19.1 (mk 15 f m) st) := gx_region e22_19 l22_19.2
theorem g22_20 : (run tb).code rd c22_20 (mk 15 f m) st = some (.ret, mk 15 f m, st) := gx_ret e22_20
noncomputable def c23_0 : Code := bodyOf Tryd.f23
theorem b23 : Tryd.f23.body = some c23_0 := rfl
theorem n23 : Tryd.f23.ntmps = 16 := rfl
theorem r23 : Tryd.f23.results = #[.cell 4 4] := rfl
theorem fn23 : tb.fn 23 = some Tryd.f23 := by rw [tb_eq]; exact Tryd.func23
theorem run23 {args : List V} {st : St} (ha : args.length ≤ 16) : (run tb).call 23 args st = leave tb [.cell 4 4] ((run tb).code none c23_0 (mk 16 (argF args) []) st) := call_run fn23 (tbmode 23) b23 n23 r23 ha
noncomputable def c23_1 : Code := kid c23_0 0
noncomputable def c23_2 : Code := kid c23_0 1
noncomputable def c23_3 : Code := kid c23_2 0
noncomputable def c23_4 : Code := kid c23_3 0
noncomputable def c23_5 : Code := kid c23_3 1
noncomputable def c23_6 : Code := kid c23_5 0
noncomputable def c23_7 : Code := kid c23_6 0
noncomputable def c23_8 : Code := kid c23_7 0
noncomputable def c23_9 : Code := kid c23_7 1
noncomputable def c23_10 : Code := kid c23_6 1
noncomputable def c23_11 : Code := kid c23_10 0
noncomputable def c23_12 : Code := kid c23_11 0
noncomputable def c23_13 : Code := kid c23_11 1
noncomputable def c23_14 : Code := kid c23_13 0
noncomputable def c23_15 : Code := kid c23_14 0
noncomputable def c23_16 : Code := kid c23_14 1
noncomputable def c23_17 : Code := kid c23_13 1
noncomputable def c23_18 : Code := kid c23_2 1
noncomputable def c23_19 : Code := kid c23_18 0
noncomputable def c23_20 : Code := kid c23_18 1
noncomputable def o23_1 : Array Oper := opsOf (kid (bodyOf Tryd.f23) 0)
noncomputable def o23_4 : Array Oper := opsOf (kid (kid (kid (bodyOf Tryd.f23) 1) 0) 0)
noncomputable def o23_8 : Array Oper := opsOf (kid (kid (kid (kid (kid (kid (bodyOf Tryd.f23) 1) 0) 1) 0) 0) 0)
noncomputable def o23_9 : Array Oper := opsOf (kid (kid (kid (kid (kid (kid (bodyOf Tryd.f23) 1) 0) 1) 0) 0) 1)
noncomputable def o23_12 : Array Oper := opsOf (kid (kid (kid (kid (kid (kid (kid (bodyOf Tryd.f23) 1) 0) 1) 0) 1) 0) 0)
noncomputable def o23_15 : Array Oper := opsOf (kid (kid (kid (kid (kid (kid (kid (kid (kid (bodyOf Tryd.f23) 1) 0) 1) 0) 1) 0) 1) 0) 0)
noncomputable def o23_19 : Array Oper := opsOf (kid (kid (kid (bodyOf Tryd.f23) 1) 1) 0)
theorem e23_0 : c23_0 = .seq c23_1 c23_2 := rfl
theorem e23_1 : c23_1 = .region 0 o23_1 false := rfl
theorem e23_2 : c23_2 = .seq c23_3 c23_18 := rfl
theorem e23_3 : c23_3 = .seq c23_4 c23_5 := rfl
theorem e23_4 : c23_4 = .region 1 o23_4 false := rfl
theorem e23_5 : c23_5 = .block 0 c23_6 := rfl
theorem e23_6 : c23_6 = .rangeFunc (.tmp 9) #[10, 11] c23_7 c23_10 := rfl
theorem e23_7 : c23_7 = .seq c23_8 c23_9 := rfl
theorem e23_8 : c23_8 = .region 2 o23_8 false := rfl
theorem e23_9 : c23_9 = .region 3 o23_9 false := rfl
theorem e23_10 : c23_10 = .block 1 c23_11 := rfl
theorem e23_11 : c23_11 = .seq c23_12 c23_13 := rfl
theorem e23_12 : c23_12 = .region 4 o23_12 false := rfl
theorem e23_13 : c23_13 = .cond (.tmp 15) c23_14 c23_17 := rfl
theorem e23_14 : c23_14 = .seq c23_15 c23_16 := rfl
theorem e23_15 : c23_15 = .region 5 o23_15 false := rfl
theorem e23_16 : c23_16 = .ret := rfl
theorem e23_17 : c23_17 = .skip := rfl
theorem e23_18 : c23_18 = .seq c23_19 c23_20 := rfl
theorem e23_19 : c23_19 = .region 6 o23_19 false := rfl
theorem e23_20 : c23_20 = .ret := rfl
theorem g23_0 : (run tb).code rd c23_0 (mk 16 f m) st = andThen ((run tb).code rd c23_1 (mk 16 f m) st) (fun fr st => (run tb).code rd c23_2 fr st) := gx_seq e23_0
noncomputable def l23_1 : { l : List Step // lightOf o23_1 = l } := by refine ⟨?_, ?h⟩; case h => simp only [lightOf, o23_1, opsOf, kid, bodyOf, Tryd.f23, Option.getD_some, List.map, stepOf, Option.map, List.getElem?_toArray, List.getElem?_cons_succ, List.getElem?_cons_zero, Option.bind_some]; rfl
theorem g23_1 : (run tb).code rd c23_1 (mk 16 f m) st = regB (evSteps tb (run tb) l23_1.1 (mk 16 f m) st) := gx_region e23_1 l23_1.2
theorem g23_2 : (run tb).code rd c23_2 (mk 16 f m) st = andThen ((run tb).code rd c23_3 (mk 16 f m) st) (fun fr st => (run tb).code rd c23_18 fr st) := gx_seq e23_2
theorem g23_3 : (run tb).code rd c23_3 (mk 16 f m) st = andThen ((run tb).code rd c23_4 (mk 16 f m) st) (fun fr st => (run tb).code rd c23_5 fr st) := gx_seq e23_3
noncomputable def l23_4 : { l : List Step // lightOf o23_4 = l } := by refine ⟨?_, ?h⟩; case h => simp only [lightOf, o23_4, opsOf, kid, bodyOf, Tryd.f23, Option.getD_some, List.map, stepOf, Option.map, List.getElem?_toArray, List.getElem?_cons_succ, List.getElem?_cons_zero, Option.bind_some]; rfl
theorem g23_4 : (run tb).code rd c23_4 (mk 16 f m) st = regB (evSteps tb (run tb) l23_4.1 (mk 16 f m) st) := gx_region e23_4 l23_4.2
theorem g23_5 : (run tb).code rd c23_5 (mk 16 f m) st = closeB 0 ((run tb).code rd c23_6 (mk 16 f m) st) := gx_block e23_5
theorem g23_6 : (run tb).code none c23_6 (mk 16 f m) st = rangeB tb (f 9) 16 f m #[10, 11] c23_7 c23_10 st := gx_range e23_6 (by decide)
theorem g23_7 : (run tb).code rd c23_7 (mk 16 f m) st = andThen ((run tb).code rd c23_8 (mk 16 f m) st) (fun fr st => (run tb).code rd c23_9 fr st) := gx_seq e23_7
noncomputable def l23_8 : { l : List Step // lightOf o23_8 = l } := by refine ⟨?_, ?h⟩; case h => simp only [lightOf, o23_8, opsOf, kid, bodyOf, Tryd.f23, Option.getD_some, List.map, stepOf, Option.map, List.getElem?_toArray, List.getElem?_cons_succ, List.getElem?_cons_zero, Option.bind_some]; rfl
theorem g23_8 : (run tb).code rd c23_8 (mk 16 f m) st = regB (evSteps tb (run tb) l23_8.1 (mk 16 f m) st) := gx_region e23_8 l23_8.2
noncomputable def l23_9 : { l : List Step // lightOf o23_9 = l } := by refine ⟨?_, ?h⟩; case h => simp only [lightOf, o23_9, opsOf, kid, bodyOf, Tryd.f23, Option.getD_some, List.map, stepOf, Option.map, List.getElem?_toArray, List.getElem?_cons_succ, List.getElem?_cons_zero, Option.bind_some]; rfl
theorem g23_9 : (run tb).code rd c23_9 (mk 16 f m) st = regB (evSteps tb (run tb) l23_9.1 (mk 16 f m) st) := gx_region e23_9 l23_9.2
theorem g23_10 : (run tb).code rd c23_10 (mk 16 f m) st = closeB 1 ((run tb).code rd c23_11 (mk 16 f m) st) := gx_block e23_10
theorem g23_11 : (run tb).code rd c23_11 (mk 16 f m) st = andThen ((run tb).code rd c23_12 (mk 16 f m) st) (fun fr st => (run tb).code rd c23_13 fr st) := gx_seq e23_11
noncomputable def l23_12 : { l : List Step // lightOf o23_12 = l } := by refine ⟨?_, ?h⟩; case h => simp only [lightOf, o23_12, opsOf, kid, bodyOf, Tryd.f23, Option.getD_some, List.map, stepOf, Option.map, List.getElem?_toArray, List.getElem?_cons_succ, List.getElem?_cons_zero, Option.bind_some]; rfl
theorem g23_12 : (run tb).code rd c23_12 (mk 16 f m) st = regB (evSteps tb (run tb) l23_12.1 (mk 16 f m) st) := gx_region e23_12 l23_12.2
theorem g23_13 : (run tb).code rd c23_13 (mk 16 f m) st = branch (f 15) (fun x => (run tb).code rd (sel x c23_14 c23_17) (mk 16 f m) st) := gx_cond e23_13 (by decide)
theorem g23_14 : (run tb).code rd c23_14 (mk 16 f m) st = andThen ((run tb).code rd c23_15 (mk 16 f m) st) (fun fr st => (run tb).code rd c23_16 fr st) := gx_seq e23_14
noncomputable def l23_15 : { l : List Step // lightOf o23_15 = l } := by refine ⟨?_, ?h⟩; case h => simp only [lightOf, o23_15, opsOf, kid, bodyOf, Tryd.f23, Option.getD_some, List.map, stepOf, Option.map, List.getElem?_toArray, List.getElem?_cons_succ, List.getElem?_cons_zero, Option.bind_some]; rfl
theorem g23_15 : (run tb).code rd c23_15 (mk 16 f m) st = regB (evSteps tb (run tb) l23_15.1 (mk 16 f m) st) := gx_region e23_15 l23_15.2
theorem g23_16 : (run tb).code rd c23_16 (mk 16 f m) st = some (.ret, mk 16 f m, st) := gx_ret e23_16
theorem g23_17 : (run tb).code rd c23_17 (mk 16 f m) st = some (.normal, mk 16 f m, st) := gx_skip e23_17
theorem g23_18 : (run tb).code rd c23_18 (mk 16 f m) st = andThen ((run tb).code rd c23_19 (mk 16 f m) st) (fun fr st => (run tb).code rd c23_20 fr st) := gx_seq e23_18
noncomputable def l23_19 : { l : List Step // lightOf o23_19 = l } := by refine ⟨?_, ?h⟩; case h => simp only [lightOf, o23_19, opsOf, kid, bodyOf, Tryd.f23, Option.getD_some, List.map, stepOf, Option.map, List.getElem?_toArray, List.getElem?_cons_succ, List.getElem?_cons_zero, Option.bind_some]; rfl
theorem g23_19 : (run tb).code rd c23_19 (mk 16 f m) st = regB (evSteps tb (run tb) l23_19.1 (mk 16 f m) st) := gx_region e23_19 l23_19.2
theorem g23_20 : (run tb).code rd c23_20 (mk 16 f m) st = some (.ret, mk 16 f m, st) := gx_ret e23_20
noncomputable def c35_0 : Code := bodyOf Tryd.f35
theorem b35 : Tryd.f35.body = some c35_0 := rfl
theorem n35 : Tryd.f35.ntmps = 6 := rfl
theorem r35 : Tryd.f35.results = #[.tmp 4] := rfl
theorem fn35 : tb.fn 35 = some Tryd.f35 := by rw [tb_eq]; exact Tryd.func35
theorem run35 {args : List V} {st : St} (ha : args.length ≤ 6) : (run tb).call 35 args st = leave tb [.tmp 4] ((run tb).code none c35_0 (mk 6 (argF args) []) st) := call_run fn35 (tbmode 35) b35 n35 r35 ha
noncomputable def c35_1 : Code := kid c35_0 0
noncomputable def c35_2 : Code := kid c35_0 1
noncomputable def c35_3 : Code := kid c35_2 0
noncomputable def c35_4 : Code := kid c35_2 1
noncomputable def o35_1 : Array Oper := opsOf (kid (bodyOf Tryd.f35) 0)
noncomputable def o35_3 : Array Oper := opsOf (kid (kid (bodyOf Tryd.f35) 1) 0)
theorem e35_0 : c35_0 = .seq c35_1 c35_2 := rfl
theorem e35_1 : c35_1 = .region 0 o35_1 false := rfl
theorem e35_2 : c35_2 = .seq c35_3 c35_4 := rfl
theorem e35_3 : c35_3 = .region 1 o35_3 false := rfl
theorem e35_4 : c35_4 = .ret := rfl
theorem g35_0 : (run tb).code rd c35_0 (mk 6 f m) st = andThen ((run tb).code rd c35_1 (mk 6 f m) st) (fun fr st => (run tb).code rd c35_2 fr st) := gx_seq e35_0
noncomputable def l35_1 : { l : List Step // lightOf o35_1 = l } := by refine ⟨?_, ?h⟩; case h => simp only [lightOf, o35_1, opsOf, kid, bodyOf, Tryd.f35, Option.getD_some, List.map, stepOf, Option.map, List.getElem?_toArray, List.getElem?_cons_succ, List.getElem?_cons_zero, Option.bind_some]; rfl
theorem g35_1 : (run tb).code rd c35_1 (mk 6 f m) st = regB (evSteps tb (run tb) l35_1.1 (mk 6 f m) st) := gx_region e35_1 l35_1.2
theorem g35_2 : (run tb).code rd c35_2 (mk 6 f m) st = andThen ((run tb).code rd c35_3 (mk 6 f m) st) (fun fr st => (run tb).code rd c35_4 fr st) := gx_seq e35_2
noncomputable def l35_3 : { l : List Step // lightOf o35_3 = l } := by refine ⟨?_, ?h⟩; case h => simp only [lightOf, o35_3, opsOf, kid, bodyOf, Tryd.f35, Option.getD_some, List.map, stepOf, Option.map, List.getElem?_toArray, List.getElem?_cons_succ, List.getElem?_cons_zero, Option.bind_some]; rfl
theorem g35_3 : (run tb).code rd c35_3 (mk 6 f m) st = regB (evSteps tb (run tb) l35_3.1 (mk 6 f m) st) := gx_region e35_3 l35_3.2
theorem g35_4 : (run tb).code rd c35_4 (mk 6 f m) st = some (.ret, mk 6 f m, st) := gx_ret e35_4
noncomputable def c45_0 : Code := bodyOf Tryd.f45
theorem b45 : Tryd.f45.body = some c45_0 := rfl
theorem n45 : Tryd.f45.ntmps = 29 := rfl
theorem r45 : Tryd.f45.results = #[] := rfl
theorem fn45 : tb.fn 45 = some Tryd.f45 := by rw [tb_eq]; exact Tryd.func45
theorem run45 {args : List V} {st : St} (ha : args.length ≤ 29) : (run tb).call 45 args st = leave tb [] ((run tb).code none c45_0 (mk 29 (argF args) []) st) := call_run fn45 (tbmode 45) b45 n45 r45 ha
noncomputable def c45_1 : Code := kid c45_0 0
noncomputable def c45_2 : Code := kid c45_0 1
noncomputable def c45_3 : Code := kid c45_2 0
noncomputable def c45_4 : Code := kid c45_3 0
noncomputable def c45_5 : Code := kid c45_4 0
noncomputable def c45_6 : Code := kid c45_4 1
noncomputable def c45_7 : Code := kid c45_6 0
noncomputable def c45_8 : Code := kid c45_7 0
noncomputable def c45_9 : Code := kid c45_7 1
noncomputable def c45_10 : Code := kid c45_6 1
noncomputable def c45_11 : Code := kid c45_10 0
noncomputable def c45_12 : Code := kid c45_11 0
noncomputable def c45_13 : Code := kid c45_12 0
noncomputable def c45_14 : Code := kid c45_12 1
noncomputable def c45_15 : Code := kid c45_14 0
noncomputable def c45_16 : Code := kid c45_14 1
noncomputable def c45_17 : Code := kid c45_16 0
noncomputable def c45_18 : Code := kid c45_16 1
noncomputable def c45_19 : Code := kid c45_10 1
noncomputable def o45_1 : Array Oper := opsOf (kid (bodyOf Tryd.f45) 0)
noncomputable def o45_5 : Array Oper := opsOf (kid (kid (kid (kid (bodyOf Tryd.f45) 1) 0) 0) 0)
noncomputable def o45_13 : Array Oper := opsOf (kid (kid (kid (kid (kid (kid (kid (kid (bodyOf Tryd.f45) 1) 0) 0) 1) 1) 0) 0) 0)
noncomputable def o45_15 : Array Oper := opsOf (kid (kid (kid (kid (kid (kid (kid (kid (kid (bodyOf Tryd.f45) 1) 0) 0) 1) 1) 0) 0) 1) 0)
noncomputable def o45_19 : Array Oper := opsOf (kid (kid (kid (kid (kid (kid (bodyOf Tryd.f45) 1) 0) 0) 1) 1) 1)
theorem e45_0 : c45_0 = .seq c45_1 c45_2 := rfl
theorem e45_1 : c45_1 = .region 0 o45_1 true := rfl
theorem e45_2 : c45_2 = .block 0 c45_3 := rfl
theorem e45_3 : c45_3 = .loop c45_4 := rfl
theorem e45_4 : c45_4 = .seq c45_5 c45_6 := rfl
theorem e45_5 : c45_5 = .region 1 o45_5 false := rfl
theorem e45_6 : c45_6 = .seq c45_7 c45_10 := rfl
theorem e45_7 : c45_7 = .cond (.tmp 17) c45_8 c45_9 := rfl
theorem e45_8 : c45_8 = .skip := rfl
theorem e45_9 : c45_9 = .exit 0 := rfl
theorem e45_10 : c45_10 = .seq c45_11 c45_19 := rfl
theorem e45_11 : c45_11 = .block 1 c45_12 := rfl
theorem e45_12 : c45_12 = .seq c45_13 c45_14 := rfl
theorem e45_13 : c45_13 = .region 2 o45_13 false := rfl
theorem e45_14 : c45_14 = .seq c45_15 c45_16 := rfl
theorem e45_15 : c45_15 = .region 3 o45_15 true := rfl
theorem e45_16 : c45_16 = .cond (.tmp 27) c45_17 c45_18 := rfl
theorem e45_17 : c45_17 = .ret := rfl
theorem e45_18 : c45_18 = .skip := rfl
theorem e45_19 : c45_19 = .region 4 o45_19 false := rfl
theorem g45_0 : (run tb).code rd c45_0 (mk 29 f m) st = andThen ((run tb).code rd c45_1 (mk 29 f m) st) (fun fr st => (run tb).code rd c45_2 fr st) := gx_seq e45_0
noncomputable def l45_1 : { l : List DStep // drawAt o45_1 [(0, 0), (1, 1), (2, 3), (3, 7), (4, 15), (5, 0), (6, 32), (7, 96), (8, 224), (9, 480), (10, 1023), (11, 0)] = l } := by refine ⟨?_, ?h⟩; case h => simp only [drawAt, entsAt, o45_1, opsOf, kid, bodyOf, Tryd.f45, Option.getD_some, List.map, stepOf, Option.map, List.getElem?_toArray, List.getElem?_cons_succ, List.getElem?_cons_zero, Option.bind_some]; rfl
theorem g45_1 : (run tb).code rd c45_1 (mk 29 f m) st = regB (evDraws tb (run tb) l45_1.1 [] (mk 29 f m) st) := gx_draw [(0, 0), (1, 1), (2, 3), (3, 7), (4, 15), (5, 0), (6, 32), (7, 96), (8, 224), (9, 480), (10, 1023), (11, 0)] e45_1 (by kernel_rfl) l45_1.2
theorem g45_2 : (run tb).code rd c45_2 (mk 29 f m) st = closeB 0 ((run tb).code rd c45_3 (mk 29 f m) st) := gx_block e45_2
theorem g45_4 : (run tb).code rd c45_4 (mk 29 f m) st = andThen ((run tb).code rd c45_5 (mk 29 f m) st) (fun fr st => (run tb).code rd c45_6 fr st) := gx_seq e45_4
noncomputable def l45_5 : { l : List Step // lightOf o45_5 = l } := by refine ⟨?_, ?h⟩; case h => simp only [lightOf, o45_5, opsOf, kid, bodyOf, Tryd.f45, Option.getD_some, List.map, stepOf, Option.map, List.getElem?_toArray, List.getElem?_cons_succ, List.getElem?_cons_zero, Option.bind_some]; rfl
theorem g45_5 : (run tb).code rd c45_5 (mk 29 f m) st = regB (evSteps tb (run tb) l45_5.1 (mk 29 f m) st) := gx_region e45_5 l45_5.2
theorem g45_6 : (run tb).code rd c45_6 (mk 29 f m) st = andThen ((run tb).code rd c45_7 (mk 29 f m) st) (fun fr st => (run tb).code rd c45_10 fr st) := gx_seq e45_6
theorem g45_7 : (run tb).code rd c45_7 (mk 29 f m) st = branch (f 17) (fun x => (run tb).code rd (sel x c45_8 c45_9) (mk 29 f m) st) := gx_cond e45_7 (by decide)
theorem g45_8 : (run tb).code rd c45_8 (mk 29 f m) st = some (.normal, mk 29 f m, st) := gx_skip e45_8
theorem g45_9 : (run tb).code rd c45_9 (mk 29 f m) st = some (.exit 0, mk 29 f m, st) := gx_exit e45_9
theorem g45_10 : (run tb).code rd c45_10 (mk 29 f m) st = andThen ((run tb).code rd c45_11 (mk 29 f m) st) (fun fr st => (run tb).code rd c45_19 fr st) := gx_seq e45_10
theorem g45_11 : (run tb).code rd c45_11 (mk 29 f m) st = closeB 1 ((run tb).code rd c45_12 (mk 29 f m) st) := gx_block e45_11
theorem g45_12 : (run tb).code rd c45_12 (mk 29 f m) st = andThen ((run tb).code rd c45_13 (mk 29 f m) st) (fun fr st => (run tb).code rd c45_14 fr st) := gx_seq e45_12
noncomputable def l45_13 : { l : List Step // lightOf o45_13 = l } := by refine ⟨?_, ?h⟩; case h => simp only [lightOf, o45_13, opsOf, kid, bodyOf, Tryd.f45, Option.getD_some, List.map, stepOf, Option.map, List.getElem?_toArray, List.getElem?_cons_succ, List.getElem?_cons_zero, Option.bind_some]; rfl
theorem g45_13 : (run tb).code rd c45_13 (mk 29 f m) st = regB (evSteps tb (run tb) l45_13.1 (mk 29 f m) st) := gx_region e45_13 l45_13.2
theorem g45_14 : (run tb).code rd c45_14 (mk 29 f m) st = andThen ((run tb).code rd c45_15 (mk 29 f m) st) (fun fr st => (run tb).code rd c45_16 fr st) := gx_seq e45_14
noncomputable def l45_15 : { l : List DStep // drawAt o45_15 [(0, 0), (1, 0), (2, 0), (4, 0), (5, 0), (3, 6), (6, 62), (7, 127), (8, 255)] = l } := by refine ⟨?_, ?h⟩; case h => simp only [drawAt, entsAt, o45_15, opsOf, kid, bodyOf, Tryd.f45, Option.getD_some, List.map, stepOf, Option.map, List.getElem?_toArray, List.getElem?_cons_succ, List.getElem?_cons_zero, Option.bind_some]; rfl
theorem g45_15 : (run tb).code rd c45_15 (mk 29 f m) st = regB (evDraws tb (run tb) l45_15.1 [] (mk 29 f m) st) := gx_draw [(0, 0), (1, 0), (2, 0), (4, 0), (5, 0), (3, 6), (6, 62), (7, 127), (8, 255)] e45_15 (by kernel_rfl) l45_15.2
theorem g45_16 : (run tb).code rd c45_16 (mk 29 f m) st = branch (f 27) (fun x => (run tb).code rd (sel x c45_17 c45_18) (mk 29 f m) st) := gx_cond e45_16 (by decide)
theorem g45_17 : (run tb).code rd c45_17 (mk 29 f m) st = some (.ret, mk 29 f m, st) := gx_ret e45_17
theorem g45_18 : (run tb).code rd c45_18 (mk 29 f m) st = some (.normal, mk 29 f m, st) := gx_skip e45_18
noncomputable def l45_19 : { l : List Step // lightOf o45_19 = l } := by refine ⟨?_, ?h⟩; case h => simp only [lightOf, o45_19, opsOf, kid, bodyOf, Tryd.f45, Option.getD_some, List.map, stepOf, Option.map, List.getElem?_toArray, List.getElem?_cons_succ, List.getElem?_cons_zero, Option.bind_some]; rfl
theorem g45_19 : (run tb).code rd c45_19 (mk 29 f m) st = regB (evSteps tb (run tb) l45_19.1 (mk 29 f m) st) := gx_region e45_19 l45_19.2
noncomputable def c46_0 : Code := bodyOf Tryd.f46
theorem b46 : Tryd.f46.body = some c46_0 := rfl
theorem n46 : Tryd.f46.ntmps = 19 := rfl
theorem r46 : Tryd.f46.results = #[.tmp 4] := rfl
theorem fn46 : tb.fn 46 = some Tryd.f46 := by rw [tb_eq]; exact Tryd.func46
theorem run46 {args : List V} {st : St} (ha : args.length ≤ 19) : (run tb).call 46 args st = leave tb [.tmp 4] ((run tb).code none c46_0 (mk 19 (argF args) []) st) := call_run fn46 (tbmode 46) b46 n46 r46 ha
noncomputable def c46_1 : Code := kid c46_0 0
noncomputable def c46_2 : Code := kid c46_0 1
noncomputable def c46_3 : Code := kid c46_2 0
noncomputable def c46_4 : Code := kid c46_3 0
noncomputable def c46_5 : Code := kid c46_3 1
noncomputable def c46_6 : Code := kid c46_5 0
noncomputable def c46_7 : Code := kid c46_6 0
noncomputable def c46_8 : Code := kid c46_6 1
noncomputable def c46_9 : Code := kid c46_5 1
noncomputable def c46_10 : Code := kid c46_2 1
noncomputable def c46_11 : Code := kid c46_10 0
noncomputable def c46_12 : Code := kid c46_10 1
noncomputable def o46_1 : Array Oper := opsOf (kid (bodyOf Tryd.f46) 0)
noncomputable def o46_4 : Array Oper := opsOf (kid (kid (kid (bodyOf Tryd.f46) 1) 0) 0)
noncomputable def o46_7 : Array Oper := opsOf (kid (kid (kid (kid (kid (bodyOf Tryd.f46) 1) 0) 1) 0) 0)
noncomputable def o46_11 : Array Oper := opsOf (kid (kid (kid (bodyOf Tryd.f46) 1) 1) 0)
theorem e46_0 : c46_0 = .seq c46_1 c46_2 := rfl
theorem e46_1 : c46_1 = .region 0 o46_1 false := rfl
theorem e46_2 : c46_2 = .seq c46_3 c46_10 := rfl
theorem e46_3 : c46_3 = .seq c46_4 c46_5 := rfl
theorem e46_4 : c46_4 = .region 1 o46_4 false := rfl
theorem e46_5 : c46_5 = .cond (.tmp 11) c46_6 c46_9 := rfl
theorem e46_6 : c46_6 = .seq c46_7 c46_8 := rfl
theorem e46_7 : c46_7 = .region 2 o46_7 false := rfl
theorem e46_8 : c46_8 = .ret := rfl
theorem e46_9 : c46_9 = .skip := rfl
theorem e46_10 : c46_10 = .seq c46_11 c46_12 := rfl
theorem e46_11 : c46_11 = .region 3 o46_11 false := rfl
theorem e46_12 : c46_12 = .ret := rfl
theorem g46_0 : (run tb).code rd c46_0 (mk 19 f m) st = andThen ((run tb).code rd c46_1 (mk 19 f m) st) (fun fr st => (run tb).code rd c46_2 fr st) := gx_seq e46_0
noncomputable def l46_1 : { l : List Step // lightOf o46_1 = l } := by refine ⟨?_, ?h⟩; case h => simp only [lightOf, o46_1, opsOf, kid, bodyOf, Tryd.f46, Option.getD_some, List.map, stepOf, Option.map, List.getElem?_toArray, List.getElem?_cons_succ, List.getElem?_cons_zero, Option.bind_some]; rfl
theorem g46_1 : (run tb).code rd c46_1 (mk 19 f m) st = regB (evSteps tb (run tb) l46_1.1 (mk 19 f m) st) := gx_region e46_1 l46_1.2
theorem g46_2 : (run tb).code rd c46_2 (mk 19 f m) st = andThen ((run tb).code rd c46_3 (mk 19 f m) st) (fun fr st => (run tb).code rd c46_10 fr st) := gx_seq e46_2
theorem g46_3 : (run tb).code rd c46_3 (mk 19 f m) st = andThen ((run tb).code rd c46_4 (mk 19 f m) st) (fun fr st => (run tb).code rd c46_5 fr st) := gx_seq e46_3
noncomputable def l46_4 : { l : List Step // lightOf o46_4 = l } := by refine ⟨?_, ?h⟩; case h => simp only [lightOf, o46_4, opsOf, kid, bodyOf, Tryd.f46, Option.getD_some, List.map, stepOf, Option.map, List.getElem?_toArray, List.getElem?_cons_succ, List.getElem?_cons_zero, Option.bind_some]; rfl
theorem g46_4 : (run tb).code rd c46_4 (mk 19 f m) st = regB (evSteps tb (run tb) l46_4.1 (mk 19 f m) st) := gx_region e46_4 l46_4.2
theorem g46_5 : (run tb).code rd c46_5 (mk 19 f m) st = branch (f 11) (fun x => (run tb).code rd (sel x c46_6 c46_9) (mk 19 f m) st) := gx_cond e46_5 (by decide)
theorem g46_6 : (run tb).code rd c46_6 (mk 19 f m) st = andThen ((run tb).code rd c46_7 (mk 19 f m) st) (fun fr st => (run tb).code rd c46_8 fr st) := gx_seq e46_6
noncomputable def l46_7 : { l : List Step // lightOf o46_7 = l } := by refine ⟨?_, ?h⟩; case h => simp only [lightOf, o46_7, opsOf, kid, bodyOf, Tryd.f46, Option.getD_some, List.map, stepOf, Option.map, List.getElem?_toArray, List.getElem?_cons_succ, List.getElem?_cons_zero, Option.bind_some]; rfl
theorem g46_7 : (run tb).code rd c46_7 (mk 19 f m) st = regB (evSteps tb (run tb) l46_7.1 (mk 19 f m) st) := gx_region e46_7 l46_7.2
theorem g46_8 : (run tb).code rd c46_8 (mk 19 f m) st = some (.ret, mk 19 f m, st) := gx_ret e46_8
theorem g46_9 : (run tb).code rd c46_9 (mk 19 f m) st = some (.normal, mk 19 f m, st) := gx_skip e46_9
theorem g46_10 : (run tb).code rd c46_10 (mk 19 f m) st = andThen ((run tb).code rd c46_11 (mk 19 f m) st) (fun fr st => (run tb).code rd c46_12 fr st) := gx_seq e46_10
noncomputable def l46_11 : { l : List Step // lightOf o46_11 = l } := by refine ⟨?_, ?h⟩; case h => simp only [lightOf, o46_11, opsOf, kid, bodyOf, Tryd.f46, Option.getD_some, List.map, stepOf, Option.map, List.getElem?_toArray, List.getElem?_cons_succ, List.getElem?_cons_zero, Option.bind_some]; rfl
theorem g46_11 : (run tb).code rd c46_11 (mk 19 f m) st = regB (evSteps tb (run tb) l46_11.1 (mk 19 f m) st) := gx_region e46_11 l46_11.2
theorem g46_12 : (run tb).code rd c46_12 (mk 19 f m) st = some (.ret, mk 19 f m, st) := gx_ret e46_12
end Go.Proofs.YtgknieohkniojaaDoor
namespace Go.Proofs.YtgknieohkniojaaDoor
open Go.Abs
set_option maxRecDepth 100000
set_option linter.unusedSimpArgs false
set_option linter.unusedVariables false
set_option maxHeartbeats 4000000
theorem ty28c : tb.ty 28 = some { size := 1, bytes := 8, agg := false, zero := .nilp, und := .pointer 55, plain := true } := by rw [tb_eq]; kernel_rfl
theorem y_inv {S : Go.Abs.S} {l : Nat} {args : List V} {st : St} : evInvoke tb S (V.func (Fn.yield l) [] []) args st = evYield S l args st := rfl
theorem range_inv {g : FuncId} {n : Nat} {f : Nat → V} {m : List Nat} {st : St} {fs cs : List V} {ps : Array Tmp} {a b : Code} : rangeB tb (.func (.func g) fs cs) n f m ps a b st = afterRange tb none (st.store.length + 1) (mk n f (st.store.length :: m)) ((run tb).call g (fs ++ [.func (.yield (st.store.length + 1)) [] []] ++ cs) (enterSt st (loop0 (mk n f m).tmps ps a b st.store.length))) := range_func (tbext g)
theorem SetAt.grow {st st' : St} {r rv b : Nat} {S : Nat → Bool} (h : SetAt st r rv b S) (g : Grows st st') : SetAt st' r rv b S := ⟨g.at_ h.hb, g.at_ h.hv, h.hz, h.hm⟩
theorem SetAt.prot' {st : St} {rv r b : Nat} {S : Nat → Bool} (p : List Nat) (h : SetAt st r rv b S) : SetAt { st with prot := p } r rv b S := ⟨h.hb, h.hv, h.hz, h.hm⟩
theorem word_run (st : St) (r rv b : Nat) (S : Nat → Bool) (k : Nat) (h : SetAt st r rv b S) : (run tb).call 46 [.ptr r 0, .int .i64 (k : Nat)] st = some (.int .u64 (wd S k : Nat), st) := by
  have hb := h.hb
  have hv := h.hv
  rw [run46 (by simp)]
  by_cases hk : k < nw b
  · have hw := words_get S hk
    have hk' : ¬ nw b ≤ k := by omega
    simp [g46_0, g46_1, g46_2, g46_3, g46_4, g46_5, g46_6, g46_7, g46_8, g46_9, g46_10, g46_11, g46_12, l46_1, l46_4, l46_7, l46_11, steps_nil, steps_cons, draws_nil, draws_cons, step_mk, stepB_some, stepB_none, memB_mk, thenS_some, regB_some, branch_bool, sel_true, sel_false, wanted_none, wanted_some, asB, mk_put, mk_put_none, arg_tmp, arg_const, arg_func, arg_global, upd_same, upd_ne, evPure, evArgs, m_load, m_store, m_alloc, m_box, m_call, m_lookup, m_mapUpdate, m_inv, evLoad, readCells, evFieldAddr, evIndexAddr, asIdx, ofValue, isPure, evBin, ib_lss, ib_leq, ib_gtr, ib_geq, ib_eql, ib_neq, evUn, leave_normal, leave_ret, finish, then_normal, then_exit, then_ret, close_normal, close_exit, close_ret, evConv, mk_marks, dropMarks, resOf, resList, mk_getD, argF, List.getD_cons_zero, List.getD_cons_succ, V.cells, evLen, kdOp, kdOf, readsOf, protS, eq_bool, eq_nil28, evStore, V.oneCell, putElem, splice, -List.getD_eq_getElem?_getD, -getElem?_pos, und55, und53, und22, size3, size53, size58, size22, ty3, ty4, ty53, ty58, ty22, hb, hv, hw, hk, hk']
  · have hk' : nw b ≤ k := by omega
    have e : wd S k = 0 := by
      apply eq_of_bits64 (wd_lt _ _) (by decide)
      intro j hj
      rw [wd_testBit, h.hz _ (by unfold nw at hk'; omega)]; simp
    rw [e]
    simp [g46_0, g46_1, g46_2, g46_3, g46_4, g46_5, g46_6, g46_7, g46_8, g46_9, g46_10, g46_11, g46_12, l46_1, l46_4, l46_7, l46_11, steps_nil, steps_cons, draws_nil, draws_cons, step_mk, stepB_some, stepB_none, memB_mk, thenS_some, regB_some, branch_bool, sel_true, sel_false, wanted_none, wanted_some, asB, mk_put, mk_put_none, arg_tmp, arg_const, arg_func, arg_global, upd_same, upd_ne, evPure, evArgs, m_load, m_store, m_alloc, m_box, m_call, m_lookup, m_mapUpdate, m_inv, evLoad, readCells, evFieldAddr, evIndexAddr, asIdx, ofValue, isPure, evBin, ib_lss, ib_leq, ib_gtr, ib_geq, ib_eql, ib_neq, evUn, leave_normal, leave_ret, finish, then_normal, then_exit, then_ret, close_normal, close_exit, close_ret, evConv, mk_marks, dropMarks, resOf, resList, mk_getD, argF, List.getD_cons_zero, List.getD_cons_succ, V.cells, evLen, kdOp, kdOf, readsOf, protS, eq_bool, eq_nil28, evStore, V.oneCell, putElem, splice, -List.getD_eq_getElem?_getD, -getElem?_pos, und55, und53, und22, size3, size53, size58, size22, ty3, ty4, ty53, ty58, ty22, hb, hk']
theorem pairs_mk (st : St) (ra rb : Nat) : (run tb).call 35 [.ptr ra 0, .ptr rb 0] st = some (.func (.func 45) [] [.ptr st.store.length 0, .ptr (st.store.length + 1) 0], { st with store := st.store ++ [.box [.ptr ra 0], .box [.ptr rb 0]] }) := by
  rw [run35 (by simp)]
  simp [g35_0, g35_1, g35_2, g35_3, g35_4, l35_1, l35_3, steps_nil, steps_cons, draws_nil, draws_cons, step_mk, stepB_some, stepB_none, memB_mk, thenS_some, regB_some, branch_bool, sel_true, sel_false, wanted_none, wanted_some, asB, mk_put, mk_put_none, arg_tmp, arg_const, arg_func, arg_global, upd_same, upd_ne, evPure, evArgs, m_load, m_store, m_alloc, m_box, m_call, m_lookup, m_mapUpdate, m_inv, evLoad, readCells, evFieldAddr, evIndexAddr, asIdx, ofValue, isPure, evBin, ib_lss, ib_leq, ib_gtr, ib_geq, ib_eql, ib_neq, evUn, leave_normal, leave_ret, finish, then_normal, then_exit, then_ret, close_normal, close_exit, close_ret, evConv, mk_marks, dropMarks, resOf, resList, mk_getD, argF, List.getD_cons_zero, List.getD_cons_succ, V.cells, evLen, kdOp, kdOf, readsOf, protS, eq_bool, eq_nil28, evStore, V.oneCell, putElem, splice, -List.getD_eq_getElem?_getD, -getElem?_pos, und55, und53, und22, size3, size53, size58, size22, ty3, ty4, ty53, ty58, ty22, St.new]
theorem pairs_loop (st st' : St) (l pa pb ra rb rva rvb ma mb M K : Nat) (S S' : Nat → Bool) (hpa : st.store[pa]? = some (.box [.ptr ra 0])) (hpb : st.store[pb]? = some (.box [.ptr rb 0])) (hA : SetAt st ra rva ma S) (hB : SetAt st rb rvb mb S') (hM : M ≤ 1025)
    (hpr : st'.prot = st.prot) (hK : K ≤ M) (hy : ∀ k, k < K → evYield (run tb) l [.int .u64 (wd S k : Nat), .int .u64 (wd S' k : Nat)] st = some (.bool true, st)) (hend : K < M → evYield (run tb) l [.int .u64 (wd S K : Nat), .int .u64 (wd S' K : Nat)] st = some (.bool false, st')) (hfin : K = M → st' = st) :
    ∀ (d k : Nat) (f : Nat → V), k + d = K → f 0 = .func (.yield l) [] [] → f 1 = .ptr pa 0 → f 2 = .ptr pb 0 → f 15 = .int .i64 (M : Nat) → f 16 = .int .i64 (k : Nat) →
    Out 29 [] (fun e f' st2 => (e = .exit 0 ∨ e = .ret) ∧ st2 = st') ((run tb).code none c45_3 (mk 29 f []) st)
  | 0, k, f, hk, h0, h1, h2, h15, h16 => by
    have hk : k = K := hk
    subst hk
    have wA := fun P => word_run _ ra rva ma S k (hA.prot' P)
    have wB := fun P => word_run _ rb rvb mb S' k (hB.prot' P)
    have wA0 := word_run _ ra rva ma S k hA
    have wB0 := word_run _ rb rvb mb S' k hB
    rw [go_loop_of e45_3]
    by_cases hkM : k < M
    · have hye := hend hkM
      simp (config := { decide := true }) [g45_4, g45_5, g45_6, g45_7, g45_8, g45_9, g45_10, g45_11, g45_12, g45_13, g45_14, g45_15, g45_16, g45_17, g45_18, g45_19, l45_5, l45_13, l45_15, l45_19, steps_nil, steps_cons, draws_nil, draws_cons, step_mk, stepB_some, stepB_none, memB_mk, thenS_some, regB_some, branch_bool, sel_true, sel_false, wanted_none, wanted_some, asB, mk_put, mk_put_none, arg_tmp, arg_const, arg_func, arg_global, upd_same, upd_ne, evPure, evArgs, m_load, m_store, m_alloc, m_box, m_call, m_lookup, m_mapUpdate, m_inv, evLoad, readCells, evFieldAddr, evIndexAddr, asIdx, ofValue, isPure, evBin, ib_lss, ib_leq, ib_gtr, ib_geq, ib_eql, ib_neq, evUn, leave_normal, leave_ret, finish, then_normal, then_exit, then_ret, close_normal, close_exit, close_ret, evConv, mk_marks, dropMarks, resOf, resList, mk_getD, argF, List.getD_cons_zero, List.getD_cons_succ, V.cells, evLen, kdOp, kdOf, readsOf, protS, eq_bool, eq_nil28, evStore, V.oneCell, putElem, splice, -List.getD_eq_getElem?_getD, -getElem?_pos, und55, und53, und22, size3, size53, size58, size22, ty3, ty4, ty53, ty58, ty22, h0, h1, h2, h15, h16, hpa, hpb, wA, wB, wA0, wB0, hkM, ty28c, y_inv, hye]
      exact .one ⟨.inr rfl, by rw [← hpr]⟩
    · have : k = M := by omega
      have e := hfin this
      subst e
      simp (config := { decide := true }) [g45_4, g45_5, g45_6, g45_7, g45_8, g45_9, g45_10, g45_11, g45_12, g45_13, g45_14, g45_15, g45_16, g45_17, g45_18, g45_19, l45_5, l45_13, l45_15, l45_19, steps_nil, steps_cons, draws_nil, draws_cons, step_mk, stepB_some, stepB_none, memB_mk, thenS_some, regB_some, branch_bool, sel_true, sel_false, wanted_none, wanted_some, asB, mk_put, mk_put_none, arg_tmp, arg_const, arg_func, arg_global, upd_same, upd_ne, evPure, evArgs, m_load, m_store, m_alloc, m_box, m_call, m_lookup, m_mapUpdate, m_inv, evLoad, readCells, evFieldAddr, evIndexAddr, asIdx, ofValue, isPure, evBin, ib_lss, ib_leq, ib_gtr, ib_geq, ib_eql, ib_neq, evUn, leave_normal, leave_ret, finish, then_normal, then_exit, then_ret, close_normal, close_exit, close_ret, evConv, mk_marks, dropMarks, resOf, resList, mk_getD, argF, List.getD_cons_zero, List.getD_cons_succ, V.cells, evLen, kdOp, kdOf, readsOf, protS, eq_bool, eq_nil28, evStore, V.oneCell, putElem, splice, -List.getD_eq_getElem?_getD, -getElem?_pos, und55, und53, und22, size3, size53, size58, size22, ty3, ty4, ty53, ty58, ty22, h0, h1, h2, h15, h16, hkM]
      exact .one ⟨.inl rfl, rfl⟩
  | d + 1, k, f, hk, h0, h1, h2, h15, h16 => by
    have ih := pairs_loop st st' l pa pb ra rb rva rvb ma mb M K S S' hpa hpb hA hB hM hpr hK hy hend hfin d (k + 1)
    have wA := fun P => word_run _ ra rva ma S k (hA.prot' P)
    have wB := fun P => word_run _ rb rvb mb S' k (hB.prot' P)
    have wA0 := word_run _ ra rva ma S k hA
    have wB0 := word_run _ rb rvb mb S' k hB
    have hkM : k < M := by omega
    have hyk := hy k (by omega)
    have hn : intBin .add .i64 (k : Nat) 1 = some (.int .i64 ((k + 1 : Nat) : Int)) := by rw [add64 (by omega) (by omega)]; simp
    rw [go_loop_of e45_3]
    simp (config := { decide := true }) [g45_4, g45_5, g45_6, g45_7, g45_8, g45_9, g45_10, g45_11, g45_12, g45_13, g45_14, g45_15, g45_16, g45_17, g45_18, g45_19, l45_5, l45_13, l45_15, l45_19, steps_nil, steps_cons, draws_nil, draws_cons, step_mk, stepB_some, stepB_none, memB_mk, thenS_some, regB_some, branch_bool, sel_true, sel_false, wanted_none, wanted_some, asB, mk_put, mk_put_none, arg_tmp, arg_const, arg_func, arg_global, upd_same, upd_ne, evPure, evArgs, m_load, m_store, m_alloc, m_box, m_call, m_lookup, m_mapUpdate, m_inv, evLoad, readCells, evFieldAddr, evIndexAddr, asIdx, ofValue, isPure, evBin, ib_lss, ib_leq, ib_gtr, ib_geq, ib_eql, ib_neq, evUn, leave_normal, leave_ret, finish, then_normal, then_exit, then_ret, close_normal, close_exit, close_ret, evConv, mk_marks, dropMarks, resOf, resList, mk_getD, argF, List.getD_cons_zero, List.getD_cons_succ, V.cells, evLen, kdOp, kdOf, readsOf, protS, eq_bool, eq_nil28, evStore, V.oneCell, putElem, splice, -List.getD_eq_getElem?_getD, -getElem?_pos, und55, und53, und22, size3, size53, size58, size22, ty3, ty4, ty53, ty58, ty22, h0, h1, h2, h15, h16, hpa, hpb, wA, wB, wA0, wB0, hkM, ty28c, y_inv, hyk, hn]
    refine ih _ (by omega) ?_ ?_ ?_ ?_ ?_
    all_goals simp [upd_same, upd_ne, h0, h1, h2, h15]
theorem pairs_run (st st' : St) (l pa pb ra rb rva rvb ma mb M K : Nat) (S S' : Nat → Bool) (hpa : st.store[pa]? = some (.box [.ptr ra 0])) (hpb : st.store[pb]? = some (.box [.ptr rb 0])) (hA : SetAt st ra rva ma S) (hB : SetAt st rb rvb mb S') (hM : max (nw ma) (nw mb) = M)
    (hpr : st'.prot = st.prot) (hK : K ≤ M) (hy : ∀ k, k < K → evYield (run tb) l [.int .u64 (wd S k : Nat), .int .u64 (wd S' k : Nat)] st = some (.bool true, st)) (hend : K < M → evYield (run tb) l [.int .u64 (wd S K : Nat), .int .u64 (wd S' K : Nat)] st = some (.bool false, st')) (hfin : K = M → st' = st) :
    (run tb).call 45 [.func (.yield l) [] [], .ptr pa 0, .ptr pb 0] st = some (.tup [], st') := by
  have hAb := hA.hb
  have hBb := hB.hb
  have hM' : M ≤ 1025 := by have := hA.hm; have := hB.hm; unfold nw at hM; omega
  have hm : max (nw ma : Int) (nw mb : Int) = (M : Int) := by omega
  rw [run45 (by simp)]
  simp (config := { decide := true }) [g45_0, g45_1, g45_2, l45_1, steps_nil, steps_cons, draws_nil, draws_cons, step_mk, stepB_some, stepB_none, memB_mk, thenS_some, regB_some, branch_bool, sel_true, sel_false, wanted_none, wanted_some, asB, mk_put, mk_put_none, arg_tmp, arg_const, arg_func, arg_global, upd_same, upd_ne, evPure, evArgs, m_load, m_store, m_alloc, m_box, m_call, m_lookup, m_mapUpdate, m_inv, evLoad, readCells, evFieldAddr, evIndexAddr, asIdx, ofValue, isPure, evBin, ib_lss, ib_leq, ib_gtr, ib_geq, ib_eql, ib_neq, evUn, leave_normal, leave_ret, finish, then_normal, then_exit, then_ret, close_normal, close_exit, close_ret, evConv, mk_marks, dropMarks, resOf, resList, mk_getD, argF, List.getD_cons_zero, List.getD_cons_succ, V.cells, evLen, kdOp, kdOf, readsOf, protS, eq_bool, eq_nil28, evStore, V.oneCell, putElem, splice, -List.getD_eq_getElem?_getD, -getElem?_pos, und55, und53, und22, size3, size53, size58, size22, ty3, ty4, ty53, ty58, ty22, hpa, hpb, hAb, hBb, ty28c, max_int, hm]
  refine Out.use (C := fun o => leave tb _ (closeB 0 o) = _) (pairs_loop st st' l pa pb ra rb rva rvb ma mb M K S S' hpa hpb hA hB hM' hpr hK hy hend hfin K 0 _ (by omega) ?_ ?_ ?_ ?_ ?_) ?_
  · simp [upd_same, upd_ne, argF]
  · simp [upd_same, upd_ne, argF]
  · simp [upd_same, upd_ne, argF]
  · simp [upd_same, upd_ne]
  · simp [upd_same, upd_ne]
  · rintro e f st2 ⟨h | h, rfl⟩
    · subst h; simp [close_exit, leave_normal, finish, dropMarks, mk_marks, resOf, resList]
    · subst h; simp [close_ret, leave_ret, finish, dropMarks, mk_marks, resOf, resList]
theorem size4 : tb.size 4 = some 1 := by rw [tb_eq]; kernel_rfl

/- Same: a round. -/
theorem same_round (l ds : Nat) (F : Nat → V) (st : St) (x y : Nat) (hx : x < 2 ^ 64) (hy : y < 2 ^ 64) (hl : Free st l) (hlp : st.store[l]? = some (.loop (loop0 (mk 15 F []).tmps #[10, 11] c22_7 c22_10 ds))) (hc : (x == y) = true) :
    evYield (run tb) l [.int .u64 (x : Nat), .int .u64 (y : Nat)] st = some (.bool true, st) := by
  have hk : st.locked l = false := by simp [St.locked, Nat.not_lt.2 hl.1, hl.2]
  have hz : ((x : Int) != (y : Int)) = !(x == y) := by cases h : x == y with | true => simp at h; simp [h] | false => simp at h; simp; omega
  have hand : True := trivial
  rw [hc] at hz
  rw [yield_run (fr1 := mk 15 (upd (upd (upd (upd F 10 (.int .u64 (x : Nat))) 11 (.int .u64 (y : Nat))) 5 (.int .u64 (x : Nat))) 6 (.int .u64 (y : Nat))) []) hk (loop_of hlp) rfl rfl]
  · show yieldEnd l ((run tb).code (some l) c22_10 _ _) = _
    simp [g22_10, g22_11, g22_12, g22_13, g22_14, g22_15, g22_16, g22_17, l22_12, l22_15, steps_nil, steps_cons, draws_nil, draws_cons, step_mk, stepB_some, stepB_none, memB_mk, thenS_some, regB_some, branch_bool, sel_true, sel_false, wanted_none, wanted_some, asB, mk_put, mk_put_none, arg_tmp, arg_const, arg_func, arg_global, upd_same, upd_ne, evPure, evArgs, m_load, m_store, m_alloc, m_box, m_call, m_lookup, m_mapUpdate, m_inv, evLoad, readCells, evFieldAddr, evIndexAddr, asIdx, ofValue, isPure, evBin, ib_lss, ib_leq, ib_gtr, ib_geq, ib_eql, ib_neq, evUn, leave_normal, leave_ret, finish, then_normal, then_exit, then_ret, close_normal, close_exit, close_ret, evConv, mk_marks, dropMarks, resOf, resList, mk_getD, argF, List.getD_cons_zero, List.getD_cons_succ, V.cells, evLen, kdOp, kdOf, readsOf, protS, eq_bool, eq_nil28, evStore, V.oneCell, putElem, splice, -List.getD_eq_getElem?_getD, -getElem?_pos, und55, und53, und22, size3, size53, size58, size22, ty3, ty4, ty53, ty58, ty22, hz, hand]
    exact end_same hlp rfl rfl
  · show (run tb).code (some l) c22_7 { tmps := setParams [10, 11] _ (mk 15 F []).tmps, marks := [] } st = _
    rw [params_fr]
    simp [g22_7, g22_8, g22_9, l22_8, l22_9, steps_nil, steps_cons, draws_nil, draws_cons, step_mk, stepB_some, stepB_none, memB_mk, thenS_some, regB_some, branch_bool, sel_true, sel_false, wanted_none, wanted_some, asB, mk_put, mk_put_none, arg_tmp, arg_const, arg_func, arg_global, upd_same, upd_ne, evPure, evArgs, m_load, m_store, m_alloc, m_box, m_call, m_lookup, m_mapUpdate, m_inv, evLoad, readCells, evFieldAddr, evIndexAddr, asIdx, ofValue, isPure, evBin, ib_lss, ib_leq, ib_gtr, ib_geq, ib_eql, ib_neq, evUn, leave_normal, leave_ret, finish, then_normal, then_exit, then_ret, close_normal, close_exit, close_ret, evConv, mk_marks, dropMarks, resOf, resList, mk_getD, argF, List.getD_cons_zero, List.getD_cons_succ, V.cells, evLen, kdOp, kdOf, readsOf, protS, eq_bool, eq_nil28, evStore, V.oneCell, putElem, splice, -List.getD_eq_getElem?_getD, -getElem?_pos, und55, und53, und22, size3, size53, size58, size22, ty3, ty4, ty53, ty58, ty22, updAll]
theorem same_stop (l ds bx : Nat) (F : Nat → V) (st : St) (x y : Nat) (hx : x < 2 ^ 64) (hy : y < 2 ^ 64) (hl : Free st l) (hlp : st.store[l]? = some (.loop (loop0 (mk 15 F []).tmps #[10, 11] c22_7 c22_10 ds))) (hc : (x == y) = false)
    (h4 : F 4 = .ptr bx 0) (hb : Free st bx) (hbx : st.store[bx]? = some (.box [.bool false])) :
    evYield (run tb) l [.int .u64 (x : Nat), .int .u64 (y : Nat)] st = some (.bool false, { st with store := st.store.set l (.loop { (loop0 (mk 15 F []).tmps #[10, 11] c22_7 c22_10 ds) with state := .done, pending := some .ret }) }) := by
  have hk : st.locked l = false := by simp [St.locked, Nat.not_lt.2 hl.1, hl.2]
  have hlb : l ≠ bx := fun e => by rw [e, hbx] at hlp; cases hlp
  have hz : ((x : Int) != (y : Int)) = !(x == y) := by cases h : x == y with | true => simp at h; simp [h] | false => simp at h; simp; omega
  have hand : True := trivial
  rw [hc] at hz
  rw [yield_run (fr1 := mk 15 (upd (upd (upd (upd F 10 (.int .u64 (x : Nat))) 11 (.int .u64 (y : Nat))) 5 (.int .u64 (x : Nat))) 6 (.int .u64 (y : Nat))) []) hk (loop_of hlp) rfl rfl]
  · show yieldEnd l ((run tb).code (some l) c22_10 _ _) = _
    have hbx' : ∀ o, (st.store.set l o)[bx]? = some (.box [.bool false]) := fun o => by rw [List.getElem?_set_ne hlb]; exact hbx
    have hsame : ∀ o, (st.store.set l o).set bx (.box [.bool false]) = st.store.set l o := fun o => set_at (hbx' o)
    have hb1 : ¬ bx < st.base := Nat.not_lt.2 hb.1
    simp [g22_10, g22_11, g22_12, g22_13, g22_14, g22_15, g22_16, g22_17, l22_12, l22_15, steps_nil, steps_cons, draws_nil, draws_cons, step_mk, stepB_some, stepB_none, memB_mk, thenS_some, regB_some, branch_bool, sel_true, sel_false, wanted_none, wanted_some, asB, mk_put, mk_put_none, arg_tmp, arg_const, arg_func, arg_global, upd_same, upd_ne, evPure, evArgs, m_load, m_store, m_alloc, m_box, m_call, m_lookup, m_mapUpdate, m_inv, evLoad, readCells, evFieldAddr, evIndexAddr, asIdx, ofValue, isPure, evBin, ib_lss, ib_leq, ib_gtr, ib_geq, ib_eql, ib_neq, evUn, leave_normal, leave_ret, finish, then_normal, then_exit, then_ret, close_normal, close_exit, close_ret, evConv, mk_marks, dropMarks, resOf, resList, mk_getD, argF, List.getD_cons_zero, List.getD_cons_succ, V.cells, evLen, kdOp, kdOf, readsOf, protS, eq_bool, eq_nil28, evStore, V.oneCell, putElem, splice, -List.getD_eq_getElem?_getD, -getElem?_pos, und55, und53, und22, size3, size53, size58, size22, ty3, ty4, ty53, ty58, ty22, hz, hand, h4, hbx', St.locked, hb1, hb.2, size4, hsame]
    have hll := lt_of_at hlp
    rw [end_any (lp := { (loop0 (mk 15 F []).tmps #[10, 11] c22_7 c22_10 ds) with state := .busy })]
    · simp [roundEnd, loop0]
    · show (st.store.set l _)[l]? = _
      rw [List.getElem?_set_self hll]
  · show (run tb).code (some l) c22_7 { tmps := setParams [10, 11] _ (mk 15 F []).tmps, marks := [] } st = _
    rw [params_fr]
    simp [g22_7, g22_8, g22_9, l22_8, l22_9, steps_nil, steps_cons, draws_nil, draws_cons, step_mk, stepB_some, stepB_none, memB_mk, thenS_some, regB_some, branch_bool, sel_true, sel_false, wanted_none, wanted_some, asB, mk_put, mk_put_none, arg_tmp, arg_const, arg_func, arg_global, upd_same, upd_ne, evPure, evArgs, m_load, m_store, m_alloc, m_box, m_call, m_lookup, m_mapUpdate, m_inv, evLoad, readCells, evFieldAddr, evIndexAddr, asIdx, ofValue, isPure, evBin, ib_lss, ib_leq, ib_gtr, ib_geq, ib_eql, ib_neq, evUn, leave_normal, leave_ret, finish, then_normal, then_exit, then_ret, close_normal, close_exit, close_ret, evConv, mk_marks, dropMarks, resOf, resList, mk_getD, argF, List.getD_cons_zero, List.getD_cons_succ, V.cells, evLen, kdOp, kdOf, readsOf, protS, eq_bool, eq_nil28, evStore, V.oneCell, putElem, splice, -List.getD_eq_getElem?_getD, -getElem?_pos, und55, und53, und22, size3, size53, size58, size22, ty3, ty4, ty53, ty58, ty22, updAll]

/- Apart: a round. -/
theorem apart_round (l ds : Nat) (F : Nat → V) (st : St) (x y : Nat) (hx : x < 2 ^ 64) (hy : y < 2 ^ 64) (hl : Free st l) (hlp : st.store[l]? = some (.loop (loop0 (mk 16 F []).tmps #[10, 11] c23_7 c23_10 ds))) (hc : ((x &&& y) == 0) = true) :
    evYield (run tb) l [.int .u64 (x : Nat), .int .u64 (y : Nat)] st = some (.bool true, st) := by
  have hk : st.locked l = false := by simp [St.locked, Nat.not_lt.2 hl.1, hl.2]
  have hz : (((x &&& y : Nat) : Int) != 0) = !((x &&& y) == 0) := by cases h : (x &&& y) == 0 with | true => simp at h; simp [h] | false => simp at h; simp; omega
  have hand := and64 x y hx hy
  generalize x &&& y = z at *
  rw [hc] at hz
  rw [yield_run (fr1 := mk 16 (upd (upd (upd (upd F 10 (.int .u64 (x : Nat))) 11 (.int .u64 (y : Nat))) 5 (.int .u64 (x : Nat))) 6 (.int .u64 (y : Nat))) []) hk (loop_of hlp) rfl rfl]
  · show yieldEnd l ((run tb).code (some l) c23_10 _ _) = _
    simp [g23_10, g23_11, g23_12, g23_13, g23_14, g23_15, g23_16, g23_17, l23_12, l23_15, steps_nil, steps_cons, draws_nil, draws_cons, step_mk, stepB_some, stepB_none, memB_mk, thenS_some, regB_some, branch_bool, sel_true, sel_false, wanted_none, wanted_some, asB, mk_put, mk_put_none, arg_tmp, arg_const, arg_func, arg_global, upd_same, upd_ne, evPure, evArgs, m_load, m_store, m_alloc, m_box, m_call, m_lookup, m_mapUpdate, m_inv, evLoad, readCells, evFieldAddr, evIndexAddr, asIdx, ofValue, isPure, evBin, ib_lss, ib_leq, ib_gtr, ib_geq, ib_eql, ib_neq, evUn, leave_normal, leave_ret, finish, then_normal, then_exit, then_ret, close_normal, close_exit, close_ret, evConv, mk_marks, dropMarks, resOf, resList, mk_getD, argF, List.getD_cons_zero, List.getD_cons_succ, V.cells, evLen, kdOp, kdOf, readsOf, protS, eq_bool, eq_nil28, evStore, V.oneCell, putElem, splice, -List.getD_eq_getElem?_getD, -getElem?_pos, und55, und53, und22, size3, size53, size58, size22, ty3, ty4, ty53, ty58, ty22, hz, hand]
    exact end_same hlp rfl rfl
  · show (run tb).code (some l) c23_7 { tmps := setParams [10, 11] _ (mk 16 F []).tmps, marks := [] } st = _
    rw [params_fr]
    simp [g23_7, g23_8, g23_9, l23_8, l23_9, steps_nil, steps_cons, draws_nil, draws_cons, step_mk, stepB_some, stepB_none, memB_mk, thenS_some, regB_some, branch_bool, sel_true, sel_false, wanted_none, wanted_some, asB, mk_put, mk_put_none, arg_tmp, arg_const, arg_func, arg_global, upd_same, upd_ne, evPure, evArgs, m_load, m_store, m_alloc, m_box, m_call, m_lookup, m_mapUpdate, m_inv, evLoad, readCells, evFieldAddr, evIndexAddr, asIdx, ofValue, isPure, evBin, ib_lss, ib_leq, ib_gtr, ib_geq, ib_eql, ib_neq, evUn, leave_normal, leave_ret, finish, then_normal, then_exit, then_ret, close_normal, close_exit, close_ret, evConv, mk_marks, dropMarks, resOf, resList, mk_getD, argF, List.getD_cons_zero, List.getD_cons_succ, V.cells, evLen, kdOp, kdOf, readsOf, protS, eq_bool, eq_nil28, evStore, V.oneCell, putElem, splice, -List.getD_eq_getElem?_getD, -getElem?_pos, und55, und53, und22, size3, size53, size58, size22, ty3, ty4, ty53, ty58, ty22, updAll]
theorem apart_stop (l ds bx : Nat) (F : Nat → V) (st : St) (x y : Nat) (hx : x < 2 ^ 64) (hy : y < 2 ^ 64) (hl : Free st l) (hlp : st.store[l]? = some (.loop (loop0 (mk 16 F []).tmps #[10, 11] c23_7 c23_10 ds))) (hc : ((x &&& y) == 0) = false)
    (h4 : F 4 = .ptr bx 0) (hb : Free st bx) (hbx : st.store[bx]? = some (.box [.bool false])) :
    evYield (run tb) l [.int .u64 (x : Nat), .int .u64 (y : Nat)] st = some (.bool false, { st with store := st.store.set l (.loop { (loop0 (mk 16 F []).tmps #[10, 11] c23_7 c23_10 ds) with state := .done, pending := some .ret }) }) := by
  have hk : st.locked l = false := by simp [St.locked, Nat.not_lt.2 hl.1, hl.2]
  have hlb : l ≠ bx := fun e => by rw [e, hbx] at hlp; cases hlp
  have hz : (((x &&& y : Nat) : Int) != 0) = !((x &&& y) == 0) := by cases h : (x &&& y) == 0 with | true => simp at h; simp [h] | false => simp at h; simp; omega
  have hand := and64 x y hx hy
  generalize x &&& y = z at *
  rw [hc] at hz
  rw [yield_run (fr1 := mk 16 (upd (upd (upd (upd F 10 (.int .u64 (x : Nat))) 11 (.int .u64 (y : Nat))) 5 (.int .u64 (x : Nat))) 6 (.int .u64 (y : Nat))) []) hk (loop_of hlp) rfl rfl]
  · show yieldEnd l ((run tb).code (some l) c23_10 _ _) = _
    have hbx' : ∀ o, (st.store.set l o)[bx]? = some (.box [.bool false]) := fun o => by rw [List.getElem?_set_ne hlb]; exact hbx
    have hsame : ∀ o, (st.store.set l o).set bx (.box [.bool false]) = st.store.set l o := fun o => set_at (hbx' o)
    have hb1 : ¬ bx < st.base := Nat.not_lt.2 hb.1
    simp [g23_10, g23_11, g23_12, g23_13, g23_14, g23_15, g23_16, g23_17, l23_12, l23_15, steps_nil, steps_cons, draws_nil, draws_cons, step_mk, stepB_some, stepB_none, memB_mk, thenS_some, regB_some, branch_bool, sel_true, sel_false, wanted_none, wanted_some, asB, mk_put, mk_put_none, arg_tmp, arg_const, arg_func, arg_global, upd_same, upd_ne, evPure, evArgs, m_load, m_store, m_alloc, m_box, m_call, m_lookup, m_mapUpdate, m_inv, evLoad, readCells, evFieldAddr, evIndexAddr, asIdx, ofValue, isPure, evBin, ib_lss, ib_leq, ib_gtr, ib_geq, ib_eql, ib_neq, evUn, leave_normal, leave_ret, finish, then_normal, then_exit, then_ret, close_normal, close_exit, close_ret, evConv, mk_marks, dropMarks, resOf, resList, mk_getD, argF, List.getD_cons_zero, List.getD_cons_succ, V.cells, evLen, kdOp, kdOf, readsOf, protS, eq_bool, eq_nil28, evStore, V.oneCell, putElem, splice, -List.getD_eq_getElem?_getD, -getElem?_pos, und55, und53, und22, size3, size53, size58, size22, ty3, ty4, ty53, ty58, ty22, hz, hand, h4, hbx', St.locked, hb1, hb.2, size4, hsame]
    have hll := lt_of_at hlp
    rw [end_any (lp := { (loop0 (mk 16 F []).tmps #[10, 11] c23_7 c23_10 ds) with state := .busy })]
    · simp [roundEnd, loop0]
    · show (st.store.set l _)[l]? = _
      rw [List.getElem?_set_self hll]
  · show (run tb).code (some l) c23_7 { tmps := setParams [10, 11] _ (mk 16 F []).tmps, marks := [] } st = _
    rw [params_fr]
    simp [g23_7, g23_8, g23_9, l23_8, l23_9, steps_nil, steps_cons, draws_nil, draws_cons, step_mk, stepB_some, stepB_none, memB_mk, thenS_some, regB_some, branch_bool, sel_true, sel_false, wanted_none, wanted_some, asB, mk_put, mk_put_none, arg_tmp, arg_const, arg_func, arg_global, upd_same, upd_ne, evPure, evArgs, m_load, m_store, m_alloc, m_box, m_call, m_lookup, m_mapUpdate, m_inv, evLoad, readCells, evFieldAddr, evIndexAddr, asIdx, ofValue, isPure, evBin, ib_lss, ib_leq, ib_gtr, ib_geq, ib_eql, ib_neq, evUn, leave_normal, leave_ret, finish, then_normal, then_exit, then_ret, close_normal, close_exit, close_ret, evConv, mk_marks, dropMarks, resOf, resList, mk_getD, argF, List.getD_cons_zero, List.getD_cons_succ, V.cells, evLen, kdOp, kdOf, readsOf, protS, eq_bool, eq_nil28, evStore, V.oneCell, putElem, splice, -List.getD_eq_getElem?_getD, -getElem?_pos, und55, und53, und22, size3, size53, size58, size22, ty3, ty4, ty53, ty58, ty22, updAll]
/-- The first at which something is false. -/
theorem first_false : ∀ (M : Nat) (p : Nat → Bool), (∀ k, k < M → p k = true) ∨ ∃ K, K < M ∧ p K = false ∧ ∀ k, k < K → p k = true
  | 0, _ => .inl fun k hk => absurd hk (Nat.not_lt_zero _)
  | M + 1, p => by
    rcases first_false M p with h | ⟨K, hK, h1, h2⟩
    · cases hp : p M with
      | true =>
        refine .inl fun k hk => ?_
        by_cases hkm : k = M
        · subst hkm; exact hp
        · exact h k (by omega)
      | false => exact .inr ⟨M, by omega, hp, h⟩
    · exact .inr ⟨K, by omega, h1, h2⟩

/-- The loop's state behind the call: what was there lies there still; the answer's box, the block of deferred calls, the loop. -/
structure sameSt (st st4 : St) (bx ds l : Nat) (c : Bool) : Prop where
  grow : Grows st st4
  box : st4.store[bx]? = some (.box [.bool false])
  defs : st4.store[ds]? = some .defs
  loop : ∃ lp, st4.store[l]? = some (.loop lp) ∧ lp.state ≠ .busy ∧ lp.pending = (if c then none else some .ret)
theorem same_pairs (st : St) (hok : okSt st) (ra rb rva rvb ma mb M : Nat) (S S' : Nat → Bool) (hA : SetAt st ra rva ma S) (hB : SetAt st rb rvb mb S') (hM : max (nw ma) (nw mb) = M) (F : Nat → V) (h4 : F 4 = .ptr st.store.length 0) (st3 : St)
    (h3 : st3 = enterSt { st with store := st.store ++ [.box [.bool false], .box [.ptr ra 0], .box [.ptr rb 0]] } (loop0 (mk 15 F []).tmps #[10, 11] c22_7 c22_10 (st.store.length + 3))) :
    Ret (fun v st4 => ∃ c : Bool, sameSt st st4 st.store.length (st.store.length + 3) (st.store.length + 4) c ∧ (c = true ↔ ∀ k, k < M → (let x := wd S k; let y := wd S' k; (x == y) = true))) ((run tb).call 45 [.func (.yield (st.store.length + 4)) [] [], .ptr (st.store.length + 1) 0, .ptr (st.store.length + 2) 0] st3) := by
  have hst : st3.store = st.store ++ [.box [.bool false], .box [.ptr ra 0], .box [.ptr rb 0], .defs, .loop (loop0 (mk 15 F []).tmps #[10, 11] c22_7 c22_10 (st.store.length + 3))] := by rw [h3]; simp [enterSt]
  have hg : Grows st st3 := by
    refine ⟨by rw [h3]; rfl, by rw [h3]; rfl, by rw [hst]; simp, fun i hi => ?_⟩
    rw [hst, List.getElem?_append_left hi]
  have g0 : st3.store[st.store.length]? = some (.box [.bool false]) := by rw [hst, List.getElem?_append_right (by omega)]; simp
  have g1 : st3.store[st.store.length + 1]? = some (.box [.ptr ra 0]) := by rw [hst, List.getElem?_append_right (by omega)]; simp
  have g2 : st3.store[st.store.length + 2]? = some (.box [.ptr rb 0]) := by rw [hst, List.getElem?_append_right (by omega)]; simp
  have g3 : st3.store[st.store.length + 3]? = some .defs := by rw [hst, List.getElem?_append_right (by omega)]; simp
  have g4 : st3.store[st.store.length + 4]? = some (.loop (loop0 (mk 15 F []).tmps #[10, 11] c22_7 c22_10 (st.store.length + 3))) := by rw [hst, List.getElem?_append_right (by omega)]; simp
  have free : ∀ i, st.store.length ≤ i → Free st3 i := fun i hi => ⟨by rw [hg.base]; exact Nat.le_trans hok.1 hi, by rw [hg.prot]; exact fun hm => by have := hok.2 _ hm; omega⟩
  have hA' := hA.grow hg
  have hB' := hB.grow hg
  clear h3
  rcases first_false M (fun k => let x := wd S k; let y := wd S' k; (x == y)) with hall | ⟨K, hK, hf, hbef⟩
  · have := pairs_run st3 st3 (st.store.length + 4) _ _ ra rb rva rvb ma mb M M S S' g1 g2 hA' hB' hM rfl (Nat.le_refl _) (fun k hk => same_round _ _ F st3 _ _ (wd_lt S k) (wd_lt S' k) (free _ (by omega)) g4 (hall k hk)) (fun h => absurd h (Nat.lt_irrefl _)) (fun _ => rfl)
    rw [this]
    exact .one ⟨true, ⟨hg, g0, g3, _, g4, by simp [loop0], rfl⟩, by simpa using hall⟩
  · have := pairs_run st3 { st3 with store := st3.store.set (st.store.length + 4) (.loop { (loop0 (mk 15 F []).tmps #[10, 11] c22_7 c22_10 (st.store.length + 3)) with state := .done, pending := some .ret }) } (st.store.length + 4) _ _ ra rb rva rvb ma mb M K S S' g1 g2 hA' hB' hM rfl (Nat.le_of_lt hK) (fun k hk => same_round _ _ F st3 _ _ (wd_lt S k) (wd_lt S' k) (free _ (by omega)) g4 (hbef k hk)) (fun _ => same_stop _ _ _ F st3 _ _ (wd_lt S K) (wd_lt S' K) (free _ (by omega)) g4 hf h4 (free _ (by omega)) g0) (fun h => by omega)
    rw [this]
    refine .one ⟨false, ⟨hg.set (by omega) _, ?_, ?_, ?_⟩, ?_⟩
    · show (st3.store.set _ _)[_]? = _
      rw [List.getElem?_set_ne (by omega)]; exact g0
    · show (st3.store.set _ _)[_]? = _
      rw [List.getElem?_set_ne (by omega)]; exact g3
    · refine ⟨{ (loop0 (mk 15 F []).tmps #[10, 11] c22_7 c22_10 (st.store.length + 3)) with state := .done, pending := some .ret }, ?_, ?_, rfl⟩
      · show (st3.store.set _ _)[_]? = _
        rw [List.getElem?_set_self (lt_of_at g4)]
      · simp
    · constructor
      · intro h; cases h
      · intro h
        have h2 : false = true := hf.symm.trans (h K hK)
        cases h2
theorem same_calls (st : St) (hok : okSt st) (ra rb rva rvb ma mb M : Nat) (S S' : Nat → Bool) (hA : SetAt st ra rva ma S) (hB : SetAt st rb rvb mb S') (hM : max (nw ma) (nw mb) = M) {Q : V → St → Prop} (hQ : ∀ c st4, Grows st st4 → (c = true ↔ ∀ k, k < M → (let x := wd S k; let y := wd S' k; (x == y) = true)) → Q (.bool c) st4) :
    Ret Q ((run tb).call 22 [.ptr ra 0, .ptr rb 0] st) := by
  have hp := fun st => pairs_mk st ra rb
  rw [run22 (by simp)]
  simp [g22_0, g22_1, g22_2, g22_3, g22_4, g22_5, g22_6, l22_1, l22_4, steps_nil, steps_cons, draws_nil, draws_cons, step_mk, stepB_some, stepB_none, memB_mk, thenS_some, regB_some, branch_bool, sel_true, sel_false, wanted_none, wanted_some, asB, mk_put, mk_put_none, arg_tmp, arg_const, arg_func, arg_global, upd_same, upd_ne, evPure, evArgs, m_load, m_store, m_alloc, m_box, m_call, m_lookup, m_mapUpdate, m_inv, evLoad, readCells, evFieldAddr, evIndexAddr, asIdx, ofValue, isPure, evBin, ib_lss, ib_leq, ib_gtr, ib_geq, ib_eql, ib_neq, evUn, leave_normal, leave_ret, finish, then_normal, then_exit, then_ret, close_normal, close_exit, close_ret, evConv, mk_marks, dropMarks, resOf, resList, mk_getD, argF, List.getD_cons_zero, List.getD_cons_succ, V.cells, evLen, kdOp, kdOf, readsOf, protS, eq_bool, eq_nil28, evStore, V.oneCell, putElem, splice, -List.getD_eq_getElem?_getD, -getElem?_pos, und55, und53, und22, size3, size53, size58, size22, ty3, ty4, ty53, ty58, ty22, hp, range_inv, St.new, ty4]
  refine Ret.use (C := fun o => Ret _ (leave tb _ (andThen (closeB 0 (afterRange tb none _ _ o)) _))) (same_pairs st hok ra rb rva rvb ma mb M S S' hA hB hM _ ?_ _ rfl) ?_
  · simp [upd_same, upd_ne]
  · rintro v st4 ⟨c, ⟨hg, hbx, hds, lp, hlp, hnb, hpe⟩, hc⟩
    have free : ∀ i, st.store.length ≤ i → st4.locked i = false := fun i hi => by
      have h1 : ¬ i < st4.base := by rw [hg.base]; have := hok.1; omega
      have h2 : ¬ i ∈ st4.prot := by rw [hg.prot]; exact fun hm => by have := hok.2 _ hm; omega
      simp [St.locked, h1, h2]
    have f0 := free st.store.length (by omega)
    have f3 := free (st.store.length + 3) (by omega)
    have g0 : ∀ o, (st4.store.set (st.store.length + 4) o)[st.store.length]? = some (.box [.bool false]) := fun o => by rw [List.getElem?_set_ne (by omega)]; exact hbx
    have g3 : ∀ o, (st4.store.set (st.store.length + 4) o)[st.store.length + 3]? = some .defs := fun o => by rw [List.getElem?_set_ne (by omega)]; exact hds
    have hset := hg.set (i := st.store.length + 4) (by omega)
    cases c with
    | true =>
      rw [after_normal hlp hnb (free _ (by omega)) hpe]
      have k3 : ∀ o p, ((st4.store.set (st.store.length + 4) o).set st.store.length p)[st.store.length + 3]? = some .defs := fun o p => by rw [List.getElem?_set_ne (by omega)]; exact g3 o
      have k0 : ∀ o p q, (((st4.store.set (st.store.length + 4) o).set st.store.length p).set (st.store.length + 3) q)[st.store.length]? = some p := fun o p q => by
        rw [List.getElem?_set_ne (by omega), List.getElem?_set_self (lt_of_at (g0 o))]
      have l0 : ∀ x : St, x.base = st4.base → x.prot = st4.prot → x.locked st.store.length = false := fun x h1 h2 => by
        rw [← f0]; unfold St.locked; rw [h1, h2]
      have l3 : ∀ x : St, x.base = st4.base → x.prot = st4.prot → x.locked (st.store.length + 3) = false := fun x h1 h2 => by
        rw [← f3]; unfold St.locked; rw [h1, h2]
      simp [g22_18, g22_19, g22_20, l22_19, steps_nil, steps_cons, draws_nil, draws_cons, step_mk, stepB_some, stepB_none, memB_mk, thenS_some, regB_some, branch_bool, sel_true, sel_false, wanted_none, wanted_some, asB, mk_put, mk_put_none, arg_tmp, arg_const, arg_func, arg_global, upd_same, upd_ne, evPure, evArgs, m_load, m_store, m_alloc, m_box, m_call, m_lookup, m_mapUpdate, m_inv, evLoad, readCells, evFieldAddr, evIndexAddr, asIdx, ofValue, isPure, evBin, ib_lss, ib_leq, ib_gtr, ib_geq, ib_eql, ib_neq, evUn, leave_normal, leave_ret, finish, then_normal, then_exit, then_ret, close_normal, close_exit, close_ret, evConv, mk_marks, dropMarks, resOf, resList, mk_getD, argF, List.getD_cons_zero, List.getD_cons_succ, V.cells, evLen, kdOp, kdOf, readsOf, protS, eq_bool, eq_nil28, evStore, V.oneCell, putElem, splice, -List.getD_eq_getElem?_getD, -getElem?_pos, und55, und53, und22, size3, size53, size58, size22, ty3, ty4, ty53, ty58, ty22, g0, g3, k0, k3, l0, l3, size4, ty4]
      exact .one (hQ true _ (((hset _).set (Nat.le_refl _) _).set (by omega) _) hc)
    | false =>
      rw [after_exit hlp hnb (free _ (by omega)) hpe]
      have l3 : ∀ x : St, x.base = st4.base → x.prot = st4.prot → x.locked (st.store.length + 3) = false := fun x h1 h2 => by
        rw [← f3]; unfold St.locked; rw [h1, h2]
      have k0 : ∀ o q, ((st4.store.set (st.store.length + 4) o).set (st.store.length + 3) q)[st.store.length]? = some (.box [.bool false]) := fun o q => by
        rw [List.getElem?_set_ne (by omega)]; exact g0 o
      simp [g22_18, g22_19, g22_20, l22_19, steps_nil, steps_cons, draws_nil, draws_cons, step_mk, stepB_some, stepB_none, memB_mk, thenS_some, regB_some, branch_bool, sel_true, sel_false, wanted_none, wanted_some, asB, mk_put, mk_put_none, arg_tmp, arg_const, arg_func, arg_global, upd_same, upd_ne, evPure, evArgs, m_load, m_store, m_alloc, m_box, m_call, m_lookup, m_mapUpdate, m_inv, evLoad, readCells, evFieldAddr, evIndexAddr, asIdx, ofValue, isPure, evBin, ib_lss, ib_leq, ib_gtr, ib_geq, ib_eql, ib_neq, evUn, leave_normal, leave_ret, finish, then_normal, then_exit, then_ret, close_normal, close_exit, close_ret, evConv, mk_marks, dropMarks, resOf, resList, mk_getD, argF, List.getD_cons_zero, List.getD_cons_succ, V.cells, evLen, kdOp, kdOf, readsOf, protS, eq_bool, eq_nil28, evStore, V.oneCell, putElem, splice, -List.getD_eq_getElem?_getD, -getElem?_pos, und55, und53, und22, size3, size53, size58, size22, ty3, ty4, ty53, ty58, ty22, g0, g3, k0, l3, size4, ty4, run_ret]
      exact .one (hQ false _ ((hset _).set (by omega) _) hc)

/-- The loop's state behind the call: what was there lies there still; the answer's box, the block of deferred calls, the loop. -/
structure apartSt (st st4 : St) (bx ds l : Nat) (c : Bool) : Prop where
  grow : Grows st st4
  box : st4.store[bx]? = some (.box [.bool false])
  defs : st4.store[ds]? = some .defs
  loop : ∃ lp, st4.store[l]? = some (.loop lp) ∧ lp.state ≠ .busy ∧ lp.pending = (if c then none else some .ret)
theorem apart_pairs (st : St) (hok : okSt st) (ra rb rva rvb ma mb M : Nat) (S S' : Nat → Bool) (hA : SetAt st ra rva ma S) (hB : SetAt st rb rvb mb S') (hM : max (nw ma) (nw mb) = M) (F : Nat → V) (h4 : F 4 = .ptr st.store.length 0) (st3 : St)
    (h3 : st3 = enterSt { st with store := st.store ++ [.box [.bool false], .box [.ptr ra 0], .box [.ptr rb 0]] } (loop0 (mk 16 F []).tmps #[10, 11] c23_7 c23_10 (st.store.length + 3))) :
    Ret (fun v st4 => ∃ c : Bool, apartSt st st4 st.store.length (st.store.length + 3) (st.store.length + 4) c ∧ (c = true ↔ ∀ k, k < M → (let x := wd S k; let y := wd S' k; ((x &&& y) == 0) = true))) ((run tb).call 45 [.func (.yield (st.store.length + 4)) [] [], .ptr (st.store.length + 1) 0, .ptr (st.store.length + 2) 0] st3) := by
  have hst : st3.store = st.store ++ [.box [.bool false], .box [.ptr ra 0], .box [.ptr rb 0], .defs, .loop (loop0 (mk 16 F []).tmps #[10, 11] c23_7 c23_10 (st.store.length + 3))] := by rw [h3]; simp [enterSt]
  have hg : Grows st st3 := by
    refine ⟨by rw [h3]; rfl, by rw [h3]; rfl, by rw [hst]; simp, fun i hi => ?_⟩
    rw [hst, List.getElem?_append_left hi]
  have g0 : st3.store[st.store.length]? = some (.box [.bool false]) := by rw [hst, List.getElem?_append_right (by omega)]; simp
  have g1 : st3.store[st.store.length + 1]? = some (.box [.ptr ra 0]) := by rw [hst, List.getElem?_append_right (by omega)]; simp
  have g2 : st3.store[st.store.length + 2]? = some (.box [.ptr rb 0]) := by rw [hst, List.getElem?_append_right (by omega)]; simp
  have g3 : st3.store[st.store.length + 3]? = some .defs := by rw [hst, List.getElem?_append_right (by omega)]; simp
  have g4 : st3.store[st.store.length + 4]? = some (.loop (loop0 (mk 16 F []).tmps #[10, 11] c23_7 c23_10 (st.store.length + 3))) := by rw [hst, List.getElem?_append_right (by omega)]; simp
  have free : ∀ i, st.store.length ≤ i → Free st3 i := fun i hi => ⟨by rw [hg.base]; exact Nat.le_trans hok.1 hi, by rw [hg.prot]; exact fun hm => by have := hok.2 _ hm; omega⟩
  have hA' := hA.grow hg
  have hB' := hB.grow hg
  clear h3
  rcases first_false M (fun k => let x := wd S k; let y := wd S' k; ((x &&& y) == 0)) with hall | ⟨K, hK, hf, hbef⟩
  · have := pairs_run st3 st3 (st.store.length + 4) _ _ ra rb rva rvb ma mb M M S S' g1 g2 hA' hB' hM rfl (Nat.le_refl _) (fun k hk => apart_round _ _ F st3 _ _ (wd_lt S k) (wd_lt S' k) (free _ (by omega)) g4 (hall k hk)) (fun h => absurd h (Nat.lt_irrefl _)) (fun _ => rfl)
    rw [this]
    exact .one ⟨true, ⟨hg, g0, g3, _, g4, by simp [loop0], rfl⟩, by simpa using hall⟩
  · have := pairs_run st3 { st3 with store := st3.store.set (st.store.length + 4) (.loop { (loop0 (mk 16 F []).tmps #[10, 11] c23_7 c23_10 (st.store.length + 3)) with state := .done, pending := some .ret }) } (st.store.length + 4) _ _ ra rb rva rvb ma mb M K S S' g1 g2 hA' hB' hM rfl (Nat.le_of_lt hK) (fun k hk => apart_round _ _ F st3 _ _ (wd_lt S k) (wd_lt S' k) (free _ (by omega)) g4 (hbef k hk)) (fun _ => apart_stop _ _ _ F st3 _ _ (wd_lt S K) (wd_lt S' K) (free _ (by omega)) g4 hf h4 (free _ (by omega)) g0) (fun h => by omega)
    rw [this]
    refine .one ⟨false, ⟨hg.set (by omega) _, ?_, ?_, ?_⟩, ?_⟩
    · show (st3.store.set _ _)[_]? = _
      rw [List.getElem?_set_ne (by omega)]; exact g0
    · show (st3.store.set _ _)[_]? = _
      rw [List.getElem?_set_ne (by omega)]; exact g3
    · refine ⟨{ (loop0 (mk 16 F []).tmps #[10, 11] c23_7 c23_10 (st.store.length + 3)) with state := .done, pending := some .ret }, ?_, ?_, rfl⟩
      · show (st3.store.set _ _)[_]? = _
        rw [List.getElem?_set_self (lt_of_at g4)]
      · simp
    · constructor
      · intro h; cases h
      · intro h
        have h2 : false = true := hf.symm.trans (h K hK)
        cases h2
theorem apart_calls (st : St) (hok : okSt st) (ra rb rva rvb ma mb M : Nat) (S S' : Nat → Bool) (hA : SetAt st ra rva ma S) (hB : SetAt st rb rvb mb S') (hM : max (nw ma) (nw mb) = M) {Q : V → St → Prop} (hQ : ∀ c st4, Grows st st4 → (c = true ↔ ∀ k, k < M → (let x := wd S k; let y := wd S' k; ((x &&& y) == 0) = true)) → Q (.bool c) st4) :
    Ret Q ((run tb).call 23 [.ptr ra 0, .ptr rb 0] st) := by
  have hp := fun st => pairs_mk st ra rb
  rw [run23 (by simp)]
  simp [g23_0, g23_1, g23_2, g23_3, g23_4, g23_5, g23_6, l23_1, l23_4, steps_nil, steps_cons, draws_nil, draws_cons, step_mk, stepB_some, stepB_none, memB_mk, thenS_some, regB_some, branch_bool, sel_true, sel_false, wanted_none, wanted_some, asB, mk_put, mk_put_none, arg_tmp, arg_const, arg_func, arg_global, upd_same, upd_ne, evPure, evArgs, m_load, m_store, m_alloc, m_box, m_call, m_lookup, m_mapUpdate, m_inv, evLoad, readCells, evFieldAddr, evIndexAddr, asIdx, ofValue, isPure, evBin, ib_lss, ib_leq, ib_gtr, ib_geq, ib_eql, ib_neq, evUn, leave_normal, leave_ret, finish, then_normal, then_exit, then_ret, close_normal, close_exit, close_ret, evConv, mk_marks, dropMarks, resOf, resList, mk_getD, argF, List.getD_cons_zero, List.getD_cons_succ, V.cells, evLen, kdOp, kdOf, readsOf, protS, eq_bool, eq_nil28, evStore, V.oneCell, putElem, splice, -List.getD_eq_getElem?_getD, -getElem?_pos, und55, und53, und22, size3, size53, size58, size22, ty3, ty4, ty53, ty58, ty22, hp, range_inv, St.new, ty4]
  refine Ret.use (C := fun o => Ret _ (leave tb _ (andThen (closeB 0 (afterRange tb none _ _ o)) _))) (apart_pairs st hok ra rb rva rvb ma mb M S S' hA hB hM _ ?_ _ rfl) ?_
  · simp [upd_same, upd_ne]
  · rintro v st4 ⟨c, ⟨hg, hbx, hds, lp, hlp, hnb, hpe⟩, hc⟩
    have free : ∀ i, st.store.length ≤ i → st4.locked i = false := fun i hi => by
      have h1 : ¬ i < st4.base := by rw [hg.base]; have := hok.1; omega
      have h2 : ¬ i ∈ st4.prot := by rw [hg.prot]; exact fun hm => by have := hok.2 _ hm; omega
      simp [St.locked, h1, h2]
    have f0 := free st.store.length (by omega)
    have f3 := free (st.store.length + 3) (by omega)
    have g0 : ∀ o, (st4.store.set (st.store.length + 4) o)[st.store.length]? = some (.box [.bool false]) := fun o => by rw [List.getElem?_set_ne (by omega)]; exact hbx
    have g3 : ∀ o, (st4.store.set (st.store.length + 4) o)[st.store.length + 3]? = some .defs := fun o => by rw [List.getElem?_set_ne (by omega)]; exact hds
    have hset := hg.set (i := st.store.length + 4) (by omega)
    cases c with
    | true =>
      rw [after_normal hlp hnb (free _ (by omega)) hpe]
      have k3 : ∀ o p, ((st4.store.set (st.store.length + 4) o).set st.store.length p)[st.store.length + 3]? = some .defs := fun o p => by rw [List.getElem?_set_ne (by omega)]; exact g3 o
      have k0 : ∀ o p q, (((st4.store.set (st.store.length + 4) o).set st.store.length p).set (st.store.length + 3) q)[st.store.length]? = some p := fun o p q => by
        rw [List.getElem?_set_ne (by omega), List.getElem?_set_self (lt_of_at (g0 o))]
      have l0 : ∀ x : St, x.base = st4.base → x.prot = st4.prot → x.locked st.store.length = false := fun x h1 h2 => by
        rw [← f0]; unfold St.locked; rw [h1, h2]
      have l3 : ∀ x : St, x.base = st4.base → x.prot = st4.prot → x.locked (st.store.length + 3) = false := fun x h1 h2 => by
        rw [← f3]; unfold St.locked; rw [h1, h2]
      simp [g23_18, g23_19, g23_20, l23_19, steps_nil, steps_cons, draws_nil, draws_cons, step_mk, stepB_some, stepB_none, memB_mk, thenS_some, regB_some, branch_bool, sel_true, sel_false, wanted_none, wanted_some, asB, mk_put, mk_put_none, arg_tmp, arg_const, arg_func, arg_global, upd_same, upd_ne, evPure, evArgs, m_load, m_store, m_alloc, m_box, m_call, m_lookup, m_mapUpdate, m_inv, evLoad, readCells, evFieldAddr, evIndexAddr, asIdx, ofValue, isPure, evBin, ib_lss, ib_leq, ib_gtr, ib_geq, ib_eql, ib_neq, evUn, leave_normal, leave_ret, finish, then_normal, then_exit, then_ret, close_normal, close_exit, close_ret, evConv, mk_marks, dropMarks, resOf, resList, mk_getD, argF, List.getD_cons_zero, List.getD_cons_succ, V.cells, evLen, kdOp, kdOf, readsOf, protS, eq_bool, eq_nil28, evStore, V.oneCell, putElem, splice, -List.getD_eq_getElem?_getD, -getElem?_pos, und55, und53, und22, size3, size53, size58, size22, ty3, ty4, ty53, ty58, ty22, g0, g3, k0, k3, l0, l3, size4, ty4]
      exact .one (hQ true _ (((hset _).set (Nat.le_refl _) _).set (by omega) _) hc)
    | false =>
      rw [after_exit hlp hnb (free _ (by omega)) hpe]
      have l3 : ∀ x : St, x.base = st4.base → x.prot = st4.prot → x.locked (st.store.length + 3) = false := fun x h1 h2 => by
        rw [← f3]; unfold St.locked; rw [h1, h2]
      have k0 : ∀ o q, ((st4.store.set (st.store.length + 4) o).set (st.store.length + 3) q)[st.store.length]? = some (.box [.bool false]) := fun o q => by
        rw [List.getElem?_set_ne (by omega)]; exact g0 o
      simp [g23_18, g23_19, g23_20, l23_19, steps_nil, steps_cons, draws_nil, draws_cons, step_mk, stepB_some, stepB_none, memB_mk, thenS_some, regB_some, branch_bool, sel_true, sel_false, wanted_none, wanted_some, asB, mk_put, mk_put_none, arg_tmp, arg_const, arg_func, arg_global, upd_same, upd_ne, evPure, evArgs, m_load, m_store, m_alloc, m_box, m_call, m_lookup, m_mapUpdate, m_inv, evLoad, readCells, evFieldAddr, evIndexAddr, asIdx, ofValue, isPure, evBin, ib_lss, ib_leq, ib_gtr, ib_geq, ib_eql, ib_neq, evUn, leave_normal, leave_ret, finish, then_normal, then_exit, then_ret, close_normal, close_exit, close_ret, evConv, mk_marks, dropMarks, resOf, resList, mk_getD, argF, List.getD_cons_zero, List.getD_cons_succ, V.cells, evLen, kdOp, kdOf, readsOf, protS, eq_bool, eq_nil28, evStore, V.oneCell, putElem, splice, -List.getD_eq_getElem?_getD, -getElem?_pos, und55, und53, und22, size3, size53, size58, size22, ty3, ty4, ty53, ty58, ty22, g0, g3, k0, l3, size4, ty4, run_ret]
      exact .one (hQ false _ ((hset _).set (by omega) _) hc)
end Go.Proofs.YtgknieohkniojaaDoor
namespace Go.Proofs.YtgknieohkniojaaDoor
open Go.Abs
set_option maxRecDepth 100000
set_option linter.unusedSimpArgs false
set_option linter.unusedVariables false
set_option maxHeartbeats 4000000
theorem inS_nat' (S : Nat → Bool) (k : Nat) : inS S (k : Int) = S k := by simp [inS]
theorem Grows.ok {st st' : St} (h : okSt st) (g : Grows st st') : okSt st' := ⟨by rw [g.base]; exact Nat.le_trans h.1 g.len, fun r hr => by rw [g.prot] at hr; exact Nat.lt_of_lt_of_le (h.2 r hr) g.len⟩
theorem newSt_grows (st : St) (b : Nat) (S : Nat → Bool) : Grows st (newSt st b S) := (Grows.refl st).app _
theorem wd_iff {M a b : Nat} {S S' : Nat → Bool} (hM : max (nw a) (nw b) = M) (hz : ∀ i, a ≤ i → S i = false) (hz' : ∀ i, b ≤ i → S' i = false) : (∀ k, k < M → (wd S k == wd S' k) = true) ↔ ∀ i, S i = S' i := by
  constructor
  · intro h i
    by_cases hi : i / 64 < M
    · have h1 := h _ hi
      simp only [beq_iff_eq] at h1
      have h2 : (wd S (i / 64)).testBit (i % 64) = (wd S' (i / 64)).testBit (i % 64) := by rw [h1]
      rw [wd_testBit, wd_testBit] at h2
      have e : 64 * (i / 64) + i % 64 = i := by omega
      rw [e] at h2
      simpa [Nat.mod_lt] using h2
    · rw [hz i (by unfold nw at hM; omega), hz' i (by unfold nw at hM; omega)]
  · intro h k _
    simp only [beq_iff_eq]
    exact wd_eq fun j _ => h _
theorem wd_apart {M a b : Nat} {S S' : Nat → Bool} (hM : max (nw a) (nw b) = M) (hz : ∀ i, a ≤ i → S i = false) (hz' : ∀ i, b ≤ i → S' i = false) : (∀ k, k < M → ((wd S k &&& wd S' k) == 0) = true) ↔ ∀ i, (S i && S' i) = false := by
  constructor
  · intro h i
    by_cases hi : i / 64 < M
    · have h1 := h _ hi
      simp only [beq_iff_eq] at h1
      have h2 : (wd S (i / 64) &&& wd S' (i / 64)).testBit (i % 64) = false := by rw [h1]; simp
      rw [Nat.testBit_and, wd_testBit, wd_testBit] at h2
      have e : 64 * (i / 64) + i % 64 = i := by omega
      rw [e] at h2
      simpa [Nat.mod_lt] using h2
    · rw [hz i (by unfold nw at hM; omega)]; rfl
  · intro h k _
    simp only [beq_iff_eq]
    apply eq_of_bits64 (Nat.lt_of_le_of_lt Nat.and_le_left (wd_lt _ _)) (by decide)
    intro j hj
    rw [Nat.testBit_and, wd_testBit, wd_testBit]
    have := h (64 * k + j)
    simp [hj, this]
theorem same_eq (st : St) (hok : okSt st) (ra rb rva rvb ma mb : Nat) (S S' : Nat → Bool) (hA : SetAt st ra rva ma S) (hB : SetAt st rb rvb mb S') (c : Bool) (hc : c = true ↔ ∀ i, S i = S' i) :
    ∃ st', (run tb).call 22 [.ptr ra 0, .ptr rb 0] st = some (.bool c, st') ∧ Grows st st' := by
  have h := same_calls st hok ra rb rva rvb ma mb _ S S' hA hB rfl (Q := fun v st' => v = .bool c ∧ Grows st st') (fun c' st4 hg h => ⟨by
    have h' : c' = true ↔ c = true := by rw [h, hc]; exact wd_iff rfl hA.hz hB.hz
    cases c <;> cases c' <;> simp_all, hg⟩)
  obtain ⟨v, st', h1, rfl, h3⟩ := h
  exact ⟨st', h1, h3⟩
theorem apart_eq (st : St) (hok : okSt st) (ra rb rva rvb ma mb : Nat) (S S' : Nat → Bool) (hA : SetAt st ra rva ma S) (hB : SetAt st rb rvb mb S') (c : Bool) (hc : c = true ↔ ∀ i, (S i && S' i) = false) :
    ∃ st', (run tb).call 23 [.ptr ra 0, .ptr rb 0] st = some (.bool c, st') ∧ Grows st st' := by
  have h := apart_calls st hok ra rb rva rvb ma mb _ S S' hA hB rfl (Q := fun v st' => v = .bool c ∧ Grows st st') (fun c' st4 hg h => ⟨by
    have h' : c' = true ↔ c = true := by rw [h, hc]; exact wd_apart rfl hA.hz hB.hz
    cases c <;> cases c' <;> simp_all, hg⟩)
  obtain ⟨v, st', h1, rfl, h3⟩ := h
  exact ⟨st', h1, h3⟩
def allB (p : Nat → Bool) : Nat → Bool
  | 0 => true
  | n + 1 => allB p n && p n
theorem allB_iff (p : Nat → Bool) : ∀ n, allB p n = true ↔ ∀ i, i < n → p i = true
  | 0 => by simp [allB]
  | n + 1 => by
    simp only [allB, Bool.and_eq_true, allB_iff p n]
    constructor
    · rintro ⟨h1, h2⟩ i hi
      by_cases e : i = n
      · subst e; exact h2
      · exact h1 i (by omega)
    · intro h; exact ⟨fun i hi => h i (by omega), h n (by omega)⟩
theorem cnt_zero {S : Nat → Bool} : ∀ {n : Nat}, cnt S n = 0 → ∀ i, i < n → S i = false
  | 0, _, i, hi => absurd hi (Nat.not_lt_zero _)
  | n + 1, h, i, hi => by
    simp only [cnt] at h
    by_cases e : i = n
    · subst e
      cases hs : S i with
      | false => rfl
      | true => rw [hs] at h; simp at h
    · have h' : cnt S n = 0 := by omega
      exact cnt_zero h' i (by omega)
end Go.Proofs.YtgknieohkniojaaDoor
