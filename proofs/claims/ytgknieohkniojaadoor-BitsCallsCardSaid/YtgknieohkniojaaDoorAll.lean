/- The parts of the functions: names for the places of their code. The walks: the lowest one, a clone of words, all numbers of a set. -/
import Derived.Test.YtgknieohkniojaaDoorSet
import Derived.Test.YtgknieohkniojaaDoorFwF
import Derived.Test.YtgknieohkniojaaDoorPairs
import Derived.Lib.TrailingZeros
set_option linter.unusedVariables false
set_option linter.unusedSimpArgs false
set_option linter.unnecessarySimpa false
set_option linter.all false
namespace Go.Proofs.YtgknieohkniojaaDoor
open Go.Abs
set_option maxRecDepth 1000000
set_option linter.unusedSimpArgs false
variable {rd : Option Nat} {f : Nat → V} {m : List Nat} {st : St}
noncomputable def c14_0 : Code := bodyOf Tryd.f14
theorem b14 : Tryd.f14.body = some c14_0 := rfl
theorem n14 : Tryd.f14.ntmps = 14 := rfl
theorem r14 : Tryd.f14.results = #[.tmp 2] := rfl
theorem fn14 : tb.fn 14 = some Tryd.f14 := by rw [tb_eq]; exact Tryd.func14
theorem run14 {args : List V} {st : St} (ha : args.length ≤ 14) : (run tb).call 14 args st = leave tb [.tmp 2] ((run tb).code none c14_0 (mk 14 (argF args) []) st) := call_run fn14 (tbmode 14) b14 n14 r14 ha
noncomputable def c14_1 : Code := kid c14_0 0
noncomputable def c14_2 : Code := kid c14_0 1
noncomputable def c14_3 : Code := kid c14_2 0
noncomputable def c14_4 : Code := kid c14_2 1
noncomputable def c14_5 : Code := kid c14_4 0
noncomputable def c14_6 : Code := kid c14_5 0
noncomputable def c14_7 : Code := kid c14_5 1
noncomputable def c14_8 : Code := kid c14_7 0
noncomputable def c14_9 : Code := kid c14_8 0
noncomputable def c14_10 : Code := kid c14_8 1
noncomputable def c14_11 : Code := kid c14_10 0
noncomputable def c14_12 : Code := kid c14_4 1
noncomputable def c14_13 : Code := kid c14_12 0
noncomputable def c14_14 : Code := kid c14_12 1
noncomputable def o14_1 : Array Oper := opsOf (kid (bodyOf Tryd.f14) 0)
noncomputable def o14_3 : Array Oper := opsOf (kid (kid (bodyOf Tryd.f14) 1) 0)
noncomputable def o14_6 : Array Oper := opsOf (kid (kid (kid (kid (bodyOf Tryd.f14) 1) 1) 0) 0)
noncomputable def o14_9 : Array Oper := opsOf (kid (kid (kid (kid (kid (kid (bodyOf Tryd.f14) 1) 1) 0) 1) 0) 0)
noncomputable def o14_11 : Array Oper := opsOf (kid (kid (kid (kid (kid (kid (kid (bodyOf Tryd.f14) 1) 1) 0) 1) 0) 1) 0)
noncomputable def o14_13 : Array Oper := opsOf (kid (kid (kid (kid (bodyOf Tryd.f14) 1) 1) 1) 0)
theorem e14_0 : c14_0 = .seq c14_1 c14_2 := rfl
theorem e14_1 : c14_1 = .region 0 o14_1 false := rfl
theorem e14_2 : c14_2 = .seq c14_3 c14_4 := rfl
theorem e14_3 : c14_3 = .region 1 o14_3 false := rfl
theorem e14_4 : c14_4 = .seq c14_5 c14_12 := rfl
theorem e14_5 : c14_5 = .seq c14_6 c14_7 := rfl
theorem e14_6 : c14_6 = .region 2 o14_6 false := rfl
theorem e14_7 : c14_7 = .block 0 c14_8 := rfl
theorem e14_8 : c14_8 = .rangeFunc (.tmp 7) #[8] c14_9 c14_10 := rfl
theorem e14_9 : c14_9 = .region 3 o14_9 false := rfl
theorem e14_10 : c14_10 = .block 1 c14_11 := rfl
theorem e14_11 : c14_11 = .region 4 o14_11 false := rfl
theorem e14_12 : c14_12 = .seq c14_13 c14_14 := rfl
theorem e14_13 : c14_13 = .region 5 o14_13 false := rfl
theorem e14_14 : c14_14 = .ret := rfl
theorem g14_0 : (run tb).code rd c14_0 (mk 14 f m) st = andThen ((run tb).code rd c14_1 (mk 14 f m) st) (fun fr st => (run tb).code rd c14_2 fr st) := gx_seq e14_0
noncomputable def l14_1 : { l : List Step // lightOf o14_1 = l } := by refine ⟨?_, ?h⟩; case h => simp only [lightOf, o14_1, opsOf, kid, bodyOf, Tryd.f14, Option.getD_some, List.map, stepOf, Option.map, List.getElem?_toArray, List.getElem?_cons_succ, List.getElem?_cons_zero, Option.bind_some]; rfl
theorem g14_1 : (run tb).code rd c14_1 (mk 14 f m) st = regB (evSteps tb (run tb) l14_1.1 (mk 14 f m) st) := gx_region e14_1 l14_1.2
theorem g14_2 : (run tb).code rd c14_2 (mk 14 f m) st = andThen ((run tb).code rd c14_3 (mk 14 f m) st) (fun fr st => (run tb).code rd c14_4 fr st) := gx_seq e14_2
noncomputable def l14_3 : { l : List Step // lightOf o14_3 = l } := by refine ⟨?_, ?h⟩; case h => simp only [lightOf, o14_3, opsOf, kid, bodyOf, Tryd.f14, Option.getD_some, List.map, stepOf, Option.map, List.getElem?_toArray, List.getElem?_cons_succ, List.getElem?_cons_zero, Option.bind_some]; rfl
theorem g14_3 : (run tb).code rd c14_3 (mk 14 f m) st = regB (evSteps tb (run tb) l14_3.1 (mk 14 f m) st) := gx_region e14_3 l14_3.2
theorem g14_4 : (run tb).code rd c14_4 (mk 14 f m) st = andThen ((run tb).code rd c14_5 (mk 14 f m) st) (fun fr st => (run tb).code rd c14_12 fr st) := gx_seq e14_4
theorem g14_5 : (run tb).code rd c14_5 (mk 14 f m) st = andThen ((run tb).code rd c14_6 (mk 14 f m) st) (fun fr st => (run tb).code rd c14_7 fr st) := gx_seq e14_5
noncomputable def l14_6 : { l : List Step // lightOf o14_6 = l } := by refine ⟨?_, ?h⟩; case h => simp only [lightOf, o14_6, opsOf, kid, bodyOf, Tryd.f14, Option.getD_some, List.map, stepOf, Option.map, List.getElem?_toArray, List.getElem?_cons_succ, List.getElem?_cons_zero, Option.bind_some]; rfl
theorem g14_6 : (run tb).code rd c14_6 (mk 14 f m) st = regB (evSteps tb (run tb) l14_6.1 (mk 14 f m) st) := gx_region e14_6 l14_6.2
theorem g14_7 : (run tb).code rd c14_7 (mk 14 f m) st = closeB 0 ((run tb).code rd c14_8 (mk 14 f m) st) := gx_block e14_7
theorem g14_8 : (run tb).code none c14_8 (mk 14 f m) st = rangeB tb (f 7) 14 f m #[8] c14_9 c14_10 st := gx_range e14_8 (by decide)
noncomputable def l14_9 : { l : List Step // lightOf o14_9 = l } := by refine ⟨?_, ?h⟩; case h => simp only [lightOf, o14_9, opsOf, kid, bodyOf, Tryd.f14, Option.getD_some, List.map, stepOf, Option.map, List.getElem?_toArray, List.getElem?_cons_succ, List.getElem?_cons_zero, Option.bind_some]; rfl
theorem g14_9 : (run tb).code rd c14_9 (mk 14 f m) st = regB (evSteps tb (run tb) l14_9.1 (mk 14 f m) st) := gx_region e14_9 l14_9.2
theorem g14_10 : (run tb).code rd c14_10 (mk 14 f m) st = closeB 1 ((run tb).code rd c14_11 (mk 14 f m) st) := gx_block e14_10
noncomputable def l14_11 : { l : List Step // lightOf o14_11 = l } := by refine ⟨?_, ?h⟩; case h => simp only [lightOf, o14_11, opsOf, kid, bodyOf, Tryd.f14, Option.getD_some, List.map, stepOf, Option.map, List.getElem?_toArray, List.getElem?_cons_succ, List.getElem?_cons_zero, Option.bind_some]; rfl
theorem g14_11 : (run tb).code rd c14_11 (mk 14 f m) st = regB (evSteps tb (run tb) l14_11.1 (mk 14 f m) st) := gx_region e14_11 l14_11.2
theorem g14_12 : (run tb).code rd c14_12 (mk 14 f m) st = andThen ((run tb).code rd c14_13 (mk 14 f m) st) (fun fr st => (run tb).code rd c14_14 fr st) := gx_seq e14_12
noncomputable def l14_13 : { l : List Step // lightOf o14_13 = l } := by refine ⟨?_, ?h⟩; case h => simp only [lightOf, o14_13, opsOf, kid, bodyOf, Tryd.f14, Option.getD_some, List.map, stepOf, Option.map, List.getElem?_toArray, List.getElem?_cons_succ, List.getElem?_cons_zero, Option.bind_some]; rfl
theorem g14_13 : (run tb).code rd c14_13 (mk 14 f m) st = regB (evSteps tb (run tb) l14_13.1 (mk 14 f m) st) := gx_region e14_13 l14_13.2
theorem g14_14 : (run tb).code rd c14_14 (mk 14 f m) st = some (.ret, mk 14 f m, st) := gx_ret e14_14
noncomputable def c27_0 : Code := bodyOf Tryd.f27
theorem b27 : Tryd.f27.body = some c27_0 := rfl
theorem n27 : Tryd.f27.ntmps = 4 := rfl
theorem r27 : Tryd.f27.results = #[.tmp 2] := rfl
theorem fn27 : tb.fn 27 = some Tryd.f27 := by rw [tb_eq]; exact Tryd.func27
theorem run27 {args : List V} {st : St} (ha : args.length ≤ 4) : (run tb).call 27 args st = leave tb [.tmp 2] ((run tb).code none c27_0 (mk 4 (argF args) []) st) := call_run fn27 (tbmode 27) b27 n27 r27 ha
noncomputable def c27_1 : Code := kid c27_0 0
noncomputable def c27_2 : Code := kid c27_0 1
noncomputable def c27_3 : Code := kid c27_2 0
noncomputable def c27_4 : Code := kid c27_2 1
noncomputable def o27_1 : Array Oper := opsOf (kid (bodyOf Tryd.f27) 0)
noncomputable def o27_3 : Array Oper := opsOf (kid (kid (bodyOf Tryd.f27) 1) 0)
theorem e27_0 : c27_0 = .seq c27_1 c27_2 := rfl
theorem e27_1 : c27_1 = .region 0 o27_1 false := rfl
theorem e27_2 : c27_2 = .seq c27_3 c27_4 := rfl
theorem e27_3 : c27_3 = .region 1 o27_3 false := rfl
theorem e27_4 : c27_4 = .ret := rfl
theorem g27_0 : (run tb).code rd c27_0 (mk 4 f m) st = andThen ((run tb).code rd c27_1 (mk 4 f m) st) (fun fr st => (run tb).code rd c27_2 fr st) := gx_seq e27_0
noncomputable def l27_1 : { l : List Step // lightOf o27_1 = l } := by refine ⟨?_, ?h⟩; case h => simp only [lightOf, o27_1, opsOf, kid, bodyOf, Tryd.f27, Option.getD_some, List.map, stepOf, Option.map, List.getElem?_toArray, List.getElem?_cons_succ, List.getElem?_cons_zero, Option.bind_some]; rfl
theorem g27_1 : (run tb).code rd c27_1 (mk 4 f m) st = regB (evSteps tb (run tb) l27_1.1 (mk 4 f m) st) := gx_region e27_1 l27_1.2
theorem g27_2 : (run tb).code rd c27_2 (mk 4 f m) st = andThen ((run tb).code rd c27_3 (mk 4 f m) st) (fun fr st => (run tb).code rd c27_4 fr st) := gx_seq e27_2
noncomputable def l27_3 : { l : List Step // lightOf o27_3 = l } := by refine ⟨?_, ?h⟩; case h => simp only [lightOf, o27_3, opsOf, kid, bodyOf, Tryd.f27, Option.getD_some, List.map, stepOf, Option.map, List.getElem?_toArray, List.getElem?_cons_succ, List.getElem?_cons_zero, Option.bind_some]; rfl
theorem g27_3 : (run tb).code rd c27_3 (mk 4 f m) st = regB (evSteps tb (run tb) l27_3.1 (mk 4 f m) st) := gx_region e27_3 l27_3.2
theorem g27_4 : (run tb).code rd c27_4 (mk 4 f m) st = some (.ret, mk 4 f m, st) := gx_ret e27_4
noncomputable def c40_0 : Code := bodyOf Tryd.f40
theorem b40 : Tryd.f40.body = some c40_0 := rfl
theorem n40 : Tryd.f40.ntmps = 31 := rfl
theorem r40 : Tryd.f40.results = #[] := rfl
theorem fn40 : tb.fn 40 = some Tryd.f40 := by rw [tb_eq]; exact Tryd.func40
theorem run40 {args : List V} {st : St} (ha : args.length ≤ 31) : (run tb).call 40 args st = leave tb [] ((run tb).code none c40_0 (mk 31 (argF args) []) st) := call_run fn40 (tbmode 40) b40 n40 r40 ha
noncomputable def c40_1 : Code := kid c40_0 0
noncomputable def c40_2 : Code := kid c40_0 1
noncomputable def c40_3 : Code := kid c40_2 0
noncomputable def c40_4 : Code := kid c40_3 0
noncomputable def c40_5 : Code := kid c40_4 0
noncomputable def c40_6 : Code := kid c40_4 1
noncomputable def c40_7 : Code := kid c40_6 0
noncomputable def c40_8 : Code := kid c40_7 0
noncomputable def c40_9 : Code := kid c40_7 1
noncomputable def c40_10 : Code := kid c40_6 1
noncomputable def c40_11 : Code := kid c40_10 0
noncomputable def c40_12 : Code := kid c40_11 0
noncomputable def c40_13 : Code := kid c40_12 0
noncomputable def c40_14 : Code := kid c40_12 1
noncomputable def c40_15 : Code := kid c40_14 0
noncomputable def c40_16 : Code := kid c40_15 0
noncomputable def c40_17 : Code := kid c40_16 0
noncomputable def c40_18 : Code := kid c40_17 0
noncomputable def c40_19 : Code := kid c40_17 1
noncomputable def c40_20 : Code := kid c40_19 0
noncomputable def c40_21 : Code := kid c40_19 1
noncomputable def c40_22 : Code := kid c40_16 1
noncomputable def c40_23 : Code := kid c40_22 0
noncomputable def c40_24 : Code := kid c40_23 0
noncomputable def c40_25 : Code := kid c40_24 0
noncomputable def c40_26 : Code := kid c40_24 1
noncomputable def c40_27 : Code := kid c40_26 0
noncomputable def c40_28 : Code := kid c40_26 1
noncomputable def c40_29 : Code := kid c40_22 1
noncomputable def c40_30 : Code := kid c40_10 1
noncomputable def o40_1 : Array Oper := opsOf (kid (bodyOf Tryd.f40) 0)
noncomputable def o40_5 : Array Oper := opsOf (kid (kid (kid (kid (bodyOf Tryd.f40) 1) 0) 0) 0)
noncomputable def o40_13 : Array Oper := opsOf (kid (kid (kid (kid (kid (kid (kid (kid (bodyOf Tryd.f40) 1) 0) 0) 1) 1) 0) 0) 0)
noncomputable def o40_18 : Array Oper := opsOf (kid (kid (kid (kid (kid (kid (kid (kid (kid (kid (kid (kid (bodyOf Tryd.f40) 1) 0) 0) 1) 1) 0) 0) 1) 0) 0) 0) 0)
noncomputable def o40_25 : Array Oper := opsOf (kid (kid (kid (kid (kid (kid (kid (kid (kid (kid (kid (kid (kid (kid (bodyOf Tryd.f40) 1) 0) 0) 1) 1) 0) 0) 1) 0) 0) 1) 0) 0) 0)
noncomputable def o40_29 : Array Oper := opsOf (kid (kid (kid (kid (kid (kid (kid (kid (kid (kid (kid (kid (bodyOf Tryd.f40) 1) 0) 0) 1) 1) 0) 0) 1) 0) 0) 1) 1)
noncomputable def o40_30 : Array Oper := opsOf (kid (kid (kid (kid (kid (kid (bodyOf Tryd.f40) 1) 0) 0) 1) 1) 1)
theorem e40_0 : c40_0 = .seq c40_1 c40_2 := rfl
theorem e40_1 : c40_1 = .region 0 o40_1 false := rfl
theorem e40_2 : c40_2 = .block 0 c40_3 := rfl
theorem e40_3 : c40_3 = .loop c40_4 := rfl
theorem e40_4 : c40_4 = .seq c40_5 c40_6 := rfl
theorem e40_5 : c40_5 = .region 1 o40_5 false := rfl
theorem e40_6 : c40_6 = .seq c40_7 c40_10 := rfl
theorem e40_7 : c40_7 = .cond (.tmp 12) c40_8 c40_9 := rfl
theorem e40_8 : c40_8 = .skip := rfl
theorem e40_9 : c40_9 = .exit 0 := rfl
theorem e40_10 : c40_10 = .seq c40_11 c40_30 := rfl
theorem e40_11 : c40_11 = .block 1 c40_12 := rfl
theorem e40_12 : c40_12 = .seq c40_13 c40_14 := rfl
theorem e40_13 : c40_13 = .region 2 o40_13 false := rfl
theorem e40_14 : c40_14 = .block 2 c40_15 := rfl
theorem e40_15 : c40_15 = .loop c40_16 := rfl
theorem e40_16 : c40_16 = .seq c40_17 c40_22 := rfl
theorem e40_17 : c40_17 = .seq c40_18 c40_19 := rfl
theorem e40_18 : c40_18 = .region 3 o40_18 false := rfl
theorem e40_19 : c40_19 = .cond (.tmp 17) c40_20 c40_21 := rfl
theorem e40_20 : c40_20 = .skip := rfl
theorem e40_21 : c40_21 = .exit 2 := rfl
theorem e40_22 : c40_22 = .seq c40_23 c40_29 := rfl
theorem e40_23 : c40_23 = .block 3 c40_24 := rfl
theorem e40_24 : c40_24 = .seq c40_25 c40_26 := rfl
theorem e40_25 : c40_25 = .region 5 o40_25 false := rfl
theorem e40_26 : c40_26 = .cond (.tmp 29) c40_27 c40_28 := rfl
theorem e40_27 : c40_27 = .ret := rfl
theorem e40_28 : c40_28 = .skip := rfl
theorem e40_29 : c40_29 = .region 4 o40_29 false := rfl
theorem e40_30 : c40_30 = .region 6 o40_30 false := rfl
theorem g40_0 : (run tb).code rd c40_0 (mk 31 f m) st = andThen ((run tb).code rd c40_1 (mk 31 f m) st) (fun fr st => (run tb).code rd c40_2 fr st) := gx_seq e40_0
noncomputable def l40_1 : { l : List Step // lightOf o40_1 = l } := by refine ⟨?_, ?h⟩; case h => simp only [lightOf, o40_1, opsOf, kid, bodyOf, Tryd.f40, Option.getD_some, List.map, stepOf, Option.map, List.getElem?_toArray, List.getElem?_cons_succ, List.getElem?_cons_zero, Option.bind_some]; rfl
theorem g40_1 : (run tb).code rd c40_1 (mk 31 f m) st = regB (evSteps tb (run tb) l40_1.1 (mk 31 f m) st) := gx_region e40_1 l40_1.2
theorem g40_2 : (run tb).code rd c40_2 (mk 31 f m) st = closeB 0 ((run tb).code rd c40_3 (mk 31 f m) st) := gx_block e40_2
theorem g40_4 : (run tb).code rd c40_4 (mk 31 f m) st = andThen ((run tb).code rd c40_5 (mk 31 f m) st) (fun fr st => (run tb).code rd c40_6 fr st) := gx_seq e40_4
noncomputable def l40_5 : { l : List Step // lightOf o40_5 = l } := by refine ⟨?_, ?h⟩; case h => simp only [lightOf, o40_5, opsOf, kid, bodyOf, Tryd.f40, Option.getD_some, List.map, stepOf, Option.map, List.getElem?_toArray, List.getElem?_cons_succ, List.getElem?_cons_zero, Option.bind_some]; rfl
theorem g40_5 : (run tb).code rd c40_5 (mk 31 f m) st = regB (evSteps tb (run tb) l40_5.1 (mk 31 f m) st) := gx_region e40_5 l40_5.2
theorem g40_6 : (run tb).code rd c40_6 (mk 31 f m) st = andThen ((run tb).code rd c40_7 (mk 31 f m) st) (fun fr st => (run tb).code rd c40_10 fr st) := gx_seq e40_6
theorem g40_7 : (run tb).code rd c40_7 (mk 31 f m) st = branch (f 12) (fun x => (run tb).code rd (sel x c40_8 c40_9) (mk 31 f m) st) := gx_cond e40_7 (by decide)
theorem g40_8 : (run tb).code rd c40_8 (mk 31 f m) st = some (.normal, mk 31 f m, st) := gx_skip e40_8
theorem g40_9 : (run tb).code rd c40_9 (mk 31 f m) st = some (.exit 0, mk 31 f m, st) := gx_exit e40_9
theorem g40_10 : (run tb).code rd c40_10 (mk 31 f m) st = andThen ((run tb).code rd c40_11 (mk 31 f m) st) (fun fr st => (run tb).code rd c40_30 fr st) := gx_seq e40_10
theorem g40_11 : (run tb).code rd c40_11 (mk 31 f m) st = closeB 1 ((run tb).code rd c40_12 (mk 31 f m) st) := gx_block e40_11
theorem g40_12 : (run tb).code rd c40_12 (mk 31 f m) st = andThen ((run tb).code rd c40_13 (mk 31 f m) st) (fun fr st => (run tb).code rd c40_14 fr st) := gx_seq e40_12
noncomputable def l40_13 : { l : List Step // lightOf o40_13 = l } := by refine ⟨?_, ?h⟩; case h => simp only [lightOf, o40_13, opsOf, kid, bodyOf, Tryd.f40, Option.getD_some, List.map, stepOf, Option.map, List.getElem?_toArray, List.getElem?_cons_succ, List.getElem?_cons_zero, Option.bind_some]; rfl
theorem g40_13 : (run tb).code rd c40_13 (mk 31 f m) st = regB (evSteps tb (run tb) l40_13.1 (mk 31 f m) st) := gx_region e40_13 l40_13.2
theorem g40_14 : (run tb).code rd c40_14 (mk 31 f m) st = closeB 2 ((run tb).code rd c40_15 (mk 31 f m) st) := gx_block e40_14
theorem g40_16 : (run tb).code rd c40_16 (mk 31 f m) st = andThen ((run tb).code rd c40_17 (mk 31 f m) st) (fun fr st => (run tb).code rd c40_22 fr st) := gx_seq e40_16
theorem g40_17 : (run tb).code rd c40_17 (mk 31 f m) st = andThen ((run tb).code rd c40_18 (mk 31 f m) st) (fun fr st => (run tb).code rd c40_19 fr st) := gx_seq e40_17
noncomputable def l40_18 : { l : List Step // lightOf o40_18 = l } := by refine ⟨?_, ?h⟩; case h => simp only [lightOf, o40_18, opsOf, kid, bodyOf, Tryd.f40, Option.getD_some, List.map, stepOf, Option.map, List.getElem?_toArray, List.getElem?_cons_succ, List.getElem?_cons_zero, Option.bind_some]; rfl
theorem g40_18 : (run tb).code rd c40_18 (mk 31 f m) st = regB (evSteps tb (run tb) l40_18.1 (mk 31 f m) st) := gx_region e40_18 l40_18.2
theorem g40_19 : (run tb).code rd c40_19 (mk 31 f m) st = branch (f 17) (fun x => (run tb).code rd (sel x c40_20 c40_21) (mk 31 f m) st) := gx_cond e40_19 (by decide)
theorem g40_20 : (run tb).code rd c40_20 (mk 31 f m) st = some (.normal, mk 31 f m, st) := gx_skip e40_20
theorem g40_21 : (run tb).code rd c40_21 (mk 31 f m) st = some (.exit 2, mk 31 f m, st) := gx_exit e40_21
theorem g40_22 : (run tb).code rd c40_22 (mk 31 f m) st = andThen ((run tb).code rd c40_23 (mk 31 f m) st) (fun fr st => (run tb).code rd c40_29 fr st) := gx_seq e40_22
theorem g40_23 : (run tb).code rd c40_23 (mk 31 f m) st = closeB 3 ((run tb).code rd c40_24 (mk 31 f m) st) := gx_block e40_23
theorem g40_24 : (run tb).code rd c40_24 (mk 31 f m) st = andThen ((run tb).code rd c40_25 (mk 31 f m) st) (fun fr st => (run tb).code rd c40_26 fr st) := gx_seq e40_24
noncomputable def l40_25 : { l : List Step // lightOf o40_25 = l } := by refine ⟨?_, ?h⟩; case h => simp only [lightOf, o40_25, opsOf, kid, bodyOf, Tryd.f40, Option.getD_some, List.map, stepOf, Option.map, List.getElem?_toArray, List.getElem?_cons_succ, List.getElem?_cons_zero, Option.bind_some]; rfl
theorem g40_25 : (run tb).code rd c40_25 (mk 31 f m) st = regB (evSteps tb (run tb) l40_25.1 (mk 31 f m) st) := gx_region e40_25 l40_25.2
theorem g40_26 : (run tb).code rd c40_26 (mk 31 f m) st = branch (f 29) (fun x => (run tb).code rd (sel x c40_27 c40_28) (mk 31 f m) st) := gx_cond e40_26 (by decide)
theorem g40_27 : (run tb).code rd c40_27 (mk 31 f m) st = some (.ret, mk 31 f m, st) := gx_ret e40_27
theorem g40_28 : (run tb).code rd c40_28 (mk 31 f m) st = some (.normal, mk 31 f m, st) := gx_skip e40_28
noncomputable def l40_29 : { l : List Step // lightOf o40_29 = l } := by refine ⟨?_, ?h⟩; case h => simp only [lightOf, o40_29, opsOf, kid, bodyOf, Tryd.f40, Option.getD_some, List.map, stepOf, Option.map, List.getElem?_toArray, List.getElem?_cons_succ, List.getElem?_cons_zero, Option.bind_some]; rfl
theorem g40_29 : (run tb).code rd c40_29 (mk 31 f m) st = regB (evSteps tb (run tb) l40_29.1 (mk 31 f m) st) := gx_region e40_29 l40_29.2
noncomputable def l40_30 : { l : List Step // lightOf o40_30 = l } := by refine ⟨?_, ?h⟩; case h => simp only [lightOf, o40_30, opsOf, kid, bodyOf, Tryd.f40, Option.getD_some, List.map, stepOf, Option.map, List.getElem?_toArray, List.getElem?_cons_succ, List.getElem?_cons_zero, Option.bind_some]; rfl
theorem g40_30 : (run tb).code rd c40_30 (mk 31 f m) st = regB (evSteps tb (run tb) l40_30.1 (mk 31 f m) st) := gx_region e40_30 l40_30.2
noncomputable def c41_0 : Code := bodyOf Tryd.f41
theorem b41 : Tryd.f41.body = some c41_0 := rfl
theorem n41 : Tryd.f41.ntmps = 8 := rfl
theorem r41 : Tryd.f41.results = #[.tmp 2] := rfl
theorem fn41 : tb.fn 41 = some Tryd.f41 := by rw [tb_eq]; exact Tryd.func41
theorem run41 {args : List V} {st : St} (ha : args.length ≤ 8) : (run tb).call 41 args st = leave tb [.tmp 2] ((run tb).code none c41_0 (mk 8 (argF args) []) st) := call_run fn41 (tbmode 41) b41 n41 r41 ha
noncomputable def c41_1 : Code := kid c41_0 0
noncomputable def c41_2 : Code := kid c41_0 1
noncomputable def c41_3 : Code := kid c41_2 0
noncomputable def c41_4 : Code := kid c41_3 0
noncomputable def c41_5 : Code := kid c41_3 1
noncomputable def c41_6 : Code := kid c41_5 0
noncomputable def c41_7 : Code := kid c41_6 0
noncomputable def c41_8 : Code := kid c41_6 1
noncomputable def c41_9 : Code := kid c41_5 1
noncomputable def c41_10 : Code := kid c41_2 1
noncomputable def c41_11 : Code := kid c41_10 0
noncomputable def c41_12 : Code := kid c41_10 1
noncomputable def o41_1 : Array Oper := opsOf (kid (bodyOf Tryd.f41) 0)
noncomputable def o41_4 : Array Oper := opsOf (kid (kid (kid (bodyOf Tryd.f41) 1) 0) 0)
noncomputable def o41_7 : Array Oper := opsOf (kid (kid (kid (kid (kid (bodyOf Tryd.f41) 1) 0) 1) 0) 0)
noncomputable def o41_11 : Array Oper := opsOf (kid (kid (kid (bodyOf Tryd.f41) 1) 1) 0)
theorem e41_0 : c41_0 = .seq c41_1 c41_2 := rfl
theorem e41_1 : c41_1 = .region 0 o41_1 false := rfl
theorem e41_2 : c41_2 = .seq c41_3 c41_10 := rfl
theorem e41_3 : c41_3 = .seq c41_4 c41_5 := rfl
theorem e41_4 : c41_4 = .region 1 o41_4 false := rfl
theorem e41_5 : c41_5 = .cond (.tmp 4) c41_6 c41_9 := rfl
theorem e41_6 : c41_6 = .seq c41_7 c41_8 := rfl
theorem e41_7 : c41_7 = .region 2 o41_7 false := rfl
theorem e41_8 : c41_8 = .ret := rfl
theorem e41_9 : c41_9 = .skip := rfl
theorem e41_10 : c41_10 = .seq c41_11 c41_12 := rfl
theorem e41_11 : c41_11 = .region 3 o41_11 false := rfl
theorem e41_12 : c41_12 = .ret := rfl
theorem g41_0 : (run tb).code rd c41_0 (mk 8 f m) st = andThen ((run tb).code rd c41_1 (mk 8 f m) st) (fun fr st => (run tb).code rd c41_2 fr st) := gx_seq e41_0
noncomputable def l41_1 : { l : List Step // lightOf o41_1 = l } := by refine ⟨?_, ?h⟩; case h => simp only [lightOf, o41_1, opsOf, kid, bodyOf, Tryd.f41, Option.getD_some, List.map, stepOf, Option.map, List.getElem?_toArray, List.getElem?_cons_succ, List.getElem?_cons_zero, Option.bind_some]; rfl
theorem g41_1 : (run tb).code rd c41_1 (mk 8 f m) st = regB (evSteps tb (run tb) l41_1.1 (mk 8 f m) st) := gx_region e41_1 l41_1.2
theorem g41_2 : (run tb).code rd c41_2 (mk 8 f m) st = andThen ((run tb).code rd c41_3 (mk 8 f m) st) (fun fr st => (run tb).code rd c41_10 fr st) := gx_seq e41_2
theorem g41_3 : (run tb).code rd c41_3 (mk 8 f m) st = andThen ((run tb).code rd c41_4 (mk 8 f m) st) (fun fr st => (run tb).code rd c41_5 fr st) := gx_seq e41_3
noncomputable def l41_4 : { l : List Step // lightOf o41_4 = l } := by refine ⟨?_, ?h⟩; case h => simp only [lightOf, o41_4, opsOf, kid, bodyOf, Tryd.f41, Option.getD_some, List.map, stepOf, Option.map, List.getElem?_toArray, List.getElem?_cons_succ, List.getElem?_cons_zero, Option.bind_some]; rfl
theorem g41_4 : (run tb).code rd c41_4 (mk 8 f m) st = regB (evSteps tb (run tb) l41_4.1 (mk 8 f m) st) := gx_region e41_4 l41_4.2
theorem g41_5 : (run tb).code rd c41_5 (mk 8 f m) st = branch (f 4) (fun x => (run tb).code rd (sel x c41_6 c41_9) (mk 8 f m) st) := gx_cond e41_5 (by decide)
theorem g41_6 : (run tb).code rd c41_6 (mk 8 f m) st = andThen ((run tb).code rd c41_7 (mk 8 f m) st) (fun fr st => (run tb).code rd c41_8 fr st) := gx_seq e41_6
noncomputable def l41_7 : { l : List Step // lightOf o41_7 = l } := by refine ⟨?_, ?h⟩; case h => simp only [lightOf, o41_7, opsOf, kid, bodyOf, Tryd.f41, Option.getD_some, List.map, stepOf, Option.map, List.getElem?_toArray, List.getElem?_cons_succ, List.getElem?_cons_zero, Option.bind_some]; rfl
theorem g41_7 : (run tb).code rd c41_7 (mk 8 f m) st = regB (evSteps tb (run tb) l41_7.1 (mk 8 f m) st) := gx_region e41_7 l41_7.2
theorem g41_8 : (run tb).code rd c41_8 (mk 8 f m) st = some (.ret, mk 8 f m, st) := gx_ret e41_8
theorem g41_9 : (run tb).code rd c41_9 (mk 8 f m) st = some (.normal, mk 8 f m, st) := gx_skip e41_9
theorem g41_10 : (run tb).code rd c41_10 (mk 8 f m) st = andThen ((run tb).code rd c41_11 (mk 8 f m) st) (fun fr st => (run tb).code rd c41_12 fr st) := gx_seq e41_10
noncomputable def l41_11 : { l : List Step // lightOf o41_11 = l } := by refine ⟨?_, ?h⟩; case h => simp only [lightOf, o41_11, opsOf, kid, bodyOf, Tryd.f41, Option.getD_some, List.map, stepOf, Option.map, List.getElem?_toArray, List.getElem?_cons_succ, List.getElem?_cons_zero, Option.bind_some]; rfl
theorem g41_11 : (run tb).code rd c41_11 (mk 8 f m) st = regB (evSteps tb (run tb) l41_11.1 (mk 8 f m) st) := gx_region e41_11 l41_11.2
theorem g41_12 : (run tb).code rd c41_12 (mk 8 f m) st = some (.ret, mk 8 f m, st) := gx_ret e41_12
noncomputable def c42_0 : Code := bodyOf Tryd.f42
theorem b42 : Tryd.f42.body = some c42_0 := rfl
theorem n42 : Tryd.f42.ntmps = 14 := rfl
theorem r42 : Tryd.f42.results = #[.tmp 2] := rfl
theorem fn42 : tb.fn 42 = some Tryd.f42 := by rw [tb_eq]; exact Tryd.func42
theorem run42 {args : List V} {st : St} (ha : args.length ≤ 14) : (run tb).call 42 args st = leave tb [.tmp 2] ((run tb).code none c42_0 (mk 14 (argF args) []) st) := call_run fn42 (tbmode 42) b42 n42 r42 ha
noncomputable def c42_1 : Code := kid c42_0 0
noncomputable def c42_2 : Code := kid c42_0 1
noncomputable def c42_3 : Code := kid c42_2 0
noncomputable def c42_4 : Code := kid c42_3 0
noncomputable def c42_5 : Code := kid c42_3 1
noncomputable def c42_6 : Code := kid c42_5 0
noncomputable def c42_7 : Code := kid c42_6 0
noncomputable def c42_8 : Code := kid c42_6 1
noncomputable def c42_9 : Code := kid c42_5 1
noncomputable def c42_10 : Code := kid c42_2 1
noncomputable def c42_11 : Code := kid c42_10 0
noncomputable def c42_12 : Code := kid c42_10 1
noncomputable def o42_1 : Array Oper := opsOf (kid (bodyOf Tryd.f42) 0)
noncomputable def o42_4 : Array Oper := opsOf (kid (kid (kid (bodyOf Tryd.f42) 1) 0) 0)
noncomputable def o42_7 : Array Oper := opsOf (kid (kid (kid (kid (kid (bodyOf Tryd.f42) 1) 0) 1) 0) 0)
noncomputable def o42_11 : Array Oper := opsOf (kid (kid (kid (bodyOf Tryd.f42) 1) 1) 0)
theorem e42_0 : c42_0 = .seq c42_1 c42_2 := rfl
theorem e42_1 : c42_1 = .region 0 o42_1 false := rfl
theorem e42_2 : c42_2 = .seq c42_3 c42_10 := rfl
theorem e42_3 : c42_3 = .seq c42_4 c42_5 := rfl
theorem e42_4 : c42_4 = .region 1 o42_4 false := rfl
theorem e42_5 : c42_5 = .cond (.tmp 4) c42_6 c42_9 := rfl
theorem e42_6 : c42_6 = .seq c42_7 c42_8 := rfl
theorem e42_7 : c42_7 = .region 2 o42_7 false := rfl
theorem e42_8 : c42_8 = .ret := rfl
theorem e42_9 : c42_9 = .skip := rfl
theorem e42_10 : c42_10 = .seq c42_11 c42_12 := rfl
theorem e42_11 : c42_11 = .region 3 o42_11 false := rfl
theorem e42_12 : c42_12 = .ret := rfl
theorem g42_0 : (run tb).code rd c42_0 (mk 14 f m) st = andThen ((run tb).code rd c42_1 (mk 14 f m) st) (fun fr st => (run tb).code rd c42_2 fr st) := gx_seq e42_0
noncomputable def l42_1 : { l : List Step // lightOf o42_1 = l } := by refine ⟨?_, ?h⟩; case h => simp only [lightOf, o42_1, opsOf, kid, bodyOf, Tryd.f42, Option.getD_some, List.map, stepOf, Option.map, List.getElem?_toArray, List.getElem?_cons_succ, List.getElem?_cons_zero, Option.bind_some]; rfl
theorem g42_1 : (run tb).code rd c42_1 (mk 14 f m) st = regB (evSteps tb (run tb) l42_1.1 (mk 14 f m) st) := gx_region e42_1 l42_1.2
theorem g42_2 : (run tb).code rd c42_2 (mk 14 f m) st = andThen ((run tb).code rd c42_3 (mk 14 f m) st) (fun fr st => (run tb).code rd c42_10 fr st) := gx_seq e42_2
theorem g42_3 : (run tb).code rd c42_3 (mk 14 f m) st = andThen ((run tb).code rd c42_4 (mk 14 f m) st) (fun fr st => (run tb).code rd c42_5 fr st) := gx_seq e42_3
noncomputable def l42_4 : { l : List Step // lightOf o42_4 = l } := by refine ⟨?_, ?h⟩; case h => simp only [lightOf, o42_4, opsOf, kid, bodyOf, Tryd.f42, Option.getD_some, List.map, stepOf, Option.map, List.getElem?_toArray, List.getElem?_cons_succ, List.getElem?_cons_zero, Option.bind_some]; rfl
theorem g42_4 : (run tb).code rd c42_4 (mk 14 f m) st = regB (evSteps tb (run tb) l42_4.1 (mk 14 f m) st) := gx_region e42_4 l42_4.2
theorem g42_5 : (run tb).code rd c42_5 (mk 14 f m) st = branch (f 4) (fun x => (run tb).code rd (sel x c42_6 c42_9) (mk 14 f m) st) := gx_cond e42_5 (by decide)
theorem g42_6 : (run tb).code rd c42_6 (mk 14 f m) st = andThen ((run tb).code rd c42_7 (mk 14 f m) st) (fun fr st => (run tb).code rd c42_8 fr st) := gx_seq e42_6
noncomputable def l42_7 : { l : List Step // lightOf o42_7 = l } := by refine ⟨?_, ?h⟩; case h => simp only [lightOf, o42_7, opsOf, kid, bodyOf, Tryd.f42, Option.getD_some, List.map, stepOf, Option.map, List.getElem?_toArray, List.getElem?_cons_succ, List.getElem?_cons_zero, Option.bind_some]; rfl
theorem g42_7 : (run tb).code rd c42_7 (mk 14 f m) st = regB (evSteps tb (run tb) l42_7.1 (mk 14 f m) st) := gx_region e42_7 l42_7.2
theorem g42_8 : (run tb).code rd c42_8 (mk 14 f m) st = some (.ret, mk 14 f m, st) := gx_ret e42_8
theorem g42_9 : (run tb).code rd c42_9 (mk 14 f m) st = some (.normal, mk 14 f m, st) := gx_skip e42_9
theorem g42_10 : (run tb).code rd c42_10 (mk 14 f m) st = andThen ((run tb).code rd c42_11 (mk 14 f m) st) (fun fr st => (run tb).code rd c42_12 fr st) := gx_seq e42_10
noncomputable def l42_11 : { l : List Step // lightOf o42_11 = l } := by refine ⟨?_, ?h⟩; case h => simp only [lightOf, o42_11, opsOf, kid, bodyOf, Tryd.f42, Option.getD_some, List.map, stepOf, Option.map, List.getElem?_toArray, List.getElem?_cons_succ, List.getElem?_cons_zero, Option.bind_some]; rfl
theorem g42_11 : (run tb).code rd c42_11 (mk 14 f m) st = regB (evSteps tb (run tb) l42_11.1 (mk 14 f m) st) := gx_region e42_11 l42_11.2
theorem g42_12 : (run tb).code rd c42_12 (mk 14 f m) st = some (.ret, mk 14 f m, st) := gx_ret e42_12
end Go.Proofs.YtgknieohkniojaaDoor
namespace Go.Proofs.YtgknieohkniojaaDoor
open Go.Abs
set_option maxRecDepth 100000
set_option linter.unusedSimpArgs false
set_option linter.unusedVariables false
set_option maxHeartbeats 4000000
theorem und70 : tb.und 70 = some (.array 64 5) := by rw [tb_eq]; kernel_rfl
theorem size5 : tb.size 5 = some 1 := by rw [tb_eq]; kernel_rfl
theorem und5 : tb.und 5 = some (.int .u8) := by rw [tb_eq]; kernel_rfl
theorem ty5 : tb.ty 5 = some { size := 1, bytes := 1, agg := false, zero := .int .u8 0, und := .int .u8, plain := true } := by rw [tb_eq]; kernel_rfl
theorem glob0 : tb.glob 0 = some (tabNs.map (V.int .u8)) := by rw [tb_eq]; rfl
theorem tz_aux (st : St) (x n a y idx k : Nat) (cs : List V) (hx : ((x : Int) == 0) = false) (hneg : IntKind.u64.wrap (-(x : Int)) = (n : Int)) (h1 : intBin .and .u64 (x : Nat) (n : Nat) = some (.int .u64 (a : Nat))) (h2 : intBin .mul .u64 (a : Nat) 285870213051353865 = some (.int .u64 (y : Nat)))
    (h3 : shiftBin .shr .u64 (y : Nat) 58 = some (.int .u64 (idx : Nat))) (hi : idx < 64) (hi' : 1 ≤ 64 - idx) (hg : tb.glob 0 = some cs) (hl : cs.length = 64) (hd : (cs.drop idx).take 1 = [.int .u8 (k : Nat)]) (hw : IntKind.i64.wrap (k : Int) = (k : Int)) :
    (run tb).call 42 [.int .u64 (x : Nat)] st = some (.int .i64 (k : Nat), st) := by
  have hi2 : (idx : Int) < 64 := by omega
  rw [run42 (by simp)]
  simp [g42_0, g42_1, g42_2, g42_3, g42_4, g42_5, g42_6, g42_7, g42_8, g42_9, g42_10, g42_11, g42_12, l42_1, l42_4, l42_7, l42_11, steps_nil, steps_cons, draws_nil, draws_cons, step_mk, stepB_some, stepB_none, memB_mk, thenS_some, regB_some, branch_bool, sel_true, sel_false, wanted_none, wanted_some, asB, mk_put, mk_put_none, arg_tmp, arg_const, arg_func, arg_global, upd_same, upd_ne, evPure, evArgs, m_load, m_store, m_alloc, m_box, m_call, m_lookup, m_mapUpdate, m_inv, evLoad, readCells, evFieldAddr, evIndexAddr, asIdx, ofValue, isPure, evBin, ib_lss, ib_leq, ib_gtr, ib_geq, ib_eql, ib_neq, evUn, leave_normal, leave_ret, finish, then_normal, then_exit, then_ret, close_normal, close_exit, close_ret, evConv, mk_marks, dropMarks, resOf, resList, mk_getD, argF, List.getD_cons_zero, List.getD_cons_succ, V.cells, evLen, kdOp, kdOf, readsOf, protS, eq_bool, eq_nil28, evStore, V.oneCell, putElem, splice, -List.getD_eq_getElem?_getD, -getElem?_pos, und55, und53, und22, size3, size53, size58, size22, ty3, ty4, ty53, ty58, ty22, hx, hneg, h1, h2, h3, hi, hi2, hi', hg, hl, hd, hw, und70, size5, und5, ty5, und3]
theorem tab_at (idx : Nat) (h : idx < 64) : ((tabNs.map (V.int .u8)).drop idx).take 1 = [.int .u8 ((Lib.deBruijn64tab.getD idx 0 : Nat) : Int)] := by
  have : ∀ idx, idx < 64 → (tabNs.drop idx).take 1 = [((Lib.deBruijn64tab.getD idx 0 : Nat) : Int)] := by decide +kernel
  rw [← List.map_drop, ← List.map_take, this idx h]; rfl
theorem tz_run (st : St) (x : Nat) (h0 : x ≠ 0) (hx : x < 2 ^ 64) : (run tb).call 42 [.int .u64 (x : Nat)] st = some (.int .i64 (Lib.ctz 64 x : Nat), st) := by
  obtain ⟨hlow, hk⟩ := Lib.lowest_bit 64 x h0 hx
  obtain ⟨hi, htab⟩ := Lib.deBruijn64_at _ hk
  have hpow : 2 ^ Lib.ctz 64 x < 2 ^ 64 := Nat.pow_lt_pow_right (by decide) hk
  have hn : IntKind.u64.wrap (-(x : Int)) = ((2 ^ 64 - x : Nat) : Int) := by
    have e1 : IntKind.u64.bits = 64 := rfl
    have e2 : IntKind.u64.signed = false := rfl
    unfold IntKind.wrap
    simp only [e1, e2, Bool.false_and]
    simp
    omega
  have hm : intBin .mul .u64 ((2 ^ Lib.ctz 64 x : Nat) : Int) 285870213051353865 = some (.int .u64 ((2 ^ Lib.ctz 64 x * 285870213051353865 % 18446744073709551616 : Nat) : Int)) := by
    show some (V.int .u64 (IntKind.u64.wrap (((2 ^ Lib.ctz 64 x : Nat) : Int) * 285870213051353865))) = _
    generalize 2 ^ Lib.ctz 64 x = p
    have e1 : IntKind.u64.bits = 64 := rfl
    have e2 : IntKind.u64.signed = false := rfl
    congr 2
  have htd := tab_at _ hi
  rw [htab] at htd
  refine tz_aux st x (2 ^ 64 - x) (2 ^ Lib.ctz 64 x) _ _ _ _ (by simp; omega) hn ?_ hm (shrD _ 58 288230376151711744 (by decide) (by decide)) hi (by omega) glob0 (by decide) htd (wrap64 _ (by omega) (by omega))
  have := and64 x (2 ^ 64 - x) hx (by omega)
  rw [hlow] at this
  exact this
/-- The lowest one of a number, and the number without it. -/
theorem low_bits (x : Nat) (h0 : x ≠ 0) (hx : x < 2 ^ 64) : x.testBit (Lib.ctz 64 x) = true ∧ (∀ j, j < Lib.ctz 64 x → x.testBit j = false) ∧ (∀ j, (x &&& (x - 1)).testBit j = (decide (Lib.ctz 64 x < j) && x.testBit j)) ∧ Lib.ctz 64 x < 64 := by
  have hc : Lib.ctz 64 x = Lib.ctzFrom 64 x := by unfold Lib.ctz; rw [if_neg h0]
  obtain ⟨m, hm, hk⟩ := Lib.ctzFrom_spec 64 x (by omega) hx
  rw [hc]
  generalize Lib.ctzFrom 64 x = k at *
  have hp : 0 < 2 ^ k := Nat.pos_of_ne_zero (by simp)
  have hp1 : 2 ^ k < 2 ^ (k + 1) := Nat.pow_lt_pow_right (by decide) (by omega)
  have e1 : x = 2 ^ (k + 1) * m + 2 ^ k := by rw [hm, Nat.pow_succ, Nat.mul_add, Nat.mul_one, Nat.mul_assoc]
  have e2 : x - 1 = 2 ^ (k + 1) * m + (2 ^ k - 1) := by omega
  have t1 : ∀ j, x.testBit j = if j < k + 1 then (2 ^ k).testBit j else m.testBit (j - (k + 1)) := fun j => by rw [e1, Nat.testBit_two_pow_mul_add m hp1]
  have t2 : ∀ j, (x - 1).testBit j = if j < k + 1 then (2 ^ k - 1).testBit j else m.testBit (j - (k + 1)) := fun j => by rw [e2, Nat.testBit_two_pow_mul_add m (by omega)]
  refine ⟨?_, ?_, ?_, hk⟩
  · rw [t1, if_pos (by omega), Nat.testBit_two_pow_self]
  · intro j hj
    rw [t1, if_pos (by omega), Nat.testBit_two_pow]; simp; omega
  · intro j
    rw [Nat.testBit_and, t1, t2]
    by_cases hj : j < k + 1
    · rw [if_pos hj, if_pos hj, Nat.testBit_two_pow, Nat.testBit_two_pow_sub_one]
      have : ¬ k < j := by omega
      by_cases e : k = j
      · subst e; simp
      · simp [e, this]
    · rw [if_neg hj, if_neg hj]
      have : k < j := by omega
      simp [this]
/-- The numbers of a set from lo on, n of them looked at. -/
def elems (S : Nat → Bool) : Nat → Nat → List Nat
  | _, 0 => []
  | lo, n + 1 => if S lo then lo :: elems S (lo + 1) n else elems S (lo + 1) n
theorem elems_skip (S : Nat → Bool) : ∀ (d lo n : Nat), (∀ j, j < d → S (lo + j) = false) → elems S lo (d + n) = elems S (lo + d) n
  | 0, lo, n, _ => by simp
  | d + 1, lo, n, h => by
    have e : d + 1 + n = (d + n) + 1 := by omega
    have h0 : S lo = false := h 0 (by omega)
    rw [e]
    simp only [elems, h0, Bool.false_eq_true, if_false]
    rw [elems_skip S d (lo + 1) n (fun j hj => by have := h (j + 1) (by omega); rw [← Nat.add_assoc, Nat.add_right_comm] at this; exact this)]
    congr 1; omega
theorem elems_app (S : Nat → Bool) : ∀ (n lo m : Nat), elems S lo (n + m) = elems S lo n ++ elems S (lo + n) m
  | 0, lo, m => by simp [elems]
  | n + 1, lo, m => by
    have e : n + 1 + m = (n + m) + 1 := by omega
    rw [e]
    simp only [elems]
    have := elems_app S n (lo + 1) m
    have e2 : lo + 1 + n = lo + (n + 1) := by omega
    rw [e2] at this
    split
    · rw [this]; rfl
    · exact this
/-- What is left of a word: its bits from p on. -/
def restW (S : Nat → Bool) (k p : Nat) : Nat := bitsN (fun i => decide (64 * k + p ≤ i) && S i) (64 * k) 64
theorem restW_lt (S : Nat → Bool) (k p : Nat) : restW S k p < 2 ^ 64 := bitsN_lt _ _ _
theorem restW_bit (S : Nat → Bool) (k p j : Nat) : (restW S k p).testBit j = (decide (j < 64) && (decide (p ≤ j) && S (64 * k + j))) := by
  unfold restW
  rw [bitsN_testBit]
  have : decide (64 * k + p ≤ 64 * k + j) = decide (p ≤ j) := decide_eq_decide.2 (by omega)
  rw [this]
theorem restW_zero (S : Nat → Bool) (k : Nat) : restW S k 0 = wd S k := by
  apply eq_of_bits64 (restW_lt _ _ _) (wd_lt _ _)
  intro j hj
  rw [restW_bit, wd_testBit]; simp
theorem restW_none {S : Nat → Bool} {k p : Nat} (h : restW S k p = 0) (hp : p ≤ 64) : elems S (64 * k + p) (64 - p) = [] := by
  have hb : ∀ j, j < 64 - p → S (64 * k + p + j) = false := fun j hj => by
    have h1 := restW_bit S k p (p + j)
    rw [h] at h1
    have e1 : p + j < 64 := by omega
    have e2 : p ≤ p + j := by omega
    simp only [Nat.zero_testBit, e1, e2, decide_true, Bool.true_and] at h1
    rw [Nat.add_assoc]; exact h1.symm
  have := elems_skip S (64 - p) (64 * k + p) 0 hb
  simpa [elems] using this
theorem restW_some {S : Nat → Bool} {k p : Nat} (h : restW S k p ≠ 0) (hp : p ≤ 64) : p ≤ Lib.ctz 64 (restW S k p) ∧ Lib.ctz 64 (restW S k p) < 64 ∧ elems S (64 * k + p) (64 - p) = (64 * k + Lib.ctz 64 (restW S k p)) :: elems S (64 * k + (Lib.ctz 64 (restW S k p) + 1)) (64 - (Lib.ctz 64 (restW S k p) + 1)) ∧
    restW S k p &&& (restW S k p - 1) = restW S k (Lib.ctz 64 (restW S k p) + 1) := by
  obtain ⟨h1, h2, h3, h4⟩ := low_bits _ h (restW_lt S k p)
  have hlt := restW_lt S k p
  rw [restW_bit] at h1
  simp only [restW_bit] at h2
  have hc : ∀ j, (restW S k p &&& (restW S k p - 1)).testBit j = (decide (Lib.ctz 64 (restW S k p) < j) && (decide (j < 64) && (decide (p ≤ j) && S (64 * k + j)))) := fun j => by rw [h3, restW_bit]
  clear h3
  generalize hw : restW S k p = w at *
  generalize Lib.ctz 64 w = c at *
  simp only [Bool.and_eq_true, decide_eq_true_eq] at h1
  obtain ⟨_, hpc, hS⟩ := h1
  refine ⟨hpc, h4, ?_, ?_⟩
  · have hb : ∀ j, j < c - p → S (64 * k + p + j) = false := fun j hj => by
      have := h2 (p + j) (by omega)
      have e1 : p + j < 64 := by omega
      have e2 : p ≤ p + j := by omega
      simp only [e1, e2, decide_true, Bool.true_and] at this
      rw [Nat.add_assoc]; exact this
    have := elems_skip S (c - p) (64 * k + p) (64 - c) hb
    have e1 : c - p + (64 - c) = 64 - p := by omega
    have e2 : 64 * k + p + (c - p) = 64 * k + c := by omega
    have e3 : 64 - c = (64 - (c + 1)) + 1 := by omega
    rw [e1, e2, e3] at this
    rw [this]
    simp only [elems, hS, if_true]
    rfl
  · apply eq_of_bits64 (Nat.lt_of_le_of_lt Nat.and_le_left hlt) (restW_lt _ _ _)
    intro j hj
    rw [hc, restW_bit]
    by_cases h5 : c < j
    · have e1 : p ≤ j := by omega
      have e2 : c + 1 ≤ j := by omega
      simp [h5, e1, e2]
    · have e2 : ¬ c + 1 ≤ j := by omega
      simp [h5, e2]
theorem mul64 {x y : Int} (h : -2^63 ≤ x * y) (h' : x * y < 2^63) : intBin .mul .i64 x y = some (.int .i64 (x * y)) := by
  show some (V.int .i64 (IntKind.i64.wrap (x * y))) = _
  rw [wrap64 _ h h']
theorem eq_nil53 (r s o l : Nat) (f : Bool) (xs : List V) : eqVal tb 53 (.slice r s o l) (.list f (some true) xs) = some false := by
  unfold eqVal; rw [ty53]
theorem build53 {fr : Fr} {st : St} {S : Go.Abs.S} : evMem tb S fr st (.buildSlice 53 0 #[]) = some (.list true (some false) [], st) := by
  show evMem0 tb fr st (.buildSlice 53 0 #[]) = _
  unfold evMem0
  simp [evArgs, und53, ty58, setAll, V.cells]
theorem append53 {fr : Fr} {st : St} {S : Go.Abs.S} {x y : Operand} {nl : Option Bool} {rv m : Nat} {ws : List V} (hx : evArg tb fr x = some (.list true nl [])) (hy : evArg tb fr y = some (.slice rv 1 0 m))
    (h2 : st.store[rv]? = some (.vec false ws)) (hw : ws.length = m) (ho : ws.all (fun v => v.cells.length == 1 && v.cells.all V.oneCell) = true) (hm : m < 2000) :
    evMem tb S fr st (.call { callee := .builtin .append, args := #[x, y], argTypes := #[53, 53] }) = some (if m = 0 then (.list true nl [], st) else (.slice st.store.length 1 0 m, { st with store := st.store ++ [.vec false ws] })) := by
  show evMem0 tb fr st (.call { callee := .builtin .append, args := #[x, y], argTypes := #[53, 53] }) = _
  have hargs : evArgs tb fr (#[x, y] : Array Operand).toList = some [.list true nl [], .slice rv 1 0 m] := by simp [evArgs, hx, hy]
  have hsrc : srcElems st (.slice rv 1 0 m) = some ws := by
    simp only [srcElems, h2]
    rw [if_pos (by omega), List.drop_zero, List.take_of_length_le (by omega)]
  have e : ((#[53, 53] : Array TypeId)[1]?).bind tb.und = some (.slice 58) := und53
  have e0 : (#[53, 53] : Array TypeId)[0]? = some 53 := rfl
  unfold evMem0
  simp only [hargs, e0, e]
  unfold evAppend
  simp only [und53, ty58, hsrc, ho]
  by_cases hz : m = 0
  · subst hz
    have : ws = [] := List.eq_nil_of_length_eq_zero hw
    subst this
    simp
  · have hne : ws.isEmpty = false := by cases ws with | nil => exact absurd hw (fun h => hz h.symm) | cons a l => rfl
    simp only [hne, hz, if_false]
    simp [hw]
    omega
theorem words_one' (b : Nat) (S : Nat → Bool) : (words b S).all (fun v => v.cells.length == 1 && v.cells.all V.oneCell) = true := by
  rw [List.all_eq_true]
  intro v hv
  unfold words at hv
  obtain ⟨k, _, rfl⟩ := List.mem_map.1 hv
  rfl
theorem clone41 (st : St) (r rv b : Nat) (S : Nat → Bool) (h : SetAt st r rv b S) : (run tb).call 41 [.slice rv 1 0 (nw b)] st = some (if nw b = 0 then (.list true (some false) [], st) else (.slice st.store.length 1 0 (nw b), { st with store := st.store ++ [.vec false (words b S)] })) := by
  have hm : nw b < 2000 := by have := h.hm; unfold nw; omega
  have hap := fun (fr : Fr) hx hy => append53 (fr := fr) (st := st) (S := run tb) (x := .tmp 5) (y := .tmp 6) (nl := some false) hx hy h.hv (words_len _ _) (words_one' b S) hm
  by_cases hz : nw b = 0
  · rw [if_pos hz]
    simp only [if_pos hz] at hap
    rw [run41 (by simp)]
    simp [g41_0, g41_1, g41_2, g41_3, g41_4, g41_5, g41_6, g41_7, g41_8, g41_9, g41_10, g41_11, g41_12, l41_1, l41_4, l41_7, l41_11, steps_nil, steps_cons, draws_nil, draws_cons, step_mk, stepB_some, stepB_none, memB_mk, thenS_some, regB_some, branch_bool, sel_true, sel_false, wanted_none, wanted_some, asB, mk_put, mk_put_none, arg_tmp, arg_const, arg_func, arg_global, upd_same, upd_ne, evPure, evArgs, m_load, m_store, m_alloc, m_box, m_call, m_lookup, m_mapUpdate, m_inv, evLoad, readCells, evFieldAddr, evIndexAddr, asIdx, ofValue, isPure, evBin, ib_lss, ib_leq, ib_gtr, ib_geq, ib_eql, ib_neq, evUn, leave_normal, leave_ret, finish, then_normal, then_exit, then_ret, close_normal, close_exit, close_ret, evConv, mk_marks, dropMarks, resOf, resList, mk_getD, argF, List.getD_cons_zero, List.getD_cons_succ, V.cells, evLen, kdOp, kdOf, readsOf, protS, eq_bool, eq_nil28, evStore, V.oneCell, putElem, splice, -List.getD_eq_getElem?_getD, -getElem?_pos, und55, und53, und22, size3, size53, size58, size22, ty3, ty4, ty53, ty58, ty22, hap, eq_nil53, build53]
  · rw [if_neg hz]
    simp only [if_neg hz] at hap
    rw [run41 (by simp)]
    simp [g41_0, g41_1, g41_2, g41_3, g41_4, g41_5, g41_6, g41_7, g41_8, g41_9, g41_10, g41_11, g41_12, l41_1, l41_4, l41_7, l41_11, steps_nil, steps_cons, draws_nil, draws_cons, step_mk, stepB_some, stepB_none, memB_mk, thenS_some, regB_some, branch_bool, sel_true, sel_false, wanted_none, wanted_some, asB, mk_put, mk_put_none, arg_tmp, arg_const, arg_func, arg_global, upd_same, upd_ne, evPure, evArgs, m_load, m_store, m_alloc, m_box, m_call, m_lookup, m_mapUpdate, m_inv, evLoad, readCells, evFieldAddr, evIndexAddr, asIdx, ofValue, isPure, evBin, ib_lss, ib_leq, ib_gtr, ib_geq, ib_eql, ib_neq, evUn, leave_normal, leave_ret, finish, then_normal, then_exit, then_ret, close_normal, close_exit, close_ret, evConv, mk_marks, dropMarks, resOf, resList, mk_getD, argF, List.getD_cons_zero, List.getD_cons_succ, V.cells, evLen, kdOp, kdOf, readsOf, protS, eq_bool, eq_nil28, evStore, V.oneCell, putElem, splice, -List.getD_eq_getElem?_getD, -getElem?_pos, und55, und53, und22, size3, size53, size58, size22, ty3, ty4, ty53, ty58, ty22, hap, eq_nil53, build53]
/-- The numbers of a word are told. -/
theorem all_inner (l k : Nat) (S : Nat → Bool) (I : List Nat → St → Prop) (Fin : St → Prop) (rest : List Nat) (hk : k < 2000)
    (hstep : ∀ n rem st, I (n :: rem) st → (∃ st', evYield (run tb) l [.int .i64 (n : Nat)] st = some (.bool true, st') ∧ I rem st') ∨ (∃ st', evYield (run tb) l [.int .i64 (n : Nat)] st = some (.bool false, st') ∧ Fin st')) :
    ∀ (d p : Nat) (f : Nat → V) (st : St), 64 ≤ p + d → p ≤ 64 → f 0 = .func (.yield l) [] [] → f 3 = .int .i64 (k : Nat) → f 4 = .int .u64 (restW S k p : Nat) → I (elems S (64 * k + p) (64 - p) ++ rest) st →
    Out 31 [] (fun e f' st' => (e = .exit 2 ∧ I rest st' ∧ f' 0 = .func (.yield l) [] [] ∧ f' 9 = f 9 ∧ f' 10 = f 10 ∧ f' 11 = f 11) ∨ (e = .ret ∧ Fin st')) ((run tb).code none c40_15 (mk 31 f []) st) := by
  intro d
  induction d with
  | zero =>
    intro p f st hd hp h0 h3 h4 hI
    have hp' : p = 64 := by omega
    subst hp'
    have hz : restW S k 64 = 0 := by
      apply eq_of_bits64 (restW_lt _ _ _) (by decide)
      intro j hj
      rw [restW_bit]
      have : ¬ 64 ≤ j := by omega
      simp [this]
    rw [hz] at h4
    rw [go_loop_of e40_15]
    simp [g40_16, g40_17, g40_18, g40_19, g40_20, g40_21, g40_22, g40_23, g40_24, g40_25, g40_26, g40_27, g40_28, g40_29, l40_18, l40_25, l40_29, steps_nil, steps_cons, draws_nil, draws_cons, step_mk, stepB_some, stepB_none, memB_mk, thenS_some, regB_some, branch_bool, sel_true, sel_false, wanted_none, wanted_some, asB, mk_put, mk_put_none, arg_tmp, arg_const, arg_func, arg_global, upd_same, upd_ne, evPure, evArgs, m_load, m_store, m_alloc, m_box, m_call, m_lookup, m_mapUpdate, m_inv, evLoad, readCells, evFieldAddr, evIndexAddr, asIdx, ofValue, isPure, evBin, ib_lss, ib_leq, ib_gtr, ib_geq, ib_eql, ib_neq, evUn, leave_normal, leave_ret, finish, then_normal, then_exit, then_ret, close_normal, close_exit, close_ret, evConv, mk_marks, dropMarks, resOf, resList, mk_getD, argF, List.getD_cons_zero, List.getD_cons_succ, V.cells, evLen, kdOp, kdOf, readsOf, protS, eq_bool, eq_nil28, evStore, V.oneCell, putElem, splice, -List.getD_eq_getElem?_getD, -getElem?_pos, und55, und53, und22, size3, size53, size58, size22, ty3, ty4, ty53, ty58, ty22, h0, h3, h4]
    refine .one (.inl ⟨rfl, ?_, ?_, ?_, ?_, ?_⟩)
    · simpa [elems] using hI
    all_goals simp [upd_ne, h0]
  | succ d ih =>
    intro p f st hd hp h0 h3 h4 hI
    by_cases hz : restW S k p = 0
    · rw [restW_none hz hp, List.nil_append] at hI
      rw [hz] at h4
      rw [go_loop_of e40_15]
      simp [g40_16, g40_17, g40_18, g40_19, g40_20, g40_21, g40_22, g40_23, g40_24, g40_25, g40_26, g40_27, g40_28, g40_29, l40_18, l40_25, l40_29, steps_nil, steps_cons, draws_nil, draws_cons, step_mk, stepB_some, stepB_none, memB_mk, thenS_some, regB_some, branch_bool, sel_true, sel_false, wanted_none, wanted_some, asB, mk_put, mk_put_none, arg_tmp, arg_const, arg_func, arg_global, upd_same, upd_ne, evPure, evArgs, m_load, m_store, m_alloc, m_box, m_call, m_lookup, m_mapUpdate, m_inv, evLoad, readCells, evFieldAddr, evIndexAddr, asIdx, ofValue, isPure, evBin, ib_lss, ib_leq, ib_gtr, ib_geq, ib_eql, ib_neq, evUn, leave_normal, leave_ret, finish, then_normal, then_exit, then_ret, close_normal, close_exit, close_ret, evConv, mk_marks, dropMarks, resOf, resList, mk_getD, argF, List.getD_cons_zero, List.getD_cons_succ, V.cells, evLen, kdOp, kdOf, readsOf, protS, eq_bool, eq_nil28, evStore, V.oneCell, putElem, splice, -List.getD_eq_getElem?_getD, -getElem?_pos, und55, und53, und22, size3, size53, size58, size22, ty3, ty4, ty53, ty58, ty22, h0, h3, h4]
      refine .one (.inl ⟨rfl, hI, ?_, ?_, ?_, ?_⟩)
      all_goals simp [upd_ne, h0]
    · obtain ⟨q1, q2, q3, q4⟩ := restW_some hz hp
      have htz := fun st => tz_run st (restW S k p) hz (restW_lt _ _ _)
      have hlt := restW_lt S k p
      have hand := and64 (restW S k p) (restW S k p - 1) hlt (by omega)
      have hsub : intBin .sub .u64 (restW S k p : Nat) 1 = some (.int .u64 ((restW S k p - 1 : Nat) : Int)) := subU _ 1 (by omega) hlt
      rw [q4] at hand
      rw [q3, List.cons_append] at hI
      have hne : (((restW S k p : Nat) : Int) != 0) = true := by simp only [bne_iff_ne, ne_eq]; omega
      have hne2 : ¬ restW S k p = 0 := hz
      have hmul : intBin .mul .i64 (k : Nat) 64 = some (.int .i64 ((64 * k : Nat) : Int)) := by rw [mul64 (by omega) (by omega)]; congr 2; omega
      generalize Lib.ctz 64 (restW S k p) = c at *
      have hadd : intBin .add .i64 ((64 * k : Nat) : Int) (c : Nat) = some (.int .i64 ((64 * k + c : Nat) : Int)) := by rw [add64 (by omega) (by omega)]; simp
      have ih := ih (c + 1)
      have hf4 : restW S k (c + 1) = restW S k (c + 1) := rfl
      generalize hW : restW S k (c + 1) = w2 at *
      generalize restW S k p = w at *
      generalize restW S k p - 1 = w1 at *
      generalize hn : 64 * k + c = n at *
      generalize 64 * k = k64 at *
      rcases hstep n _ st hI with ⟨st', hy, hI'⟩ | ⟨st', hy, hF⟩
      · rw [go_loop_of e40_15]
        simp [g40_16, g40_17, g40_18, g40_19, g40_20, g40_21, g40_22, g40_23, g40_24, g40_25, g40_26, g40_27, g40_28, g40_29, l40_18, l40_25, l40_29, steps_nil, steps_cons, draws_nil, draws_cons, step_mk, stepB_some, stepB_none, memB_mk, thenS_some, regB_some, branch_bool, sel_true, sel_false, wanted_none, wanted_some, asB, mk_put, mk_put_none, arg_tmp, arg_const, arg_func, arg_global, upd_same, upd_ne, evPure, evArgs, m_load, m_store, m_alloc, m_box, m_call, m_lookup, m_mapUpdate, m_inv, evLoad, readCells, evFieldAddr, evIndexAddr, asIdx, ofValue, isPure, evBin, ib_lss, ib_leq, ib_gtr, ib_geq, ib_eql, ib_neq, evUn, leave_normal, leave_ret, finish, then_normal, then_exit, then_ret, close_normal, close_exit, close_ret, evConv, mk_marks, dropMarks, resOf, resList, mk_getD, argF, List.getD_cons_zero, List.getD_cons_succ, V.cells, evLen, kdOp, kdOf, readsOf, protS, eq_bool, eq_nil28, evStore, V.oneCell, putElem, splice, -List.getD_eq_getElem?_getD, -getElem?_pos, und55, und53, und22, size3, size53, size58, size22, ty3, ty4, ty53, ty58, ty22, h0, h3, h4, htz, hand, hsub, hne, hne2, hmul, hadd, hy, y_inv]
        have hlim : 64 ≤ c + 1 + d := by omega
        refine (ih _ st' hlim (by omega) ?_ ?_ ?_ ?_).mono ?_
        · simp [upd_ne, upd_same, h0]
        · simp [upd_ne, upd_same, h3]
        · simp [upd_ne, upd_same]
        · exact hI'
        · rintro e f' s2 (⟨a1, a2, a3, a4, a5, a6⟩ | a)
          · refine .inl ⟨a1, a2, a3, ?_, ?_, ?_⟩
            · rw [a4]; simp [upd_ne]
            · rw [a5]; simp [upd_ne]
            · rw [a6]; simp [upd_ne]
          · exact .inr a
      · rw [go_loop_of e40_15]
        simp [g40_16, g40_17, g40_18, g40_19, g40_20, g40_21, g40_22, g40_23, g40_24, g40_25, g40_26, g40_27, g40_28, g40_29, l40_18, l40_25, l40_29, steps_nil, steps_cons, draws_nil, draws_cons, step_mk, stepB_some, stepB_none, memB_mk, thenS_some, regB_some, branch_bool, sel_true, sel_false, wanted_none, wanted_some, asB, mk_put, mk_put_none, arg_tmp, arg_const, arg_func, arg_global, upd_same, upd_ne, evPure, evArgs, m_load, m_store, m_alloc, m_box, m_call, m_lookup, m_mapUpdate, m_inv, evLoad, readCells, evFieldAddr, evIndexAddr, asIdx, ofValue, isPure, evBin, ib_lss, ib_leq, ib_gtr, ib_geq, ib_eql, ib_neq, evUn, leave_normal, leave_ret, finish, then_normal, then_exit, then_ret, close_normal, close_exit, close_ret, evConv, mk_marks, dropMarks, resOf, resList, mk_getD, argF, List.getD_cons_zero, List.getD_cons_succ, V.cells, evLen, kdOp, kdOf, readsOf, protS, eq_bool, eq_nil28, evStore, V.oneCell, putElem, splice, -List.getD_eq_getElem?_getD, -getElem?_pos, und55, und53, und22, size3, size53, size58, size22, ty3, ty4, ty53, ty58, ty22, h0, h3, h4, htz, hand, hsub, hne, hne2, hmul, hadd, hy, y_inv]
        exact .one (.inr ⟨rfl, hF⟩)
theorem all_outer (l b cv : Nat) (S : Nat → Bool) (I : List Nat → St → Prop) (Fin : St → Prop) (hm : nw b ≤ 1025)
    (hstep : ∀ n rem st, I (n :: rem) st → (∃ st', evYield (run tb) l [.int .i64 (n : Nat)] st = some (.bool true, st') ∧ I rem st') ∨ (∃ st', evYield (run tb) l [.int .i64 (n : Nat)] st = some (.bool false, st') ∧ Fin st'))
    (hend : ∀ st, I [] st → Fin st) (hcv : ∀ rem st, I rem st → st.store[cv]? = some (.vec false (words b S))) :
    ∀ (d k : Nat) (f : Nat → V) (st : St), k + d = nw b → f 0 = .func (.yield l) [] [] → f 9 = .slice cv 1 0 (nw b) → f 10 = .int .i64 (nw b : Nat) → f 11 = .int .i64 (k : Nat) → I (elems S (64 * k) (64 * d)) st →
    Out 31 [] (fun e f' st' => (e = .exit 0 ∨ e = .ret) ∧ Fin st') ((run tb).code none c40_3 (mk 31 f []) st) := by
  intro d
  induction d with
  | zero =>
    intro k f st hk h0 h9 h10 h11 hI
    have hk : k = nw b := hk
    subst hk
    rw [go_loop_of e40_3]
    simp [g40_4, g40_5, g40_6, g40_7, g40_8, g40_9, g40_10, g40_11, g40_12, g40_13, g40_14, g40_30, l40_5, l40_13, l40_30, steps_nil, steps_cons, draws_nil, draws_cons, step_mk, stepB_some, stepB_none, memB_mk, thenS_some, regB_some, branch_bool, sel_true, sel_false, wanted_none, wanted_some, asB, mk_put, mk_put_none, arg_tmp, arg_const, arg_func, arg_global, upd_same, upd_ne, evPure, evArgs, m_load, m_store, m_alloc, m_box, m_call, m_lookup, m_mapUpdate, m_inv, evLoad, readCells, evFieldAddr, evIndexAddr, asIdx, ofValue, isPure, evBin, ib_lss, ib_leq, ib_gtr, ib_geq, ib_eql, ib_neq, evUn, leave_normal, leave_ret, finish, then_normal, then_exit, then_ret, close_normal, close_exit, close_ret, evConv, mk_marks, dropMarks, resOf, resList, mk_getD, argF, List.getD_cons_zero, List.getD_cons_succ, V.cells, evLen, kdOp, kdOf, readsOf, protS, eq_bool, eq_nil28, evStore, V.oneCell, putElem, splice, -List.getD_eq_getElem?_getD, -getElem?_pos, und55, und53, und22, size3, size53, size58, size22, ty3, ty4, ty53, ty58, ty22, h0, h9, h10, h11]
    exact .one ⟨.inl rfl, hend _ hI⟩
  | succ d ih =>
    intro k f st hk h0 h9 h10 h11 hI
    have hlt : k < nw b := by omega
    have hw := words_get S hlt
    have hv := hcv _ _ hI
    have e1 : 64 * (d + 1) = 64 + 64 * d := by omega
    rw [e1, elems_app] at hI
    have hn : intBin .add .i64 (k : Nat) 1 = some (.int .i64 ((k + 1 : Nat) : Int)) := by rw [add64 (by omega) (by omega)]; simp
    have hr := restW_zero S k
    rw [← hr] at hw
    rw [go_loop_of e40_3]
    simp [g40_4, g40_5, g40_6, g40_7, g40_8, g40_9, g40_10, g40_11, g40_12, g40_13, g40_14, g40_30, l40_5, l40_13, l40_30, steps_nil, steps_cons, draws_nil, draws_cons, step_mk, stepB_some, stepB_none, memB_mk, thenS_some, regB_some, branch_bool, sel_true, sel_false, wanted_none, wanted_some, asB, mk_put, mk_put_none, arg_tmp, arg_const, arg_func, arg_global, upd_same, upd_ne, evPure, evArgs, m_load, m_store, m_alloc, m_box, m_call, m_lookup, m_mapUpdate, m_inv, evLoad, readCells, evFieldAddr, evIndexAddr, asIdx, ofValue, isPure, evBin, ib_lss, ib_leq, ib_gtr, ib_geq, ib_eql, ib_neq, evUn, leave_normal, leave_ret, finish, then_normal, then_exit, then_ret, close_normal, close_exit, close_ret, evConv, mk_marks, dropMarks, resOf, resList, mk_getD, argF, List.getD_cons_zero, List.getD_cons_succ, V.cells, evLen, kdOp, kdOf, readsOf, protS, eq_bool, eq_nil28, evStore, V.oneCell, putElem, splice, -List.getD_eq_getElem?_getD, -getElem?_pos, und55, und53, und22, size3, size53, size58, size22, ty3, ty4, ty53, ty58, ty22, h0, h9, h10, h11, hlt, hw, hv]
    refine Out.use (C := fun o => Out 31 [] _ (andThen (andThen (closeB 1 (closeB 2 o)) _) _)) (all_inner l k S I Fin (elems S (64 * k + 64) (64 * d)) (by omega) hstep 64 0 _ st (by omega) (by omega) ?_ ?_ ?_ ?_) ?_
    · simp [upd_ne, h0]
    · simp [upd_ne, upd_same]
    · simp [upd_ne, upd_same]
    · exact hI
    · rintro e f' st' (⟨rfl, hI', q0, q9, q10, q11⟩ | ⟨rfl, hF⟩)
      · have r9 : f' 9 = .slice cv 1 0 (nw b) := by rw [q9]; simp [upd_ne, h9]
        have r10 : f' 10 = .int .i64 (nw b : Nat) := by rw [q10]; simp [upd_ne, h10]
        have r11 : f' 11 = .int .i64 (k : Nat) := by rw [q11]; simp [upd_ne, h11]
        simp [g40_30, l40_30, steps_nil, steps_cons, draws_nil, draws_cons, step_mk, stepB_some, stepB_none, memB_mk, thenS_some, regB_some, branch_bool, sel_true, sel_false, wanted_none, wanted_some, asB, mk_put, mk_put_none, arg_tmp, arg_const, arg_func, arg_global, upd_same, upd_ne, evPure, evArgs, m_load, m_store, m_alloc, m_box, m_call, m_lookup, m_mapUpdate, m_inv, evLoad, readCells, evFieldAddr, evIndexAddr, asIdx, ofValue, isPure, evBin, ib_lss, ib_leq, ib_gtr, ib_geq, ib_eql, ib_neq, evUn, leave_normal, leave_ret, finish, then_normal, then_exit, then_ret, close_normal, close_exit, close_ret, evConv, mk_marks, dropMarks, resOf, resList, mk_getD, argF, List.getD_cons_zero, List.getD_cons_succ, V.cells, evLen, kdOp, kdOf, readsOf, protS, eq_bool, eq_nil28, evStore, V.oneCell, putElem, splice, -List.getD_eq_getElem?_getD, -getElem?_pos, und55, und53, und22, size3, size53, size58, size22, ty3, ty4, ty53, ty58, ty22, r11, hn]
        refine ih (k + 1) _ st' (by omega) ?_ ?_ ?_ ?_ ?_
        · simp [upd_ne, q0]
        · simp [upd_ne, r9]
        · simp [upd_ne, r10]
        · simp [upd_same]
        · have e2 : 64 * (k + 1) = 64 * k + 64 := by omega
          rw [e2]; exact hI'
      · simp only [close_ret, then_ret]
        exact .one ⟨.inr rfl, hF⟩
theorem all_run (l b pb r rv : Nat) (S : Nat → Bool) (I : List Nat → St → Prop) (Fin : St → Prop) (st : St) (hpb : st.store[pb]? = some (.box [.ptr r 0])) (hs : SetAt st r rv b S)
    (hstep : ∀ n rem st, I (n :: rem) st → (∃ st', evYield (run tb) l [.int .i64 (n : Nat)] st = some (.bool true, st') ∧ I rem st') ∨ (∃ st', evYield (run tb) l [.int .i64 (n : Nat)] st = some (.bool false, st') ∧ Fin st'))
    (hend : ∀ st, I [] st → Fin st) (hcv : ∀ rem s1, I rem s1 → nw b ≠ 0 → s1.store[st.store.length]? = some (.vec false (words b S)))
    (h1 : nw b = 0 → I [] st) (h2 : nw b ≠ 0 → I (elems S 0 (64 * nw b)) { st with store := st.store ++ [.vec false (words b S)] }) :
    Ret (fun v st' => v = .tup [] ∧ Fin st') ((run tb).call 40 [.func (.yield l) [] [], .ptr pb 0] st) := by
  have hb := hs.hb
  have hm : nw b ≤ 1025 := by have := hs.hm; unfold nw; omega
  have hc := clone41 st r rv b S hs
  by_cases hz : nw b = 0
  · rw [if_pos hz] at hc
    have hI := h1 hz
    rw [hz] at hb hc
    generalize hQ : (fun (v : V) (st' : St) => v = .tup [] ∧ Fin st') = Q
    rw [run40 (by simp)]
    simp [g40_0, g40_1, g40_2, l40_1, steps_nil, steps_cons, draws_nil, draws_cons, step_mk, stepB_some, stepB_none, memB_mk, thenS_some, regB_some, branch_bool, sel_true, sel_false, wanted_none, wanted_some, asB, mk_put, mk_put_none, arg_tmp, arg_const, arg_func, arg_global, upd_same, upd_ne, evPure, evArgs, m_load, m_store, m_alloc, m_box, m_call, m_lookup, m_mapUpdate, m_inv, evLoad, readCells, evFieldAddr, evIndexAddr, asIdx, ofValue, isPure, evBin, ib_lss, ib_leq, ib_gtr, ib_geq, ib_eql, ib_neq, evUn, leave_normal, leave_ret, finish, then_normal, then_exit, then_ret, close_normal, close_exit, close_ret, evConv, mk_marks, dropMarks, resOf, resList, mk_getD, argF, List.getD_cons_zero, List.getD_cons_succ, V.cells, evLen, kdOp, kdOf, readsOf, protS, eq_bool, eq_nil28, evStore, V.oneCell, putElem, splice, -List.getD_eq_getElem?_getD, -getElem?_pos, und55, und53, und22, size3, size53, size58, size22, ty3, ty4, ty53, ty58, ty22, hpb, hb, hc, ty28c]
    rw [go_loop_of e40_3]
    simp [g40_4, g40_5, g40_6, g40_7, g40_8, g40_9, g40_10, g40_11, g40_12, g40_13, g40_14, g40_30, l40_5, l40_13, l40_30, steps_nil, steps_cons, draws_nil, draws_cons, step_mk, stepB_some, stepB_none, memB_mk, thenS_some, regB_some, branch_bool, sel_true, sel_false, wanted_none, wanted_some, asB, mk_put, mk_put_none, arg_tmp, arg_const, arg_func, arg_global, upd_same, upd_ne, evPure, evArgs, m_load, m_store, m_alloc, m_box, m_call, m_lookup, m_mapUpdate, m_inv, evLoad, readCells, evFieldAddr, evIndexAddr, asIdx, ofValue, isPure, evBin, ib_lss, ib_leq, ib_gtr, ib_geq, ib_eql, ib_neq, evUn, leave_normal, leave_ret, finish, then_normal, then_exit, then_ret, close_normal, close_exit, close_ret, evConv, mk_marks, dropMarks, resOf, resList, mk_getD, argF, List.getD_cons_zero, List.getD_cons_succ, V.cells, evLen, kdOp, kdOf, readsOf, protS, eq_bool, eq_nil28, evStore, V.oneCell, putElem, splice, -List.getD_eq_getElem?_getD, -getElem?_pos, und55, und53, und22, size3, size53, size58, size22, ty3, ty4, ty53, ty58, ty22]
    subst hQ
    exact .one ⟨rfl, hend _ hI⟩
  · rw [if_neg hz] at hc
    have hI := h2 hz
    generalize hs2 : ({ st with store := st.store ++ [.vec false (words b S)] } : St) = s2 at *
    rw [run40 (by simp)]
    simp [g40_0, g40_1, g40_2, l40_1, steps_nil, steps_cons, draws_nil, draws_cons, step_mk, stepB_some, stepB_none, memB_mk, thenS_some, regB_some, branch_bool, sel_true, sel_false, wanted_none, wanted_some, asB, mk_put, mk_put_none, arg_tmp, arg_const, arg_func, arg_global, upd_same, upd_ne, evPure, evArgs, m_load, m_store, m_alloc, m_box, m_call, m_lookup, m_mapUpdate, m_inv, evLoad, readCells, evFieldAddr, evIndexAddr, asIdx, ofValue, isPure, evBin, ib_lss, ib_leq, ib_gtr, ib_geq, ib_eql, ib_neq, evUn, leave_normal, leave_ret, finish, then_normal, then_exit, then_ret, close_normal, close_exit, close_ret, evConv, mk_marks, dropMarks, resOf, resList, mk_getD, argF, List.getD_cons_zero, List.getD_cons_succ, V.cells, evLen, kdOp, kdOf, readsOf, protS, eq_bool, eq_nil28, evStore, V.oneCell, putElem, splice, -List.getD_eq_getElem?_getD, -getElem?_pos, und55, und53, und22, size3, size53, size58, size22, ty3, ty4, ty53, ty58, ty22, hpb, hb, hc, ty28c]
    refine Out.use (C := fun o => Ret _ (leave tb _ (closeB 0 o))) (all_outer l b st.store.length S I Fin hm hstep hend (fun rem s1 h => hcv rem s1 h hz) (nw b) 0 _ s2 (by omega) ?_ ?_ ?_ ?_ hI) ?_
    · simp [upd_ne, argF]
    · simp [upd_ne, upd_same]
    · simp [upd_ne, upd_same]
    · simp [upd_ne, upd_same]
    · rintro e f st' ⟨h | h, hF⟩
      · subst h
        simp [close_exit, leave_normal, finish, dropMarks, mk_marks, resOf, resList]
        exact .one ⟨rfl, hF⟩
      · subst h
        simp [close_ret, leave_ret, finish, dropMarks, mk_marks, resOf, resList]
        exact .one ⟨rfl, hF⟩
end Go.Proofs.YtgknieohkniojaaDoor
