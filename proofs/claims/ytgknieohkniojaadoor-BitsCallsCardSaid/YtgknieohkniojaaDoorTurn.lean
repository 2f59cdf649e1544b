/- The parts of the functions: names for the places of their code. The walks: a set is turned by another one; a clone. The walk: a clone. -/
import Derived.Test.YtgknieohkniojaaDoorSet
import Derived.Test.YtgknieohkniojaaDoorFwF
import Derived.Test.YtgknieohkniojaaDoorPairs
set_option linter.unusedVariables false
set_option linter.unusedSimpArgs false
set_option linter.unnecessarySimpa false
set_option linter.all false
namespace Go.Proofs.YtgknieohkniojaaDoor
open Go.Abs
set_option maxRecDepth 1000000
set_option linter.unusedSimpArgs false
variable {rd : Option Nat} {f : Nat → V} {m : List Nat} {st : St}
noncomputable def c17_0 : Code := bodyOf Tryd.f17
theorem b17 : Tryd.f17.body = some c17_0 := rfl
theorem n17 : Tryd.f17.ntmps = 19 := rfl
theorem r17 : Tryd.f17.results = #[.tmp 2] := rfl
theorem fn17 : tb.fn 17 = some Tryd.f17 := by rw [tb_eq]; exact Tryd.func17
theorem run17 {args : List V} {st : St} (ha : args.length ≤ 19) : (run tb).call 17 args st = leave tb [.tmp 2] ((run tb).code none c17_0 (mk 19 (argF args) []) st) := call_run fn17 (tbmode 17) b17 n17 r17 ha
noncomputable def c17_1 : Code := kid c17_0 0
noncomputable def c17_2 : Code := kid c17_0 1
noncomputable def c17_3 : Code := kid c17_2 0
noncomputable def c17_4 : Code := kid c17_2 1
noncomputable def c17_5 : Code := kid c17_4 0
noncomputable def c17_6 : Code := kid c17_4 1
noncomputable def c17_7 : Code := kid c17_6 0
noncomputable def c17_8 : Code := kid c17_6 1
noncomputable def o17_1 : Array Oper := opsOf (kid (bodyOf Tryd.f17) 0)
noncomputable def o17_3 : Array Oper := opsOf (kid (kid (bodyOf Tryd.f17) 1) 0)
noncomputable def o17_5 : Array Oper := opsOf (kid (kid (kid (bodyOf Tryd.f17) 1) 1) 0)
noncomputable def o17_7 : Array Oper := opsOf (kid (kid (kid (kid (bodyOf Tryd.f17) 1) 1) 1) 0)
theorem e17_0 : c17_0 = .seq c17_1 c17_2 := rfl
theorem e17_1 : c17_1 = .region 0 o17_1 false := rfl
theorem e17_2 : c17_2 = .seq c17_3 c17_4 := rfl
theorem e17_3 : c17_3 = .region 1 o17_3 false := rfl
theorem e17_4 : c17_4 = .seq c17_5 c17_6 := rfl
theorem e17_5 : c17_5 = .region 2 o17_5 true := rfl
theorem e17_6 : c17_6 = .seq c17_7 c17_8 := rfl
theorem e17_7 : c17_7 = .region 3 o17_7 false := rfl
theorem e17_8 : c17_8 = .ret := rfl
theorem g17_0 : (run tb).code rd c17_0 (mk 19 f m) st = andThen ((run tb).code rd c17_1 (mk 19 f m) st) (fun fr st => (run tb).code rd c17_2 fr st) := gx_seq e17_0
noncomputable def l17_1 : { l : List Step // lightOf o17_1 = l } := by refine ⟨?_, ?h⟩; case h => simp only [lightOf, o17_1, opsOf, kid, bodyOf, Tryd.f17, Option.getD_some, List.map, stepOf, Option.map, List.getElem?_toArray, List.getElem?_cons_succ, List.getElem?_cons_zero, Option.bind_some]; rfl
theorem g17_1 : (run tb).code rd c17_1 (mk 19 f m) st = regB (evSteps tb (run tb) l17_1.1 (mk 19 f m) st) := gx_region e17_1 l17_1.2
theorem g17_2 : (run tb).code rd c17_2 (mk 19 f m) st = andThen ((run tb).code rd c17_3 (mk 19 f m) st) (fun fr st => (run tb).code rd c17_4 fr st) := gx_seq e17_2
noncomputable def l17_3 : { l : List Step // lightOf o17_3 = l } := by refine ⟨?_, ?h⟩; case h => simp only [lightOf, o17_3, opsOf, kid, bodyOf, Tryd.f17, Option.getD_some, List.map, stepOf, Option.map, List.getElem?_toArray, List.getElem?_cons_succ, List.getElem?_cons_zero, Option.bind_some]; rfl
theorem g17_3 : (run tb).code rd c17_3 (mk 19 f m) st = regB (evSteps tb (run tb) l17_3.1 (mk 19 f m) st) := gx_region e17_3 l17_3.2
theorem g17_4 : (run tb).code rd c17_4 (mk 19 f m) st = andThen ((run tb).code rd c17_5 (mk 19 f m) st) (fun fr st => (run tb).code rd c17_6 fr st) := gx_seq e17_4
noncomputable def l17_5 : { l : List DStep // drawAt o17_5 [(0, 0), (1, 1), (2, 3), (3, 7), (4, 0), (5, 16), (6, 48), (7, 112), (8, 255)] = l } := by refine ⟨?_, ?h⟩; case h => simp only [drawAt, entsAt, o17_5, opsOf, kid, bodyOf, Tryd.f17, Option.getD_some, List.map, stepOf, Option.map, List.getElem?_toArray, List.getElem?_cons_succ, List.getElem?_cons_zero, Option.bind_some]; rfl
theorem g17_5 : (run tb).code rd c17_5 (mk 19 f m) st = regB (evDraws tb (run tb) l17_5.1 [] (mk 19 f m) st) := gx_draw [(0, 0), (1, 1), (2, 3), (3, 7), (4, 0), (5, 16), (6, 48), (7, 112), (8, 255)] e17_5 (by kernel_rfl) l17_5.2
theorem g17_6 : (run tb).code rd c17_6 (mk 19 f m) st = andThen ((run tb).code rd c17_7 (mk 19 f m) st) (fun fr st => (run tb).code rd c17_8 fr st) := gx_seq e17_6
noncomputable def l17_7 : { l : List Step // lightOf o17_7 = l } := by refine ⟨?_, ?h⟩; case h => simp only [lightOf, o17_7, opsOf, kid, bodyOf, Tryd.f17, Option.getD_some, List.map, stepOf, Option.map, List.getElem?_toArray, List.getElem?_cons_succ, List.getElem?_cons_zero, Option.bind_some]; rfl
theorem g17_7 : (run tb).code rd c17_7 (mk 19 f m) st = regB (evSteps tb (run tb) l17_7.1 (mk 19 f m) st) := gx_region e17_7 l17_7.2
theorem g17_8 : (run tb).code rd c17_8 (mk 19 f m) st = some (.ret, mk 19 f m, st) := gx_ret e17_8
noncomputable def c24_0 : Code := bodyOf Tryd.f24
theorem b24 : Tryd.f24.body = some c24_0 := rfl
theorem n24 : Tryd.f24.ntmps = 8 := rfl
theorem r24 : Tryd.f24.results = #[.tmp 4] := rfl
theorem fn24 : tb.fn 24 = some Tryd.f24 := by rw [tb_eq]; exact Tryd.func24
theorem run24 {args : List V} {st : St} (ha : args.length ≤ 8) : (run tb).call 24 args st = leave tb [.tmp 4] ((run tb).code none c24_0 (mk 8 (argF args) []) st) := call_run fn24 (tbmode 24) b24 n24 r24 ha
noncomputable def c24_1 : Code := kid c24_0 0
noncomputable def c24_2 : Code := kid c24_0 1
noncomputable def c24_3 : Code := kid c24_2 0
noncomputable def c24_4 : Code := kid c24_2 1
noncomputable def o24_1 : Array Oper := opsOf (kid (bodyOf Tryd.f24) 0)
noncomputable def o24_3 : Array Oper := opsOf (kid (kid (bodyOf Tryd.f24) 1) 0)
theorem e24_0 : c24_0 = .seq c24_1 c24_2 := rfl
theorem e24_1 : c24_1 = .region 0 o24_1 false := rfl
theorem e24_2 : c24_2 = .seq c24_3 c24_4 := rfl
theorem e24_3 : c24_3 = .region 1 o24_3 false := rfl
theorem e24_4 : c24_4 = .ret := rfl
theorem g24_0 : (run tb).code rd c24_0 (mk 8 f m) st = andThen ((run tb).code rd c24_1 (mk 8 f m) st) (fun fr st => (run tb).code rd c24_2 fr st) := gx_seq e24_0
noncomputable def l24_1 : { l : List Step // lightOf o24_1 = l } := by refine ⟨?_, ?h⟩; case h => simp only [lightOf, o24_1, opsOf, kid, bodyOf, Tryd.f24, Option.getD_some, List.map, stepOf, Option.map, List.getElem?_toArray, List.getElem?_cons_succ, List.getElem?_cons_zero, Option.bind_some]; rfl
theorem g24_1 : (run tb).code rd c24_1 (mk 8 f m) st = regB (evSteps tb (run tb) l24_1.1 (mk 8 f m) st) := gx_region e24_1 l24_1.2
theorem g24_2 : (run tb).code rd c24_2 (mk 8 f m) st = andThen ((run tb).code rd c24_3 (mk 8 f m) st) (fun fr st => (run tb).code rd c24_4 fr st) := gx_seq e24_2
noncomputable def l24_3 : { l : List Step // lightOf o24_3 = l } := by refine ⟨?_, ?h⟩; case h => simp only [lightOf, o24_3, opsOf, kid, bodyOf, Tryd.f24, Option.getD_some, List.map, stepOf, Option.map, List.getElem?_toArray, List.getElem?_cons_succ, List.getElem?_cons_zero, Option.bind_some]; rfl
theorem g24_3 : (run tb).code rd c24_3 (mk 8 f m) st = regB (evSteps tb (run tb) l24_3.1 (mk 8 f m) st) := gx_region e24_3 l24_3.2
theorem g24_4 : (run tb).code rd c24_4 (mk 8 f m) st = some (.ret, mk 8 f m, st) := gx_ret e24_4
noncomputable def c25_0 : Code := bodyOf Tryd.f25
theorem b25 : Tryd.f25.body = some c25_0 := rfl
theorem n25 : Tryd.f25.ntmps = 8 := rfl
theorem r25 : Tryd.f25.results = #[.tmp 4] := rfl
theorem fn25 : tb.fn 25 = some Tryd.f25 := by rw [tb_eq]; exact Tryd.func25
theorem run25 {args : List V} {st : St} (ha : args.length ≤ 8) : (run tb).call 25 args st = leave tb [.tmp 4] ((run tb).code none c25_0 (mk 8 (argF args) []) st) := call_run fn25 (tbmode 25) b25 n25 r25 ha
noncomputable def c25_1 : Code := kid c25_0 0
noncomputable def c25_2 : Code := kid c25_0 1
noncomputable def c25_3 : Code := kid c25_2 0
noncomputable def c25_4 : Code := kid c25_2 1
noncomputable def o25_1 : Array Oper := opsOf (kid (bodyOf Tryd.f25) 0)
noncomputable def o25_3 : Array Oper := opsOf (kid (kid (bodyOf Tryd.f25) 1) 0)
theorem e25_0 : c25_0 = .seq c25_1 c25_2 := rfl
theorem e25_1 : c25_1 = .region 0 o25_1 false := rfl
theorem e25_2 : c25_2 = .seq c25_3 c25_4 := rfl
theorem e25_3 : c25_3 = .region 1 o25_3 false := rfl
theorem e25_4 : c25_4 = .ret := rfl
theorem g25_0 : (run tb).code rd c25_0 (mk 8 f m) st = andThen ((run tb).code rd c25_1 (mk 8 f m) st) (fun fr st => (run tb).code rd c25_2 fr st) := gx_seq e25_0
noncomputable def l25_1 : { l : List Step // lightOf o25_1 = l } := by refine ⟨?_, ?h⟩; case h => simp only [lightOf, o25_1, opsOf, kid, bodyOf, Tryd.f25, Option.getD_some, List.map, stepOf, Option.map, List.getElem?_toArray, List.getElem?_cons_succ, List.getElem?_cons_zero, Option.bind_some]; rfl
theorem g25_1 : (run tb).code rd c25_1 (mk 8 f m) st = regB (evSteps tb (run tb) l25_1.1 (mk 8 f m) st) := gx_region e25_1 l25_1.2
theorem g25_2 : (run tb).code rd c25_2 (mk 8 f m) st = andThen ((run tb).code rd c25_3 (mk 8 f m) st) (fun fr st => (run tb).code rd c25_4 fr st) := gx_seq e25_2
noncomputable def l25_3 : { l : List Step // lightOf o25_3 = l } := by refine ⟨?_, ?h⟩; case h => simp only [lightOf, o25_3, opsOf, kid, bodyOf, Tryd.f25, Option.getD_some, List.map, stepOf, Option.map, List.getElem?_toArray, List.getElem?_cons_succ, List.getElem?_cons_zero, Option.bind_some]; rfl
theorem g25_3 : (run tb).code rd c25_3 (mk 8 f m) st = regB (evSteps tb (run tb) l25_3.1 (mk 8 f m) st) := gx_region e25_3 l25_3.2
theorem g25_4 : (run tb).code rd c25_4 (mk 8 f m) st = some (.ret, mk 8 f m, st) := gx_ret e25_4
noncomputable def c26_0 : Code := bodyOf Tryd.f26
theorem b26 : Tryd.f26.body = some c26_0 := rfl
theorem n26 : Tryd.f26.ntmps = 8 := rfl
theorem r26 : Tryd.f26.results = #[.tmp 4] := rfl
theorem fn26 : tb.fn 26 = some Tryd.f26 := by rw [tb_eq]; exact Tryd.func26
theorem run26 {args : List V} {st : St} (ha : args.length ≤ 8) : (run tb).call 26 args st = leave tb [.tmp 4] ((run tb).code none c26_0 (mk 8 (argF args) []) st) := call_run fn26 (tbmode 26) b26 n26 r26 ha
noncomputable def c26_1 : Code := kid c26_0 0
noncomputable def c26_2 : Code := kid c26_0 1
noncomputable def c26_3 : Code := kid c26_2 0
noncomputable def c26_4 : Code := kid c26_2 1
noncomputable def o26_1 : Array Oper := opsOf (kid (bodyOf Tryd.f26) 0)
noncomputable def o26_3 : Array Oper := opsOf (kid (kid (bodyOf Tryd.f26) 1) 0)
theorem e26_0 : c26_0 = .seq c26_1 c26_2 := rfl
theorem e26_1 : c26_1 = .region 0 o26_1 false := rfl
theorem e26_2 : c26_2 = .seq c26_3 c26_4 := rfl
theorem e26_3 : c26_3 = .region 1 o26_3 false := rfl
theorem e26_4 : c26_4 = .ret := rfl
theorem g26_0 : (run tb).code rd c26_0 (mk 8 f m) st = andThen ((run tb).code rd c26_1 (mk 8 f m) st) (fun fr st => (run tb).code rd c26_2 fr st) := gx_seq e26_0
noncomputable def l26_1 : { l : List Step // lightOf o26_1 = l } := by refine ⟨?_, ?h⟩; case h => simp only [lightOf, o26_1, opsOf, kid, bodyOf, Tryd.f26, Option.getD_some, List.map, stepOf, Option.map, List.getElem?_toArray, List.getElem?_cons_succ, List.getElem?_cons_zero, Option.bind_some]; rfl
theorem g26_1 : (run tb).code rd c26_1 (mk 8 f m) st = regB (evSteps tb (run tb) l26_1.1 (mk 8 f m) st) := gx_region e26_1 l26_1.2
theorem g26_2 : (run tb).code rd c26_2 (mk 8 f m) st = andThen ((run tb).code rd c26_3 (mk 8 f m) st) (fun fr st => (run tb).code rd c26_4 fr st) := gx_seq e26_2
noncomputable def l26_3 : { l : List Step // lightOf o26_3 = l } := by refine ⟨?_, ?h⟩; case h => simp only [lightOf, o26_3, opsOf, kid, bodyOf, Tryd.f26, Option.getD_some, List.map, stepOf, Option.map, List.getElem?_toArray, List.getElem?_cons_succ, List.getElem?_cons_zero, Option.bind_some]; rfl
theorem g26_3 : (run tb).code rd c26_3 (mk 8 f m) st = regB (evSteps tb (run tb) l26_3.1 (mk 8 f m) st) := gx_region e26_3 l26_3.2
theorem g26_4 : (run tb).code rd c26_4 (mk 8 f m) st = some (.ret, mk 8 f m, st) := gx_ret e26_4
noncomputable def c30_0 : Code := bodyOf Tryd.f30
theorem b30 : Tryd.f30.body = some c30_0 := rfl
theorem n30 : Tryd.f30.ntmps = 5 := rfl
theorem r30 : Tryd.f30.results = #[] := rfl
theorem fn30 : tb.fn 30 = some Tryd.f30 := by rw [tb_eq]; exact Tryd.func30
theorem run30 {args : List V} {st : St} (ha : args.length ≤ 5) : (run tb).call 30 args st = leave tb [] ((run tb).code none c30_0 (mk 5 (argF args) []) st) := call_run fn30 (tbmode 30) b30 n30 r30 ha
noncomputable def o30_0 : Array Oper := opsOf (bodyOf Tryd.f30)
theorem e30_0 : c30_0 = .region 0 o30_0 false := rfl
noncomputable def l30_0 : { l : List Step // lightOf o30_0 = l } := by refine ⟨?_, ?h⟩; case h => simp only [lightOf, o30_0, opsOf, kid, bodyOf, Tryd.f30, Option.getD_some, List.map, stepOf, Option.map, List.getElem?_toArray, List.getElem?_cons_succ, List.getElem?_cons_zero, Option.bind_some]; rfl
theorem g30_0 : (run tb).code rd c30_0 (mk 5 f m) st = regB (evSteps tb (run tb) l30_0.1 (mk 5 f m) st) := gx_region e30_0 l30_0.2
noncomputable def c36_0 : Code := bodyOf Tryd.f36
theorem b36 : Tryd.f36.body = some c36_0 := rfl
theorem n36 : Tryd.f36.ntmps = 54 := rfl
theorem r36 : Tryd.f36.results = #[.tmp 6] := rfl
theorem fn36 : tb.fn 36 = some Tryd.f36 := by rw [tb_eq]; exact Tryd.func36
theorem run36 {args : List V} {st : St} (ha : args.length ≤ 54) : (run tb).call 36 args st = leave tb [.tmp 6] ((run tb).code none c36_0 (mk 54 (argF args) []) st) := call_run fn36 (tbmode 36) b36 n36 r36 ha
noncomputable def c36_1 : Code := kid c36_0 0
noncomputable def c36_2 : Code := kid c36_0 1
noncomputable def c36_3 : Code := kid c36_2 0
noncomputable def c36_4 : Code := kid c36_2 1
noncomputable def c36_5 : Code := kid c36_4 0
noncomputable def c36_6 : Code := kid c36_5 0
noncomputable def c36_7 : Code := kid c36_5 1
noncomputable def c36_8 : Code := kid c36_7 0
noncomputable def c36_9 : Code := kid c36_8 0
noncomputable def c36_10 : Code := kid c36_9 0
noncomputable def c36_11 : Code := kid c36_9 1
noncomputable def c36_12 : Code := kid c36_11 0
noncomputable def c36_13 : Code := kid c36_12 0
noncomputable def c36_14 : Code := kid c36_12 1
noncomputable def c36_15 : Code := kid c36_11 1
noncomputable def c36_16 : Code := kid c36_15 0
noncomputable def c36_17 : Code := kid c36_16 0
noncomputable def c36_18 : Code := kid c36_17 0
noncomputable def c36_19 : Code := kid c36_17 1
noncomputable def c36_20 : Code := kid c36_19 0
noncomputable def c36_21 : Code := kid c36_19 1
noncomputable def c36_22 : Code := kid c36_21 0
noncomputable def c36_23 : Code := kid c36_22 0
noncomputable def c36_24 : Code := kid c36_22 1
noncomputable def c36_25 : Code := kid c36_24 0
noncomputable def c36_26 : Code := kid c36_24 1
noncomputable def c36_27 : Code := kid c36_21 1
noncomputable def c36_28 : Code := kid c36_27 0
noncomputable def c36_29 : Code := kid c36_27 1
noncomputable def c36_30 : Code := kid c36_15 1
noncomputable def c36_31 : Code := kid c36_4 1
noncomputable def c36_32 : Code := kid c36_31 0
noncomputable def c36_33 : Code := kid c36_31 1
noncomputable def o36_1 : Array Oper := opsOf (kid (bodyOf Tryd.f36) 0)
noncomputable def o36_3 : Array Oper := opsOf (kid (kid (bodyOf Tryd.f36) 1) 0)
noncomputable def o36_6 : Array Oper := opsOf (kid (kid (kid (kid (bodyOf Tryd.f36) 1) 1) 0) 0)
noncomputable def o36_10 : Array Oper := opsOf (kid (kid (kid (kid (kid (kid (kid (bodyOf Tryd.f36) 1) 1) 0) 1) 0) 0) 0)
noncomputable def o36_18 : Array Oper := opsOf (kid (kid (kid (kid (kid (kid (kid (kid (kid (kid (kid (bodyOf Tryd.f36) 1) 1) 0) 1) 0) 0) 1) 1) 0) 0) 0)
noncomputable def o36_20 : Array Oper := opsOf (kid (kid (kid (kid (kid (kid (kid (kid (kid (kid (kid (kid (bodyOf Tryd.f36) 1) 1) 0) 1) 0) 0) 1) 1) 0) 0) 1) 0)
noncomputable def o36_23 : Array Oper := opsOf (kid (kid (kid (kid (kid (kid (kid (kid (kid (kid (kid (kid (kid (kid (bodyOf Tryd.f36) 1) 1) 0) 1) 0) 0) 1) 1) 0) 0) 1) 1) 0) 0)
noncomputable def o36_25 : Array Oper := opsOf (kid (kid (kid (kid (kid (kid (kid (kid (kid (kid (kid (kid (kid (kid (kid (bodyOf Tryd.f36) 1) 1) 0) 1) 0) 0) 1) 1) 0) 0) 1) 1) 0) 1) 0)
noncomputable def o36_28 : Array Oper := opsOf (kid (kid (kid (kid (kid (kid (kid (kid (kid (kid (kid (kid (kid (kid (bodyOf Tryd.f36) 1) 1) 0) 1) 0) 0) 1) 1) 0) 0) 1) 1) 1) 0)
noncomputable def o36_29 : Array Oper := opsOf (kid (kid (kid (kid (kid (kid (kid (kid (kid (kid (kid (kid (kid (kid (bodyOf Tryd.f36) 1) 1) 0) 1) 0) 0) 1) 1) 0) 0) 1) 1) 1) 1)
noncomputable def o36_30 : Array Oper := opsOf (kid (kid (kid (kid (kid (kid (kid (kid (kid (bodyOf Tryd.f36) 1) 1) 0) 1) 0) 0) 1) 1) 1)
noncomputable def o36_32 : Array Oper := opsOf (kid (kid (kid (kid (bodyOf Tryd.f36) 1) 1) 1) 0)
theorem e36_0 : c36_0 = .seq c36_1 c36_2 := rfl
theorem e36_1 : c36_1 = .region 0 o36_1 false := rfl
theorem e36_2 : c36_2 = .seq c36_3 c36_4 := rfl
theorem e36_3 : c36_3 = .region 1 o36_3 false := rfl
theorem e36_4 : c36_4 = .seq c36_5 c36_31 := rfl
theorem e36_5 : c36_5 = .seq c36_6 c36_7 := rfl
theorem e36_6 : c36_6 = .region 2 o36_6 false := rfl
theorem e36_7 : c36_7 = .block 0 c36_8 := rfl
theorem e36_8 : c36_8 = .loop c36_9 := rfl
theorem e36_9 : c36_9 = .seq c36_10 c36_11 := rfl
theorem e36_10 : c36_10 = .region 3 o36_10 false := rfl
theorem e36_11 : c36_11 = .seq c36_12 c36_15 := rfl
theorem e36_12 : c36_12 = .cond (.tmp 17) c36_13 c36_14 := rfl
theorem e36_13 : c36_13 = .skip := rfl
theorem e36_14 : c36_14 = .exit 0 := rfl
theorem e36_15 : c36_15 = .seq c36_16 c36_30 := rfl
theorem e36_16 : c36_16 = .block 1 c36_17 := rfl
theorem e36_17 : c36_17 = .seq c36_18 c36_19 := rfl
theorem e36_18 : c36_18 = .region 4 o36_18 false := rfl
theorem e36_19 : c36_19 = .seq c36_20 c36_21 := rfl
theorem e36_20 : c36_20 = .region 5 o36_20 false := rfl
theorem e36_21 : c36_21 = .seq c36_22 c36_27 := rfl
theorem e36_22 : c36_22 = .seq c36_23 c36_24 := rfl
theorem e36_23 : c36_23 = .region 6 o36_23 false := rfl
theorem e36_24 : c36_24 = .cond (.tmp 34) c36_25 c36_26 := rfl
theorem e36_25 : c36_25 = .region 7 o36_25 false := rfl
theorem e36_26 : c36_26 = .skip := rfl
theorem e36_27 : c36_27 = .seq c36_28 c36_29 := rfl
theorem e36_28 : c36_28 = .region 8 o36_28 false := rfl
theorem e36_29 : c36_29 = .region 9 o36_29 false := rfl
theorem e36_30 : c36_30 = .region 10 o36_30 false := rfl
theorem e36_31 : c36_31 = .seq c36_32 c36_33 := rfl
theorem e36_32 : c36_32 = .region 11 o36_32 false := rfl
theorem e36_33 : c36_33 = .ret := rfl
theorem g36_0 : (run tb).code rd c36_0 (mk 54 f m) st = andThen ((run tb).code rd c36_1 (mk 54 f m) st) (fun fr st => (run tb).code rd c36_2 fr st) := gx_seq e36_0
noncomputable def l36_1 : { l : List Step // lightOf o36_1 = l } := by refine ⟨?_, ?h⟩; case h => simp only [lightOf, o36_1, opsOf, kid, bodyOf, Tryd.f36, Option.getD_some, List.map, stepOf, Option.map, List.getElem?_toArray, List.getElem?_cons_succ, List.getElem?_cons_zero, Option.bind_some]; rfl
theorem g36_1 : (run tb).code rd c36_1 (mk 54 f m) st = regB (evSteps tb (run tb) l36_1.1 (mk 54 f m) st) := gx_region e36_1 l36_1.2
theorem g36_2 : (run tb).code rd c36_2 (mk 54 f m) st = andThen ((run tb).code rd c36_3 (mk 54 f m) st) (fun fr st => (run tb).code rd c36_4 fr st) := gx_seq e36_2
noncomputable def l36_3 : { l : List Step // lightOf o36_3 = l } := by refine ⟨?_, ?h⟩; case h => simp only [lightOf, o36_3, opsOf, kid, bodyOf, Tryd.f36, Option.getD_some, List.map, stepOf, Option.map, List.getElem?_toArray, List.getElem?_cons_succ, List.getElem?_cons_zero, Option.bind_some]; rfl
theorem g36_3 : (run tb).code rd c36_3 (mk 54 f m) st = regB (evSteps tb (run tb) l36_3.1 (mk 54 f m) st) := gx_region e36_3 l36_3.2
theorem g36_4 : (run tb).code rd c36_4 (mk 54 f m) st = andThen ((run tb).code rd c36_5 (mk 54 f m) st) (fun fr st => (run tb).code rd c36_31 fr st) := gx_seq e36_4
theorem g36_5 : (run tb).code rd c36_5 (mk 54 f m) st = andThen ((run tb).code rd c36_6 (mk 54 f m) st) (fun fr st => (run tb).code rd c36_7 fr st) := gx_seq e36_5
noncomputable def l36_6 : { l : List Step // lightOf o36_6 = l } := by refine ⟨?_, ?h⟩; case h => simp only [lightOf, o36_6, opsOf, kid, bodyOf, Tryd.f36, Option.getD_some, List.map, stepOf, Option.map, List.getElem?_toArray, List.getElem?_cons_succ, List.getElem?_cons_zero, Option.bind_some]; rfl
theorem g36_6 : (run tb).code rd c36_6 (mk 54 f m) st = regB (evSteps tb (run tb) l36_6.1 (mk 54 f m) st) := gx_region e36_6 l36_6.2
theorem g36_7 : (run tb).code rd c36_7 (mk 54 f m) st = closeB 0 ((run tb).code rd c36_8 (mk 54 f m) st) := gx_block e36_7
theorem g36_9 : (run tb).code rd c36_9 (mk 54 f m) st = andThen ((run tb).code rd c36_10 (mk 54 f m) st) (fun fr st => (run tb).code rd c36_11 fr st) := gx_seq e36_9
noncomputable def l36_10 : { l : List Step // lightOf o36_10 = l } := by refine ⟨?_, ?h⟩; case h => simp only [lightOf, o36_10, opsOf, kid, bodyOf, Tryd.f36, Option.getD_some, List.map, stepOf, Option.map, List.getElem?_toArray, List.getElem?_cons_succ, List.getElem?_cons_zero, Option.bind_some]; rfl
theorem g36_10 : (run tb).code rd c36_10 (mk 54 f m) st = regB (evSteps tb (run tb) l36_10.1 (mk 54 f m) st) := gx_region e36_10 l36_10.2
theorem g36_11 : (run tb).code rd c36_11 (mk 54 f m) st = andThen ((run tb).code rd c36_12 (mk 54 f m) st) (fun fr st => (run tb).code rd c36_15 fr st) := gx_seq e36_11
theorem g36_12 : (run tb).code rd c36_12 (mk 54 f m) st = branch (f 17) (fun x => (run tb).code rd (sel x c36_13 c36_14) (mk 54 f m) st) := gx_cond e36_12 (by decide)
theorem g36_13 : (run tb).code rd c36_13 (mk 54 f m) st = some (.normal, mk 54 f m, st) := gx_skip e36_13
theorem g36_14 : (run tb).code rd c36_14 (mk 54 f m) st = some (.exit 0, mk 54 f m, st) := gx_exit e36_14
theorem g36_15 : (run tb).code rd c36_15 (mk 54 f m) st = andThen ((run tb).code rd c36_16 (mk 54 f m) st) (fun fr st => (run tb).code rd c36_30 fr st) := gx_seq e36_15
theorem g36_16 : (run tb).code rd c36_16 (mk 54 f m) st = closeB 1 ((run tb).code rd c36_17 (mk 54 f m) st) := gx_block e36_16
theorem g36_17 : (run tb).code rd c36_17 (mk 54 f m) st = andThen ((run tb).code rd c36_18 (mk 54 f m) st) (fun fr st => (run tb).code rd c36_19 fr st) := gx_seq e36_17
noncomputable def l36_18 : { l : List Step // lightOf o36_18 = l } := by refine ⟨?_, ?h⟩; case h => simp only [lightOf, o36_18, opsOf, kid, bodyOf, Tryd.f36, Option.getD_some, List.map, stepOf, Option.map, List.getElem?_toArray, List.getElem?_cons_succ, List.getElem?_cons_zero, Option.bind_some]; rfl
theorem g36_18 : (run tb).code rd c36_18 (mk 54 f m) st = regB (evSteps tb (run tb) l36_18.1 (mk 54 f m) st) := gx_region e36_18 l36_18.2
theorem g36_19 : (run tb).code rd c36_19 (mk 54 f m) st = andThen ((run tb).code rd c36_20 (mk 54 f m) st) (fun fr st => (run tb).code rd c36_21 fr st) := gx_seq e36_19
noncomputable def l36_20 : { l : List Step // lightOf o36_20 = l } := by refine ⟨?_, ?h⟩; case h => simp only [lightOf, o36_20, opsOf, kid, bodyOf, Tryd.f36, Option.getD_some, List.map, stepOf, Option.map, List.getElem?_toArray, List.getElem?_cons_succ, List.getElem?_cons_zero, Option.bind_some]; rfl
theorem g36_20 : (run tb).code rd c36_20 (mk 54 f m) st = regB (evSteps tb (run tb) l36_20.1 (mk 54 f m) st) := gx_region e36_20 l36_20.2
theorem g36_21 : (run tb).code rd c36_21 (mk 54 f m) st = andThen ((run tb).code rd c36_22 (mk 54 f m) st) (fun fr st => (run tb).code rd c36_27 fr st) := gx_seq e36_21
theorem g36_22 : (run tb).code rd c36_22 (mk 54 f m) st = andThen ((run tb).code rd c36_23 (mk 54 f m) st) (fun fr st => (run tb).code rd c36_24 fr st) := gx_seq e36_22
noncomputable def l36_23 : { l : List Step // lightOf o36_23 = l } := by refine ⟨?_, ?h⟩; case h => simp only [lightOf, o36_23, opsOf, kid, bodyOf, Tryd.f36, Option.getD_some, List.map, stepOf, Option.map, List.getElem?_toArray, List.getElem?_cons_succ, List.getElem?_cons_zero, Option.bind_some]; rfl
theorem g36_23 : (run tb).code rd c36_23 (mk 54 f m) st = regB (evSteps tb (run tb) l36_23.1 (mk 54 f m) st) := gx_region e36_23 l36_23.2
theorem g36_24 : (run tb).code rd c36_24 (mk 54 f m) st = branch (f 34) (fun x => (run tb).code rd (sel x c36_25 c36_26) (mk 54 f m) st) := gx_cond e36_24 (by decide)
noncomputable def l36_25 : { l : List Step // lightOf o36_25 = l } := by refine ⟨?_, ?h⟩; case h => simp only [lightOf, o36_25, opsOf, kid, bodyOf, Tryd.f36, Option.getD_some, List.map, stepOf, Option.map, List.getElem?_toArray, List.getElem?_cons_succ, List.getElem?_cons_zero, Option.bind_some]; rfl
theorem g36_25 : (run tb).code rd c36_25 (mk 54 f m) st = regB (evSteps tb (run tb) l36_25.1 (mk 54 f m) st) := gx_region e36_25 l36_25.2
theorem g36_26 : (run tb).code rd c36_26 (mk 54 f m) st = some (.normal, mk 54 f m, st) := gx_skip e36_26
theorem g36_27 : (run tb).code rd c36_27 (mk 54 f m) st = andThen ((run tb).code rd c36_28 (mk 54 f m) st) (fun fr st => (run tb).code rd c36_29 fr st) := gx_seq e36_27
noncomputable def l36_28 : { l : List Step // lightOf o36_28 = l } := by refine ⟨?_, ?h⟩; case h => simp only [lightOf, o36_28, opsOf, kid, bodyOf, Tryd.f36, Option.getD_some, List.map, stepOf, Option.map, List.getElem?_toArray, List.getElem?_cons_succ, List.getElem?_cons_zero, Option.bind_some]; rfl
theorem g36_28 : (run tb).code rd c36_28 (mk 54 f m) st = regB (evSteps tb (run tb) l36_28.1 (mk 54 f m) st) := gx_region e36_28 l36_28.2
noncomputable def l36_29 : { l : List Step // lightOf o36_29 = l } := by refine ⟨?_, ?h⟩; case h => simp only [lightOf, o36_29, opsOf, kid, bodyOf, Tryd.f36, Option.getD_some, List.map, stepOf, Option.map, List.getElem?_toArray, List.getElem?_cons_succ, List.getElem?_cons_zero, Option.bind_some]; rfl
theorem g36_29 : (run tb).code rd c36_29 (mk 54 f m) st = regB (evSteps tb (run tb) l36_29.1 (mk 54 f m) st) := gx_region e36_29 l36_29.2
noncomputable def l36_30 : { l : List Step // lightOf o36_30 = l } := by refine ⟨?_, ?h⟩; case h => simp only [lightOf, o36_30, opsOf, kid, bodyOf, Tryd.f36, Option.getD_some, List.map, stepOf, Option.map, List.getElem?_toArray, List.getElem?_cons_succ, List.getElem?_cons_zero, Option.bind_some]; rfl
theorem g36_30 : (run tb).code rd c36_30 (mk 54 f m) st = regB (evSteps tb (run tb) l36_30.1 (mk 54 f m) st) := gx_region e36_30 l36_30.2
theorem g36_31 : (run tb).code rd c36_31 (mk 54 f m) st = andThen ((run tb).code rd c36_32 (mk 54 f m) st) (fun fr st => (run tb).code rd c36_33 fr st) := gx_seq e36_31
noncomputable def l36_32 : { l : List Step // lightOf o36_32 = l } := by refine ⟨?_, ?h⟩; case h => simp only [lightOf, o36_32, opsOf, kid, bodyOf, Tryd.f36, Option.getD_some, List.map, stepOf, Option.map, List.getElem?_toArray, List.getElem?_cons_succ, List.getElem?_cons_zero, Option.bind_some]; rfl
theorem g36_32 : (run tb).code rd c36_32 (mk 54 f m) st = regB (evSteps tb (run tb) l36_32.1 (mk 54 f m) st) := gx_region e36_32 l36_32.2
theorem g36_33 : (run tb).code rd c36_33 (mk 54 f m) st = some (.ret, mk 54 f m, st) := gx_ret e36_33
noncomputable def c37_0 : Code := bodyOf Tryd.f37
theorem b37 : Tryd.f37.body = some c37_0 := rfl
theorem n37 : Tryd.f37.ntmps = 8 := rfl
theorem r37 : Tryd.f37.results = #[.tmp 4] := rfl
theorem fn37 : tb.fn 37 = some Tryd.f37 := by rw [tb_eq]; exact Tryd.func37
theorem run37 {args : List V} {st : St} (ha : args.length ≤ 8) : (run tb).call 37 args st = leave tb [.tmp 4] ((run tb).code none c37_0 (mk 8 (argF args) []) st) := call_run fn37 (tbmode 37) b37 n37 r37 ha
noncomputable def c37_1 : Code := kid c37_0 0
noncomputable def c37_2 : Code := kid c37_0 1
noncomputable def c37_3 : Code := kid c37_2 0
noncomputable def c37_4 : Code := kid c37_2 1
noncomputable def o37_1 : Array Oper := opsOf (kid (bodyOf Tryd.f37) 0)
noncomputable def o37_3 : Array Oper := opsOf (kid (kid (bodyOf Tryd.f37) 1) 0)
theorem e37_0 : c37_0 = .seq c37_1 c37_2 := rfl
theorem e37_1 : c37_1 = .region 0 o37_1 false := rfl
theorem e37_2 : c37_2 = .seq c37_3 c37_4 := rfl
theorem e37_3 : c37_3 = .region 1 o37_3 false := rfl
theorem e37_4 : c37_4 = .ret := rfl
theorem g37_0 : (run tb).code rd c37_0 (mk 8 f m) st = andThen ((run tb).code rd c37_1 (mk 8 f m) st) (fun fr st => (run tb).code rd c37_2 fr st) := gx_seq e37_0
noncomputable def l37_1 : { l : List Step // lightOf o37_1 = l } := by refine ⟨?_, ?h⟩; case h => simp only [lightOf, o37_1, opsOf, kid, bodyOf, Tryd.f37, Option.getD_some, List.map, stepOf, Option.map, List.getElem?_toArray, List.getElem?_cons_succ, List.getElem?_cons_zero, Option.bind_some]; rfl
theorem g37_1 : (run tb).code rd c37_1 (mk 8 f m) st = regB (evSteps tb (run tb) l37_1.1 (mk 8 f m) st) := gx_region e37_1 l37_1.2
theorem g37_2 : (run tb).code rd c37_2 (mk 8 f m) st = andThen ((run tb).code rd c37_3 (mk 8 f m) st) (fun fr st => (run tb).code rd c37_4 fr st) := gx_seq e37_2
noncomputable def l37_3 : { l : List Step // lightOf o37_3 = l } := by refine ⟨?_, ?h⟩; case h => simp only [lightOf, o37_3, opsOf, kid, bodyOf, Tryd.f37, Option.getD_some, List.map, stepOf, Option.map, List.getElem?_toArray, List.getElem?_cons_succ, List.getElem?_cons_zero, Option.bind_some]; rfl
theorem g37_3 : (run tb).code rd c37_3 (mk 8 f m) st = regB (evSteps tb (run tb) l37_3.1 (mk 8 f m) st) := gx_region e37_3 l37_3.2
theorem g37_4 : (run tb).code rd c37_4 (mk 8 f m) st = some (.ret, mk 8 f m, st) := gx_ret e37_4
noncomputable def c38_0 : Code := bodyOf Tryd.f38
theorem b38 : Tryd.f38.body = some c38_0 := rfl
theorem n38 : Tryd.f38.ntmps = 8 := rfl
theorem r38 : Tryd.f38.results = #[.tmp 4] := rfl
theorem fn38 : tb.fn 38 = some Tryd.f38 := by rw [tb_eq]; exact Tryd.func38
theorem run38 {args : List V} {st : St} (ha : args.length ≤ 8) : (run tb).call 38 args st = leave tb [.tmp 4] ((run tb).code none c38_0 (mk 8 (argF args) []) st) := call_run fn38 (tbmode 38) b38 n38 r38 ha
noncomputable def c38_1 : Code := kid c38_0 0
noncomputable def c38_2 : Code := kid c38_0 1
noncomputable def c38_3 : Code := kid c38_2 0
noncomputable def c38_4 : Code := kid c38_2 1
noncomputable def o38_1 : Array Oper := opsOf (kid (bodyOf Tryd.f38) 0)
noncomputable def o38_3 : Array Oper := opsOf (kid (kid (bodyOf Tryd.f38) 1) 0)
theorem e38_0 : c38_0 = .seq c38_1 c38_2 := rfl
theorem e38_1 : c38_1 = .region 0 o38_1 false := rfl
theorem e38_2 : c38_2 = .seq c38_3 c38_4 := rfl
theorem e38_3 : c38_3 = .region 1 o38_3 false := rfl
theorem e38_4 : c38_4 = .ret := rfl
theorem g38_0 : (run tb).code rd c38_0 (mk 8 f m) st = andThen ((run tb).code rd c38_1 (mk 8 f m) st) (fun fr st => (run tb).code rd c38_2 fr st) := gx_seq e38_0
noncomputable def l38_1 : { l : List Step // lightOf o38_1 = l } := by refine ⟨?_, ?h⟩; case h => simp only [lightOf, o38_1, opsOf, kid, bodyOf, Tryd.f38, Option.getD_some, List.map, stepOf, Option.map, List.getElem?_toArray, List.getElem?_cons_succ, List.getElem?_cons_zero, Option.bind_some]; rfl
theorem g38_1 : (run tb).code rd c38_1 (mk 8 f m) st = regB (evSteps tb (run tb) l38_1.1 (mk 8 f m) st) := gx_region e38_1 l38_1.2
theorem g38_2 : (run tb).code rd c38_2 (mk 8 f m) st = andThen ((run tb).code rd c38_3 (mk 8 f m) st) (fun fr st => (run tb).code rd c38_4 fr st) := gx_seq e38_2
noncomputable def l38_3 : { l : List Step // lightOf o38_3 = l } := by refine ⟨?_, ?h⟩; case h => simp only [lightOf, o38_3, opsOf, kid, bodyOf, Tryd.f38, Option.getD_some, List.map, stepOf, Option.map, List.getElem?_toArray, List.getElem?_cons_succ, List.getElem?_cons_zero, Option.bind_some]; rfl
theorem g38_3 : (run tb).code rd c38_3 (mk 8 f m) st = regB (evSteps tb (run tb) l38_3.1 (mk 8 f m) st) := gx_region e38_3 l38_3.2
theorem g38_4 : (run tb).code rd c38_4 (mk 8 f m) st = some (.ret, mk 8 f m, st) := gx_ret e38_4
noncomputable def c39_0 : Code := bodyOf Tryd.f39
theorem b39 : Tryd.f39.body = some c39_0 := rfl
theorem n39 : Tryd.f39.ntmps = 8 := rfl
theorem r39 : Tryd.f39.results = #[.tmp 4] := rfl
theorem fn39 : tb.fn 39 = some Tryd.f39 := by rw [tb_eq]; exact Tryd.func39
theorem run39 {args : List V} {st : St} (ha : args.length ≤ 8) : (run tb).call 39 args st = leave tb [.tmp 4] ((run tb).code none c39_0 (mk 8 (argF args) []) st) := call_run fn39 (tbmode 39) b39 n39 r39 ha
noncomputable def c39_1 : Code := kid c39_0 0
noncomputable def c39_2 : Code := kid c39_0 1
noncomputable def c39_3 : Code := kid c39_2 0
noncomputable def c39_4 : Code := kid c39_2 1
noncomputable def o39_1 : Array Oper := opsOf (kid (bodyOf Tryd.f39) 0)
noncomputable def o39_3 : Array Oper := opsOf (kid (kid (bodyOf Tryd.f39) 1) 0)
theorem e39_0 : c39_0 = .seq c39_1 c39_2 := rfl
theorem e39_1 : c39_1 = .region 0 o39_1 false := rfl
theorem e39_2 : c39_2 = .seq c39_3 c39_4 := rfl
theorem e39_3 : c39_3 = .region 1 o39_3 false := rfl
theorem e39_4 : c39_4 = .ret := rfl
theorem g39_0 : (run tb).code rd c39_0 (mk 8 f m) st = andThen ((run tb).code rd c39_1 (mk 8 f m) st) (fun fr st => (run tb).code rd c39_2 fr st) := gx_seq e39_0
noncomputable def l39_1 : { l : List Step // lightOf o39_1 = l } := by refine ⟨?_, ?h⟩; case h => simp only [lightOf, o39_1, opsOf, kid, bodyOf, Tryd.f39, Option.getD_some, List.map, stepOf, Option.map, List.getElem?_toArray, List.getElem?_cons_succ, List.getElem?_cons_zero, Option.bind_some]; rfl
theorem g39_1 : (run tb).code rd c39_1 (mk 8 f m) st = regB (evSteps tb (run tb) l39_1.1 (mk 8 f m) st) := gx_region e39_1 l39_1.2
theorem g39_2 : (run tb).code rd c39_2 (mk 8 f m) st = andThen ((run tb).code rd c39_3 (mk 8 f m) st) (fun fr st => (run tb).code rd c39_4 fr st) := gx_seq e39_2
noncomputable def l39_3 : { l : List Step // lightOf o39_3 = l } := by refine ⟨?_, ?h⟩; case h => simp only [lightOf, o39_3, opsOf, kid, bodyOf, Tryd.f39, Option.getD_some, List.map, stepOf, Option.map, List.getElem?_toArray, List.getElem?_cons_succ, List.getElem?_cons_zero, Option.bind_some]; rfl
theorem g39_3 : (run tb).code rd c39_3 (mk 8 f m) st = regB (evSteps tb (run tb) l39_3.1 (mk 8 f m) st) := gx_region e39_3 l39_3.2
theorem g39_4 : (run tb).code rd c39_4 (mk 8 f m) st = some (.ret, mk 8 f m, st) := gx_ret e39_4
noncomputable def c44_0 : Code := bodyOf Tryd.f44
theorem b44 : Tryd.f44.body = some c44_0 := rfl
theorem n44 : Tryd.f44.ntmps = 5 := rfl
theorem r44 : Tryd.f44.results = #[.tmp 4] := rfl
theorem fn44 : tb.fn 44 = some Tryd.f44 := by rw [tb_eq]; exact Tryd.func44
theorem run44 {args : List V} {st : St} (ha : args.length ≤ 5) : (run tb).call 44 args st = leave tb [.tmp 4] ((run tb).code none c44_0 (mk 5 (argF args) []) st) := call_run fn44 (tbmode 44) b44 n44 r44 ha
noncomputable def c44_1 : Code := kid c44_0 0
noncomputable def c44_2 : Code := kid c44_0 1
noncomputable def c44_3 : Code := kid c44_2 0
noncomputable def c44_4 : Code := kid c44_2 1
noncomputable def o44_1 : Array Oper := opsOf (kid (bodyOf Tryd.f44) 0)
noncomputable def o44_3 : Array Oper := opsOf (kid (kid (bodyOf Tryd.f44) 1) 0)
theorem e44_0 : c44_0 = .seq c44_1 c44_2 := rfl
theorem e44_1 : c44_1 = .region 0 o44_1 false := rfl
theorem e44_2 : c44_2 = .seq c44_3 c44_4 := rfl
theorem e44_3 : c44_3 = .region 1 o44_3 false := rfl
theorem e44_4 : c44_4 = .ret := rfl
theorem g44_0 : (run tb).code rd c44_0 (mk 5 f m) st = andThen ((run tb).code rd c44_1 (mk 5 f m) st) (fun fr st => (run tb).code rd c44_2 fr st) := gx_seq e44_0
noncomputable def l44_1 : { l : List Step // lightOf o44_1 = l } := by refine ⟨?_, ?h⟩; case h => simp only [lightOf, o44_1, opsOf, kid, bodyOf, Tryd.f44, Option.getD_some, List.map, stepOf, Option.map, List.getElem?_toArray, List.getElem?_cons_succ, List.getElem?_cons_zero, Option.bind_some]; rfl
theorem g44_1 : (run tb).code rd c44_1 (mk 5 f m) st = regB (evSteps tb (run tb) l44_1.1 (mk 5 f m) st) := gx_region e44_1 l44_1.2
theorem g44_2 : (run tb).code rd c44_2 (mk 5 f m) st = andThen ((run tb).code rd c44_3 (mk 5 f m) st) (fun fr st => (run tb).code rd c44_4 fr st) := gx_seq e44_2
noncomputable def l44_3 : { l : List Step // lightOf o44_3 = l } := by refine ⟨?_, ?h⟩; case h => simp only [lightOf, o44_3, opsOf, kid, bodyOf, Tryd.f44, Option.getD_some, List.map, stepOf, Option.map, List.getElem?_toArray, List.getElem?_cons_succ, List.getElem?_cons_zero, Option.bind_some]; rfl
theorem g44_3 : (run tb).code rd c44_3 (mk 5 f m) st = regB (evSteps tb (run tb) l44_3.1 (mk 5 f m) st) := gx_region e44_3 l44_3.2
theorem g44_4 : (run tb).code rd c44_4 (mk 5 f m) st = some (.ret, mk 5 f m, st) := gx_ret e44_4
noncomputable def c47_0 : Code := bodyOf Tryd.f47
theorem b47 : Tryd.f47.body = some c47_0 := rfl
theorem n47 : Tryd.f47.ntmps = 14 := rfl
theorem r47 : Tryd.f47.results = #[.tmp 2] := rfl
theorem fn47 : tb.fn 47 = some Tryd.f47 := by rw [tb_eq]; exact Tryd.func47
theorem run47 {args : List V} {st : St} (ha : args.length ≤ 14) : (run tb).call 47 args st = leave tb [.tmp 2] ((run tb).code none c47_0 (mk 14 (argF args) []) st) := call_run fn47 (tbmode 47) b47 n47 r47 ha
noncomputable def c47_1 : Code := kid c47_0 0
noncomputable def c47_2 : Code := kid c47_0 1
noncomputable def c47_3 : Code := kid c47_2 0
noncomputable def c47_4 : Code := kid c47_3 0
noncomputable def c47_5 : Code := kid c47_3 1
noncomputable def c47_6 : Code := kid c47_5 0
noncomputable def c47_7 : Code := kid c47_5 1
noncomputable def c47_8 : Code := kid c47_7 0
noncomputable def c47_9 : Code := kid c47_8 0
noncomputable def c47_10 : Code := kid c47_8 1
noncomputable def c47_11 : Code := kid c47_7 1
noncomputable def c47_12 : Code := kid c47_2 1
noncomputable def c47_13 : Code := kid c47_12 0
noncomputable def c47_14 : Code := kid c47_12 1
noncomputable def o47_1 : Array Oper := opsOf (kid (bodyOf Tryd.f47) 0)
noncomputable def o47_4 : Array Oper := opsOf (kid (kid (kid (bodyOf Tryd.f47) 1) 0) 0)
noncomputable def o47_6 : Array Oper := opsOf (kid (kid (kid (kid (bodyOf Tryd.f47) 1) 0) 1) 0)
noncomputable def o47_9 : Array Oper := opsOf (kid (kid (kid (kid (kid (kid (bodyOf Tryd.f47) 1) 0) 1) 1) 0) 0)
noncomputable def o47_13 : Array Oper := opsOf (kid (kid (kid (bodyOf Tryd.f47) 1) 1) 0)
theorem e47_0 : c47_0 = .seq c47_1 c47_2 := rfl
theorem e47_1 : c47_1 = .region 0 o47_1 false := rfl
theorem e47_2 : c47_2 = .seq c47_3 c47_12 := rfl
theorem e47_3 : c47_3 = .seq c47_4 c47_5 := rfl
theorem e47_4 : c47_4 = .region 1 o47_4 false := rfl
theorem e47_5 : c47_5 = .seq c47_6 c47_7 := rfl
theorem e47_6 : c47_6 = .region 2 o47_6 false := rfl
theorem e47_7 : c47_7 = .cond (.tmp 10) c47_8 c47_11 := rfl
theorem e47_8 : c47_8 = .seq c47_9 c47_10 := rfl
theorem e47_9 : c47_9 = .region 3 o47_9 false := rfl
theorem e47_10 : c47_10 = .ret := rfl
theorem e47_11 : c47_11 = .skip := rfl
theorem e47_12 : c47_12 = .seq c47_13 c47_14 := rfl
theorem e47_13 : c47_13 = .region 4 o47_13 false := rfl
theorem e47_14 : c47_14 = .ret := rfl
theorem g47_0 : (run tb).code rd c47_0 (mk 14 f m) st = andThen ((run tb).code rd c47_1 (mk 14 f m) st) (fun fr st => (run tb).code rd c47_2 fr st) := gx_seq e47_0
noncomputable def l47_1 : { l : List Step // lightOf o47_1 = l } := by refine ⟨?_, ?h⟩; case h => simp only [lightOf, o47_1, opsOf, kid, bodyOf, Tryd.f47, Option.getD_some, List.map, stepOf, Option.map, List.getElem?_toArray, List.getElem?_cons_succ, List.getElem?_cons_zero, Option.bind_some]; rfl
theorem g47_1 : (run tb).code rd c47_1 (mk 14 f m) st = regB (evSteps tb (run tb) l47_1.1 (mk 14 f m) st) := gx_region e47_1 l47_1.2
theorem g47_2 : (run tb).code rd c47_2 (mk 14 f m) st = andThen ((run tb).code rd c47_3 (mk 14 f m) st) (fun fr st => (run tb).code rd c47_12 fr st) := gx_seq e47_2
theorem g47_3 : (run tb).code rd c47_3 (mk 14 f m) st = andThen ((run tb).code rd c47_4 (mk 14 f m) st) (fun fr st => (run tb).code rd c47_5 fr st) := gx_seq e47_3
noncomputable def l47_4 : { l : List Step // lightOf o47_4 = l } := by refine ⟨?_, ?h⟩; case h => simp only [lightOf, o47_4, opsOf, kid, bodyOf, Tryd.f47, Option.getD_some, List.map, stepOf, Option.map, List.getElem?_toArray, List.getElem?_cons_succ, List.getElem?_cons_zero, Option.bind_some]; rfl
theorem g47_4 : (run tb).code rd c47_4 (mk 14 f m) st = regB (evSteps tb (run tb) l47_4.1 (mk 14 f m) st) := gx_region e47_4 l47_4.2
theorem g47_5 : (run tb).code rd c47_5 (mk 14 f m) st = andThen ((run tb).code rd c47_6 (mk 14 f m) st) (fun fr st => (run tb).code rd c47_7 fr st) := gx_seq e47_5
noncomputable def l47_6 : { l : List Step // lightOf o47_6 = l } := by refine ⟨?_, ?h⟩; case h => simp only [lightOf, o47_6, opsOf, kid, bodyOf, Tryd.f47, Option.getD_some, List.map, stepOf, Option.map, List.getElem?_toArray, List.getElem?_cons_succ, List.getElem?_cons_zero, Option.bind_some]; rfl
theorem g47_6 : (run tb).code rd c47_6 (mk 14 f m) st = regB (evSteps tb (run tb) l47_6.1 (mk 14 f m) st) := gx_region e47_6 l47_6.2
theorem g47_7 : (run tb).code rd c47_7 (mk 14 f m) st = branch (f 10) (fun x => (run tb).code rd (sel x c47_8 c47_11) (mk 14 f m) st) := gx_cond e47_7 (by decide)
theorem g47_8 : (run tb).code rd c47_8 (mk 14 f m) st = andThen ((run tb).code rd c47_9 (mk 14 f m) st) (fun fr st => (run tb).code rd c47_10 fr st) := gx_seq e47_8
noncomputable def l47_9 : { l : List Step // lightOf o47_9 = l } := by refine ⟨?_, ?h⟩; case h => simp only [lightOf, o47_9, opsOf, kid, bodyOf, Tryd.f47, Option.getD_some, List.map, stepOf, Option.map, List.getElem?_toArray, List.getElem?_cons_succ, List.getElem?_cons_zero, Option.bind_some]; rfl
theorem g47_9 : (run tb).code rd c47_9 (mk 14 f m) st = regB (evSteps tb (run tb) l47_9.1 (mk 14 f m) st) := gx_region e47_9 l47_9.2
theorem g47_10 : (run tb).code rd c47_10 (mk 14 f m) st = some (.ret, mk 14 f m, st) := gx_ret e47_10
theorem g47_11 : (run tb).code rd c47_11 (mk 14 f m) st = some (.normal, mk 14 f m, st) := gx_skip e47_11
theorem g47_12 : (run tb).code rd c47_12 (mk 14 f m) st = andThen ((run tb).code rd c47_13 (mk 14 f m) st) (fun fr st => (run tb).code rd c47_14 fr st) := gx_seq e47_12
noncomputable def l47_13 : { l : List Step // lightOf o47_13 = l } := by refine ⟨?_, ?h⟩; case h => simp only [lightOf, o47_13, opsOf, kid, bodyOf, Tryd.f47, Option.getD_some, List.map, stepOf, Option.map, List.getElem?_toArray, List.getElem?_cons_succ, List.getElem?_cons_zero, Option.bind_some]; rfl
theorem g47_13 : (run tb).code rd c47_13 (mk 14 f m) st = regB (evSteps tb (run tb) l47_13.1 (mk 14 f m) st) := gx_region e47_13 l47_13.2
theorem g47_14 : (run tb).code rd c47_14 (mk 14 f m) st = some (.ret, mk 14 f m, st) := gx_ret e47_14
end Go.Proofs.YtgknieohkniojaaDoor
namespace Go.Proofs.YtgknieohkniojaaDoor
open Go.Abs
set_option maxRecDepth 100000
set_option linter.unusedSimpArgs false
set_option linter.unusedVariables false
set_option maxHeartbeats 4000000
theorem meet_how (st : St) (x y : Nat) (hx : x < 2 ^ 64) (hy : y < 2 ^ 64) : (run tb).call 37 [.int .u64 (x : Nat), .int .u64 (y : Nat)] st = some (.int .u64 ((x &&& y : Nat) : Int), st) := by
  have h := and64 x y hx hy
  generalize x &&& y = z at *
  rw [run37 (by simp)]
  simp [g37_0, g37_1, g37_2, g37_3, g37_4, l37_1, l37_3, steps_nil, steps_cons, draws_nil, draws_cons, step_mk, stepB_some, stepB_none, memB_mk, thenS_some, regB_some, branch_bool, sel_true, sel_false, wanted_none, wanted_some, asB, mk_put, mk_put_none, arg_tmp, arg_const, arg_func, arg_global, upd_same, upd_ne, evPure, evArgs, m_load, m_store, m_alloc, m_box, m_call, m_lookup, m_mapUpdate, m_inv, evLoad, readCells, evFieldAddr, evIndexAddr, asIdx, ofValue, isPure, evBin, ib_lss, ib_leq, ib_gtr, ib_geq, ib_eql, ib_neq, evUn, leave_normal, leave_ret, finish, then_normal, then_exit, then_ret, close_normal, close_exit, close_ret, evConv, mk_marks, dropMarks, resOf, resList, mk_getD, argF, List.getD_cons_zero, List.getD_cons_succ, V.cells, evLen, kdOp, kdOf, readsOf, protS, eq_bool, eq_nil28, evStore, V.oneCell, putElem, splice, -List.getD_eq_getElem?_getD, -getElem?_pos, und55, und53, und22, size3, size53, size58, size22, ty3, ty4, ty53, ty58, ty22, h]
theorem less_how (st : St) (x y : Nat) (hx : x < 2 ^ 64) (hy : y < 2 ^ 64) : (run tb).call 38 [.int .u64 (x : Nat), .int .u64 (y : Nat)] st = some (.int .u64 ((x &&& (2 ^ 64 - 1 - y) : Nat) : Int), st) := by
  have h := andNot64 x y hx hy
  generalize x &&& (2 ^ 64 - 1 - y) = z at *
  rw [run38 (by simp)]
  simp [g38_0, g38_1, g38_2, g38_3, g38_4, l38_1, l38_3, steps_nil, steps_cons, draws_nil, draws_cons, step_mk, stepB_some, stepB_none, memB_mk, thenS_some, regB_some, branch_bool, sel_true, sel_false, wanted_none, wanted_some, asB, mk_put, mk_put_none, arg_tmp, arg_const, arg_func, arg_global, upd_same, upd_ne, evPure, evArgs, m_load, m_store, m_alloc, m_box, m_call, m_lookup, m_mapUpdate, m_inv, evLoad, readCells, evFieldAddr, evIndexAddr, asIdx, ofValue, isPure, evBin, ib_lss, ib_leq, ib_gtr, ib_geq, ib_eql, ib_neq, evUn, leave_normal, leave_ret, finish, then_normal, then_exit, then_ret, close_normal, close_exit, close_ret, evConv, mk_marks, dropMarks, resOf, resList, mk_getD, argF, List.getD_cons_zero, List.getD_cons_succ, V.cells, evLen, kdOp, kdOf, readsOf, protS, eq_bool, eq_nil28, evStore, V.oneCell, putElem, splice, -List.getD_eq_getElem?_getD, -getElem?_pos, und55, und53, und22, size3, size53, size58, size22, ty3, ty4, ty53, ty58, ty22, h]
theorem join_how (st : St) (x y : Nat) (hx : x < 2 ^ 64) (hy : y < 2 ^ 64) : (run tb).call 39 [.int .u64 (x : Nat), .int .u64 (y : Nat)] st = some (.int .u64 ((x ||| y : Nat) : Int), st) := by
  have h := or64 x y hx hy
  generalize x ||| y = z at *
  rw [run39 (by simp)]
  simp [g39_0, g39_1, g39_2, g39_3, g39_4, l39_1, l39_3, steps_nil, steps_cons, draws_nil, draws_cons, step_mk, stepB_some, stepB_none, memB_mk, thenS_some, regB_some, branch_bool, sel_true, sel_false, wanted_none, wanted_some, asB, mk_put, mk_put_none, arg_tmp, arg_const, arg_func, arg_global, upd_same, upd_ne, evPure, evArgs, m_load, m_store, m_alloc, m_box, m_call, m_lookup, m_mapUpdate, m_inv, evLoad, readCells, evFieldAddr, evIndexAddr, asIdx, ofValue, isPure, evBin, ib_lss, ib_leq, ib_gtr, ib_geq, ib_eql, ib_neq, evUn, leave_normal, leave_ret, finish, then_normal, then_exit, then_ret, close_normal, close_exit, close_ret, evConv, mk_marks, dropMarks, resOf, resList, mk_getD, argF, List.getD_cons_zero, List.getD_cons_succ, V.cells, evLen, kdOp, kdOf, readsOf, protS, eq_bool, eq_nil28, evStore, V.oneCell, putElem, splice, -List.getD_eq_getElem?_getD, -getElem?_pos, und55, und53, und22, size3, size53, size58, size22, ty3, ty4, ty53, ty58, ty22, h]
theorem fill_how (st : St) (x y : Nat) : (run tb).call 44 [.int .u64 (x : Nat), .int .u64 (y : Nat)] st = some (.int .u64 ((18446744073709551615 : Nat) : Int), st) := by
  rw [run44 (by simp)]
  simp [g44_0, g44_1, g44_2, g44_3, g44_4, l44_1, l44_3, steps_nil, steps_cons, draws_nil, draws_cons, step_mk, stepB_some, stepB_none, memB_mk, thenS_some, regB_some, branch_bool, sel_true, sel_false, wanted_none, wanted_some, asB, mk_put, mk_put_none, arg_tmp, arg_const, arg_func, arg_global, upd_same, upd_ne, evPure, evArgs, m_load, m_store, m_alloc, m_box, m_call, m_lookup, m_mapUpdate, m_inv, evLoad, readCells, evFieldAddr, evIndexAddr, asIdx, ofValue, isPure, evBin, ib_lss, ib_leq, ib_gtr, ib_geq, ib_eql, ib_neq, evUn, leave_normal, leave_ret, finish, then_normal, then_exit, then_ret, close_normal, close_exit, close_ret, evConv, mk_marks, dropMarks, resOf, resList, mk_getD, argF, List.getD_cons_zero, List.getD_cons_succ, V.cells, evLen, kdOp, kdOf, readsOf, protS, eq_bool, eq_nil28, evStore, V.oneCell, putElem, splice, -List.getD_eq_getElem?_getD, -getElem?_pos, und55, und53, und22, size3, size53, size58, size22, ty3, ty4, ty53, ty58, ty22]
def lastBits (b : Nat) : Nat := if b % 64 = 0 then 64 else b % 64
theorem last_run (st : St) (r rv b : Nat) (S : Nat → Bool) (h : SetAt st r rv b S) : (run tb).call 47 [.ptr r 0] st = some (.int .u64 ((2 ^ lastBits b - 1 : Nat) : Int), st) := by
  have hb := h.hb
  have hm : intBin .rem .i64 (b : Nat) 64 = some (.int .i64 ((b % 64 : Nat) : Int)) := rem64 64 rfl (by decide)
  by_cases hz : b % 64 = 0
  · have e : (2 ^ lastBits b - 1 : Nat) = 18446744073709551615 := by unfold lastBits; rw [if_pos hz]
    rw [e]
    rw [hz] at hm
    rw [run47 (by simp)]
    simp [g47_0, g47_1, g47_2, g47_3, g47_4, g47_5, g47_6, g47_7, g47_8, g47_9, g47_10, g47_11, g47_12, g47_13, g47_14, l47_1, l47_4, l47_6, l47_9, l47_13, steps_nil, steps_cons, draws_nil, draws_cons, step_mk, stepB_some, stepB_none, memB_mk, thenS_some, regB_some, branch_bool, sel_true, sel_false, wanted_none, wanted_some, asB, mk_put, mk_put_none, arg_tmp, arg_const, arg_func, arg_global, upd_same, upd_ne, evPure, evArgs, m_load, m_store, m_alloc, m_box, m_call, m_lookup, m_mapUpdate, m_inv, evLoad, readCells, evFieldAddr, evIndexAddr, asIdx, ofValue, isPure, evBin, ib_lss, ib_leq, ib_gtr, ib_geq, ib_eql, ib_neq, evUn, leave_normal, leave_ret, finish, then_normal, then_exit, then_ret, close_normal, close_exit, close_ret, evConv, mk_marks, dropMarks, resOf, resList, mk_getD, argF, List.getD_cons_zero, List.getD_cons_succ, V.cells, evLen, kdOp, kdOf, readsOf, protS, eq_bool, eq_nil28, evStore, V.oneCell, putElem, splice, -List.getD_eq_getElem?_getD, -getElem?_pos, und55, und53, und22, size3, size53, size58, size22, ty3, ty4, ty53, ty58, ty22, hb, hm]
  · have e : (2 ^ lastBits b - 1 : Nat) = 2 ^ (b % 64) - 1 := by unfold lastBits; rw [if_neg hz]
    rw [e]
    have hl : b % 64 < 64 := Nat.mod_lt _ (by decide)
    have hs := shl1 (b % 64) hl
    have hp : 0 < 2 ^ (b % 64) := Nat.pos_of_ne_zero (by simp)
    have hq : 2 ^ (b % 64) < 2 ^ 64 := Nat.pow_lt_pow_right (by decide) hl
    have hsub : intBin .sub .u64 ((2 ^ (b % 64) : Nat) : Int) 1 = some (.int .u64 ((2 ^ (b % 64) - 1 : Nat) : Int)) := subU (2 ^ (b % 64)) 1 (by omega) hq
    have hne : (((b % 64 : Nat) : Int) != 0) = true := by simp; omega
    generalize 2 ^ (b % 64) - 1 = w at *
    generalize 2 ^ (b % 64) = u at *
    generalize b % 64 = t at *
    rw [run47 (by simp)]
    simp [g47_0, g47_1, g47_2, g47_3, g47_4, g47_5, g47_6, g47_7, g47_8, g47_9, g47_10, g47_11, g47_12, g47_13, g47_14, l47_1, l47_4, l47_6, l47_9, l47_13, steps_nil, steps_cons, draws_nil, draws_cons, step_mk, stepB_some, stepB_none, memB_mk, thenS_some, regB_some, branch_bool, sel_true, sel_false, wanted_none, wanted_some, asB, mk_put, mk_put_none, arg_tmp, arg_const, arg_func, arg_global, upd_same, upd_ne, evPure, evArgs, m_load, m_store, m_alloc, m_box, m_call, m_lookup, m_mapUpdate, m_inv, evLoad, readCells, evFieldAddr, evIndexAddr, asIdx, ofValue, isPure, evBin, ib_lss, ib_leq, ib_gtr, ib_geq, ib_eql, ib_neq, evUn, leave_normal, leave_ret, finish, then_normal, then_exit, then_ret, close_normal, close_exit, close_ret, evConv, mk_marks, dropMarks, resOf, resList, mk_getD, argF, List.getD_cons_zero, List.getD_cons_succ, V.cells, evLen, kdOp, kdOf, readsOf, protS, eq_bool, eq_nil28, evStore, V.oneCell, putElem, splice, -List.getD_eq_getElem?_getD, -getElem?_pos, und55, und53, und22, size3, size53, size58, size22, ty3, ty4, ty53, ty58, ty22, hb, hm, hs, hsub, hne]
/-- The set behind a turn; a set of which the words below k are turned. -/
def turned (b : Nat) (op : Bool → Bool → Bool) (S O : Nat → Bool) : Nat → Bool := fun i => decide (i < b) && op (S i) (O i)
def mixS (S' S : Nat → Bool) (k : Nat) : Nat → Bool := fun i => if i / 64 < k then S' i else S i
theorem wd_mix (S' S : Nat → Bool) (k : Nat) : wd (mixS S' S k) k = wd S k := wd_eq fun j hj => by
  have : ¬ (64 * k + j) / 64 < k := by omega
  simp [mixS, this]
theorem words_mix (b k : Nat) (S' S : Nat → Bool) : (words b (mixS S' S k)).set k (.int .u64 (wd S' k : Nat)) = words b (mixS S' S (k + 1)) := by
  apply words_set (wd_lt _ _)
  · intro j hj
    rw [wd_testBit]
    have : (64 * k + j) / 64 < k + 1 := by omega
    simp [mixS, hj, this]
  · intro i hi
    unfold mixS
    by_cases h : i / 64 < k
    · have : i / 64 < k + 1 := by omega
      simp [h, this]
    · have : ¬ i / 64 < k + 1 := by omega
      simp [h, this]
theorem mix_z {b k : Nat} {S' S : Nat → Bool} (h' : ∀ i, b ≤ i → S' i = false) (h : ∀ i, b ≤ i → S i = false) : ∀ i, b ≤ i → mixS S' S k i = false := fun i hi => by
  unfold mixS; split
  · exact h' i hi
  · exact h i hi
/-- The word that is stored. -/
theorem turn_word {b k z : Nat} {op : Bool → Bool → Bool} {S O : Nat → Bool} (hk : k < nw b) (hz : z < 2 ^ 64) (hb : ∀ j, j < 64 → z.testBit j = op (S (64 * k + j)) (O (64 * k + j))) :
    (if k + 1 = nw b then z &&& (2 ^ lastBits b - 1) else z) = wd (turned b op S O) k := by
  have h1 : (if k + 1 = nw b then z &&& (2 ^ lastBits b - 1) else z) < 2 ^ 64 := by
    split
    · exact Nat.lt_of_le_of_lt Nat.and_le_left hz
    · exact hz
  apply eq_of_bits64 h1 (wd_lt _ _)
  intro j hj
  rw [wd_testBit]
  unfold turned
  have hlast : lastBits b ≤ 64 := by unfold lastBits; split <;> omega
  by_cases he : k + 1 = nw b
  · rw [if_pos he, Nat.testBit_and, hb j hj, Nat.testBit_two_pow_sub_one]
    have : decide (j < lastBits b) = decide (64 * k + j < b) := by
      apply decide_eq_decide.2
      unfold lastBits nw at *
      split <;> omega
    rw [this]
    simp [hj, Bool.and_comm]
  · rw [if_neg he, hb j hj]
    have : 64 * k + j < b := by unfold nw at *; omega
    simp [hj, this]
/-- One round of a turn. -/
theorem turn_round (r o rv b g k k1 : Nat) (c : Bool) (m : Nat) (x y z w w' lst : Nat) (ws : List V) (st : St) (f : Nat → V)
    (hb : st.store[r]? = some (.box [.int .i64 (b : Int), .slice rv 1 0 m])) (hv : st.store[rv]? = some (.vec false ws)) (hl : Free st rv) (hw : ws[k]? = some (.int .u64 (x : Nat))) (hk : k < m) (hm : (m : Int) < 2000)
    (ho : (run tb).call 46 [.ptr o 0, .int .i64 (k : Nat)] st = some (.int .u64 (y : Nat), st)) (hg : (run tb).call g [.int .u64 (x : Nat), .int .u64 (y : Nat)] st = some (.int .u64 (z : Nat), st))
    (hlast : (run tb).call 47 [.ptr r 0] st = some (.int .u64 (lst : Nat), st)) (hand : intBin .and .u64 (z : Nat) (lst : Nat) = some (.int .u64 (w : Nat))) (hw' : (if k + 1 = m then w else z) = w')
    (hn : intBin .add .i64 (k : Nat) 1 = some (.int .i64 (k1 : Nat)))
    (h0 : f 0 = .ptr r 0) (h1 : f 1 = .ptr o 0) (h2 : f 2 = .func (.func g) [] []) (h7 : f 7 = .bool c) (h14 : f 14 = .slice rv 1 0 m) (h15 : f 15 = .int .i64 (m : Nat)) (h16 : f 16 = .int .i64 (k : Nat)) {Q : E → (Nat → V) → St → Prop}
    (next : ∀ f', f' 0 = .ptr r 0 → f' 1 = .ptr o 0 → f' 2 = .func (.func g) [] [] → f' 7 = .bool (c || !(x == w')) → f' 14 = .slice rv 1 0 m → f' 15 = .int .i64 (m : Nat) → f' 16 = .int .i64 (k1 : Nat) → Out 54 [] Q ((run tb).code none c36_8 (mk 54 f' []) { st with store := st.store.set rv (.vec false (ws.set k (.int .u64 (w' : Nat)))) })) :
    Out 54 [] Q ((run tb).code none c36_8 (mk 54 f []) st) := by
  have hkk : st.locked rv = false := by simp [St.locked, Nat.not_lt.2 hl.1, hl.2]
  have hs : intBin .sub .i64 (m : Nat) 1 = some (.int .i64 ((m - 1 : Nat) : Int)) := by rw [sub64 (by omega) (by omega)]; congr 2; omega
  have he : ((k : Int) == ((m - 1 : Nat) : Int)) = decide (k + 1 = m) := by
    by_cases h : k + 1 = m
    · simp [h]; omega
    · simp [h]; omega
  have hne : ((w' : Int) != (x : Int)) = !(x == w') := by
    by_cases h : x = w'
    · simp [h]
    · have q1 : (x == w') = false := by simp [h]
      have q2 : ((w' : Int) != (x : Int)) = true := by simp only [bne_iff_ne, ne_eq]; omega
      rw [q1, q2]; rfl
  generalize m - 1 = m1 at *
  by_cases hkm : k + 1 = m
  · rw [if_pos hkm] at hw'
    subst hw'
    rw [decide_eq_true hkm] at he
    generalize (x == w) = q at *
    rw [go_loop_of e36_8]
    cases c
    all_goals
      simp [g36_9, g36_10, g36_11, g36_12, g36_13, g36_14, g36_15, g36_16, g36_17, g36_18, g36_19, g36_20, g36_21, g36_22, g36_23, g36_24, g36_25, g36_26, g36_27, g36_28, g36_29, g36_30, l36_10, l36_18, l36_20, l36_23, l36_25, l36_28, l36_29, l36_30, steps_nil, steps_cons, draws_nil, draws_cons, step_mk, stepB_some, stepB_none, memB_mk, thenS_some, regB_some, branch_bool, sel_true, sel_false, wanted_none, wanted_some, asB, mk_put, mk_put_none, arg_tmp, arg_const, arg_func, arg_global, upd_same, upd_ne, evPure, evArgs, m_load, m_store, m_alloc, m_box, m_call, m_lookup, m_mapUpdate, m_inv, evLoad, readCells, evFieldAddr, evIndexAddr, asIdx, ofValue, isPure, evBin, ib_lss, ib_leq, ib_gtr, ib_geq, ib_eql, ib_neq, evUn, leave_normal, leave_ret, finish, then_normal, then_exit, then_ret, close_normal, close_exit, close_ret, evConv, mk_marks, dropMarks, resOf, resList, mk_getD, argF, List.getD_cons_zero, List.getD_cons_succ, V.cells, evLen, kdOp, kdOf, readsOf, protS, eq_bool, eq_nil28, evStore, V.oneCell, putElem, splice, -List.getD_eq_getElem?_getD, -getElem?_pos, und55, und53, und22, size3, size53, size58, size22, ty3, ty4, ty53, ty58, ty22, h0, h1, h2, h7, h14, h15, h16, hb, hv, hw, hk, ho, hg, hlast, hand, hn, hs, he, hne, hkk]
      refine next _ ?_ ?_ ?_ ?_ ?_ ?_ ?_
      all_goals try simp [upd_same, upd_ne, h0, h1, h2, h14, h15]
  · rw [if_neg hkm] at hw'
    subst hw'
    rw [decide_eq_false hkm] at he
    generalize (x == z) = q at *
    rw [go_loop_of e36_8]
    cases c
    all_goals
      simp [g36_9, g36_10, g36_11, g36_12, g36_13, g36_14, g36_15, g36_16, g36_17, g36_18, g36_19, g36_20, g36_21, g36_22, g36_23, g36_24, g36_25, g36_26, g36_27, g36_28, g36_29, g36_30, l36_10, l36_18, l36_20, l36_23, l36_25, l36_28, l36_29, l36_30, steps_nil, steps_cons, draws_nil, draws_cons, step_mk, stepB_some, stepB_none, memB_mk, thenS_some, regB_some, branch_bool, sel_true, sel_false, wanted_none, wanted_some, asB, mk_put, mk_put_none, arg_tmp, arg_const, arg_func, arg_global, upd_same, upd_ne, evPure, evArgs, m_load, m_store, m_alloc, m_box, m_call, m_lookup, m_mapUpdate, m_inv, evLoad, readCells, evFieldAddr, evIndexAddr, asIdx, ofValue, isPure, evBin, ib_lss, ib_leq, ib_gtr, ib_geq, ib_eql, ib_neq, evUn, leave_normal, leave_ret, finish, then_normal, then_exit, then_ret, close_normal, close_exit, close_ret, evConv, mk_marks, dropMarks, resOf, resList, mk_getD, argF, List.getD_cons_zero, List.getD_cons_succ, V.cells, evLen, kdOp, kdOf, readsOf, protS, eq_bool, eq_nil28, evStore, V.oneCell, putElem, splice, -List.getD_eq_getElem?_getD, -getElem?_pos, und55, und53, und22, size3, size53, size58, size22, ty3, ty4, ty53, ty58, ty22, h0, h1, h2, h7, h14, h15, h16, hb, hv, hw, hk, ho, hg, hlast, hand, hn, hs, he, hne, hkk]
      refine next _ ?_ ?_ ?_ ?_ ?_ ?_ ?_
      all_goals try simp [upd_same, upd_ne, h0, h1, h2, h14, h15]
theorem putW_set {st : St} {rv b k : Nat} {S : Nat → Bool} {x : V} : ({ putW st rv b S with store := (putW st rv b S).store.set rv (.vec false ((words b S).set k x)) } : St) = { st with store := st.store.set rv (.vec false ((words b S).set k x)) } := by
  unfold putW; simp
theorem turn_loop (r o rv b g : Nat) (op : Bool → Bool → Bool) (S O : Nat → Bool) (st : St) (hs : SetAt st r rv b S) (hl : Free st rv) (z : Nat → Nat)
    (hz : ∀ k, z k < 2 ^ 64 ∧ ∀ j, j < 64 → (z k).testBit j = op (S (64 * k + j)) (O (64 * k + j)))
    (hO : ∀ k, k < nw b → (run tb).call 46 [.ptr o 0, .int .i64 (k : Nat)] (putW st rv b (mixS (turned b op S O) S k)) = some (.int .u64 (wd O k : Nat), putW st rv b (mixS (turned b op S O) S k)))
    (hG : ∀ k st, (run tb).call g [.int .u64 (wd S k : Nat), .int .u64 (wd O k : Nat)] st = some (.int .u64 (z k : Nat), st)) : ∀ (d k : Nat) (f : Nat → V), k + d = nw b → f 0 = .ptr r 0 → f 1 = .ptr o 0 → f 2 = .func (.func g) [] [] → f 7 = .bool (!(allB (fun j => wd S j == wd (turned b op S O) j) k)) → f 14 = .slice rv 1 0 (nw b) → f 15 = .int .i64 (nw b : Nat) → f 16 = .int .i64 (k : Nat) →
    Out 54 [] (fun e f' st' => e = .exit 0 ∧ st' = putW st rv b (mixS (turned b op S O) S (nw b)) ∧ f' 7 = .bool (!(allB (fun j => wd S j == wd (turned b op S O) j) (nw b)))) ((run tb).code none c36_8 (mk 54 f []) (putW st rv b (mixS (turned b op S O) S k)))
  | 0, k, f, hk, h0, h1, h2, h7, h14, h15, h16 => by
    have hk : k = nw b := hk
    subst hk
    generalize allB (fun j => wd S j == wd (turned b op S O) j) (nw b) = c at *
    generalize putW st rv b (mixS (turned b op S O) S (nw b)) = s1 at *
    rw [go_loop_of e36_8]
    simp [g36_9, g36_10, g36_11, g36_12, g36_13, g36_14, g36_15, g36_16, g36_17, g36_18, g36_19, g36_20, g36_21, g36_22, g36_23, g36_24, g36_25, g36_26, g36_27, g36_28, g36_29, g36_30, l36_10, l36_18, l36_20, l36_23, l36_25, l36_28, l36_29, l36_30, steps_nil, steps_cons, draws_nil, draws_cons, step_mk, stepB_some, stepB_none, memB_mk, thenS_some, regB_some, branch_bool, sel_true, sel_false, wanted_none, wanted_some, asB, mk_put, mk_put_none, arg_tmp, arg_const, arg_func, arg_global, upd_same, upd_ne, evPure, evArgs, m_load, m_store, m_alloc, m_box, m_call, m_lookup, m_mapUpdate, m_inv, evLoad, readCells, evFieldAddr, evIndexAddr, asIdx, ofValue, isPure, evBin, ib_lss, ib_leq, ib_gtr, ib_geq, ib_eql, ib_neq, evUn, leave_normal, leave_ret, finish, then_normal, then_exit, then_ret, close_normal, close_exit, close_ret, evConv, mk_marks, dropMarks, resOf, resList, mk_getD, argF, List.getD_cons_zero, List.getD_cons_succ, V.cells, evLen, kdOp, kdOf, readsOf, protS, eq_bool, eq_nil28, evStore, V.oneCell, putElem, splice, -List.getD_eq_getElem?_getD, -getElem?_pos, und55, und53, und22, size3, size53, size58, size22, ty3, ty4, ty53, ty58, ty22, h15, h16]
    exact .one ⟨rfl, rfl, by simp [upd_ne, h7]⟩
  | d + 1, k, f, hk, h0, h1, h2, h7, h14, h15, h16 => by
    have hb := hs.hm
    have hkm : k < nw b := by omega
    have hnw : nw b ≤ 1025 := by unfold nw; omega
    have hz' : ∀ i, b ≤ i → turned b op S O i = false := fun i hi => by unfold turned; simp; omega
    have hsk : SetAt (putW st rv b (mixS (turned b op S O) S k)) r rv b (mixS (turned b op S O) S k) := hs.put (mix_z hz' hs.hz)
    have hw := words_get (mixS (turned b op S O) S k) hkm
    rw [wd_mix] at hw
    have hlast := last_run _ r rv b _ hsk
    have htw := turn_word (op := op) (S := S) (O := O) hkm (hz k).1 (hz k).2
    have hlt : 2 ^ lastBits b - 1 < 2 ^ 64 := by
      have h1 : lastBits b ≤ 64 := by unfold lastBits; split <;> omega
      have h2 : 2 ^ lastBits b ≤ 2 ^ 64 := Nat.pow_le_pow_right (by decide) h1
      omega
    have hand := and64 (z k) (2 ^ lastBits b - 1) (hz k).1 hlt
    have hn : intBin .add .i64 (k : Nat) 1 = some (.int .i64 ((k + 1 : Nat) : Int)) := by rw [add64 (by omega) (by omega)]; simp
    refine turn_round r o rv b g k (k + 1) _ (nw b) (wd S k) (wd O k) (z k) _ (wd (turned b op S O) k) _ (words b (mixS (turned b op S O) S k)) _ f hsk.hb hsk.hv hl hw hkm (by omega) (hO k hkm) (hG k _) hlast hand htw hn h0 h1 h2 h7 h14 h15 h16 ?_
    intro f' q0 q1 q2 q7 q14 q15 q16
    rw [putW_set, words_mix]
    refine turn_loop r o rv b g op S O st hs hl z hz hO hG d (k + 1) f' (by omega) q0 q1 q2 ?_ q14 q15 q16
    rw [q7]
    simp only [allB, Bool.not_and]
theorem mix_end {b : Nat} {S' S : Nat → Bool} (hz' : ∀ i, b ≤ i → S' i = false) (hz : ∀ i, b ≤ i → S i = false) : mixS S' S (nw b) = S' := by
  funext i
  unfold mixS
  split
  · rfl
  · rw [hz i (by unfold nw at *; omega), hz' i (by unfold nw at *; omega)]
theorem mix_start {S' S : Nat → Bool} : mixS S' S 0 = S := by
  funext i
  unfold mixS
  simp
theorem turned_z {b : Nat} {op : Bool → Bool → Bool} {S O : Nat → Bool} : ∀ i, b ≤ i → turned b op S O i = false := fun i hi => by unfold turned; simp; omega
theorem turn_run (r o rv b g : Nat) (op : Bool → Bool → Bool) (S O : Nat → Bool) (st : St) (hs : SetAt st r rv b S) (hl : Free st rv) (z : Nat → Nat)
    (hz : ∀ k, z k < 2 ^ 64 ∧ ∀ j, j < 64 → (z k).testBit j = op (S (64 * k + j)) (O (64 * k + j)))
    (hO : ∀ k, k < nw b → (run tb).call 46 [.ptr o 0, .int .i64 (k : Nat)] (putW st rv b (mixS (turned b op S O) S k)) = some (.int .u64 (wd O k : Nat), putW st rv b (mixS (turned b op S O) S k)))
    (hG : ∀ k st, (run tb).call g [.int .u64 (wd S k : Nat), .int .u64 (wd O k : Nat)] st = some (.int .u64 (z k : Nat), st)) (c : Bool) (hc : c = false ↔ ∀ i, S i = turned b op S O i) :
    (run tb).call 36 [.ptr r 0, .ptr o 0, .func (.func g) [] []] st = some (.bool c, putW st rv b (turned b op S O)) := by
  have hb := hs.hb
  have e0 : putW st rv b (mixS (turned b op S O) S 0) = st := by rw [mix_start]; exact putW_self hs fun _ => rfl
  have e1 := mix_end (S' := turned b op S O) turned_z hs.hz
  have hcc : (!(allB (fun j => wd S j == wd (turned b op S O) j) (nw b))) = c := by
    have h1 := allB_iff (fun j => wd S j == wd (turned b op S O) j) (nw b)
    have h2 := wd_iff (a := b) (b := b) (S := S) (S' := turned b op S O) (Nat.max_self _) hs.hz turned_z
    have h3 : allB (fun j => wd S j == wd (turned b op S O) j) (nw b) = true ↔ c = false := by rw [h1, hc]; exact h2
    cases hq : allB (fun j => wd S j == wd (turned b op S O) j) (nw b) <;> cases c <;> simp_all
  rw [run36 (by simp)]
  simp [g36_0, g36_1, g36_2, g36_3, g36_4, g36_5, g36_6, g36_7, l36_1, l36_3, l36_6, steps_nil, steps_cons, draws_nil, draws_cons, step_mk, stepB_some, stepB_none, memB_mk, thenS_some, regB_some, branch_bool, sel_true, sel_false, wanted_none, wanted_some, asB, mk_put, mk_put_none, arg_tmp, arg_const, arg_func, arg_global, upd_same, upd_ne, evPure, evArgs, m_load, m_store, m_alloc, m_box, m_call, m_lookup, m_mapUpdate, m_inv, evLoad, readCells, evFieldAddr, evIndexAddr, asIdx, ofValue, isPure, evBin, ib_lss, ib_leq, ib_gtr, ib_geq, ib_eql, ib_neq, evUn, leave_normal, leave_ret, finish, then_normal, then_exit, then_ret, close_normal, close_exit, close_ret, evConv, mk_marks, dropMarks, resOf, resList, mk_getD, argF, List.getD_cons_zero, List.getD_cons_succ, V.cells, evLen, kdOp, kdOf, readsOf, protS, eq_bool, eq_nil28, evStore, V.oneCell, putElem, splice, -List.getD_eq_getElem?_getD, -getElem?_pos, und55, und53, und22, size3, size53, size58, size22, ty3, ty4, ty53, ty58, ty22, hb]
  have hloop := turn_loop r o rv b g op S O st hs hl z hz hO hG (nw b) 0
  rw [e0, e1] at hloop
  refine Out.use (C := fun o => leave tb _ (andThen (closeB 0 o) _) = _) (hloop _ (by omega) ?_ ?_ ?_ ?_ ?_ ?_ ?_) ?_
  · simp [upd_same, upd_ne, argF]
  · simp [upd_same, upd_ne, argF]
  · simp [upd_same, upd_ne, argF]
  · simp [upd_same, upd_ne, allB]
  · simp [upd_same, upd_ne]
  · simp [upd_same, upd_ne]
  · simp [upd_same, upd_ne]
  · rintro e f st' ⟨rfl, rfl, q7⟩
    rw [hcc] at q7
    simp [g36_31, g36_32, g36_33, l36_32, steps_nil, steps_cons, draws_nil, draws_cons, step_mk, stepB_some, stepB_none, memB_mk, thenS_some, regB_some, branch_bool, sel_true, sel_false, wanted_none, wanted_some, asB, mk_put, mk_put_none, arg_tmp, arg_const, arg_func, arg_global, upd_same, upd_ne, evPure, evArgs, m_load, m_store, m_alloc, m_box, m_call, m_lookup, m_mapUpdate, m_inv, evLoad, readCells, evFieldAddr, evIndexAddr, asIdx, ofValue, isPure, evBin, ib_lss, ib_leq, ib_gtr, ib_geq, ib_eql, ib_neq, evUn, leave_normal, leave_ret, finish, then_normal, then_exit, then_ret, close_normal, close_exit, close_ret, evConv, mk_marks, dropMarks, resOf, resList, mk_getD, argF, List.getD_cons_zero, List.getD_cons_succ, V.cells, evLen, kdOp, kdOf, readsOf, protS, eq_bool, eq_nil28, evStore, V.oneCell, putElem, splice, -List.getD_eq_getElem?_getD, -getElem?_pos, und55, und53, und22, size3, size53, size58, size22, ty3, ty4, ty53, ty58, ty22, q7]
theorem SetAt.keep {st : St} {r rv b r' rv' b' : Nat} {S S' X : Nat → Bool} (h : SetAt st r rv b S) (h' : SetAt st r' rv' b' S') (hne : rv' ≠ rv) : SetAt (putW st rv' b' X) r rv b S where
  hb := by
    have : rv' ≠ r := fun e => by have := h'.hv; rw [e, h.hb] at this; cases this
    show (st.store.set rv' _)[r]? = _
    rw [List.getElem?_set_ne this]; exact h.hb
  hv := by
    show (st.store.set rv' _)[rv]? = _
    rw [List.getElem?_set_ne hne]; exact h.hv
  hz := h.hz
  hm := h.hm
theorem testBit_not64 (y j : Nat) (hy : y < 2 ^ 64) (hj : j < 64) : (2 ^ 64 - 1 - y).testBit j = !y.testBit j := by
  have e : 2 ^ 64 - 1 - y = 2 ^ 64 - (y + 1) := by omega
  rw [e, Nat.testBit_two_pow_sub_succ hy]
  simp [hj]
theorem wdb (S : Nat → Bool) (k j : Nat) (hj : j < 64) : (wd S k).testBit j = S (64 * k + j) := by rw [wd_testBit]; simp [hj]
theorem meet_run (r o rv rvo b bo : Nat) (S O : Nat → Bool) (st : St) (hs : SetAt st r rv b S) (ho : SetAt st o rvo bo O) (hl : Free st rv) (hne : rv ≠ rvo) (c : Bool) (hc : c = false ↔ ∀ i, S i = turned b (fun x y => x && y) S O i) :
    (run tb).call 24 [.ptr r 0, .ptr o 0] st = some (.bool c, putW st rv b (turned b (fun x y => x && y) S O)) := by
  have h := turn_run r o rv b 37 (fun x y => x && y) S O st hs hl (fun k => wd S k &&& wd O k) (fun k => ⟨Nat.lt_of_le_of_lt Nat.and_le_left (wd_lt _ _), fun j hj => by rw [Nat.testBit_and, wdb _ _ _ hj, wdb _ _ _ hj]⟩)
    (fun k hk => word_run _ o rvo bo O k (ho.keep hs hne)) (fun k st => meet_how st _ _ (wd_lt _ _) (wd_lt _ _)) c hc
  rw [run24 (by simp)]
  simp [g24_0, g24_1, g24_2, g24_3, g24_4, l24_1, l24_3, steps_nil, steps_cons, draws_nil, draws_cons, step_mk, stepB_some, stepB_none, memB_mk, thenS_some, regB_some, branch_bool, sel_true, sel_false, wanted_none, wanted_some, asB, mk_put, mk_put_none, arg_tmp, arg_const, arg_func, arg_global, upd_same, upd_ne, evPure, evArgs, m_load, m_store, m_alloc, m_box, m_call, m_lookup, m_mapUpdate, m_inv, evLoad, readCells, evFieldAddr, evIndexAddr, asIdx, ofValue, isPure, evBin, ib_lss, ib_leq, ib_gtr, ib_geq, ib_eql, ib_neq, evUn, leave_normal, leave_ret, finish, then_normal, then_exit, then_ret, close_normal, close_exit, close_ret, evConv, mk_marks, dropMarks, resOf, resList, mk_getD, argF, List.getD_cons_zero, List.getD_cons_succ, V.cells, evLen, kdOp, kdOf, readsOf, protS, eq_bool, eq_nil28, evStore, V.oneCell, putElem, splice, -List.getD_eq_getElem?_getD, -getElem?_pos, und55, und53, und22, size3, size53, size58, size22, ty3, ty4, ty53, ty58, ty22, h]
theorem less_run (r o rv rvo b bo : Nat) (S O : Nat → Bool) (st : St) (hs : SetAt st r rv b S) (ho : SetAt st o rvo bo O) (hl : Free st rv) (hne : rv ≠ rvo) (c : Bool) (hc : c = false ↔ ∀ i, S i = turned b (fun x y => x && !y) S O i) :
    (run tb).call 25 [.ptr r 0, .ptr o 0] st = some (.bool c, putW st rv b (turned b (fun x y => x && !y) S O)) := by
  have h := turn_run r o rv b 38 (fun x y => x && !y) S O st hs hl (fun k => wd S k &&& (2 ^ 64 - 1 - wd O k)) (fun k => ⟨Nat.lt_of_le_of_lt Nat.and_le_left (wd_lt _ _), fun j hj => by rw [Nat.testBit_and, wdb _ _ _ hj, testBit_not64 _ _ (wd_lt _ _) hj, wdb _ _ _ hj]⟩)
    (fun k hk => word_run _ o rvo bo O k (ho.keep hs hne)) (fun k st => less_how st _ _ (wd_lt _ _) (wd_lt _ _)) c hc
  rw [run25 (by simp)]
  simp [g25_0, g25_1, g25_2, g25_3, g25_4, l25_1, l25_3, steps_nil, steps_cons, draws_nil, draws_cons, step_mk, stepB_some, stepB_none, memB_mk, thenS_some, regB_some, branch_bool, sel_true, sel_false, wanted_none, wanted_some, asB, mk_put, mk_put_none, arg_tmp, arg_const, arg_func, arg_global, upd_same, upd_ne, evPure, evArgs, m_load, m_store, m_alloc, m_box, m_call, m_lookup, m_mapUpdate, m_inv, evLoad, readCells, evFieldAddr, evIndexAddr, asIdx, ofValue, isPure, evBin, ib_lss, ib_leq, ib_gtr, ib_geq, ib_eql, ib_neq, evUn, leave_normal, leave_ret, finish, then_normal, then_exit, then_ret, close_normal, close_exit, close_ret, evConv, mk_marks, dropMarks, resOf, resList, mk_getD, argF, List.getD_cons_zero, List.getD_cons_succ, V.cells, evLen, kdOp, kdOf, readsOf, protS, eq_bool, eq_nil28, evStore, V.oneCell, putElem, splice, -List.getD_eq_getElem?_getD, -getElem?_pos, und55, und53, und22, size3, size53, size58, size22, ty3, ty4, ty53, ty58, ty22, h]
theorem join_run (r o rv rvo b bo : Nat) (S O : Nat → Bool) (st : St) (hs : SetAt st r rv b S) (ho : SetAt st o rvo bo O) (hl : Free st rv) (hne : rv ≠ rvo) (c : Bool) (hc : c = false ↔ ∀ i, S i = turned b (fun x y => x || y) S O i) :
    (run tb).call 26 [.ptr r 0, .ptr o 0] st = some (.bool c, putW st rv b (turned b (fun x y => x || y) S O)) := by
  have h := turn_run r o rv b 39 (fun x y => x || y) S O st hs hl (fun k => wd S k ||| wd O k) (fun k => ⟨Nat.or_lt_two_pow (wd_lt _ _) (wd_lt _ _), fun j hj => by rw [Nat.testBit_or, wdb _ _ _ hj, wdb _ _ _ hj]⟩)
    (fun k hk => word_run _ o rvo bo O k (ho.keep hs hne)) (fun k st => join_how st _ _ (wd_lt _ _) (wd_lt _ _)) c hc
  rw [run26 (by simp)]
  simp [g26_0, g26_1, g26_2, g26_3, g26_4, l26_1, l26_3, steps_nil, steps_cons, draws_nil, draws_cons, step_mk, stepB_some, stepB_none, memB_mk, thenS_some, regB_some, branch_bool, sel_true, sel_false, wanted_none, wanted_some, asB, mk_put, mk_put_none, arg_tmp, arg_const, arg_func, arg_global, upd_same, upd_ne, evPure, evArgs, m_load, m_store, m_alloc, m_box, m_call, m_lookup, m_mapUpdate, m_inv, evLoad, readCells, evFieldAddr, evIndexAddr, asIdx, ofValue, isPure, evBin, ib_lss, ib_leq, ib_gtr, ib_geq, ib_eql, ib_neq, evUn, leave_normal, leave_ret, finish, then_normal, then_exit, then_ret, close_normal, close_exit, close_ret, evConv, mk_marks, dropMarks, resOf, resList, mk_getD, argF, List.getD_cons_zero, List.getD_cons_succ, V.cells, evLen, kdOp, kdOf, readsOf, protS, eq_bool, eq_nil28, evStore, V.oneCell, putElem, splice, -List.getD_eq_getElem?_getD, -getElem?_pos, und55, und53, und22, size3, size53, size58, size22, ty3, ty4, ty53, ty58, ty22, h]
end Go.Proofs.YtgknieohkniojaaDoor
namespace Go.Proofs.YtgknieohkniojaaDoor
open Go.Abs
set_option maxRecDepth 100000
set_option linter.unusedSimpArgs false
set_option linter.unusedVariables false
set_option maxHeartbeats 4000000
theorem ty53u : (tb.ty 53).bind (fun ti => some ti.und) = some (.slice 58) := by rw [ty53]; rfl
theorem copy53 {fr : Fr} {st : St} {S : Go.Abs.S} {x y : Operand} {rv rv' m : Nat} {es ws : List V} (hx : evArg tb fr x = some (.slice rv' 1 0 m)) (hy : evArg tb fr y = some (.slice rv 1 0 m)) (hk : st.locked rv' = false)
    (h1 : st.store[rv']? = some (.vec false es)) (h2 : st.store[rv]? = some (.vec false ws)) (he : es.length = m) (hw : ws.length = m) (ho : ws.all (fun v => v.cells.length == 1 && v.cells.all V.oneCell) = true) :
    evMem tb S fr st (.call { callee := .builtin .copy, args := #[x, y], argTypes := #[53, 53] }) = some (.int .i64 (m : Nat), { st with store := st.store.set rv' (.vec false ws) }) := by
  show evMem0 tb fr st (.call { callee := .builtin .copy, args := #[x, y], argTypes := #[53, 53] }) = _
  have hargs : evArgs tb fr (#[x, y] : Array Operand).toList = some [.slice rv' 1 0 m, .slice rv 1 0 m] := by
    simp [evArgs, hx, hy]
  have hsrc : srcElems st (.slice rv 1 0 m) = some ws := by
    simp only [srcElems, h2]
    rw [if_pos (by omega), List.drop_zero, List.take_of_length_le (by omega)]
  unfold evMem0
  simp only [hargs, hk]
  have e : ((#[53, 53] : Array TypeId)[0]?).bind tb.und = some (.slice 58) := und53
  simp only [e, h1, hsrc, Bool.false_eq_true, if_false]
  rw [if_pos ⟨size58, by decide, ho, by omega⟩]
  simp only [hw, Nat.min_self, List.take_zero, List.nil_append, Nat.zero_add]
  rw [List.drop_of_length_le (by omega), List.append_nil, List.take_of_length_le (by omega)]
theorem words_one (b : Nat) (S : Nat → Bool) : (words b S).all (fun v => v.cells.length == 1 && v.cells.all V.oneCell) = true := by
  rw [List.all_eq_true]
  intro v hv
  unfold words at hv
  obtain ⟨k, _, rfl⟩ := List.mem_map.1 hv
  rfl
theorem clone_run (st : St) (hok : okSt st) (r rv b : Nat) (S : Nat → Bool) (h : SetAt st r rv b S) : (run tb).call 17 [.ptr r 0] st = some (.ptr (st.store.length + 1) 0, newSt st b S) := by
  have hb := h.hb
  have hbm := h.hm
  have hnew := new_run st b b true (some true) [] (by simp) hok (by omega)
  have e0 : ints [] = [] := rfl
  have e1 : addAll b emptyS [] = emptyS := rfl
  rw [e0, e1] at hnew
  have hN := newSt_set (st := st) (b := b) (S := emptyS) hbm (fun _ _ => rfl)
  have hO := h.grow (newSt_grows st b emptyS)
  have hf := newSt_free (b := b) (S := emptyS) hok
  have hput : putW (newSt st b emptyS) st.store.length b S = newSt st b S := newSt_put
  generalize newSt st b emptyS = s1 at *
  have hNb := hN.hb
  have hOb := hO.hb
  have hk : s1.locked st.store.length = false := by simp [St.locked, Nat.not_lt.2 hf.1, hf.2]
  have hcp := fun (fr : Fr) hx hy => copy53 (fr := fr) (st := s1) (S := run tb) (x := .tmp 12) (y := .tmp 16) hx hy hk hN.hv hO.hv (words_len _ _) (words_len _ _) (words_one b S)
  rw [run17 (by simp)]
  simp (config := { decide := true }) [g17_0, g17_1, g17_2, g17_3, g17_4, g17_5, g17_6, g17_7, g17_8, l17_1, l17_3, l17_5, l17_7, steps_nil, steps_cons, draws_nil, draws_cons, step_mk, stepB_some, stepB_none, memB_mk, thenS_some, regB_some, branch_bool, sel_true, sel_false, wanted_none, wanted_some, asB, mk_put, mk_put_none, arg_tmp, arg_const, arg_func, arg_global, upd_same, upd_ne, evPure, evArgs, m_load, m_store, m_alloc, m_box, m_call, m_lookup, m_mapUpdate, m_inv, evLoad, readCells, evFieldAddr, evIndexAddr, asIdx, ofValue, isPure, evBin, ib_lss, ib_leq, ib_gtr, ib_geq, ib_eql, ib_neq, evUn, leave_normal, leave_ret, finish, then_normal, then_exit, then_ret, close_normal, close_exit, close_ret, evConv, mk_marks, dropMarks, resOf, resList, mk_getD, argF, List.getD_cons_zero, List.getD_cons_succ, V.cells, evLen, kdOp, kdOf, readsOf, protS, eq_bool, eq_nil28, evStore, V.oneCell, putElem, splice, -List.getD_eq_getElem?_getD, -getElem?_pos, und55, und53, und22, size3, size53, size58, size22, ty3, ty4, ty53, ty58, ty22, hb, hnew, hNb, hOb, hcp, ty53]
  exact hput
end Go.Proofs.YtgknieohkniojaaDoor
