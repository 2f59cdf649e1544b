/- The law BitsSteps, walked. The parts of the functions: names for the places of their code. The law BitsSteps, walked. The rows of the set's laws, out of their runs: what is common. BitsSteps: the row, the card. -/
import Derived.Test.YtgknieohkniojaaDoorSet
import Derived.Test.YtgknieohkniojaaDoorFwF
import Derived.Test.YtgknieohkniojaaDoorCards
import Derived.Test.YtgknieohkniojaaDoorTie
import Derived.SevenTiedAt
set_option linter.unusedVariables false
set_option linter.unusedSimpArgs false
set_option linter.unnecessarySimpa false
set_option linter.all false
namespace Go.Proofs.YtgknieohkniojaaDoor
open Go.Abs
set_option maxRecDepth 100000
set_option linter.unusedSimpArgs false
set_option linter.unusedVariables false
set_option maxHeartbeats 4000000
/- A map from numbers to booleans. -/
def encM (kvs : List (Int × Bool)) : List (V × V) := kvs.map fun p => (.int .i64 p.1, .bool p.2)
def mfind : List (Int × Bool) → Int → Option Bool
  | [], _ => none
  | p :: es, k => if k == p.1 then some p.2 else mfind es k
def midx : List (Int × Bool) → Int → Nat
  | [], _ => 0
  | p :: es, k => if k == p.1 then 0 else midx es k + 1
theorem findKey_enc (k : Int) : ∀ (kvs : List (Int × Bool)) (i : Nat), findKey (.int .i64 k) (encM kvs) i = some ((mfind kvs k).map fun v => (i + midx kvs k, .bool v))
  | [], i => rfl
  | p :: es, i => by
    have ih := findKey_enc k es (i + 1)
    have e : encM (p :: es) = (.int .i64 p.1, .bool p.2) :: encM es := rfl
    rw [e]
    simp only [findKey, keyEq, if_pos, mfind, midx]
    cases h : k == p.1 with
    | true => simp
    | false =>
      simp only [ih]
      simp only [Bool.false_eq_true, if_false]
      congr 2
      funext v
      congr 1; omega
def mval (kvs : List (Int × Bool)) (k : Int) : Bool := (mfind kvs k).getD false
def mput (kvs : List (Int × Bool)) (k : Int) (v : Bool) : List (Int × Bool) := if (mfind kvs k).isSome then kvs.set (midx kvs k) (k, v) else kvs ++ [(k, v)]
theorem mfind_set (k : Int) (v : Bool) : ∀ (kvs : List (Int × Bool)) (j : Int), (mfind kvs k).isSome = true → mfind (kvs.set (midx kvs k) (k, v)) j = if j = k then some v else mfind kvs j
  | [], j, h => by simp [mfind] at h
  | p :: es, j, h => by
    by_cases hk : k = p.1
    · subst hk
      simp only [midx, beq_self_eq_true, if_true, List.set_cons_zero, mfind]
      by_cases hj : j = p.1
      · simp [hj]
      · simp [hj]
    · have hk' : (k == p.1) = false := by simp [hk]
      simp only [mfind, hk', Bool.false_eq_true, if_false] at h
      have ih := mfind_set k v es j h
      simp only [midx, hk', Bool.false_eq_true, if_false, List.set_cons_succ, mfind, ih]
      by_cases hj : j = k
      · subst hj; simp [hk]
      · simp [hj]
theorem mfind_app (k : Int) (v : Bool) : ∀ (kvs : List (Int × Bool)) (j : Int), (mfind kvs k).isSome = false → mfind (kvs ++ [(k, v)]) j = if j = k then some v else mfind kvs j
  | [], j, _ => by
    by_cases hj : j = k
    · subst hj; simp [mfind]
    · simp [mfind, hj]
  | p :: es, j, h => by
    by_cases hk : k = p.1
    · subst hk; simp [mfind] at h
    · have hk' : (k == p.1) = false := by simp [hk]
      simp only [mfind, hk', Bool.false_eq_true, if_false] at h
      have ih := mfind_app k v es j h
      simp only [List.cons_append, mfind, ih]
      by_cases hj : j = k
      · subst hj; simp [hk]
      · simp [hj]
theorem mval_put (kvs : List (Int × Bool)) (k : Int) (v : Bool) (j : Int) : mval (mput kvs k v) j = if j = k then v else mval kvs j := by
  unfold mval mput
  cases h : (mfind kvs k).isSome with
  | true => simp only [if_true]; rw [mfind_set k v kvs j h]; by_cases hj : j = k <;> simp [hj]
  | false => simp only [Bool.false_eq_true, if_false]; rw [mfind_app k v kvs j h]; by_cases hj : j = k <;> simp [hj]
theorem und51 : tb.und 51 = some (.map 3 4) := by kernel_rfl
def MapAt (st : St) (mr : Nat) (kvs : List (Int × Bool)) : Prop := st.store[mr]? = some (.map (encM kvs))
theorem look_run {st : St} {mr : Nat} {kvs : List (Int × Bool)} (k : Int) (h : MapAt st mr kvs) : evLookup tb st 51 (.map mr) (.int .i64 k) false = some (.bool (mval kvs k)) := by
  unfold MapAt at h
  simp only [evLookup, und51, keyOk, und3, ty4, h, findKey_enc, mval]
  cases mfind kvs k <;> rfl
def putM (st : St) (mr : Nat) (kvs : List (Int × Bool)) : St := { st with store := st.store.set mr (.map (encM kvs)) }
theorem mput_run {st : St} {mr : Nat} {kvs : List (Int × Bool)} (k : Int) (v : Bool) (h : MapAt st mr kvs) (hl : Free st mr) : evMapUpdate tb st 51 (.map mr) (.int .i64 k) (.bool v) = some (putM st mr (mput kvs k v)) := by
  unfold MapAt at h
  have hk : st.locked mr = false := by simp [St.locked, Nat.not_lt.2 hl.1, hl.2]
  simp only [evMapUpdate, und51, hk, keyOk, und3, h, findKey_enc, mput, putM]
  cases hf : mfind kvs k with
  | none => simp [encM]
  | some w => simp [encM]
theorem MapAt.put {st : St} {mr : Nat} {kvs kvs' : List (Int × Bool)} (h : MapAt st mr kvs) : MapAt (putM st mr kvs') mr kvs' := by
  unfold MapAt at h
  have : mr < st.store.length := by
    by_cases hh : mr < st.store.length
    · exact hh
    · rw [List.getElem?_eq_none (by omega)] at h; cases h
  show (st.store.set mr _)[mr]? = _
  rw [List.getElem?_set_self this]
theorem MapAt.other {st : St} {mr rv r b : Nat} {S S' : Nat → Bool} {kvs : List (Int × Bool)} (h : MapAt st mr kvs) (hs : SetAt st r rv b S) : MapAt (putW st rv b S') mr kvs := by
  have : rv ≠ mr := fun e => by have := hs.hv; unfold MapAt at h; rw [e, h] at this; cases this
  show (st.store.set rv _)[mr]? = _
  rw [List.getElem?_set_ne this]; exact h
theorem SetAt.other {st : St} {mr rv r b : Nat} {S : Nat → Bool} {kvs kvs' : List (Int × Bool)} (h : MapAt st mr kvs) (hs : SetAt st r rv b S) : SetAt (putM st mr kvs') r rv b S where
  hb := by
    have : mr ≠ r := fun e => by have := hs.hb; unfold MapAt at h; rw [← e, h] at this; cases this
    show (st.store.set mr _)[r]? = _
    rw [List.getElem?_set_ne this]; exact hs.hb
  hv := by
    have : mr ≠ rv := fun e => by have := hs.hv; unfold MapAt at h; rw [← e, h] at this; cases this
    show (st.store.set mr _)[rv]? = _
    rw [List.getElem?_set_ne this]; exact hs.hv
  hz := hs.hz
  hm := hs.hm
theorem SetAt.prot {st : St} {rv r b : Nat} {S : Nat → Bool} (p : List Nat) (h : SetAt st r rv b S) : SetAt { st with prot := p } r rv b S := ⟨h.hb, h.hv, h.hz, h.hm⟩
end Go.Proofs.YtgknieohkniojaaDoor
namespace Go.Proofs.YtgknieohkniojaaDoor
open Go.Abs
set_option maxRecDepth 1000000
set_option linter.unusedSimpArgs false
variable {rd : Option Nat} {f : Nat → V} {m : List Nat} {st : St}
noncomputable def c7_0 : Code := bodyOf Tryd.f7
theorem b7 : Tryd.f7.body = some c7_0 := rfl
theorem n7 : Tryd.f7.ntmps = 90 := rfl
theorem r7 : Tryd.f7.results = #[.tmp 4] := rfl
theorem fn7 : tb.fn 7 = some Tryd.f7 := Tryd.func7
theorem run7 {args : List V} {st : St} (ha : args.length ≤ 90) : (run tb).call 7 args st = leave tb [.tmp 4] ((run tb).code none c7_0 (mk 90 (argF args) []) st) := call_run fn7 rfl b7 n7 r7 ha
noncomputable def c7_1 : Code := kid c7_0 0
noncomputable def c7_2 : Code := kid c7_0 1
noncomputable def c7_3 : Code := kid c7_2 0
noncomputable def c7_4 : Code := kid c7_3 0
noncomputable def c7_5 : Code := kid c7_3 1
noncomputable def c7_6 : Code := kid c7_5 0
noncomputable def c7_7 : Code := kid c7_6 0
noncomputable def c7_8 : Code := kid c7_6 1
noncomputable def c7_9 : Code := kid c7_5 1
noncomputable def c7_10 : Code := kid c7_2 1
noncomputable def c7_11 : Code := kid c7_10 0
noncomputable def c7_12 : Code := kid c7_11 0
noncomputable def c7_13 : Code := kid c7_11 1
noncomputable def c7_14 : Code := kid c7_13 0
noncomputable def c7_15 : Code := kid c7_14 0
noncomputable def c7_16 : Code := kid c7_14 1
noncomputable def c7_17 : Code := kid c7_13 1
noncomputable def c7_18 : Code := kid c7_10 1
noncomputable def c7_19 : Code := kid c7_18 0
noncomputable def c7_20 : Code := kid c7_18 1
noncomputable def c7_21 : Code := kid c7_20 0
noncomputable def c7_22 : Code := kid c7_21 0
noncomputable def c7_23 : Code := kid c7_21 1
noncomputable def c7_24 : Code := kid c7_23 0
noncomputable def c7_25 : Code := kid c7_24 0
noncomputable def c7_26 : Code := kid c7_24 1
noncomputable def c7_27 : Code := kid c7_23 1
noncomputable def c7_28 : Code := kid c7_20 1
noncomputable def c7_29 : Code := kid c7_28 0
noncomputable def c7_30 : Code := kid c7_28 1
noncomputable def c7_31 : Code := kid c7_30 0
noncomputable def c7_32 : Code := kid c7_30 1
noncomputable def c7_33 : Code := kid c7_32 0
noncomputable def c7_34 : Code := kid c7_33 0
noncomputable def c7_35 : Code := kid c7_33 1
noncomputable def c7_36 : Code := kid c7_35 0
noncomputable def c7_37 : Code := kid c7_36 0
noncomputable def c7_38 : Code := kid c7_37 0
noncomputable def c7_39 : Code := kid c7_38 0
noncomputable def c7_40 : Code := kid c7_38 1
noncomputable def c7_41 : Code := kid c7_40 0
noncomputable def c7_42 : Code := kid c7_40 1
noncomputable def c7_43 : Code := kid c7_37 1
noncomputable def c7_44 : Code := kid c7_43 0
noncomputable def c7_45 : Code := kid c7_44 0
noncomputable def c7_46 : Code := kid c7_45 0
noncomputable def c7_47 : Code := kid c7_45 1
noncomputable def c7_48 : Code := kid c7_47 0
noncomputable def c7_49 : Code := kid c7_47 1
noncomputable def c7_50 : Code := kid c7_49 0
noncomputable def c7_51 : Code := kid c7_49 1
noncomputable def c7_52 : Code := kid c7_51 0
noncomputable def c7_53 : Code := kid c7_52 0
noncomputable def c7_54 : Code := kid c7_52 1
noncomputable def c7_55 : Code := kid c7_54 0
noncomputable def c7_56 : Code := kid c7_54 1
noncomputable def c7_57 : Code := kid c7_51 1
noncomputable def c7_58 : Code := kid c7_57 0
noncomputable def c7_59 : Code := kid c7_57 1
noncomputable def c7_60 : Code := kid c7_59 0
noncomputable def c7_61 : Code := kid c7_60 0
noncomputable def c7_62 : Code := kid c7_60 1
noncomputable def c7_63 : Code := kid c7_62 0
noncomputable def c7_64 : Code := kid c7_63 0
noncomputable def c7_65 : Code := kid c7_63 1
noncomputable def c7_66 : Code := kid c7_62 1
noncomputable def c7_67 : Code := kid c7_59 1
noncomputable def c7_68 : Code := kid c7_67 0
noncomputable def c7_69 : Code := kid c7_68 0
noncomputable def c7_70 : Code := kid c7_68 1
noncomputable def c7_71 : Code := kid c7_70 0
noncomputable def c7_72 : Code := kid c7_71 0
noncomputable def c7_73 : Code := kid c7_71 1
noncomputable def c7_74 : Code := kid c7_73 0
noncomputable def c7_75 : Code := kid c7_73 1
noncomputable def c7_76 : Code := kid c7_75 0
noncomputable def c7_77 : Code := kid c7_75 1
noncomputable def c7_78 : Code := kid c7_70 1
noncomputable def c7_79 : Code := kid c7_67 1
noncomputable def c7_80 : Code := kid c7_79 0
noncomputable def c7_81 : Code := kid c7_79 1
noncomputable def c7_82 : Code := kid c7_81 0
noncomputable def c7_83 : Code := kid c7_82 0
noncomputable def c7_84 : Code := kid c7_82 1
noncomputable def c7_85 : Code := kid c7_81 1
noncomputable def c7_86 : Code := kid c7_43 1
noncomputable def c7_87 : Code := kid c7_32 1
noncomputable def c7_88 : Code := kid c7_87 0
noncomputable def c7_89 : Code := kid c7_87 1
noncomputable def o7_1 : Array Oper := opsOf (kid (bodyOf Tryd.f7) 0)
noncomputable def o7_4 : Array Oper := opsOf (kid (kid (kid (bodyOf Tryd.f7) 1) 0) 0)
noncomputable def o7_7 : Array Oper := opsOf (kid (kid (kid (kid (kid (bodyOf Tryd.f7) 1) 0) 1) 0) 0)
noncomputable def o7_12 : Array Oper := opsOf (kid (kid (kid (kid (bodyOf Tryd.f7) 1) 1) 0) 0)
noncomputable def o7_15 : Array Oper := opsOf (kid (kid (kid (kid (kid (kid (bodyOf Tryd.f7) 1) 1) 0) 1) 0) 0)
noncomputable def o7_19 : Array Oper := opsOf (kid (kid (kid (kid (bodyOf Tryd.f7) 1) 1) 1) 0)
noncomputable def o7_22 : Array Oper := opsOf (kid (kid (kid (kid (kid (kid (bodyOf Tryd.f7) 1) 1) 1) 1) 0) 0)
noncomputable def o7_25 : Array Oper := opsOf (kid (kid (kid (kid (kid (kid (kid (kid (bodyOf Tryd.f7) 1) 1) 1) 1) 0) 1) 0) 0)
noncomputable def o7_29 : Array Oper := opsOf (kid (kid (kid (kid (kid (kid (bodyOf Tryd.f7) 1) 1) 1) 1) 1) 0)
noncomputable def o7_31 : Array Oper := opsOf (kid (kid (kid (kid (kid (kid (kid (bodyOf Tryd.f7) 1) 1) 1) 1) 1) 1) 0)
noncomputable def o7_34 : Array Oper := opsOf (kid (kid (kid (kid (kid (kid (kid (kid (kid (bodyOf Tryd.f7) 1) 1) 1) 1) 1) 1) 1) 0) 0)
noncomputable def o7_39 : Array Oper := opsOf (kid (kid (kid (kid (kid (kid (kid (kid (kid (kid (kid (kid (kid (bodyOf Tryd.f7) 1) 1) 1) 1) 1) 1) 1) 0) 1) 0) 0) 0) 0)
noncomputable def o7_46 : Array Oper := opsOf (kid (kid (kid (kid (kid (kid (kid (kid (kid (kid (kid (kid (kid (kid (kid (bodyOf Tryd.f7) 1) 1) 1) 1) 1) 1) 1) 0) 1) 0) 0) 1) 0) 0) 0)
noncomputable def o7_48 : Array Oper := opsOf (kid (kid (kid (kid (kid (kid (kid (kid (kid (kid (kid (kid (kid (kid (kid (kid (bodyOf Tryd.f7) 1) 1) 1) 1) 1) 1) 1) 0) 1) 0) 0) 1) 0) 0) 1) 0)
noncomputable def o7_50 : Array Oper := opsOf (kid (kid (kid (kid (kid (kid (kid (kid (kid (kid (kid (kid (kid (kid (kid (kid (kid (bodyOf Tryd.f7) 1) 1) 1) 1) 1) 1) 1) 0) 1) 0) 0) 1) 0) 0) 1) 1) 0)
noncomputable def o7_53 : Array Oper := opsOf (kid (kid (kid (kid (kid (kid (kid (kid (kid (kid (kid (kid (kid (kid (kid (kid (kid (kid (kid (bodyOf Tryd.f7) 1) 1) 1) 1) 1) 1) 1) 0) 1) 0) 0) 1) 0) 0) 1) 1) 1) 0) 0)
noncomputable def o7_55 : Array Oper := opsOf (kid (kid (kid (kid (kid (kid (kid (kid (kid (kid (kid (kid (kid (kid (kid (kid (kid (kid (kid (kid (bodyOf Tryd.f7) 1) 1) 1) 1) 1) 1) 1) 0) 1) 0) 0) 1) 0) 0) 1) 1) 1) 0) 1) 0)
noncomputable def o7_56 : Array Oper := opsOf (kid (kid (kid (kid (kid (kid (kid (kid (kid (kid (kid (kid (kid (kid (kid (kid (kid (kid (kid (kid (bodyOf Tryd.f7) 1) 1) 1) 1) 1) 1) 1) 0) 1) 0) 0) 1) 0) 0) 1) 1) 1) 0) 1) 1)
noncomputable def o7_58 : Array Oper := opsOf (kid (kid (kid (kid (kid (kid (kid (kid (kid (kid (kid (kid (kid (kid (kid (kid (kid (kid (kid (bodyOf Tryd.f7) 1) 1) 1) 1) 1) 1) 1) 0) 1) 0) 0) 1) 0) 0) 1) 1) 1) 1) 0)
noncomputable def o7_61 : Array Oper := opsOf (kid (kid (kid (kid (kid (kid (kid (kid (kid (kid (kid (kid (kid (kid (kid (kid (kid (kid (kid (kid (kid (bodyOf Tryd.f7) 1) 1) 1) 1) 1) 1) 1) 0) 1) 0) 0) 1) 0) 0) 1) 1) 1) 1) 1) 0) 0)
noncomputable def o7_64 : Array Oper := opsOf (kid (kid (kid (kid (kid (kid (kid (kid (kid (kid (kid (kid (kid (kid (kid (kid (kid (kid (kid (kid (kid (kid (kid (bodyOf Tryd.f7) 1) 1) 1) 1) 1) 1) 1) 0) 1) 0) 0) 1) 0) 0) 1) 1) 1) 1) 1) 0) 1) 0) 0)
noncomputable def o7_69 : Array Oper := opsOf (kid (kid (kid (kid (kid (kid (kid (kid (kid (kid (kid (kid (kid (kid (kid (kid (kid (kid (kid (kid (kid (kid (bodyOf Tryd.f7) 1) 1) 1) 1) 1) 1) 1) 0) 1) 0) 0) 1) 0) 0) 1) 1) 1) 1) 1) 1) 0) 0)
noncomputable def o7_72 : Array Oper := opsOf (kid (kid (kid (kid (kid (kid (kid (kid (kid (kid (kid (kid (kid (kid (kid (kid (kid (kid (kid (kid (kid (kid (kid (kid (bodyOf Tryd.f7) 1) 1) 1) 1) 1) 1) 1) 0) 1) 0) 0) 1) 0) 0) 1) 1) 1) 1) 1) 1) 0) 1) 0) 0)
noncomputable def o7_74 : Array Oper := opsOf (kid (kid (kid (kid (kid (kid (kid (kid (kid (kid (kid (kid (kid (kid (kid (kid (kid (kid (kid (kid (kid (kid (kid (kid (kid (bodyOf Tryd.f7) 1) 1) 1) 1) 1) 1) 1) 0) 1) 0) 0) 1) 0) 0) 1) 1) 1) 1) 1) 1) 0) 1) 0) 1) 0)
noncomputable def o7_76 : Array Oper := opsOf (kid (kid (kid (kid (kid (kid (kid (kid (kid (kid (kid (kid (kid (kid (kid (kid (kid (kid (kid (kid (kid (kid (kid (kid (kid (kid (bodyOf Tryd.f7) 1) 1) 1) 1) 1) 1) 1) 0) 1) 0) 0) 1) 0) 0) 1) 1) 1) 1) 1) 1) 0) 1) 0) 1) 1) 0)
noncomputable def o7_77 : Array Oper := opsOf (kid (kid (kid (kid (kid (kid (kid (kid (kid (kid (kid (kid (kid (kid (kid (kid (kid (kid (kid (kid (kid (kid (kid (kid (kid (kid (bodyOf Tryd.f7) 1) 1) 1) 1) 1) 1) 1) 0) 1) 0) 0) 1) 0) 0) 1) 1) 1) 1) 1) 1) 0) 1) 0) 1) 1) 1)
noncomputable def o7_80 : Array Oper := opsOf (kid (kid (kid (kid (kid (kid (kid (kid (kid (kid (kid (kid (kid (kid (kid (kid (kid (kid (kid (kid (kid (kid (bodyOf Tryd.f7) 1) 1) 1) 1) 1) 1) 1) 0) 1) 0) 0) 1) 0) 0) 1) 1) 1) 1) 1) 1) 1) 0)
noncomputable def o7_83 : Array Oper := opsOf (kid (kid (kid (kid (kid (kid (kid (kid (kid (kid (kid (kid (kid (kid (kid (kid (kid (kid (kid (kid (kid (kid (kid (kid (bodyOf Tryd.f7) 1) 1) 1) 1) 1) 1) 1) 0) 1) 0) 0) 1) 0) 0) 1) 1) 1) 1) 1) 1) 1) 1) 0) 0)
noncomputable def o7_86 : Array Oper := opsOf (kid (kid (kid (kid (kid (kid (kid (kid (kid (kid (kid (kid (kid (bodyOf Tryd.f7) 1) 1) 1) 1) 1) 1) 1) 0) 1) 0) 0) 1) 1)
noncomputable def o7_88 : Array Oper := opsOf (kid (kid (kid (kid (kid (kid (kid (kid (kid (bodyOf Tryd.f7) 1) 1) 1) 1) 1) 1) 1) 1) 0)
theorem e7_0 : c7_0 = .seq c7_1 c7_2 := rfl
theorem e7_1 : c7_1 = .region 0 o7_1 false := rfl
theorem e7_2 : c7_2 = .seq c7_3 c7_10 := rfl
theorem e7_3 : c7_3 = .seq c7_4 c7_5 := rfl
theorem e7_4 : c7_4 = .region 1 o7_4 false := rfl
theorem e7_5 : c7_5 = .cond (.tmp 14) c7_6 c7_9 := rfl
theorem e7_6 : c7_6 = .seq c7_7 c7_8 := rfl
theorem e7_7 : c7_7 = .region 2 o7_7 false := rfl
theorem e7_8 : c7_8 = .ret := rfl
theorem e7_9 : c7_9 = .skip := rfl
theorem e7_10 : c7_10 = .seq c7_11 c7_18 := rfl
theorem e7_11 : c7_11 = .seq c7_12 c7_13 := rfl
theorem e7_12 : c7_12 = .region 3 o7_12 false := rfl
theorem e7_13 : c7_13 = .cond (.tmp 25) c7_14 c7_17 := rfl
theorem e7_14 : c7_14 = .seq c7_15 c7_16 := rfl
theorem e7_15 : c7_15 = .region 4 o7_15 false := rfl
theorem e7_16 : c7_16 = .ret := rfl
theorem e7_17 : c7_17 = .skip := rfl
theorem e7_18 : c7_18 = .seq c7_19 c7_20 := rfl
theorem e7_19 : c7_19 = .region 5 o7_19 false := rfl
theorem e7_20 : c7_20 = .seq c7_21 c7_28 := rfl
theorem e7_21 : c7_21 = .seq c7_22 c7_23 := rfl
theorem e7_22 : c7_22 = .region 6 o7_22 false := rfl
theorem e7_23 : c7_23 = .cond (.tmp 29) c7_24 c7_27 := rfl
theorem e7_24 : c7_24 = .seq c7_25 c7_26 := rfl
theorem e7_25 : c7_25 = .region 7 o7_25 false := rfl
theorem e7_26 : c7_26 = .ret := rfl
theorem e7_27 : c7_27 = .skip := rfl
theorem e7_28 : c7_28 = .seq c7_29 c7_30 := rfl
theorem e7_29 : c7_29 = .region 8 o7_29 false := rfl
theorem e7_30 : c7_30 = .seq c7_31 c7_32 := rfl
theorem e7_31 : c7_31 = .region 9 o7_31 false := rfl
theorem e7_32 : c7_32 = .seq c7_33 c7_87 := rfl
theorem e7_33 : c7_33 = .seq c7_34 c7_35 := rfl
theorem e7_34 : c7_34 = .region 10 o7_34 false := rfl
theorem e7_35 : c7_35 = .block 0 c7_36 := rfl
theorem e7_36 : c7_36 = .loop c7_37 := rfl
theorem e7_37 : c7_37 = .seq c7_38 c7_43 := rfl
theorem e7_38 : c7_38 = .seq c7_39 c7_40 := rfl
theorem e7_39 : c7_39 = .region 11 o7_39 false := rfl
theorem e7_40 : c7_40 = .cond (.tmp 34) c7_41 c7_42 := rfl
theorem e7_41 : c7_41 = .skip := rfl
theorem e7_42 : c7_42 = .exit 0 := rfl
theorem e7_43 : c7_43 = .seq c7_44 c7_86 := rfl
theorem e7_44 : c7_44 = .block 1 c7_45 := rfl
theorem e7_45 : c7_45 = .seq c7_46 c7_47 := rfl
theorem e7_46 : c7_46 = .region 13 o7_46 false := rfl
theorem e7_47 : c7_47 = .seq c7_48 c7_49 := rfl
theorem e7_48 : c7_48 = .region 14 o7_48 false := rfl
theorem e7_49 : c7_49 = .seq c7_50 c7_51 := rfl
theorem e7_50 : c7_50 = .region 15 o7_50 false := rfl
theorem e7_51 : c7_51 = .seq c7_52 c7_57 := rfl
theorem e7_52 : c7_52 = .seq c7_53 c7_54 := rfl
theorem e7_53 : c7_53 = .region 16 o7_53 false := rfl
theorem e7_54 : c7_54 = .cond (.tmp 44) c7_55 c7_56 := rfl
theorem e7_55 : c7_55 = .region 17 o7_55 false := rfl
theorem e7_56 : c7_56 = .region 18 o7_56 false := rfl
theorem e7_57 : c7_57 = .seq c7_58 c7_59 := rfl
theorem e7_58 : c7_58 = .region 19 o7_58 false := rfl
theorem e7_59 : c7_59 = .seq c7_60 c7_67 := rfl
theorem e7_60 : c7_60 = .seq c7_61 c7_62 := rfl
theorem e7_61 : c7_61 = .region 20 o7_61 false := rfl
theorem e7_62 : c7_62 = .cond (.tmp 67) c7_63 c7_66 := rfl
theorem e7_63 : c7_63 = .seq c7_64 c7_65 := rfl
theorem e7_64 : c7_64 = .region 21 o7_64 false := rfl
theorem e7_65 : c7_65 = .ret := rfl
theorem e7_66 : c7_66 = .skip := rfl
theorem e7_67 : c7_67 = .seq c7_68 c7_79 := rfl
theorem e7_68 : c7_68 = .seq c7_69 c7_70 := rfl
theorem e7_69 : c7_69 = .region 22 o7_69 false := rfl
theorem e7_70 : c7_70 = .cond (.tmp 68) c7_71 c7_78 := rfl
theorem e7_71 : c7_71 = .seq c7_72 c7_73 := rfl
theorem e7_72 : c7_72 = .region 23 o7_72 false := rfl
theorem e7_73 : c7_73 = .seq c7_74 c7_75 := rfl
theorem e7_74 : c7_74 = .region 24 o7_74 false := rfl
theorem e7_75 : c7_75 = .cond (.tmp 72) c7_76 c7_77 := rfl
theorem e7_76 : c7_76 = .region 25 o7_76 false := rfl
theorem e7_77 : c7_77 = .region 26 o7_77 false := rfl
theorem e7_78 : c7_78 = .skip := rfl
theorem e7_79 : c7_79 = .seq c7_80 c7_81 := rfl
theorem e7_80 : c7_80 = .region 27 o7_80 true := rfl
theorem e7_81 : c7_81 = .cond (.tmp 89) c7_82 c7_85 := rfl
theorem e7_82 : c7_82 = .seq c7_83 c7_84 := rfl
theorem e7_83 : c7_83 = .region 28 o7_83 false := rfl
theorem e7_84 : c7_84 = .ret := rfl
theorem e7_85 : c7_85 = .skip := rfl
theorem e7_86 : c7_86 = .region 12 o7_86 false := rfl
theorem e7_87 : c7_87 = .seq c7_88 c7_89 := rfl
theorem e7_88 : c7_88 = .region 29 o7_88 false := rfl
theorem e7_89 : c7_89 = .ret := rfl
theorem g7_0 : (run tb).code rd c7_0 (mk 90 f m) st = andThen ((run tb).code rd c7_1 (mk 90 f m) st) (fun fr st => (run tb).code rd c7_2 fr st) := gx_seq e7_0
noncomputable def l7_1 : { l : List Step // lightOf o7_1 = l } := by refine ⟨?_, ?h⟩; case h => simp only [lightOf, o7_1, opsOf, kid, bodyOf, Tryd.f7, Option.getD_some, List.map, stepOf, Option.map, List.getElem?_toArray, List.getElem?_cons_succ, List.getElem?_cons_zero, Option.bind_some]; rfl
theorem g7_1 : (run tb).code rd c7_1 (mk 90 f m) st = regB (evSteps tb (run tb) l7_1.1 (mk 90 f m) st) := gx_region e7_1 l7_1.2
theorem g7_2 : (run tb).code rd c7_2 (mk 90 f m) st = andThen ((run tb).code rd c7_3 (mk 90 f m) st) (fun fr st => (run tb).code rd c7_10 fr st) := gx_seq e7_2
theorem g7_3 : (run tb).code rd c7_3 (mk 90 f m) st = andThen ((run tb).code rd c7_4 (mk 90 f m) st) (fun fr st => (run tb).code rd c7_5 fr st) := gx_seq e7_3
noncomputable def l7_4 : { l : List Step // lightOf o7_4 = l } := by refine ⟨?_, ?h⟩; case h => simp only [lightOf, o7_4, opsOf, kid, bodyOf, Tryd.f7, Option.getD_some, List.map, stepOf, Option.map, List.getElem?_toArray, List.getElem?_cons_succ, List.getElem?_cons_zero, Option.bind_some]; rfl
theorem g7_4 : (run tb).code rd c7_4 (mk 90 f m) st = regB (evSteps tb (run tb) l7_4.1 (mk 90 f m) st) := gx_region e7_4 l7_4.2
theorem g7_5 : (run tb).code rd c7_5 (mk 90 f m) st = branch (f 14) (fun x => (run tb).code rd (sel x c7_6 c7_9) (mk 90 f m) st) := gx_cond e7_5 (by decide)
theorem g7_6 : (run tb).code rd c7_6 (mk 90 f m) st = andThen ((run tb).code rd c7_7 (mk 90 f m) st) (fun fr st => (run tb).code rd c7_8 fr st) := gx_seq e7_6
noncomputable def l7_7 : { l : List Step // lightOf o7_7 = l } := by refine ⟨?_, ?h⟩; case h => simp only [lightOf, o7_7, opsOf, kid, bodyOf, Tryd.f7, Option.getD_some, List.map, stepOf, Option.map, List.getElem?_toArray, List.getElem?_cons_succ, List.getElem?_cons_zero, Option.bind_some]; rfl
theorem g7_7 : (run tb).code rd c7_7 (mk 90 f m) st = regB (evSteps tb (run tb) l7_7.1 (mk 90 f m) st) := gx_region e7_7 l7_7.2
theorem g7_8 : (run tb).code rd c7_8 (mk 90 f m) st = some (.ret, mk 90 f m, st) := gx_ret e7_8
theorem g7_9 : (run tb).code rd c7_9 (mk 90 f m) st = some (.normal, mk 90 f m, st) := gx_skip e7_9
theorem g7_10 : (run tb).code rd c7_10 (mk 90 f m) st = andThen ((run tb).code rd c7_11 (mk 90 f m) st) (fun fr st => (run tb).code rd c7_18 fr st) := gx_seq e7_10
theorem g7_11 : (run tb).code rd c7_11 (mk 90 f m) st = andThen ((run tb).code rd c7_12 (mk 90 f m) st) (fun fr st => (run tb).code rd c7_13 fr st) := gx_seq e7_11
noncomputable def l7_12 : { l : List Step // lightOf o7_12 = l } := by refine ⟨?_, ?h⟩; case h => simp only [lightOf, o7_12, opsOf, kid, bodyOf, Tryd.f7, Option.getD_some, List.map, stepOf, Option.map, List.getElem?_toArray, List.getElem?_cons_succ, List.getElem?_cons_zero, Option.bind_some]; rfl
theorem g7_12 : (run tb).code rd c7_12 (mk 90 f m) st = regB (evSteps tb (run tb) l7_12.1 (mk 90 f m) st) := gx_region e7_12 l7_12.2
theorem g7_13 : (run tb).code rd c7_13 (mk 90 f m) st = branch (f 25) (fun x => (run tb).code rd (sel x c7_14 c7_17) (mk 90 f m) st) := gx_cond e7_13 (by decide)
theorem g7_14 : (run tb).code rd c7_14 (mk 90 f m) st = andThen ((run tb).code rd c7_15 (mk 90 f m) st) (fun fr st => (run tb).code rd c7_16 fr st) := gx_seq e7_14
noncomputable def l7_15 : { l : List Step // lightOf o7_15 = l } := by refine ⟨?_, ?h⟩; case h => simp only [lightOf, o7_15, opsOf, kid, bodyOf, Tryd.f7, Option.getD_some, List.map, stepOf, Option.map, List.getElem?_toArray, List.getElem?_cons_succ, List.getElem?_cons_zero, Option.bind_some]; rfl
theorem g7_15 : (run tb).code rd c7_15 (mk 90 f m) st = regB (evSteps tb (run tb) l7_15.1 (mk 90 f m) st) := gx_region e7_15 l7_15.2
theorem g7_16 : (run tb).code rd c7_16 (mk 90 f m) st = some (.ret, mk 90 f m, st) := gx_ret e7_16
theorem g7_17 : (run tb).code rd c7_17 (mk 90 f m) st = some (.normal, mk 90 f m, st) := gx_skip e7_17
theorem g7_18 : (run tb).code rd c7_18 (mk 90 f m) st = andThen ((run tb).code rd c7_19 (mk 90 f m) st) (fun fr st => (run tb).code rd c7_20 fr st) := gx_seq e7_18
noncomputable def l7_19 : { l : List Step // lightOf o7_19 = l } := by refine ⟨?_, ?h⟩; case h => simp only [lightOf, o7_19, opsOf, kid, bodyOf, Tryd.f7, Option.getD_some, List.map, stepOf, Option.map, List.getElem?_toArray, List.getElem?_cons_succ, List.getElem?_cons_zero, Option.bind_some]; rfl
theorem g7_19 : (run tb).code rd c7_19 (mk 90 f m) st = regB (evSteps tb (run tb) l7_19.1 (mk 90 f m) st) := gx_region e7_19 l7_19.2
theorem g7_20 : (run tb).code rd c7_20 (mk 90 f m) st = andThen ((run tb).code rd c7_21 (mk 90 f m) st) (fun fr st => (run tb).code rd c7_28 fr st) := gx_seq e7_20
theorem g7_21 : (run tb).code rd c7_21 (mk 90 f m) st = andThen ((run tb).code rd c7_22 (mk 90 f m) st) (fun fr st => (run tb).code rd c7_23 fr st) := gx_seq e7_21
noncomputable def l7_22 : { l : List Step // lightOf o7_22 = l } := by refine ⟨?_, ?h⟩; case h => simp only [lightOf, o7_22, opsOf, kid, bodyOf, Tryd.f7, Option.getD_some, List.map, stepOf, Option.map, List.getElem?_toArray, List.getElem?_cons_succ, List.getElem?_cons_zero, Option.bind_some]; rfl
theorem g7_22 : (run tb).code rd c7_22 (mk 90 f m) st = regB (evSteps tb (run tb) l7_22.1 (mk 90 f m) st) := gx_region e7_22 l7_22.2
theorem g7_23 : (run tb).code rd c7_23 (mk 90 f m) st = branch (f 29) (fun x => (run tb).code rd (sel x c7_24 c7_27) (mk 90 f m) st) := gx_cond e7_23 (by decide)
theorem g7_24 : (run tb).code rd c7_24 (mk 90 f m) st = andThen ((run tb).code rd c7_25 (mk 90 f m) st) (fun fr st => (run tb).code rd c7_26 fr st) := gx_seq e7_24
noncomputable def l7_25 : { l : List Step // lightOf o7_25 = l } := by refine ⟨?_, ?h⟩; case h => simp only [lightOf, o7_25, opsOf, kid, bodyOf, Tryd.f7, Option.getD_some, List.map, stepOf, Option.map, List.getElem?_toArray, List.getElem?_cons_succ, List.getElem?_cons_zero, Option.bind_some]; rfl
theorem g7_25 : (run tb).code rd c7_25 (mk 90 f m) st = regB (evSteps tb (run tb) l7_25.1 (mk 90 f m) st) := gx_region e7_25 l7_25.2
theorem g7_26 : (run tb).code rd c7_26 (mk 90 f m) st = some (.ret, mk 90 f m, st) := gx_ret e7_26
theorem g7_27 : (run tb).code rd c7_27 (mk 90 f m) st = some (.normal, mk 90 f m, st) := gx_skip e7_27
theorem g7_28 : (run tb).code rd c7_28 (mk 90 f m) st = andThen ((run tb).code rd c7_29 (mk 90 f m) st) (fun fr st => (run tb).code rd c7_30 fr st) := gx_seq e7_28
noncomputable def l7_29 : { l : List Step // lightOf o7_29 = l } := by refine ⟨?_, ?h⟩; case h => simp only [lightOf, o7_29, opsOf, kid, bodyOf, Tryd.f7, Option.getD_some, List.map, stepOf, Option.map, List.getElem?_toArray, List.getElem?_cons_succ, List.getElem?_cons_zero, Option.bind_some]; rfl
theorem g7_29 : (run tb).code rd c7_29 (mk 90 f m) st = regB (evSteps tb (run tb) l7_29.1 (mk 90 f m) st) := gx_region e7_29 l7_29.2
theorem g7_30 : (run tb).code rd c7_30 (mk 90 f m) st = andThen ((run tb).code rd c7_31 (mk 90 f m) st) (fun fr st => (run tb).code rd c7_32 fr st) := gx_seq e7_30
noncomputable def l7_31 : { l : List Step // lightOf o7_31 = l } := by refine ⟨?_, ?h⟩; case h => simp only [lightOf, o7_31, opsOf, kid, bodyOf, Tryd.f7, Option.getD_some, List.map, stepOf, Option.map, List.getElem?_toArray, List.getElem?_cons_succ, List.getElem?_cons_zero, Option.bind_some]; rfl
theorem g7_31 : (run tb).code rd c7_31 (mk 90 f m) st = regB (evSteps tb (run tb) l7_31.1 (mk 90 f m) st) := gx_region e7_31 l7_31.2
theorem g7_32 : (run tb).code rd c7_32 (mk 90 f m) st = andThen ((run tb).code rd c7_33 (mk 90 f m) st) (fun fr st => (run tb).code rd c7_87 fr st) := gx_seq e7_32
theorem g7_33 : (run tb).code rd c7_33 (mk 90 f m) st = andThen ((run tb).code rd c7_34 (mk 90 f m) st) (fun fr st => (run tb).code rd c7_35 fr st) := gx_seq e7_33
noncomputable def l7_34 : { l : List Step // lightOf o7_34 = l } := by refine ⟨?_, ?h⟩; case h => simp only [lightOf, o7_34, opsOf, kid, bodyOf, Tryd.f7, Option.getD_some, List.map, stepOf, Option.map, List.getElem?_toArray, List.getElem?_cons_succ, List.getElem?_cons_zero, Option.bind_some]; rfl
theorem g7_34 : (run tb).code rd c7_34 (mk 90 f m) st = regB (evSteps tb (run tb) l7_34.1 (mk 90 f m) st) := gx_region e7_34 l7_34.2
theorem g7_35 : (run tb).code rd c7_35 (mk 90 f m) st = closeB 0 ((run tb).code rd c7_36 (mk 90 f m) st) := gx_block e7_35
theorem g7_37 : (run tb).code rd c7_37 (mk 90 f m) st = andThen ((run tb).code rd c7_38 (mk 90 f m) st) (fun fr st => (run tb).code rd c7_43 fr st) := gx_seq e7_37
theorem g7_38 : (run tb).code rd c7_38 (mk 90 f m) st = andThen ((run tb).code rd c7_39 (mk 90 f m) st) (fun fr st => (run tb).code rd c7_40 fr st) := gx_seq e7_38
noncomputable def l7_39 : { l : List Step // lightOf o7_39 = l } := by refine ⟨?_, ?h⟩; case h => simp only [lightOf, o7_39, opsOf, kid, bodyOf, Tryd.f7, Option.getD_some, List.map, stepOf, Option.map, List.getElem?_toArray, List.getElem?_cons_succ, List.getElem?_cons_zero, Option.bind_some]; rfl
theorem g7_39 : (run tb).code rd c7_39 (mk 90 f m) st = regB (evSteps tb (run tb) l7_39.1 (mk 90 f m) st) := gx_region e7_39 l7_39.2
theorem g7_40 : (run tb).code rd c7_40 (mk 90 f m) st = branch (f 34) (fun x => (run tb).code rd (sel x c7_41 c7_42) (mk 90 f m) st) := gx_cond e7_40 (by decide)
theorem g7_41 : (run tb).code rd c7_41 (mk 90 f m) st = some (.normal, mk 90 f m, st) := gx_skip e7_41
theorem g7_42 : (run tb).code rd c7_42 (mk 90 f m) st = some (.exit 0, mk 90 f m, st) := gx_exit e7_42
theorem g7_43 : (run tb).code rd c7_43 (mk 90 f m) st = andThen ((run tb).code rd c7_44 (mk 90 f m) st) (fun fr st => (run tb).code rd c7_86 fr st) := gx_seq e7_43
theorem g7_44 : (run tb).code rd c7_44 (mk 90 f m) st = closeB 1 ((run tb).code rd c7_45 (mk 90 f m) st) := gx_block e7_44
theorem g7_45 : (run tb).code rd c7_45 (mk 90 f m) st = andThen ((run tb).code rd c7_46 (mk 90 f m) st) (fun fr st => (run tb).code rd c7_47 fr st) := gx_seq e7_45
noncomputable def l7_46 : { l : List Step // lightOf o7_46 = l } := by refine ⟨?_, ?h⟩; case h => simp only [lightOf, o7_46, opsOf, kid, bodyOf, Tryd.f7, Option.getD_some, List.map, stepOf, Option.map, List.getElem?_toArray, List.getElem?_cons_succ, List.getElem?_cons_zero, Option.bind_some]; rfl
theorem g7_46 : (run tb).code rd c7_46 (mk 90 f m) st = regB (evSteps tb (run tb) l7_46.1 (mk 90 f m) st) := gx_region e7_46 l7_46.2
theorem g7_47 : (run tb).code rd c7_47 (mk 90 f m) st = andThen ((run tb).code rd c7_48 (mk 90 f m) st) (fun fr st => (run tb).code rd c7_49 fr st) := gx_seq e7_47
noncomputable def l7_48 : { l : List Step // lightOf o7_48 = l } := by refine ⟨?_, ?h⟩; case h => simp only [lightOf, o7_48, opsOf, kid, bodyOf, Tryd.f7, Option.getD_some, List.map, stepOf, Option.map, List.getElem?_toArray, List.getElem?_cons_succ, List.getElem?_cons_zero, Option.bind_some]; rfl
theorem g7_48 : (run tb).code rd c7_48 (mk 90 f m) st = regB (evSteps tb (run tb) l7_48.1 (mk 90 f m) st) := gx_region e7_48 l7_48.2
theorem g7_49 : (run tb).code rd c7_49 (mk 90 f m) st = andThen ((run tb).code rd c7_50 (mk 90 f m) st) (fun fr st => (run tb).code rd c7_51 fr st) := gx_seq e7_49
noncomputable def l7_50 : { l : List Step // lightOf o7_50 = l } := by refine ⟨?_, ?h⟩; case h => simp only [lightOf, o7_50, opsOf, kid, bodyOf, Tryd.f7, Option.getD_some, List.map, stepOf, Option.map, List.getElem?_toArray, List.getElem?_cons_succ, List.getElem?_cons_zero, Option.bind_some]; rfl
theorem g7_50 : (run tb).code rd c7_50 (mk 90 f m) st = regB (evSteps tb (run tb) l7_50.1 (mk 90 f m) st) := gx_region e7_50 l7_50.2
theorem g7_51 : (run tb).code rd c7_51 (mk 90 f m) st = andThen ((run tb).code rd c7_52 (mk 90 f m) st) (fun fr st => (run tb).code rd c7_57 fr st) := gx_seq e7_51
theorem g7_52 : (run tb).code rd c7_52 (mk 90 f m) st = andThen ((run tb).code rd c7_53 (mk 90 f m) st) (fun fr st => (run tb).code rd c7_54 fr st) := gx_seq e7_52
noncomputable def l7_53 : { l : List Step // lightOf o7_53 = l } := by refine ⟨?_, ?h⟩; case h => simp only [lightOf, o7_53, opsOf, kid, bodyOf, Tryd.f7, Option.getD_some, List.map, stepOf, Option.map, List.getElem?_toArray, List.getElem?_cons_succ, List.getElem?_cons_zero, Option.bind_some]; rfl
theorem g7_53 : (run tb).code rd c7_53 (mk 90 f m) st = regB (evSteps tb (run tb) l7_53.1 (mk 90 f m) st) := gx_region e7_53 l7_53.2
theorem g7_54 : (run tb).code rd c7_54 (mk 90 f m) st = branch (f 44) (fun x => (run tb).code rd (sel x c7_55 c7_56) (mk 90 f m) st) := gx_cond e7_54 (by decide)
noncomputable def l7_55 : { l : List Step // lightOf o7_55 = l } := by refine ⟨?_, ?h⟩; case h => simp only [lightOf, o7_55, opsOf, kid, bodyOf, Tryd.f7, Option.getD_some, List.map, stepOf, Option.map, List.getElem?_toArray, List.getElem?_cons_succ, List.getElem?_cons_zero, Option.bind_some]; rfl
theorem g7_55 : (run tb).code rd c7_55 (mk 90 f m) st = regB (evSteps tb (run tb) l7_55.1 (mk 90 f m) st) := gx_region e7_55 l7_55.2
noncomputable def l7_56 : { l : List Step // lightOf o7_56 = l } := by refine ⟨?_, ?h⟩; case h => simp only [lightOf, o7_56, opsOf, kid, bodyOf, Tryd.f7, Option.getD_some, List.map, stepOf, Option.map, List.getElem?_toArray, List.getElem?_cons_succ, List.getElem?_cons_zero, Option.bind_some]; rfl
theorem g7_56 : (run tb).code rd c7_56 (mk 90 f m) st = regB (evSteps tb (run tb) l7_56.1 (mk 90 f m) st) := gx_region e7_56 l7_56.2
theorem g7_57 : (run tb).code rd c7_57 (mk 90 f m) st = andThen ((run tb).code rd c7_58 (mk 90 f m) st) (fun fr st => (run tb).code rd c7_59 fr st) := gx_seq e7_57
noncomputable def l7_58 : { l : List Step // lightOf o7_58 = l } := by refine ⟨?_, ?h⟩; case h => simp only [lightOf, o7_58, opsOf, kid, bodyOf, Tryd.f7, Option.getD_some, List.map, stepOf, Option.map, List.getElem?_toArray, List.getElem?_cons_succ, List.getElem?_cons_zero, Option.bind_some]; rfl
theorem g7_58 : (run tb).code rd c7_58 (mk 90 f m) st = regB (evSteps tb (run tb) l7_58.1 (mk 90 f m) st) := gx_region e7_58 l7_58.2
theorem g7_59 : (run tb).code rd c7_59 (mk 90 f m) st = andThen ((run tb).code rd c7_60 (mk 90 f m) st) (fun fr st => (run tb).code rd c7_67 fr st) := gx_seq e7_59
theorem g7_60 : (run tb).code rd c7_60 (mk 90 f m) st = andThen ((run tb).code rd c7_61 (mk 90 f m) st) (fun fr st => (run tb).code rd c7_62 fr st) := gx_seq e7_60
noncomputable def l7_61 : { l : List Step // lightOf o7_61 = l } := by refine ⟨?_, ?h⟩; case h => simp only [lightOf, o7_61, opsOf, kid, bodyOf, Tryd.f7, Option.getD_some, List.map, stepOf, Option.map, List.getElem?_toArray, List.getElem?_cons_succ, List.getElem?_cons_zero, Option.bind_some]; rfl
theorem g7_61 : (run tb).code rd c7_61 (mk 90 f m) st = regB (evSteps tb (run tb) l7_61.1 (mk 90 f m) st) := gx_region e7_61 l7_61.2
theorem g7_62 : (run tb).code rd c7_62 (mk 90 f m) st = branch (f 67) (fun x => (run tb).code rd (sel x c7_63 c7_66) (mk 90 f m) st) := gx_cond e7_62 (by decide)
theorem g7_63 : (run tb).code rd c7_63 (mk 90 f m) st = andThen ((run tb).code rd c7_64 (mk 90 f m) st) (fun fr st => (run tb).code rd c7_65 fr st) := gx_seq e7_63
noncomputable def l7_64 : { l : List Step // lightOf o7_64 = l } := by refine ⟨?_, ?h⟩; case h => simp only [lightOf, o7_64, opsOf, kid, bodyOf, Tryd.f7, Option.getD_some, List.map, stepOf, Option.map, List.getElem?_toArray, List.getElem?_cons_succ, List.getElem?_cons_zero, Option.bind_some]; rfl
theorem g7_64 : (run tb).code rd c7_64 (mk 90 f m) st = regB (evSteps tb (run tb) l7_64.1 (mk 90 f m) st) := gx_region e7_64 l7_64.2
theorem g7_65 : (run tb).code rd c7_65 (mk 90 f m) st = some (.ret, mk 90 f m, st) := gx_ret e7_65
theorem g7_66 : (run tb).code rd c7_66 (mk 90 f m) st = some (.normal, mk 90 f m, st) := gx_skip e7_66
theorem g7_67 : (run tb).code rd c7_67 (mk 90 f m) st = andThen ((run tb).code rd c7_68 (mk 90 f m) st) (fun fr st => (run tb).code rd c7_79 fr st) := gx_seq e7_67
theorem g7_68 : (run tb).code rd c7_68 (mk 90 f m) st = andThen ((run tb).code rd c7_69 (mk 90 f m) st) (fun fr st => (run tb).code rd c7_70 fr st) := gx_seq e7_68
noncomputable def l7_69 : { l : List Step // lightOf o7_69 = l } := by refine ⟨?_, ?h⟩; case h => simp only [lightOf, o7_69, opsOf, kid, bodyOf, Tryd.f7, Option.getD_some, List.map, stepOf, Option.map, List.getElem?_toArray, List.getElem?_cons_succ, List.getElem?_cons_zero, Option.bind_some]; rfl
theorem g7_69 : (run tb).code rd c7_69 (mk 90 f m) st = regB (evSteps tb (run tb) l7_69.1 (mk 90 f m) st) := gx_region e7_69 l7_69.2
theorem g7_70 : (run tb).code rd c7_70 (mk 90 f m) st = branch (f 68) (fun x => (run tb).code rd (sel x c7_71 c7_78) (mk 90 f m) st) := gx_cond e7_70 (by decide)
theorem g7_71 : (run tb).code rd c7_71 (mk 90 f m) st = andThen ((run tb).code rd c7_72 (mk 90 f m) st) (fun fr st => (run tb).code rd c7_73 fr st) := gx_seq e7_71
noncomputable def l7_72 : { l : List Step // lightOf o7_72 = l } := by refine ⟨?_, ?h⟩; case h => simp only [lightOf, o7_72, opsOf, kid, bodyOf, Tryd.f7, Option.getD_some, List.map, stepOf, Option.map, List.getElem?_toArray, List.getElem?_cons_succ, List.getElem?_cons_zero, Option.bind_some]; rfl
theorem g7_72 : (run tb).code rd c7_72 (mk 90 f m) st = regB (evSteps tb (run tb) l7_72.1 (mk 90 f m) st) := gx_region e7_72 l7_72.2
theorem g7_73 : (run tb).code rd c7_73 (mk 90 f m) st = andThen ((run tb).code rd c7_74 (mk 90 f m) st) (fun fr st => (run tb).code rd c7_75 fr st) := gx_seq e7_73
noncomputable def l7_74 : { l : List Step // lightOf o7_74 = l } := by refine ⟨?_, ?h⟩; case h => simp only [lightOf, o7_74, opsOf, kid, bodyOf, Tryd.f7, Option.getD_some, List.map, stepOf, Option.map, List.getElem?_toArray, List.getElem?_cons_succ, List.getElem?_cons_zero, Option.bind_some]; rfl
theorem g7_74 : (run tb).code rd c7_74 (mk 90 f m) st = regB (evSteps tb (run tb) l7_74.1 (mk 90 f m) st) := gx_region e7_74 l7_74.2
theorem g7_75 : (run tb).code rd c7_75 (mk 90 f m) st = branch (f 72) (fun x => (run tb).code rd (sel x c7_76 c7_77) (mk 90 f m) st) := gx_cond e7_75 (by decide)
noncomputable def l7_76 : { l : List Step // lightOf o7_76 = l } := by refine ⟨?_, ?h⟩; case h => simp only [lightOf, o7_76, opsOf, kid, bodyOf, Tryd.f7, Option.getD_some, List.map, stepOf, Option.map, List.getElem?_toArray, List.getElem?_cons_succ, List.getElem?_cons_zero, Option.bind_some]; rfl
theorem g7_76 : (run tb).code rd c7_76 (mk 90 f m) st = regB (evSteps tb (run tb) l7_76.1 (mk 90 f m) st) := gx_region e7_76 l7_76.2
noncomputable def l7_77 : { l : List Step // lightOf o7_77 = l } := by refine ⟨?_, ?h⟩; case h => simp only [lightOf, o7_77, opsOf, kid, bodyOf, Tryd.f7, Option.getD_some, List.map, stepOf, Option.map, List.getElem?_toArray, List.getElem?_cons_succ, List.getElem?_cons_zero, Option.bind_some]; rfl
theorem g7_77 : (run tb).code rd c7_77 (mk 90 f m) st = regB (evSteps tb (run tb) l7_77.1 (mk 90 f m) st) := gx_region e7_77 l7_77.2
theorem g7_78 : (run tb).code rd c7_78 (mk 90 f m) st = some (.normal, mk 90 f m, st) := gx_skip e7_78
theorem g7_79 : (run tb).code rd c7_79 (mk 90 f m) st = andThen ((run tb).code rd c7_80 (mk 90 f m) st) (fun fr st => (run tb).code rd c7_81 fr st) := gx_seq e7_79
noncomputable def l7_80 : { l : List DStep // drawAt o7_80 [(0, 0), (1, 0), (3, 0), (4, 0), (5, 24), (2, 3), (6, 63), (7, 127), (8, 255), (10, 255), (9, 511), (11, 2047), (12, 4095)] = l } := by refine ⟨?_, ?h⟩; case h => simp only [drawAt, entsAt, o7_80, opsOf, kid, bodyOf, Tryd.f7, Option.getD_some, List.map, stepOf, Option.map, List.getElem?_toArray, List.getElem?_cons_succ, List.getElem?_cons_zero, Option.bind_some]; rfl
theorem g7_80 : (run tb).code rd c7_80 (mk 90 f m) st = regB (evDraws tb (run tb) l7_80.1 [] (mk 90 f m) st) := gx_draw [(0, 0), (1, 0), (3, 0), (4, 0), (5, 24), (2, 3), (6, 63), (7, 127), (8, 255), (10, 255), (9, 511), (11, 2047), (12, 4095)] e7_80 (by kernel_rfl) l7_80.2
theorem g7_81 : (run tb).code rd c7_81 (mk 90 f m) st = branch (f 89) (fun x => (run tb).code rd (sel x c7_82 c7_85) (mk 90 f m) st) := gx_cond e7_81 (by decide)
theorem g7_82 : (run tb).code rd c7_82 (mk 90 f m) st = andThen ((run tb).code rd c7_83 (mk 90 f m) st) (fun fr st => (run tb).code rd c7_84 fr st) := gx_seq e7_82
noncomputable def l7_83 : { l : List Step // lightOf o7_83 = l } := by refine ⟨?_, ?h⟩; case h => simp only [lightOf, o7_83, opsOf, kid, bodyOf, Tryd.f7, Option.getD_some, List.map, stepOf, Option.map, List.getElem?_toArray, List.getElem?_cons_succ, List.getElem?_cons_zero, Option.bind_some]; rfl
theorem g7_83 : (run tb).code rd c7_83 (mk 90 f m) st = regB (evSteps tb (run tb) l7_83.1 (mk 90 f m) st) := gx_region e7_83 l7_83.2
theorem g7_84 : (run tb).code rd c7_84 (mk 90 f m) st = some (.ret, mk 90 f m, st) := gx_ret e7_84
theorem g7_85 : (run tb).code rd c7_85 (mk 90 f m) st = some (.normal, mk 90 f m, st) := gx_skip e7_85
noncomputable def l7_86 : { l : List Step // lightOf o7_86 = l } := by refine ⟨?_, ?h⟩; case h => simp only [lightOf, o7_86, opsOf, kid, bodyOf, Tryd.f7, Option.getD_some, List.map, stepOf, Option.map, List.getElem?_toArray, List.getElem?_cons_succ, List.getElem?_cons_zero, Option.bind_some]; rfl
theorem g7_86 : (run tb).code rd c7_86 (mk 90 f m) st = regB (evSteps tb (run tb) l7_86.1 (mk 90 f m) st) := gx_region e7_86 l7_86.2
theorem g7_87 : (run tb).code rd c7_87 (mk 90 f m) st = andThen ((run tb).code rd c7_88 (mk 90 f m) st) (fun fr st => (run tb).code rd c7_89 fr st) := gx_seq e7_87
noncomputable def l7_88 : { l : List Step // lightOf o7_88 = l } := by refine ⟨?_, ?h⟩; case h => simp only [lightOf, o7_88, opsOf, kid, bodyOf, Tryd.f7, Option.getD_some, List.map, stepOf, Option.map, List.getElem?_toArray, List.getElem?_cons_succ, List.getElem?_cons_zero, Option.bind_some]; rfl
theorem g7_88 : (run tb).code rd c7_88 (mk 90 f m) st = regB (evSteps tb (run tb) l7_88.1 (mk 90 f m) st) := gx_region e7_88 l7_88.2
theorem g7_89 : (run tb).code rd c7_89 (mk 90 f m) st = some (.ret, mk 90 f m, st) := gx_ret e7_89
end Go.Proofs.YtgknieohkniojaaDoor
namespace Go.Proofs.YtgknieohkniojaaDoor
open Go.Abs
set_option maxRecDepth 100000
set_option linter.unusedSimpArgs false
set_option linter.unusedVariables false
set_option maxHeartbeats 4000000
theorem lt_of_get {α : Type} {l : List α} {i : Nat} {x : α} (h : l[i]? = some x) : i < l.length := by
  by_cases hh : i < l.length
  · exact hh
  · rw [List.getElem?_eq_none (by omega)] at h; cases h
theorem inS_nat (S : Nat → Bool) (k : Nat) : inS S (k : Int) = S k := by simp [inS]
theorem inS_out {b : Nat} {S : Nat → Bool} {k : Int} (hz : ∀ i, b ≤ i → S i = false) (h : ¬ (0 ≤ k ∧ k < b)) : inS S k = false := by
  unfold inS
  by_cases h0 : 0 ≤ k
  · rw [hz _ (by omega)]; simp
  · simp [h0]
theorem inS_add {b : Nat} {S : Nat → Bool} {k : Int} (h : 0 ≤ k ∧ k < b) (j : Int) : inS (addS b S k) j = if j = k then true else inS S j := by
  unfold inS addS
  by_cases hj : j = k
  · subst hj; rw [if_pos rfl]; simp [h.1]; right; omega
  · rw [if_neg hj]
    by_cases h0 : 0 ≤ j
    · have : ¬ ((j.toNat : Int) = k) := by omega
      simp only [this, decide_false, Bool.and_false, Bool.or_false]
    · simp [h0]
theorem inS_cut {S : Nat → Bool} {k : Int} (j : Int) : inS (cutS S k) j = if j = k then false else inS S j := by
  unfold inS cutS
  by_cases hj : j = k
  · subst hj; rw [if_pos rfl]
    by_cases h0 : 0 ≤ j
    · have : (j.toNat : Int) = j := by omega
      simp [this]
    · simp [h0]
  · rw [if_neg hj]
    by_cases h0 : 0 ≤ j
    · have : ¬ ((j.toNat : Int) = k) := by omega
      simp only [this, decide_false, Bool.not_false, Bool.and_true]
    · simp [h0]
theorem addS_same {b : Nat} {S : Nat → Bool} {k : Int} (hz : ∀ i, b ≤ i → S i = false) (h : (decide (0 ≤ k) && decide (k < b) && !inS S k) = false) (j : Nat) : addS b S k j = S j := by
  unfold addS
  by_cases hj : (j : Int) = k
  · subst hj
    rw [inS_nat] at h
    by_cases hb : j < b
    · simp [hb] at h; simp [h]
    · rw [hz j (by omega)]; simp [hb]
  · simp [hj]
theorem cutS_same {S : Nat → Bool} {k : Int} (h : inS S k = false) (j : Nat) : cutS S k j = S j := by
  unfold cutS
  by_cases hj : (j : Int) = k
  · subst hj; rw [inS_nat] at h; simp [h]
  · simp [hj]
theorem cnt_addS {b : Nat} {S : Nat → Bool} {k : Int} (hk : 0 ≤ k ∧ k < b) (h : inS S k = false) : cnt (addS b S k) b = cnt S b + 1 := by
  obtain ⟨n, rfl⟩ : ∃ n : Nat, k = n := ⟨k.toNat, by omega⟩
  rw [inS_nat] at h
  rw [← cnt_put_false h (by omega : n < b)]
  apply cnt_congr
  intro i hi
  unfold addS putAt
  by_cases hj : i = n
  · subst hj; simp; omega
  · have : ¬ ((i : Int) = n) := by omega
    simp [hj, this]
theorem cnt_cutS {b : Nat} {S : Nat → Bool} {k : Int} (hk : 0 ≤ k ∧ k < b) (h : inS S k = true) : cnt (cutS S k) b + 1 = cnt S b := by
  obtain ⟨n, rfl⟩ : ∃ n : Nat, k = n := ⟨k.toNat, by omega⟩
  rw [inS_nat] at h
  rw [← cnt_put_true h (by omega : n < b)]
  congr 1
  apply cnt_congr
  intro i hi
  unfold cutS putAt
  by_cases hj : i = n
  · subst hj; simp
  · have : ¬ ((i : Int) = n) := by omega
    simp [hj, this]
/-- One step of the law in which nothing changes. -/
theorem steps_same (a w0 w p : Bool) (r mr b i n m3 i1 : Nat) (k : Int) (nl : Option Bool) (is : List Int) (f : Nat → V) (st : St)
    (hlt : i < is.length) (hi : (ints is)[i]? = some (.int .i64 k)) (h0 : f 0 = .int .i64 (b : Nat)) (h1 : f 1 = .list false nl (ints is)) (h5 : f 5 = .ptr r 0) (h6 : f 6 = .map mr) (h7 : f 7 = .int .i64 (n : Nat)) (h8 : f 8 = .int .i64 (i : Nat))
    (hm3 : intBin .rem .i64 (i : Nat) 3 = some (.int .i64 (m3 : Nat))) (ha : ((m3 : Int) != 2) = a) (hw0 : decide (0 ≤ k) = w0) (hw : decide (k < b) = w)
    (hadd : a = true → (run tb).call 28 [.ptr r 0, .int .i64 k] st = some (.bool false, st)) (hcut : a = false → (run tb).call 29 [.ptr r 0, .int .i64 k] st = some (.bool false, st))
    (hv : evLookup tb st 51 (.map mr) (.int .i64 k) false = some (.bool p)) (hc : (w0 && w && (p != a)) = false)
    (hhas : ∀ P, (run tb).call 19 [.ptr r 0, .int .i64 k] { st with prot := P } = some (.bool p, { st with prot := P })) (hlen : ∀ P, (run tb).call 16 [.ptr r 0] { st with prot := P } = some (.int .i64 (n : Nat), { st with prot := P }))
    (hn : intBin .add .i64 (i : Nat) 1 = some (.int .i64 (i1 : Nat))) {Q : E → (Nat → V) → St → Prop}
    (next : ∀ f', f' 0 = .int .i64 (b : Nat) → f' 1 = .list false nl (ints is) → f' 5 = .ptr r 0 → f' 6 = .map mr → f' 7 = .int .i64 (n : Nat) → f' 8 = .int .i64 (i1 : Nat) → Out 90 [] Q ((run tb).code none c7_36 (mk 90 f' []) st)) :
    Out 90 [] Q ((run tb).code none c7_36 (mk 90 f []) st) := by
  rw [go_loop_of e7_36]
  cases a <;> cases w0 <;> cases w <;> cases p <;> simp at hc
  all_goals
    simp at hadd hcut
    simp (config := { decide := true }) [g7_37, g7_38, g7_39, g7_40, g7_41, g7_42, g7_43, g7_44, g7_45, g7_46, g7_47, g7_48, g7_49, g7_50, g7_51, g7_52, g7_53, g7_54, g7_55, g7_56, g7_57, g7_58, g7_59, g7_60, g7_61, g7_62, g7_63, g7_64, g7_65, g7_66, g7_67, g7_68, g7_69, g7_70, g7_71, g7_72, g7_73, g7_74, g7_75, g7_76, g7_77, g7_78, g7_79, g7_80, g7_81, g7_82, g7_83, g7_84, g7_85, g7_86, l7_39, l7_46, l7_48, l7_50, l7_53, l7_55, l7_56, l7_58, l7_61, l7_64, l7_69, l7_72, l7_74, l7_76, l7_77, l7_80, l7_83, l7_86, steps_nil, steps_cons, draws_nil, draws_cons, step_mk, stepB_some, stepB_none, memB_mk, thenS_some, regB_some, branch_bool, sel_true, sel_false, wanted_none, wanted_some, asB, mk_put, mk_put_none, arg_tmp, arg_const, arg_func, arg_global, upd_same, upd_ne, evPure, evArgs, m_load, m_store, m_alloc, m_box, m_call, m_lookup, m_mapUpdate, m_inv, evLoad, readCells, evFieldAddr, evIndexAddr, asIdx, ofValue, isPure, evBin, ib_lss, ib_leq, ib_gtr, ib_geq, ib_eql, ib_neq, evUn, leave_normal, leave_ret, finish, then_normal, then_exit, then_ret, close_normal, close_exit, close_ret, evConv, mk_marks, dropMarks, resOf, resList, mk_getD, argF, List.getD_cons_zero, List.getD_cons_succ, V.cells, evLen, kdOp, kdOf, readsOf, protS, eq_bool, eq_nil28, evStore, V.oneCell, putElem, splice, -List.getD_eq_getElem?_getD, -getElem?_pos, und55, und53, und22, size3, size53, size58, size22, ty3, ty4, ty53, ty58, ty22, h0, h1, h5, h6, h7, h8, hi, hlt, hm3, ha, hw0, hw, hadd, hcut, hv, hhas, hlen, hn, ints_len]
    refine next _ ?_ ?_ ?_ ?_ ?_ ?_
    all_goals simp [upd_same, upd_ne, h0, h1, h5, h6, h7]
/-- One step of the law in which something changes. -/
theorem steps_change (a : Bool) (r mr b i n n' m3 i1 : Nat) (k : Int) (nl : Option Bool) (is : List Int) (f : Nat → V) (st st1 st2 : St)
    (hlt : i < is.length) (hi : (ints is)[i]? = some (.int .i64 k)) (h0 : f 0 = .int .i64 (b : Nat)) (h1 : f 1 = .list false nl (ints is)) (h5 : f 5 = .ptr r 0) (h6 : f 6 = .map mr) (h7 : f 7 = .int .i64 (n : Nat)) (h8 : f 8 = .int .i64 (i : Nat))
    (hm3 : intBin .rem .i64 (i : Nat) 3 = some (.int .i64 (m3 : Nat))) (ha : ((m3 : Int) != 2) = a) (hw0 : 0 ≤ k) (hw : k < b)
    (hadd : a = true → (run tb).call 28 [.ptr r 0, .int .i64 k] st = some (.bool true, st1)) (hcut : a = false → (run tb).call 29 [.ptr r 0, .int .i64 k] st = some (.bool true, st1))
    (hv : evLookup tb st1 51 (.map mr) (.int .i64 k) false = some (.bool (!a))) (hu : evMapUpdate tb st1 51 (.map mr) (.int .i64 k) (.bool a) = some st2) (hv2 : evLookup tb st2 51 (.map mr) (.int .i64 k) false = some (.bool a))
    (hhas : ∀ P, (run tb).call 19 [.ptr r 0, .int .i64 k] { st2 with prot := P } = some (.bool a, { st2 with prot := P })) (hlen : ∀ P, (run tb).call 16 [.ptr r 0] { st2 with prot := P } = some (.int .i64 (n' : Nat), { st2 with prot := P }))
    (hup : a = true → intBin .add .i64 (n : Nat) 1 = some (.int .i64 (n' : Nat))) (hdown : a = false → intBin .sub .i64 (n : Nat) 1 = some (.int .i64 (n' : Nat)))
    (hn : intBin .add .i64 (i : Nat) 1 = some (.int .i64 (i1 : Nat))) {Q : E → (Nat → V) → St → Prop}
    (next : ∀ f', f' 0 = .int .i64 (b : Nat) → f' 1 = .list false nl (ints is) → f' 5 = .ptr r 0 → f' 6 = .map mr → f' 7 = .int .i64 (n' : Nat) → f' 8 = .int .i64 (i1 : Nat) → Out 90 [] Q ((run tb).code none c7_36 (mk 90 f' []) st2)) :
    Out 90 [] Q ((run tb).code none c7_36 (mk 90 f []) st) := by
  rw [go_loop_of e7_36]
  cases a
  all_goals
    simp at hadd hcut hup hdown hv
    simp (config := { decide := true }) [g7_37, g7_38, g7_39, g7_40, g7_41, g7_42, g7_43, g7_44, g7_45, g7_46, g7_47, g7_48, g7_49, g7_50, g7_51, g7_52, g7_53, g7_54, g7_55, g7_56, g7_57, g7_58, g7_59, g7_60, g7_61, g7_62, g7_63, g7_64, g7_65, g7_66, g7_67, g7_68, g7_69, g7_70, g7_71, g7_72, g7_73, g7_74, g7_75, g7_76, g7_77, g7_78, g7_79, g7_80, g7_81, g7_82, g7_83, g7_84, g7_85, g7_86, l7_39, l7_46, l7_48, l7_50, l7_53, l7_55, l7_56, l7_58, l7_61, l7_64, l7_69, l7_72, l7_74, l7_76, l7_77, l7_80, l7_83, l7_86, steps_nil, steps_cons, draws_nil, draws_cons, step_mk, stepB_some, stepB_none, memB_mk, thenS_some, regB_some, branch_bool, sel_true, sel_false, wanted_none, wanted_some, asB, mk_put, mk_put_none, arg_tmp, arg_const, arg_func, arg_global, upd_same, upd_ne, evPure, evArgs, m_load, m_store, m_alloc, m_box, m_call, m_lookup, m_mapUpdate, m_inv, evLoad, readCells, evFieldAddr, evIndexAddr, asIdx, ofValue, isPure, evBin, ib_lss, ib_leq, ib_gtr, ib_geq, ib_eql, ib_neq, evUn, leave_normal, leave_ret, finish, then_normal, then_exit, then_ret, close_normal, close_exit, close_ret, evConv, mk_marks, dropMarks, resOf, resList, mk_getD, argF, List.getD_cons_zero, List.getD_cons_succ, V.cells, evLen, kdOp, kdOf, readsOf, protS, eq_bool, eq_nil28, evStore, V.oneCell, putElem, splice, -List.getD_eq_getElem?_getD, -getElem?_pos, und55, und53, und22, size3, size53, size58, size22, ty3, ty4, ty53, ty58, ty22, h0, h1, h5, h6, h7, h8, hi, hlt, hm3, ha, hw0, hw, hadd, hcut, hv, hv2, hu, hup, hdown, hhas, hlen, hn, ints_len]
    refine next _ ?_ ?_ ?_ ?_ ?_ ?_
    all_goals simp [upd_same, upd_ne, h0, h1, h5, h6, h7]
theorem steps_loop (r rv mr b : Nat) (nl : Option Bool) (is : List Int) (hlen : is.length ≤ 100) (hb : b ≤ 1000) : ∀ (d i : Nat) (S : Nat → Bool) (kvs : List (Int × Bool)) (st : St) (f : Nat → V), i + d = is.length → SetAt st r rv b S → Free st rv → MapAt st mr kvs → Free st mr → (∀ k, mval kvs k = inS S k) →
    f 0 = .int .i64 (b : Nat) → f 1 = .list false nl (ints is) → f 5 = .ptr r 0 → f 6 = .map mr → f 7 = .int .i64 (cnt S b : Nat) → f 8 = .int .i64 (i : Nat) →
    Out 90 [] (fun e f' st' => e = .exit 0) ((run tb).code none c7_36 (mk 90 f []) st)
  | 0, i, S, kvs, st, f, hk, hs, hl, hm, hml, hW, h0, h1, h5, h6, h7, h8 => by
    have hk : i = is.length := hk
    subst hk
    rw [go_loop_of e7_36]
    simp (config := { decide := true }) [g7_37, g7_38, g7_39, g7_40, g7_41, g7_42, g7_43, g7_44, g7_45, g7_46, g7_47, g7_48, g7_49, g7_50, g7_51, g7_52, g7_53, g7_54, g7_55, g7_56, g7_57, g7_58, g7_59, g7_60, g7_61, g7_62, g7_63, g7_64, g7_65, g7_66, g7_67, g7_68, g7_69, g7_70, g7_71, g7_72, g7_73, g7_74, g7_75, g7_76, g7_77, g7_78, g7_79, g7_80, g7_81, g7_82, g7_83, g7_84, g7_85, g7_86, l7_39, l7_46, l7_48, l7_50, l7_53, l7_55, l7_56, l7_58, l7_61, l7_64, l7_69, l7_72, l7_74, l7_76, l7_77, l7_80, l7_83, l7_86, steps_nil, steps_cons, draws_nil, draws_cons, step_mk, stepB_some, stepB_none, memB_mk, thenS_some, regB_some, branch_bool, sel_true, sel_false, wanted_none, wanted_some, asB, mk_put, mk_put_none, arg_tmp, arg_const, arg_func, arg_global, upd_same, upd_ne, evPure, evArgs, m_load, m_store, m_alloc, m_box, m_call, m_lookup, m_mapUpdate, m_inv, evLoad, readCells, evFieldAddr, evIndexAddr, asIdx, ofValue, isPure, evBin, ib_lss, ib_leq, ib_gtr, ib_geq, ib_eql, ib_neq, evUn, leave_normal, leave_ret, finish, then_normal, then_exit, then_ret, close_normal, close_exit, close_ret, evConv, mk_marks, dropMarks, resOf, resList, mk_getD, argF, List.getD_cons_zero, List.getD_cons_succ, V.cells, evLen, kdOp, kdOf, readsOf, protS, eq_bool, eq_nil28, evStore, V.oneCell, putElem, splice, -List.getD_eq_getElem?_getD, -getElem?_pos, und55, und53, und22, size3, size53, size58, size22, ty3, ty4, ty53, ty58, ty22, h0, h1, h5, h6, h7, h8, ints_len]
    exact .one rfl
  | d + 1, i, S, kvs, st, f, hk, hs, hl, hm, hml, hW, h0, h1, h5, h6, h7, h8 => by
    have hlt : i < is.length := by omega
    have hi := ints_get hlt
    have ih := steps_loop r rv mr b nl is hlen hb d (i + 1)
    have hadd := add_run st r rv b S is[i] hs hl
    have hcut := cut_run st r rv b S is[i] hs hl
    have hm3 : intBin .rem .i64 (i : Nat) 3 = some (.int .i64 ((i % 3 : Nat) : Int)) := rem64 3 rfl (by decide)
    have hn : intBin .add .i64 (i : Nat) 1 = some (.int .i64 ((i + 1 : Nat) : Int)) := by rw [add64 (by omega) (by omega)]; simp
    have hcl := cnt_le S b
    generalize is[i] = k at *
    have hv := look_run k hm
    rw [hW] at hv
    have hhas : ∀ P, (run tb).call 19 [.ptr r 0, .int .i64 k] { st with prot := P } = some (.bool (inS S k), { st with prot := P }) := fun P => has_run _ r rv b S k (hs.prot P)
    have hlen' : ∀ P, (run tb).call 16 [.ptr r 0] { st with prot := P } = some (.int .i64 (cnt S b : Nat), { st with prot := P }) := fun P => len_run _ r rv b S (hs.prot P)
    have e1 : (decide (0 ≤ k) && decide (k < b) && !inS S k) = false → (run tb).call 28 [.ptr r 0, .int .i64 k] st = some (.bool false, st) := fun h => by
      rw [hadd, h, putW_self hs (addS_same hs.hz h)]
    have e2 : inS S k = false → (run tb).call 29 [.ptr r 0, .int .i64 k] st = some (.bool false, st) := fun h => by
      rw [hcut, h, putW_self hs (cutS_same h)]
    have same : ∀ (a : Bool), (((i % 3 : Nat) : Int) != 2) = a → (a = true → (decide (0 ≤ k) && decide (k < b) && !inS S k) = false) → (a = false → inS S k = false) → Out 90 [] (fun e f' st' => e = .exit 0) ((run tb).code none c7_36 (mk 90 f []) st) := by
      intro a ha hx hy
      refine steps_same a _ _ (inS S k) r mr b i (cnt S b) (i % 3) (i + 1) k nl is f st hlt hi h0 h1 h5 h6 h7 h8 hm3 ha rfl rfl (fun h => e1 (hx h)) (fun h => e2 (hy h)) hv ?_ hhas hlen' hn (fun f' q0 q1 q5 q6 q7 q8 => ih S kvs st f' (by omega) hs hl hm hml hW q0 q1 q5 q6 q7 q8)
      cases a with
      | true => have := hx rfl; cases hq : inS S k <;> simp [hq] at this ⊢ <;> exact this
      | false => have := hy rfl; rw [this]; simp
    by_cases hin : 0 ≤ k ∧ k < b
    · cases ha : (((i % 3 : Nat) : Int) != 2) with
      | true =>
        cases hp : inS S k with
        | true => exact same true ha (fun _ => by rw [hp]; simp) (fun h => by cases h)
        | false =>
          have hz' := addS_z (i := k) hs.hz
          have hs1 : SetAt (putW st rv b (addS b S k)) r rv b (addS b S k) := hs.put hz'
          have hm1 : MapAt (putW st rv b (addS b S k)) mr kvs := hm.other hs
          have hs2 : SetAt (putM (putW st rv b (addS b S k)) mr (mput kvs k true)) r rv b (addS b S k) := hs1.other hm1
          have hm2 : MapAt (putM (putW st rv b (addS b S k)) mr (mput kvs k true)) mr (mput kvs k true) := hm1.put
          have hv1 := look_run k hm1
          have hv2 := look_run k hm2
          rw [mval_put, if_pos rfl] at hv2
          rw [hW, hp] at hv1
          rw [hp] at hadd
          have hc := cnt_addS hin hp
          have hW' : ∀ j, mval (mput kvs k true) j = inS (addS b S k) j := fun j => by rw [mval_put, inS_add hin, hW]
          refine steps_change true r mr b i (cnt S b) (cnt (addS b S k) b) (i % 3) (i + 1) k nl is f st _ _ hlt hi h0 h1 h5 h6 h7 h8 hm3 ha hin.1 hin.2 (fun _ => by rw [hadd]; simp [hin.1, hin.2]) (fun h => by cases h) hv1 (mput_run k true hm1 hml) hv2 (fun P => ?_) (fun P => len_run _ r rv b _ (hs2.prot P)) (fun _ => ?_) (fun h => by cases h) hn (fun f' q0 q1 q5 q6 q7 q8 => ih _ _ _ f' (by omega) hs2 hl hm2 hml hW' q0 q1 q5 q6 q7 q8)
          · have := has_run _ r rv b _ k (hs2.prot P)
            rw [inS_add hin, if_pos rfl] at this
            exact this
          · rw [add64 (by omega) (by omega), hc]; simp
      | false =>
        cases hp : inS S k with
        | false => exact same false ha (fun h => by cases h) (fun _ => hp)
        | true =>
          have hz' := cutS_z (i := k) hs.hz
          have hs1 : SetAt (putW st rv b (cutS S k)) r rv b (cutS S k) := hs.put hz'
          have hm1 : MapAt (putW st rv b (cutS S k)) mr kvs := hm.other hs
          have hs2 : SetAt (putM (putW st rv b (cutS S k)) mr (mput kvs k false)) r rv b (cutS S k) := hs1.other hm1
          have hm2 : MapAt (putM (putW st rv b (cutS S k)) mr (mput kvs k false)) mr (mput kvs k false) := hm1.put
          have hv1 := look_run k hm1
          have hv2 := look_run k hm2
          rw [mval_put, if_pos rfl] at hv2
          rw [hW, hp] at hv1
          rw [hp] at hcut
          have hc := cnt_cutS hin hp
          have hW' : ∀ j, mval (mput kvs k false) j = inS (cutS S k) j := fun j => by rw [mval_put, inS_cut, hW]
          refine steps_change false r mr b i (cnt S b) (cnt (cutS S k) b) (i % 3) (i + 1) k nl is f st _ _ hlt hi h0 h1 h5 h6 h7 h8 hm3 ha hin.1 hin.2 (fun h => by cases h) (fun _ => hcut) hv1 (mput_run k false hm1 hml) hv2 (fun P => ?_) (fun P => len_run _ r rv b _ (hs2.prot P)) (fun h => by cases h) (fun _ => ?_) hn (fun f' q0 q1 q5 q6 q7 q8 => ih _ _ _ f' (by omega) hs2 hl hm2 hml hW' q0 q1 q5 q6 q7 q8)
          · have := has_run _ r rv b _ k (hs2.prot P)
            rw [inS_cut, if_pos rfl] at this
            exact this
          · rw [sub64 (by omega) (by omega)]; congr 2; omega
    · have hp := inS_out hs.hz hin
      have hx : (decide (0 ≤ k) && decide (k < b)) = false := by rw [← Bool.decide_and]; exact decide_eq_false hin
      exact same _ rfl (fun _ => by rw [hx]; rfl) (fun _ => hp)
theorem makeMap51 {S : Go.Abs.S} {fr : Fr} {st : St} : evMem tb S fr st (.makeMap 51 none) = some (.map st.store.length, (st.new (.map [])).1) := m_makeMap und51
theorem SetAt.app {st : St} {rv r b : Nat} {S : Nat → Bool} (xs : List O) (h : SetAt st r rv b S) : SetAt { st with store := st.store ++ xs } r rv b S where
  hb := by
    have := h.hb
    show (st.store ++ xs)[r]? = _
    rw [List.getElem?_append_left (lt_of_get this)]; exact this
  hv := by
    have := h.hv
    show (st.store ++ xs)[rv]? = _
    rw [List.getElem?_append_left (lt_of_get this)]; exact this
  hz := h.hz
  hm := h.hm
/-- The law, run. -/
theorem steps_run (bd : Int) (nl : Bool) (is : List Int) : ∃ st', (run tb).call 7 [.int .i64 bd, .list false (some nl) (ints is)] st0 = some (.bool true, st') := by
  obtain ⟨sa, ha, hb0, hp0⟩ := alive_st
  have ha := run_call_of ha
  have hok : okSt sa := ⟨by omega, by rw [hp0]; simp⟩
  show ∃ st', _ = _
  rw [run7 (by simp)]
  by_cases hneg : bd < 0
  · refine ⟨sa, ?_⟩
    simp [g7_0, g7_1, g7_2, g7_3, g7_4, g7_5, g7_6, g7_7, g7_8, g7_9, g7_10, g7_11, g7_12, g7_13, g7_14, g7_15, g7_16, g7_17, l7_1, l7_4, l7_7, l7_12, l7_15, steps_nil, steps_cons, draws_nil, draws_cons, step_mk, stepB_some, stepB_none, memB_mk, thenS_some, regB_some, branch_bool, sel_true, sel_false, wanted_none, wanted_some, asB, mk_put, mk_put_none, arg_tmp, arg_const, arg_func, arg_global, upd_same, upd_ne, evPure, evArgs, m_load, m_store, m_alloc, m_box, m_call, m_lookup, m_mapUpdate, m_inv, evLoad, readCells, evFieldAddr, evIndexAddr, asIdx, ofValue, isPure, evBin, ib_lss, ib_leq, ib_gtr, ib_geq, ib_eql, ib_neq, evUn, leave_normal, leave_ret, finish, then_normal, then_exit, then_ret, close_normal, close_exit, close_ret, evConv, mk_marks, dropMarks, resOf, resList, mk_getD, argF, List.getD_cons_zero, List.getD_cons_succ, V.cells, evLen, kdOp, kdOf, readsOf, protS, eq_bool, eq_nil28, evStore, V.oneCell, putElem, splice, -List.getD_eq_getElem?_getD, -getElem?_pos, und55, und53, und22, size3, size53, size58, size22, ty3, ty4, ty53, ty58, ty22, ha, hneg, ints_len]
  · by_cases hbig : bd > 1000
    · refine ⟨sa, ?_⟩
      simp [g7_0, g7_1, g7_2, g7_3, g7_4, g7_5, g7_6, g7_7, g7_8, g7_9, g7_10, g7_11, g7_12, g7_13, g7_14, g7_15, g7_16, g7_17, l7_1, l7_4, l7_7, l7_12, l7_15, steps_nil, steps_cons, draws_nil, draws_cons, step_mk, stepB_some, stepB_none, memB_mk, thenS_some, regB_some, branch_bool, sel_true, sel_false, wanted_none, wanted_some, asB, mk_put, mk_put_none, arg_tmp, arg_const, arg_func, arg_global, upd_same, upd_ne, evPure, evArgs, m_load, m_store, m_alloc, m_box, m_call, m_lookup, m_mapUpdate, m_inv, evLoad, readCells, evFieldAddr, evIndexAddr, asIdx, ofValue, isPure, evBin, ib_lss, ib_leq, ib_gtr, ib_geq, ib_eql, ib_neq, evUn, leave_normal, leave_ret, finish, then_normal, then_exit, then_ret, close_normal, close_exit, close_ret, evConv, mk_marks, dropMarks, resOf, resList, mk_getD, argF, List.getD_cons_zero, List.getD_cons_succ, V.cells, evLen, kdOp, kdOf, readsOf, protS, eq_bool, eq_nil28, evStore, V.oneCell, putElem, splice, -List.getD_eq_getElem?_getD, -getElem?_pos, und55, und53, und22, size3, size53, size58, size22, ty3, ty4, ty53, ty58, ty22, ha, hneg, hbig, ints_len]
    · by_cases hlong : is.length > 100
      · refine ⟨sa, ?_⟩
        have hlong' : (100 : Int) < (is.length : Int) := by omega
        simp [g7_0, g7_1, g7_2, g7_3, g7_4, g7_5, g7_6, g7_7, g7_8, g7_9, g7_10, g7_11, g7_12, g7_13, g7_14, g7_15, g7_16, g7_17, l7_1, l7_4, l7_7, l7_12, l7_15, steps_nil, steps_cons, draws_nil, draws_cons, step_mk, stepB_some, stepB_none, memB_mk, thenS_some, regB_some, branch_bool, sel_true, sel_false, wanted_none, wanted_some, asB, mk_put, mk_put_none, arg_tmp, arg_const, arg_func, arg_global, upd_same, upd_ne, evPure, evArgs, m_load, m_store, m_alloc, m_box, m_call, m_lookup, m_mapUpdate, m_inv, evLoad, readCells, evFieldAddr, evIndexAddr, asIdx, ofValue, isPure, evBin, ib_lss, ib_leq, ib_gtr, ib_geq, ib_eql, ib_neq, evUn, leave_normal, leave_ret, finish, then_normal, then_exit, then_ret, close_normal, close_exit, close_ret, evConv, mk_marks, dropMarks, resOf, resList, mk_getD, argF, List.getD_cons_zero, List.getD_cons_succ, V.cells, evLen, kdOp, kdOf, readsOf, protS, eq_bool, eq_nil28, evStore, V.oneCell, putElem, splice, -List.getD_eq_getElem?_getD, -getElem?_pos, und55, und53, und22, size3, size53, size58, size22, ty3, ty4, ty53, ty58, ty22, ha, hneg, hbig, hlong', ints_len]
      · obtain ⟨b, rfl⟩ : ∃ b : Nat, bd = b := ⟨bd.toNat, by omega⟩
        have hlong' : ¬ (100 : Int) < (is.length : Int) := by omega
        have hbig' : ¬ (1000 : Int) < (b : Int) := by omega
        have hnew := new_run sa b b true (some true) [] (by simp) hok (by omega)
        have e0 : ints [] = [] := rfl
        have e1 : addAll b emptyS [] = emptyS := rfl
        rw [e0, e1] at hnew
        have hs := newSt_set (st := sa) (b := b) (S := emptyS) (by omega) (fun _ _ => rfl)
        have hf := newSt_free (b := b) (S := emptyS) hok
        have hprot : (newSt sa b emptyS).prot = [] := hp0
        have hbase : (newSt sa b emptyS).base = 0 := hb0
        generalize newSt sa b emptyS = s1 at *
        simp [g7_0, g7_1, g7_2, g7_3, g7_4, g7_5, g7_6, g7_7, g7_8, g7_9, g7_10, g7_11, g7_12, g7_13, g7_14, g7_15, g7_16, g7_17, g7_18, g7_19, g7_20, g7_21, g7_22, g7_23, g7_24, g7_25, g7_26, g7_27, g7_28, g7_29, g7_30, g7_31, g7_32, g7_33, g7_34, g7_35, l7_1, l7_4, l7_7, l7_12, l7_15, l7_19, l7_22, l7_25, l7_29, l7_31, l7_34, steps_nil, steps_cons, draws_nil, draws_cons, step_mk, stepB_some, stepB_none, memB_mk, thenS_some, regB_some, branch_bool, sel_true, sel_false, wanted_none, wanted_some, asB, mk_put, mk_put_none, arg_tmp, arg_const, arg_func, arg_global, upd_same, upd_ne, evPure, evArgs, m_load, m_store, m_alloc, m_box, m_call, m_lookup, m_mapUpdate, m_inv, evLoad, readCells, evFieldAddr, evIndexAddr, asIdx, ofValue, isPure, evBin, ib_lss, ib_leq, ib_gtr, ib_geq, ib_eql, ib_neq, evUn, leave_normal, leave_ret, finish, then_normal, then_exit, then_ret, close_normal, close_exit, close_ret, evConv, mk_marks, dropMarks, resOf, resList, mk_getD, argF, List.getD_cons_zero, List.getD_cons_succ, V.cells, evLen, kdOp, kdOf, readsOf, protS, eq_bool, eq_nil28, evStore, V.oneCell, putElem, splice, -List.getD_eq_getElem?_getD, -getElem?_pos, und55, und53, und22, size3, size53, size58, size22, ty3, ty4, ty53, ty58, ty22, ha, hneg, hbig', hlong', ints_len, hnew, makeMap51, St.new]
        refine Out.use (C := fun o => ∃ st', leave tb _ (andThen (closeB 0 o) _) = some (.bool true, st')) (steps_loop (sa.store.length + 1) sa.store.length s1.store.length b (some nl) is (by omega) (by omega) is.length 0 emptyS [] { s1 with store := s1.store ++ [.map []] } _ (by omega) (hs.app _) hf ?_ ⟨?_, ?_⟩ ?_ ?_ ?_ ?_ ?_ ?_ ?_) ?_
        · show (s1.store ++ _)[s1.store.length]? = _
          simp [encM]
        · show s1.base ≤ _
          omega
        · show ¬ _ ∈ s1.prot
          rw [hprot]; simp
        · intro k; simp [mval, mfind, inS, emptyS]
        · simp [upd_same, upd_ne, argF]
        · simp [upd_same, upd_ne, argF]
        · simp [upd_same, upd_ne]
        · simp [upd_same, upd_ne]
        · have : cnt emptyS b = 0 := cnt_none (n := 0) (fun _ _ => rfl) (by omega)
          simp [upd_same, upd_ne, this]
        · simp [upd_same, upd_ne]
        · rintro e f st' rfl
          refine ⟨st', ?_⟩
          simp [g7_87, g7_88, g7_89, l7_88, steps_nil, steps_cons, draws_nil, draws_cons, step_mk, stepB_some, stepB_none, memB_mk, thenS_some, regB_some, branch_bool, sel_true, sel_false, wanted_none, wanted_some, asB, mk_put, mk_put_none, arg_tmp, arg_const, arg_func, arg_global, upd_same, upd_ne, evPure, evArgs, m_load, m_store, m_alloc, m_box, m_call, m_lookup, m_mapUpdate, m_inv, evLoad, readCells, evFieldAddr, evIndexAddr, asIdx, ofValue, isPure, evBin, ib_lss, ib_leq, ib_gtr, ib_geq, ib_eql, ib_neq, evUn, leave_normal, leave_ret, finish, then_normal, then_exit, then_ret, close_normal, close_exit, close_ret, evConv, mk_marks, dropMarks, resOf, resList, mk_getD, argF, List.getD_cons_zero, List.getD_cons_succ, V.cells, evLen, kdOp, kdOf, readsOf, protS, eq_bool, eq_nil28, evStore, V.oneCell, putElem, splice, -List.getD_eq_getElem?_getD, -getElem?_pos, und55, und53, und22, size3, size53, size58, size22, ty3, ty4, ty53, ty58, ty22]
end Go.Proofs.YtgknieohkniojaaDoor
namespace Go.Proofs.YtgknieohkniojaaDoor
open Go.Abs Go.ChangeShapes Go.WideShapes Go.RowKit
theorem Tryd.own : ownKnob Tryd.prog.godebug = none := by kernel_rfl
theorem Tryd.laidOut : laidOutB Tryd.prog = true := by kernel_rfl
/-- A world in which what is listed lies. -/
noncomputable def laidWorld (os : Os) : World :=
  let w0 := World.holding Tryd.prog os ⟨#[], #[], []⟩
  { w0 with heap := w0.heap.modify 0 fun
      | .cells _ t frozen => .cells (tabNs.map (Value.int .u8)).toArray t frozen
      | o => o }
theorem laidWorld_met (os : Os) (args : Array Value) : laidMetH Tryd.prog [("math/bits.deBruijn64tab", Rows.laid_math_bits_deBruijn64tab)] ((laidWorld os).forCall (fun _ _ => 0) ⟨#[], args, []⟩).memory :=
  laidMetH_of_parts (laidMet_of_run' 8 (by kernel_rfl) (by kernel_rfl)) (by kernel_rfl)
theorem types_ok : [3, 22, 25, 23].all (tyIn Tryd.prog [3, 22, 25, 23]) = true := by kernel_rfl
end Go.Proofs.YtgknieohkniojaaDoor
namespace Go.Proofs.YtgknieohkniojaaDoor
open Go Go.Abs Go.ChangeShapes Go.WideShapes Go.RowKit
set_option maxRecDepth 100000
theorem steps_args (xs : List V) (hl : xs.length = Tryd.f7.params.toList.length) (hs : ∀ (j : Nat) t x, Tryd.f7.params.toList[j]? = some t → xs[j]? = some x → ∃ n, Shaped Tryd.prog n t x) : ∃ st', (run tb).call 7 xs st0 = some (.bool true, st') := by
  rw [Tryd.params7] at hl hs
  obtain ⟨x, y, rfl⟩ : ∃ x y, xs = [x, y] := by
    rcases xs with _ | ⟨x, _ | ⟨y, _ | ⟨z, r⟩⟩⟩
    · simp at hl
    · simp at hl
    · exact ⟨x, y, rfl⟩
    · simp at hl
  obtain ⟨n0, h0⟩ := hs 0 3 x rfl rfl
  obtain ⟨n1, h1⟩ := hs 1 22 y rfl rfl
  obtain ⟨i, rfl, _⟩ := shaped_int Tryd.underlying3 h0
  obtain ⟨nl, is, rfl, _⟩ := shaped_ints Tryd.underlying22 Tryd.underlying3 h1
  exact steps_run i nl is
theorem steps_lifted (os : Os) (started : os.Started) (H : Type) (enc : TypeId × Value → H) :
    ReturnsInHanded {} Tryd.checked os 7 .any (fun w args => (Rows.bitsStepsSpec.pre enc Tryd.prog Tryd.f7 [] false w args ∧ laidMetH Tryd.prog Rows.bitsStepsRow.laid w) ∧ sizedMet enc Tryd.prog Tryd.f7 (OpenSpec.ofChange Rows.bitsStepsSpec) false w args)
      (Rows.bitsStepsSpec.post enc Tryd.prog Tryd.f7 false true false false) :=
  lifted (C := Tryd.checked) tb_fits Tryd.laidOut Tryd.own started (fun W h => glob_ok h) (by kernel_rfl) Tryd.func7 rfl Tryd.underlying4 rfl [3, 22, 25, 23] types_ok (by kernel_rfl)
    (fun ds h => by
      rw [show Tryd.f7.params.toList = [3, 22] from by rw [Tryd.params7]] at h
      rcases ds with _ | ⟨a, _ | ⟨b, _ | ⟨c, r⟩⟩⟩
      · simp at h
      · simp at h
      · rfl
      · simp at h)
    steps_args
    (ChangeSpec.witness_at (enc := enc) (C := Tryd.checked) (os := os) (X := fun w _ => laidMetH Tryd.prog Rows.bitsStepsRow.laid w) false (laidWorld os) #[.int .i64 0, .slice none 0 0] 8 rfl (by kernel_rfl) (by kernel_rfl) (by kernel_rfl) (by kernel_rfl) (by kernel_rfl) (laidWorld_met os _))
theorem steps_holds : Rows.BitsStepsSaid :=
  OpenClaim.holds_of_wide 7 Tryd.f7 rfl rfl rfl rfl rfl rfl rfl ⟨rfl, rfl, rfl, rfl, rfl⟩ rfl rfl rfl rfl rfl (by kernel_rfl) Tryd.func7 (by kernel_rfl)
    (of_decide_eq_true (by kernel_rfl)) (by unfold Func.isWrapper; rw [if_neg (of_decide_eq_false (by kernel_rfl))]; exact ⟨rfl, rfl⟩)
    (fun os started H enc _ => steps_lifted os started H enc)
theorem not3 : Tryd.prog.wantsStandIn 3 = false := by kernel_rfl
theorem not22 : Tryd.prog.wantsStandIn 22 = false := by kernel_rfl
theorem steps_card : Rows.BitsStepsCardSaid :=
  Claim7.holds_tied_plain_at .later [] [.data] true (true, "9295b955cc89ea01dc10a212d3bb8874e736bfb4ce157a7f326887aee0c80cde") false
    steps_holds (fun _ h => by cases h) (by kernel_rfl) (fun _ h => by cases h) bitsSteps_row_tie rfl ⟨rfl, rfl⟩ (by kernel_rfl) rfl
    (fun f fn hf hfn => by
      obtain rfl : f = 7 := Option.some.inj ((show Tryd.prog.funcNamed "drogue/droguelaw02.BitsSteps" = some 7 by kernel_rfl).symm.trans hf) |>.symm
      obtain rfl : fn = Tryd.f7 := (Option.some.inj (Tryd.func7.symm.trans hfn)).symm
      exact ⟨by kernel_rfl, fun j t ht => by
        rw [Tryd.params7] at ht
        rcases j with _ | _ | j
        · obtain rfl : t = 3 := by simpa using ht.symm
          exact not3
        · obtain rfl : t = 22 := by simpa using ht.symm
          exact not22
        · simp at ht⟩)
    (by kernel_rfl)
end Go.Proofs.YtgknieohkniojaaDoor
