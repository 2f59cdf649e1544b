/- The operations that touch no memory: each runs as the evaluator says (second part). The operations that touch no memory: each runs as the evaluator says (third part). The operations that touch no memory: each runs as the evaluator says (fourth part). The operations that touch no memory: each runs as the evaluator says (fifth part). Structs and arrays that are built. The operations that touch no memory, together. The operations on memory: loads and stores. The operations on memory: stores. -/
import Derived.Test.YtgknieohkniojaaDoorFwA
import Derived.Laws.StructEq
import Derived.Laws.Tables
set_option linter.unusedVariables false
set_option linter.unusedSimpArgs false
set_option linter.unnecessarySimpa false
set_option linter.all false
namespace Go.Abs
section
variable {P : Program} {T : Tab} {k : K} {w : World}

theorem cell_get {xs : List V} {vs : List Value} (h : VRs k xs vs) {i : Nat} {v : V} (hv : xs[i]? = some v) : ∃ x, (⟨vs⟩ : Array Value)[i]? = some x ∧ VR k v x := by
  obtain ⟨x, h1, h2⟩ := h.get i v hv
  exact ⟨x, by simpa using h1, h2⟩

theorem part_scalar (hT : T.Fits P) {t : TypeId} {d : TypeDesc} (hd : T.und t = some d) (hr : d.isRow = false) {vs : List Value} {i : Nat} {x : Value} (hx : (⟨vs⟩ : Array Value)[i]? = some x) :
    (Go.part t ⟨vs⟩ i).run P w = .ok x w := by
  simp only [Tab.und, Option.map_eq_some_iff] at hd
  obtain ⟨ti, h1, rfl⟩ := hd
  have h2 := hT.runAgg h1 w
  obtain ⟨_, _, _, _, _, _, _, _, h3, _⟩ := hT.ty t ti h1
  unfold Go.part
  simp only [Sem.run_bind, h2, Result.andThen_ok, h3, hr, Bool.false_eq_true, if_false, hx, Sem.run_pure]

theorem eqFields_run (hT : T.Fits P) (d : Nat) {xs ys : List V} {vs us : List Value} (hx : VRs k xs vs) (hy : VRs k ys us) : ∀ {fs : List Field} {b : Bool}, eqFields T xs ys fs = some b →
    (Op.eqFields (d + 1) ⟨vs⟩ ⟨us⟩ fs).run P w = .ok b w
  | [], b, h => by simp only [eqFields, Option.some.injEq] at h; subst h; rfl
  | f :: fs, b, h => by
    unfold eqFields at h
    unfold Op.eqFields
    by_cases hn : f.name = "_"
    · rw [if_pos hn] at h
      rw [if_neg (by simpa using hn)]
      exact eqFields_run hT d hx hy h
    · rw [if_neg hn] at h
      rw [if_pos hn]
      split at h
      · rename_i kd k1 a k2 b' e1 e2 e3
        obtain ⟨x, hx1, hx2⟩ := cell_get hx e2
        obtain ⟨y, hy1, hy2⟩ := cell_get hy e3
        cases hx2; cases hy2
        split at h
        · rename_i ek; subst ek
          simp only [Sem.run_bind, part_scalar hT e1 rfl hx1, part_scalar hT e1 rfl hy1, Result.andThen_ok, run_equalIn_int w d _ _ kd _ _ (hT.und' e1)]
          by_cases hab : (a == b') = true
          · rw [if_pos hab] at h; simp only [hab, Bool.not_true, Bool.false_eq_true, if_false]; exact eqFields_run hT d hx hy h
          · rw [if_neg hab] at h; cases h; simp [hab]
        · cases h
      · rename_i a b' e1 e2 e3
        obtain ⟨x, hx1, hx2⟩ := cell_get hx e2
        obtain ⟨y, hy1, hy2⟩ := cell_get hy e3
        cases hx2 with | str sa => cases hy2 with | str sb =>
        simp only [Sem.run_bind, part_scalar hT e1 rfl hx1, part_scalar hT e1 rfl hy1, Result.andThen_ok, run_equalIn_string w d _ _ _ (hT.und' e1), ByteArray.toList_eq]
        by_cases hab : (sa.data.toList == sb.data.toList) = true
        · rw [if_pos hab] at h; simp only [hab, Bool.not_true, Bool.false_eq_true, if_false]; exact eqFields_run hT d hx hy h
        · rw [if_neg hab] at h; cases h; simp [hab]
      · rename_i a b' e1 e2 e3
        obtain ⟨x, hx1, hx2⟩ := cell_get hx e2
        obtain ⟨y, hy1, hy2⟩ := cell_get hy e3
        cases hx2; cases hy2
        simp only [Sem.run_bind, part_scalar hT e1 rfl hx1, part_scalar hT e1 rfl hy1, Result.andThen_ok, run_equalIn_bool' w d _ _ _ (hT.und' e1)]
        by_cases hab : (a == b') = true
        · rw [if_pos hab] at h; simp only [hab, Bool.not_true, Bool.false_eq_true, if_false]; exact eqFields_run hT d hx hy h
        · rw [if_neg hab] at h; cases h; simp [hab]
      · cases h

set_option maxHeartbeats 2000000 in
theorem eqVal_run' (hT : T.Fits P) (d : Nat) {t : TypeId} {x y : V} {X Y : Value} {b : Bool} (hx : VR k x X) (hy : VR k y Y) (h : eqVal T t x y = some b) :
    (Op.equalIn (d + 2) t X Y).run P w = .ok b w := by
  unfold eqVal at h
  cases ht : T.ty t with
  | none => rw [ht] at h; cases h
  | some ti =>
    rw [ht] at h
    simp only at h
    have hu : P.underlying t = some ti.und := hT.und' (und_of_ty ht)
    split at h
    all_goals (first | (cases h; done) | skip)
    all_goals (rename_i hd; try rw [hd] at hu)
    case h_9 =>
      cases h
      cases hy with
      | list0 _ _ base _ _ h1 _ => have := h1 rfl; subst this; cases hx; (simp only [Op.equalIn, Sem.run_bind, run_underlying hu, Result.andThen_ok]; rfl)
      | list1 _ _ _ _ _ _ _ _ _ _ _ _ _ _ hn => exact absurd rfl hn
    case h_10 =>
      cases h
      cases hy with
      | list0 _ _ base _ _ h1 _ =>
        have := h1 rfl; subst this
        cases hx with
        | list0 _ _ base' _ _ h1' h2' =>
          cases base' with
          | none =>
            cases b with
            | true => (simp only [Op.equalIn, Sem.run_bind, run_underlying hu, Result.andThen_ok]; rfl)
            | false => exact absurd rfl (h2' rfl)
          | some a =>
            cases b with
            | true => have := h1' rfl; cases this
            | false => (simp only [Op.equalIn, Sem.run_bind, run_underlying hu, Result.andThen_ok]; rfl)
      | list1 _ _ _ _ _ _ _ _ _ _ _ _ _ _ hn => exact absurd rfl hn
    case h_11 =>
      cases h
      cases hy with
      | list0 _ _ base _ _ h1 _ => have := h1 rfl; subst this; cases hx; (simp only [Op.equalIn, Sem.run_bind, run_underlying hu, Result.andThen_ok]; rfl)
      | list1 _ _ _ _ _ _ _ _ _ _ _ _ _ _ hn => exact absurd rfl hn
    case h_21 =>
      split at h
      · rename_i hne; cases h; cases hx; cases hy; simp [Op.equalIn, run_underlying hu, hne]
      · cases h
    case h_22 =>
      split at h
      · rename_i hp
        cases hx with | agg _ vs hvs => cases hy with | agg _ us hus =>
        obtain ⟨_, _, _, _, _, _, _, _, _, hpl⟩ := hT.ty t ti ht
        obtain ⟨_, hst⟩ := hpl hp
        have hf : P.underlying t = some (.struct (P.fieldsOf t)) := by simp [Program.fieldsOf, hu]
        have hfs : ∀ fs, P.underlying t = some (.struct fs) → P.fieldsOf t = fs := fun fs e => by simp [Program.fieldsOf, e]
        rw [run_equalIn_struct w (d + 1) t _ _ hf hst, hfs _ hu]
        exact eqFields_run hT d hvs hus h
      · cases h
    all_goals (cases h; cases hx <;> cases hy <;> (simp only [Op.equalIn, Sem.run_bind, run_underlying hu, Result.andThen_ok]; rfl))

theorem eqVal_run (hT : T.Fits P) {t : TypeId} {x y : V} {X Y : Value} {b : Bool} (hx : VR k x X) (hy : VR k y Y) (h : eqVal T t x y = some b) :
    (Op.equal t X Y).run P w = .ok b w := eqVal_run' hT 9998 hx hy h
end
end Go.Abs
namespace Go.Abs
section
variable {P : Program} {T : Tab} {k : K} {w : World}

theorem ba_get (s : ByteArray) (i : Nat) : s[i]? = s.data.toList[i]? := by
  rcases Nat.lt_or_ge i s.size with h | h
  · rw [getElem?_pos s i h, List.getElem?_eq_getElem (by simpa using h)]; rfl
  · rw [getElem?_neg s i (by omega), List.getElem?_eq_none (by simpa using h)]

theorem evBin_gives (hT : T.Fits P) {op : BinOp} {t : TypeId} {x y : V} {X Y : Value} {v : V} (hx : VR k x X) (hy : VR k y Y) (h : evBin T op t x y = some v) :
    Gives P k w (binOp op t X Y) v := by
  unfold evBin at h
  split at h
  · cases hx; cases hy; exact shiftBin_gives h t
  · cases hx; cases hy; exact shiftBin_gives h t
  · rename_i h1 h2
    cases hx; cases hy
    split at h
    · rename_i e; subst e; exact intBin_gives h ⟨h1, h2⟩ t
    · cases h
  · cases hx; cases hy; exact strBin_gives h t
  · rename_i h3 h4
    simp only [Option.map_eq_some_iff] at h
    obtain ⟨b, h1, rfl⟩ := h
    have := eqVal_run (w := w) hT hx hy h1
    refine ⟨.bool b, ?_, .bool b⟩
    cases hx <;> cases hy <;> first
      | (simp only [binOp, Sem.run_bind, this, Result.andThen_ok, Sem.run_pure]; done)
      | exact (h3 _ _ _ _ rfl rfl).elim
      | exact (h4 _ _ rfl rfl).elim
  · rename_i h3 h4
    simp only [Option.map_eq_some_iff] at h
    obtain ⟨b, h1, rfl⟩ := h
    have := eqVal_run (w := w) hT hx hy h1
    refine ⟨.bool (!b), ?_, .bool _⟩
    cases hx <;> cases hy <;> first
      | (simp only [binOp, Sem.run_bind, this, Result.andThen_ok, Sem.run_pure]; done)
      | exact (h3 _ _ _ _ rfl rfl).elim
      | exact (h4 _ _ rfl rfl).elim
  · cases h

/-- The guard ahead of '==': two nil values of an interface, neither the literal nil; parts of structs. -/
theorem eqGuard_run (hT : T.Fits P) {op : BinOp} {t : TypeId} {x y : V} {X Y : Value} {v : V} (hx : VR k x X) (hy : VR k y Y) (h : evBin T op t x y = some v) (ox oy : Operand)
    (hn : x = .niliface → y = .niliface → (isConst ox || isConst oy) = true) : (eqGuard op t ox oy X Y).run P w = .ok () w := by
  by_cases ho : op = .eql ∨ op = .neq
  · cases hx <;> cases hy <;> first
      | (rcases ho with rfl | rfl <;> rfl)
      | skip
    · -- two nil values
      have := hn rfl rfl
      rcases ho with rfl | rfl <;> (simp only [eqGuard]; cases ox <;> cases oy <;> simp_all [isConst])
    · -- two structs
      rename_i cs vs h1 ds us h2
      have hp : P.eqGuardType P.depth t = false := by
        have key : ∀ b, eqVal T t (.agg cs) (.agg ds) = some b → P.eqGuardType P.depth t = false := fun b hb => by
          unfold eqVal at hb
          cases ht : T.ty t with
          | none => rw [ht] at hb; cases hb
          | some ti =>
            rw [ht] at hb
            simp only at hb
            split at hb <;> first | cases hb | skip
            all_goals first
              | (split at hb
                 · rename_i hp
                   obtain ⟨_, _, _, _, _, _, _, _, _, hpl⟩ := hT.ty t ti ht
                   exact (hpl hp).1
                 · cases hb)
              | (rename_i e1 e2; cases e1)
        rcases ho with rfl | rfl <;> simp only [evBin, Option.map_eq_some_iff] at h <;> (obtain ⟨b, hb, _⟩ := h; exact key b hb)
      exact run_eqGuard_agg w op t ox oy _ _ hp
  · cases op <;> simp_all [eqGuard]

theorem evUn_gives {op : UnOp} {x : V} {X : Value} {v : V} (hx : VR k x X) (h : evUn op x = some v) : Gives P k w (Op.unary op X) v := by
  unfold evUn at h
  split at h
  · cases hx; cases h; exact ⟨_, rfl, .int _ _⟩
  · cases hx
    simp only [intBin] at h
    cases h; exact ⟨_, rfl, .int _ _⟩
  · cases hx; cases h; exact ⟨_, rfl, .bool _⟩
  · cases h

theorem evConv_gives (hT : T.Fits P) {src dst : TypeId} {x : V} {X : Value} {v : V} (hs : (T.und src).isSome = true) (hx : VR k x X) (h : evConv T dst x = some v) : Gives P k w (convert src dst X) v := by
  obtain ⟨ds, hs⟩ := Option.isSome_iff_exists.1 hs
  unfold evConv at h
  split at h
  · rename_i hd
    cases hx; cases h
    refine ⟨_, ?_, .int _ _⟩
    simp only [convert, Sem.run_bind, hT.runUnd hs, hT.runUnd hd, Result.andThen_ok]
    cases ds <;> rfl
  · rename_i hd
    cases hx; cases h
    refine ⟨_, ?_, .str _⟩
    simp only [convert, Sem.run_bind, hT.runUnd hs, hT.runUnd hd, Result.andThen_ok]
    cases ds <;> rfl
  · cases h

end
end Go.Abs
namespace Go.Abs
section
variable {P : Program} {T : Tab} {k : K} {w : World}

theorem asIdx_eq {x : V} {X : Value} {n : Int} (hx : VR k x X) (h : asIdx x = some n) : ∃ kd, X = .int kd n := by
  cases hx <;> simp [asIdx] at h
  subst h; exact ⟨_, rfl⟩

theorem run_asIntOf (kd : IntKind) (n : Int) : (asIntOf (.int kd n)).run P w = .ok (kd, n) w := rfl

/-- An operand that may be left out. -/
def OVR (k : K) : Option V → Option Value → Prop
  | none, none => True
  | some v, some x => VR k v x
  | _, _ => False

theorem bound_run {d m m' : Nat} (hm : m ≤ m') {x : Option V} {X : Option Value} (hx : OVR k x X) {n : Nat} (h : bound d m x = some n) (c : BoundsCode) (hd : d ≤ m) :
    (match X with | some v => Instr.sliceBound v m' c | none => (pure d : Sem Nat)).run P w = .ok n w ∧ n ≤ m := by
  unfold bound at h
  match x, X, hx with
  | none, none, _ => cases h; exact ⟨rfl, hd⟩
  | some v, some X, hx =>
    simp only at h
    split at h
    · rename_i i e
      obtain ⟨kd, rfl⟩ := asIdx_eq hx e
      split at h
      · rename_i hi; cases h
        exact ⟨run_sliceBound w kd i m' c hi.1 (by omega), by omega⟩
      · cases h
    · cases h

theorem bounds_run (isSlice : Bool) {len cap cap' : Nat} (hcap : cap ≤ cap') (hlc : len ≤ cap) {lo hi : Option V} {Lo Hi : Option Value} {l h : Nat}
    (hlo : OVR k lo Lo) (hhi : OVR k hi Hi) (hb : bounds len cap lo hi = some (l, h)) :
    (Instr.sliceBounds isSlice len cap' Lo Hi none).run P w = .ok (l, h, cap') w ∧ l ≤ h ∧ h ≤ cap := by
  unfold bounds at hb
  cases e1 : bound len cap hi with
  | none => rw [e1] at hb; cases hb
  | some hh =>
    rw [e1] at hb
    simp only at hb
    cases e2 : bound 0 hh lo with
    | none => rw [e2] at hb; cases hb
    | some ll =>
      rw [e2] at hb; cases hb
      obtain ⟨h1, h1'⟩ := bound_run (P := P) (w := w) hcap hhi e1 (if isSlice then .sliceAcap else .sliceAlen) hlc
      obtain ⟨h2, h2'⟩ := bound_run (P := P) (w := w) (Nat.le_refl _) hlo e2 .sliceB (Nat.zero_le _)
      refine ⟨?_, h2', h1'⟩
      unfold Instr.sliceBounds
      simp only [Sem.run_bind, Sem.run_pure, Result.andThen_ok, Option.isSome_none, Bool.false_eq_true, if_false]
      cases Hi with
      | none =>
        simp only [Sem.run_pure, Result.ok.injEq, and_true] at h1
        subst h1
        cases Lo with
        | none =>
          simp only [Sem.run_pure, Result.ok.injEq, and_true] at h2
          subst h2
          simp only [Sem.run_bind, Sem.run_pure, Result.andThen_ok]
        | some v => simp only at h2; simp only [Sem.run_bind, Sem.run_pure, Result.andThen_ok, h2]
      | some u =>
        simp only at h1
        cases Lo with
        | none =>
          simp only [Sem.run_pure, Result.ok.injEq, and_true] at h2
          subst h2
          simp only [Sem.run_bind, Sem.run_pure, Result.andThen_ok, h1]
        | some v => simp only at h2; simp only [Sem.run_bind, Sem.run_pure, Result.andThen_ok, h1, h2]

/-- With a third index that is the second's. -/
theorem bounds3_run {len cap' : Nat} (hcap : len ≤ cap') {lo hi : Option V} {Lo : Option Value} {Hi Mx : Value} {l h : Nat} {kd kd' : IntKind} {n n' : Int}
    (hlo : OVR k lo Lo) (hhi : OVR k hi (some Hi)) (hH : Hi = .int kd' n') (hM : Mx = .int kd n) (hn : n = h) (hb : bounds len len lo hi = some (l, h)) :
    (Instr.sliceBounds true len cap' Lo (some Hi) (some Mx)).run P w = .ok (l, h, h) w ∧ l ≤ h ∧ h ≤ len := by
  unfold bounds at hb
  cases e1 : bound len len hi with
  | none => rw [e1] at hb; cases hb
  | some hh =>
    rw [e1] at hb
    simp only at hb
    cases e2 : bound 0 hh lo with
    | none => rw [e2] at hb; cases hb
    | some ll =>
      rw [e2] at hb; cases hb
      obtain ⟨_, h1'⟩ := bound_run (P := P) (w := w) (Nat.le_refl len) hhi e1 .index (Nat.le_refl _)
      obtain ⟨h2, h2'⟩ := bound_run (P := P) (w := w) (Nat.le_refl _) hlo e2 .slice3C (Nat.zero_le _)
      have hn' : n' = h := by
        unfold bound at e1
        cases hi with
        | none => simp [OVR] at hhi
        | some v =>
          subst hH
          cases hhi
          simp only [asIdx] at e1
          split at e1
          · cases e1; omega
          · cases e1
      refine ⟨?_, h2', h1'⟩
      subst hM; subst hH; subst hn; subst hn'
      unfold Instr.sliceBounds
      simp only [Sem.run_bind, Option.isSome_some, if_true, run_sliceBound w kd h cap' .slice3Acap (by omega) (by omega), Result.andThen_ok, Int.toNat_natCast, run_sliceBound w kd' h h .slice3B (by omega) (by omega)]
      cases Lo with
      | none => simp only [Sem.run_pure, Result.ok.injEq, and_true] at h2 ⊢; subst h2; rfl
      | some v => simp only [Sem.run_bind] at h2 ⊢; rw [h2]; rfl

theorem str_extract (s : ByteArray) (l h : Nat) : (s.extract l h).data.toList = (s.data.toList.drop l).take (h - l) := by
  simp [ByteArray.data_extract]

/-- The run of a slice expression on a slice, from its bounds. -/
theorem slice_of_bounds (hT : T.Fits P) {t e : TypeId} {sz : Nat} (ht : T.und t = some (.slice e)) (hs : T.size e = some sz) {a : Option Addr} {len cap : Nat} {Lo Hi Mx : Option Value} {l h m : Nat}
    (hb : (Instr.sliceBounds true len cap Lo Hi Mx).run P w = .ok (l, h, m) w) :
    (Instr.sliceAt t (.slice a len cap) Lo Hi Mx).run P w = .ok (.slice (if m = l then a else a.map (·.add (l * sz))) (h - l) (m - l)) w := by
  simp only [Instr.sliceAt, Instr.slice, Sem.run_bind, hT.runUnd ht, Result.andThen_ok, hb, hT.runSize hs, Sem.run_pure]

theorem flat_drop {s : Nat} : ∀ (xs : List V), (∀ x ∈ xs, x.cells.length = s) → ∀ l, (xs.drop l).flatMap V.cells = (xs.flatMap V.cells).drop (l * s)
  | [], _, l => by simp
  | x :: xs, h, 0 => by simp
  | x :: xs, h, l + 1 => by
    have hx := h x (by simp)
    rw [List.drop_succ_cons, flat_drop xs (fun y hy => h y (by simp [hy])) l, List.flatMap_cons, List.drop_append, hx]
    have e : (l + 1) * s - s = l * s := by rw [Nat.succ_mul]; omega
    have e' : x.cells.drop ((l + 1) * s) = [] := List.drop_eq_nil_of_le (by rw [hx, Nat.succ_mul]; omega)
    rw [e, e']; rfl

theorem flat_len {s : Nat} : ∀ (xs : List V), (∀ x ∈ xs, x.cells.length = s) → (xs.flatMap V.cells).length = xs.length * s
  | [], _ => by simp
  | x :: xs, h => by
    rw [List.flatMap_cons, List.length_append, h x (by simp), flat_len xs (fun y hy => h y (by simp [hy])), List.length_cons, Nat.succ_mul]; omega

theorem flat_take {s : Nat} : ∀ (xs : List V), (∀ x ∈ xs, x.cells.length = s) → ∀ n, (xs.take n).flatMap V.cells = (xs.flatMap V.cells).take (n * s)
  | [], _, n => by simp
  | x :: xs, h, 0 => by simp
  | x :: xs, h, n + 1 => by
    have hx := h x (by simp)
    rw [List.take_succ_cons, List.flatMap_cons, flat_take xs (fun y hy => h y (by simp [hy])) n, List.flatMap_cons, List.take_append, hx]
    have e : (n + 1) * s - s = n * s := by rw [Nat.succ_mul]; omega
    have e' : x.cells.take ((n + 1) * s) = x.cells := List.take_of_length_le (by rw [hx, Nat.succ_mul]; omega)
    rw [e, e']

/-- A part of a list is a list. -/
theorem list_part {xs : List V} {vs : List Value} {b o s l h : Nat} (hv : VRs k (xs.flatMap V.cells) vs) (hI : ∀ (j : Nat) (v : Value), vs[j]? = some v → k.I b (o + j) = some v)
    (hs : ∀ x ∈ xs, x.cells.length = s) (hlh : l ≤ h) (hh : h ≤ xs.length) (full : Bool) (nl : Option Bool) (base : Option Addr) (cap : Nat) (hcap : h - l ≤ cap)
    (hf : full = true → cap = h - l) (h1 : nl = some true → base = none) (h2 : nl = some false → base ≠ none) (hbase : l < h → base = some ⟨b, o + l * s, none⟩) :
    VR k (.list full nl ((xs.drop l).take (h - l))) (.slice base (h - l) cap) := by
  have hlen : ((xs.drop l).take (h - l)).length = h - l := by simp; omega
  have hmem : ∀ y ∈ (xs.drop l).take (h - l), y.cells.length = s := fun y hy => hs y (List.mem_of_mem_drop (List.mem_of_mem_take hy))
  have hflat : ((xs.drop l).take (h - l)).flatMap V.cells = ((xs.flatMap V.cells).drop (l * s)).take ((h - l) * s) := by
    rw [flat_take _ (fun x hx => hs x (List.mem_of_mem_drop hx)), flat_drop _ hs]
  have hvs : VRs k (((xs.drop l).take (h - l)).flatMap V.cells) ((vs.drop (l * s)).take ((h - l) * s)) := by rw [hflat]; exact (hv.drop _).take _
  generalize hys : (xs.drop l).take (h - l) = ys at *
  cases ys with
  | nil =>
    simp at hlen
    rw [← hlen]
    exact .list0 full nl base cap (fun e => by rw [hf e, ← hlen]) h1 h2
  | cons y ys =>
    simp only [List.length_cons] at hlen
    have hb := hbase (by omega)
    subst hb
    rw [← hlen]
    refine .list1 full nl y ys _ b (o + l * s) s cap hvs ?_ hmem (fun e => by rw [hf e]; omega) (by omega) fun e => by have := h1 e; cases this
    intro j v hj
    rw [List.getElem?_take] at hj
    split at hj
    · rw [List.getElem?_drop] at hj
      have := hI _ _ hj
      rw [show o + l * s + j = o + (l * s + j) from by omega]; exact this
    · cases hj

end
end Go.Abs
namespace Go.Abs
section
variable {P : Program} {T : Tab} {k : K} {w : World}

theorem vr_base {full : Bool} {nl : Option Bool} {xs : List V} {X : Value} (h : VR k (.list full nl xs) X) : ∃ base cap, X = .slice base xs.length cap ∧ xs.length ≤ cap ∧ (full = true → cap = xs.length) ∧
    (nl = some true → base = none) ∧ (nl = some false → base ≠ none) ∧ (xs ≠ [] → ∃ b o s vs, base = some ⟨b, o, none⟩ ∧ VRs k (xs.flatMap V.cells) vs ∧ (∀ (j : Nat) (v : Value), vs[j]? = some v → k.I b (o + j) = some v) ∧ ∀ y ∈ xs, y.cells.length = s) := by
  cases h with
  | list0 _ _ base cap hf h1 h2 => exact ⟨base, cap, rfl, Nat.zero_le _, hf, h1, h2, fun h => absurd rfl h⟩
  | list1 _ _ x xs vs b o s cap hv hI hs hf hc hn =>
    exact ⟨some ⟨b, o, none⟩, cap, rfl, hc, hf, fun e => absurd e hn, fun _ => by simp, fun _ => ⟨b, o, s, vs, rfl, hv, hI, hs⟩⟩

theorem sizeFits_eq {sz s : Nat} {xs : List V} (h : sizeFits sz xs = true) (hs : ∀ y ∈ xs, y.cells.length = s) (hne : xs ≠ []) : s = sz := by
  cases xs with
  | nil => exact absurd rfl hne
  | cons x xs => simp only [sizeFits, beq_iff_eq] at h; rw [← hs x (by simp)]; exact h

/-- The cut of a list. -/
theorem list_cut {nl : Option Bool} {xs : List V} {base : Option Addr} {cap sz l h m : Nat} {full' : Bool} (hc : xs.length ≤ cap)
    (h1 : nl = some true → base = none) (h2 : nl = some false → base ≠ none) (h3 : xs ≠ [] → ∃ b o s vs, base = some ⟨b, o, none⟩ ∧ VRs k (xs.flatMap V.cells) vs ∧ (∀ (j : Nat) (v : Value), vs[j]? = some v → k.I b (o + j) = some v) ∧ ∀ y ∈ xs, y.cells.length = s)
    (hz : sizeFits sz xs = true) (hl : l ≤ h) (hh : h ≤ xs.length) (hm : h ≤ m) (hf : full' = true → m = h) :
    VR k (.list full' nl ((xs.drop l).take (h - l))) (.slice (if m = l then base else base.map (·.add (l * sz))) (h - l) (m - l)) := by
  have hb1 : nl = some true → (if m = l then base else base.map (·.add (l * sz))) = none := fun e => by rw [h1 e]; split <;> rfl
  have hb2 : nl = some false → (if m = l then base else base.map (·.add (l * sz))) ≠ none := fun e => by
    have := h2 e
    cases base with
    | none => exact absurd rfl this
    | some a => split <;> simp
  by_cases hne : xs = []
  · subst hne
    simp only [List.length_nil, Nat.le_zero] at hh
    subst hh
    have : l = 0 := by omega
    subst this
    exact .list0 full' nl _ _ (fun e => by rw [hf e]) hb1 hb2
  · obtain ⟨b, o, s, vs, rfl, hv, hI, hs⟩ := h3 hne
    have hsz := sizeFits_eq hz hs hne
    subst hsz
    refine list_part hv hI hs hl hh full' nl _ _ (by omega) (fun e => by rw [hf e]) hb1 hb2 fun hlt => ?_
    rw [if_neg (by omega)]
    simp only [Option.map_some, Addr.add_mid]

theorem evSlice_gives (hT : T.Fits P) {t : TypeId} {x : V} {X : Value} {lo hi mx : Option V} {Lo Hi Mx : Option Value} {v : V} (hx : VR k x X) (hlo : OVR k lo Lo) (hhi : OVR k hi Hi) (hmx : OVR k mx Mx)
    (h : evSlice T t x lo hi mx = some v) : Gives P k w (Instr.sliceAt t X Lo Hi Mx) v := by
  unfold evSlice at h
  split at h
  · -- a text
    rename_i ht
    split at h
    · cases hx with | str s =>
      match Mx, hmx with
      | none, _ =>
      split at h
      · rename_i l h' hb
        cases h
        obtain ⟨hr, h1, h2⟩ := bounds_run (P := P) (w := w) false (Nat.le_refl _) (Nat.le_refl _) hlo hhi hb
        refine ⟨.string (s.extract l h'), ?_, ?_⟩
        · have e : s.data.toList.length = s.size := rfl
          rw [e] at hr
          simp only [Instr.sliceAt, Instr.slice, Sem.run_bind, hT.runUnd ht, Result.andThen_ok, Option.isSome_none, Bool.false_eq_true, if_false, hr, Sem.run_pure]
        · rw [← str_extract]; exact .str _
      · cases h
    · cases h
  · rename_i e ht
    cases hs : T.size e with
    | none => rw [hs] at h; cases h
    | some sz =>
      rw [hs] at h
      simp only at h
      split at h
      · -- a list
        rename_i full nl xs
        obtain ⟨base, cap, rfl, hc, hf, h1, h2, h3⟩ := vr_base hx
        unfold sliceList at h
        split at h
        · rename_i hz
          cases hb : bounds xs.length xs.length lo hi with
          | none => rw [hb] at h; cases h
          | some lh =>
            obtain ⟨l, h'⟩ := lh
            rw [hb] at h
            simp only at h
            cases mx with
            | none =>
              cases h
              match Mx, hmx with
              | none, _ =>
              obtain ⟨hr, hl, hh⟩ := bounds_run (P := P) (w := w) true hc (Nat.le_refl _) hlo hhi hb
              exact ⟨_, slice_of_bounds hT ht hs hr, list_cut hc h1 h2 h3 hz hl hh (by omega) fun e => by simp at e; rw [hf e.1]; exact e.2.symm⟩
            | some m =>
              match Mx, hmx with
              | some M, hM =>
              simp only at h
              split at h
              · rename_i n hv e1
                split at h
                · rename_i en
                  cases h
                  obtain ⟨kd, rfl⟩ := asIdx_eq hM e1
                  match Hi, hhi with
                  | some H, hhi =>
                  have hH : ∃ kd' n', H = .int kd' n' := by
                    unfold bounds at hb
                    cases e2 : bound xs.length xs.length (some hv) with
                    | none => rw [e2] at hb; cases hb
                    | some q =>
                      unfold bound at e2
                      simp only at e2
                      cases e3 : asIdx hv with
                      | none => rw [e3] at e2; cases e2
                      | some n' => obtain ⟨kd', hk⟩ := asIdx_eq hhi e3; exact ⟨kd', n', hk⟩
                  obtain ⟨kd', n', hH⟩ := hH
                  obtain ⟨hr, hl, hh⟩ := bounds3_run (P := P) (w := w) hc hlo hhi hH rfl en hb
                  exact ⟨_, slice_of_bounds hT ht hs hr, list_cut hc h1 h2 h3 hz hl hh (Nat.le_refl _) fun _ => rfl⟩
                · cases h
              · cases h
        · cases h
      · -- a vector
        rename_i r s off len
        cases hx with | slice _ _ _ _ g a hg hgs hl ha =>
        unfold sliceVec at h
        split at h
        · rename_i hz
          subst hz
          have hc : len ≤ g.cap - off := by omega
          cases hb : bounds len len lo hi with
          | none => rw [hb] at h; cases h
          | some lh =>
            obtain ⟨l, h'⟩ := lh
            rw [hb] at h
            simp only at h
            cases mx with
            | none =>
              cases h
              match Mx, hmx with
              | none, _ =>
              obtain ⟨hr, hl1, hh⟩ := bounds_run (P := P) (w := w) true hc (Nat.le_refl _) hlo hhi hb
              refine ⟨_, slice_of_bounds hT ht hs hr, ?_⟩
              have e : (if g.cap - off = l then some a else (some a).map (·.add (l * s))) = some (if g.cap - off = l then a else a.add (l * s)) := by split <;> rfl
              rw [e, show g.cap - off - l = g.cap - (off + l) from by omega]
              refine .slice r s (off + l) (h' - l) g _ hg hgs (by omega) fun hne => ?_
              rw [if_neg (by omega), ha (by omega), Addr.add_mid, Nat.add_mul, Nat.add_assoc]
            | some m =>
              match Mx, hmx with
              | some M, hM =>
              simp only at h
              split at h
              · rename_i n hv e1
                split at h
                · rename_i en
                  cases h
                  obtain ⟨kd, rfl⟩ := asIdx_eq hM e1
                  match Hi, hhi with
                  | some H, hhi =>
                  have hH : ∃ kd' n', H = .int kd' n' := by
                    unfold bounds at hb
                    cases e2 : bound len len (some hv) with
                    | none => rw [e2] at hb; cases hb
                    | some q =>
                      unfold bound at e2
                      simp only at e2
                      cases e3 : asIdx hv with
                      | none => rw [e3] at e2; cases e2
                      | some n' => obtain ⟨kd', hk⟩ := asIdx_eq hhi e3; exact ⟨kd', n', hk⟩
                  obtain ⟨kd', n', hH⟩ := hH
                  obtain ⟨hr, hl1, hh⟩ := bounds3_run (P := P) (w := w) hc hlo hhi hH rfl en.1 hb
                  refine ⟨_, slice_of_bounds hT ht hs hr, ?_⟩
                  have : h' - l = 0 := by omega
                  rw [if_pos en.2.symm, this]
                  exact .list0 true (some false) _ _ (fun _ => rfl) (fun e => by cases e) (fun _ => by simp)
                · cases h
              · cases h
        · cases h
      · cases h
  · cases h

theorem evFieldAddr_gives (hT : T.Fits P) {s : TypeId} {x : V} {X : Value} {f : Nat} {v : V} (hx : VR k x X) (h : evFieldAddr T s x f = some v) : Gives P k w (Instr.fieldAt s X f) v := by
  unfold evFieldAddr at h
  split at h
  · rename_i fs hs
    split at h
    · cases h
    · rename_i fd hf
      split at h
      · cases h
      · cases h
      · rename_i n hn hz
        have hrun : ∀ b o, (Instr.fieldAt s (.pointer (some ⟨b, o, none⟩)) f).run P w = .ok (.pointer (some ⟨b, o + fd.offset, none⟩)) w := by
          intro b o
          have hn0 : ¬ n = 0 := fun e => hn e
          simp only [Instr.fieldAt, Instr.sureAddr, Sem.run_bind, hT.runUnd hs, Result.andThen_ok, hf, Sem.run_pure, fieldPlace, hT.runSize hz, if_neg hn0, Addr.add_mid]
        cases hx with
        | ptr r off g hg => cases h; exact ⟨_, hrun _ _, by rw [Nat.add_assoc]; exact .ptr r _ g hg⟩
        | eptr r i off g hg => cases h; exact ⟨_, hrun _ _, by rw [Nat.add_assoc]; exact .eptr r i _ g hg⟩
        | iptr cs vs b o hv hI =>
          cases h
          refine ⟨_, hrun _ _, .iptr _ (vs.drop fd.offset) b _ (hv.drop _) fun j v hj => ?_⟩
          rw [List.getElem?_drop] at hj
          rw [Nat.add_assoc]; exact hI _ _ hj
        | _ => cases h
  · cases h

theorem evField_gives (hT : T.Fits P) {s : TypeId} {x : V} {X : Value} {f : Nat} {v : V} (hx : VR k x X) (h : evField T s x f = some v) : Gives P k w (Instr.field s X f) v := by
  unfold evField at h
  split at h
  · rename_i fs cs hs
    split at h
    · cases h
    · rename_i fd hf
      split at h
      · cases h
      · rename_i ti ht
        cases hx with | agg _ vs hv =>
        obtain ⟨y, h1, h2⟩ := part_gives (w := w) hT ht hv h
        exact ⟨y, by simp only [Instr.field, Sem.run_bind, hT.runUnd hs, Result.andThen_ok, hf, asAgg, Sem.run_pure, h1], h2⟩
  · cases h

theorem evIndexAddr_gives (hT : T.Fits P) {t : TypeId} {x ix : V} {X Ix : Value} {v : V} (hx : VR k x X) (hi : VR k ix Ix) (h : evIndexAddr T t x ix = some v) : Gives P k w (Instr.indexAt t X Ix) v := by
  unfold evIndexAddr at h
  split at h
  · cases h
  · rename_i n hn
    obtain ⟨kd, rfl⟩ := asIdx_eq hi hn
    split at h
    · rename_i e ht
      split at h
      · cases h
      · rename_i s hs
        split at h
        · -- a list
          rename_i full nl xs
          split at h
          · rename_i h0
            split at h
            · rename_i y hy
              split at h
              · rename_i hys
                cases h
                obtain ⟨hlt, hy'⟩ := List.getElem?_eq_some_iff.1 hy
                have hne : xs ≠ [] := fun e => by subst e; simp at hlt
                obtain ⟨base, cap, rfl, hc, _, _, _, h3⟩ := vr_base hx
                obtain ⟨b, o, sz, vs, rfl, hv, hI, hsz⟩ := h3 hne
                have : sz = s := by rw [← hys, ← hsz y (List.mem_of_getElem? hy)]
                subst this
                have hlt' : n < (xs.length : Int) := by omega
                refine ⟨.pointer (some ⟨b, o + n.toNat * sz, none⟩), ?_, ?_⟩
                · simp only [Instr.indexAt, run_asIntOf, Sem.run_bind, Result.andThen_ok, hT.runUnd ht, Sem.run_pure, if_pos (And.intro h0 hlt'), hT.runSize hs, Addr.add_mid]
                · have e1 : y.cells = ((xs.flatMap V.cells).drop (n.toNat * sz)).take sz := by
                    rw [← flat_drop xs hsz, List.drop_eq_getElem_cons hlt, List.flatMap_cons, List.take_append_of_le_length (by rw [hy', hys]; exact Nat.le_refl _), hy', List.take_of_length_le (by rw [hys]; exact Nat.le_refl _)]
                  refine .iptr y.cells ((vs.drop (n.toNat * sz)).take sz) b _ (by rw [e1]; exact (hv.drop _).take _) fun j v hj => ?_
                  rw [List.getElem?_take] at hj
                  split at hj
                  · rw [List.getElem?_drop] at hj; rw [Nat.add_assoc]; exact hI _ _ hj
                  · cases hj
              · cases h
            · cases h
          · cases h
        · -- a vector
          rename_i r s' off len
          split at h
          · rename_i hn2
            obtain ⟨h0, hlt, rfl⟩ := hn2
            cases h
            cases hx with | slice _ _ _ _ g a hg hgs hl ha =>
            refine ⟨.pointer (some ⟨g.b, g.o + (off + n.toNat) * g.s + 0, none⟩), ?_, .eptr r _ 0 g hg⟩
            have hne : g.cap - off ≠ 0 := by omega
            rw [ha hne]
            simp only [Instr.indexAt, run_asIntOf, Sem.run_bind, Result.andThen_ok, hT.runUnd ht, Sem.run_pure, if_pos (And.intro h0 hlt), hT.runSize hs, Addr.add_mid]
            rw [hgs, Nat.add_mul, Nat.add_zero, Nat.add_assoc]
          · cases h
        · cases h
    · -- an array
      rename_i len e ht
      split at h
      · cases h
      · cases h
      · rename_i s hs0 hs
        split at h
        · rename_i hn2
          obtain ⟨h0, hlt⟩ := hn2
          have hrun : ∀ b o, (Instr.indexAt t (.pointer (some ⟨b, o, none⟩)) (.int kd n)).run P w = .ok (.pointer (some ⟨b, o + n.toNat * s, none⟩)) w := by
            intro b o
            simp only [Instr.indexAt, Instr.sureAddr, run_asIntOf, Sem.run_bind, Result.andThen_ok, hT.runUnd ht, Sem.run_pure, if_pos (And.intro h0 hlt), hT.runSize hs, Addr.add_mid]
          cases hx with
          | ptr r off g hg => cases h; exact ⟨_, hrun _ _, by rw [Nat.add_assoc]; exact .ptr r _ g hg⟩
          | eptr r i off g hg => cases h; exact ⟨_, hrun _ _, by rw [Nat.add_assoc]; exact .eptr r i _ g hg⟩
          | iptr cs vs b o hv hI =>
            cases h
            refine ⟨_, hrun _ _, .iptr _ (vs.drop (n.toNat * s)) b _ (hv.drop _) fun j v hj => ?_⟩
            rw [List.getElem?_drop] at hj
            rw [Nat.add_assoc]; exact hI _ _ hj
          | _ => cases h
        · cases h
    · cases h

theorem evIndex_gives (hT : T.Fits P) {t : TypeId} {x ix : V} {X Ix : Value} {v : V} (hx : VR k x X) (hi : VR k ix Ix) (h : evIndex T t x ix = some v) : Gives P k w (Instr.index t X Ix) v := by
  unfold evIndex at h
  split at h
  · cases h
  · rename_i n hn
    obtain ⟨kd, rfl⟩ := asIdx_eq hi hn
    split at h
    · rename_i h0
      split at h
      · rename_i s ht
        cases hx with | str s =>
        simp only [Option.map_eq_some_iff] at h
        obtain ⟨b, hb, rfl⟩ := h
        refine ⟨.int .u8 b.toNat, ?_, .int _ _⟩
        rw [← ba_get] at hb
        simp only [Instr.index, run_asIntOf, Sem.run_bind, Result.andThen_ok, hT.runUnd ht, if_pos h0, hb, Sem.run_pure]
      · rename_i len e cs ht
        split at h
        · cases h
        · rename_i ti hti
          split at h
          · rename_i hlt
            cases hx with | agg _ vs hv =>
            obtain ⟨y, h1, h2⟩ := part_gives (w := w) hT hti hv h
            exact ⟨y, by simp only [Instr.index, run_asIntOf, Sem.run_bind, Result.andThen_ok, hT.runUnd ht, if_pos (And.intro h0 hlt), hT.runSize (size_of_ty hti), h1], h2⟩
          · cases h
      · cases h
    · cases h

end
end Go.Abs
namespace Go.Abs
section
variable {P : Program} {T : Tab} {k : K} {w : World}

theorem placesOf_eq (hT : T.Fits P) : ∀ {fs : List Field} {l : List (Nat × Nat)}, placesOf T fs = some l → fs.mapM (fun f => (P.info? f.type).map fun i => (f.offset, i.size)) = some l
  | [], l, h => by simp only [placesOf, Option.some.injEq] at h; subst h; rfl
  | f :: fs, l, h => by
    unfold placesOf at h
    cases hs : T.size f.type with
    | none => rw [hs] at h; cases h
    | some s =>
      rw [hs] at h
      simp only at h
      cases hp : placesOf T fs with
      | none => rw [hp] at h; cases h
      | some l' =>
        rw [hp] at h; cases h
        simp only [Tab.size, Option.map_eq_some_iff] at hs
        obtain ⟨ti, h1, rfl⟩ := hs
        obtain ⟨info, _, h2, h3, _⟩ := hT.ty _ ti h1
        simp [List.mapM_cons, h2, h3, placesOf_eq hT hp]

/-- Cells laid over others. -/
theorem lay_list (off : Nat) : ∀ (vs : List Value) (j : Nat) (cs : Array Value), off + j + vs.length ≤ cs.size →
    ((vs.zipIdx j).foldl (fun (cs : Array Value) (x : Value × Nat) => cs.setIfInBounds (off + x.2) x.1) cs).toList = cs.toList.take (off + j) ++ vs ++ cs.toList.drop (off + j + vs.length)
  | [], j, cs, _ => by simp
  | v :: vs, j, cs, h => by
    simp only [List.length_cons] at h
    rw [List.zipIdx_cons, List.foldl_cons, lay_list off vs (j + 1) _ (by simp; omega)]
    have hlt : off + j < cs.toList.length := by simp; omega
    simp only [Array.toList_setIfInBounds]
    have e1 : (cs.toList.set (off + j) v).take (off + (j + 1)) = cs.toList.take (off + j) ++ [v] := by
      rw [show off + (j + 1) = off + j + 1 from rfl, List.take_succ_eq_append_getElem (by simpa using hlt), List.take_set_of_le (Nat.le_refl _)]
      simp
    have e2 : (cs.toList.set (off + j) v).drop (off + (j + 1) + vs.length) = cs.toList.drop (off + j + (v :: vs).length) := by
      rw [List.drop_set_of_lt (by omega)]
      simp only [List.length_cons]
      congr 1; omega
    rw [e1, e2]; simp

theorem fill_run {place place' : Nat → Option (Nat × Nat)} (hp : ∀ i x, place i = some x → place' i = some x) : ∀ {parts : List (Nat × V)} {parts' : List (Nat × Value)} {cs out : List V} {vs : Array Value},
    VRs k cs vs.toList → parts.map (·.1) = parts'.map (·.1) → VRs k (parts.map (·.2)) (parts'.map (·.2)) → fill place cs parts = some out → ∃ vs', Instr.fill place' vs parts' = some vs' ∧ VRs k out vs'.toList
  | [], parts', cs, out, vs, hv, he, _, h => by
    cases parts' with
    | nil => simp only [fill, Option.some.injEq] at h; subst h; exact ⟨vs, rfl, hv⟩
    | cons p ps => simp at he
  | (i, v) :: rest, parts', cs, out, vs, hv, he, hr, h => by
    cases parts' with
    | nil => simp at he
    | cons p ps =>
      obtain ⟨i', x⟩ := p
      simp only [List.map_cons, List.cons.injEq] at he hr
      obtain ⟨rfl, he⟩ := he
      cases hr with | cons hx hr =>
      unfold fill at h
      cases hpi : place i with
      | none => rw [hpi] at h; cases h
      | some os =>
        obtain ⟨off, size⟩ := os
        rw [hpi] at h
        simp only at h
        split at h
        · cases h
        · rename_i hc
          simp only [not_or, Decidable.not_not] at hc
          obtain ⟨hc1, hc2⟩ := hc
          have hcells := hx.cells
          have hl1 : x.cells.size = size := by have := hcells.length; simp at this; omega
          have hl2 : vs.size = cs.length := by have := hv.length; simp at this; omega
          have hlay : VRs k (cs.take off ++ v.cells ++ cs.drop (off + size)) (x.cells.zipIdx.foldl (fun (cs : Array Value) (y : Value × Nat) => cs.setIfInBounds (off + y.2) y.1) vs).toList := by
            have e : (x.cells.zipIdx.foldl (fun (cs : Array Value) (y : Value × Nat) => cs.setIfInBounds (off + y.2) y.1) vs).toList = vs.toList.take off ++ x.cells.toList ++ vs.toList.drop (off + size) := by
              have := lay_list off x.cells.toList 0 vs (by simp; omega)
              rw [← Array.foldl_toList, Array.toList_zipIdx, this]
              simp [hl1]
            rw [e]
            exact ((hv.take _).append hcells).append (hv.drop _)
          obtain ⟨vs', h1, h2⟩ := fill_run hp hlay he hr h
          refine ⟨vs', ?_, h2⟩
          unfold Instr.fill
          rw [hp i _ hpi]
          simp only
          rw [if_neg (by simp [hl1]; omega)]
          exact h1

theorem evBuild_gives (hT : T.Fits P) {t : TypeId} {parts : List (Nat × V)} {parts' : Array (Nat × Value)} {v : V} (he : parts.map (·.1) = parts'.toList.map (·.1)) (hr : VRs k (parts.map (·.2)) (parts'.toList.map (·.2)))
    (h : evBuild T t parts = some v) : Gives P k w (Instr.build t parts') v := by
  unfold evBuild at h
  cases ht : T.ty t with
  | none => rw [ht] at h; cases h
  | some ti =>
    rw [ht] at h
    simp only at h
    obtain ⟨info, z, h1, _, _, h4, h5, h6, _⟩ := hT.ty t ti ht
    have hz := (ofValue_vr k z _ h5).cells
    split at h
    · rename_i fs hu
      split at h
      · cases h
      · rename_i places hp
        simp only [Option.map_eq_some_iff] at h
        obtain ⟨out, hf, rfl⟩ := h
        obtain ⟨vs', hi, hv⟩ := fill_run (place' := fun i => places.toArray[i]?) (fun i x e => by simpa using e) hz he hr hf
        refine ⟨.agg vs', run_build w t parts' vs' ?_, .agg _ _ hv⟩
        simp only [Program.built, h1, h6, hu, h4, placesOf_eq hT hp]
        exact hi
    · rename_i n e hu
      split at h
      · cases h
      · rename_i s hs
        simp only [Option.map_eq_some_iff] at h
        obtain ⟨out, hf, rfl⟩ := h
        obtain ⟨vs', hi, hv⟩ := fill_run (place' := fun i => some (i * s, s)) (fun i x e => e) hz he hr hf
        refine ⟨.agg vs', run_build w t parts' vs' ?_, .agg _ _ hv⟩
        simp only [Tab.size, Option.map_eq_some_iff] at hs
        obtain ⟨te, g1, rfl⟩ := hs
        obtain ⟨ie, _, g2, g3, _⟩ := hT.ty e te g1
        simp only [Program.built, h1, h6, hu, h4, g2, g3]
        exact hi
    · cases h

end
end Go.Abs
namespace Go.Abs
section
variable {P : Program} {T : Tab} {k : K} {w : World} {fr : Fr} {a : Act}

theorem optArg_vr (hg : GlobOk T k) (hf : FR k fr a) {o : Option Operand} {x : Option V} (h : optArg T fr o = some x) : OVR k x (o.map a.eval) := by
  cases o with
  | none => simp only [optArg, Option.some.injEq] at h; subst h; trivial
  | some o =>
    simp only [optArg, Option.map_eq_some_iff] at h
    obtain ⟨v, h1, rfl⟩ := h
    exact evArg_vr hg hf h1

theorem minmax_run {mx : Bool} {x y v : V} {X Y : Value} (hx : VR k x X) (hy : VR k y Y) (h : minmax mx x y = some v) :
    Gives P k w (if mx then Builtin.max2 X Y else Builtin.min2 X Y) v := by
  unfold minmax at h
  split at h
  · cases hx; cases hy
    split at h
    · cases h
      cases mx with
      | true => exact ⟨_, rfl, .int _ _⟩
      | false => exact ⟨_, rfl, .int _ _⟩
    · cases h
  · cases h

theorem minmax_fold {mx : Bool} : ∀ {xs : List V} {Xs : List Value} {x v : V} {X : Value}, VR k x X → VRs k xs Xs → xs.foldl (fun acc y => acc.bind fun a => minmax mx a y) (some x) = some v →
    Gives P k w (Xs.foldlM (if mx then Builtin.max2 else Builtin.min2) X) v
  | [], _, x, v, X, hx, .nil, h => by simp only [List.foldl_nil, Option.some.injEq] at h; subst h; exact ⟨X, rfl, hx⟩
  | y :: ys, _, x, v, X, hx, .cons (x := Y) hy hs, h => by
    simp only [List.foldl_cons, Option.bind_some] at h
    cases e : minmax mx x y with
    | none =>
      rw [e] at h
      have : ∀ l : List V, l.foldl (fun acc y => acc.bind fun a => minmax mx a y) none = none := fun l => by induction l with | nil => rfl | cons _ _ ih => simpa using ih
      rw [this] at h; cases h
    | some z =>
      rw [e] at h
      obtain ⟨Z, h1, h2⟩ := minmax_run (P := P) (w := w) hx hy e
      obtain ⟨R, h3, h4⟩ := minmax_fold h2 hs h
      refine ⟨R, ?_, h4⟩
      rw [List.foldlM_cons, Sem.run_bind]
      have e' : (if mx = true then Builtin.max2 else Builtin.min2) X Y = if mx = true then Builtin.max2 X Y else Builtin.min2 X Y := by split <;> rfl
      rw [e', h1]
      exact h3

theorem evLen_run (hT : T.Fits P) {t : TypeId} {d : TypeDesc} (ht : T.und t = some d) {x : V} {X : Value} (hx : VR k x X) {n : Nat} (h : evLen d x = some n)
    {ty : TypeId} {ts : Array TypeId} (hts : ts[0]? = some t) : (Builtin.len_ ts ty #[X]).run P w = .ok (.int .i64 n) w := by
  unfold evLen at h
  split at h
  · cases h
    simp only [Builtin.len_, hts, List.getElem?_toArray, List.getElem?_cons_zero, Sem.run_bind, hT.runUnd ht, Result.andThen_ok, goInt, Sem.run_pure]
  · cases hx with | str s =>
    cases h
    have e : s.data.toList.length = s.size := rfl
    simp [Builtin.len_, hts, hT.runUnd ht, goInt, e]
  · cases h
    obtain ⟨base, cap, rfl, _⟩ := vr_base hx
    simp [Builtin.len_, hts, hT.runUnd ht, goInt]
  · cases h
    cases hx
    simp [Builtin.len_, hts, hT.runUnd ht, goInt]
  · cases h

theorem run_of_gives {s : Sem Value} {v : V} (h : Gives P k w s v) : ∃ x, (do pure (Next.value (← s)) : Sem Next).run P w = .ok (.value x) w ∧ VR k v x := by
  obtain ⟨x, h1, h2⟩ := h
  exact ⟨x, by simp only [Sem.run_bind, h1, Result.andThen_ok, Sem.run_pure], h2⟩

theorem evPure_sim (hT : T.Fits P) (hg : GlobOk T k) (hf : FR k fr a) {o : Oper} {v : V} (h : evPure T fr o.op = some v) :
    ∃ x, (execOp a.eval o).run P w = .ok (.value x) w ∧ VR k v x := by
  unfold execOp
  cases hop : o.op <;> rw [hop] at h <;> simp only [evPure] at h ⊢ <;> try (cases h; done)
  case move x => exact ⟨_, rfl, evArg_vr hg hf h⟩
  case assign x => exact ⟨_, rfl, evArg_vr hg hf h⟩
  case pick c x y =>
    split at h
    · rename_i t ht
      have hc := evArg_vr hg hf ht
      cases t with
      | true =>
        have := evArg_vr hg hf h
        refine ⟨a.eval x, ?_, this⟩
        generalize a.eval c = C at hc
        cases hc
        simp [asBool]
      | false =>
        have := evArg_vr hg hf h
        refine ⟨a.eval y, ?_, this⟩
        generalize a.eval c = C at hc
        cases hc
        simp [asBool]
    · cases h
  case nilCheck x =>
    split at h <;> (try cases h)
    all_goals (rename_i e; have hc := evArg_vr hg hf e; generalize a.eval x = X at hc; cases hc)
    · exact ⟨_, rfl, by constructor; assumption⟩
    · exact ⟨_, rfl, by constructor; assumption⟩
    · exact ⟨_, rfl, by constructor <;> assumption⟩
    · exact ⟨_, rfl, by constructor <;> assumption⟩
  case binOp op t x y yt =>
    have key : ∀ ax ay, evArg T fr x = some ax → evArg T fr y = some ay → evBin T op t ax ay = some v → (ax = .niliface → ay = .niliface → (isConst x || isConst y) = true) →
        ∃ z, (do pure (Next.value (← (do eqGuard op t x y (a.eval x) (a.eval y); binOp op t (a.eval x) (a.eval y)))) : Sem Next).run P w = .ok (.value z) w ∧ VR k v z := by
      intro ax ay e1 e2 hb hn
      have hx := evArg_vr hg hf e1
      have hy := evArg_vr hg hf e2
      refine run_of_gives ?_
      obtain ⟨z, h1, h2⟩ := evBin_gives (w := w) hT hx hy hb
      exact ⟨z, by simp only [Sem.run_bind, eqGuard_run hT hx hy hb x y hn, Result.andThen_ok, h1], h2⟩
    split at h
    · rename_i e1 e2
      split at h
      · rename_i hc; exact key _ _ e1 e2 h fun _ _ => hc
      · cases h
    · rename_i hne e1 e2
      exact key _ _ e1 e2 h fun h1 h2 => (hne h1 h2).elim
    · cases h
  case unOp op t x =>
    cases e : evArg T fr x with
    | none => rw [e] at h; cases h
    | some ax => rw [e] at h; exact run_of_gives (evUn_gives (evArg_vr hg hf e) h)
  case convert src dst x =>
    split at h
    · rename_i hs
      cases e : evArg T fr x with
      | none => rw [e] at h; cases h
      | some ax => rw [e] at h; exact run_of_gives (evConv_gives hT hs (evArg_vr hg hf e) h)
    · cases h
  case makeInterface t x =>
    cases e : evArg T fr x with
    | none => rw [e] at h; split at h <;> cases h
    | some ax =>
      rw [e] at h
      cases hu : T.und t with
      | none => rw [hu] at h; cases h
      | some d =>
        rw [hu] at h
        have hd : ∀ ms, d ≠ .interface ms := fun ms e => by subst e; cases h
        have h' : v = .iface t ax := by cases d <;> first | (cases h; rfl) | (exact absurd rfl (hd _))
        subst h'
        refine run_of_gives ⟨.iface t (a.eval x), ?_, .iface t _ _ (evArg_vr hg hf e)⟩
        simp only [Instr.makeInterface, Sem.run_bind, hT.runUnd hu, Result.andThen_ok]
        cases d <;> first | rfl | (exact absurd rfl (hd _))
  case makeFunc fn first captured =>
    split at h
    · rename_i xs ys e1 e2
      have h1 := evArgs_vr hg hf e1
      have h2 := evArgs_vr hg hf e2
      cases fn with
      | func f =>
        cases h
        refine run_of_gives ⟨_, rfl, ?_⟩
        have := VR.func f xs ys _ _ h1 h2
        have ea : first.map a.eval = ⟨first.toList.map a.eval⟩ := by apply Array.ext'; simp
        have eb : captured.map a.eval = ⟨captured.toList.map a.eval⟩ := by apply Array.ext'; simp
        rw [ea, eb]; exact this
      | _ => cases h
    · cases h
  case slice t x lo hi mx =>
    split at h
    · rename_i ax alo ahi amx e1 e2 e3 e4
      exact run_of_gives (evSlice_gives hT (evArg_vr hg hf e1) (optArg_vr hg hf e2) (optArg_vr hg hf e3) (optArg_vr hg hf e4) h)
    · cases h
  case fieldAddr s x f =>
    cases e : evArg T fr x with
    | none => rw [e] at h; cases h
    | some ax => rw [e] at h; exact run_of_gives (evFieldAddr_gives hT (evArg_vr hg hf e) h)
  case field s x f =>
    cases e : evArg T fr x with
    | none => rw [e] at h; cases h
    | some ax => rw [e] at h; exact run_of_gives (evField_gives hT (evArg_vr hg hf e) h)
  case indexAddr t x ix =>
    split at h
    · rename_i e1 e2; exact run_of_gives (evIndexAddr_gives hT (evArg_vr hg hf e1) (evArg_vr hg hf e2) h)
    · cases h
  case index t x ix =>
    split at h
    · rename_i e1 e2; exact run_of_gives (evIndex_gives hT (evArg_vr hg hf e1) (evArg_vr hg hf e2) h)
    · cases h
  case build t parts =>
    cases e : evArgs T fr (parts.toList.map (·.2)) with
    | none => rw [e] at h; cases h
    | some vs =>
      rw [e] at h
      simp only [Option.bind_some] at h
      have hv := evArgs_vr hg hf e
      have hl : vs.length = parts.toList.length := by have := hv.length; simpa using this
      refine run_of_gives (evBuild_gives hT (parts' := parts.map fun (i, x) => (i, a.eval x)) ?_ ?_ h)
      · rw [List.map_fst_zip (by simp [hl])]; simp [Function.comp_def]
      · rw [List.map_snd_zip (by simp [hl])]; simpa [Function.comp_def] using hv
  case extract x i =>
    split at h
    · rename_i vs e
      have hc := evArg_vr hg hf e
      generalize a.eval x = X at hc
      cases hc with | tup _ xs hv =>
      obtain ⟨y, h1, h2⟩ := hv.get i v h
      refine run_of_gives ⟨y, ?_, h2⟩
      have : (⟨xs⟩ : Array Value)[i]? = some y := by simpa using h1
      simp only [Instr.extract, this, Sem.run_pure]
    · cases h
  case call c =>
    obtain ⟨callee, args, argTypes⟩ := c
    cases callee with
    | value f => cases h
    | invoke r n => cases h
    | builtin b =>
      simp only [resolve, Sem.run_bind, Sem.run_pure, Result.andThen_ok, invoke]
      have hargs : ∀ vs, evArgs T fr args.toList = some vs → VRs k vs (args.map a.eval).toList := fun vs e => by simpa using evArgs_vr hg hf e
      simp only at h
      split at h
      · rename_i x e
        have hv := hargs _ e
        generalize args.map a.eval = As at hv
        obtain ⟨As⟩ := As
        cases hv with | cons hx hs => cases hs with | nil =>
        cases hts : argTypes[0]? with
        | none => rw [hts] at h; cases h
        | some t =>
          rw [hts] at h
          simp only [Option.bind_some] at h
          split at h
          · rename_i d hd
            split at h
            · rename_i n hn
              cases h
              exact run_of_gives ⟨_, evLen_run hT hd hx hn hts, .int _ _⟩
            · cases h
          · cases h
      · rename_i xs e
        have hv := hargs _ e
        generalize args.map a.eval = As at hv
        obtain ⟨As⟩ := As
        cases hv with | cons hx hs => cases hs with | nil =>
        cases hts : argTypes[0]? with
        | none => rw [hts] at h; cases h
        | some t =>
          rw [hts] at h
          simp only [Option.bind_some] at h
          split at h
          · rename_i el hd
            cases h
            obtain ⟨base, cap, rfl, _, hfull, _⟩ := vr_base hx
            rw [hfull rfl]
            refine run_of_gives ⟨_, ?_, .int _ _⟩
            simp [Builtin.cap_, hts, hT.runUnd hd, goInt]
          · cases h
      · rename_i x xs e
        have hv := hargs _ e
        generalize args.map a.eval = As at hv
        obtain ⟨As⟩ := As
        cases hv with | cons hx hs =>
        obtain ⟨z, h1, h2⟩ := minmax_fold (w := w) (P := P) hx hs h
        exact run_of_gives ⟨z, h1, h2⟩
      · rename_i x xs e
        have hv := hargs _ e
        generalize args.map a.eval = As at hv
        obtain ⟨As⟩ := As
        cases hv with | cons hx hs =>
        obtain ⟨z, h1, h2⟩ := minmax_fold (w := w) (P := P) hx hs h
        exact run_of_gives ⟨z, h1, h2⟩
      · cases h

end
end Go.Abs
namespace Go.Abs
section
variable {P : Program} {T : Tab} {k : K} {st : St} {w : World}

theorem flat_get {s : Nat} {es : List V} (hs : ∀ x ∈ es, x.cells.length = s) {i : Nat} {e : V} (h : es[i]? = some e) : e.cells = ((es.flatMap V.cells).drop (i * s)).take s := by
  obtain ⟨hlt, he⟩ := List.getElem?_eq_some_iff.1 h
  have hc : e.cells.length = s := hs e (List.mem_of_getElem? h)
  rw [← flat_drop es hs, List.drop_eq_getElem_cons hlt, List.flatMap_cons, List.take_append_of_le_length (by rw [he, hc]; exact Nat.le_refl _), he, List.take_of_length_le (by rw [hc]; exact Nat.le_refl _)]

theorem take_drop_get {vs : List Value} {m n : Nat} {j : Nat} {v : Value} (h : ((vs.drop m).take n)[j]? = some v) : vs[m + j]? = some v := by
  rw [List.getElem?_take] at h
  split at h
  · rw [List.getElem?_drop] at h; exact h
  · cases h

theorem readCells_sim (hw : WR k st w) {a : V} {X : Value} {n : Nat} {cs : List V} (ha : VR k a X) (h : readCells st a n = some cs) :
    ∃ b o vs, X = .pointer (some ⟨b, o, none⟩) ∧ VRs k cs vs ∧ vs.length = n ∧ w.rangeAt b o vs := by
  unfold readCells at h
  split at h
  · -- a box
    rename_i r off
    cases ha with | ptr _ _ g hg =>
    obtain ⟨ob, h1, h2⟩ := hw.obj r g hg
    rw [h1] at h
    cases h2 <;> simp only at h <;> try (cases h; done)
    rename_i cs0 vs t hh hv ho hI
    split at h
    · rename_i hle
      cases h
      refine ⟨g.b, g.o + off, (vs.drop off).take n, rfl, (hv.drop _).take _, ?_, ?_⟩
      · have := hv.length; simp; omega
      · intro j v hj
        rw [cell?_of hh]
        have := take_drop_get hj
        simp only [cellOf, ho, Nat.zero_add]
        simpa using this
    · cases h
  · -- an element
    rename_i r i off
    cases ha with | eptr _ _ _ g hg =>
    obtain ⟨ob, h1, h2⟩ := hw.obj r g hg
    rw [h1] at h
    cases h2 <;> simp only at h <;> try (cases h; done)
    rename_i acc es arr t vs hh hz hc hs hv har hI hI'
    split at h
    · rename_i e he
      split at h
      · rename_i hle
        cases h
        have hlen : e.cells.length = g.s := hs e (List.mem_of_getElem? he)
        have hvs : VRs k ((e.cells.drop off).take n) ((((vs.drop (i * g.s)).take g.s).drop off).take n) := by
          rw [flat_get hs he]; exact ((((hv.drop _).take _).drop _).take _)
        refine ⟨g.b, g.o + i * g.s + off, _, rfl, hvs, ?_, ?_⟩
        · have := hvs.length; rw [← this]; simp; omega
        · intro j v hj
          rw [cell?_of hh]
          have h3 := take_drop_get hj
          have h4 := take_drop_get h3
          have := har _ _ h4
          simp only [cellOf]
          rw [show g.o + i * g.s + off + j = g.o + (i * g.s + (off + j)) from by omega]
          exact this
      · cases h
    · cases h
  · -- memory that does not change
    rename_i cs0
    cases ha with | iptr _ vs b o hv hI =>
    split at h
    · rename_i hle
      cases h
      refine ⟨b, o, vs.take n, rfl, hv.take n, ?_, ?_⟩
      · have := hv.length; simp; omega
      · intro j v hj
        rw [List.getElem?_take] at hj
        split at hj
        · exact hw.imm _ _ _ (hI j v hj)
        · cases hj
    · cases h
  · cases h

theorem evLoad_gives (hT : T.Fits P) (hw : WR k st w) {t : TypeId} {a : V} {X : Value} {v : V} (ha : VR k a X) (h : evLoad T st t a = some v) : Gives P k w (Instr.loadAt t X) v := by
  unfold evLoad at h
  split at h
  · cases h
  · rename_i ti ht
    split at h
    · rename_i hagg
      simp only [Option.map_eq_some_iff] at h
      obtain ⟨cs, hc, rfl⟩ := h
      obtain ⟨b, o, vs, rfl, hv, hl, hr⟩ := readCells_sim hw ha hc
      obtain ⟨info, z, h1, h2, _, _, _, h6, h7, _⟩ := hT.ty t ti ht
      refine ⟨.agg vs.toArray, run_loadAt_mid w b o t vs ti.und hr h6 (by rw [← h7]; exact hagg) (by simp [h1, h2, hl]), .agg _ _ hv⟩
    · rename_i hagg
      split at h
      · rename_i x hc
        cases h
        obtain ⟨b, o, vs, rfl, hv, hl, hr⟩ := readCells_sim hw ha hc
        cases hv with | cons hx hs => cases hs with | nil =>
        rename_i y
        have hcell : w.cell? ⟨b, o, none⟩ = some y := by simpa using hr 0 y rfl
        refine ⟨y, ?_, hx⟩
        have hagg' : ti.agg = false := by simpa using hagg
        simp only [Instr.loadAt, Instr.sureAddr, Sem.run_bind, Sem.run_pure, Result.andThen_ok, loadVar, hT.runAgg ht, hagg', Bool.false_eq_true, if_false]
        simp [load, Sem.run, hcell]
      · cases h

end
end Go.Abs
namespace Go.Abs

/-- Values laid into an array from a place on. -/
def lays (arr : Array Value) (o : Nat) : List Value → Array Value
  | [] => arr
  | v :: r => lays (arr.setIfInBounds o v) (o + 1) r

theorem lays_size : ∀ (vs : List Value) (arr : Array Value) (o : Nat), (lays arr o vs).size = arr.size
  | [], _, _ => rfl
  | v :: r, arr, o => by rw [lays, lays_size r]; simp

theorem lays_out : ∀ (vs : List Value) (arr : Array Value) (o i : Nat), (i < o ∨ o + vs.length ≤ i) → (lays arr o vs)[i]? = arr[i]?
  | [], _, _, _, _ => rfl
  | v :: r, arr, o, i, h => by
    simp only [List.length_cons] at h
    rw [lays, lays_out r _ (o + 1) i (by omega), Array.getElem?_setIfInBounds_ne (by omega)]

theorem lays_in : ∀ (vs : List Value) (arr : Array Value) (o j : Nat) (v : Value), o + vs.length ≤ arr.size → vs[j]? = some v → (lays arr o vs)[o + j]? = some v
  | [], _, _, _, _, _, h => by simp at h
  | x :: r, arr, o, 0, v, hs, h => by
    simp only [List.length_cons] at hs
    simp only [List.getElem?_cons_zero, Option.some.injEq] at h
    subst h
    rw [lays, lays_out r _ (o + 1) _ (by omega)]
    simp only [Nat.add_zero]
    rw [Array.getElem?_setIfInBounds_self_of_lt (by omega)]
  | x :: r, arr, o, j + 1, v, hs, h => by
    simp only [List.length_cons] at hs
    rw [lays, show o + (j + 1) = o + 1 + j from by omega]
    exact lays_in r _ (o + 1) j v (by simp; omega) (by simpa using h)

theorem lays_list (vs : List Value) (arr : Array Value) (o : Nat) (h : o + vs.length ≤ arr.size) : (lays arr o vs).toList = arr.toList.take o ++ vs ++ arr.toList.drop (o + vs.length) := by
  apply List.ext_getElem?
  intro i
  have e : (lays arr o vs).toList[i]? = (lays arr o vs)[i]? := by simp
  rw [e]
  rcases Nat.lt_or_ge i o with h1 | h1
  · rw [lays_out vs arr o i (.inl h1), List.append_assoc, List.getElem?_append_left (by simp; omega), List.getElem?_take, if_pos h1]; simp
  · rcases Nat.lt_or_ge i (o + vs.length) with h2 | h2
    · have hv : vs[i - o]? = some vs[i - o] := List.getElem?_eq_getElem (by omega)
      have := lays_in vs arr o (i - o) _ h hv
      rw [show o + (i - o) = i from by omega] at this
      rw [this, List.append_assoc, List.getElem?_append_right (by simp; omega), List.getElem?_append_left (by simp; omega)]
      rw [← hv]; congr 1; simp; omega
    · rw [lays_out vs arr o i (.inr h2), List.getElem?_append_right (by simp; omega)]
      rw [List.getElem?_drop]
      simp
      congr 1
      omega

section
variable {P : Program}

theorem env_setCells (b : Nat) : ∀ (vs : List Value) (o : Nat) (w : World), Env w (w.setCells b o vs)
  | [], _, _ => ⟨rfl, rfl, rfl⟩
  | v :: vs, o, w => by
    have h := env_setCells b vs (o + 1) (w.setCell ⟨b, o, none⟩ v)
    exact ⟨h.1, h.2.1, h.2.2⟩

theorem heap_setCells (b : Nat) (t : TypeId) : ∀ (vs : List Value) (o : Nat) (w : World) (arr : Array Value), w.heap[b]? = some (.cells arr t (0, 0)) →
    (w.setCells b o vs).heap[b]? = some (.cells (lays arr o vs) t (0, 0)) ∧ (w.setCells b o vs).heap.size = w.heap.size ∧ ∀ b', b' ≠ b → (w.setCells b o vs).heap[b']? = w.heap[b']?
  | [], _, _, _, h => ⟨h, rfl, fun _ _ => rfl⟩
  | v :: r, o, w, arr, h => by
    have h1 : (w.setCell ⟨b, o, none⟩ v).heap[b]? = some (.cells (arr.setIfInBounds o v) t (0, 0)) := by
      simp only [World.setCell, Array.getElem?_modify, if_true, h, Option.map_some]
      rfl
    obtain ⟨a1, a2, a3⟩ := heap_setCells b t r (o + 1) (w.setCell ⟨b, o, none⟩ v) _ h1
    refine ⟨a1, by rw [World.setCells, a2]; simp [World.setCell], fun b' hb => ?_⟩
    rw [World.setCells, a3 b' hb]
    simp only [World.setCell, Array.getElem?_modify, if_neg (Ne.symm hb)]

theorem run_storeCells_blk (w : World) (b o : Nat) (t : TypeId) (arr : Array Value) (vs : List Value) (h : w.heap[b]? = some (.cells arr t (0, 0))) (hs : o + vs.length ≤ arr.size) (h1 : ∀ v ∈ vs, v.oneCell' = true) :
    (storeCells ⟨b, o, none⟩ vs).run P w = .ok () (w.setCells b o vs) := by
  have := run_storeCells_cells (P := P) b o vs 0 w (fun j hj => by
    rw [cell?_of h]
    simp only [cellOf]
    rw [Array.getElem?_eq_getElem (by omega)]; rfl) (fun j hj => by simp [World.frozen?, h]) h1
  simpa using this

theorem oneCell_vr {k : K} {v : V} {x : Value} (h : VR k v x) (h1 : v.oneCell = true) : x.oneCell' = true := by
  cases h <;> simp_all [V.oneCell, Value.oneCell']

theorem oneCell_all {k : K} : ∀ {cs : List V} {vs : List Value}, VRs k cs vs → cs.all V.oneCell = true → ∀ v ∈ vs, v.oneCell' = true
  | _, _, .nil, _ => fun v hv => by cases hv
  | _, _, .cons h hs, ha => by
    simp only [List.all_cons, Bool.and_eq_true] at ha
    intro v hv
    cases hv with
    | head => exact oneCell_vr h ha.1
    | tail _ hv => exact oneCell_all hs ha.2 v hv

theorem splice_vr {k : K} {cs new : List V} {vs news : List Value} (h : VRs k cs vs) (hn : VRs k new news) (off : Nat) : VRs k (splice cs off new) (vs.take off ++ news ++ vs.drop (off + news.length)) := by
  unfold splice
  rw [hn.length]
  exact ((h.take _).append hn).append (h.drop _)

theorem splice_left {cs r new : List V} {off : Nat} (h : off + new.length ≤ cs.length) : splice (cs ++ r) off new = splice cs off new ++ r := by
  unfold splice
  rw [List.take_append_of_le_length (by omega), List.drop_append_of_le_length h]
  simp [List.append_assoc]

theorem splice_right {cs r new : List V} {off : Nat} : splice (cs ++ r) (cs.length + off) new = cs ++ splice r off new := by
  unfold splice
  rw [List.take_append, List.drop_append]
  have e1 : cs.take (cs.length + off) = cs := List.take_of_length_le (by omega)
  have e2 : cs.drop (cs.length + off + new.length) = [] := List.drop_eq_nil_of_le (by omega)
  rw [e1, e2, show cs.length + off - cs.length = off from by omega, show cs.length + off + new.length - cs.length = off + new.length from by omega]
  simp [List.append_assoc]

theorem flat_set {s off : Nat} {new : List V} {e e' : V} (hoff : off + new.length ≤ s) (he : e'.cells = splice e.cells off new) : ∀ {es : List V} {i : Nat}, (∀ x ∈ es, x.cells.length = s) → es[i]? = some e →
    (es.set i e').flatMap V.cells = splice (es.flatMap V.cells) (i * s + off) new
  | [], i, _, h => by simp at h
  | x :: es, 0, hs, h => by
    simp only [List.getElem?_cons_zero, Option.some.injEq] at h
    subst h
    rw [List.set_cons_zero, List.flatMap_cons, List.flatMap_cons, he, Nat.zero_mul, Nat.zero_add, splice_left (by rw [hs x (by simp)]; exact hoff)]
  | x :: es, i + 1, hs, h => by
    have ih := flat_set hoff he (es := es) (i := i) (fun y hy => hs y (by simp [hy])) (by simpa using h)
    rw [List.set_cons_succ, List.flatMap_cons, List.flatMap_cons, ih, ← splice_right, hs x (by simp), Nat.succ_mul]
    congr 1; omega

theorem putElem_cells {e : V} {off : Nat} {ns : List V} (hone : ns.all V.oneCell = true) (hle : off + ns.length ≤ e.cells.length) : (putElem e (splice e.cells off ns)).cells = splice e.cells off ns := by
  have one : ∀ q : V, q.oneCell = true → q.cells = [q] := fun q hq => by cases q <;> first | rfl | cases hq
  have key : ∀ e : V, off + ns.length ≤ [e].length → e.cells = [e] → ((splice [e] off ns).headD e).cells = splice [e] off ns := by
    intro e hle hc
    simp only [List.length_singleton] at hle
    cases ns with
    | nil => simp [splice, hc]
    | cons q ns =>
      simp only [List.length_cons] at hle
      have h1 : ns = [] := List.eq_nil_of_length_eq_zero (by omega)
      have h2 : off = 0 := by omega
      subst h1; subst h2
      simp only [List.all_cons, List.all_nil, Bool.and_true] at hone
      simp [splice, one q hone]
  cases e with
  | agg cs => rfl
  | _ => exact key _ hle rfl

variable {T : Tab} {k : K} {st st' : St} {w : World}

theorem evStore_sim (hT : T.Fits P) (hw : WR k st w) {t : TypeId} {a v : V} {X Y : Value} (ha : VR k a X) (hv : VR k v Y) (h : evStore T st t a v = some st') :
    ∃ w', (Instr.storeAt t X Y).run P w = .ok () w' ∧ Later k k st st' w w' := by
  unfold evStore at h
  split at h
  · cases h
  · rename_i n hn
    split at h
    · rename_i hc
      obtain ⟨hlen, hone⟩ := hc
      have hvc := hv.cells
      have hone' := oneCell_all hvc hone
      have hyl : Y.cells.size = n := by have := hvc.length; simp at this; omega
      have hrun : ∀ b o (arr : Array Value) (tt : TypeId), w.heap[b]? = some (.cells arr tt (0, 0)) → o + n ≤ arr.size →
          (Instr.storeAt t (.pointer (some ⟨b, o, none⟩)) Y).run P w = .ok () (w.setCells b o Y.cells.toList) := by
        intro b o arr tt hb hle
        simp only [Instr.storeAt, Instr.sureAddr, storeVar, Sem.run_bind, Sem.run_pure, Result.andThen_ok, hT.runSize hn]
        rw [if_neg (by simp [hyl])]
        exact run_storeCells_blk w b o tt arr Y.cells.toList hb (by simp [hyl, hle]) hone'
      split at h
      · -- a box
        rename_i r off
        cases ha with | ptr _ _ g hg =>
        obtain ⟨ob, h1, h2⟩ := hw.obj r g hg
        split at h
        · cases h
        · rename_i hlk
          rw [h1] at h
          cases h2 <;> simp only at h <;> try (cases h; done)
          rename_i cs vs tt hh hvs ho hI
          split at h
          · rename_i hle
            cases h
            have hsz : cs.length = vs.length := hvs.length
            obtain ⟨a1, a2, a3⟩ := heap_setCells g.b tt Y.cells.toList (g.o + off) w _ hh
            refine ⟨_, hrun g.b (g.o + off) _ tt hh (by simp; omega), ?_⟩
            refine Later.turn (he := env_setCells _ _ _ _) hw hg (by simpa using hlk) (by rw [h1]; simp) (.box (splice cs off v.cells)) rfl rfl rfl a2 a3 (fun o' v' hi => by rw [hI o'] at hi; cases hi) ?_
            refine .box _ (vs.take off ++ Y.cells.toList ++ vs.drop (off + Y.cells.toList.length)) tt ?_ (splice_vr hvs hvc off) ho hI
            rw [a1]
            congr 2
            apply Array.ext'
            rw [lays_list _ _ _ (by simp [hyl]; omega)]
            simp [ho]
          · cases h
      · -- an element
        rename_i r i off
        cases ha with | eptr _ _ _ g hg =>
        obtain ⟨ob, h1, h2⟩ := hw.obj r g hg
        split at h
        · cases h
        · rename_i hlk
          rw [h1] at h
          cases h2 <;> (try simp only at h) <;> try (cases h; done)
          rename_i acc es arr tt vs hh hz hcap hs hvs har hI hI'
          cases acc with
          | true => cases h
          | false =>
          simp only at h
          split at h
          · rename_i e he
            split at h
            · rename_i hle
              cases h
              have hel : e.cells.length = g.s := hs e (List.mem_of_getElem? he)
              have hi : i < es.length := (List.getElem?_eq_some_iff.1 he).1
              have hvl : vs.length = es.length * g.s := by rw [← hvs.length, flat_len es hs]
              have hmul : i * g.s + g.s ≤ es.length * g.s := by rw [← Nat.succ_mul]; exact Nat.mul_le_mul_right _ hi
              have hmul2 : es.length * g.s ≤ g.cap * g.s := Nat.mul_le_mul_right _ hcap
              have hec := putElem_cells (e := e) (off := off) hone (by omega)
              generalize hE : putElem e (splice e.cells off v.cells) = e' at hec
              obtain ⟨a1, a2, a3⟩ := heap_setCells g.b tt Y.cells.toList (g.o + i * g.s + off) w _ hh
              refine ⟨_, hrun g.b (g.o + i * g.s + off) _ tt hh (by omega), ?_⟩
              have hvs' := splice_vr hvs hvc (i * g.s + off)
              rw [← flat_set (by omega) hec hs he] at hvs'
              have hyl' : Y.cells.toList.length = n := by simpa using hyl
              refine Later.turn (he := env_setCells _ _ _ _) hw hg (by simpa using hlk) (by rw [h1]; simp) (.vec false (es.set i e')) (by rw [← hE]) rfl rfl a2 a3 (fun o' v' hi' => ?_) ?_
              · by_cases hlt : g.o ≤ o'
                · rw [hI' o' hlt (by intro e; cases e)] at hi'; cases hi'
                · rw [cell?_of a1]
                  simp only [cellOf]
                  rw [lays_out _ _ _ _ (.inl (by omega))]
                  have := hw.imm _ _ _ hi'
                  rw [cell?_of hh] at this
                  exact this
              · refine .vec false _ _ tt _ a1 (by rw [lays_size]; exact hz) (by simpa using hcap) ?_ hvs' ?_ (fun e => by cases e) (fun o' h3 _ => hI' o' h3 (by intro e; cases e))
                · intro x hx
                  rcases List.mem_or_eq_of_mem_set hx with hx | rfl
                  · exact hs x hx
                  · rw [hec]; simp [splice]; omega
                · intro j u hj
                  rw [hyl'] at hj
                  rcases Nat.lt_or_ge j (i * g.s + off) with hj1 | hj1
                  · rw [List.append_assoc, List.getElem?_append_left (by simp; omega), List.getElem?_take, if_pos hj1] at hj
                    rw [lays_out _ _ _ _ (.inl (by omega))]; exact har j u hj
                  · rcases Nat.lt_or_ge j (i * g.s + off + n) with hj2 | hj2
                    · rw [List.append_assoc, List.getElem?_append_right (by simp; omega), List.getElem?_append_left (by simp; omega)] at hj
                      have := lays_in Y.cells.toList arr (g.o + i * g.s + off) (j - (i * g.s + off)) u (by rw [hyl']; omega) (by rw [← hj]; congr 1; simp; omega)
                      rw [← this]; congr 1; omega
                    · rw [List.getElem?_append_right (by simp; omega), List.getElem?_drop] at hj
                      rw [lays_out _ _ _ _ (.inr (by rw [hyl']; omega))]
                      refine har j u ?_
                      rw [← hj]; congr 1; simp; omega
            · cases h
          · cases h
      · cases h
    · cases h

end
end Go.Abs
