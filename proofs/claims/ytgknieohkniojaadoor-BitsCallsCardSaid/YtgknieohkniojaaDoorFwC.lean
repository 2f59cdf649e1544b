/- The operations on memory: what is made. The operations on memory: literal slices, make, conversions. The operations on memory: maps. The operations on memory: append, copy. The operations on memory: append as the evaluator has it. The operations on memory, together. -/
import Derived.Test.YtgknieohkniojaaDoorFwB
set_option linter.unusedVariables false
set_option linter.unusedSimpArgs false
set_option linter.unnecessarySimpa false
set_option linter.all false
namespace Go.Abs
section
variable {P : Program} {T : Tab} {k : K} {st : St} {w : World}

theorem imm_new (hw : WR k st w) (o : Nat) : k.I w.heap.size o = none := by
  cases e : k.I w.heap.size o with
  | none => rfl
  | some v => exact absurd (hw.immLt e) (Nat.lt_irrefl _)

theorem lay_new_le (hw : WR k st w) (J : Nat → Option Value) : k.le (k.lay w.heap.size J) := lay_le hw fun o v v' h => by rw [imm_new hw o] at h; cases h

theorem new_le (hw : WR k st w) (J : Nat → Option Value) (g : G) : k.le ((k.lay w.heap.size J).put st.store.length g) :=
  ⟨fun r g' h => by simp only [K.put, K.lay]; rw [if_neg (fun e => by have := hw.lt h; omega)]; exact h, fun b o v h => (lay_new_le hw J).I b o v h⟩

/-- A box for a value. -/
theorem box_sim (hw : WR k st w) {v : V} {x : Value} (hv : VR k v x) (t : TypeId) :
    ∃ k', Later k k' st (st.new (.box v.cells)).1 w { w with heap := w.heap.push (.cells x.cells t) } ∧ VR k' (.ptr st.store.length 0) (.pointer (some ⟨w.heap.size, 0, none⟩)) := by
  refine ⟨_, Later.alloc (st' := (st.new (.box v.cells)).1) hw (.cells x.cells t) (.box v.cells) (fun _ => none) ⟨w.heap.size, 0, 0, 0⟩ rfl rfl rfl rfl rfl (fun o v h => by cases h) ?_, ?_⟩
  · have hle := new_le hw (fun _ => none) ⟨w.heap.size, 0, 0, 0⟩
    refine .box _ x.cells.toList t (by simp) (hv.cells.mono hle) rfl fun o => ?_
    simp only [K.put, K.lay, if_true]
    exact imm_new hw o
  · have := VR.ptr (k := (k.lay w.heap.size fun _ => none).put st.store.length ⟨w.heap.size, 0, 0, 0⟩) st.store.length 0 ⟨w.heap.size, 0, 0, 0⟩ (by simp [K.put])
    exact this

theorem alloc_sim (hT : T.Fits P) (hw : WR k st w) {t : TypeId} {ti : TI} (ht : T.ty t = some ti) :
    ∃ x w' k', (Instr.alloc t true (.tuple #[])).run P w = .ok x w' ∧ Later k k' st (st.new (.box ti.zero.cells)).1 w w' ∧ VR k' (.ptr st.store.length 0) x := by
  obtain ⟨z, h1, h2⟩ := hT.runZero ht k w
  obtain ⟨k', h3, h4⟩ := box_sim hw h2 t
  exact ⟨_, _, k', by simp only [Instr.alloc, Sem.run_bind, h1, Result.andThen_ok, newVar, newRow, run_newObj, Sem.run_pure], h3, h4⟩

theorem box_run (hw : WR k st w) {t : TypeId} {v : V} {x : Value} (hv : VR k v x) :
    ∃ y w' k', (Instr.box t x).run P w = .ok y w' ∧ Later k k' st (st.new (.box v.cells)).1 w w' ∧ VR k' (.ptr st.store.length 0) y := by
  obtain ⟨k', h3, h4⟩ := box_sim hw hv t
  exact ⟨_, _, k', by simp only [Instr.box, Sem.run_bind, Result.andThen_ok, newVar, newRow, run_newObj, Sem.run_pure], h3, h4⟩

/-- Zeros, one after the other. -/
theorem zeros_list (z : Array Value) : ∀ n, ((Array.range (n * z.size)).map (fun i => z[i % z.size]!)).toList = (List.replicate n z.toList).flatten
  | 0 => by simp
  | n + 1 => by
    have ih := zeros_list z n
    simp only [Array.toList_map, Array.toList_range] at ih ⊢
    rw [Nat.succ_mul, List.range_add, List.map_append, ih, List.replicate_succ', List.flatten_append]
    congr 1
    simp only [List.map_map, List.flatten_singleton]
    apply List.ext_getElem?
    intro i
    rcases Nat.lt_or_ge i z.size with h | h
    · rw [List.getElem?_map, List.getElem?_range h]
      simp only [Option.map_some, Function.comp_apply]
      rw [Nat.add_comm, Nat.mul_comm, Nat.add_mul_mod_self_left, Nat.mod_eq_of_lt h]
      simp [h]
    · rw [List.getElem?_eq_none (by simpa using h), List.getElem?_eq_none (by simpa using h)]

theorem zeros_vr {z : V} {Z : Value} (h : VR k z Z) : ∀ n, VRs k ((List.replicate n z).flatMap V.cells) (List.replicate n Z.cells.toList).flatten
  | 0 => .nil
  | n + 1 => by
    rw [List.replicate_succ, List.replicate_succ, List.flatMap_cons, List.flatten_cons]
    exact h.cells.append (zeros_vr h n)

/-- A vector that nobody has yet. -/
theorem vec_new (hw : WR k st w) (acc : Bool) (es : List V) (sz cap : Nat) (arr : Array Value) (t : TypeId) (vs : List Value) (hv : VRs k (es.flatMap V.cells) vs) (hs : ∀ x ∈ es, x.cells.length = sz)
    (hz : arr.size = cap * sz) (hc : es.length ≤ cap) (ha : ∀ (j : Nat) (v : Value), vs[j]? = some v → arr[j]? = some v) {w' : World} (hh : w'.heap = w.heap.push (.cells arr t)) (he : Env w w' := by first | exact ⟨rfl, rfl, rfl⟩ | assumption) :
    ∃ k', Later k k' st { st with store := st.store ++ [.vec acc es] } w w' ∧ VR k' (.slice st.store.length sz 0 es.length) (.slice (some ⟨w.heap.size, 0, none⟩) es.length cap) := by
  let J : Nat → Option Value := fun o => if acc then vs[o]? else none
  have hJ : ∀ o v, J o = some v → cellOf (.cells arr t) o = some v := fun o v h => by
    simp only [J] at h
    split at h
    · exact ha o v h
    · cases h
  refine ⟨(k.lay w.heap.size J).put st.store.length ⟨w.heap.size, 0, sz, cap⟩, Later.alloc hw (.cells arr t) (.vec acc es) J ⟨w.heap.size, 0, sz, cap⟩ rfl hh rfl rfl rfl hJ ?_, ?_⟩
  · refine .vec acc es arr t vs rfl (by simpa using hz) hc hs (hv.mono (new_le hw J _)) (fun j v h => by simpa using ha j v h) (fun e j v h => ?_) (fun o _ h2 => ?_)
    · simp only [K.put, K.lay, if_true, J, e, if_true, Nat.zero_add, h]
    · simp only [K.put, K.lay, if_true]
      have : J o = none := by
        simp only [J]
        split
        · rename_i e
          exact List.getElem?_eq_none (by have := h2 e; omega)
        · rfl
      rw [this]; exact imm_new hw o
  · have := VR.slice (k := (k.lay w.heap.size J).put st.store.length ⟨w.heap.size, 0, sz, cap⟩) st.store.length sz 0 es.length ⟨w.heap.size, 0, sz, cap⟩ ⟨w.heap.size, 0, none⟩ (by simp [K.put]) rfl (by simpa using hc) (fun _ => by simp)
    simpa using this

/-- Memory that will not change, as a list. -/
theorem list_new (hw : WR k st w) (xs : List V) (sz cap : Nat) (arr : Array Value) (t : TypeId) (vs : List Value) (hv : VRs k (xs.flatMap V.cells) vs) (hs : ∀ x ∈ xs, x.cells.length = sz)
    (hc : xs.length ≤ cap) (ha : ∀ (j : Nat) (v : Value), vs[j]? = some v → arr[j]? = some v) {w' : World} {fz : Nat × Nat} (hh : w'.heap = w.heap.push (.cells arr t fz)) (full : Bool) (hf : full = true → cap = xs.length) (he : Env w w' := by first | exact ⟨rfl, rfl, rfl⟩ | assumption) :
    ∃ k', Later k k' st st w w' ∧ VR k' (.list full (some false) xs) (.slice (some ⟨w.heap.size, 0, none⟩) xs.length cap) := by
  have hJ : ∀ o v, (fun o => vs[o]?) o = some v → cellOf (.cells arr t fz) o = some v := fun o v h => ha o v h
  refine ⟨k.lay w.heap.size (fun o => vs[o]?), Later.allocI hw (.cells arr t fz) _ hh hJ, ?_⟩
  cases xs with
  | nil => exact .list0 full (some false) _ cap (fun e => hf e) (fun e => by cases e) (fun _ => by simp)
  | cons x xs =>
    refine .list1 full (some false) x xs vs w.heap.size 0 sz cap (hv.mono (lay_new_le hw _)) (fun j v h => ?_) hs (fun e => hf e) hc (by simp)
    simp only [K.lay, if_true, Nat.zero_add, h]

end
end Go.Abs
namespace Go.Abs
section
variable {P : Program} {T : Tab} {k : K} {st : St} {w : World}

theorem setAll_fill {s : Nat} : ∀ {parts : List (Nat × V)} {xs ys : List V}, (∀ x ∈ xs, x.cells.length = s) → (∀ p ∈ parts, p.2.cells.length = s) → setAll xs parts = some ys →
    fill (fun i => some (i * s, s)) (xs.flatMap V.cells) parts = some (ys.flatMap V.cells) ∧ (∀ y ∈ ys, y.cells.length = s) ∧ ys.length = xs.length
  | [], xs, ys, hx, _, h => by simp only [setAll, Option.some.injEq] at h; subst h; exact ⟨rfl, hx, rfl⟩
  | (i, v) :: r, xs, ys, hx, hp, h => by
    unfold setAll at h
    split at h
    · rename_i hi
      have hv : v.cells.length = s := hp (i, v) (by simp)
      have hx' : ∀ x ∈ xs.set i v, x.cells.length = s := fun x hm => by
        rcases List.mem_or_eq_of_mem_set hm with hm | rfl
        · exact hx x hm
        · exact hv
      obtain ⟨h1, h2, h3⟩ := setAll_fill hx' (fun p hm => hp p (by simp [hm])) h
      refine ⟨?_, h2, by simpa using h3⟩
      unfold fill
      have he := List.getElem?_eq_getElem hi
      have hc := hx _ (List.getElem_mem hi)
      have hmul : i * s + s ≤ xs.length * s := by rw [← Nat.succ_mul]; exact Nat.mul_le_mul_right _ hi
      simp only
      rw [if_neg (by rw [flat_len xs hx]; omega), ← h1]
      congr 1
      rw [flat_set (s := s) (off := 0) (new := v.cells) (e := xs[i]) (by omega) (by simp [splice, hv, hc, List.drop_of_length_le]) hx he]
      simp [splice, hv]
    · cases h

theorem buildSlice_sim (hT : T.Fits P) (hw : WR k st w) {t e : TypeId} {ti : TI} {len : Nat} {parts : List (Nat × V)} {parts' : Array (Nat × Value)} {xs : List V} (ht : T.und t = some (.slice e)) (hti : T.ty e = some ti)
    (hc1 : len * ti.size ≤ 2 ^ 20) (hc2 : ti.size ≠ 0) (hz : ti.zero.cells.length = ti.size) (hp : ∀ p ∈ parts, p.2.cells.length = ti.size) (he : parts.map (·.1) = parts'.toList.map (·.1)) (hr : VRs k (parts.map (·.2)) (parts'.toList.map (·.2)))
    (h : setAll (List.replicate len ti.zero) parts = some xs) :
    ∃ x w' k', (Instr.buildSlice t len parts').run P w = .ok x w' ∧ Later k k' st st w w' ∧ VR k' (.list true (some false) xs) x := by
  obtain ⟨z, h1, h2⟩ := hT.runZero hti k w
  have hzl : z.cells.size = ti.size := by have := h2.cells.length; simp at this; omega
  obtain ⟨hf, hxs, hl⟩ := setAll_fill (s := ti.size) (fun x hx => by rw [List.eq_of_mem_replicate hx]; exact hz) hp h
  simp only [List.length_replicate] at hl
  have hzv : VRs k ((List.replicate len ti.zero).flatMap V.cells) ((Array.range (len * ti.size)).map (fun i => z.cells[i % z.cells.size]!)).toList := by
    rw [← hzl, zeros_list]; exact zeros_vr h2 len
  obtain ⟨vs', hi, hv⟩ := fill_run (place' := fun i => some (i * ti.size, ti.size)) (fun i x e => e) hzv he hr hf
  have hvl : vs'.size = len * ti.size := by have := hv.length; rw [flat_len _ hxs, hl] at this; simpa using this.symm
  have hlen0 : len * ti.size = 0 → len = 0 := fun e => by rcases Nat.mul_eq_zero.1 e with h | h; exact h; exact absurd h hc2
  obtain ⟨k', h3, h4⟩ := list_new (w' := { w with heap := w.heap.push (.cells vs' e) }) (fz := (0, 0)) hw xs ti.size len vs' e vs'.toList hv hxs (by omega) (fun j v h => by simpa using h) rfl true (fun _ => hl.symm)
  refine ⟨_, _, k', ?_, h3, by rw [hl] at h4; exact h4⟩
  simp only [Instr.buildSlice, Sem.run_bind, hT.runUnd ht, Result.andThen_ok, hT.runSize (size_of_ty hti)]
  rw [if_neg (by omega)]
  by_cases hl0 : len * ti.size = 0
  · have := hlen0 hl0
    subst this
    simp only [Nat.zero_mul, if_true, Sem.run_bind, Sem.run_pure, Result.andThen_ok]
    have e1 : ((Array.range 0).map fun i => (#[] : Array Value)[i % (#[] : Array Value).size]!) = (Array.range (0 * ti.size)).map (fun i => z.cells[i % z.cells.size]!) := by simp
    rw [e1, hi]
    simp only [newRow, Sem.run_bind, run_newObj, Result.andThen_ok, Sem.run_pure]
  · rw [if_neg hl0]
    simp only [Sem.run_bind, h1, Sem.run_pure, Result.andThen_ok, hi, newRow, run_newObj]

theorem makeSlice_run (hT : T.Fits P) {t e : TypeId} {ti : TI} {n m : Int} (ht : T.und t = some (.slice e)) (hti : T.ty e = some ti) (h0 : 0 ≤ n) (hnm : n ≤ m) (hb : m * ti.bytes < 2 ^ 40) (hm : m < 2 ^ 40)
    (hs : ti.size ≠ 0) {z : Value} (h1 : (zeroValue e).run P w = .ok z w) :
    (Instr.makeSlice t (.int .i64 n) (.int .i64 m)).run P w = .ok (.slice (some ⟨w.heap.size, 0, none⟩) n.toNat m.toNat) { w with heap := w.heap.push (.cells ((Array.range (m.toNat * ti.size)).map (fun i => z.cells[i % z.cells.size]!)) e) } := by
  obtain ⟨info, _, g1, g2, g3, _⟩ := hT.ty e ti hti
  have hwr : ∀ i : Int, 0 ≤ i → i < 2 ^ 40 → IntKind.i64.wrap i = i := fun i a b => by
    unfold IntKind.wrap
    have e1 : IntKind.i64.bits = 64 := rfl
    have e2 : IntKind.i64.signed = true := rfl
    simp only [e1, e2, Bool.true_and, decide_eq_true_eq]
    omega
  have hlarge : ∀ i : Int, 0 ≤ i → i ≤ m → (i < 0 || (info.bytes : Int) * i > 2 ^ 48) = false := fun i a b => by
    have : (info.bytes : Int) * i ≤ ti.bytes * m := by rw [g3]; exact Int.mul_le_mul_of_nonneg_left b (by omega)
    rw [Int.mul_comm m] at hb
    simp only [Bool.or_eq_false_iff, decide_eq_false_iff_not]
    omega
  have hm0 : 0 ≤ m := by omega
  simp only [Instr.makeSlice, Sem.run_bind, hT.runUnd ht, Result.andThen_ok, asInt, run_asIntOf, Sem.run_pure, typeInfo, run_program, g1, hwr n h0 (by omega), hwr m hm0 hm, hlarge m hm0 (Int.le_refl _)]
  rw [if_neg (by simp; omega)]
  simp only [Sem.run_bind, run_askRoom, Result.andThen_ok, hT.runSize (size_of_ty hti)]
  by_cases hl0 : m.toNat * ti.size = 0
  · have : m.toNat = 0 := by rcases Nat.mul_eq_zero.1 hl0 with h | h; exact h; exact absurd h hs
    rw [if_pos hl0]
    have e0 : Array.range 0 = #[] := rfl
    simp only [Sem.run_pure, Result.andThen_ok, newRow, Sem.run_bind, run_newObj, this, Nat.zero_mul, e0, Array.map_empty]
  · rw [if_neg hl0]
    simp only [Sem.run_bind, h1, Sem.run_pure, Result.andThen_ok, newRow, run_newObj]

theorem makeSlice_sim (hT : T.Fits P) (hw : WR k st w) {t e : TypeId} {ti : TI} {n m : Int} (ht : T.und t = some (.slice e)) (hti : T.ty e = some ti) (h0 : 0 ≤ n) (hnm : n ≤ m) (hb : m * ti.bytes < 2 ^ 40) (hm : m < 2 ^ 40)
    (hs : ti.size ≠ 0) (hz : ti.zero.cells.length = ti.size) :
    ∃ x w' k', (Instr.makeSlice t (.int .i64 n) (.int .i64 m)).run P w = .ok x w' ∧ Later k k' st (st.new (.vec false (List.replicate n.toNat ti.zero))).1 w w' ∧ VR k' (.slice st.store.length ti.size 0 n.toNat) x := by
  obtain ⟨z, h1, h2⟩ := hT.runZero hti k w
  have hzl : z.cells.size = ti.size := by have := h2.cells.length; simp at this; omega
  have hvs := zeros_vr h2 n.toNat
  have harr : ((Array.range (m.toNat * ti.size)).map (fun i => z.cells[i % z.cells.size]!)).toList = (List.replicate m.toNat z.cells.toList).flatten := by rw [← hzl]; exact zeros_list _ _
  obtain ⟨k', h3, h4⟩ := vec_new (w' := { w with heap := w.heap.push (.cells ((Array.range (m.toNat * ti.size)).map (fun i => z.cells[i % z.cells.size]!)) e) }) hw false (List.replicate n.toNat ti.zero) ti.size m.toNat _ e _ hvs
    (fun x hx => by rw [List.eq_of_mem_replicate hx]; exact hz) (by simp) (by simp; omega) (fun j v h => by
      rw [← Array.getElem?_toList, harr]
      have e : m.toNat = n.toNat + (m.toNat - n.toNat) := by omega
      rw [e, ← List.replicate_append_replicate, List.flatten_append, List.getElem?_append_left (List.getElem?_eq_some_iff.1 h).1]
      exact h) rfl
  exact ⟨_, _, k', makeSlice_run hT ht hti h0 hnm hb hm hs h1, h3, by rw [List.length_replicate] at h4; exact h4⟩

theorem makeMap_sim (hT : T.Fits P) (hw : WR k st w) {t : TypeId} {r : Option Value} (hr : ∀ x, r = some x → (∃ kd n, x = .int kd n) ∧ ∃ a b, T.und t = some (.map a b)) :
    ∃ x w' k', (Instr.makeMap t r).run P w = .ok x w' ∧ Later k k' st (st.new (.map [])).1 w w' ∧ VR k' (.map st.store.length) x := by
  refine ⟨.map (some w.heap.size), { w with heap := w.heap.push (.map #[] 0) }, (k.lay w.heap.size fun _ => none).put st.store.length ⟨w.heap.size, 0, 0, 0⟩, ?_,
    Later.alloc hw (.map #[] 0) (.map []) (fun _ => none) ⟨w.heap.size, 0, 0, 0⟩ rfl rfl rfl rfl rfl (fun o v h => by cases h) ?_, .map _ ⟨w.heap.size, 0, 0, 0⟩ (by simp [K.put])⟩
  · cases r with
    | none => rfl
    | some x =>
      obtain ⟨⟨kd, n, rfl⟩, a, b, hu⟩ := hr x rfl
      simp only [Instr.makeMap, Sem.run_bind, hT.runUnd hu, Result.andThen_ok, asInt, run_asIntOf, Sem.run_pure, run_newObj]
  · exact .map [] #[] 0 rfl rfl fun i x e h => by simp at h

theorem modify_push {α : Type} (h : Array α) (x : α) (f : α → α) : (h.push x).modify h.size f = h.push (f x) := by
  apply Array.ext_getElem?
  intro i
  rw [Array.getElem?_modify, Array.getElem?_push, Array.getElem?_push]
  by_cases e : i = h.size
  · subst e; simp
  · simp [e, Ne.symm e]

/-- The bytes of a text, in new memory. -/
theorem convBytes_sim (hT : T.Fits P) (hw : WR k st w) {src dst e : TypeId} {s : ByteArray} (hs : (T.und src).isSome = true) (hd : T.und dst = some (.slice e)) (he : T.und e = some (.int .u8)) (hl : s.size < 2 ^ 40) :
    ∃ x w' k', (convert src dst (.string s)).run P w = .ok x w' ∧ Later k k' st st w w' ∧ VR k' (.list false (some false) (s.data.toList.map fun b => .int .u8 b.toNat)) x := by
  obtain ⟨ds, hs⟩ := Option.isSome_iff_exists.1 hs
  have hflat : (s.data.toList.map fun b => V.int .u8 (b.toNat : Int)).flatMap V.cells = s.data.toList.map fun b => V.int .u8 (b.toNat : Int) := by
    generalize s.data.toList = l
    induction l with
    | nil => rfl
    | cons a l ih => rw [List.map_cons, List.flatMap_cons, ih]; rfl
  have hv : VRs k (s.data.toList.map fun b => V.int .u8 (b.toNat : Int)) (s.data.toList.map fun b => Value.int .u8 (b.toNat : Int)) := by
    generalize s.data.toList = l
    induction l with
    | nil => exact .nil
    | cons a l ih => exact .cons (.int _ _) ih
  let q := Question.appendCap s.size 0 e
  let cap := q.cut (w.tape w.drawn q)
  have hcap : s.size ≤ cap := Nat.le_add_right _ _
  let arr : Array Value := (s.data.map fun b => Value.int .u8 (b.toNat : Int)) ++ Array.replicate (cap - s.size) (Value.int .u8 0)
  have hsz : arr.size = cap := by
    have e1 : s.data.size = s.size := rfl
    simp only [arr, Array.size_append, Array.size_map, Array.size_replicate, e1]; omega
  let w1 : World := { w with drawn := w.drawn + 1 }
  have hw1 : WR k st w1 := hw.heap rfl
  let w2 : World := { w1 with heap := w1.heap.push (.cells arr e (cap, cap + 1)) }
  have hlen : (s.data.toList.map fun b => V.int .u8 (b.toNat : Int)).length = s.size := by simp
  obtain ⟨k', h3, h4⟩ := list_new (w' := w2) (fz := (cap, cap + 1)) hw1 (s.data.toList.map fun b => V.int .u8 (b.toNat : Int)) 1 cap arr e _ (by rw [hflat]; exact hv) (fun x hx => by
    obtain ⟨b, _, rfl⟩ := List.mem_map.1 hx; rfl) (by rw [hlen]; exact hcap) (fun j v h => by
      have : arr.toList[j]? = some v := by
        simp only [arr, Array.toList_append, Array.toList_map]
        rw [List.getElem?_append_left (List.getElem?_eq_some_iff.1 h).1]; exact h
      simpa using this) rfl false (fun e => by cases e)
  refine ⟨_, w2, k', ?_, Later.trans hw (Later.drew (w' := w1) hw rfl) h3, by rw [hlen] at h4; exact h4⟩
  have hrun : (Conv.stringToBytes e s).run P w = .ok (.slice (some ⟨w.heap.size, 0, none⟩) s.size cap) w2 := by
    simp only [Conv.stringToBytes, Sem.run_bind, choose, Sem.run, Sem.run_pure']
    rw [show (Question.appendCap s.size 0 e).forced = false from rfl]
    simp only [Bool.false_eq_true, if_false, Result.andThen_ok]
    have e1 : (w.heap.push (Obj.cells arr e))[w.heap.size]? = some (Obj.cells arr e) := by simp
    show Result.andThen (Sem.run P (newRow e arr) w1) _ = _
    simp only [newRow, Sem.run_bind, run_newObj, Result.andThen_ok, Sem.run_pure, markStringish, run_shape, World.shape?, w1, e1, run_freeze, World.freeze, Nat.one_ne_zero, if_false]
    rw [modify_push, hsz]
    rfl
  cases ds <;> (simp only [convert, Sem.run_bind, hT.runUnd hs, hT.runUnd hd, hT.runUnd he, Result.andThen_ok, hrun]; rfl)

end
end Go.Abs
namespace Go.Abs
section
variable {P : Program} {T : Tab} {k : K} {st st' : St} {w : World}

theorem checkKey_run (hT : T.Fits P) {kt : TypeId} {kv : V} {X : Value} (hk : keyOk T kt kv = true) (hx : VR k kv X) (b : Bool) (n : Nat) : (Instr.checkKey b (n + 1) kt X).run P w = .ok () w := by
  unfold keyOk at hk
  split at hk
  · rename_i hu; cases hx; simp only [Instr.checkKey, Sem.run_bind, hT.runUnd hu, Result.andThen_ok]; rfl
  · rename_i hu; cases hx; simp only [Instr.checkKey, Sem.run_bind, hT.runUnd hu, Result.andThen_ok]; rfl
  · cases hk

theorem sameNow_eq (hT : T.Fits P) {kt : TypeId} {d : TypeDesc} (hd : T.und kt = some d) {a b : V} {A B : Value} (hk : keyOk T kt a = true) (ha : VR k a A) (hb : VR k b B) {r : Bool} (h : keyEq a b = some r) :
    Instr.sameNow d A B = some r := by
  unfold keyEq at h
  split at h
  · cases ha; cases hb
    split at h
    · rename_i e; cases h; subst e
      unfold keyOk at hk
      rw [hd] at hk
      split at hk
      · rename_i hu _; cases hu; simp [Instr.sameNow]
      · rename_i hu he; cases he
      · cases hk
    · cases h
  · cases ha with | str s => cases hb with | str u =>
    cases h
    unfold keyOk at hk
    rw [hd] at hk
    split at hk
    · rename_i hu he; cases he
    · rename_i hu _; cases hu
      simp only [Instr.sameNow, beq_toListBytes, ByteArray.toList_eq]
    · cases hk
  · cases h

/-- Entries that stand for each other. -/
def ERel (k : K) (es : List (V × V)) (ents : List MapEntry) : Prop := ents.length = es.length ∧ ∀ (i : Nat) (x : V × V) (e : MapEntry), es[i]? = some x → ents[i]? = some e → VR k x.1 e.key ∧ VR k x.2 e.val

theorem ERel.tail {x : V × V} {es : List (V × V)} {e : MapEntry} {ents : List MapEntry} (h : ERel k (x :: es) (e :: ents)) : ERel k es ents :=
  ⟨by have := h.1; simpa using this, fun i y f h1 h2 => h.2 (i + 1) y f (by simpa using h1) (by simpa using h2)⟩

def FRel (k : K) : Option (Nat × V) → Option (Nat × Value) → Prop
  | none, none => True
  | some (i, v), some (j, x) => i = j ∧ VR k v x
  | _, _ => False

theorem findNow_rel (hT : T.Fits P) {kt : TypeId} {d : TypeDesc} (hd : T.und kt = some d) {kv : V} {X : Value} (hk : keyOk T kt kv = true) (hx : VR k kv X) : ∀ {es : List (V × V)} {ents : List MapEntry} {i : Nat} {r : Option (Nat × V)},
    ERel k es ents → findKey kv es i = some r → ∃ r', Instr.findNow d X ents i = some r' ∧ FRel k r r'
  | [], ents, i, r, he, h => by
    have : ents = [] := List.eq_nil_of_length_eq_zero (by simpa using he.1)
    subst this
    simp only [findKey, Option.some.injEq] at h
    subst h; exact ⟨none, rfl, trivial⟩
  | (k', v) :: es, ents, i, r, he, h => by
    cases ents with
    | nil => have := he.1; simp at this
    | cons e ents =>
      have h0 := he.2 0 (k', v) e rfl rfl
      unfold findKey at h
      unfold Instr.findNow
      split at h
      · rename_i e1
        cases h
        rw [sameNow_eq hT hd hk hx h0.1 e1]
        exact ⟨_, rfl, rfl, h0.2⟩
      · rename_i e1
        rw [sameNow_eq hT hd hk hx h0.1 e1]
        exact findNow_rel hT hd hk hx he.tail h
      · cases h

theorem keyOk_und {kt : TypeId} {kv : V} (hk : keyOk T kt kv = true) : ∃ d, T.und kt = some d := by
  unfold keyOk at hk
  split at hk
  · rename_i h; exact ⟨_, h⟩
  · rename_i h; exact ⟨_, h⟩
  · cases hk

theorem findKey_run (hT : T.Fits P) {kt : TypeId} {kv : V} {X : Value} (hk : keyOk T kt kv = true) (hx : VR k kv X) {es : List (V × V)} {ents : List MapEntry} {r : Option (Nat × V)} (he : ERel k es ents) (h : findKey kv es 0 = some r) :
    ∃ r', (Instr.findKey kt X ents).run P w = .ok r' w ∧ FRel k r r' := by
  obtain ⟨d, hd⟩ := keyOk_und hk
  obtain ⟨r', h1, h2⟩ := findNow_rel hT hd hk hx he h
  exact ⟨r', by simp only [Instr.findKey, Sem.run_bind, hT.runUnd hd, Result.andThen_ok, h1, Sem.run_pure], h2⟩

theorem run_getObj_map {b : Nat} {ents : Array MapEntry} {clock : Nat} (h : w.heap[b]? = some (.map ents clock)) : (getObj b).run P w = .ok (.map ents clock) w := by
  simp [getObj, Sem.run, h]

theorem map_obj (hw : WR k st w) {r : Nat} {g : G} (hg : k.ρ r = some g) {es : List (V × V)} (h : st.store[r]? = some (.map es)) : ∃ ents clock, w.heap[g.b]? = some (.map ents clock) ∧ ERel k es ents.toList := by
  obtain ⟨ob, h1, h2⟩ := hw.obj r g hg
  rw [h] at h1; cases h1
  cases h2 with
  | map es ents clock hh hl he => exact ⟨ents, clock, hh, by simpa using hl, fun i x e a b => he i x e a (by simpa using b)⟩

theorem evLookup_gives (hT : T.Fits P) (hw : WR k st w) {t : TypeId} {m kv : V} {M X : Value} {ok : Bool} {v : V} (hm : VR k m M) (hx : VR k kv X) (h : evLookup T st t m kv ok = some v) :
    Gives P k w (Instr.lookup t M X ok) v := by
  unfold evLookup at h
  split at h
  · rename_i kt et ht
    split at h
    · rename_i hk
      split at h
      · cases h
      · rename_i ti hti
        obtain ⟨z, hz1, hz2⟩ := hT.runZero hti k w
        have ans : ∀ (y : V) (Y : Value) (b : Bool), VR k y Y → VR k (if ok then .tup [y, .bool b] else y) (if ok = true then Value.tuple #[Y, .bool b] else Y) := fun y Y b hy => by
          cases ok with
          | true => exact .tup _ [Y, .bool b] (.cons hy (.cons (.bool b) .nil))
          | false => exact hy
        simp only at h
        split at h
        · cases h
          cases hm
          refine ⟨_, ?_, ans _ z false hz2⟩
          simp only [Instr.lookup, Sem.run_bind, hT.runUnd ht, Result.andThen_ok, Sem.run_pure, checkKey_run hT hk hx]
          obtain ⟨r', h1, h2⟩ := findKey_run (w := w) hT hk hx (es := []) (ents := []) ⟨rfl, fun i x e h => by simp at h⟩ rfl
          cases r' with
          | some q => exact h2.elim
          | none =>
            have h1' : (Instr.findKey kt X (#[] : Array MapEntry).toList).run P w = .ok none w := h1
            simp only [h1', Result.andThen_ok, Sem.run_bind, hz1, Sem.run_pure]
        · rename_i r
          cases hm with | map _ g hg =>
          split at h
          · rename_i es hes
            obtain ⟨ents, clock, hh, he⟩ := map_obj hw hg hes
            have hbase : ∀ (r : Option (Nat × V)), findKey kv es 0 = some r → ∃ r', (Instr.findKey kt X ents.toList).run P w = .ok r' w ∧ FRel k r r' := fun r e => findKey_run hT hk hx he e
            split at h
            · rename_i i y e
              cases h
              obtain ⟨r', h1, h2⟩ := hbase _ e
              cases r' with
              | none => exact h2.elim
              | some q =>
                refine ⟨_, ?_, ans _ q.2 true h2.2⟩
                simp only [Instr.lookup, Sem.run_bind, hT.runUnd ht, Result.andThen_ok, Sem.run_pure, run_getObj_map hh, checkKey_run hT hk hx, h1]
            · rename_i e
              cases h
              obtain ⟨r', h1, h2⟩ := hbase _ e
              cases r' with
              | some q => exact h2.elim
              | none =>
                refine ⟨_, ?_, ans _ z false hz2⟩
                simp only [Instr.lookup, Sem.run_bind, hT.runUnd ht, Result.andThen_ok, Sem.run_pure, run_getObj_map hh, checkKey_run hT hk hx, h1, hz1]
            · cases h
          · cases h
        · cases h
    · cases h
  · cases h

theorem findKey_some {kv : V} : ∀ {es : List (V × V)} {i j : Nat} {v : V}, findKey kv es i = some (some (j, v)) → i ≤ j ∧ ∃ k', es[j - i]? = some (k', v) ∧ keyEq kv k' = some true
  | [], i, j, v, h => by simp [findKey] at h
  | (k', u) :: es, i, j, v, h => by
    unfold findKey at h
    split at h
    · rename_i e; cases h; exact ⟨Nat.le_refl _, k', by simp, e⟩
    · rename_i e
      obtain ⟨h1, k2, h2, h3⟩ := findKey_some h
      refine ⟨by omega, k2, ?_, h3⟩
      rw [show j - i = (j - (i + 1)) + 1 from by omega, List.getElem?_cons_succ]; exact h2
    · cases h

theorem keyStays {a b : V} {A B : Value} (ha : VR k a A) (hb : VR k b B) (h : keyEq a b = some true) : (Instr.keyThatStays B A).run P w = .ok A w := by
  have : Instr.sameBits 10000 B A = true := by
    unfold keyEq at h
    split at h
    · cases ha; cases hb
      split at h
      · rename_i e; subst e; simp only [Option.some.injEq, beq_iff_eq] at h; subst h; simp [Instr.sameBits]
      · cases h
    · cases ha with | str s => cases hb with | str u =>
      simp only [Option.some.injEq, beq_iff_eq] at h
      simp only [Instr.sameBits, beq_toListBytes, ByteArray.toList_eq, h, beq_self_eq_true]
    · cases h
  simp only [Instr.keyThatStays, this, if_true, Sem.run_pure]

theorem evMapUpdate_sim (hT : T.Fits P) (hw : WR k st w) {t : TypeId} {m kv v : V} {M X Y : Value} (hm : VR k m M) (hx : VR k kv X) (hy : VR k v Y) (h : evMapUpdate T st t m kv v = some st') :
    ∃ w', (Instr.mapUpdate t M X Y).run P w = .ok () w' ∧ Later k k st st' w w' := by
  unfold evMapUpdate at h
  split at h
  · rename_i kt et r ht
    cases hm with | map _ g hg =>
    split at h
    · cases h
    · rename_i hlk
      split at h
      · rename_i hk
        split at h
        · rename_i es hes
          obtain ⟨ents, clock, hh, he⟩ := map_obj hw hg hes
          have hlt : g.b < w.heap.size := hw.bound r g hg
          have hturn : ∀ (es' : List (V × V)) (ents' : Array MapEntry) (clock' : Nat), ERel k es' ents'.toList → Later k k st { st with store := st.store.set r (.map es') } w { w with heap := w.heap.setIfInBounds g.b (.map ents' clock') } := by
            intro es' ents' clock' he'
            refine Later.turn hw hg (by simpa using hlk) (by rw [hes]; simp) (.map es') rfl rfl rfl (by simp) (fun b hb => by rw [Array.getElem?_setIfInBounds_ne (Ne.symm hb)]) (fun o v hi => ?_) ?_
            · have := hw.imm _ _ _ hi
              rw [cell?_of hh] at this; cases this
            · refine .map es' ents' clock' ?_ (by simpa using he'.1) fun i x e a b => he'.2 i x e a (by simpa using b)
              rw [Array.getElem?_setIfInBounds_self_of_lt hlt]
          have hset : ∀ ob, (setObj g.b ob).run P w = .ok () { w with heap := w.heap.setIfInBounds g.b ob } := fun ob => by simp [setObj, Sem.run, hh]
          split at h
          · rename_i i y e
            cases h
            obtain ⟨r', h1, h2⟩ := findKey_run (w := w) hT hk hx he e
            cases r' with
            | none => exact h2.elim
            | some q =>
              obtain ⟨j, Q⟩ := q
              obtain ⟨rfl, _⟩ := h2
              obtain ⟨_, k2, h3, h4⟩ := findKey_some e
              simp only [Nat.sub_zero] at h3
              have hil : i < ents.size := by
                have := (List.getElem?_eq_some_iff.1 h3).1; have := he.1; simp at this; omega
              have hent : ents[i]? = some ents[i] := Array.getElem?_eq_getElem hil
              have hrel := he.2 i (k2, y) ents[i] h3 (by simpa using hent)
              refine ⟨_, ?_, hturn (es.set i (kv, v)) (ents.modify i fun e => { e with key := X, val := Y }) clock ?_⟩
              · simp only [Instr.mapUpdate, Sem.run_bind, hT.runUnd ht, Result.andThen_ok, run_getObj_map hh, checkKey_run hT hk hx, h1, hent, Option.map_some, Option.getD_some, keyStays hx hrel.1 h4, hset]
              · refine ⟨by simpa using he.1, fun j x f a b => ?_⟩
                have b' : (ents.modify i fun e => { e with key := X, val := Y })[j]? = some f := by rw [← Array.getElem?_toList]; exact b
                rw [Array.getElem?_modify] at b'
                by_cases e1 : i = j
                · subst e1
                  rw [List.getElem?_set_self (by have := he.1; simp at this; omega)] at a
                  cases a
                  rw [if_pos rfl, hent] at b'
                  cases b'
                  exact ⟨hx, hy⟩
                · rw [List.getElem?_set_ne e1] at a
                  rw [if_neg e1] at b'
                  exact he.2 j x f a (by simpa using b')
          · rename_i e
            cases h
            obtain ⟨r', h1, h2⟩ := findKey_run (w := w) hT hk hx he e
            cases r' with
            | some q => exact h2.elim
            | none =>
              refine ⟨_, ?_, hturn (es ++ [(kv, v)]) (ents.push { key := X, val := Y, born := clock }) (clock + 1) ?_⟩
              · simp only [Instr.mapUpdate, Sem.run_bind, hT.runUnd ht, Result.andThen_ok, run_getObj_map hh, checkKey_run hT hk hx, h1, hset]
              · refine ⟨by have := he.1; simp at this ⊢; omega, fun j x f a b => ?_⟩
                have hl : ents.size = es.length := by simpa using he.1
                have b' : (ents.push { key := X, val := Y, born := clock })[j]? = some f := by rw [← Array.getElem?_toList]; exact b
                rw [Array.getElem?_push] at b'
                by_cases e1 : j = ents.size
                · subst e1
                  rw [if_pos rfl] at b'
                  rw [hl] at a
                  simp at a
                  cases b'
                  subst a
                  exact ⟨hx, hy⟩
                · rw [if_neg e1] at b'
                  have hj : j < es.length := by have := (Array.getElem?_eq_some_iff.1 b').1; omega
                  rw [List.getElem?_append_left hj] at a
                  exact he.2 j x f a (by simpa using b')
          · cases h
        · cases h
      · cases h
  · cases h

end
end Go.Abs
namespace Go.Abs
section
variable {P : Program} {T : Tab} {k : K} {st st' : St} {w : World}

theorem nextcap_le {need old : Nat} (h : old ≤ need) : Builtin.nextslicecap need old ≤ 16 * need := by
  unfold Builtin.nextslicecap
  split
  · omega
  · split
    · omega
    · rename_i h1 h2
      have step : ∀ (n : Nat) (c : Nat), 256 ≤ c → Builtin.growBy need n c ≤ 2 ^ n * c := by
        intro n
        induction n with
        | zero => intro c _; simp [Builtin.growBy]
        | succ n ih =>
          intro c hc
          simp only [Builtin.growBy]
          split
          · rw [Nat.pow_succ, Nat.mul_right_comm]
            have : 1 ≤ 2 ^ n := Nat.one_le_two_pow
            have h3 : c ≤ 2 ^ n * c := Nat.le_mul_of_pos_left c this
            omega
          · refine Nat.le_trans (ih _ (by omega)) ?_
            rw [Nat.pow_succ, Nat.mul_assoc]
            exact Nat.mul_le_mul_left _ (by omega)
      have := step 4 old (by omega)
      omega

/-- What is appended, as the machine reads it. -/
structure Src (P : Program) (k : K) (w : World) (size : Nat) (new : List V) (Y : Value) (ns : List Value) : Prop where
  vr : VRs k (new.flatMap V.cells) ns
  len : (Builtin.lenOf Y).run P w = .ok new.length w
  cells : (Builtin.firstCells size new.length Y).run P w = .ok ns.toArray w
  front : ∀ n, n ≤ new.length → (Builtin.firstCells size n Y).run P w = .ok (ns.take (n * size)).toArray w

theorem flat_bytes (l : List UInt8) : (l.map fun b => V.int .u8 (b.toNat : Int)).flatMap V.cells = l.map fun b => V.int .u8 (b.toNat : Int) := by
  induction l with
  | nil => rfl
  | cons a l ih => rw [List.map_cons, List.flatMap_cons, ih]; rfl

theorem bytes_vr (l : List UInt8) : VRs k (l.map fun b => V.int .u8 (b.toNat : Int)) (l.map fun b => Value.int .u8 (b.toNat : Int)) := by
  induction l with
  | nil => exact .nil
  | cons a l ih => exact .cons (.int _ _) ih

theorem loadCells_range {b o n : Nat} {vs : List Value} (h : w.rangeAt b o vs) (hn : vs.length = n) : (loadCells ⟨b, o, none⟩ n).run P w = .ok vs.toArray w := by
  subst hn
  exact run_loadCells_list (P := P) w ⟨b, o, none⟩ vs fun j v hj => by rw [Addr.add_mid]; exact h j v hj

theorem range_take {b o : Nat} {vs : List Value} (h : w.rangeAt b o vs) (n : Nat) : w.rangeAt b o (vs.take n) := fun j v hj => by
  rw [List.getElem?_take] at hj
  split at hj
  · exact h j v hj
  · cases hj

theorem loadCells_zero (a : Addr) : (loadCells a 0).run P w = .ok #[] w := rfl

/-- The elements of a vector, in the world. -/
theorem vec_range (hw : WR k st w) {r : Nat} {g : G} (hg : k.ρ r = some g) {acc : Bool} {es : List V} (he : st.store[r]? = some (.vec acc es)) (off len : Nat) (hle : off + len ≤ es.length) :
    ∃ vs, VRs k (((es.drop off).take len).flatMap V.cells) vs ∧ vs.length = len * g.s ∧ w.rangeAt g.b (g.o + off * g.s) vs ∧ (∀ x ∈ es, x.cells.length = g.s) ∧ es.length ≤ g.cap := by
  obtain ⟨ob, h1, h2⟩ := hw.obj r g hg
  rw [he] at h1; cases h1
  cases h2 with
  | vec acc es arr t vs hh hz hc hs hv ha hI hI' =>
    have hv2 : VRs k (((es.drop off).take len).flatMap V.cells) ((vs.drop (off * g.s)).take (len * g.s)) := by
      rw [flat_take _ (fun x hx => hs x (List.mem_of_mem_drop hx)), flat_drop _ hs]; exact (hv.drop _).take _
    refine ⟨_, hv2, ?_, fun j v hj => ?_, hs, hc⟩
    · rw [← hv2.length, flat_len _ (fun x hx => hs x (List.mem_of_mem_drop (List.mem_of_mem_take hx)))]
      simp only [List.length_take, List.length_drop]
      rw [Nat.min_eq_left (by omega)]
    · rw [cell?_of hh]
      have := ha _ _ (take_drop_get hj)
      simp only [cellOf]
      rw [Nat.add_assoc]; exact this

theorem src_run (hw : WR k st w) {y : V} {Y : Value} {new : List V} {size : Nat} (hy : VR k y Y) (h : srcElems st y = some new) (hs : ∀ v ∈ new, v.cells.length = size) (h1 : size ≠ 0) : ∃ ns, ∀ w', w'.heap = w.heap → Src P k w' size new Y ns := by
  unfold srcElems at h
  split at h
  · cases h
    obtain ⟨base, cap, rfl, hc, _, _, _, h3⟩ := vr_base hy
    by_cases hne : new = []
    · subst hne
      have key : ∀ w' : World, (Builtin.firstCells size 0 (.slice base 0 cap)).run P w' = .ok #[] w' := fun w' => by
        cases base with
        | none => rfl
        | some a => simp only [Builtin.firstCells, Nat.zero_mul, loadCells_zero]
      refine ⟨[], fun w' hh => ⟨.nil, rfl, key w', fun n hn => ?_⟩⟩
      have : n = 0 := by simpa using hn
      subst this; simpa using key w'
    · obtain ⟨b, o, s, vs, rfl, hv, hI, hsz⟩ := h3 hne
      have e : s = size := by
        cases new with
        | nil => exact absurd rfl hne
        | cons x xs => rw [← hs x (by simp), ← hsz x (by simp)]
      subst e
      have hvl : vs.length = new.length * s := by rw [← hv.length, flat_len _ hsz]
      have hr : ∀ w' : World, w'.heap = w.heap → w'.rangeAt b o vs := fun w' hh j v hj => (cell?_congr (w := w) (by rw [hh])).trans (hw.imm _ _ _ (hI j v hj))
      refine ⟨vs, fun w' hh => ⟨hv, rfl, ?_, fun n hn => ?_⟩⟩
      · simp only [Builtin.firstCells]
        exact loadCells_range (hr w' hh) hvl
      · simp only [Builtin.firstCells]
        exact loadCells_range (range_take (hr w' hh) _) (by rw [List.length_take, hvl]; exact Nat.min_eq_left (Nat.mul_le_mul_right _ hn))
  · rename_i r s off len
    cases hy with | slice _ _ _ _ g a hg hgs hl ha =>
    split at h
    · rename_i acc es he
      split at h
      · rename_i hle
        cases h
        have hlen : ((es.drop off).take len).length = len := by simp; omega
        obtain ⟨vs, hv, hvl, hr, hsz, hcap⟩ := vec_range hw hg he off len hle
        by_cases h0 : len = 0
        · subst h0
          refine ⟨[], fun w' hh => ⟨by simpa using .nil, by simp [Builtin.lenOf], ?_, fun n hn => ?_⟩⟩
          · simp only [Builtin.firstCells, hlen, Nat.zero_mul, loadCells_zero]
          · have : n = 0 := by rw [hlen] at hn; omega
            subst this
            simp only [Builtin.firstCells, Nat.zero_mul, loadCells_zero, List.take_nil]
        · have e : g.s = size := by
            have hne : (es.drop off).take len ≠ [] := fun e => by rw [e] at hlen; simp at hlen; omega
            obtain ⟨x, hx⟩ := List.exists_mem_of_ne_nil _ hne
            rw [← hs x hx, ← hsz x (List.mem_of_mem_drop (List.mem_of_mem_take hx))]
          have hr' : ∀ w' : World, w'.heap = w.heap → w'.rangeAt g.b (g.o + off * g.s) vs := fun w' hh j v hj => (cell?_congr (w := w) (by rw [hh])).trans (hr j v hj)
          refine ⟨vs, fun w' hh => ⟨hv, by rw [hlen]; rfl, ?_, fun n hn => ?_⟩⟩
          · rw [ha (by omega), hlen]
            simp only [Builtin.firstCells]
            rw [← hgs]
            exact loadCells_range (hr' w' hh) (by rw [hvl, e])
          · rw [ha (by omega)]
            simp only [Builtin.firstCells]
            rw [hlen] at hn
            rw [← hgs]
            exact loadCells_range (range_take (hr' w' hh) _) (by rw [List.length_take, hvl, e]; exact Nat.min_eq_left (Nat.mul_le_mul_right _ hn))
      · cases h
    · cases h
  · cases h
    cases hy with | str s =>
    refine ⟨s.data.toList.map fun b => Value.int .u8 (b.toNat : Int), fun w' hh => ⟨by rw [flat_bytes]; exact bytes_vr _, by simp [Builtin.lenOf], ?_, fun n hn => ?_⟩⟩
    · simp only [Builtin.firstCells, Sem.run_pure]
      congr 1
      apply Array.ext'
      simp
    · simp only [Builtin.firstCells, Sem.run_pure]
      congr 1
      apply Array.ext'
      simp only [Array.toList_map, str_extract, List.drop_zero, Nat.sub_zero]
      by_cases h0 : n = 0
      · subst h0; simp
      · have : size = 1 := by
          cases hl : s.data.toList with
          | nil => rw [hl] at hn; simp at hn; omega
          | cons b l => have := hs (.int .u8 b.toNat) (by rw [hl]; simp); exact this.symm
        rw [this, Nat.mul_one, List.map_take]
  · cases h

def grown (w : World) (need cap : Nat) (e : TypeId) : Nat := (Question.appendCap need cap e).cut (w.tape w.drawn (Question.appendCap need cap e))

theorem grown_ge (w : World) (need cap : Nat) (e : TypeId) : need ≤ grown w need cap e := Nat.le_add_right _ _

/-- An append that finds no room. -/
theorem append_grow_run (hT : T.Fits P) {t tx ty e : TypeId} {ts : Array TypeId} (hts0 : ts[0]? = some t) (hts1 : ts[1]? = some tx) {ti : TI} {d : TypeDesc} {z : Value} (ht : T.und t = some (.slice e)) (htx : T.und tx = some d) (hd : ∀ kd, d ≠ .int kd) (hti : T.ty e = some ti)
    (hz : ∀ w', (zeroValue e).run P w' = .ok z w') {base : Option Addr} {sLen sCap n : Nat} {Y : Value} {olds news : List Value} (hn : sCap < sLen + n) (hb : (sLen + n) * ti.bytes < 2 ^ 40) (hb0 : ti.bytes ≠ 0)
    (hlen : (Builtin.lenOf Y).run P w = .ok n w) (ho : ∀ w', w'.heap = w.heap → (Builtin.firstCells ti.size sLen (.slice base sLen sCap)).run P w' = .ok olds.toArray w') (hs : ∀ w', w'.heap = w.heap → (Builtin.firstCells ti.size n Y).run P w' = .ok news.toArray w') :
    (Builtin.append_ ts ty #[.slice base sLen sCap, Y]).run P w = .ok (.slice (some ⟨w.heap.size, 0, none⟩) (sLen + n) (grown w (sLen + n) sCap e))
      { w with drawn := w.drawn + 1, heap := w.heap.push (.cells (olds.toArray ++ news.toArray ++ Builtin.zeroCells z.cells (grown w (sLen + n) sCap e - (sLen + n))) e) } := by
  obtain ⟨info, _, g1, g2, g3, _⟩ := hT.ty e ti hti
  have hcap : ¬ (Builtin.nextslicecap (sLen + n) sCap * info.bytes > 2 ^ 48) := by
    have h1 := nextcap_le (need := sLen + n) (old := sCap) (by omega)
    have h2 := Nat.mul_le_mul_right info.bytes h1
    rw [g3] at h2 ⊢
    rw [Nat.mul_assoc] at h2
    omega
  have hbi : info.bytes ≠ 0 := by rw [g3]; exact hb0
  let w1 : World := { w with drawn := w.drawn + 1 }
  have ho1 := ho w1 rfl
  have hs1 := hs w1 rfl
  have hn' : ¬ (sLen + n ≤ sCap) := by omega
  have hq : (Question.appendCap (sLen + n) sCap e).forced = false := rfl
  simp only [Builtin.append_, hts0, hts1, List.getElem?_toArray, List.getElem?_cons_zero, List.getElem?_cons_succ, Sem.run_bind, hT.runUnd ht, hT.runUnd htx, hT.runSize (size_of_ty hti), Result.andThen_ok, Sem.run_pure, Bool.false_eq_true, if_false, hlen, hn',
    false_or, typeInfo, run_program, g1, hbi, and_false, hcap]
  have hch : (choose (Question.appendCap (sLen + n) sCap e)).run P w = .ok (grown w (sLen + n) sCap e) w1 := rfl
  simp only [hch, Result.andThen_ok, run_askRoom, ho1, Bool.not_false, if_true, hs1, hz, newRow, Sem.run_bind, run_newObj, Sem.run_pure]
  rfl

/-- An append that finds room. -/
theorem append_room_run (hT : T.Fits P) {t tx ty e : TypeId} {ts : Array TypeId} (hts0 : ts[0]? = some t) (hts1 : ts[1]? = some tx) {ti : TI} {d : TypeDesc} (ht : T.und t = some (.slice e)) (htx : T.und tx = some d) (hd : ∀ kd, d ≠ .int kd) (hti : T.ty e = some ti)
    {b o sLen sCap n : Nat} {Y : Value} {news : List Value} {w' : World} (hn : sLen + n ≤ sCap)
    (hlen : (Builtin.lenOf Y).run P w = .ok n w) (hs : (Builtin.firstCells ti.size n Y).run P w = .ok news.toArray w) (hst : (storeCells ⟨b, o + sLen * ti.size, none⟩ news).run P w = .ok () w') :
    (Builtin.append_ ts ty #[.slice (some ⟨b, o, none⟩) sLen sCap, Y]).run P w = .ok (.slice (some ⟨b, o, none⟩) (sLen + n) sCap) w' := by
  simp only [Builtin.append_, hts0, hts1, List.getElem?_toArray, List.getElem?_cons_zero, List.getElem?_cons_succ, Sem.run_bind, hT.runUnd ht, hT.runUnd htx, hT.runSize (size_of_ty hti), Result.andThen_ok, Sem.run_pure, Bool.false_eq_true, if_false, hlen, hn, if_true,
    Bool.not_false, hs, Addr.add_mid, hst]

/-- Nothing is appended. -/
theorem append_none_run (hT : T.Fits P) {t tx ty e : TypeId} {ts : Array TypeId} (hts0 : ts[0]? = some t) (hts1 : ts[1]? = some tx) {ti : TI} {d : TypeDesc} (ht : T.und t = some (.slice e)) (htx : T.und tx = some d) (hd : ∀ kd, d ≠ .int kd) (hti : T.ty e = some ti)
    {base : Option Addr} {sLen sCap : Nat} {Y : Value} (hn : sLen ≤ sCap)
    (hlen : (Builtin.lenOf Y).run P w = .ok 0 w) (hs : (Builtin.firstCells ti.size 0 Y).run P w = .ok #[] w) :
    (Builtin.append_ ts ty #[.slice base sLen sCap, Y]).run P w = .ok (.slice base sLen sCap) w := by
  simp only [Builtin.append_, hts0, hts1, List.getElem?_toArray, List.getElem?_cons_zero, List.getElem?_cons_succ, Sem.run_bind, hT.runUnd ht, hT.runUnd htx, hT.runSize (size_of_ty hti), Result.andThen_ok, Sem.run_pure, Bool.false_eq_true, if_false, hlen, Nat.add_zero, hn, if_true,
    Bool.not_false, hs]
  cases base <;> simp only [Sem.run_pure, Result.andThen_ok, storeCells, Sem.run_bind]

end
end Go.Abs
namespace Go.Abs
section
variable {P : Program} {T : Tab} {k : K} {st st' : St} {w : World}

theorem list_olds (hw : WR k st w) {full : Bool} {nl : Option Bool} {xs : List V} {size : Nat} {X : Value} (hx : VR k (.list full nl xs) X) (hs : ∀ v ∈ xs, v.cells.length = size) :
    ∃ base cap olds, X = .slice base xs.length cap ∧ xs.length ≤ cap ∧ (full = true → cap = xs.length) ∧ VRs k (xs.flatMap V.cells) olds ∧ ∀ w', w'.heap = w.heap → (Builtin.firstCells size xs.length (.slice base xs.length cap)).run P w' = .ok olds.toArray w' := by
  obtain ⟨base, cap, rfl, hc, hf, _, _, h3⟩ := vr_base hx
  by_cases hne : xs = []
  · subst hne
    refine ⟨base, cap, [], rfl, hc, hf, .nil, fun w' _ => ?_⟩
    cases base with
    | none => rfl
    | some a => simp only [Builtin.firstCells, List.length_nil, Nat.zero_mul, loadCells_zero]
  · obtain ⟨b, o, s, vs, rfl, hv, hI, hsz⟩ := h3 hne
    have e : s = size := by
      cases xs with
      | nil => exact absurd rfl hne
      | cons x xs => rw [← hs x (by simp), ← hsz x (by simp)]
    subst e
    refine ⟨_, cap, vs, rfl, hc, hf, hv, fun w' hh => ?_⟩
    simp only [Builtin.firstCells]
    exact loadCells_range (fun j v hj => (cell?_congr (w := w) (by rw [hh])).trans (hw.imm _ _ _ (hI j v hj))) (by rw [← hv.length, flat_len _ hsz])

theorem zeroCells_eq (z : Array Value) (n : Nat) : Builtin.zeroCells z n = (Array.range (n * z.size)).map (fun i => z[i % z.size]!) := rfl

theorem all_size {sz : Nat} {l : List V} (h : l.all (fun v => v.cells.length == sz && v.cells.all V.oneCell) = true) : (∀ v ∈ l, v.cells.length = sz) ∧ (l.flatMap V.cells).all V.oneCell = true := by
  induction l with
  | nil => exact ⟨(fun v hv => by cases hv), rfl⟩
  | cons a l ih =>
    simp only [List.all_cons, Bool.and_eq_true, beq_iff_eq] at h
    obtain ⟨h1, h2⟩ := ih h.2
    refine ⟨fun v hv => ?_, by rw [List.flatMap_cons, List.all_append, h.1.2, h2]; rfl⟩
    cases hv with
    | head => exact h.1.1
    | tail _ hv => exact h1 v hv

/-- A vector in a new block: what was there, what is appended, zeros. -/
theorem grow_new (hw : WR k st w) {e : TypeId} {ti : TI} {z : Value} (hzs : z.cells.size = ti.size) {acc : Bool} {xs : List V} {olds news : List Value} (ho : VRs k (xs.flatMap V.cells) (olds ++ news))
    (hs : ∀ v ∈ xs, v.cells.length = ti.size) {cap : Nat} (hc : xs.length ≤ cap) {w' : World}
    (hh : w'.heap = w.heap.push (.cells (olds.toArray ++ news.toArray ++ Builtin.zeroCells z.cells (cap - xs.length)) e)) (he : Env w w' := by first | exact ⟨rfl, rfl, rfl⟩ | assumption) :
    ∃ k', Later k k' st { st with store := st.store ++ [.vec acc xs] } w w' ∧ VR k' (.slice st.store.length ti.size 0 xs.length) (.slice (some ⟨w.heap.size, 0, none⟩) xs.length cap) := by
  have hl : (olds ++ news).length = xs.length * ti.size := by rw [← ho.length, flat_len _ hs]
  refine vec_new hw acc xs ti.size cap _ e (olds ++ news) ho hs ?_ hc (fun j v h => ?_) hh
  · simp only [Array.size_append, List.size_toArray, zeroCells_eq, Array.size_map, Array.size_range, hzs]
    rw [← List.length_append, hl, ← Nat.add_mul]
    congr 1; omega
  · rw [← Array.getElem?_toList]
    simp only [Array.toList_append]
    rw [List.getElem?_append_left (List.getElem?_eq_some_iff.1 h).1]
    exact h

theorem evAppend_sim (hT : T.Fits P) (hw : WR k st w) {t tx ty : TypeId} {ts : Array TypeId} (hts0 : ts[0]? = some t) (hts1 : ts[1]? = some tx) {d : TypeDesc} (htx : T.und tx = some d) (hd : ∀ kd, d ≠ .int kd) {x y : V} {X Y : Value} {spread : Bool} {v : V}
    (hx : VR k x X) (hy : VR k y Y) (h : evAppend T st t spread x y = some (v, st')) :
    ∃ z w' k', (Builtin.append_ ts ty #[X, Y]).run P w = .ok z w' ∧ Later k k' st st' w w' ∧ VR k' v z := by
  unfold evAppend at h
  split at h
  · rename_i e ht
    split at h
    · cases h
    · rename_i ti hti
      split at h
      · cases h
      · rename_i new hnew
        split at h
        · cases h
        · rename_i hc
          simp only [not_or, Bool.not_eq_false] at hc
          obtain ⟨hall, hs0, hb0⟩ := hc
          obtain ⟨hns, hone⟩ := all_size hall
          obtain ⟨ns, hsrc⟩ := src_run (P := P) hw hy hnew hns hs0
          have S := hsrc w rfl
          obtain ⟨z, hz1, hz2⟩ := hT.runZero hti k w
          have hzs : z.cells.size = ti.size := by have := hz2.cells.length; rw [hT.zs e ti hti] at this; simpa using this.symm
          have hzany : ∀ w', (zeroValue e).run P w' = .ok z w' := fun w' => by
            obtain ⟨info, z', g1, _, _, g4, g5, _⟩ := hT.ty e ti hti
            have hzz : z' = z := by
              have : (zeroValue e).run P w = .ok z' w := by simp [zeroValue, typeInfo, g1, g4]
              rw [this] at hz1; cases hz1; rfl
            subst hzz
            simp [zeroValue, typeInfo, g1, g4]
          split at h
          · -- nothing
            rename_i hemp
            have hnil : new = [] := by simpa using hemp
            subst hnil
            have hn0 : ns = [] := List.eq_nil_of_length_eq_zero (by rw [← S.vr.length]; rfl)
            subst hn0
            have key : ∀ base sLen sCap, sLen ≤ sCap → X = .slice base sLen sCap → VR k v X → st' = st → ∃ z w' k', (Builtin.append_ ts ty #[X, Y]).run P w = .ok z w' ∧ Later k k' st st' w w' ∧ VR k' v z := by
              intro base sLen sCap hle hX hv hst
              subst hX; subst hst
              exact ⟨_, w, k, append_none_run hT hts0 hts1 ht htx hd hti hle S.len S.cells, .refl hw, hv⟩
            split at h
            · cases h
              obtain ⟨base, cap, rfl, hc, _⟩ := vr_base hx
              exact key base _ cap hc rfl hx rfl
            · cases h
              cases hx with | slice _ _ _ _ g a hg hgs hl ha =>
              exact key (some a) _ _ (by omega) rfl (.slice _ _ _ _ g a hg hgs hl ha) rfl
            · cases h
          · rename_i hemp
            have hpos : 0 < new.length := by
              cases new with
              | nil => simp at hemp
              | cons a l => simp
            split at h
            · -- a list that is full
              rename_i nl xs
              split at h
              · rename_i hcc
                obtain ⟨hbytes, hxall⟩ := hcc
                cases h
                obtain ⟨hxs, _⟩ := all_size hxall
                obtain ⟨base, cap, olds, rfl, hc, hf, hov, hol⟩ := list_olds (P := P) hw hx hxs
                have hcap := hf rfl
                have hrun := append_grow_run (w := w) hT (ty := ty) hts0 hts1 ht htx hd hti hzany (base := base) (sLen := xs.length) (sCap := cap) (by omega) hbytes hb0 S.len hol fun w' hh => (hsrc w' hh).cells
                obtain ⟨k', h1, h2⟩ := grow_new (acc := !spread) (xs := xs ++ new) (cap := grown w (xs.length + new.length) cap e) hw hzs (by rw [List.flatMap_append]; exact hov.append S.vr)
                  (fun v hv => by rcases List.mem_append.1 hv with h | h; exact hxs v h; exact hns v h) (by rw [List.length_append]; exact grown_ge _ _ _ _)
                  (w' := { w with drawn := w.drawn + 1, heap := w.heap.push (.cells (olds.toArray ++ ns.toArray ++ Builtin.zeroCells z.cells (grown w (xs.length + new.length) cap e - (xs.length + new.length))) e) }) (by rw [List.length_append])
                rw [List.length_append] at h2
                exact ⟨_, _, k', hrun, h1, h2⟩
              · cases h
            · -- a vector
              rename_i r s off len
              cases hx with | slice _ _ _ _ g a hg hgs hl ha =>
              split at h
              · cases h
              · rename_i hlk
                simp only [not_or, Decidable.not_not] at hlk
                obtain ⟨hlk, rfl⟩ := hlk
                have hlk' : st.locked r = false := by simpa using hlk
                split at h
                · rename_i acc es hes
                  obtain ⟨ob, h1, h2⟩ := hw.obj r g hg
                  rw [hes] at h1; cases h1
                  cases h2 with
                  | vec _ _ arr tt vs hh hz hcap hs hv har hI hI' =>
                  have hvl : vs.length = es.length * g.s := by rw [← hv.length, flat_len es hs]
                  have hnl : ns.length = new.length * ti.size := by rw [← S.vr.length, flat_len new hns]
                  have hns1 := oneCell_all S.vr hone
                  split at h
                  · -- at its end
                    rename_i hcc
                    obtain ⟨hend, hbytes⟩ := hcc
                    cases h
                    by_cases hroom : len + new.length ≤ g.cap - off
                    · -- in its place
                      have ha' := ha (by omega)
                      subst ha'
                      have hm1 : (off + len + new.length) * g.s ≤ g.cap * g.s := Nat.mul_le_mul_right _ (by omega)
                      have hm2 : (off + len + new.length) * g.s = off * g.s + len * g.s + new.length * g.s := by rw [Nat.add_mul, Nat.add_mul]
                      have hst := run_storeCells_blk (P := P) w g.b (g.o + off * ti.size + len * ti.size) tt arr ns hh (by rw [hz, hnl, ← hgs]; omega) hns1
                      obtain ⟨a1, a2, a3⟩ := heap_setCells g.b tt ns (g.o + off * ti.size + len * ti.size) w arr hh
                      let g' : G := ⟨g.b, g.o + off * g.s, g.s, g.cap - off⟩
                      let vs' := vs.drop (off * g.s) ++ ns
                      let acc' := acc || es.isEmpty
                      have hvs' : VRs k ((es.drop off ++ new).flatMap V.cells) vs' := by rw [List.flatMap_append, flat_drop _ hs]; exact (hv.drop _).append S.vr
                      have hes2 : es.length * g.s = off * g.s + len * g.s := by rw [← hend, Nat.add_mul]
                      have hvdl : (vs.drop (off * g.s)).length = len * g.s := by rw [List.length_drop, hvl]; omega
                      have hget : ∀ (j : Nat) (u : Value), vs'[j]? = some u → (lays arr (g.o + off * ti.size + len * ti.size) ns)[g.o + off * g.s + j]? = some u := by
                        intro j u hj
                        rcases Nat.lt_or_ge j (len * g.s) with hlt | hge
                        · rw [List.getElem?_append_left (by rw [hvdl]; exact hlt), List.getElem?_drop] at hj
                          rw [lays_out _ _ _ _ (.inl (by rw [← hgs]; omega)), Nat.add_assoc]
                          exact har _ _ hj
                        · rw [List.getElem?_append_right (by rw [hvdl]; exact hge), hvdl] at hj
                          have := lays_in ns arr (g.o + off * ti.size + len * ti.size) (j - len * g.s) u (by rw [hz, hnl, ← hgs]; omega) hj
                          rw [← this]; congr 1; rw [← hgs]; omega
                      let J : Nat → Option Value := fun o => if acc' = true ∧ g.o + off * g.s ≤ o then vs'[o - (g.o + off * g.s)]? else none
                      have hJ : ∀ o u u', k.I g.b o = some u → J o = some u' → u' = u := by
                        intro o u u' hi hj
                        simp only [J] at hj
                        split at hj
                        · rename_i hc'
                          by_cases hin : acc = true ∧ o < g.o + vs.length
                          · have hlt : o - (g.o + off * g.s) < len * g.s := by omega
                            rw [List.getElem?_append_left (by rw [hvdl]; exact hlt), List.getElem?_drop] at hj
                            have := hI hin.1 _ _ hj
                            rw [show g.o + (off * g.s + (o - (g.o + off * g.s))) = o from by omega, hi] at this
                            cases this; rfl
                          · have : k.I g.b o = none := hI' o (by omega) fun e => by
                              rcases Nat.lt_or_ge o (g.o + vs.length) with h | h
                              · exact absurd ⟨e, h⟩ hin
                              · exact h
                            rw [this] at hi; cases hi
                        · cases hj
                      have hcell : ∀ o u, (lays arr (g.o + off * ti.size + len * ti.size) ns)[o]? = some u → (w.setCells g.b (g.o + off * ti.size + len * ti.size) ns).cell? ⟨g.b, o, none⟩ = some u := fun o u h => by rw [cell?_of a1]; exact h
                      refine ⟨_, _, _, append_room_run hT hts0 hts1 ht htx hd hti hroom S.len S.cells hst, Later.grow (he := env_setCells _ _ _ _) (g' := g') hw hg hlk' (by rw [hes]; simp) (.vec acc' (es.drop off ++ new)) rfl J hJ ?_ rfl rfl rfl a2 a3 ?_ ?_, ?_⟩
                      · intro o u hj
                        simp only [J] at hj
                        split at hj
                        · rename_i hc'
                          have := hget _ _ hj
                          rw [show g.o + off * g.s + (o - (g.o + off * g.s)) = o from by omega] at this
                          exact hcell o u this
                        · cases hj
                      · intro o u hi
                        rw [cell?_of a1]
                        simp only [cellOf]
                        have hold := hw.imm _ _ _ hi
                        rw [cell?_of hh] at hold
                        have hlt : o < g.o + off * ti.size + len * ti.size := by
                          rcases Nat.lt_or_ge o (g.o + off * ti.size + len * ti.size) with h | h
                          · exact h
                          · rw [hI' o (by omega) (fun _ => by rw [hvl, hes2, hgs]; omega)] at hi; cases hi
                        rw [lays_out _ _ _ _ (.inl hlt)]
                        exact hold
                      · have hle : k.le ((k.lay g.b J).put st.store.length g') := (lay_le hw hJ).trans
                          ⟨fun r g' h => by simp only [K.put]; rw [if_neg (fun e => by have := hw.lt h; omega)]; exact h, fun _ _ _ h => h⟩
                        refine .vec acc' _ _ tt vs' a1 ?_ ?_ ?_ (hvs'.mono hle) hget ?_ ?_
                        · rw [lays_size, hz]
                          simp only [g']
                          rw [Nat.sub_mul]
                          have : off * g.s ≤ g.cap * g.s := Nat.mul_le_mul_right _ (by omega)
                          omega
                        · simp only [List.length_append, List.length_drop, g']; omega
                        · intro u hu
                          rcases List.mem_append.1 hu with h | h
                          · exact hs u (List.mem_of_mem_drop h)
                          · simp only [g']; rw [hgs]; exact hns u h
                        · intro e j u hj
                          simp only [K.put, K.lay, g', if_true, J]
                          rw [if_pos ⟨e, by omega⟩, show g.o + off * g.s + j - (g.o + off * g.s) = j from by omega, hj]
                        · intro o h3 h4
                          simp only [K.put, K.lay, g', if_true] at h3 h4 ⊢
                          have hvl' : vs'.length = len * g.s + ns.length := by simp only [vs', List.length_append, hvdl]
                          have hj : J o = none := by
                            simp only [J]
                            split
                            · rename_i hc'
                              have := h4 hc'.1
                              exact List.getElem?_eq_none (by omega)
                            · rfl
                          rw [hj]
                          simp only
                          refine hI' o (by omega) fun e => ?_
                          have := h4 (by simp only [acc', e, Bool.true_or])
                          omega
                      · have := VR.slice (k := (k.lay g.b J).put st.store.length g') st.store.length g.s 0 (len + new.length) g' ⟨g.b, g.o + off * g.s, none⟩ (by simp [K.put]) rfl (by simp only [g']; omega) (fun _ => by simp [g'])
                        simpa [g', hgs] using this
                    · -- in a new place
                      obtain ⟨vs1, hv1, hvl1, hr1, _, _⟩ := vec_range hw hg hes off len (by omega)
                      have hdead : Later k k st { st with store := st.store.set r .dead } w w := Later.turn hw hg hlk' (by rw [hes]; simp) .dead rfl rfl rfl rfl (fun _ _ => rfl) (fun o v hi => hw.imm _ _ _ hi) .dead
                      have hw1 := hdead.wr
                      have hlen1 : ((es.drop off).take len) = es.drop off := List.take_of_length_le (by simp; omega)
                      rw [hlen1] at hv1
                      have hol : ∀ w', w'.heap = w.heap → (Builtin.firstCells ti.size len (.slice (some a) len (g.cap - off))).run P w' = .ok vs1.toArray w' := by
                        intro w' hh'
                        simp only [Builtin.firstCells]
                        by_cases h0 : len = 0
                        · subst h0
                          have : vs1 = [] := List.eq_nil_of_length_eq_zero (by rw [hvl1]; simp)
                          subst this
                          simp only [Nat.zero_mul, loadCells_zero]
                        · rw [ha (by omega), ← hgs]
                          exact loadCells_range (fun j v hj => (cell?_congr (w := w) (by rw [hh'])).trans (hr1 j v hj)) hvl1
                      have hrun := append_grow_run (w := w) hT (ty := ty) hts0 hts1 ht htx hd hti hzany (base := some a) (sLen := len) (sCap := g.cap - off) (by omega) hbytes hb0 S.len hol fun w' hh => (hsrc w' hh).cells
                      have hlen2 : (es.drop off ++ new).length = len + new.length := by simp; omega
                      obtain ⟨k', h1, h2⟩ := grow_new (acc := acc || es.isEmpty) (xs := es.drop off ++ new) (cap := grown w (len + new.length) (g.cap - off) e) hw1 hzs (by rw [List.flatMap_append]; exact hv1.append S.vr)
                        (fun v hv => by rcases List.mem_append.1 hv with h | h; exact (hs v (List.mem_of_mem_drop h)).trans hgs; exact hns v h) (by rw [hlen2]; exact grown_ge _ _ _ _)
                        (w' := { w with drawn := w.drawn + 1, heap := w.heap.push (.cells (vs1.toArray ++ ns.toArray ++ Builtin.zeroCells z.cells (grown w (len + new.length) (g.cap - off) e - (len + new.length))) e) }) (by rw [hlen2])
                      rw [hlen2] at h2
                      simp only [List.length_set] at h2
                      exact ⟨_, _, k', hrun, hdead.trans hw h1, h2⟩
                  · split at h
                    · -- over what is there
                      rename_i hcc
                      obtain ⟨rfl, hin⟩ := hcc
                      cases h
                      have ha' := ha (by omega)
                      subst ha'
                      have hm1 : (off + len + new.length) * g.s ≤ es.length * g.s := Nat.mul_le_mul_right _ hin
                      have hm0 : es.length * g.s ≤ g.cap * g.s := Nat.mul_le_mul_right _ hcap
                      have hm2 : (off + len + new.length) * g.s = off * g.s + len * g.s + new.length * g.s := by rw [Nat.add_mul, Nat.add_mul]
                      have hst := run_storeCells_blk (P := P) w g.b (g.o + off * ti.size + len * ti.size) tt arr ns hh (by rw [hz, hnl, ← hgs]; omega) hns1
                      obtain ⟨a1, a2, a3⟩ := heap_setCells g.b tt ns (g.o + off * ti.size + len * ti.size) w arr hh
                      have hvs' : VRs k ((es.take (off + len) ++ new ++ es.drop (off + len + new.length)).flatMap V.cells) (vs.take ((off + len) * g.s) ++ ns ++ vs.drop ((off + len + new.length) * g.s)) := by
                        rw [List.flatMap_append, List.flatMap_append, flat_take _ hs, flat_drop _ hs]
                        exact ((hv.take _).append S.vr).append (hv.drop _)
                      refine ⟨_, _, k, append_room_run hT hts0 hts1 ht htx hd hti (by omega) S.len S.cells hst, Later.turn (he := env_setCells _ _ _ _) hw hg hlk' (by rw [hes]; simp) (.vec false (es.take (off + len) ++ new ++ es.drop (off + len + new.length))) rfl rfl rfl a2 a3 ?_ ?_, ?_⟩
                      · intro o u hi
                        by_cases hlt : g.o ≤ o
                        · rw [hI' o hlt (by intro e; cases e)] at hi; cases hi
                        · rw [cell?_of a1]
                          simp only [cellOf]
                          rw [lays_out _ _ _ _ (.inl (by omega))]
                          have := hw.imm _ _ _ hi
                          rw [cell?_of hh] at this
                          exact this
                      · refine .vec false _ _ tt _ a1 (by rw [lays_size]; exact hz) (by simp; omega) ?_ hvs' ?_ (fun e => by cases e) (fun o' h3 _ => hI' o' h3 (by intro e; cases e))
                        · intro u hu
                          rcases List.mem_append.1 hu with h | h
                          · rcases List.mem_append.1 h with h | h
                            · exact hs u (List.mem_of_mem_take h)
                            · rw [hgs]; exact hns u h
                          · exact hs u (List.mem_of_mem_drop h)
                        · intro j u hj
                          have e1 : (vs.take ((off + len) * g.s)).length = off * g.s + len * g.s := by rw [List.length_take, hvl, Nat.add_mul]; omega
                          rcases Nat.lt_or_ge j (off * g.s + len * g.s) with hj1 | hj1
                          · rw [List.append_assoc, List.getElem?_append_left (by rw [e1]; exact hj1), List.getElem?_take] at hj
                            split at hj
                            · rw [lays_out _ _ _ _ (.inl (by rw [← hgs]; omega))]; exact har j u hj
                            · cases hj
                          · rcases Nat.lt_or_ge j (off * g.s + len * g.s + new.length * g.s) with hj2 | hj2
                            · rw [List.append_assoc, List.getElem?_append_right (by rw [e1]; exact hj1), e1, List.getElem?_append_left (by rw [hnl, ← hgs]; omega)] at hj
                              have := lays_in ns arr (g.o + off * ti.size + len * ti.size) (j - (off * g.s + len * g.s)) u (by rw [hz, hnl, ← hgs]; omega) hj
                              rw [← this]; congr 1; rw [← hgs]; omega
                            · rw [List.getElem?_append_right (by rw [List.length_append, e1, hnl, ← hgs]; omega), List.length_append, e1, hnl, ← hgs, List.getElem?_drop] at hj
                              rw [lays_out _ _ _ _ (.inr (by rw [hnl, ← hgs]; omega))]
                              refine har j u ?_
                              rw [← hj]; congr 1; omega
                      · exact .slice r ti.size off (len + new.length) g _ hg hgs (by omega) (fun _ => rfl)
                    · cases h
                · cases h
            · cases h
  · cases h

end
end Go.Abs
namespace Go.Abs
section
variable {P : Program} {T : Tab} {k : K} {st st' : St} {w : World} {fr : Fr} {a : Act}

theorem appendZeros_sim (hT : T.Fits P) (hw : WR k st w) {t tx ty : TypeId} {ts : Array TypeId} (hts0 : ts[0]? = some t) (hts1 : ts[1]? = some tx) {kd : IntKind} (htx : T.und tx = some (.int kd)) {x y : V} {X Y : Value} {v : V}
    (hx : VR k x X) (hy : VR k y Y) (h : evAppendZeros T st t x y = some (v, st')) :
    ∃ z w' k', (Builtin.append_ ts ty #[X, Y]).run P w = .ok z w' ∧ Later k k' st st' w w' ∧ VR k' v z := by
  unfold evAppendZeros at h
  split at h
  · rename_i e nl n ht
    split at h
    · cases h
    · rename_i ti hti
      split at h
      · rename_i hc
        obtain ⟨hn0, hnb, hn40, hs0, hb0, _⟩ := hc
        cases h
        obtain ⟨base, cap, rfl, _, hf, _⟩ := vr_base hx
        have := hf rfl
        simp only [List.length_nil] at this
        subst this
        cases hy
        obtain ⟨info, z, g1, g2, g3, g4, g5, _⟩ := hT.ty e ti hti
        have hz := ofValue_vr k z _ g5
        have hzs : z.cells.size = ti.size := by have := hz.cells.length; rw [hT.zs e ti hti] at this; simpa using this.symm
        have hwr : IntKind.i64.wrap n = n := by
          unfold IntKind.wrap
          have e1 : IntKind.i64.bits = 64 := rfl
          have e2 : IntKind.i64.signed = true := rfl
          simp only [e1, e2, Bool.true_and, decide_eq_true_eq]
          omega
        have hzero : ∀ w', (zeroValue e).run P w' = .ok z w' := fun w' => by simp [zeroValue, typeInfo, g1, g4]
        have hnl : ¬ (n < 0) := by omega
        have hlarge : ¬ (n * (info.bytes : Int) > 2 ^ 48) := by rw [g3]; omega
        have hN : 0 < n.toNat := by omega
        have hmul : n.toNat * ti.bytes < 2 ^ 40 := by
          have e1 : (n.toNat : Int) = n := Int.toNat_of_nonneg (by omega)
          have : ((n.toNat * ti.bytes : Nat) : Int) < 2 ^ 40 := by rw [Int.natCast_mul, e1]; exact hnb
          exact_mod_cast this
        have hnc : ¬ (Builtin.nextslicecap n.toNat 0 * info.bytes > 2 ^ 48) := by
          have h1 := Nat.mul_le_mul_right info.bytes (nextcap_le (need := n.toNat) (old := 0) (by omega))
          rw [g3] at h1 ⊢
          rw [Nat.mul_assoc] at h1
          omega
        let w1 : World := { w with drawn := w.drawn + 1 }
        let c := grown w n.toNat 0 e
        have hc : n.toNat ≤ c := grown_ge _ _ _ _
        have hw1 : WR k st w1 := hw.heap rfl
        have hvs := zeros_vr hz n.toNat
        have hzl : ∀ m, (Builtin.zeroCells z.cells m).toList = (List.replicate m z.cells.toList).flatten := fun m => zeros_list _ _
        obtain ⟨k', h1, h2⟩ := vec_new (w' := { w1 with heap := w1.heap.push (.cells (#[] ++ Builtin.zeroCells z.cells n.toNat ++ Builtin.zeroCells z.cells (c - n.toNat)) e) }) hw1 false (List.replicate n.toNat ti.zero) ti.size c _ e _ hvs
          (fun x hx => by rw [List.eq_of_mem_replicate hx]; exact hT.zs e ti hti)
          (by simp only [Array.size_append, zeroCells_eq, Array.size_map, Array.size_range, hzs, List.size_toArray, List.length_nil, Nat.zero_add, ← Nat.add_mul]; congr 1; omega) (by simpa using hc)
          (fun j v h => by
            rw [← Array.getElem?_toList]
            simp only [Array.toList_append, List.nil_append, hzl]
            rw [List.getElem?_append_left (List.getElem?_eq_some_iff.1 h).1]; exact h) rfl
        rw [List.length_replicate] at h2
        refine ⟨.slice (some ⟨w.heap.size, 0, none⟩) n.toNat c, _, k', ?_, Later.trans hw (Later.drew (w' := w1) hw rfl) h1, h2⟩
        have hch : (choose (Question.appendCap n.toNat 0 e)).run P w = .ok c w1 := rfl
        have hold : ∀ w' : World, (Builtin.firstCells ti.size 0 (.slice base 0 0)).run P w' = .ok #[] w' := fun w' => by
          cases base with
          | none => rfl
          | some a => simp only [Builtin.firstCells, Nat.zero_mul, loadCells_zero]
        have hn' : ¬ (n.toNat ≤ 0) := by omega
        have h63 : ¬ ((n.toNat : Int) > IntKind.i64.max) := by
          have : IntKind.i64.max = 9223372036854775807 := rfl
          rw [this]; omega
        have hns : ¬ (n.toNat * ti.size = 0) := by
          intro e
          rcases Nat.mul_eq_zero.1 e with h | h
          · omega
          · exact hs0 h
        simp only [Builtin.append_, hts0, hts1, List.getElem?_toArray, List.getElem?_cons_zero, List.getElem?_cons_succ, List.length_nil, Sem.run_bind, hT.runUnd ht, hT.runUnd htx, hT.runSize (size_of_ty hti), Result.andThen_ok, Sem.run_pure, if_true, asInt, run_asIntOf, hwr,
          hnl, if_false, typeInfo, run_program, g1, hlarge, Nat.zero_add, hn', h63, false_and, hnc, hch, run_askRoom, hold, Bool.not_true, Bool.false_eq_true, hns, hzero, newRow, run_newObj]
        rfl
      · cases h
  · cases h

theorem copy_sim (hT : T.Fits P) (hw : WR k st w) {t ty e : TypeId} {ts : Array TypeId} (hts0 : ts[0]? = some t) (ht : T.und t = some (.slice e)) {r s off len : Nat} {y : V} {X Y : Value} {es src : List V}
    (hx : VR k (.slice r s off len) X) (hy : VR k y Y) (hlk : st.locked r = false) (hes : st.store[r]? = some (.vec false es)) (hsrc : srcElems st y = some src) (hse : T.size e = some s) (hs0 : s ≠ 0)
    (hall : src.all (fun v => v.cells.length == s && v.cells.all V.oneCell) = true) (hle : off + len ≤ es.length) :
    ∃ w', (Builtin.copy_ ts ty #[X, Y]).run P w = .ok (.int .i64 (min src.length len : Nat)) w' ∧
      Later k k st { st with store := st.store.set r (.vec false (es.take off ++ src.take len ++ es.drop (off + min src.length len))) } w w' := by
  cases hx with | slice _ _ _ _ g a hg hgs hl ha =>
  subst hgs
  obtain ⟨hns, hone⟩ := all_size hall
  obtain ⟨ns, hS⟩ := src_run (P := P) hw hy hsrc hns hs0
  have S := hS w rfl
  let n := min src.length len
  have hn1 : n ≤ src.length := Nat.min_le_left _ _
  have hn2 : n ≤ len := Nat.min_le_right _ _
  obtain ⟨ob, h1, h2⟩ := hw.obj r g hg
  rw [hes] at h1; cases h1
  cases h2 with
  | vec _ _ arr tt vs hh hz hcap hs hv har hI hI' =>
  have hvl : vs.length = es.length * g.s := by rw [← hv.length, flat_len es hs]
  have hnl : ns.length = src.length * g.s := by rw [← S.vr.length, flat_len src hns]
  let news := ns.take (n * g.s)
  have hnewl : news.length = n * g.s := by rw [List.length_take, hnl]; exact Nat.min_eq_left (Nat.mul_le_mul_right _ hn1)
  have hns1 : ∀ v ∈ news, v.oneCell' = true := fun v hv => oneCell_all S.vr hone v (List.mem_of_mem_take hv)
  have hm1 : (off + n) * g.s ≤ es.length * g.s := Nat.mul_le_mul_right _ (by omega)
  have hm2 : (off + n) * g.s = off * g.s + n * g.s := Nat.add_mul _ _ _
  have hm3 : es.length * g.s ≤ g.cap * g.s := Nat.mul_le_mul_right _ hcap
  have hst := run_storeCells_blk (P := P) w g.b (g.o + off * g.s) tt arr news hh (by rw [hz, hnewl]; omega) hns1
  obtain ⟨a1, a2, a3⟩ := heap_setCells g.b tt news (g.o + off * g.s) w arr hh
  have htake : src.take len = src.take n := by
    rcases Nat.le_total src.length len with h | h
    · rw [List.take_of_length_le h, List.take_of_length_le (by simp only [n]; omega)]
    · simp only [n, Nat.min_eq_right h]
  have hvnew : VRs k ((src.take n).flatMap V.cells) news := by rw [flat_take _ hns]; exact S.vr.take _
  have hvs' : VRs k ((es.take off ++ src.take len ++ es.drop (off + min src.length len)).flatMap V.cells) (vs.take (off * g.s) ++ news ++ vs.drop ((off + n) * g.s)) := by
    rw [htake, List.flatMap_append, List.flatMap_append, flat_take _ hs, flat_drop _ hs]
    exact ((hv.take _).append hvnew).append (hv.drop _)
  refine ⟨w.setCells g.b (g.o + off * g.s) news, ?_, Later.turn (he := env_setCells _ _ _ _) hw hg hlk (by rw [hes]; simp) _ rfl rfl rfl a2 a3 ?_ ?_⟩
  · simp only [Builtin.copy_, hts0, List.getElem?_toArray, List.getElem?_cons_zero, List.getElem?_cons_succ, Sem.run_bind, hT.runUnd ht, hT.runSize hse, Result.andThen_ok, S.len]
    have hfr := S.front n hn1
    have : Nat.min src.length len = n := rfl
    rw [this, hfr]
    simp only [Result.andThen_ok]
    by_cases h0 : n = 0
    · have hnil : news = [] := List.eq_nil_of_length_eq_zero (by rw [hnewl, h0]; simp)
      have e1 : ns.take (n * g.s) = [] := hnil
      rw [e1, hnil]
      simp only [storeCells, Sem.run_pure, Result.andThen_ok, Sem.run_bind, World.setCells, goInt]
      rfl
    · rw [ha (by omega)]
      have e1 : ns.take (n * g.s) = news := rfl
      rw [e1]
      simp only [hst, Result.andThen_ok, Sem.run_bind, Sem.run_pure, goInt]
      rfl
  · intro o u hi
    by_cases hlt : g.o ≤ o
    · rw [hI' o hlt (by intro e; cases e)] at hi; cases hi
    · rw [cell?_of a1]
      simp only [cellOf]
      rw [lays_out _ _ _ _ (.inl (by omega))]
      have := hw.imm _ _ _ hi
      rw [cell?_of hh] at this
      exact this
  · refine .vec false _ _ tt _ a1 (by rw [lays_size]; exact hz) ?_ ?_ hvs' ?_ (fun e => by cases e) (fun o' h3 _ => hI' o' h3 (by intro e; cases e))
    · simp only [List.length_append, List.length_take, List.length_drop]; omega
    · intro u hu
      rcases List.mem_append.1 hu with h | h
      · rcases List.mem_append.1 h with h | h
        · exact hs u (List.mem_of_mem_take h)
        · exact hns u (List.mem_of_mem_take h)
      · exact hs u (List.mem_of_mem_drop h)
    · intro j u hj
      have e1 : (vs.take (off * g.s)).length = off * g.s := by rw [List.length_take, hvl]; omega
      rcases Nat.lt_or_ge j (off * g.s) with hj1 | hj1
      · rw [List.append_assoc, List.getElem?_append_left (by rw [e1]; exact hj1), List.getElem?_take, if_pos hj1] at hj
        rw [lays_out _ _ _ _ (.inl (by omega))]; exact har j u hj
      · rcases Nat.lt_or_ge j (off * g.s + n * g.s) with hj2 | hj2
        · rw [List.append_assoc, List.getElem?_append_right (by rw [e1]; exact hj1), e1, List.getElem?_append_left (by rw [hnewl]; omega)] at hj
          have := lays_in news arr (g.o + off * g.s) (j - off * g.s) u (by rw [hz, hnewl]; omega) hj
          rw [← this]; congr 1; omega
        · rw [List.getElem?_append_right (by rw [List.length_append, e1, hnewl]; omega), List.length_append, e1, hnewl, List.getElem?_drop] at hj
          rw [lays_out _ _ _ _ (.inr (by rw [hnewl]; omega))]
          refine har j u ?_
          rw [← hj]; congr 1; omega

theorem run_val {s : Sem Value} {x : Value} {w w' : World} (h : s.run P w = .ok x w') : (do pure (Next.value (← s)) : Sem Next).run P w = .ok (.value x) w' := by
  simp only [Sem.run_bind, h, Result.andThen_ok, Sem.run_pure]

theorem run_skip {s : Sem Unit} {w w' : World} (h : s.run P w = .ok () w') : (do s; pure Next.skip : Sem Next).run P w = .ok .skip w' := by
  simp only [Sem.run_bind, h, Result.andThen_ok, Sem.run_pure]

/-- What an operation that calls nothing does. -/
def Does (P : Program) (k : K) (st st' : St) (w : World) (s : Sem Next) (v : V) : Prop :=
  ∃ x w' k', (s.run P w = .ok (.value x) w' ∨ (s.run P w = .ok .skip w' ∧ x = undef)) ∧ Later k k' st st' w w' ∧ VR k' v x

theorem Does.congr {s s' : Sem Next} {v : V} (h : s.run P w = s'.run P w) (hd : Does P k st st' w s' v) : Does P k st st' w s v := by
  obtain ⟨x, w', k', h1, h2⟩ := hd
  exact ⟨x, w', k', by rw [h]; exact h1, h2⟩

theorem evMem0_sim (hT : T.Fits P) (hg : GlobOk T k) (hf : FR k fr a) (hw : WR k st w) {o : Oper} {v : V} (h : evMem0 T fr st o.op = some (v, st')) : Does P k st st' w (execOp a.eval o) v := by
  have hparts : ∀ {parts : Array (Nat × Operand)} {vs : List V}, evArgs T fr (parts.toList.map (·.2)) = some vs →
      ((parts.toList.map (·.1)).zip vs).map (·.1) = (parts.map fun (i, x) => (i, a.eval x)).toList.map (·.1) ∧ VRs k (((parts.toList.map (·.1)).zip vs).map (·.2)) ((parts.map fun (i, x) => (i, a.eval x)).toList.map (·.2)) := by
    intro parts vs e
    have hv := evArgs_vr hg hf e
    have hl : vs.length = parts.toList.length := by have := hv.length; simpa using this
    exact ⟨by rw [List.map_fst_zip (by simp [hl])]; simp [Function.comp_def], by rw [List.map_snd_zip (by simp [hl])]; simpa [Function.comp_def] using hv⟩
  unfold execOp
  cases hop : o.op <;> rw [hop] at h <;> simp only [evMem0] at h ⊢ <;> try (cases h; done)
  case load t x =>
    cases e : evArg T fr x with
    | none => rw [e] at h; cases h
    | some ax =>
      rw [e] at h
      simp only [Option.bind_some, Option.map_eq_some_iff, Prod.mk.injEq] at h
      obtain ⟨u, h1, rfl, rfl⟩ := h
      obtain ⟨y, h2, h3⟩ := evLoad_gives hT hw (evArg_vr hg hf e) h1
      exact ⟨y, w, k, .inl (run_val h2), .refl hw, h3⟩
  case store t x y =>
    split at h
    · rename_i ax ay e1 e2
      simp only [Option.map_eq_some_iff, Prod.mk.injEq] at h
      obtain ⟨u, h1, rfl, rfl⟩ := h
      obtain ⟨w', h2, h3⟩ := evStore_sim hT hw (evArg_vr hg hf e1) (evArg_vr hg hf e2) h1
      exact ⟨undef, w', k, .inr ⟨run_skip h2, rfl⟩, h3, vr_undef k⟩
    · cases h
  case alloc t =>
    cases e : T.ty t with
    | none => rw [e] at h; cases h
    | some ti =>
      rw [e] at h
      simp only [Option.bind_some] at h
      split at h
      · cases h
        obtain ⟨x, w', k', h1, h2, h3⟩ := alloc_sim hT hw e
        exact ⟨x, w', k', .inl (run_val h1), h2, h3⟩
      · cases h
  case box t x =>
    cases e : evArg T fr x with
    | none => rw [e] at h; cases h
    | some ax =>
      rw [e] at h
      simp only [Option.bind_some] at h
      split at h
      · cases h
        obtain ⟨y, w', k', h1, h2, h3⟩ := box_run (P := P) (t := t) hw (evArg_vr hg hf e)
        exact ⟨y, w', k', .inl (run_val h1), h2, h3⟩
      · cases h
  case buildSlice t len parts =>
    cases e : evArgs T fr (parts.toList.map (·.2)) with
    | none => rw [e] at h; cases h
    | some vs =>
      rw [e] at h
      simp only [Option.bind_some] at h
      split at h
      · rename_i el ht
        cases hti : T.ty el with
        | none => rw [hti] at h; cases h
        | some ti =>
          rw [hti] at h
          simp only [Option.bind_some] at h
          split at h
          · rename_i hc
            obtain ⟨hc1, hc2, hc3, hc4⟩ := hc
            split at h
            · rename_i xs hxs
              cases h
              obtain ⟨he, hr⟩ := hparts e
              have hsz : ∀ p ∈ (parts.toList.map (·.1)).zip vs, p.2.cells.length = ti.size := fun p hp => by
                have := List.all_eq_true.1 hc3 p.2 (List.of_mem_zip hp).2
                simpa using this
              obtain ⟨x, w', k', h1, h2, h3⟩ := buildSlice_sim hT hw ht hti hc1 hc2 hc4 hsz he hr hxs
              exact ⟨x, w', k', .inl (run_val h1), h2, h3⟩
            · cases h
          · cases h
      · cases h
  case makeMap t r =>
    split at h
    · cases h
      obtain ⟨x, w', k', h1, h2, h3⟩ := makeMap_sim (t := t) (r := none) hT hw (fun x e => by cases e)
      exact ⟨x, w', k', .inl (run_val h1), h2, h3⟩
    · rename_i ka kb x hu
      split at h
      · rename_i kd n e
        cases h
        have hx := evArg_vr hg hf e
        generalize hX : a.eval x = X at hx
        cases hx
        obtain ⟨y, w', k', h1, h2, h3⟩ := makeMap_sim (t := t) (r := some (.int kd n)) hT hw (fun x e => by cases e; exact ⟨⟨_, _, rfl⟩, _, _, hu⟩)
        refine ⟨y, w', k', .inl ?_, h2, h3⟩
        simp only [Option.map_some, hX]
        exact run_val h1
      · cases h
    · cases h
  case makeSlice t l c =>
    split at h
    · rename_i el n m ht e1 e2
      cases hti : T.ty el with
      | none => rw [hti] at h; cases h
      | some ti =>
        rw [hti] at h
        simp only [Option.bind_some] at h
        split at h
        · rename_i hc
          obtain ⟨h0, hnm, hb, hm, hs, _⟩ := hc
          cases h
          have hx := evArg_vr hg hf e1
          have hy := evArg_vr hg hf e2
          generalize a.eval l = X at hx
          generalize a.eval c = Y at hy
          cases hx; cases hy
          obtain ⟨y, w', k', h1, h2, h3⟩ := makeSlice_sim hT hw ht hti h0 hnm hb hm hs (hT.zs _ _ hti)
          exact ⟨y, w', k', .inl (run_val h1), h2, h3⟩
        · cases h
    · cases h
  case convert src dst x =>
    split at h
    · cases h
    · rename_i hs
      split at h
      · rename_i el s hd e
        split at h
        · rename_i he
          split at h
          · rename_i hl
            cases h
            have hx := evArg_vr hg hf e
            generalize a.eval x = X at hx
            cases hx with | str s =>
            obtain ⟨y, w', k', h1, h2, h3⟩ := convBytes_sim (src := src) (s := s) hT hw (by cases hq : (T.und src).isSome with | true => rfl | false => exact absurd hq hs) hd he (by have e : s.data.toList.length = s.size := rfl; omega)
            exact ⟨y, w', k', .inl (run_val h1), h2, h3⟩
          · cases h
        · cases h
      · cases h
  case lookup t m kk ok =>
    split at h
    · rename_i e1 e2
      simp only [Option.map_eq_some_iff, Prod.mk.injEq] at h
      obtain ⟨u, h1, rfl, rfl⟩ := h
      obtain ⟨y, h2, h3⟩ := evLookup_gives hT hw (evArg_vr hg hf e1) (evArg_vr hg hf e2) h1
      exact ⟨y, w, k, .inl (run_val h2), .refl hw, h3⟩
    · cases h
  case mapUpdate t m kk x =>
    split at h
    · rename_i e1 e2 e3
      simp only [Option.map_eq_some_iff, Prod.mk.injEq] at h
      obtain ⟨u, h1, rfl, rfl⟩ := h
      obtain ⟨w', h2, h3⟩ := evMapUpdate_sim hT hw (evArg_vr hg hf e1) (evArg_vr hg hf e2) (evArg_vr hg hf e3) h1
      exact ⟨undef, w', k, .inr ⟨run_skip h2, rfl⟩, h3, vr_undef k⟩
    · cases h
  case insert t m kk x =>
    split at h
    · rename_i e1 e2 e3
      simp only [Option.map_eq_some_iff, Prod.mk.injEq] at h
      obtain ⟨u, h1, rfl, rfl⟩ := h
      obtain ⟨w', h2, h3⟩ := evMapUpdate_sim hT hw (evArg_vr hg hf e1) (evArg_vr hg hf e2) (evArg_vr hg hf e3) h1
      exact ⟨undef, w', k, .inr ⟨run_skip h2, rfl⟩, h3, vr_undef k⟩
    · cases h
  case call c =>
    obtain ⟨callee, args, argTypes⟩ := c
    cases callee with
    | value f => cases h
    | invoke r n => cases h
    | builtin b =>
      have hargs : ∀ vs, evArgs T fr args.toList = some vs → VRs k vs (args.map a.eval).toList := fun vs e => by simpa using evArgs_vr hg hf e
      refine Does.congr (s' := builtin b argTypes o.type (args.map fun | .const _ => true | _ => false) (args.map a.eval)) (by simp only [resolve, Sem.run_bind, Sem.run_pure, Result.andThen_ok, invoke] <;> rfl) ?_
      simp only at h
      split at h
      · -- len of a map
        rename_i r e
        have hv := hargs _ e
        generalize args.map a.eval = As at hv
        obtain ⟨As⟩ := As
        cases hv with | cons hx hs => cases hs with | nil =>
        cases hx with | map _ g hgr =>
        split at h
        · rename_i es hes
          split at h
          · rename_i km vm hu
            cases h
            obtain ⟨ents, clock, hh, he⟩ := map_obj hw hgr hes
            cases hts : argTypes[0]? with
            | none => rw [hts] at hu; cases hu
            | some t =>
              rw [hts] at hu
              refine ⟨.int .i64 es.length, w, k, .inl (run_val ?_), .refl hw, .int _ _⟩
              have hl : ents.size = es.length := by simpa using he.1
              simp only [Builtin.len_, hts, List.getElem?_toArray, List.getElem?_cons_zero, Sem.run_bind, hT.runUnd hu, Result.andThen_ok, run_getObj_map hh, Sem.run_pure, goInt, hl]
          · cases h
        · cases h
      · -- append
        rename_i x y e
        have hv := hargs _ e
        generalize args.map a.eval = As at hv
        obtain ⟨As⟩ := As
        cases hv with | cons hx hs => cases hs with | cons hy hs => cases hs with | nil =>
        cases hts0 : argTypes[0]? with
        | none => rw [hts0] at h; cases h
        | some t =>
        cases hts1 : argTypes[1]? with
        | none => rw [hts0, hts1] at h; cases h
        | some tx =>
          rw [hts0, hts1] at h
          simp only [Option.bind_some] at h
          split at h
          · rename_i el hu hb
            cases hu
            obtain ⟨z, w', k', h1, h2, h3⟩ := evAppend_sim (ty := o.type) hT hw hts0 hts1 hb (fun kd e => by cases e) hx hy h
            exact ⟨z, w', k', .inl (run_val h1), h2, h3⟩
          · rename_i hu hb
            cases hu
            obtain ⟨z, w', k', h1, h2, h3⟩ := evAppend_sim (ty := o.type) hT hw hts0 hts1 hb (fun kd e => by cases e) hx hy h
            exact ⟨z, w', k', .inl (run_val h1), h2, h3⟩
          · rename_i kd hu hb
            cases hu
            obtain ⟨z, w', k', h1, h2, h3⟩ := appendZeros_sim (ty := o.type) hT hw hts0 hts1 hb hx hy h
            exact ⟨z, w', k', .inl (run_val h1), h2, h3⟩
          · cases h
      · -- copy
        rename_i r s off len y e
        have hv := hargs _ e
        generalize args.map a.eval = As at hv
        obtain ⟨As⟩ := As
        cases hv with | cons hx hs => cases hs with | cons hy hs => cases hs with | nil =>
        split at h
        · cases h
        · rename_i hlk
          split at h
          · rename_i el es src hu hes hsrc
            split at h
            · rename_i hc
              obtain ⟨hse, hs0, hall, hle⟩ := hc
              cases h
              cases hts0 : argTypes[0]? with
              | none => rw [hts0] at hu; cases hu
              | some t =>
                rw [hts0] at hu
                obtain ⟨w', h1, h2⟩ := copy_sim (ty := o.type) hT hw hts0 hu hx hy (by simpa using hlk) hes hsrc hse hs0 hall hle
                exact ⟨_, w', k, .inl (run_val h1), h2, .int _ _⟩
            · cases h
          · cases h
      · cases h

end
end Go.Abs
