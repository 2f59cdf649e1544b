/- What is made late: an object that the evaluator made before the model did. What an operation of the evaluator looks at. Plans, traces of a region that draws its order, frames. Regions that draw their order: the invariant. Regions that draw their order: a step. Regions that draw their order: the whole. The evaluator is sound. More fuel, the same answer. The table of a program. -/
import Derived.Test.YtgknieohkniojaaDoorFwC
import Derived.Test.YtgknieohkniojaaDoorFwD
set_option linter.unusedVariables false
set_option linter.unusedSimpArgs false
set_option linter.unnecessarySimpa false
set_option linter.all false
namespace Go.Abs
section
variable {P : Program} {T : Tab} {k : K} {st st' : St} {w : World} {fr : Fr} {a : Act}

theorem put_le {r : Nat} {g : G} (hr : k.ρ r = none) : k.le (k.put r g) :=
  ⟨fun x g' h => by simp only [K.put]; rw [if_neg (fun e => by subst e; rw [hr] at h; cases h)]; exact h, fun _ _ _ h => h⟩

theorem Later.late {k0 : K} {st0 : St} {w0 w' : World} (hl : Later k0 k st0 st w0 w) {r : Nat} {g : G} {ob : Obj} {o : O} (hr : k.ρ r = none) (hge : st0.store.length ≤ r) (hs : st.store[r]? = some o)
    (hg : g.b = w.heap.size) (hh : w'.heap = w.heap.push ob) (ho : OR (k.put r g) g (some ob) o) (he : Env w w') : Later k0 (k.put r g) st0 st w0 w' := by
  obtain ⟨X, h⟩ := hl
  have hw := h.wr
  have hold : ∀ b, b < w.heap.size → w'.heap[b]? = w.heap[b]? := fun b hb => by rw [hh]; simp [Array.getElem?_push, Nat.ne_of_lt hb]
  refine ⟨X, h.le.trans (put_le hr), ⟨?_, ?_, ?_, ?_⟩, by rw [hh]; have := h.size; simp; omega, h.len, h.base, h.prot, h.lock, h.same, ?_, ?_, h.newI, he.1.trans h.env.1, he.2.1.trans h.env.2.1, he.2.2.trans h.env.2.2⟩
  · intro b o v hi
    rw [cell?_congr (hold b (hw.immLt hi))]; exact hw.imm b o v hi
  · intro x g' hx
    simp only [K.put] at hx
    split at hx
    · rename_i e; subst e; cases hx
      exact ⟨o, hs, by rw [hg, hh]; simpa using ho⟩
    · obtain ⟨o', h1, h2⟩ := hw.obj x g' hx
      refine ⟨o', h1, ?_⟩
      rw [hold _ (hw.bound x g' hx)]
      exact h2.mono (put_le hr) fun _ h => h
  · intro x g' hx
    simp only [K.put] at hx
    rw [hh]; simp only [Array.size_push]
    split at hx
    · cases hx; omega
    · have := hw.bound x g' hx; omega
  · intro x x' g1 g2 h1 h2 he hd hd'
    simp only [K.put] at h1 h2
    split at h1
    · rename_i e1
      cases h1
      split at h2
      · rename_i e2; exact e1.trans e2.symm
      · have := hw.bound x' g2 h2; omega
    · split at h2
      · cases h2; have := hw.bound x g1 h1; omega
      · exact hw.apart x x' g1 g2 h1 h2 he hd hd'
  · intro b hb hx
    rw [hold b (Nat.lt_of_lt_of_le hb h.size)]; exact h.frame b hb hx
  · intro x g' h1 h2
    simp only [K.put] at h2
    split at h2
    · rename_i e; cases h2; subst e
      exact ⟨hge, .inl (by have := h.size; omega)⟩
    · exact h.newρ x g' h1 h2

/-- An object is made. -/
def Made (P : Program) (k : K) (w : World) (s : Sem Next) (o : O) (mk : Nat → V) : Prop :=
  ∃ x w' ob g, s.run P w = .ok (.value x) w' ∧ Env w w' ∧ w'.heap = w.heap.push ob ∧ g.b = w.heap.size ∧ (∀ r, k.ρ r = none → OR (k.put r g) g (some ob) o) ∧ ∀ (k' : K) (r : Nat), k'.ρ r = some g → VR k' (mk r) x

theorem box_made {st : St} (hw : WR k st w) {v : V} {x : Value} (hv : VR k v x) (t : TypeId) {s : Sem Next} (hs : s.run P w = .ok (.value (.pointer (some ⟨w.heap.size, 0, none⟩))) { w with heap := w.heap.push (.cells x.cells t) }) :
    Made P k w s (.box v.cells) (fun r => .ptr r 0) := by
  refine ⟨_, _, .cells x.cells t, ⟨w.heap.size, 0, 0, 0⟩, hs, ⟨rfl, rfl, rfl⟩, rfl, rfl, fun r hr => ?_, fun k' r hr => .ptr r 0 _ hr⟩
  exact .box _ x.cells.toList t (by simp) (hv.cells.mono (put_le hr)) rfl fun o => imm_new hw o

theorem evMake_sim {stc : St} (hT : T.Fits P) (hg : GlobOk T k) (hf : FR k fr a) (hw : WR k stc w) {o : Oper} (hk : kdOf o = .make) {v : V} (h : evMem0 T fr st o.op = some (v, st')) :
    ∃ ob mk, v = mk st.store.length ∧ st' = (st.new ob).1 ∧ Made P k w (execOp a.eval o) ob mk := by
  unfold kdOf at hk
  split at hk
  · cases hk
  unfold execOp
  cases hop : o.op <;> rw [hop] at h <;> simp only [evMem0] at h ⊢ <;> try (cases h; done)
  case alloc t =>
    cases e : T.ty t with
    | none => rw [e] at h; cases h
    | some ti =>
      rw [e] at h
      simp only [Option.bind_some] at h
      split at h
      · cases h
        obtain ⟨z, h1, h2⟩ := hT.runZero e k w
        exact ⟨_, fun r => .ptr r 0, rfl, rfl, box_made hw h2 t (run_val (by simp only [Instr.alloc, Sem.run_bind, h1, Result.andThen_ok, newVar, newRow, run_newObj, Sem.run_pure]))⟩
      · cases h
  case box t x =>
    cases e : evArg T fr x with
    | none => rw [e] at h; cases h
    | some ax =>
      rw [e] at h
      simp only [Option.bind_some] at h
      split at h
      · cases h
        exact ⟨_, fun r => .ptr r 0, rfl, rfl, box_made hw (evArg_vr hg hf e) t (run_val (by simp only [Instr.box, Sem.run_bind, Result.andThen_ok, newVar, newRow, run_newObj, Sem.run_pure]))⟩
      · cases h
  case makeMap t r =>
    have key : ∀ {r : Option Value}, (∀ x, r = some x → (∃ kd n, x = .int kd n) ∧ ∃ a b, T.und t = some (.map a b)) → Made P k w (do pure (Next.value (← Instr.makeMap t r))) (.map []) (fun r => .map r) := by
      intro r hr
      refine ⟨.map (some w.heap.size), { w with heap := w.heap.push (.map #[] 0) }, .map #[] 0, ⟨w.heap.size, 0, 0, 0⟩, run_val ?_, ⟨rfl, rfl, rfl⟩, rfl, rfl, fun r hr => ?_, fun k' r hr => .map r _ hr⟩
      · cases r with
        | none => rfl
        | some x =>
          obtain ⟨⟨kd, n, rfl⟩, a, b, hu⟩ := hr x rfl
          simp only [Instr.makeMap, Sem.run_bind, hT.runUnd hu, Result.andThen_ok, asInt, run_asIntOf, Sem.run_pure, run_newObj]
      · exact .map [] #[] 0 rfl rfl fun i x e h => by simp at h
    split at h
    · cases h
      exact ⟨_, fun r => .map r, rfl, rfl, key (fun x e => by cases e)⟩
    · rename_i ka kb x hu
      split at h
      · rename_i kd n e
        cases h
        have hx := evArg_vr hg hf e
        generalize hX : a.eval x = X at hx
        cases hx
        refine ⟨_, fun r => .map r, rfl, rfl, ?_⟩
        simp only [Option.map_some, hX]
        exact key (fun x e => by cases e; exact ⟨⟨_, _, rfl⟩, _, _, hu⟩)
      · cases h
    · cases h
  case makeSlice t l c =>
    split at h
    · rename_i el n m ht e1 e2
      cases hti : T.ty el with
      | none => rw [hti] at h; cases h
      | some ti =>
        rw [hti] at h
        simp only [Option.bind_some] at h
        split at h
        · rename_i hc
          obtain ⟨h0, hnm, hb, hm, hs, _⟩ := hc
          cases h
          have hx := evArg_vr hg hf e1
          have hy := evArg_vr hg hf e2
          generalize a.eval l = X at hx
          generalize a.eval c = Y at hy
          cases hx; cases hy
          obtain ⟨z, hz1, hz2⟩ := hT.runZero hti k w
          have hzs := hT.zs _ _ hti
          have hzl : z.cells.size = ti.size := by have := hz2.cells.length; simp at this; omega
          have hvs := zeros_vr hz2 n.toNat
          have harr : ((Array.range (m.toNat * ti.size)).map (fun i => z.cells[i % z.cells.size]!)).toList = (List.replicate m.toNat z.cells.toList).flatten := by rw [← hzl]; exact zeros_list _ _
          refine ⟨_, fun r => .slice r ti.size 0 n.toNat, rfl, rfl, _, _, _, ⟨w.heap.size, 0, ti.size, m.toNat⟩, run_val (makeSlice_run hT ht hti h0 hnm hb hm hs hz1), ⟨rfl, rfl, rfl⟩, rfl, rfl, fun r hr => ?_, fun k' r hr => ?_⟩
          · refine .vec false _ _ _ _ rfl (by simp) (by simp; omega) (fun x hx => by rw [List.eq_of_mem_replicate hx]; exact hzs) (hvs.mono (put_le hr)) (fun j v h => ?_) (fun e => by cases e) fun o _ _ => imm_new hw o
            rw [Nat.zero_add, ← Array.getElem?_toList, harr]
            have e : m.toNat = n.toNat + (m.toNat - n.toNat) := by omega
            rw [e, ← List.replicate_append_replicate, List.flatten_append, List.getElem?_append_left (List.getElem?_eq_some_iff.1 h).1]
            exact h
          · have := VR.slice (k := k') r ti.size 0 n.toNat ⟨w.heap.size, 0, ti.size, m.toNat⟩ ⟨w.heap.size, 0, none⟩ hr rfl (by simp; omega) (fun _ => by simp)
            simpa using this
        · cases h
    · cases h
  all_goals (rw [hop] at hk; first | (simp at hk; done) | (split at hk <;> first | (cases hk; done) | (simp_all; done)))

end
end Go.Abs
namespace Go.Abs
section
variable {T : Tab} {S : S} {fr fr' : Fr} {st st' st1 : St} {ops : Array Oper}

/-- Frames alike at what is looked at. -/
def Like (op : Op) (fr fr' : Fr) : Prop := ∀ x ∈ op.operands, evArg T fr' x = evArg T fr x

theorem evArgs_congr {xs : List Operand} (h : ∀ x ∈ xs, evArg T fr' x = evArg T fr x) : evArgs T fr' xs = evArgs T fr xs := by
  induction xs with
  | nil => rfl
  | cons x xs ih => simp only [evArgs, h x (by simp), ih fun y hy => h y (by simp [hy])]

theorem optArg_congr {x : Option Operand} (h : ∀ y, x = some y → evArg T fr' y = evArg T fr y) : optArg T fr' x = optArg T fr x := by
  cases x with
  | none => rfl
  | some y => simp only [optArg, h y rfl]

theorem evPure_congr {op : Op} (h : ∀ x ∈ op.operands, evArg T fr' x = evArg T fr x) : evPure T fr' op = evPure T fr op := by
  cases op <;> simp only [Op.operands] at h <;> simp only [evPure]
  case build t ps => rw [evArgs_congr fun x hx => h x (by simpa using hx)]
  case makeFunc fn first captured => rw [evArgs_congr (xs := first.toList) fun x hx => h x (by simp at hx; simp [hx]), evArgs_congr (xs := captured.toList) fun x hx => h x (by simp at hx; simp [hx])]
  case slice t x lo hi mx => rw [h x (by simp), optArg_congr (x := lo) fun y e => h y (by simp [e]), optArg_congr (x := hi) fun y e => h y (by simp [e]), optArg_congr (x := mx) fun y e => h y (by simp [e])]
  case call c =>
    obtain ⟨callee, args, argTypes⟩ := c
    cases callee with
    | builtin b => simp only; rw [evArgs_congr fun x hx => h x (by simp only [Call.operands]; simp at hx; simp [hx])]
    | value f => rfl
    | invoke r m => rfl
  all_goals (first | rfl | (simp_all; done))

theorem evMem0_congr {op : Op} (h : ∀ x ∈ op.operands, evArg T fr' x = evArg T fr x) : evMem0 T fr' st op = evMem0 T fr st op := by
  cases op <;> simp only [Op.operands] at h <;> simp only [evMem0]
  case buildSlice t n ps => rw [evArgs_congr fun x hx => h x (by simpa using hx)]
  case call c =>
    obtain ⟨callee, args, argTypes⟩ := c
    cases callee with
    | builtin b => simp only; rw [evArgs_congr fun x hx => h x (by simp only [Call.operands]; simp at hx; simp [hx])]
    | value f => rfl
    | invoke r m => rfl
  case makeMap t r =>
    cases r with
    | none => cases T.und t with
      | none => rfl
      | some d => cases d <;> rfl
    | some x => cases T.und t with
      | none => rfl
      | some d => cases d <;> first | rfl | simp only [h x (by simp)]
  all_goals (first | rfl | (simp_all; done))

theorem evMem_congr {op : Op} (h : ∀ x ∈ op.operands, evArg T fr' x = evArg T fr x) : evMem T S fr' st op = evMem T S fr st op := by
  unfold evMem
  split
  · rename_i f args _
    rw [h f (by simp [Op.operands, Call.operands]), evArgs_congr fun x hx => h x (by simp only [Op.operands, Call.operands]; simp at hx; simp [hx])]
  · exact evMem0_congr h

/-- Frames alike at some temporaries. -/
def Alike (ts : List Tmp) (fr fr' : Fr) : Prop := ∀ t ∈ ts, fr'.tmps[t]? = fr.tmps[t]?

theorem Alike.arg {o : Oper} (h : Alike (o.looksAt ops) fr fr') : ∀ x ∈ o.op.operands, evArg T fr' x = evArg T fr x := by
  intro x hx
  cases x with
  | tmp t =>
    have := h t (List.mem_append_left _ (List.mem_filterMap.2 ⟨.tmp t, by simpa using hx, rfl⟩))
    simp only [evArg, List.getD_eq_getElem?_getD, this]
  | _ => rfl

theorem Alike.wanted {o : Oper} (h : Alike (o.looksAt ops) fr fr') : Region.wanted o (evYielded ops fr') = Region.wanted o (evYielded ops fr) := by
  unfold Region.wanted
  cases hg : o.guard with
  | none => rfl
  | some gw =>
    obtain ⟨g, want⟩ := gw
    have hy : evYielded ops fr' g = evYielded ops fr g := by
      unfold evYielded
      cases ht : (ops[g]?).bind (·.dst) with
      | none => rfl
      | some t =>
        have := h t (by simp [Oper.looksAt, hg, ht])
        simp only [Option.bind_some, this]
    simp only [hy]

/-- What an operation says, and of what that hangs. -/
def OpSays (T : Tab) (S : Go.Abs.S) (ops : Array Oper) (o : Oper) (fr : Fr) (st : St) (v : V) (st1 : St) : Prop :=
  (st1 = st ∧ ∀ fr' st', Alike (o.looksAt ops) fr fr' → evOp T S ops o fr' st' = some (fr'.put o.dst v, st')) ∨
  ((isPure o.op = false ∧ evMem T S fr st o.op = some (v, st1) ∧ ∀ fr' st' st2, Alike (o.looksAt ops) fr fr' → evMem T S fr st' o.op = some (v, st2) → evOp T S ops o fr' st' = some (fr'.put o.dst v, st2)) ∧
    ∀ fr', Alike (o.looksAt ops) fr fr' → Region.wanted o (evYielded ops fr') = true ∧ evPure T fr' o.op = none)

theorem evOp_cases {o : Oper} {fr1 : Fr} (h : evOp T S ops o fr st = some (fr1, st1)) : ∃ v, fr1 = fr.put o.dst v ∧ OpSays T S ops o fr st v st1 := by
  unfold evOp at h
  split at h
  · rename_i hw
    split at h
    · rename_i v hv
      cases h
      refine ⟨v, rfl, .inl ⟨rfl, fun fr' st' hl => ?_⟩⟩
      unfold evOp
      rw [if_pos (by rw [hl.wanted]; exact hw), evPure_congr hl.arg, hv]
    · rename_i hv
      split at h
      · cases h
      · rename_i hp
        simp only [Option.map_eq_some_iff] at h
        obtain ⟨⟨v, st2⟩, h1, h2⟩ := h
        simp only [Prod.mk.injEq] at h2
        obtain ⟨rfl, rfl⟩ := h2
        refine ⟨v, rfl, .inr ⟨⟨by simpa using hp, h1, fun fr' st' st2 hl h3 => ?_⟩, fun fr' hl => ⟨by rw [hl.wanted]; exact hw, by rw [evPure_congr hl.arg]; exact hv⟩⟩⟩
        unfold evOp
        rw [if_pos (by rw [hl.wanted]; exact hw), evPure_congr hl.arg, hv, if_neg hp, evMem_congr hl.arg, h3]
        rfl
  · rename_i hw
    cases h
    refine ⟨_, rfl, .inl ⟨rfl, fun fr' st' hl => ?_⟩⟩
    unfold evOp
    rw [if_neg (by rw [hl.wanted]; exact hw)]

theorem evMem_of_kd {o : Oper} (h : kdOf o ≠ .any) : evMem T S fr st o.op = evMem0 T fr st o.op := by
  unfold evMem
  split
  · rename_i f args argTypes heq
    exfalso
    apply h
    unfold kdOf
    rw [heq]
    simp [isPure]
  · rfl

theorem readCells_congr {a : V} {n : Nat} {cs : List V} {st2 : St} (h : readCells st a n = some cs) (hR : ∀ r, (∃ o, a = .ptr r o) ∨ (∃ i o, a = .eptr r i o) → ∀ ob, st.store[r]? = some ob → st2.store[r]? = some ob) : readCells st2 a n = some cs := by
  unfold readCells at h ⊢
  split at h
  · rename_i r off
    split at h
    · rename_i hs
      rw [hR r (.inl ⟨_, rfl⟩) _ hs]; exact h
    · cases h
  · rename_i r i off
    split at h
    · rename_i hs
      rw [hR r (.inr ⟨_, _, rfl⟩) _ hs]; exact h
    · cases h
  · exact h
  · cases h

theorem evLoad_congr {t : TypeId} {a v : V} {st2 : St} (h : evLoad T st t a = some v) (hR : ∀ r, (∃ o, a = .ptr r o) ∨ (∃ i o, a = .eptr r i o) → ∀ ob, st.store[r]? = some ob → st2.store[r]? = some ob) : evLoad T st2 t a = some v := by
  unfold evLoad at h ⊢
  split at h
  · cases h
  · split at h
    · rename_i ha
      simp only [Option.map_eq_some_iff] at h
      obtain ⟨cs, h1, rfl⟩ := h
      simp only [if_pos ha, readCells_congr h1 hR, Option.map_some]
    · rename_i ha
      split at h
      · rename_i u h1
        simp only [if_neg ha, readCells_congr h1 hR]; exact h
      · cases h

theorem evLookup_congr {t : TypeId} {m key v : V} {ok : Bool} {st2 : St} (h : evLookup T st t m key ok = some v) (hR : ∀ r, m = .map r → ∀ ob, st.store[r]? = some ob → st2.store[r]? = some ob) : evLookup T st2 t m key ok = some v := by
  unfold evLookup at h ⊢
  split at h
  · split at h
    · rename_i hk
      rw [if_pos hk]
      split at h
      · cases h
      · simp only at h ⊢
        split at h
        · exact h
        · rename_i r
          split at h
          · rename_i es hs
            simp only [hR r rfl _ hs]; exact h
          · cases h
        · cases h
    · cases h
  · cases h

theorem evMake_store {o : Oper} (hk : kdOf o = .make) {v : V} (h : evMem0 T fr st o.op = some (v, st1)) : ∃ ob, st1 = (st.new ob).1 := by
  unfold kdOf at hk
  split at hk
  · cases hk
  cases hop : o.op <;> rw [hop] at h hk <;> simp only [evMem0] at h <;> try (cases h; done)
  case alloc t =>
    cases e : T.ty t with
    | none => rw [e] at h; cases h
    | some ti =>
      rw [e] at h
      simp only [Option.bind_some] at h
      split at h
      · cases h; exact ⟨_, rfl⟩
      · cases h
  case box t x =>
    cases e : evArg T fr x with
    | none => rw [e] at h; cases h
    | some ax =>
      rw [e] at h
      simp only [Option.bind_some] at h
      split at h
      · cases h; exact ⟨_, rfl⟩
      · cases h
  case makeMap t r =>
    split at h
    · cases h; exact ⟨_, rfl⟩
    · split at h
      · cases h; exact ⟨_, rfl⟩
      · cases h
    · cases h
  case makeSlice t l c =>
    split at h
    · rename_i el n m ht e1 e2
      cases hti : T.ty el with
      | none => rw [hti] at h; cases h
      | some ti =>
        rw [hti] at h
        simp only [Option.bind_some] at h
        split at h
        · cases h; exact ⟨_, rfl⟩
        · cases h
    · cases h
  all_goals (first | (simp at hk; done) | (split at hk <;> first | (cases hk; done) | (simp_all; done)))

/-- What a read says hangs on what it looks at alone. -/
theorem evRead_congr {o : Oper} (hk : kdOf o = .read) {v : V} (h : evMem0 T fr st o.op = some (v, st1)) {st2 : St} (hR : ∀ r ∈ readsOf T fr o.op, ∀ ob, st.store[r]? = some ob → st2.store[r]? = some ob) :
    st1 = st ∧ evMem0 T fr st2 o.op = some (v, st2) := by
  unfold kdOf at hk
  split at hk
  · cases hk
  cases hop : o.op <;> rw [hop] at hk h hR <;> try (simp at hk; done)
  case buildSlice t len parts =>
    simp only [evMem0] at h ⊢
    cases e : evArgs T fr (parts.toList.map (·.2)) with
    | none => rw [e] at h; cases h
    | some vs =>
      rw [e] at h
      simp only [Option.bind_some] at h ⊢
      split at h
      · rename_i el ht
        cases hti : T.ty el with
        | none => rw [hti] at h; cases h
        | some ti =>
          rw [hti] at h
          simp only [Option.bind_some] at h ⊢
          split at h
          · rename_i hc
            rw [if_pos hc]
            split at h
            · rename_i xs hxs
              cases h
              exact ⟨rfl, by simp only⟩
            · cases h
          · cases h
      · cases h
  case load t x =>
    simp only [evMem0, readsOf] at h hR ⊢
    cases e : evArg T fr x with
    | none => rw [e] at h; cases h
    | some a =>
      rw [e] at h hR
      simp only [Option.bind_some, Option.map_eq_some_iff, Prod.mk.injEq] at h ⊢
      obtain ⟨u, h1, rfl, rfl⟩ := h
      refine ⟨rfl, u, evLoad_congr h1 fun r hr => hR r ?_, by simp⟩
      rcases hr with ⟨o, rfl⟩ | ⟨i, o, rfl⟩ <;> simp
  case convert src dst x =>
    simp only [evMem0] at h ⊢
    split at h
    · cases h
    · rename_i hs
      rw [if_neg hs]
      split at h
      · split at h
        · split at h
          · rename_i hl
            cases h
            exact ⟨rfl, by simp only [if_pos hl]⟩
          · cases h
        · cases h
      · cases h
  case lookup t m key ok =>
    simp only [evMem0, readsOf] at h hR ⊢
    split at h
    · rename_i am ak e1 e2
      rw [e1] at hR
      simp only [Option.map_eq_some_iff, Prod.mk.injEq] at h ⊢
      obtain ⟨u, h1, rfl, rfl⟩ := h
      refine ⟨rfl, u, evLookup_congr h1 fun r hr => hR r ?_, by simp⟩
      subst hr; simp
    · cases h
  case call c =>
    obtain ⟨callee, args, argTypes⟩ := c
    cases callee with
    | value f => simp at hk
    | invoke r m => simp at hk
    | builtin b =>
      cases b <;> try (simp at hk; done)
      simp only [evMem0, readsOf] at h hR ⊢
      split at h
      · rename_i r _ e
        have e0 : args.toList.head?.bind (evArg T fr) = some (.map r) := by
          cases hl : args.toList with
          | nil => rw [hl] at e; simp [evArgs] at e
          | cons y ys =>
            rw [hl] at e
            simp only [evArgs] at e
            cases e1 : evArg T fr y with
            | none => rw [e1] at e; cases e
            | some q =>
              rw [e1] at e
              simp only at e
              cases e2 : evArgs T fr ys with
              | none => rw [e2] at e; cases e
              | some qs => rw [e2] at e; cases e; simp [e1]
        rw [e0] at hR
        split at h
        · rename_i es hs
          rw [hR r (by simp) _ hs]
          split at h
          · cases h; exact ⟨rfl, by simp only⟩
          · cases h
        · cases h
      all_goals simp_all

theorem alike_refl (ts : List Tmp) (fr : Fr) : Alike ts fr fr := fun _ _ => rfl

/-- What is not of the kind 'any' changes nothing that was. -/
theorem OpSays.soft {o : Oper} (hk : kdOf o ≠ .any) {v : V} (h : OpSays T S ops o fr st v st1) : st1 = st ∨ (kdOf o = .make ∧ ∃ ob, st1 = (st.new ob).1) := by
  rcases h with h | ⟨⟨hp, hm, _⟩, _⟩
  · exact .inl h.1
  · rw [evMem_of_kd hk] at hm
    cases hkd : kdOf o with
    | any => exact absurd hkd hk
    | pure =>
      unfold kdOf at hkd
      rw [if_neg (by simp [hp])] at hkd
      split at hkd <;> cases hkd
    | read => exact .inl (evRead_congr hkd hm (st2 := st) fun _ _ _ h => h).1
    | make => exact .inr ⟨rfl, evMake_store hkd hm⟩

end
end Go.Abs
namespace Go.Abs
section
variable {T : Tab} {S : S} {fr fr' : Fr} {st st' st1 : St} {ops : Array Oper}

/-- A plan holds. -/
structure PlanOk (ops : Array Oper) (xs : List Ent) : Prop where
  size : xs.length = ops.size
  all : ∀ i, i < ops.size → ∃ x ∈ xs, x.i = i
  ent : ∀ l x r, xs = l ++ x :: r → ops[x.i]? = some x.o ∧ ∃ past, (∀ p, p ∈ past ↔ p ∈ l) ∧ x = entOf past x.i x.o ∧ entOk ops past x = true

theorem mkPlan_ok : ∀ (is : List Nat) (past : List Ent) (xs : List Ent), mkPlan ops is past = some xs →
    ∃ new, xs = past.reverse ++ new ∧ xs.length = ops.size ∧ (∀ i, i < ops.size → ∃ x ∈ xs, x.i = i) ∧
      ∀ l x r, new = l ++ x :: r → ops[x.i]? = some x.o ∧ x = entOf (l.reverse ++ past) x.i x.o ∧ entOk ops (l.reverse ++ past) x = true
  | [], past, xs, h => by
    simp only [mkPlan] at h
    split at h
    · rename_i hc
      cases h
      refine ⟨[], by simp, by simpa using hc.1, fun i hi => ?_, fun l x r e => by simp at e⟩
      have := List.all_eq_true.1 hc.2 i (by simpa using hi)
      simp only [List.any_eq_true, beq_iff_eq] at this
      obtain ⟨x, h1, h2⟩ := this
      exact ⟨x, by simpa using h1, h2⟩
    · cases h
  | i :: is, past, xs, h => by
    simp only [mkPlan] at h
    split at h
    · cases h
    · rename_i o ho
      split at h
      · rename_i hok
        obtain ⟨new, h1, h2, h3, h4⟩ := mkPlan_ok is _ _ h
        refine ⟨entOf past i o :: new, by rw [h1]; simp, h2, h3, fun l x r e => ?_⟩
        cases l with
        | nil =>
          simp only [List.nil_append, List.cons.injEq] at e
          obtain ⟨rfl, _⟩ := e
          exact ⟨ho, rfl, by simpa using hok⟩
        | cons y l =>
          simp only [List.cons_append, List.cons.injEq] at e
          obtain ⟨rfl, e⟩ := e
          have := h4 l x r e
          simpa using this
      · cases h

theorem planOf_ok {xs : List Ent} (h : planOf ops = some xs) : PlanOk ops xs := by
  obtain ⟨new, h1, h2, h3, h4⟩ := mkPlan_ok _ _ _ h
  simp only [List.reverse_nil, List.nil_append] at h1
  subst h1
  refine ⟨h2, h3, fun l x r e => ?_⟩
  obtain ⟨a, b, c⟩ := h4 l x r e
  exact ⟨a, l.reverse ++ [], fun p => by simp, b, c⟩

/-- What a plan says of an entry and one before it. -/
theorem PlanOk.pair {xs : List Ent} (h : PlanOk ops xs) {l r : List Ent} {x p : Ent} (e : xs = l ++ x :: r) (hp : p ∈ l) :
    p.i ≠ x.i ∧ (x.m.testBit p.i = true ∨ (p.o.apart ops x.o = true ∧ (kdOf p.o = .any → kdOf x.o = .pure))) := by
  obtain ⟨_, past, h1, _, h3⟩ := h.ent l x r e
  unfold entOk at h3
  simp only [Bool.and_eq_true] at h3
  have := List.all_eq_true.1 h3.1 p ((h1 p).2 hp)
  simp only [Bool.and_eq_true, bne_iff_ne, ne_eq, Bool.or_eq_true, Bool.not_eq_true', Bool.and_eq_false_iff, beq_eq_false_iff_ne] at this
  refine ⟨this.1, this.2.imp id fun ⟨h4, h5⟩ => ⟨h4, fun hk => ?_⟩⟩
  rcases h5 with h5 | h5
  · exact absurd hk (by simpa using h5)
  · simpa using h5

/-- What it must wait for stands before it. -/
theorem PlanOk.edge {xs : List Ent} (h : PlanOk ops xs) {l r : List Ent} {x : Ent} (e : xs = l ++ x :: r) : ∀ d ∈ x.o.after, Region.binds .any d = true → ∃ p ∈ l, p.i = d.on := by
  obtain ⟨_, past, h1, _, h3⟩ := h.ent l x r e
  unfold entOk at h3
  simp only [Bool.and_eq_true] at h3
  intro d hd hb
  have := List.all_eq_true.1 h3.2 d (by simpa using hd)
  simp only [hb, Bool.not_true, Bool.false_or, List.any_eq_true, beq_iff_eq] at this
  obtain ⟨p, h4, h5⟩ := this
  exact ⟨p, (h1 p).1 h4, h5⟩

/-- What has been taken is shut downwards. -/
def Down (xs : List Ent) (D : Nat → Bool) : Prop := ∀ x ∈ xs, D x.i = true → ∀ d ∈ x.o.after, Region.binds .any d = true → D d.on = true

theorem foldl_mask {D : Nat → Bool} {past : List Ent} : ∀ (es : List Edge) (s : Nat), (∀ j, s.testBit j = true → D j = true) → (∀ d ∈ es, Region.binds .any d = true → D d.on = true ∧ ∀ j, (maskOf past d.on).testBit j = true → D j = true) →
    ∀ j, (es.foldl (fun s e => if Region.binds .any e then s ||| 2 ^ e.on ||| maskOf past e.on else s) s).testBit j = true → D j = true
  | [], s, h, _, j, hj => h j hj
  | e :: es, s, h, hd, j, hj => by
    rw [List.foldl_cons] at hj
    refine foldl_mask es _ (fun j hj => ?_) (fun d hm => hd d (by simp [hm])) j hj
    split at hj
    · rename_i hb
      obtain ⟨h1, h2⟩ := hd e (by simp) hb
      simp only [Nat.testBit_or, Bool.or_eq_true, Nat.testBit_two_pow, decide_eq_true_eq] at hj
      rcases hj with (hj | hj) | hj
      · exact h j hj
      · rw [← hj]; exact h1
      · exact h2 j hj
    · exact h j hj

theorem PlanOk.mask {xs : List Ent} (h : PlanOk ops xs) {D : Nat → Bool} (hD : Down xs D) : ∀ (n : Nat) {l r : List Ent} {x : Ent}, l.length ≤ n → xs = l ++ x :: r → (∀ d ∈ x.o.after, Region.binds .any d = true → D d.on = true) →
    ∀ j, x.m.testBit j = true → D j = true := by
  intro n
  induction n with
  | zero =>
    intro l r x hl e hx j hj
    obtain ⟨_, past, h1, h2, _⟩ := h.ent l x r e
    rw [h2] at hj
    refine foldl_mask _ 0 (fun j h => by simp at h) (fun d hd hb => ⟨hx d (by simpa using hd) hb, fun j hj => ?_⟩) j hj
    have hl0 : l = [] := List.eq_nil_of_length_eq_zero (by omega)
    have : past = [] := List.eq_nil_iff_forall_not_mem.2 fun p hp => by have := (h1 p).1 hp; rw [hl0] at this; cases this
    rw [this] at hj; simp [maskOf] at hj
  | succ n ih =>
    intro l r x hl e hx j hj
    obtain ⟨_, past, h1, h2, _⟩ := h.ent l x r e
    rw [h2] at hj
    refine foldl_mask _ 0 (fun j h => by simp at h) (fun d hd hb => ⟨hx d (by simpa using hd) hb, fun j hj => ?_⟩) j hj
    unfold maskOf at hj
    split at hj
    · rename_i p hp
      have hm := (h1 p).1 (List.mem_of_find?_eq_some hp)
      have hpi : p.i = d.on := by simpa using List.find?_some hp
      obtain ⟨l1, l2, e2⟩ := List.append_of_mem hm
      refine ih (l := l1) (r := l2 ++ x :: r) (x := p) (by rw [e2] at hl; simp at hl; omega) (by rw [e, e2]; simp) (hD p (by rw [e]; simp [hm]) (by rw [hpi]; exact hx d (by simpa using hd) hb)) j hj
    · simp at hj

/-- A step of a region. -/
structure Rec where
  x : Ent
  v : V
  fr : Fr
  st : St
  pr : List Nat
  st' : St
  rd : List Nat

inductive Chain (T : Tab) (S : Go.Abs.S) (ops : Array Oper) : List (Nat × Nat) → Fr → St → List Rec → Fr → St → Prop
  | nil (reads : List (Nat × Nat)) (fr : Fr) (st : St) : Chain T S ops reads fr st [] fr st
  | cons {reads : List (Nat × Nat)} {fr : Fr} {st : St} (x : Ent) (v : V) (st1 st' : St) (pr : List Nat) (rs : List Rec) {fr2 : Fr} {st2 : St} (hev : OpSays T S ops x.o fr { st with prot := pr ++ st.prot } v st1)
      (hst : st' = { st1 with prot := st.prot }) (hpr : kdOf x.o ≠ .any → pr = []) (hpr' : kdOf x.o = .any → pr = protOf reads x)
      (h : Chain T S ops (if kdOf x.o = .read then (readsOf T fr x.o.op).map (x.i, ·) ++ reads else reads) (fr.put x.o.dst v) st' rs fr2 st2) :
      Chain T S ops reads fr st (⟨x, v, fr, st, pr, st', readsOf T fr x.o.op⟩ :: rs) fr2 st2

theorem evDraw_chain : ∀ (xs : List Ent) (reads : List (Nat × Nat)) (fr : Fr) (st : St) (fr2 : Fr) (st2 : St), evDraw T S ops xs reads fr st = some (fr2, st2) → 
    ∃ rs, rs.map Rec.x = xs ∧ Chain T S ops reads fr st rs fr2 st2
  | [], reads, fr, st, fr2, st2, h => by
    simp only [evDraw, Option.some.injEq, Prod.mk.injEq] at h
    obtain ⟨rfl, rfl⟩ := h
    exact ⟨[], rfl, .nil reads fr st⟩
  | x :: xs, reads, fr, st, fr2, st2, h => by
    have soft : ∀ (fr' : Fr) (st' : St) (reads' : List (Nat × Nat)), kdOf x.o ≠ .any → evOp T S ops x.o fr st = some (fr', st') → reads' = (if kdOf x.o = .read then (readsOf T fr x.o.op).map (x.i, ·) ++ reads else reads) →
        evDraw T S ops xs reads' fr' st' = some (fr2, st2) → ∃ rs, rs.map Rec.x = x :: xs ∧ Chain T S ops reads fr st rs fr2 st2 := by
      intro fr' st' reads' hk he hr hd
      obtain ⟨rs, h1, h2⟩ := evDraw_chain xs _ _ _ _ _ hd
      obtain ⟨v, rfl, hs⟩ := evOp_cases he
      refine ⟨_, ?_, .cons x v st' st' [] rs hs (by rcases hs.soft hk with e | ⟨_, ob, e⟩ <;> rw [e]; rfl) (fun _ => rfl) (fun e => absurd e hk) (by rw [← hr]; exact h2)⟩
      simp [h1]
    unfold evDraw at h
    split at h
    · rename_i hk
      split at h
      · rename_i fr' st' he
        obtain ⟨rs, h1, h2⟩ := evDraw_chain xs _ _ _ _ _ h
        obtain ⟨v, rfl, hs⟩ := evOp_cases he
        refine ⟨_, ?_, .cons x v st' _ (protOf reads x) rs hs rfl (fun e => absurd hk e) (fun _ => rfl) (by rw [if_neg (by rw [hk]; simp)]; exact h2)⟩
        simp [h1]
      · cases h
    · rename_i hk
      split at h
      · rename_i fr' st' he
        exact soft fr' st' _ (by rw [hk]; simp) he (by rw [if_pos hk]) h
      · cases h
    · rename_i hk1 hk2
      split at h
      · rename_i fr' st' he
        exact soft fr' st' _ hk1 he (by rw [if_neg hk2]) h
      · cases h

theorem Chain.split : ∀ {r1 r2 : List Rec} {reads : List (Nat × Nat)} {fr : Fr} {st : St} {fr2 : Fr} {st2 : St}, Chain T S ops reads fr st (r1 ++ r2) fr2 st2 → ∃ reads' fr1 st1, Chain T S ops reads fr st r1 fr1 st1 ∧ Chain T S ops reads' fr1 st1 r2 fr2 st2
  | [], r2, reads, fr, st, fr2, st2, h => ⟨reads, fr, st, .nil _ _ _, h⟩
  | r :: r1, r2, reads, fr, st, fr2, st2, h => by
    cases h with | cons x v st1 st' pr rs hev hst hpr hpr' h =>
    obtain ⟨reads', fr1, s1, h1, h2⟩ := Chain.split h
    exact ⟨reads', fr1, s1, .cons x v st1 st' pr r1 hev hst hpr hpr' h1, h2⟩

/-- The frame after some steps, of those that were taken. -/
def frOf (D : Nat → Bool) (fr : Fr) (rs : List Rec) : Fr := rs.foldl (fun fr r => if D r.x.i then fr.put r.x.o.dst r.v else fr) fr

theorem Chain.frame : ∀ {rs : List Rec} {reads : List (Nat × Nat)} {fr : Fr} {st : St} {fr2 : Fr} {st2 : St}, Chain T S ops reads fr st rs fr2 st2 → fr2 = frOf (fun _ => true) fr rs
  | _, _, _, _, _, _, .nil _ _ _ => rfl
  | _, _, _, _, _, _, .cons x v st1 st' pr rs hev hst hpr hpr' h => by rw [h.frame]; rfl

theorem Fr.put_comm (fr : Fr) {d e : Option Tmp} (v u : V) (h : ∀ t, d = some t → e ≠ some t) : (fr.put d v).put e u = (fr.put e u).put d v := by
  cases d with
  | none => rfl
  | some t => cases e with
    | none => rfl
    | some s =>
      have hne : t ≠ s := fun e => h t rfl (by rw [e])
      simp only [Fr.put, Fr.mk.injEq, and_true]
      exact List.set_comm _ _ hne

theorem Fr.put_get (fr : Fr) {d : Option Tmp} (v : V) {t : Tmp} (h : d ≠ some t) : (fr.put d v).tmps[t]? = fr.tmps[t]? := by
  cases d with
  | none => rfl
  | some s => simp only [Fr.put]; rw [List.getElem?_set_ne (fun e => h (by rw [e]))]

theorem frOf_congr {D E : Nat → Bool} : ∀ {rs : List Rec} {fr : Fr}, (∀ r ∈ rs, D r.x.i = E r.x.i) → frOf D fr rs = frOf E fr rs
  | [], _, _ => rfl
  | r :: rs, fr, h => by
    unfold frOf
    rw [List.foldl_cons, List.foldl_cons, h r (by simp)]
    exact frOf_congr fun q hq => h q (by simp [hq])

theorem frOf_append {D : Nat → Bool} {fr : Fr} {r1 r2 : List Rec} : frOf D fr (r1 ++ r2) = frOf D (frOf D fr r1) r2 := by simp [frOf]

/-- A step later put in. -/
theorem frOf_put {D : Nat → Bool} {d : Option Tmp} {v : V} : ∀ {rs : List Rec} {fr : Fr}, (∀ r ∈ rs, D r.x.i = true → ∀ t, d = some t → r.x.o.dst ≠ some t) → frOf D (fr.put d v) rs = (frOf D fr rs).put d v
  | [], _, _ => rfl
  | r :: rs, fr, h => by
    unfold frOf
    rw [List.foldl_cons, List.foldl_cons]
    have ih := fun fr => frOf_put (D := D) (d := d) (v := v) (rs := rs) (fr := fr) fun q hq => h q (by simp [hq])
    split
    · rename_i hd
      rw [Fr.put_comm _ _ _ (h r (by simp) hd)]
      exact ih _
    · exact ih _

theorem frOf_none {D : Nat → Bool} : ∀ {rs : List Rec} {fr : Fr}, (∀ r ∈ rs, D r.x.i = false) → frOf D fr rs = fr
  | [], _, _ => rfl
  | r :: rs, fr, h => by
    unfold frOf
    rw [List.foldl_cons, if_neg (by rw [h r (by simp)]; simp)]
    exact frOf_none fun q hq => h q (by simp [hq])

/-- A temporary, after steps that are taken or not, where those that write it are taken in both or in neither. -/
theorem frOf_get {D E : Nat → Bool} {t : Tmp} : ∀ {rs : List Rec} {fr fr' : Fr}, fr'.tmps[t]? = fr.tmps[t]? → fr'.tmps.length = fr.tmps.length → (∀ r ∈ rs, r.x.o.dst = some t → D r.x.i = E r.x.i) → (frOf E fr' rs).tmps[t]? = (frOf D fr rs).tmps[t]? ∧ (frOf E fr' rs).tmps.length = (frOf D fr rs).tmps.length
  | [], _, _, h, hl, _ => ⟨h, hl⟩
  | r :: rs, fr, fr', h, hl, hd => by
    unfold frOf
    rw [List.foldl_cons, List.foldl_cons]
    have hlen : ∀ (fr : Fr) (d : Option Tmp) (v : V), (fr.put d v).tmps.length = fr.tmps.length := fun fr d v => by cases d <;> simp [Fr.put]
    refine frOf_get ?_ ?_ fun q hq => hd q (by simp [hq])
    · by_cases e : r.x.o.dst = some t
      · rw [hd r (by simp) e]
        split
        · rw [e]
          simp only [Fr.put, List.getElem?_set, if_true, hl]
        · exact h
      · have h1 : ∀ (c : Bool) (fr : Fr), (if c = true then fr.put r.x.o.dst r.v else fr).tmps[t]? = fr.tmps[t]? := fun c fr => by
          split
          · exact Fr.put_get fr r.v e
          · rfl
        rw [h1, h1]; exact h
    · have h1 : ∀ (c : Bool) (fr : Fr), (if c = true then fr.put r.x.o.dst r.v else fr).tmps.length = fr.tmps.length := fun c fr => by
        split
        · exact hlen _ _ _
        · rfl
      rw [h1, h1]; exact hl

end
end Go.Abs
namespace Go.Abs
section
variable {P : Program} {T : Tab} {S : S} {ops : Array Oper} {k0 k : K} {fr0 fr2 frm : Fr} {st0 st2 σ : St} {w0 w : World} {a : Act} {rs r1 r2 : List Rec} {reads : List (Nat × Nat)} {D : Nat → Bool}

/-- It made an object. -/
def Rec.loud (r : Rec) (o : O) : Prop := r.st'.store[r.st.store.length]? = some o

structure Inv (T : Tab) (S : Go.Abs.S) (ops : Array Oper) (k0 : K) (fr0 : Fr) (st0 : St) (w0 : World) (rs : List Rec) (fr2 : Fr) (st2 : St) (D : Nat → Bool) (r1 r2 : List Rec) (σ : St) (reads : List (Nat × Nat)) (frm : Fr) (k : K) (a : Act) (w : World) : Prop where
  split : rs = r1 ++ r2
  chain : Chain T S ops reads frm σ r2 fr2 st2
  later : Later k0 k st0 σ w0 w
  fr : FR k (frOf D fr0 rs) a
  down : Down (rs.map Rec.x) D
  any1 : ∀ r ∈ r1, kdOf r.x.o = .any → D r.x.i = true
  tail : ∀ r ∈ r2, kdOf r.x.o ≠ .pure → D r.x.i = false
  make : ∀ r ∈ r1, D r.x.i = false → kdOf r.x.o = .make → ∀ o, r.loud o → k.ρ r.st.store.length = none ∧ σ.store[r.st.store.length]? = some o ∧ st0.store.length ≤ r.st.store.length
  ids : r1.Pairwise fun q r => D q.x.i = false → kdOf q.x.o = .make → (∃ o, q.loud o) → q.st.store.length < r.st.store.length
  read : ∀ r ∈ r1, D r.x.i = false → kdOf r.x.o = .read → ∀ q ∈ r.rd, (r.x.i, q) ∈ reads ∧ ∀ ob, r.st.store[q]? = some ob → σ.store[q]? = some ob

theorem Later.more (hl : Later k0 k st0 σ w0 w) (o : O) : Later k0 k st0 (σ.new o).1 w0 w := by
  obtain ⟨X, h⟩ := hl
  have hw := h.wr
  have hlen : (σ.new o).1.store = σ.store ++ [o] := rfl
  refine ⟨X, h.le, ⟨hw.imm, fun r g hr => ?_, hw.bound, fun r r' g g' h1 h2 he hd hd' => ?_⟩, h.size, by rw [hlen]; have := h.len; simp; omega, h.base, h.prot, h.lock, fun r hr hx => ?_, h.frame, h.newρ, h.newI, h.env⟩
  · obtain ⟨ob, h1, h2⟩ := hw.obj r g hr
    exact ⟨ob, by rw [hlen, List.getElem?_append_left (hw.lt hr)]; exact h1, h2⟩
  · rw [hlen, List.getElem?_append_left (hw.lt h1)] at hd
    rw [hlen, List.getElem?_append_left (hw.lt h2)] at hd'
    exact hw.apart r r' g g' h1 h2 he hd hd'
  · rw [hlen, List.getElem?_append_left (Nat.lt_of_lt_of_le hr h.len)]; exact h.same r hr hx

theorem new_get {o ob : O} {r : Nat} (h : σ.store[r]? = some ob) : (σ.new o).1.store[r]? = some ob := by
  have : (σ.new o).1.store = σ.store ++ [o] := rfl
  rw [this, List.getElem?_append_left (List.getElem?_eq_some_iff.1 h).1]; exact h

/-- Over what needs no leave. -/
theorem Inv.advance : ∀ {r2 r1 : List Rec} {σ : St} {reads : List (Nat × Nat)} {frm : Fr}, Inv T S ops k0 fr0 st0 w0 rs fr2 st2 D r1 r2 σ reads frm k a w →
    ∃ r1' r2' σ' reads' frm', Inv T S ops k0 fr0 st0 w0 rs fr2 st2 D r1' r2' σ' reads' frm' k a w ∧ ∀ r r2'', r2' = r :: r2'' → kdOf r.x.o = .any
  | [], r1, σ, reads, frm, h => ⟨r1, [], σ, reads, frm, h, fun r r2'' e => by cases e⟩
  | r :: r2, r1, σ, reads, frm, h => by
    by_cases hk : kdOf r.x.o = .any
    · exact ⟨r1, r :: r2, σ, reads, frm, h, fun q r2'' e => by cases e; exact hk⟩
    · have hc := h.chain
      cases hc with | cons x v st1 st' pr rs' hev hst hpr hpr' hc =>
      have hpr := hpr hk
      subst hpr
      have hst' : st' = σ ∨ ∃ o, st' = (σ.new o).1 := by
        rcases hev.soft hk with e | ⟨_, o, e⟩
        · left; rw [hst, e]
        · right; exact ⟨o, by rw [hst, e]; rfl⟩
      have hold : ∀ (q : Nat) (ob : O), σ.store[q]? = some ob → st'.store[q]? = some ob := fun q ob hq => by
        rcases hst' with e | ⟨o, e⟩
        · rw [e]; exact hq
        · rw [e]; exact new_get hq
      refine Inv.advance (r1 := r1 ++ [⟨x, v, frm, σ, [], st', readsOf T frm x.o.op⟩]) ⟨by rw [h.split]; simp, hc, ?_, h.fr, h.down, fun q hq hqk => ?_, fun q hq => h.tail q (List.mem_cons_of_mem _ hq), fun q hq hd hqk o hlo => ?_, ?_, fun q hq hd hqk p hp => ?_⟩
      · rcases hst' with e | ⟨o, e⟩
        · rw [e]; exact h.later
        · rw [e]; exact h.later.more o
      · rcases List.mem_append.1 hq with hq | hq
        · exact h.any1 q hq hqk
        · simp at hq; subst hq; exact absurd hqk hk
      · rcases List.mem_append.1 hq with hq | hq
        · obtain ⟨h1, h2, h3⟩ := h.make q hq hd hqk o hlo
          exact ⟨h1, hold _ _ h2, h3⟩
        · simp at hq; subst hq
          refine ⟨?_, hlo, by obtain ⟨X, hX⟩ := h.later; exact hX.len⟩
          cases e : k.ρ σ.store.length with
          | none => rfl
          | some g => have := h.later.wr.lt e; omega
      · refine List.pairwise_append.2 ⟨h.ids, by simp, fun q hq r hr hd hqk ⟨o, hlo⟩ => ?_⟩
        simp at hr; subst hr
        obtain ⟨_, h2, _⟩ := h.make q hq hd hqk o hlo
        exact (List.getElem?_eq_some_iff.1 h2).1
      · rcases List.mem_append.1 hq with hq | hq
        · obtain ⟨h1, h2⟩ := h.read q hq hd hqk p hp
          refine ⟨?_, fun ob ho => hold _ _ (h2 ob ho)⟩
          split
          · exact List.mem_append_right _ h1
          · exact h1
        · simp at hq; subst hq
          refine ⟨?_, fun ob ho => hold _ _ ho⟩
          simp only at hqk hp
          rw [if_pos hqk]
          exact List.mem_append_left _ (List.mem_map.2 ⟨p, hp, rfl⟩)

/-- What a trace says of each of its steps. -/
theorem Chain.says : ∀ {l m : List Rec} {r : Rec} {reads : List (Nat × Nat)} {fr : Fr} {st : St}, Chain T S ops reads fr st (l ++ r :: m) fr2 st2 →
    r.fr = frOf (fun _ => true) fr l ∧ r.rd = readsOf T r.fr r.x.o.op ∧ ∃ st1, OpSays T S ops r.x.o r.fr { r.st with prot := r.pr ++ r.st.prot } r.v st1 ∧ r.st' = { st1 with prot := r.st.prot } ∧ (kdOf r.x.o ≠ .any → r.pr = [])
  | [], m, r, reads, fr, st, h => by
    cases h with | cons x v st1 st' pr rs hev hst hpr hpr' h =>
    exact ⟨rfl, rfl, st1, hev, hst, hpr⟩
  | q :: l, m, r, reads, fr, st, h => by
    cases h with | cons x v st1 st' pr rs hev hst hpr hpr' h =>
    exact h.says

theorem Later.prot {k1 : K} {st1 : St} {w1 : World} {p : List Nat} (h : Later k k1 { σ with prot := p ++ σ.prot } st1 w w1) : Later k k1 σ { st1 with prot := σ.prot } w w1 := by
  obtain ⟨X, h⟩ := h
  refine ⟨X, h.le, ⟨h.wr.imm, h.wr.obj, h.wr.bound, h.wr.apart⟩, h.size, h.len, h.base, rfl, fun r hr => ?_, h.same, h.frame, h.newρ, h.newI, h.env⟩
  obtain ⟨h1, h2⟩ := h.lock r hr
  refine ⟨?_, h2⟩
  simp only [St.locked, Bool.or_eq_false_iff] at h1 ⊢
  refine ⟨h1.1, ?_⟩
  have := h1.2
  simp only [List.contains_eq_mem, List.mem_append, decide_eq_false_iff_not] at this ⊢
  exact fun hm => this (.inr hm)

theorem WR.prot (h : WR k σ w) (p : List Nat) : WR k { σ with prot := p } w := ⟨h.imm, h.obj, h.bound, h.apart⟩

end
end Go.Abs
namespace Go.Abs
section
variable {P : Program} {T : Tab} {S : S} {ops : Array Oper} {k0 k k' : K} {fr0 fr2 frm : Fr} {st0 st2 σ : St} {w0 w w' : World} {a a' : Act} {rs r1 r2 l m : List Rec} {r : Rec} {reads : List (Nat × Nat)} {D D' : Nat → Bool}

theorem Inv.same (h : Inv T S ops k0 fr0 st0 w0 rs fr2 st2 D r1 r2 σ reads frm k a w) {i : Nat} (hD' : ∀ j, D' j = (D j || j == i)) (hlater : Later k0 k' st0 σ w0 w') (hfr : FR k' (frOf D' fr0 rs) a') (hdown : Down (rs.map Rec.x) D')
    (htail : ∀ q ∈ r2, kdOf q.x.o ≠ .pure → q.x.i ≠ i)
    (hmake : ∀ q ∈ r1, q.x.i ≠ i → D q.x.i = false → kdOf q.x.o = .make → ∀ o, q.loud o → k'.ρ q.st.store.length = none) : Inv T S ops k0 fr0 st0 w0 rs fr2 st2 D' r1 r2 σ reads frm k' a' w' := by
  have hf : ∀ j, D' j = false → D j = false ∧ j ≠ i := fun j hj => by
    rw [hD' j] at hj
    simpa using hj
  refine ⟨h.split, h.chain, hlater, hfr, hdown, fun q hq hk => ?_, fun q hq hk => ?_, fun q hq hd hk o hlo => ?_, h.ids.imp fun hh hd => hh (hf _ hd).1, fun q hq hd hk => h.read q hq (hf _ hd).1 hk⟩
  · rw [hD', h.any1 q hq hk]; rfl
  · rw [hD', h.tail q hq hk]
    simpa using htail q hq hk
  · obtain ⟨h1, h2⟩ := hf _ hd
    exact ⟨hmake q hq h2 h1 hk o hlo, (h.make q hq h1 hk o hlo).2⟩

/-- Plans and what was taken. -/
theorem plan_before (hplan : PlanOk ops (rs.map Rec.x)) (hdown : Down (rs.map Rec.x) D) (e : rs = l ++ r :: m) (hed : ∀ d ∈ r.x.o.after, Region.binds .any d = true → D d.on = true) :
    (∀ j, r.x.m.testBit j = true → D j = true) ∧ ∀ p ∈ l, p.x.i ≠ r.x.i ∧ (D p.x.i = false → p.x.o.apart ops r.x.o = true ∧ (kdOf p.x.o = .any → kdOf r.x.o = .pure)) := by
  have e' : rs.map Rec.x = l.map Rec.x ++ r.x :: m.map Rec.x := by rw [e]; simp
  have hm := hplan.mask hdown _ (Nat.le_refl _) e' hed
  refine ⟨hm, fun p hp => ?_⟩
  obtain ⟨h1, h2⟩ := hplan.pair e' (List.mem_map_of_mem (f := Rec.x) hp)
  refine ⟨h1, fun hd => h2.resolve_left fun hb => ?_⟩
  rw [hm _ hb] at hd; cases hd

theorem plan_after (hplan : PlanOk ops (rs.map Rec.x)) (hdown : Down (rs.map Rec.x) D) (e : rs = l ++ r :: m) (hd : D r.x.i = false) :
    ∀ q ∈ m, q.x.i ≠ r.x.i ∧ (D q.x.i = true → r.x.o.apart ops q.x.o = true ∧ (kdOf r.x.o = .any → kdOf q.x.o = .pure)) := by
  intro q hq
  obtain ⟨m1, m2, e2⟩ := List.append_of_mem hq
  have e' : rs = (l ++ r :: m1) ++ q :: m2 := by rw [e, e2]; simp
  have e'' : rs.map Rec.x = (l ++ r :: m1).map Rec.x ++ q.x :: m2.map Rec.x := by rw [e']; simp
  refine ⟨fun he => (hplan.pair e'' (p := r.x) (by simp)).1 he.symm, fun hq' => ?_⟩
  exact ((plan_before hplan hdown e' (hdown q.x (by rw [e'']; simp) hq')).2 r (by simp)).2 hd

theorem plan_alike (hplan : PlanOk ops (rs.map Rec.x)) (hdown : Down (rs.map Rec.x) D) (e : rs = l ++ r :: m) (hd : D r.x.i = false) (hed : ∀ d ∈ r.x.o.after, Region.binds .any d = true → D d.on = true)
    (hfr : r.fr = frOf (fun _ => true) fr0 l) : Alike (r.x.o.looksAt ops) r.fr (frOf D fr0 rs) := by
  intro t ht
  obtain ⟨_, hb⟩ := plan_before hplan hdown e hed
  have ha := plan_after hplan hdown e hd
  have h1 := frOf_get (D := fun _ => true) (E := D) (t := t) (rs := l) (fr := fr0) (fr' := fr0) rfl rfl fun p hp hdst => by
    cases hdp : D p.x.i with
    | true => rfl
    | false => exact absurd ht ((Oper.apart_spec ((hb p hp).2 hdp).1).1 t hdst)
  have h2 := frOf_get (D := fun _ => false) (E := D) (t := t) (rs := r :: m) h1.1 h1.2 fun q hq hdst => by
    rcases List.mem_cons.1 hq with rfl | hq
    · exact hd.symm
    · cases hdq : D q.x.i with
      | false => rfl
      | true => exact absurd ht ((Oper.apart_spec ((ha q hq).2 hdq).1).2.2 t hdst)
  rw [e, frOf_append, hfr, h2.1, frOf_none fun _ _ => rfl]

theorem plan_put (hplan : PlanOk ops (rs.map Rec.x)) (hdown : Down (rs.map Rec.x) D) (e : rs = l ++ r :: m) (hd : D r.x.i = false) (hed : ∀ d ∈ r.x.o.after, Region.binds .any d = true → D d.on = true)
    (hD' : ∀ j, D' j = (D j || j == r.x.i)) : frOf D' fr0 rs = (frOf D fr0 rs).put r.x.o.dst r.v := by
  obtain ⟨_, hb⟩ := plan_before hplan hdown e hed
  have ha := plan_after hplan hdown e hd
  have hne : ∀ q : Rec, q.x.i ≠ r.x.i → D' q.x.i = D q.x.i := fun q hq => by
    rw [hD', beq_eq_false_iff_ne.2 hq, Bool.or_false]
  rw [e, frOf_append, frOf_append, frOf_congr fun q hq => hne q (hb q hq).1]
  have e1 : ∀ F : Fr, frOf D F (r :: m) = frOf D F m := fun F => by
    unfold frOf
    rw [List.foldl_cons, if_neg (by rw [hd]; simp)]
  have e2 : ∀ F : Fr, frOf D' F (r :: m) = frOf D' (F.put r.x.o.dst r.v) m := fun F => by
    unfold frOf
    rw [List.foldl_cons, if_pos (by rw [hD']; simp)]
  rw [e1, e2, frOf_congr fun q hq => hne q (ha q hq).1]
  exact frOf_put fun q hq hdq t ht => (Oper.apart_spec ((ha q hq).2 hdq).1).2.1 t ht

theorem down_put (hdown : Down (rs.map Rec.x) D) {i : Nat} (hD' : ∀ j, D' j = (D j || j == i)) (hi : ∀ q ∈ rs, q.x.i = i → ∀ d ∈ q.x.o.after, Region.binds .any d = true → D d.on = true) : Down (rs.map Rec.x) D' := by
  intro x hx hd d hm hb
  obtain ⟨q, hq, rfl⟩ := List.mem_map.1 hx
  rw [hD'] at hd ⊢
  simp only [Bool.or_eq_true, beq_iff_eq] at hd
  rcases hd with hd | hd
  · rw [hdown q.x hx hd d hm hb]; rfl
  · rw [hi q hq hd d hm hb]; rfl

/-- A step of a region. -/
theorem Inv.step (hT : T.Fits P) (hS : CodeOk P T S) (hC : CallOk P T S) (hplan : PlanOk ops (rs.map Rec.x)) (hchain : Chain T S ops [] fr0 st0 rs fr2 st2) (hg0 : GlobOk T k0) (hw0 : WR k0 st0 w0) {round : Option Nat} {F : Fence} (hF0 : FenceOk k0 round F)
    (h : Inv T S ops k0 fr0 st0 w0 rs fr2 st2 D r1 r2 σ reads frm k a w) (hhead : ∀ q r2', r2 = q :: r2' → kdOf q.x.o = .any) (hm : r ∈ rs) (hd : D r.x.i = false) (hed : ∀ d ∈ r.x.o.after, Region.binds .any d = true → D d.on = true)
    (hD' : ∀ j, D' j = (D j || j == r.x.i)) (n : Nat) {next : Act → World → Prop} {Q : Exit → Act → World → Prop}
    (hnext : ∀ r1' r2' σ' reads' frm' k' a' w', Inv T S ops k0 fr0 st0 w0 rs fr2 st2 D' r1' r2' σ' reads' frm' k' a' w' → next a' w') : wpOpIn F n P ops Q r.x.i next a w := by
  have hg := hg0.mono h.later.le
  have hF := hF0.mono h.later.le
  have hw := h.later.wr
  -- where it stands
  have hwhere : ∃ l m, rs = l ++ r :: m ∧ ((∃ u v, r1 = u ++ r :: v) ∨ ((kdOf r.x.o = .pure ∨ ∃ r2', r2 = r :: r2') ∧ r ∈ r2)) := by
    have := h.split ▸ hm
    rcases List.mem_append.1 this with h1 | h2
    · obtain ⟨u, v, e⟩ := List.append_of_mem h1
      exact ⟨u, v ++ r2, by rw [h.split, e]; simp, .inl ⟨u, v, e⟩⟩
    · cases e2 : r2 with
      | nil => rw [e2] at h2; cases h2
      | cons q r2' =>
        rw [e2] at h2
        rcases List.mem_cons.1 h2 with rfl | h3
        · exact ⟨r1, r2', by rw [h.split, e2], .inr ⟨.inr ⟨r2', rfl⟩, by simp⟩⟩
        · obtain ⟨u, v, e⟩ := List.append_of_mem h3
          have e' : rs = (r1 ++ q :: u) ++ r :: v := by rw [h.split, e2, e]; simp
          have hq := hhead q r2' e2
          have hdq := h.tail q (by rw [e2]; simp) (by rw [hq]; simp)
          exact ⟨_, _, e', .inr ⟨.inl (((plan_before hplan h.down e' hed).2 q (by simp)).2 hdq |>.2 hq), h2⟩⟩
  obtain ⟨l, m, e, hpos⟩ := hwhere
  have hsays := (e ▸ hchain).says
  obtain ⟨hfr, hrd, st1, hop, hst', hpr⟩ := hsays
  have hal := plan_alike (fr0 := fr0) hplan h.down e hd hed hfr
  have hput := plan_put (fr0 := fr0) hplan h.down e hd hed hD'
  have hother : ∀ q ∈ rs, q ≠ r → q.x.i ≠ r.x.i := fun q hq hne => by
    rw [e] at hq
    rcases List.mem_append.1 hq with hq | hq
    · exact ((plan_before hplan h.down e hed).2 q hq).1
    · rcases List.mem_cons.1 hq with rfl | hq
      · exact absurd rfl hne
      · exact (plan_after hplan h.down e hd q hq).1
  have hdown' := down_put h.down hD' fun q hq hqi => by
    by_cases hqr : q = r
    · subst hqr; exact hed
    · exact absurd hqi (hother q hq hqr)
  have hops : ops[r.x.i]? = some r.x.o := (hplan.ent (l.map Rec.x) r.x (m.map Rec.x) (by rw [e]; simp)).1
  -- a later world, the same stores
  have quiet : evOp T S ops r.x.o (frOf D fr0 rs) σ = some ((frOf D fr0 rs).put r.x.o.dst r.v, σ) → (∀ q ∈ r2, kdOf q.x.o ≠ .pure → q.x.i ≠ r.x.i) → wpOpIn F n P ops Q r.x.i next a w := by
    intro hev htail
    unfold wpOpIn
    rw [hops]
    refine evOp_sim hT hS hC hev hg hw h.fr hF n fun k1 a1 w1 hL hf1 => ?_
    refine hnext _ _ _ _ _ _ _ _ (h.same hD' (h.later.trans hw0 hL) (by rw [hput]; exact hf1) hdown' htail fun q hq _ hdq hk o hlo => ?_)
    obtain ⟨h1, h2, _⟩ := h.make q hq hdq hk o hlo
    obtain ⟨X, hX⟩ := hL
    cases e1 : k1.ρ q.st.store.length with
    | none => rfl
    | some g =>
      have := (hX.newρ _ g h1 e1).1
      have := (List.getElem?_eq_some_iff.1 h2).1
      omega
  have tail1 : (∃ u v, r1 = u ++ r :: v) → ∀ q ∈ r2, q.x.i ≠ r.x.i := by
    rintro ⟨u, v, e1⟩ q hq
    have e' : rs = u ++ r :: (v ++ r2) := by rw [h.split, e1]; simp
    exact (plan_after hplan h.down e' hd q (by simp [hq])).1
  by_cases hk : kdOf r.x.o = .any
  · -- anything
    rcases hpos with ⟨u, v, e1⟩ | ⟨hp, _⟩
    · rw [h.any1 r (by rw [e1]; simp) hk] at hd; cases hd
    obtain ⟨r2', e2⟩ := hp.resolve_left (by rw [hk]; simp)
    have e3 : rs = r1 ++ r :: r2' := by rw [h.split, e2]
    have hmask := (plan_before hplan h.down e3 hed).1
    have hc := h.chain
    rw [e2] at hc
    cases hc with | cons x v st1' st'' pr rs' hev hst hprn hpra hc =>
    simp only at hk hd hed hal hput hother hops hmask hD' e3
    have hpr := hpra hk
    have hev' : evOp T S ops x.o (frOf D fr0 rs) { σ with prot := pr ++ σ.prot } = some ((frOf D fr0 rs).put x.o.dst v, st1') := by
      rcases hev with ⟨e1, h1⟩ | ⟨⟨h1, h2, h3⟩, _⟩
      · rw [e1]; exact h1 _ _ hal
      · exact h3 _ _ _ hal h2
    unfold wpOpIn
    rw [hops]
    refine evOp_sim hT hS hC hev' hg (hw.prot _) h.fr hF n fun k1 a1 w1 hL hf1 => ?_
    have hL' := hL.prot
    have hne : ∀ q ∈ r1, q.x.i ≠ x.i := fun q hq => ((plan_before hplan h.down e3 hed).2 q hq).1
    have hf : ∀ j, D' j = false → D j = false := fun j hj => by
      rw [hD' j] at hj
      simp only [Bool.or_eq_false_iff] at hj; exact hj.1
    have hrho : ∀ (j : Nat) (o : O), k.ρ j = none → σ.store[j]? = some o → k1.ρ j = none ∧ st''.store[j]? = some o := fun j o h1 h2 => by
      obtain ⟨X, hX⟩ := hL'
      have hlt := (List.getElem?_eq_some_iff.1 h2).1
      refine ⟨?_, ?_⟩
      · cases e1 : k1.ρ j with
        | none => rfl
        | some g => have := (hX.newρ _ g h1 e1).1; omega
      · rw [hst, hX.same j hlt fun hx => ?_]; exact h2
        obtain ⟨_, g, hg⟩ := hX.lock j hx
        rw [h1] at hg; cases hg
    have hinv : Inv T S ops k0 fr0 st0 w0 rs fr2 st2 D' (r1 ++ [⟨x, v, frm, σ, pr, st'', readsOf T frm x.o.op⟩]) r2' st'' (if kdOf x.o = .read then (readsOf T frm x.o.op).map (x.i, ·) ++ reads else reads) (frm.put x.o.dst v) k1 a1 w1 := by
      refine ⟨by rw [e3]; simp, hc, by rw [hst]; exact h.later.trans hw0 hL', by rw [hput]; exact hf1, hdown', fun q hq hqk => ?_, fun q hq hqk => ?_, fun q hq hdq hqk o hlo => ?_, ?_, fun q hq hdq hqk p hp => ?_⟩
      · rw [hD']
        rcases List.mem_append.1 hq with hq | hq
        · rw [h.any1 q hq hqk]; rfl
        · simp at hq; subst hq; simp
      · rw [hD', h.tail q (by rw [e2]; simp [hq]) hqk]
        have := (plan_after hplan h.down e3 hd q hq).1
        simpa using this
      · rcases List.mem_append.1 hq with hq | hq
        · obtain ⟨h1, h2, h3⟩ := h.make q hq (hf _ hdq) hqk o hlo
          obtain ⟨h4, h5⟩ := hrho _ _ h1 h2
          exact ⟨h4, h5, h3⟩
        · simp at hq; subst hq; simp only at hqk; rw [hk] at hqk; cases hqk
      · refine List.pairwise_append.2 ⟨h.ids.imp fun hh hdq => hh (hf _ hdq), by simp, fun q hq r' hr' hdq hqk ⟨o, hlo⟩ => ?_⟩
        simp at hr'; subst hr'
        obtain ⟨_, h2, _⟩ := h.make q hq (hf _ hdq) hqk o hlo
        exact (List.getElem?_eq_some_iff.1 h2).1
      · rcases List.mem_append.1 hq with hq | hq
        · obtain ⟨h1, h2⟩ := h.read q hq (hf _ hdq) hqk p hp
          refine ⟨by rw [if_neg (by rw [hk]; simp)]; exact h1, fun ob ho => ?_⟩
          have h3 := h2 ob ho
          obtain ⟨X, hX⟩ := hL
          rw [hst]
          simp only
          rw [hX.same p (List.getElem?_eq_some_iff.1 h3).1 fun hx => ?_]; exact h3
          have h4 := (hX.lock p hx).1
          simp only [St.locked, Bool.or_eq_false_iff] at h4
          have h5 : p ∈ protOf reads x := by
            unfold protOf
            refine List.mem_map.2 ⟨(q.x.i, p), List.mem_filter.2 ⟨h1, ?_⟩, rfl⟩
            cases hb : x.m.testBit q.x.i with
            | false => rfl
            | true => have := hmask _ hb; rw [hf _ hdq] at this; cases this
          have h6 := h4.2
          simp only [List.contains_eq_mem, List.mem_append, decide_eq_false_iff_not, hpr] at h6
          exact h6 (.inl h5)
        · simp at hq; subst hq; simp only at hqk; rw [hk] at hqk; cases hqk
    obtain ⟨r1', r2'', σ', reads', frm', hinv', _⟩ := hinv.advance
    exact hnext _ _ _ _ _ _ _ _ hinv'
  · have htail : ∀ q ∈ r2, kdOf q.x.o ≠ .pure → q.x.i ≠ r.x.i := by
      intro q hq hqk
      rcases hpos with h1 | ⟨h1, _⟩
      · exact tail1 h1 q hq
      · rcases h1 with h1 | ⟨r2', h1⟩
        · exact hother q (by rw [h.split]; simp [hq]) fun e => hqk (by rw [e]; exact h1)
        · exact absurd (hhead r r2' h1) hk
    have hpr := hpr hk
    rw [hpr] at hop
    have hop : OpSays T S ops r.x.o r.fr r.st r.v st1 := hop
    have hst' : r.st'.store = st1.store := by rw [hst']
    rcases hop with ⟨_, h1⟩ | ⟨⟨hip, hmem, h3⟩, hwant⟩
    · exact quiet (h1 _ _ hal) htail
    · rw [evMem_of_kd hk] at hmem
      have hr1 : kdOf r.x.o ≠ .pure → r ∈ r1 := fun hnp => by
        rcases hpos with ⟨u, v, e1⟩ | ⟨h1, _⟩
        · rw [e1]; simp
        · rcases h1 with h1 | ⟨r2', h1⟩
          · exact absurd h1 hnp
          · exact absurd (hhead r r2' h1) hk
      cases hkd : kdOf r.x.o with
      | any => exact absurd hkd hk
      | pure =>
        unfold kdOf at hkd
        rw [if_neg (by simp [hip])] at hkd
        split at hkd <;> cases hkd
      | read =>
        have hin := hr1 (by rw [hkd]; simp)
        obtain ⟨_, h5⟩ := evRead_congr hkd hmem (st2 := σ) fun q hq ob ho => (h.read r hin hd hkd q (by rw [hrd]; exact hq)).2 ob ho
        exact quiet (h3 _ _ _ hal (by rw [evMem_of_kd hk]; exact h5)) htail
      | make =>
        have hin := hr1 (by rw [hkd]; simp)
        have hmem' : evMem0 T (frOf D fr0 rs) r.st r.x.o.op = some (r.v, st1) := by rw [evMem0_congr hal.arg]; exact hmem
        obtain ⟨ob, mk, hv, hs1, x, w', cob, g, hrun, henv, hheap, hgb, hor, hvr⟩ := evMake_sim (P := P) hT hg h.fr hw hkd hmem'
        have hlo : r.loud ob := by
          unfold Rec.loud
          rw [hst', hs1]
          have : (r.st.new ob).1.store = r.st.store ++ [ob] := rfl
          rw [this]; simp
        obtain ⟨h5, h6, h7⟩ := h.make r hin hd hkd ob hlo
        have hL := h.later.late h5 h7 h6 hgb hheap (hor _ h5) henv
        obtain ⟨hw1, _⟩ := hwant _ hal
        unfold wpOpIn
        rw [hops]
        simp only
        rw [wanted_eq h.fr] at hw1
        rw [if_pos hw1]
        refine ⟨about_trivial hF r.x.o, ?_⟩
        rw [isPure_semAt _ (fun c hc => by unfold kdOf at hkd; rw [hc] at hkd; simp [isPure] at hkd), hrun]
        refine hnext _ _ _ _ _ _ _ _ (h.same hD' hL ?_ hdown' htail fun q hq hne hdq hqk o hqo => ?_)
        · rw [hput, hv]
          exact (h.fr.mono (put_le h5)).put _ (hvr _ _ (by simp [K.put]))
        · obtain ⟨h8, _, _⟩ := h.make q hq hdq hqk o hqo
          simp only [K.put]
          rw [if_neg ?_]; exact h8
          obtain ⟨u, v, e1⟩ := List.append_of_mem hin
          have hids := h.ids
          rw [e1] at hq hids
          rcases List.mem_append.1 hq with hq | hq
          · have := (List.pairwise_append.1 hids).2.2 q hq r (by simp) hdq hqk ⟨o, hqo⟩
            omega
          · rcases List.mem_cons.1 hq with rfl | hq
            · exact absurd rfl hne
            · have := (List.pairwise_cons.1 (List.pairwise_append.1 hids).2.1).1 q hq hd hkd ⟨ob, hlo⟩
              omega

end
end Go.Abs
namespace Go.Abs
section
variable {P : Program} {T : Tab} {S : S} {ops : Array Oper} {k0 k : K} {fr0 fr2 frm : Fr} {st0 st2 σ : St} {w0 w : World} {a : Act} {rs r1 r2 : List Rec} {reads : List (Nat × Nat)}

theorem first_not {α : Type} (p : α → Bool) : ∀ (xs : List α), (∃ x ∈ xs, p x = false) → ∃ l x m, xs = l ++ x :: m ∧ p x = false ∧ ∀ y ∈ l, p y = true
  | [], h => by obtain ⟨x, h, _⟩ := h; cases h
  | x :: xs, h => by
    by_cases e : p x = false
    · exact ⟨[], x, xs, rfl, e, fun y h => by cases h⟩
    · obtain ⟨y, h1, h2⟩ := h
      rcases List.mem_cons.1 h1 with rfl | h1
      · exact absurd h2 e
      · obtain ⟨l, z, m, h3, h4, h5⟩ := first_not p xs ⟨y, h1, h2⟩
        refine ⟨x :: l, z, m, by rw [h3]; rfl, h4, fun y hy => ?_⟩
        rcases List.mem_cons.1 hy with rfl | hy
        · simpa using e
        · exact h5 y hy

def Dof (listed : Array Bool) (j : Nat) : Bool := listed.getD j false

theorem Dof_set {listed : Array Bool} {i : Nat} (hi : i < listed.size) (j : Nat) : Dof (listed.setIfInBounds i true) j = (Dof listed j || j == i) := by
  unfold Dof
  by_cases e : i = j
  · subst e; simp [hi]
  · rw [getD_set_ne false e, beq_eq_false_iff_ne.2 (fun h => e h.symm), Bool.or_false]

theorem ready_iff {listed : Array Bool} (hs : listed.size = ops.size) {i : Nat} {o : Oper} (ho : ops[i]? = some o) : i ∈ Region.ready .any ops listed ↔ Dof listed i = false ∧ ∀ e ∈ o.after, Region.binds .any e = true → Dof listed e.on = true := by
  have hlt : i < listed.size := by rw [hs]; exact (Array.getElem?_eq_some_iff.1 ho).1
  rw [mem_ready]
  have e1 : listed.getD i true = Dof listed i := by simp [Dof, hlt]
  constructor
  · rintro ⟨h1, o', h2, h3⟩
    rw [ho] at h2; cases h2
    exact ⟨by rw [← e1]; exact h1, h3⟩
  · rintro ⟨h1, h2⟩
    exact ⟨by rw [e1]; exact h1, o, ho, h2⟩

theorem region_ok (hT : T.Fits P) (hS : CodeOk P T S) (hC : CallOk P T S) (hplan : PlanOk ops (rs.map Rec.x)) (hchain : Chain T S ops [] fr0 st0 rs fr2 st2) (hg0 : GlobOk T k0) (hw0 : WR k0 st0 w0) {round : Option Nat} {F : Fence} (hF0 : FenceOk k0 round F) (n : Nat)
    {Q : Exit → Act → World → Prop} (hQ : ∀ k1 a1 w1, Later k0 k1 st0 st2 w0 w1 → FR k1 fr2 a1 → Q .normal a1 w1) :
    ∀ (fuel : Nat) (listed : Array Bool) (a : Act) (w : World) (k : K) (r1 r2 : List Rec) (σ : St) (reads : List (Nat × Nat)) (frm : Fr), listed.size = ops.size → Inv T S ops k0 fr0 st0 w0 rs fr2 st2 (Dof listed) r1 r2 σ reads frm k a w →
      (∀ q r2', r2 = q :: r2' → kdOf q.x.o = .any) → (rs.filter fun r => !Dof listed r.x.i).length = fuel → wpAnyIn F n P .any ops Q fuel listed a w := by
  have hent : ∀ r ∈ rs, ops[r.x.i]? = some r.x.o := fun r hr => by
    obtain ⟨l, m, e⟩ := List.append_of_mem hr
    exact (hplan.ent (l.map Rec.x) r.x (m.map Rec.x) (by rw [e]; simp)).1
  intro fuel
  induction fuel with
  | zero =>
    intro listed a w k r1 r2 σ reads frm hs h hhead hc
    have hall : ∀ r ∈ rs, Dof listed r.x.i = true := fun r hr => by
      have h0 := List.eq_nil_of_length_eq_zero hc
      have := List.filter_eq_nil_iff.1 h0 r hr
      simpa using this
    refine ⟨List.eq_nil_iff_forall_not_mem.2 fun i hi => ?_, ?_⟩
    · obtain ⟨_, o, ho, _⟩ := mem_ready.1 hi
      obtain ⟨x, hx, hxi⟩ := hplan.all i (Array.getElem?_eq_some_iff.1 ho).1
      obtain ⟨r, hr, rfl⟩ := List.mem_map.1 hx
      have := ((ready_iff hs ho).1 hi).1
      rw [← hxi, hall r hr] at this; cases this
    · have hnil : r2 = [] := by
        cases e : r2 with
        | nil => rfl
        | cons q r2' =>
          have h1 := hhead q r2' e
          have h2 := h.tail q (by rw [e]; simp) (by rw [h1]; simp)
          rw [hall q (by rw [h.split, e]; simp)] at h2; cases h2
      have hch := h.chain
      rw [hnil] at hch
      cases hch
      have hfr := h.fr
      rw [frOf_congr (E := fun _ => true) hall, ← hchain.frame] at hfr
      exact hQ _ _ _ h.later hfr
  | succ fuel ih =>
    intro listed a w k r1 r2 σ reads frm hs h hhead hc
    have hex : ∃ r ∈ rs, Dof listed r.x.i = false := by
      have h0 : (rs.filter fun r => !Dof listed r.x.i) ≠ [] := fun e => by rw [e] at hc; cases hc
      obtain ⟨r, hr⟩ := List.exists_mem_of_ne_nil _ h0
      have := List.mem_filter.1 hr
      exact ⟨r, this.1, by simpa using this.2⟩
    refine ⟨fun h0 => ?_, fun i hi => ?_⟩
    · exfalso
      obtain ⟨l, r, m, e, h1, h2⟩ := first_not (fun r : Rec => Dof listed r.x.i) rs hex
      have hmem : r.x.i ∈ Region.ready .any ops listed := by
        refine (ready_iff hs (hent r (by rw [e]; simp))).2 ⟨h1, fun d hd hb => ?_⟩
        obtain ⟨p, hp, hpi⟩ := hplan.edge (l := l.map Rec.x) (x := r.x) (r := m.map Rec.x) (by rw [e]; simp) d hd hb
        obtain ⟨q, hq, rfl⟩ := List.mem_map.1 hp
        rw [← hpi]; exact h2 q hq
      rw [h0] at hmem; cases hmem
    · obtain ⟨_, o, ho, _⟩ := mem_ready.1 hi
      obtain ⟨h1, h2⟩ := (ready_iff hs ho).1 hi
      have hlt := (Array.getElem?_eq_some_iff.1 ho).1
      obtain ⟨x, hx, hxi⟩ := hplan.all i hlt
      obtain ⟨r, hr, rfl⟩ := List.mem_map.1 hx
      subst hxi
      have := hent r hr
      rw [ho] at this; cases this
      have hset := Dof_set (listed := listed) (i := r.x.i) (by rw [hs]; exact hlt)
      refine Inv.step hT hS hC hplan hchain hg0 hw0 hF0 h hhead hr h1 h2 hset n fun r1' r2' σ' reads' frm' k' a' w' hinv => ?_
      obtain ⟨r1'', r2'', σ'', reads'', frm'', hinv', hhead'⟩ := hinv.advance
      refine ih _ _ _ _ _ _ _ _ _ (by simpa using hs) hinv' hhead' ?_
      obtain ⟨l, m, e⟩ := List.append_of_mem hr
      have hl := (plan_before hplan h.down e h2).2
      have hm := plan_after hplan h.down e h1
      have hne : ∀ q : Rec, q.x.i ≠ r.x.i → Dof (listed.setIfInBounds r.x.i true) q.x.i = Dof listed q.x.i := fun q hq => by
        rw [hset, beq_eq_false_iff_ne.2 hq, Bool.or_false]
      have e1 : l.filter (fun r' => !Dof (listed.setIfInBounds r.x.i true) r'.x.i) = l.filter fun r' => !Dof listed r'.x.i := List.filter_congr fun q hq => by rw [hne q (hl q hq).1]
      have e2 : m.filter (fun r' => !Dof (listed.setIfInBounds r.x.i true) r'.x.i) = m.filter fun r' => !Dof listed r'.x.i := List.filter_congr fun q hq => by rw [hne q (hm q hq).1]
      rw [e, List.filter_append, List.filter_cons_of_pos (by simp [h1])] at hc
      rw [e, List.filter_append, List.filter_cons_of_neg (by rw [hset]; simp), e1, e2]
      simp only [List.length_append, List.length_cons] at hc ⊢
      omega

theorem draw_ok (hT : T.Fits P) (hS : CodeOk P T S) (hC : CallOk P T S) : DrawOk P T S := by
  intro ops fr st fr' st' h k a w round F n hg hw hf hF Q hQ
  unfold evRegion at h
  rw [if_pos rfl] at h
  split at h
  · rename_i xs hxs
    obtain ⟨rs, h1, hchain⟩ := evDraw_chain _ _ _ _ _ _ h
    have hplan : PlanOk ops (rs.map Rec.x) := h1 ▸ planOf_ok hxs
    have h0 : ∀ j, Dof (Array.replicate ops.size false) j = false := fun j => by
      unfold Dof
      simp only [Array.getD_eq_getD_getElem?, Array.getElem?_replicate]
      split <;> rfl
    have hinv : Inv T S ops k fr st w rs fr' st' (Dof (Array.replicate ops.size false)) [] rs st [] fr k a w := by
      refine ⟨rfl, hchain, .refl hw, by rw [frOf_none fun r _ => h0 _]; exact hf, (fun x _ hd => by rw [h0] at hd; cases hd), (fun r hr => by cases hr), (fun r _ _ => h0 _), (fun r hr => by cases hr), .nil, (fun r hr => by cases hr)⟩
    obtain ⟨r1, r2, σ, reads, frm, hinv', hhead⟩ := hinv.advance
    refine region_ok hT hS hC hplan hchain hg hw hF n hQ _ _ _ _ _ _ _ _ _ _ (by simp) hinv' hhead ?_
    rw [List.filter_eq_self.2 fun r _ => by rw [h0]; rfl, ← hplan.size]; simp
  · cases h

end
end Go.Abs
namespace Go.Abs
section
variable {P : Program} {T : Tab}

theorem ev_ok (hT : T.Fits P) : ∀ n, CodeOk P T (ev T n) ∧ CallOk P T (ev T n) ∧ LoopOk P T (ev T n) n
  | 0 => ⟨fun _ _ _ _ _ _ _ h => by simp [ev] at h, fun _ _ _ _ _ h => by simp [ev] at h, fun _ _ _ _ _ _ _ h => by simp [ev] at h⟩
  | n + 1 => by
    obtain ⟨hS, hC, hL⟩ := ev_ok hT n
    exact ⟨evCode_ok hT hS hC (draw_ok hT hS hC) hL, evCall_ok hT hS, evLoop_ok hS hL⟩

/-- A call that the evaluator has run. -/
theorem ev_calls (hT : T.Fits P) {n : Nat} {f : FuncId} {args : List V} {st st' : St} {v : V} (h : (ev T n).call f args st = some (v, st')) {k : K} {w : World} {vs : List Value} (hg : GlobOk T k) (hw : WR k st w) (ha : VRs k args vs) (N : Nat) :
    CallsIn Fence.wide N P f ⟨vs⟩ w fun e w' => ∃ k' x, e = .returned x ∧ Later k k' st st' w w' ∧ VR k' v x :=
  ((ev_ok hT n).2.1 f args st v st' h).2 k w vs N hg hw ha

end
end Go.Abs
namespace Go.Abs
section
variable {T : Tab} {A B : S} {fr fr' : Fr} {st st' : St} {ops : Array Oper}

structure S.le (A B : S) : Prop where
  code : ∀ r c fr st x, A.code r c fr st = some x → B.code r c fr st = some x
  call : ∀ f a st x, A.call f a st = some x → B.call f a st = some x

theorem evYield_mono (h : A.le B) {l : Nat} {args : List V} {x : V × St} (e : evYield A l args st = some x) : evYield B l args st = some x := by
  unfold evYield at e ⊢
  split at e
  · cases e
  · rename_i hl
    rw [if_neg hl]
    split at e
    · cases e
    · rename_i r hr
      split at e
      · cases e
      · rename_i hp
        simp only [if_neg hp]
        split at e
        · rename_i fr1 st1 e1
          simp only [h.code _ _ _ _ _ e1]
          split at e
          · rename_i r1 hr1
            split at e
            · rename_i hb
              simp only [if_pos hb]
              split at e
              · rename_i e0 fr2 st2 e2
                simp only [h.code _ _ _ _ _ e2]
                exact e
              · cases e
            · cases e
          · cases e
        · cases e

theorem evInvoke_mono (h : A.le B) {f : V} {args : List V} {x : V × St} (e : evInvoke T A f args st = some x) : evInvoke T B f args st = some x := by
  unfold evInvoke at e ⊢
  split at e
  · split at e
    · exact e
    · exact h.call _ _ _ _ e
  · exact evYield_mono h e
  · cases e

theorem evMem_mono (h : A.le B) {op : Op} {x : V × St} (e : evMem T A fr st op = some x) : evMem T B fr st op = some x := by
  unfold evMem at e ⊢
  split at e
  · split at e
    · exact evInvoke_mono h e
    · cases e
  · exact e

theorem evOp_mono (h : A.le B) {o : Oper} {x : Fr × St} (e : evOp T A ops o fr st = some x) : evOp T B ops o fr st = some x := by
  unfold evOp at e ⊢
  split at e
  · rename_i hw
    rw [if_pos hw]
    split at e
    · exact e
    · split at e
      · cases e
      · rename_i hp
        simp only [Option.map_eq_some_iff] at e
        obtain ⟨y, h1, h2⟩ := e
        simp only [if_neg hp, evMem_mono h h1, Option.map_some, h2]
  · rename_i hw
    rw [if_neg hw]; exact e

theorem evOps_mono (h : A.le B) : ∀ {os : List Oper} {fr : Fr} {st : St} {x : Fr × St}, evOps T A ops os fr st = some x → evOps T B ops os fr st = some x
  | [], _, _, _, e => e
  | o :: os, fr, st, x, e => by
    unfold evOps at e ⊢
    split at e
    · rename_i e1
      simp only [evOp_mono h e1]
      exact evOps_mono h e
    · cases e

theorem evDraw_mono (h : A.le B) : ∀ {xs : List Ent} {reads : List (Nat × Nat)} {fr : Fr} {st : St} {x : Fr × St}, evDraw T A ops xs reads fr st = some x → evDraw T B ops xs reads fr st = some x
  | [], _, _, _, _, e => e
  | y :: xs, reads, fr, st, x, e => by
    unfold evDraw at e ⊢
    split at e
    · split at e
      · rename_i e1
        simp only [evOp_mono h e1]; exact evDraw_mono h e
      · cases e
    · split at e
      · rename_i e1
        simp only [evOp_mono h e1]; exact evDraw_mono h e
      · cases e
    · split at e
      · rename_i e1
        simp only [evOp_mono h e1]; exact evDraw_mono h e
      · cases e

theorem evRegion_mono (h : A.le B) {d : Bool} {x : Fr × St} (e : evRegion T A ops d fr st = some x) : evRegion T B ops d fr st = some x := by
  unfold evRegion at e ⊢
  split at e
  · rename_i hd
    rw [if_pos hd]
    split at e
    · exact evDraw_mono h e
    · cases e
  · rename_i hd
    rw [if_neg hd]; exact evOps_mono h e

theorem evCode_mono (h : A.le B) {r : Option Nat} {c : Code} {x : E × Fr × St} (e : evCode T A r c fr st = some x) : evCode T B r c fr st = some x := by
  unfold evCode at e ⊢
  split at e
  · exact e
  · exact e
  · simp only [Option.map_eq_some_iff] at e
    obtain ⟨y, h1, h2⟩ := e
    simp only [evRegion_mono h h1, Option.map_some, h2]
  · rename_i a b
    cases e1 : A.code r a fr st with
    | none => rw [e1] at e; cases e
    | some y =>
      rw [e1] at e
      rw [h.code _ _ _ _ _ e1]
      obtain ⟨q, fr1, st1⟩ := y
      cases q with
      | normal => exact h.code _ _ _ _ _ e
      | exit id => exact e
      | ret => exact e
  · split at e
    · exact h.code _ _ _ _ _ e
    · cases e
  · rename_i id b
    cases e1 : A.code r b fr st with
    | none => rw [e1] at e; cases e
    | some y => rw [e1] at e; rw [h.code _ _ _ _ _ e1]; exact e
  · rename_i b
    cases e1 : A.code r b fr st with
    | none => rw [e1] at e; cases e
    | some y =>
      rw [e1] at e
      rw [h.code _ _ _ _ _ e1]
      obtain ⟨q, fr1, st1⟩ := y
      cases q with
      | normal => exact h.code _ _ _ _ _ e
      | exit id => exact e
      | ret => exact e
  · exact h.code _ _ _ _ _ e
  · exact e
  · exact e
  · split at e
    · split at e
      · cases e
      · rename_i hx
        simp only [if_neg hx]
        split at e
        · cases e
        · dsimp only at e ⊢
          split at e
          · cases e
          · rename_i e1
            simp only [h.call _ _ _ _ e1]
            split at e
            · split at e
              · cases e
              · rename_i hb
                simp only [if_neg hb]
                split at e
                · exact e
                · exact h.code _ _ _ _ _ e
            · cases e
    · cases e
  · cases e

theorem evBody_mono (h : A.le B) {fn : Func} {args : List V} {x : V × St} (e : evBody T A fn args st = some x) : evBody T B fn args st = some x := by
  unfold evBody at e ⊢
  split at e
  · cases e
  · rename_i c hc
    cases e1 : A.code none c { tmps := args ++ List.replicate (fn.ntmps - args.length) (.tup []), marks := [] } st with
    | none => rw [e1] at e; cases e
    | some y => rw [e1] at e; rw [h.code _ _ _ _ _ e1]; exact e

theorem evCall_mono (h : A.le B) {f : FuncId} {args : List V} {x : V × St} (e : evCall T A f args st = some x) : evCall T B f args st = some x := by
  unfold evCall at e ⊢
  split at e
  · cases e
  · split at e
    · exact evBody_mono h e
    · unfold evRo at e ⊢
      split at e
      · cases e
      · split at e
        · cases e
        · rename_i e1
          simp only [evBody_mono h e1]; exact e
    · split at e
      · split at e
        · rename_i hx
          simp only [if_pos hx]
          split at e
          · rename_i e1 e2
            simp only [evBody_mono h e1, evBody_mono h e2]; exact e
          · cases e
        · rename_i hx
          simp only [if_neg hx]
          exact evBody_mono h e
      · cases e

theorem ev_le (T : Tab) : ∀ n, (ev T n).le (ev T (n + 1))
  | 0 => ⟨fun _ _ _ _ _ h => by simp [ev] at h, fun _ _ _ _ h => by simp [ev] at h⟩
  | n + 1 => ⟨fun _ _ _ _ _ h => evCode_mono (ev_le T n) h, fun _ _ _ _ h => evCall_mono (ev_le T n) h⟩

theorem ev_mono {n m : Nat} (hnm : n ≤ m) : (ev T n).le (ev T m) := by
  induction hnm with
  | refl => exact ⟨fun _ _ _ _ _ h => h, fun _ _ _ _ h => h⟩
  | step _ ih => exact ⟨fun _ _ _ _ _ h => (ev_le T _).code _ _ _ _ _ (ih.code _ _ _ _ _ h), fun _ _ _ _ h => (ev_le T _).call _ _ _ _ (ih.call _ _ _ _ h)⟩

end
end Go.Abs
namespace Go.Abs

def tyOf (P : Program) (t : TypeId) : Option TI :=
  match P.info? t, P.underlying t with
  | some info, some u => match info.zero with
    | some z => match ofValue z with
      | some z => if z.cells.length = info.size then some { size := info.size, bytes := info.bytes, agg := u.isRow, zero := z, und := u, plain := !(P.eqGuardType P.depth t) && !(P.stoodInHeld t) } else none
      | none => none
    | none => none
  | _, _ => none

def Tab.of (P : Program) (glob : Nat → Option (List V)) (mode : FuncId → CallMode) (ext : FuncId → Option Ext) : Tab :=
  { ty := tyOf P, fn := fun f => P.funcs[f]?, glob, mode, ext }

theorem Tab.of_fits {P : Program} {glob : Nat → Option (List V)} {mode : FuncId → CallMode} {ext : FuncId → Option Ext} (hn : ∀ (f : Nat) (F : Func), P.funcs[f]? = some F → F.name ≠ "runtime.NumGoroutine")
    (hx : ∀ f e, ext f = some e → ∀ (args : Array Value) (w : World), (callFunc f args).run P w = ((do pure (Next.value (← extSem e args))) : Sem Next).run P w) (hm : P.follows .mixedOrders = true) : (Tab.of P glob mode ext).Fits P where
  ty := by
    intro t ti h
    simp only [Tab.of, tyOf] at h
    split at h
    · rename_i info u h1 h2
      split at h
      · rename_i z h3
        split at h
        · rename_i z' h4
          split at h
          · cases h
            exact ⟨info, z, h1, rfl, rfl, h3, h4, h2, rfl, fun h => by simpa using h⟩
          · cases h
        · cases h
      · cases h
    · cases h
  zs := by
    intro t ti h
    simp only [Tab.of, tyOf] at h
    split at h
    · split at h
      · split at h
        · split at h
          · rename_i hz
            cases h; exact hz
          · cases h
        · cases h
      · cases h
    · cases h
  fn := fun f F h => h
  name := fun f F h => hn f F h
  ext := hx
  mixed := hm

end Go.Abs
