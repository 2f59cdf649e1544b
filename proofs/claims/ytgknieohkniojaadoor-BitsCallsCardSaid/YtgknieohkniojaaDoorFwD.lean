/- Operations and regions in the order of the text; the frame's facts. One operation, and operations one behind the other. Code, from what is called and what lies within. Calls of functions with a body. Calls that change nothing: answers are frozen, what was made is forgotten. Calls that change nothing; calls. -/
import Derived.Test.YtgknieohkniojaaDoorFwC
import Derived.TacticsIn
import Derived.Lib.Bytealg
import Derived.Scope
import Derived.LoopNIn
set_option linter.unusedVariables false
set_option linter.unusedSimpArgs false
set_option linter.unnecessarySimpa false
set_option linter.all false
namespace Go.Abs
section
variable {P : Program} {T : Tab} {k : K} {st st' : St} {w : World} {fr : Fr} {a : Act}

/-- The fence of a frame: of a function, or of a round of the loop in block b. -/
def FenceOk (k : K) (round : Option Nat) (F : Fence) : Prop :=
  match round with
  | none => F = Fence.wide
  | some l => ∃ g, k.ρ l = some g ∧ F = Fence.wide.inRound g.b

theorem FenceOk.mono {k k' : K} (hk : k.le k') {round : Option Nat} {F : Fence} (h : FenceOk k round F) : FenceOk k' round F := by
  cases round with
  | none => exact h
  | some l => obtain ⟨g, h1, h2⟩ := h; exact ⟨g, hk.ρ _ _ h1, h2⟩

theorem FenceOk.fn {round : Option Nat} {F : Fence} (h : FenceOk k round F) (f : FuncId) : F.fn f := by
  cases round with
  | none => cases h; trivial
  | some l => obtain ⟨g, _, rfl⟩ := h; trivial

theorem FenceOk.depth {round : Option Nat} {F : Fence} (h : FenceOk k round F) : F.depth = none := by
  cases round with
  | none => cases h; rfl
  | some l => obtain ⟨g, _, rfl⟩ := h; rfl

/-- A contract of a function holds in every such fence. -/
theorem FenceOk.calls {round : Option Nat} {F : Fence} (h : FenceOk k round F) {n : Nat} {f : FuncId} {args : Array Value} {R : Ending → World → Prop} (hc : CallsIn Fence.wide n P f args w R) : CallsIn F n P f args w R := by
  cases round with
  | none => cases h; exact hc
  | some l => obtain ⟨g, _, rfl⟩ := h; exact hc

inductive XRel : E → Exit → Prop
  | normal : XRel .normal .normal
  | exit (id : Nat) : XRel (.exit id) (.exit id)
  | ret : XRel .ret .ret

/-- What the evaluator's words on code mean. -/
def CodeOk (P : Program) (T : Tab) (S : S) : Prop :=
  ∀ round c fr st e fr' st', S.code round c fr st = some (e, fr', st') → ∀ k a w F n, GlobOk T k → WR k st w → FR k fr a → FenceOk k round F →
    c.wpIn F n P (fun x a' w' => ∃ k', Later k k' st st' w w' ∧ FR k' fr' a' ∧ XRel e x) a w

/-- What the evaluator's words on calls mean. -/
def CallOk (P : Program) (T : Tab) (S : S) : Prop :=
  ∀ f args st v st', S.call f args st = some (v, st') → (∃ fn, P.funcs[f]? = some fn ∧ fn.body.isSome = true ∧ fn.name ≠ "runtime.NumGoroutine") ∧
    ∀ k w vs n, GlobOk T k → WR k st w → VRs k args vs → CallsIn Fence.wide n P f ⟨vs⟩ w fun e w' => ∃ k' x, e = .returned x ∧ Later k k' st st' w w' ∧ VR k' v x

theorem evYielded_eq (hf : FR k fr a) (ops : Array Oper) (j : Nat) : evYielded ops fr j = yielded ops a.tmps j := by
  unfold evYielded yielded
  cases (ops[j]?).bind (·.dst) with
  | none => rfl
  | some d =>
    simp only [Option.bind_some]
    rcases Nat.lt_or_ge d fr.tmps.length with hl | hl
    · obtain ⟨x, h1, h2⟩ := hf.tmps.get d _ (List.getElem?_eq_getElem hl)
      have h1' : a.tmps[d]? = some x := by simpa using h1
      rw [List.getElem?_eq_getElem hl, h1']
      generalize fr.tmps[d] = v at h2
      cases h2 <;> rfl
    · have : a.tmps.size ≤ d := by have := hf.tmps.length; simp at this; omega
      rw [List.getElem?_eq_none hl, Array.getElem?_eq_none this]

theorem wanted_eq (hf : FR k fr a) (ops : Array Oper) (o : Oper) : Region.wanted o (evYielded ops fr) = Region.wanted o (yielded ops a.tmps) := by
  unfold Region.wanted
  cases o.guard with
  | none => rfl
  | some g => obtain ⟨j, b⟩ := g; simp only [evYielded_eq hf]

theorem run_callFunc {f : FuncId} {fn : Func} (hf : P.funcs[f]? = some fn) (hb : fn.body.isSome = true) (hn : fn.name ≠ "runtime.NumGoroutine") (args : Array Value) : (callFunc f args).run P w = .ok (.enter f args) w := by
  have h1 : (fn.name == "runtime.NumGoroutine") = false := by simpa using hn
  have h2 : fn.body.isNone = false := by cases h : fn.body with | none => rw [h] at hb; cases hb | some c => rfl
  simp only [callFunc, Sem.run_bind, run_program, Result.andThen_ok, hf, h1, Bool.false_eq_true, if_false, h2, Sem.run_pure]

theorem foldl_set_list : ∀ (ps : List Tmp) (xs : List Value) (arr : Array Value), ((ps.zip xs).foldl (fun (t : Array Value) (p : Tmp × Value) => t.setIfInBounds p.1 p.2) arr).toList = (ps.zip xs).foldl (fun (t : List Value) (p : Tmp × Value) => t.set p.1 p.2) arr.toList
  | [], _, _ => rfl
  | _ :: _, [], _ => rfl
  | p :: ps, x :: xs, arr => by
    simp only [List.zip_cons_cons, List.foldl_cons]
    rw [foldl_set_list ps xs, Array.toList_setIfInBounds]

theorem setParams_vr : ∀ (ps : List Tmp) {args : List V} {xs : List Value} {ts : List V} {us : List Value}, VRs k args xs → VRs k ts us →
    VRs k (setParams ps args ts) ((ps.zip xs).foldl (fun (t : List Value) (p : Tmp × Value) => t.set p.1 p.2) us)
  | [], _, _, _, _, _, h => by simpa [setParams] using h
  | p :: ps, _, _, _, _, .nil, h => by simpa [setParams] using h
  | p :: ps, _, _, _, _, .cons hx hs, h => by
    simp only [setParams, List.zip_cons_cons, List.foldl_cons]
    exact setParams_vr ps hs (h.set p hx)

/-- A loop's record, in the world. -/
theorem loop_obj (hw : WR k st w) {l : Nat} {g : G} (hg : k.ρ l = some g) {r : L} (h : st.loop l = some r) : st.store[l]? = some (.loop r) ∧ ∃ vs fn gd, k.ρ r.defers = some gd ∧ VRs k r.tmps vs ∧
    w.heap[g.b]? = some (.loop { state := r.state, pending := r.pending, fn, tmps := vs.toArray, params := r.params, assign := r.assign, body := r.body, defers := gd.b }) := by
  unfold St.loop at h
  split at h
  · rename_i r' hr
    cases h
    obtain ⟨ob, h1, h2⟩ := hw.obj l g hg
    rw [hr] at h1; cases h1
    cases h2 with
    | loop _ vs fn gd hd hv hh => exact ⟨hr, vs, fn, gd, hd, hv, hh⟩
  · cases h

theorem run_getLoop {b : Nat} {lp : Loop} (h : w.heap[b]? = some (.loop lp)) : (Instr.getLoop b).run P w = .ok lp w := by
  simp [Instr.getLoop, getObj, Sem.run, Sem.run_bind, h]

theorem run_setLoop {b : Nat} {lp : Loop} (h : w.heap[b]? = some (.loop lp)) (o : Obj) : (setObj b o).run P w = .ok () { w with heap := w.heap.setIfInBounds b o } := by
  simp [setObj, Sem.run, h]

/-- A loop's record is turned. -/
theorem loop_turn (hw : WR k st w) {l : Nat} {g : G} (hg : k.ρ l = some g) (hlk : st.locked l = false) {r : L} (hs : st.store[l]? = some (.loop r)) (r' : L) {vs : List Value} {fn : FuncId} {gd : G} (hd : k.ρ r'.defers = some gd) (hv : VRs k r'.tmps vs) {lp : Loop} (hh : w.heap[g.b]? = some (.loop lp)) :
    Later k k st { st with store := st.store.set l (.loop r') } w { w with heap := w.heap.setIfInBounds g.b (.loop { state := r'.state, pending := r'.pending, fn, tmps := vs.toArray, params := r'.params, assign := r'.assign, body := r'.body, defers := gd.b }) } := by
  have hlt := hw.bound l g hg
  refine Later.turn hw hg hlk (by rw [hs]; simp) (.loop r') rfl rfl rfl (by simp) (fun b hb => by simp only; rw [Array.getElem?_setIfInBounds_ne (Ne.symm hb)]) (fun o v hi => ?_) ?_
  · have := hw.imm _ _ _ hi
    rw [cell?_of hh] at this; cases this
  · refine .loop r' vs fn gd hd hv ?_
    simp only
    rw [Array.getElem?_setIfInBounds_self_of_lt hlt]

theorem Later.lock {k k' : K} {st st' : St} {w w' : World} (h : Later k k' st st' w w') (r : Nat) : st'.locked r = st.locked r := let ⟨_, h⟩ := h; h.locked r

/-- A round of a loop over a function. -/
theorem evYield_sim {S : S} (hc : CodeOk P T S) (hg : GlobOk T k) (hw : WR k st w) {l : Nat} {g : G} (hl : k.ρ l = some g) {args : List V} {xs : List Value} (ha : VRs k args xs) {v : V} (h : evYield S l args st = some (v, st')) {F : Fence} {round : Option Nat} (hF : FenceOk k round F) (n : Nat) :
    ∃ f tmps assign body, (Instr.yield g.b ⟨xs⟩).run P w = .ok (.round g.b f tmps assign body) w ∧ RoundIn F n P g.b f tmps assign body w fun e w' => ∃ k' x, e = .returned x ∧ Later k k' st st' w w' ∧ VR k' v x := by
  unfold evYield at h
  split at h
  · cases h
  · rename_i hlk
    have hlk0 : st.locked l = false := by simpa using hlk
    split at h
    · cases h
    · rename_i r hr
      split at h
      · cases h
      · rename_i hps
        obtain ⟨_, vs, fn, gd, hd, hv, hh⟩ := loop_obj hw hl hr
        split at h
        · rename_i fr1 st1 e1
          split at h
          · rename_i r1 hr1
            split at h
            · rename_i hready
              split at h
              · rename_i e fr2 st2 e2
                split at h
                · rename_i r2 hr2
                  cases h
                  have hxs : xs.length = r.params.size := by rw [← ha.length]; simpa using hps
                  refine ⟨fn, (r.params.zip ⟨xs⟩).foldl (fun tmps (t, a) => tmps.setIfInBounds t a) vs.toArray, r.assign, r.body, ?_, ?_⟩
                  · simp only [Instr.yield, Sem.run_bind, run_getLoop hh, Result.andThen_ok]
                    rw [if_neg (by simp [hxs])]
                    rfl
                  · refine roundIn_of_wpIn (hF.fn _) ?_
                    have hFr : F.inRound g.b = Fence.wide.inRound g.b := by
                      cases round with
                      | none => cases hF; rfl
                      | some l' => obtain ⟨g', _, rfl⟩ := hF; rfl
                    rw [hFr]
                    have hfr0 : FR k { tmps := setParams r.params.toList args r.tmps, marks := [] } { tmps := (r.params.zip ⟨xs⟩).foldl (fun tmps (t, a) => tmps.setIfInBounds t a) vs.toArray, defers := [] } := by
                      refine ⟨?_, [], by simp, rfl, rfl⟩
                      have := setParams_vr (k := k) r.params.toList ha hv
                      have e : ((r.params.zip ⟨xs⟩).foldl (fun (tmps : Array Value) (p : Tmp × Value) => tmps.setIfInBounds p.1 p.2) vs.toArray).toList = (r.params.toList.zip xs).foldl (fun (t : List Value) (p : Tmp × Value) => t.set p.1 p.2) vs := by
                        rw [← Array.foldl_toList, Array.toList_zip, foldl_set_list]
                      rw [← e] at this
                      exact this
                    refine wpIn_mono (hc _ _ _ _ _ _ _ e1 k _ w _ n hg hw hfr0 ⟨g, hl, rfl⟩) ?_
                    rintro x a1 w1 ⟨k1, hL1, hf1, hE⟩
                    cases hE
                    show ∃ w₂, _
                    have hl1 := hL1.le.ρ _ _ hl
                    obtain ⟨hs1, vs1, fn1, gd1, hd1, hv1, hh1⟩ := loop_obj hL1.wr hl1 hr1
                    have hT2 := loop_turn (fn := fn1) (gd := gd1) hL1.wr hl1 (by rw [hL1.lock]; exact hlk0) hs1 { r1 with state := .busy } hd1 hv1 hh1
                    refine ⟨_, ?_, wpIn_mono (hc _ _ _ _ _ _ _ e2 k1 a1 _ _ n (hg.mono hL1.le) hT2.wr hf1 ⟨g, hl1, rfl⟩) ?_⟩
                    · simp only [Instr.beginRound, Sem.run_bind, run_getLoop hh1, Result.andThen_ok, run_setLoop hh1, hready]
                      rfl
                    · rintro x a2 w2 ⟨k2, hL2, hf2, hE⟩
                      have hl2 := hL2.le.ρ _ _ hl1
                      obtain ⟨hs2, vs2, fn2, gd2, hd2, hv2, hh2⟩ := loop_obj hL2.wr hl2 hr2
                      have hlk2 : st2.locked l = false := by rw [hL2.lock, hT2.lock, hL1.lock]; exact hlk0
                      have hT3 := loop_turn (fn := fn2) (gd := gd2) hL2.wr hl2 hlk2 hs2 { r2 with state := (roundEnd e).1, pending := (roundEnd e).2.1 } hd2 hv2 hh2
                      have hall := ((hL1.trans hw hT2).trans hw hL2).trans hw hT3
                      have hend : ∀ jump : Option Code, (Instr.endRound g.b jump).run P w2 = .ok (.bool jump.isNone) { w2 with heap := w2.heap.setIfInBounds g.b (.loop { state := if jump.isNone then .ready else .done, pending := jump, fn := fn2, tmps := vs2.toArray, params := r2.params, assign := r2.assign, body := r2.body, defers := gd2.b }) } := by
                        intro jump
                        simp only [Instr.endRound, Sem.run_bind, run_getLoop hh2, Result.andThen_ok, run_setLoop hh2, Sem.run_pure]
                      cases hE with
                      | normal => exact ⟨_, _, hend none, k2, _, rfl, hall, .bool _⟩
                      | exit id => exact ⟨_, _, hend (some (.exit id)), k2, _, rfl, hall, .bool _⟩
                      | ret => exact ⟨_, _, hend (some .ret), k2, _, rfl, hall, .bool _⟩
                · cases h
              · cases h
            · cases h
          · cases h
        · cases h

end
end Go.Abs
namespace Go.Abs
section
variable {P : Program} {T : Tab} {k : K} {st st' : St} {w : World} {fr : Fr} {a : Act}

theorem find_congr {α : Type} {p q : α → Bool} : ∀ {l : List α}, (∀ x ∈ l, p x = q x) → l.find? p = l.find? q
  | [], _ => rfl
  | x :: l, h => by
    rw [List.find?_cons, List.find?_cons, h x (by simp), find_congr fun y hy => h y (by simp [hy])]

theorem count_filter (c : UInt8) (l : List UInt8) : Go.Lib.countByte l c = (l.filter (· == c)).length := by
  unfold Go.Lib.countByte
  rw [List.count_eq_countP, List.countP_eq_length_filter]

theorem evExt_sim {e : Ext} {args : List V} {xs : List Value} {v : V} (ha : VRs k args xs) (h : evExt e args st = some (v, st')) : st' = st ∧ ∃ x, (extSem e ⟨xs⟩).run P w = .ok x w ∧ VR k v x := by
  unfold evExt at h
  split at h
  · rename_i s c
    cases ha with | cons hx hs => cases hs with | cons hy hs => cases hs with | nil =>
    cases hx with | str s => cases hy with | int _ _ =>
    have hfind : ((List.range s.size).find? fun i => s[i]! == c.toNat.toUInt8) = ((List.range s.data.toList.length).find? fun i => s.data.toList[i]? == some c.toNat.toUInt8) := by
      have e : s.data.toList.length = s.size := rfl
      rw [e]
      refine find_congr fun i hi => ?_
      have hi' : i < s.size := by simpa using hi
      have h1 : s.data.toList[i]? = some s[i]! := by
        rw [← ba_get, getElem?_pos s i hi', getElem!_pos s i hi']
      rw [h1]; rfl
    have hrun : ∀ x y : Value, (extSem .indexByteString ⟨[.string s, .int .u8 c]⟩) = (match (List.range s.size).find? (fun i => s[i]! == c.toNat.toUInt8) with | some i => (pure (goInt i) : Sem Value) | none => pure (goInt (-1))) := fun _ _ => rfl
    split at h
    · rename_i i hi
      cases h
      refine ⟨rfl, _, ?_, .int _ _⟩
      rw [hrun undef undef, hfind, hi]; rfl
    · rename_i hi
      cases h
      refine ⟨rfl, _, ?_, .int _ _⟩
      rw [hrun undef undef, hfind, hi]; rfl
  · rename_i s c
    cases ha with | cons hx hs => cases hs with | cons hy hs => cases hs with | nil =>
    cases hx with | str s => cases hy with | int _ _ =>
    cases h
    refine ⟨rfl, _, ?_, .int _ _⟩
    rename_i c
    have := Go.Lib.run_countString (P := P) s c w
    rw [count_filter] at this
    exact this
  · cases h

theorem about_trivial {round : Option Nat} {F : Fence} (hF : FenceOk k round F) (o : Oper) : ∀ f, o.about P w a.eval = some f → F.fn f := fun f _ => hF.fn f

theorem isPure_semAt {o : Oper} (F : Option Nat) (h : ∀ c, o.op ≠ .defer c) (ρ : Operand → Value) : o.semAt F ρ = execOp ρ o := by
  cases F with
  | none => exact Oper.semAt_none ρ o
  | some l => exact Oper.semAt_some l ρ o h

theorem evOp_sim (hT : T.Fits P) {S : S} (hS : CodeOk P T S) (hC : CallOk P T S) {ops : Array Oper} {o : Oper} {fr1 : Fr} {st1 : St} (h : evOp T S ops o fr st = some (fr1, st1)) (hg : GlobOk T k) (hw : WR k st w) (hf : FR k fr a)
    {round : Option Nat} {F : Fence} (hF : FenceOk k round F) (n : Nat) {next : Act → World → Prop} {Q : Exit → Act → World → Prop} (hnext : ∀ k1 a1 w1, Later k k1 st st1 w w1 → FR k1 fr1 a1 → next a1 w1) :
    if Region.wanted o (yielded ops a.tmps) then o.wpIn F n P a w next Q else (∀ f, o.about P w a.eval = some f → F.fn f) ∧ next (a.put o.dst undef) w := by
  unfold evOp at h
  rw [wanted_eq hf] at h
  split
  · rename_i hwd
    rw [if_pos hwd] at h
    refine ⟨about_trivial hF o, ?_⟩
    have hsem : ∀ v, (evPure T fr o.op = some v ∨ evMem T S fr st o.op = some (v, st1)) → o.semAt F.round a.eval = execOp a.eval o := by
      intro v hv
      refine isPure_semAt _ (fun c hc => ?_) _
      rw [hc] at hv
      rcases hv with hv | hv
      · simp [evPure] at hv
      · simp [evMem, evMem0] at hv
    cases hp : evPure T fr o.op with
    | some v =>
      rw [hp] at h
      cases h
      obtain ⟨x, h1, h2⟩ := evPure_sim (w := w) hT hg hf hp
      rw [hsem v (.inl hp), h1]
      exact hnext k _ w (.refl hw) (hf.put o.dst h2)
    | none =>
      rw [hp] at h
      simp only at h
      split at h
      · cases h
      · simp only [Option.map_eq_some_iff, Prod.mk.injEq] at h
        obtain ⟨⟨v, st2⟩, hm, rfl, rfl⟩ := h
        rw [hsem v (.inr hm)]
        have hfin : ∀ k1 w1 x, Later k k1 st st2 w w1 → VR k1 v x → next (a.put o.dst x) w1 := fun k1 w1 x hL hv => hnext k1 _ w1 hL ((hf.mono hL.le).put o.dst hv)
        unfold evMem at hm
        split at hm
        · -- a call of a value
          rename_i f args argTypes hop
          split at hm
          · rename_i fv avs e1 e2
            have hfv := evArg_vr hg hf e1
            have hav := evArgs_vr hg hf e2
            have hexec : (execOp a.eval o).run P w = ((do let d ← Deferred.ofValue (a.eval f) (args.map a.eval); invoke d.target d.args) : Sem Next).run P w := by
              unfold execOp; rw [hop]; rfl
            rw [hexec]
            generalize a.eval f = X at hfv
            have hargs : VRs k avs (args.map a.eval).toList := by simpa using hav
            generalize args.map a.eval = As at hargs
            obtain ⟨As⟩ := As
            unfold evInvoke at hm
            split at hm
            · -- a function
              rename_i fid first captured
              cases hfv with | func _ _ _ as bs h1 h2 =>
              have hall : VRs k (first ++ avs ++ captured) (as ++ As ++ bs) := (h1.append hargs).append h2
              have hinv : ((do let d ← Deferred.ofValue (.func (.func fid) ⟨as⟩ ⟨bs⟩) ⟨As⟩; invoke d.target d.args) : Sem Next).run P w = (callFunc fid ⟨as ++ As ++ bs⟩).run P w := by
                simp only [Deferred.ofValue, Sem.run_bind, Sem.run_pure, Result.andThen_ok, invoke]
                congr 2
                apply Array.ext'; simp
              rw [hinv]
              split at hm
              · rename_i ex hex
                obtain ⟨rfl, x, h3, h4⟩ := evExt_sim (P := P) (w := w) hall hm
                rw [hT.ext fid ex hex]
                simp only [Sem.run_bind, h3, Result.andThen_ok, Sem.run_pure]
                exact hfin k w x (.refl hw) h4
              · obtain ⟨⟨fn, hfn, hb, hnm⟩, hcall⟩ := hC _ _ _ _ _ hm
                rw [run_callFunc hfn hb hnm]
                refine ⟨(fun hd => by rw [hF.depth] at hd; cases hd), hF.calls (CallsIn.mono (hcall k w _ (n - 1) hg hw hall) ?_)⟩
                rintro e w1 ⟨k1, x, rfl, hL, hv⟩
                exact hfin k1 w1 x hL hv
            · -- yield
              rename_i l
              cases hfv with | yield _ g hgl =>
              have hinv : ((do let d ← Deferred.ofValue (.func (.yield g.b) #[] #[]) ⟨As⟩; invoke d.target d.args) : Sem Next).run P w = (Instr.yield g.b ⟨As⟩).run P w := by
                simp only [Deferred.ofValue, Sem.run_bind, Sem.run_pure, Result.andThen_ok, invoke]
                congr 2
                apply Array.ext'; simp
              rw [hinv]
              obtain ⟨f', tmps, assign, body, h1, h2⟩ := evYield_sim (P := P) hS hg hw hgl hargs hm hF (n - 1)
              rw [h1]
              refine ⟨(fun hd => by rw [hF.depth] at hd; cases hd), RoundIn.mono h2 ?_⟩
              rintro e w1 ⟨k1, x, rfl, hL, hv⟩
              exact hfin k1 w1 x hL hv
            · cases hm
          · cases hm
        · -- no call
          obtain ⟨x, w1, k1, h1, hL, hv⟩ := evMem0_sim hT hg hf hw hm
          rcases h1 with h1 | ⟨h1, rfl⟩
          · rw [h1]; exact hfin k1 w1 x hL hv
          · rw [h1]; exact hfin k1 w1 undef hL hv
  · rename_i hwd
    rw [if_neg hwd] at h
    cases h
    exact ⟨about_trivial hF o, hnext k _ w (.refl hw) (hf.put o.dst (vr_undef k))⟩

theorem evOps_sim (hT : T.Fits P) {S : S} (hS : CodeOk P T S) (hC : CallOk P T S) {ops : Array Oper} : ∀ {l : List Oper} {k : K} {st : St} {w : World} {fr : Fr} {a : Act} {fr1 : Fr} {st1 : St}, evOps T S ops l fr st = some (fr1, st1) → GlobOk T k → WR k st w → FR k fr a →
    ∀ {round : Option Nat} {F : Fence}, FenceOk k round F → ∀ (n : Nat) {Q : Exit → Act → World → Prop}, (∀ k1 a1 w1, Later k k1 st st1 w w1 → FR k1 fr1 a1 → Q .normal a1 w1) → wpListIn F n P ops Q l a w
  | [], k, st, w, fr, a, fr1, st1, h, _, hw, hf, round, F, _, n, Q, hQ => by
    simp only [evOps, Option.some.injEq, Prod.mk.injEq] at h
    obtain ⟨rfl, rfl⟩ := h
    exact hQ k a w (.refl hw) hf
  | o :: os, k, st, w, fr, a, fr1, st1, h, hg, hw, hf, round, F, hF, n, Q, hQ => by
    unfold evOps at h
    split at h
    · rename_i fr2 st2 e
      unfold wpListIn
      exact evOp_sim hT hS hC e hg hw hf hF n fun k2 a2 w2 hL hf2 =>
        evOps_sim hT hS hC h (hg.mono hL.le) hL.wr hf2 (hF.mono hL.le) n fun k3 a3 w3 hL3 hf3 => hQ k3 a3 w3 (hL.trans hw hL3) hf3
    · cases h

end
end Go.Abs
namespace Go.Abs
section
variable {P : Program} {T : Tab} {k : K} {st st' : St} {w : World} {fr : Fr} {a : Act}

/-- What the evaluator's words on a region that draws its order mean. -/
def DrawOk (P : Program) (T : Tab) (S : S) : Prop :=
  ∀ (ops : Array Oper) (fr : Fr) (st : St) (fr' : Fr) (st' : St), evRegion T S ops true fr st = some (fr', st') → ∀ k a w round F n, GlobOk T k → WR k st w → FR k fr a → FenceOk k round F →
    ∀ Q : Exit → Act → World → Prop, (∀ k1 a1 w1, Later k k1 st st' w w1 → FR k1 fr' a1 → Q .normal a1 w1) → wpAnyIn F n P .any ops Q ops.size (Array.replicate ops.size false) a w

theorem stepR_scope {b : Frame} {a : Act} {c : Code} {k : List Item} {cs : List Frame} {w : World} : step P (lone (b.atR a (.code (.scope c) :: k)) cs w) = .next (lone (b.atR a (.code c :: .inScope c :: k)) cs w) :=
  step_lone_go (by simp [stepG, stepG.exec, Frame.atR])
theorem stepR_inScope {b : Frame} {a : Act} {c : Code} {k : List Item} {cs : List Frame} {w : World} : step P (lone (b.atR a (.inScope c :: k)) cs w) = .next (lone (b.atR a k) cs w) :=
  step_lone_go (by simp [stepG, stepG.exec, Frame.atR])

theorem wpIn_scope {F : Fence} {n : Nat} {Q : Exit → Act → World → Prop} {c : Code} (h : c.wpIn F n P (Exit.noGoto Q) a w) : (Code.scope c).wpIn F n P Q a w := by
  intro b k cs hro hb hr
  have h0 : (lone (b.atR a (.code (.scope c) :: k)) cs w).fenced P F := fenced_calm hb hr rfl
  obtain ⟨e, a₁, w₁, hq, harr⟩ := h b (.inScope c :: k) cs hro hb hr
  cases e with
  | normal => exact ⟨.normal, a₁, w₁, hq, .head h0 stepR_scope (StepsIn.trans harr (.one (fenced_calm hb hr rfl) stepR_inScope))⟩
  | exit id =>
    have hx : exitTo id (.inScope c :: k) = exitTo id k := by simp [exitTo]
    exact ⟨.exit id, a₁, w₁, hq, fun k' hk => .head h0 stepR_scope (harr.1 k' (by rw [hx]; exact hk)),
      fun hr' hk => let ⟨k₁, h1, h2⟩ := harr.2 hr' (by rw [hx]; exact hk); ⟨k₁, h1, .head h0 stepR_scope h2⟩⟩
  | goto l => exact hq.elim
  | ret => exact ⟨_, a₁, w₁, hq, .of_steps (.one h0 stepR_scope) harr⟩
  | panic ch => exact ⟨_, a₁, w₁, hq, .of_steps (.one h0 stepR_scope) harr⟩
  | outgrown => exact ⟨_, a₁, w₁, hq, .of_steps (.one h0 stepR_scope) harr⟩

/-- The post of a piece of code. -/
def Post (k : K) (st st' : St) (w : World) (e : E) (fr' : Fr) (x : Exit) (a' : Act) (w' : World) : Prop := ∃ k', Later k k' st st' w w' ∧ FR k' fr' a' ∧ XRel e x

theorem roundsIn_mono {F : Fence} {n : Nat} {c : Code} {Q Q' : Exit → Act → World → Prop} (hq : ∀ e a w, Q e a w → Q' e a w) : ∀ (m : Nat) {a : Act} {w : World}, Code.roundsIn F n P c Q m a w → Code.roundsIn F n P c Q' m a w
  | 0, _, _, h => h.elim
  | m + 1, a, w, h => wpIn_mono (c := c) h fun e a' w' he => by
    cases e with
    | normal => exact roundsIn_mono hq m he
    | _ => exact hq _ _ _ he

/-- What the evaluator's words on a loop mean: so many rounds at most. -/
def LoopOk (P : Program) (T : Tab) (S : S) (m : Nat) : Prop :=
  ∀ round b fr st e fr' st', S.code round (.loop b) fr st = some (e, fr', st') → ∀ k a w F n, GlobOk T k → WR k st w → FR k fr a → FenceOk k round F → Code.roundsIn F n P b (Post k st st' w e fr') m a w

theorem evLoop_ok {S : S} (hS : CodeOk P T S) {m : Nat} (hL : LoopOk P T S m) : LoopOk P T { code := evCode T S, call := evCall T S } (m + 1) := by
  intro round b fr st e fr' st' h k a w F n hg hw hf hF
  simp only [evCode] at h
  rw [roundsIn_succ]
  split at h
  · rename_i fr1 st1 e1
    refine wpIn_mono (hS _ _ _ _ _ _ _ e1 k a w F n hg hw hf hF) ?_
    rintro x1 a1 w1 ⟨k1, hL1, hf1, hE⟩
    cases hE
    refine roundsIn_mono ?_ m (hL round b fr1 st1 e fr' st' h k1 a1 w1 F n (hg.mono hL1.le) hL1.wr hf1 (hF.mono hL1.le))
    rintro x2 a2 w2 ⟨k2, hL2, hf2, hE⟩
    exact ⟨k2, hL1.trans hw hL2, hf2, hE⟩
  · rename_i hne
    refine wpIn_mono (hS _ _ _ _ _ _ _ h k a w F n hg hw hf hF) ?_
    rintro x1 a1 w1 ⟨k1, hL1, hf1, hE⟩
    cases hE with
    | normal => exact (hne _ _ h).elim
    | exit id => exact ⟨k1, hL1, hf1, .exit id⟩
    | ret => exact ⟨k1, hL1, hf1, .ret⟩

/-- Entering a loop over a function. -/
theorem enterLoop_sim (hw : WR k st w) (hf : FR k fr a) {round : Option Nat} {F : Fence} (hF : FenceOk k round F) {ds : Nat} {marks : List Nat} {st1 : St} (h : enterLoop round fr st = some (ds, marks, st1)) (fn : FuncId) (ps : Array Tmp) (assign body : Code) :
    ∃ k1 w1 l mk g, (Instr.enterLoop fn a.tmps ps assign body F.round).run P w = .ok (l, mk) w1 ∧ l = g.b ∧
      Later k k1 st { st1 with store := st1.store ++ [O.loop { state := .ready, pending := none, tmps := fr.tmps, params := ps, assign, body, defers := ds }] } w w1 ∧ k1.ρ st1.store.length = some g ∧
      FR k1 { fr with marks } { a with defers := mk ++ a.defers } := by
  have new : ∀ (k0 : K) (w0 : World) (gd : G), Later k k0 st st1 w w0 → k0.ρ ds = some gd →
      ∃ k1 g, g.b = w0.heap.size ∧ Later k k1 st { st1 with store := st1.store ++ [O.loop { state := .ready, pending := none, tmps := fr.tmps, params := ps, assign, body, defers := ds }] } w
        { w0 with heap := w0.heap.push (.loop { state := .ready, pending := none, fn, tmps := a.tmps, params := ps, assign, body, defers := gd.b }) } ∧ k1.ρ st1.store.length = some g ∧ k0.le k1 := by
    intro k0 w0 gd hL hds
    let lp : Loop := { state := .ready, pending := none, fn, tmps := a.tmps, params := ps, assign, body, defers := gd.b }
    let lo : L := { state := .ready, pending := none, tmps := fr.tmps, params := ps, assign, body, defers := ds }
    have hle := new_le hL.wr (fun _ => none) ⟨w0.heap.size, 0, 0, 0⟩
    have := Later.alloc (st' := { st1 with store := st1.store ++ [O.loop lo] }) (w' := { w0 with heap := w0.heap.push (.loop lp) }) hL.wr (.loop lp) (.loop lo) (fun _ => none) ⟨w0.heap.size, 0, 0, 0⟩ rfl rfl rfl rfl rfl (fun o v h => by cases h)
      (.loop lo a.tmps.toList fn gd (hle.ρ _ _ hds) ((hf.tmps.mono hL.le).mono hle) rfl)
    exact ⟨_, ⟨w0.heap.size, 0, 0, 0⟩, rfl, hL.trans hw this, by simp [K.put], hle⟩
  unfold enterLoop at h
  cases round with
  | some l0 =>
    obtain ⟨g0, hg0, rfl⟩ := hF
    simp only at h
    split at h
    · rename_i r hr
      cases h
      obtain ⟨_, vs, fn0, gd, hd, _, hh⟩ := loop_obj hw hg0 hr
      obtain ⟨k1, g, hgb, hL, hk, hle⟩ := new k w gd (.refl hw) hd
      refine ⟨k1, _, g.b, [], g, ?_, rfl, hL, hk, hf.mono hle⟩
      simp only [Instr.enterLoop, Fence.inRound_round, Sem.run_bind, run_getLoop hh, Result.andThen_ok, Sem.run_pure, run_newObj, hgb]
    · cases h
  | none =>
    cases hF
    cases h
    let w0 : World := { w with heap := w.heap.push (.deferred (some [])) }
    have hL0 := Later.alloc (st' := { st with store := st.store ++ [O.defs] }) (w' := w0) hw (.deferred (some [])) .defs (fun _ => none) ⟨w.heap.size, 0, 0, 0⟩ rfl rfl rfl rfl rfl (fun o v h => by cases h) (.defs rfl)
    obtain ⟨k1, g, hgb, hL, hk, hle⟩ := new _ w0 ⟨w.heap.size, 0, 0, 0⟩ hL0 (by simp [K.put])
    refine ⟨k1, _, g.b, [{ target := .collected w.heap.size, args := #[] }], g, ?_, rfl, hL, hk, ?_⟩
    · simp only [Instr.enterLoop, Fence.wide_round, Sem.run_bind, run_newObj, Result.andThen_ok, Sem.run_pure]
      rw [hgb]
    · have hf1 := hf.mono hL.le
      obtain ⟨gs, h1, h2, h3⟩ := hf1.marks
      refine ⟨hf1.tmps, ⟨w.heap.size, 0, 0, 0⟩ :: gs, fun i r hi => ?_, by simp [h2], by simp [h3]⟩
      cases i with
      | zero =>
        simp only [List.getElem?_cons_zero, Option.some.injEq] at hi
        subst hi
        exact ⟨_, rfl, hle.ρ _ _ (by simp [K.put])⟩
      | succ i => simpa using h1 i r (by simpa using hi)

theorem evCode_ok (hT : T.Fits P) {S : S} (hS : CodeOk P T S) (hC : CallOk P T S) (hD : DrawOk P T S) {m : Nat} (hLp : LoopOk P T S m) : CodeOk P T { code := evCode T S, call := evCall T S } := by
  intro round c fr st e fr' st' h k a w F n hg hw hf hF
  show c.wpIn F n P (Post k st st' w e fr') a w
  simp only at h
  cases c with
  | skip => simp only [evCode, Option.some.injEq, Prod.mk.injEq] at h; obtain ⟨rfl, rfl, rfl⟩ := h; exact wpIn_skip ⟨k, .refl hw, hf, .normal⟩
  | label l => simp only [evCode, Option.some.injEq, Prod.mk.injEq] at h; obtain ⟨rfl, rfl, rfl⟩ := h; exact wpIn_label ⟨k, .refl hw, hf, .normal⟩
  | exit id => simp only [evCode, Option.some.injEq, Prod.mk.injEq] at h; obtain ⟨rfl, rfl, rfl⟩ := h; exact wpIn_exit ⟨k, .refl hw, hf, .exit id⟩
  | ret => simp only [evCode, Option.some.injEq, Prod.mk.injEq] at h; obtain ⟨rfl, rfl, rfl⟩ := h; exact wpIn_ret ⟨k, .refl hw, hf, .ret⟩
  | goto l => simp only [evCode] at h; cases h
  | refuse y => simp only [evCode] at h; cases h
  | region id ops draw =>
    simp only [evCode, Option.map_eq_some_iff, Prod.mk.injEq] at h
    obtain ⟨⟨fr1, st1⟩, hr, rfl, rfl, rfl⟩ := h
    cases draw with
    | false =>
      have hr' : evOps T S ops ops.toList fr st = some (fr1, st1) := by simpa [evRegion] using hr
      exact wpIn_region_list (evOps_sim hT hS hC hr' hg hw hf hF n fun k1 a1 w1 hL hf1 => ⟨k1, hL, hf1, .normal⟩)
    | true =>
      refine wpIn_region_any hT.mixed (hD ops fr st fr1 st1 hr k a { w with drawn := w.drawn + 1 } round F n hg (hw.heap rfl) hf hF _ fun k1 a1 w1 hL hf1 => ⟨k1, ?_, hf1, .normal⟩)
      exact Later.trans hw (Later.drew (w' := { w with drawn := w.drawn + 1 }) hw rfl) hL
  | seq x y =>
    simp only [evCode] at h
    split at h
    · rename_i fr1 st1 e1
      refine wpIn_seq (wpIn_mono (hS _ _ _ _ _ _ _ e1 k a w F n hg hw hf hF) ?_)
      rintro x1 a1 w1 ⟨k1, hL1, hf1, hE⟩
      cases hE
      refine wpIn_mono (hS _ _ _ _ _ _ _ h k1 a1 w1 F n (hg.mono hL1.le) hL1.wr hf1 (hF.mono hL1.le)) ?_
      rintro x2 a2 w2 ⟨k2, hL2, hf2, hE⟩
      exact ⟨k2, hL1.trans hw hL2, hf2, hE⟩
    · rename_i hne
      refine wpIn_seq (wpIn_mono (hS _ _ _ _ _ _ _ h k a w F n hg hw hf hF) ?_)
      rintro x1 a1 w1 ⟨k1, hL1, hf1, hE⟩
      cases hE with
      | normal => exact (hne _ _ h).elim
      | exit id => exact ⟨k1, hL1, hf1, .exit id⟩
      | ret => exact ⟨k1, hL1, hf1, .ret⟩
  | cond c x y =>
    simp only [evCode] at h
    split at h
    · rename_i t ht
      have hc := evArg_vr hg hf ht
      refine wpIn_cond (t := t) ?_ ?_
      · generalize a.eval c = C at hc
        cases hc; rfl
      · have := hS _ _ _ _ _ _ _ h k a w F n hg hw hf hF
        exact this
    · cases h
  | block id b =>
    simp only [evCode] at h
    split at h
    · rename_i id' fr1 st1 e1
      cases h
      refine wpIn_block (wpIn_mono (hS _ _ _ _ _ _ _ e1 k a w F n hg hw hf hF) ?_)
      rintro x1 a1 w1 ⟨k1, hL1, hf1, hE⟩
      cases hE
      simp only [Exit.inBlock]
      split
      · rename_i hid
        exact ⟨k1, hL1, hf1, .normal⟩
      · rename_i hid
        exact ⟨k1, hL1, hf1, .exit id'⟩
    · rename_i hne
      refine wpIn_block (wpIn_mono (hS _ _ _ _ _ _ _ h k a w F n hg hw hf hF) ?_)
      rintro x1 a1 w1 ⟨k1, hL1, hf1, hE⟩
      cases hE with
      | normal => exact ⟨k1, hL1, hf1, .normal⟩
      | exit id' => exact (hne _ _ _ h).elim
      | ret => exact ⟨k1, hL1, hf1, .ret⟩
  | loop b =>
    exact wpIn_loop_rounds (m + 1) (evLoop_ok hS hLp round b fr st e fr' st' h k a w F n hg hw hf hF)
  | scope b =>
    simp only [evCode] at h
    refine wpIn_scope (wpIn_mono (hS _ _ _ _ _ _ _ h k a w F n hg hw hf hF) ?_)
    rintro x1 a1 w1 ⟨k1, hL1, hf1, hE⟩
    cases hE with
    | normal => exact ⟨k1, hL1, hf1, .normal⟩
    | exit id' => exact ⟨k1, hL1, hf1, .exit id'⟩
    | ret => exact ⟨k1, hL1, hf1, .ret⟩
  | rangeFunc g ps assign body =>
    simp only [evCode] at h
    split at h
    · rename_i f first captured e0
      have hgv := evArg_vr hg hf e0
      split at h
      · cases h
      · rename_i hext
        split at h
        · cases h
        · rename_i ds marks st1 hent
          split at h
          · cases h
          · rename_i u st2 hcall
            split at h
            · rename_i r hr
              split at h
              · cases h
              · rename_i hbusy
                simp only [not_or] at hbusy
                obtain ⟨hbusy, hlk2⟩ := hbusy
                refine wpIn_rangeFunc fun fn _ => ?_
                obtain ⟨k1, w1, l, mk, gl, hrun, rfl, hL1, hkl, hf1⟩ := enterLoop_sim (P := P) hw hf hF hent fn ps assign body
                generalize hX : a.eval g = X at hgv
                cases hgv with | func _ _ _ as bs h1 h2 =>
                have hargs : VRs k1 (first ++ [.func (.yield st1.store.length) [] []] ++ captured) (as ++ [.func (.yield gl.b) #[] #[]] ++ bs) :=
                  ((h1.mono hL1.le).append (.cons (.yield _ gl hkl) .nil)).append (h2.mono hL1.le)
                obtain ⟨⟨fd, hfd, hb, hnm⟩, hc⟩ := hC _ _ _ _ _ hcall
                refine ⟨gl.b, mk, w1, { target := .fn (.func f) ⟨bs⟩, args := ⟨as⟩ ++ #[.func (.yield gl.b) #[] #[]] }, w1, f, ⟨as ++ [.func (.yield gl.b) #[] #[]] ++ bs⟩, w1, hrun, ?_, fun f' _ => hF.fn f', ?_, (fun hd => by rw [hF.depth] at hd; cases hd), ?_⟩
                · simp only [resolve, hX, Deferred.ofValue, Sem.run_pure]
                  congr 3
                  apply Array.ext'
                  simp [Act.eval]
                · simp only [invoke]
                  rw [show (⟨as⟩ ++ #[Value.func (.yield gl.b) #[] #[]] ++ ⟨bs⟩ : Array Value) = ⟨as ++ [.func (.yield gl.b) #[] #[]] ++ bs⟩ from by apply Array.ext'; simp]
                  exact run_callFunc hfd hb hnm _
                · refine hF.calls (CallsIn.mono (hc k1 w1 _ (n - 1) (hg.mono hL1.le) hL1.wr hargs) ?_)
                  rintro e3 w3 ⟨k3, x, rfl, hL3, _⟩
                  have hk3 := hL3.le.ρ _ _ hkl
                  obtain ⟨hs3, vs3, fn3, gd3, hd3, hv3, hh3⟩ := loop_obj hL3.wr hk3 hr
                  have hT4 := loop_turn (fn := fn3) (gd := gd3) hL3.wr hk3 (by simpa using hlk2) hs3 { r with state := .exhausted } hd3 hv3 hh3
                  have hall := (hL1.trans hw hL3).trans hw hT4
                  have hf4 : FR k3 { fr with marks } { a with defers := mk ++ a.defers } := hf1.mono hL3.le
                  refine ⟨r.pending, { w3 with heap := w3.heap.setIfInBounds gl.b (.loop { state := .exhausted, pending := r.pending, fn := fn3, tmps := vs3.toArray, params := r.params, assign := r.assign, body := r.body, defers := gd3.b }) }, ?_, ?_⟩
                  · have hb : (r.state == LoopState.busy) = false := by simpa using hbusy
                    simp only [Instr.endLoop, Sem.run_bind, run_getLoop hh3, Result.andThen_ok, hb, Bool.false_eq_true, if_false, run_setLoop hh3, Sem.run_pure]
                  · cases hpend : r.pending with
                    | none =>
                      rw [hpend] at h
                      cases h
                      rw [hpend] at hall
                      exact ⟨k3, by simpa [hpend] using hall, hf4, .normal⟩
                    | some c =>
                      rw [hpend] at h
                      simp only at h ⊢
                      refine wpIn_mono (hS _ _ _ _ _ _ _ h k3 _ _ F n ((hg.mono hL1.le).mono hL3.le) ?_ hf4 ((hF.mono hL1.le).mono hL3.le)) ?_
                      · simpa [hpend] using hT4.wr
                      · rintro x5 a5 w5 ⟨k5, hL5, hf5, hE⟩
                        exact ⟨k5, Later.trans hw (by simpa [hpend] using hall) hL5, hf5, hE⟩
            · cases h
    · cases h

end
end Go.Abs
namespace Go.Abs
section
variable {P : Program} {T : Tab} {k : K} {st st' : St} {w : World} {fr : Fr} {a : Act}

theorem load_asAddr {t : TypeId} {X x : Value} (h : (Instr.loadAt t X).run P w = .ok x w) : ((do loadVar t (← asAddr X)) : Sem Value).run P w = .ok x w := by
  cases X with
  | pointer o =>
    cases o with
    | none => simp [Instr.loadAt, Instr.sureAddr] at h
    | some a => exact h
  | _ => simp [Instr.loadAt, Instr.sureAddr] at h

def resOne (tmps : Array Value) : ResultVar → Sem Value
  | .tmp t => pure (tmps.getD t undef)
  | .cell a t => do loadVar t (← asAddr (tmps.getD a undef))

theorem resList_sim (hT : T.Fits P) (hw : WR k st w) (hf : FR k fr a) : ∀ {rs : List ResultVar} {vs : List V}, resList T fr st rs = some vs → ∃ xs, (rs.mapM (resOne a.tmps)).run P w = .ok xs w ∧ VRs k vs xs
  | [], vs, h => by simp only [resList, Option.some.injEq] at h; subst h; exact ⟨[], rfl, .nil⟩
  | r :: rs, vs, h => by
    unfold resList at h
    have htmp : ∀ t, VR k (fr.tmps.getD t (.tup [])) (a.tmps.getD t undef) := fun t => by
      have := evArg_vr (T := { ty := fun _ => none, fn := fun _ => none, glob := fun _ => none, mode := fun _ => .open_, ext := fun _ => none }) (k := k) (fr := fr) (a := a) (o := .tmp t) (fun g cs h => by cases h) hf rfl
      exact this
    split at h
    · cases h
    · rename_i v hv
      split at h
      · cases h
      · rename_i us hus
        cases h
        obtain ⟨xs, h1, h2⟩ := resList_sim hT hw hf hus
        have hone : ∃ x, (resOne a.tmps r).run P w = .ok x w ∧ VR k v x := by
          cases r with
          | tmp t => simp only [Option.some.injEq] at hv; subst hv; exact ⟨_, rfl, htmp t⟩
          | cell b t =>
            obtain ⟨x, h3, h4⟩ := evLoad_gives (P := P) hT hw (htmp b) hv
            exact ⟨x, load_asAddr h3, h4⟩
        obtain ⟨x, h3, h4⟩ := hone
        exact ⟨x :: xs, by rw [List.mapM_cons]; simp only [Sem.run_bind, h3, Result.andThen_ok, h1, Sem.run_pure], .cons h4 h2⟩

theorem evResults_sim (hT : T.Fits P) (hw : WR k st w) (hf : FR k fr a) {fn : Func} {v : V} (h : evResults T fn fr st = some v) : ∃ x, (results fn a.tmps).run P w = .ok x w ∧ VR k v x := by
  unfold evResults at h
  have key : ∀ vs, resList T fr st fn.results.toList = some vs → ∃ xs : List Value, VRs k vs xs ∧ (results fn a.tmps).run P w = .ok (if h : (⟨xs⟩ : Array Value).size = 1 then (⟨xs⟩ : Array Value)[0] else .tuple ⟨xs⟩) w := by
    intro vs hvs
    obtain ⟨xs, h1, h2⟩ := resList_sim hT hw hf hvs
    refine ⟨xs, h2, ?_⟩
    have e : results fn a.tmps = (do let vs ← fn.results.mapM (resOne a.tmps); pure (if h : vs.size = 1 then vs[0] else .tuple vs)) := by
      unfold results resOne
      congr 1
    rw [e, Array.mapM_eq_mapM_toList]
    simp only [Sem.run_bind, Sem.run_map, h1, Result.andThen_ok, Sem.run_pure]
  split at h
  · rename_i v' hv
    cases h
    obtain ⟨xs, h1, h2⟩ := key _ hv
    cases h1 with | cons hx hs => cases hs with | nil =>
    exact ⟨_, h2, by simpa using hx⟩
  · rename_i vs hne hv
    cases h
    obtain ⟨xs, h1, h2⟩ := key _ hv
    have hl : ¬ ((⟨xs⟩ : Array Value).size = 1) := by
      intro e
      have e1 : xs.length = 1 := e
      have : vs.length = 1 := by rw [h1.length, e1]
      obtain ⟨u, hu⟩ := List.length_eq_one_iff.1 this
      exact hne u hu
    rw [dif_neg hl] at h2
    exact ⟨_, h2, .tup _ _ h1⟩
  · cases h

theorem dropMarks_sim {F : Fence} {n : Nat} {fn : Func} {tmps : Array Value} {R : Ending → World → Prop} : ∀ {marks : List Nat} {gs : List G} {st st' : St} {w : World}, WR k st w → (∀ (i r : Nat), marks[i]? = some r → ∃ g : G, gs[i]? = some g ∧ k.ρ r = some g) → gs.length = marks.length →
    dropMarks marks st = some st' → (∀ w', Later k k st st' w w' → ∃ v, (results fn tmps).run P w' = .ok v w' ∧ R (.returned v) w') →
    LeavesInM F n P fn tmps R (gs.map fun g => { target := .collected g.b, args := #[] }) .returning w
  | [], gs, st, st', w, hw, _, hl, h, hR => by
    have : gs = [] := List.eq_nil_of_length_eq_zero hl
    subst this
    simp only [dropMarks, Option.some.injEq] at h
    subst h
    exact hR w (.refl hw)
  | r :: rs, gs, st, st', w, hw, hm, hl, h, hR => by
    cases gs with
    | nil => simp at hl
    | cons g gs =>
      obtain ⟨g', e1, hg⟩ := hm 0 r rfl
      simp only [List.getElem?_cons_zero, Option.some.injEq] at e1
      subst e1
      unfold dropMarks at h
      split at h
      · cases h
      · rename_i hlk
        split at h
        · rename_i hs
          obtain ⟨ob, h1, h2⟩ := hw.obj r g hg
          rw [hs] at h1; cases h1
          cases h2 with
          | defs hh =>
          have hlt := hw.bound r g hg
          have hturn : Later k k st { st with store := st.store.set r .dead } w { w with heap := w.heap.setIfInBounds g.b (.deferred none) } := by
            refine Later.turn hw hg (by simpa using hlk) (by rw [hs]; simp) .dead rfl rfl rfl (by simp) (fun b hb => by simp only; rw [Array.getElem?_setIfInBounds_ne (Ne.symm hb)]) (fun o v hi => ?_) .dead
            have := hw.imm _ _ _ hi
            rw [cell?_of hh] at this; cases this
          refine ⟨by simp, .inl ⟨g.b, _, rfl, ?_, dropMarks_sim hturn.wr (fun i r' hi => by simpa using hm (i + 1) r' (by simpa using hi)) (by simpa using hl) h fun w' hL => hR w' (hturn.trans hw hL)⟩⟩
          simp [Instr.takeDeferred, getObj, setObj, Sem.run, Sem.run_bind, hh]
        · cases h

theorem evBody_sim (hT : T.Fits P) {S : S} (hS : CodeOk P T S) {f : FuncId} {fn : Func} (hfn : T.fn f = some fn) {args : List V} {v : V} (h : evBody T S fn args st = some (v, st')) {vs : List Value} (n : Nat) (hg : GlobOk T k) (hw : WR k st w) (ha : VRs k args vs) :
    CallsIn Fence.wide n P f ⟨vs⟩ w fun e w' => ∃ k' x, e = .returned x ∧ Later k k' st st' w w' ∧ VR k' v x := by
  unfold evBody at h
  split at h
  · cases h
  · rename_i c hc
    refine callsIn_of_wp_marks (hT.fn f fn hfn) hc trivial ?_
    have hf0 : FR k { tmps := args ++ List.replicate (fn.ntmps - args.length) (.tup []), marks := [] } { tmps := (⟨vs⟩ : Array Value) ++ Array.replicate (fn.ntmps - (⟨vs⟩ : Array Value).size) undef, defers := [] } := by
      refine ⟨?_, [], by simp, rfl, rfl⟩
      have : VRs k (args ++ List.replicate (fn.ntmps - args.length) (.tup [])) (vs ++ List.replicate (fn.ntmps - vs.length) undef) := by
        rw [ha.length]; exact ha.append (.replicate (vr_undef k) _)
      simpa using this
    have key : ∀ (e : E) (fr1 : Fr) (st1 : St) (st2 : St) (v' : V), (e = .normal ∨ e = .ret) → S.code none c { tmps := args ++ List.replicate (fn.ntmps - args.length) (.tup []), marks := [] } st = some (e, fr1, st1) → dropMarks fr1.marks st1 = some st2 → evResults T fn fr1 st2 = some v' → v' = v → st2 = st' →
        c.wpIn Fence.wide n P (bodyPostM Fence.wide n P fn fun e w' => ∃ k' x, e = .returned x ∧ Later k k' st st' w w' ∧ VR k' v x) { tmps := (⟨vs⟩ : Array Value) ++ Array.replicate (fn.ntmps - (⟨vs⟩ : Array Value).size) undef, defers := [] } w := by
      rintro e fr1 st1 st2 v' he e1 e2 e3 rfl rfl
      refine wpIn_mono (hS _ _ _ _ _ _ _ e1 k _ w Fence.wide n hg hw hf0 rfl) ?_
      rintro x a1 w1 ⟨k1, hL1, hf1, hE⟩
      have hfin : LeavesInM Fence.wide n P fn a1.tmps (fun e w' => ∃ k' x, e = .returned x ∧ Later k k' st st2 w w' ∧ VR k' v' x) a1.defers .returning w1 := by
        obtain ⟨gs, h1, h2, h3⟩ := hf1.marks
        rw [h3]
        refine dropMarks_sim hL1.wr h1 h2 e2 fun w2 hL2 => ?_
        obtain ⟨x, h4, h5⟩ := evResults_sim (P := P) hT hL2.wr hf1 e3
        exact ⟨x, h4, k1, x, rfl, hL1.trans hw hL2, h5⟩
      rcases he with rfl | rfl <;> cases hE <;> exact hfin
    split at h
    · rename_i fr1 st1 e1
      split at h
      · rename_i st2 e2
        split at h
        · rename_i v' e3
          cases h
          exact key _ _ _ _ _ (.inl rfl) e1 e2 e3 rfl rfl
        · cases h
      · cases h
    · rename_i fr1 st1 e1
      split at h
      · rename_i st2 e2
        split at h
        · rename_i v' e3
          cases h
          exact key _ _ _ _ _ (.inr rfl) e1 e2 e3 rfl rfl
        · cases h
      · cases h
    · cases h

end
end Go.Abs
namespace Go.Abs
section
variable {P : Program} {T : Tab} {k : K} {st st' : St} {w : World} {fr : Fr} {a : Act}

theorem mapM_len {f : V → Option V} : ∀ {xs ys : List V}, xs.mapM f = some ys → ys.length = xs.length
  | [], ys, h => by
    simp only [List.mapM_nil, Option.pure_def, Option.some.injEq] at h
    subst h; rfl
  | x :: xs, ys, h => by
    simp only [List.mapM_cons, Option.bind_eq_bind, Option.pure_def, Option.bind_eq_some_iff, Option.some.injEq] at h
    obtain ⟨y, _, ys', h2, rfl⟩ := h
    simp [mapM_len h2]

theorem mapM_vrs {f : V → Option V} {kA kB : K} : ∀ {xs ys : List V} {us : List Value}, (∀ x y u, x ∈ xs → f x = some y → VR kA x u → VR kB y u) → xs.mapM f = some ys → VRs kA xs us → VRs kB ys us
  | [], ys, us, _, h, hv => by
    simp only [List.mapM_nil, Option.pure_def, Option.some.injEq] at h
    subst h
    cases hv; exact .nil
  | x :: xs, ys, us, hf, h, hv => by
    cases hv with | cons hx hs =>
    simp only [List.mapM_cons, Option.bind_eq_bind, Option.pure_def, Option.bind_eq_some_iff, Option.some.injEq] at h
    obtain ⟨y, h1, ys', h2, rfl⟩ := h
    exact .cons (hf x y _ (by simp) h1 hx) (mapM_vrs (fun x' y u hm => hf x' y u (by simp [hm])) h2 hs)

theorem mapM_cells {f : V → Option V} {kA kB : K} : ∀ {xs ys : List V} {us : List Value}, (∀ x y us, x ∈ xs → f x = some y → VRs kA x.cells us → VRs kB y.cells us) → (∀ x y, x ∈ xs → f x = some y → y.cells.length = x.cells.length) → xs.mapM f = some ys → VRs kA (xs.flatMap V.cells) us →
    VRs kB (ys.flatMap V.cells) us ∧ ys.length = xs.length ∧ ∀ s, (∀ x ∈ xs, x.cells.length = s) → ∀ y ∈ ys, y.cells.length = s
  | [], ys, us, _, _, h, hv => by
    simp only [List.mapM_nil, Option.pure_def, Option.some.injEq] at h
    subst h
    cases hv; exact ⟨.nil, rfl, fun _ _ y hy => by cases hy⟩
  | x :: xs, ys, us, hf, hl, h, hv => by
    rw [List.flatMap_cons] at hv
    obtain ⟨u1, u2, rfl, h1, h2⟩ := hv.split
    simp only [List.mapM_cons, Option.bind_eq_bind, Option.pure_def, Option.bind_eq_some_iff, Option.some.injEq] at h
    obtain ⟨y, e1, ys', e2, rfl⟩ := h
    obtain ⟨h3, h4, h5⟩ := mapM_cells (fun x' y us hm => hf x' y us (by simp [hm])) (fun x' y hm => hl x' y (by simp [hm])) e2 h2
    refine ⟨?_, by simp [h4], fun s hs z hz => ?_⟩
    · rw [List.flatMap_cons]; exact (hf x y u1 (by simp) e1 h1).append h3
    · cases hz with
      | head => rw [hl x y (by simp) e1]; exact hs x (by simp)
      | tail _ hz => exact h5 s (fun x' hx' => hs x' (by simp [hx'])) z hz

theorem list_relax {k k' : K} (hk : k.le k') {full : Bool} {nl : Option Bool} {xs : List V} {x : Value} (h : VR k (.list full nl xs) x) : VR k' (.list false none xs) x := by
  cases h with
  | list0 _ _ base cap _ _ _ => exact .list0 false none base cap (fun e => by cases e) (fun e => by cases e) (fun e => by cases e)
  | list1 _ _ x xs vs b o s cap h hI hs hf hc hn => exact .list1 false none x xs vs b o s cap (h.mono hk) (fun j v hj => hk.I _ _ _ (hI j v hj)) hs (fun e => by cases e) hc (by simp)

/-- Cells that are frozen. -/
def RowsLie (k kB : K) (st : St) (w : World) (lim : Option Nat) : Prop :=
  ∀ r g es, k.ρ r = some g → st.store[r]? = some (.vec false es) → frozenNow lim false r = true → ∀ o v, w.cell? ⟨g.b, o, none⟩ = some v → kB.I g.b o = some v

theorem freeze_vr {kB : K} (hw : WR k st w) (hk : k.le kB) {lim : Option Nat} (hR : RowsLie k kB st w lim) : ∀ (n : Nat) (v v' : V), freeze st lim n v = some v' →
    (∀ x, VR k v x → VR kB v' x) ∧ (∀ us, VRs k v.cells us → VRs kB v'.cells us) ∧ v'.cells.length = v.cells.length
  | 0, v, v', h => by simp [freeze] at h
  | n + 1, v, v', h => by
    have ih := freeze_vr hw hk hR n
    have scalar : ∀ (q q' : V), q.cells = [q] → q'.cells = [q'] → (∀ x, VR k q x → VR kB q' x) → (∀ x, VR k q x → VR kB q' x) ∧ (∀ us, VRs k q.cells us → VRs kB q'.cells us) ∧ q'.cells.length = q.cells.length := by
      intro q q' e1 e2 hq
      refine ⟨hq, fun us hu => ?_, by rw [e1, e2]; rfl⟩
      rw [e1] at hu
      rw [e2]
      cases hu with | cons hx hs => cases hs with | nil => exact .cons (hq _ hx) .nil
    unfold freeze at h
    split at h
    · -- a vector
      rename_i r s off len
      split at h
      · rename_i acc es hes
        split at h
        · rename_i hfz
          split at h
          · rename_i hle
            split at h
            · rename_i xs hxs
              cases h
              refine scalar (.slice r s off len) (.list false none xs) rfl rfl fun x hx => ?_
              cases hx with | slice _ _ _ _ g a hg hgs hl ha =>
              obtain ⟨vs, hv, hvl, hr, hsz, hcap⟩ := vec_range hw hg hes off len hle
              obtain ⟨h1, h2, h3⟩ := mapM_cells (fun x y us _ e hu => (ih x y e).2.1 us hu) (fun x y _ e => (ih x y e).2.2) hxs hv
              have hlen : xs.length = len := by rw [h2]; simp; omega
              have h4 := h3 g.s fun x hx => hsz x (List.mem_of_mem_drop (List.mem_of_mem_take hx))
              have hI : ∀ (j : Nat) (v : Value), vs[j]? = some v → kB.I g.b (g.o + off * g.s + j) = some v := by
                intro j v hj
                cases acc with
                | false => exact hR r g es hg hes hfz _ _ (hr j v hj)
                | true =>
                  obtain ⟨ob, e1, e2⟩ := hw.obj r g hg
                  rw [hes] at e1; cases e1
                  cases e2 with
                  | vec _ _ arr t vs0 hh hz hc hs hv0 ha0 hI0 hI0' =>
                    have hvl0 : vs0.length = es.length * g.s := by rw [← hv0.length, flat_len es hs]
                    have hjl : j < len * g.s := by rw [← hvl]; exact (List.getElem?_eq_some_iff.1 hj).1
                    have hm : (off + len) * g.s ≤ es.length * g.s := Nat.mul_le_mul_right _ hle
                    rw [Nat.add_mul] at hm
                    have hv0j := List.getElem?_eq_getElem (l := vs0) (i := off * g.s + j) (by omega)
                    have hcell := hI0 rfl _ _ hv0j
                    have := hw.imm _ _ _ hcell
                    have h5 := hr j v hj
                    rw [show g.o + off * g.s + j = g.o + (off * g.s + j) from by omega] at h5 ⊢
                    rw [this] at h5
                    cases h5
                    exact hk.I _ _ _ hcell
              cases xs with
              | nil =>
                simp only [List.length_nil] at hlen
                subst hlen
                exact .list0 false none _ _ (fun e => by cases e) (fun e => by cases e) (fun e => by cases e)
              | cons y ys =>
                simp only [List.length_cons] at hlen
                rw [ha (by omega), ← hlen, ← hgs]
                exact .list1 false none y ys vs g.b _ g.s _ h1 hI h4 (fun e => by cases e) (by omega) (by simp)
            · cases h
          · cases h
        · cases h
          exact scalar _ _ rfl rfl fun x hx => hx.mono hk
      · cases h
    · rename_i cs
      split at h
      · rename_i cs' hcs
        cases h
        have hall : ∀ us, VRs k cs us → VRs kB cs' us := fun us hu => mapM_vrs (fun x y u _ e hx => (ih x y e).1 u hx) hcs hu
        refine ⟨fun x hx => ?_, hall, ?_⟩
        · cases hx with | agg _ vs hv => exact .agg _ _ (hall _ hv)
        · have := mapM_len hcs; simpa [V.cells] using this
      · cases h
    · rename_i cs
      split at h
      · rename_i cs' hcs
        cases h
        refine scalar (.tup cs) (.tup cs') rfl rfl fun x hx => ?_
        cases hx with | tup _ vs hv => exact .tup _ _ (mapM_vrs (fun x y u _ e hx => (ih x y e).1 u hx) hcs hv)
      · cases h
    · rename_i full nl xs
      split at h
      · split at h
        · rename_i xs' hxs
          cases h
          refine scalar (.list full nl xs) (.list false none xs') rfl rfl fun x hx => ?_
          cases hx with
          | list0 _ _ base cap _ _ _ =>
            simp only [List.mapM_nil, Option.pure_def, Option.some.injEq] at hxs
            subst hxs
            exact .list0 false none base cap (fun e => by cases e) (fun e => by cases e) (fun e => by cases e)
          | list1 _ _ y ys vs b o s cap hv hI hs hf hc hn =>
            obtain ⟨h1, h2, h3⟩ := mapM_cells (fun x y us _ e hu => (ih x y e).2.1 us hu) (fun x y _ e => (ih x y e).2.2) hxs hv
            cases xs' with
            | nil => simp at h2
            | cons z zs =>
              simp only [List.length_cons] at h2
              have : zs.length = ys.length := by omega
              rw [← this]
              exact .list1 false none z zs vs b o s cap h1 (fun j v hj => hk.I _ _ _ (hI j v hj)) (h3 s hs) (fun e => by cases e) (by omega) (by simp)
        · cases h
      · cases h
        exact scalar _ _ rfl rfl fun x hx => list_relax hk hx
    · rename_i h1 h2 h3 h4
      cases h
      have hc : v.cells = [v] := by cases v <;> first | rfl | exact absurd rfl (h2 _)
      exact scalar v v hc hc fun x hx => hx.mono hk

theorem all_vrs {kA kB : K} {p : V → Bool} : ∀ {xs : List V} {us : List Value}, (∀ x u, x ∈ xs → p x = true → VR kA x u → VR kB x u) → xs.all p = true → VRs kA xs us → VRs kB xs us
  | [], us, _, _, hv => by cases hv; exact .nil
  | x :: xs, us, hf, h, hv => by
    cases hv with | cons hx hs =>
    simp only [List.all_cons, Bool.and_eq_true] at h
    exact .cons (hf x _ (by simp) h.1 hx) (all_vrs (fun x' u hm => hf x' u (by simp [hm])) h.2 hs)

theorem all_cells {kA kB : K} {p : V → Bool} : ∀ {xs : List V} {us : List Value}, (∀ x us, x ∈ xs → p x = true → VRs kA x.cells us → VRs kB x.cells us) → xs.all p = true → VRs kA (xs.flatMap V.cells) us → VRs kB (xs.flatMap V.cells) us
  | [], us, _, _, hv => by cases hv; exact .nil
  | x :: xs, us, hf, h, hv => by
    rw [List.flatMap_cons] at hv ⊢
    obtain ⟨u1, u2, rfl, h1, h2⟩ := hv.split
    simp only [List.all_cons, Bool.and_eq_true] at h
    exact (hf x u1 (by simp) h.1 h1).append (all_cells (fun x' us hm => hf x' us (by simp [hm])) h.2 h2)

/-- A value that names elder objects alone. -/
theorem below_vr {kB kF : K} {m : Nat} (hρ : ∀ r g, kB.ρ r = some g → r < m → kF.ρ r = some g) (hI : ∀ b o v, kB.I b o = some v → kF.I b o = some v) : ∀ (n : Nat) (v : V), below m n v = true →
    (∀ x, VR kB v x → VR kF v x) ∧ (∀ us, VRs kB v.cells us → VRs kF v.cells us)
  | 0, v, h => by simp [below] at h
  | n + 1, v, h => by
    have ih := below_vr hρ hI n
    have scalar : ∀ q : V, q.cells = [q] → (∀ x, VR kB q x → VR kF q x) → (∀ x, VR kB q x → VR kF q x) ∧ (∀ us, VRs kB q.cells us → VRs kF q.cells us) := by
      intro q e1 hq
      refine ⟨hq, fun us hu => ?_⟩
      rw [e1] at hu ⊢
      cases hu with | cons hx hs => cases hs with | nil => exact .cons (hq _ hx) .nil
    cases v with
    | bool b => exact scalar _ rfl fun x hx => by cases hx; exact .bool b
    | int kd i => exact scalar _ rfl fun x hx => by cases hx; exact .int kd i
    | str s => exact scalar _ rfl fun x hx => by cases hx with | str s => exact .str s
    | nilp => exact scalar _ rfl fun x hx => by cases hx; exact .nilp
    | nilmap => exact scalar _ rfl fun x hx => by cases hx; exact .nilmap
    | nilfunc => exact scalar _ rfl fun x hx => by cases hx; exact .nilfunc
    | niliface => exact scalar _ rfl fun x hx => by cases hx; exact .niliface
    | ptr r o =>
      simp only [below, decide_eq_true_eq] at h
      exact scalar _ rfl fun x hx => by cases hx with | ptr _ _ g hg => exact .ptr r o g (hρ _ _ hg h)
    | eptr r i o =>
      simp only [below, decide_eq_true_eq] at h
      exact scalar _ rfl fun x hx => by cases hx with | eptr _ _ _ g hg => exact .eptr r i o g (hρ _ _ hg h)
    | slice r s o l =>
      simp only [below, decide_eq_true_eq] at h
      exact scalar _ rfl fun x hx => by cases hx with | slice _ _ _ _ g a hg hgs hl ha => exact .slice r s o l g a (hρ _ _ hg h) hgs hl ha
    | map r =>
      simp only [below, decide_eq_true_eq] at h
      exact scalar _ rfl fun x hx => by cases hx with | map _ g hg => exact .map r g (hρ _ _ hg h)
    | iptr cs =>
      simp only [below] at h
      exact scalar _ rfl fun x hx => by
        cases hx with | iptr _ vs b o hv hi => exact .iptr cs vs b o (all_vrs (fun x u _ hp hx => (ih x hp).1 u hx) h hv) fun j v hj => hI _ _ _ (hi j v hj)
    | list full nl xs =>
      simp only [below] at h
      exact scalar _ rfl fun x hx => by
        cases hx with
        | list0 _ _ base cap h1 h2 h3 => exact .list0 full nl base cap h1 h2 h3
        | list1 _ _ y ys vs b o s cap hv hi hs hf hc hn => exact .list1 full nl y ys vs b o s cap (all_cells (fun x us _ hp hu => (ih x hp).2 us hu) h hv) (fun j v hj => hI _ _ _ (hi j v hj)) hs hf hc hn
    | iface t v =>
      simp only [below] at h
      exact scalar _ rfl fun x hx => by cases hx with | iface _ _ y hy => exact .iface t v y ((ih v h).1 y hy)
    | func fn p q =>
      simp only [below, Bool.and_eq_true] at h
      exact scalar _ rfl fun x hx => by
        cases hx with
        | func f _ _ as bs ha hb => exact .func f p q as bs (all_vrs (fun x u _ hp hx => (ih x hp).1 u hx) h.1.2 ha) (all_vrs (fun x u _ hp hx => (ih x hp).1 u hx) h.2 hb)
        | yield l g hg => simp at h
    | tup cs =>
      simp only [below] at h
      exact scalar _ rfl fun x hx => by cases hx with | tup _ vs hv => exact .tup cs vs (all_vrs (fun x u _ hp hx => (ih x hp).1 u hx) h hv)
    | agg cs =>
      simp only [below] at h
      have hall : ∀ us, VRs kB cs us → VRs kF cs us := fun us hu => all_vrs (fun x u _ hp hx => (ih x hp).1 u hx) h hu
      exact ⟨fun x hx => by cases hx with | agg _ vs hv => exact .agg cs vs (hall _ hv), hall⟩

end
end Go.Abs
namespace Go.Abs
section
variable {P : Program} {T : Tab} {k k' : K} {st st' : St} {w w' : World} {fr : Fr} {a : Act}

/-- What is known after a call that changed nothing. -/
def K.after (k : K) (w w' : World) : K := { ρ := k.ρ, I := fun b o => if b < w.heap.size then k.I b o else w'.cell? ⟨b, o, none⟩ }

structure Ro (k k' : K) (st st' : St) (w w' : World) : Prop where
  later : Later k (k.after w w') st st w w'
  ρ : ∀ r g, k'.ρ r = some g → r < st.store.length → k.ρ r = some g
  I : ∀ b o v, k'.I b o = some v → (k.after w w').I b o = some v
  rows : ∀ r g, k'.ρ r = some g → st.store.length ≤ r → w.heap.size ≤ g.b
  wr : WR k' st' w'

theorem Ro.of (hw : WR k st w) (h : Later k k' { st with base := st.store.length } st' w w') : Ro k k' st st' w w' := by
  obtain ⟨X, h⟩ := h
  have hX : ∀ r, ¬ X r := fun r hx => by
    obtain ⟨h1, g, h2⟩ := h.lock r hx
    have := hw.lt h2
    simp [St.locked, this] at h1
  have hframe : ∀ b, b < w.heap.size → w'.heap[b]? = w.heap[b]? := fun b hb => h.frame b hb fun r _ _ _ => hX r
  have hle : k.le (k.after w w') := ⟨fun _ _ h => h, fun b o v hi => by simp only [K.after]; rw [if_pos (hw.immLt hi)]; exact hi⟩
  refine ⟨⟨fun _ => False, hle, ⟨fun b o v hi => ?_, fun r g hr => ?_, fun r g hr => Nat.lt_of_lt_of_le (hw.bound r g hr) h.size, hw.apart⟩, h.size, Nat.le_refl _, rfl, rfl, fun _ h => h.elim, fun _ _ _ => rfl, fun b hb _ => hframe b hb, (fun r g h1 h2 => ?_), (fun b o v h1 h2 => ?_), h.env⟩, fun r g hr hlt => ?_, fun b o v hi => ?_, fun r g hr hle => ?_, h.wr⟩
  · simp only [K.after] at hi
    split at hi
    · rename_i hb
      rw [cell?_congr (hframe b hb)]; exact hw.imm b o v hi
    · exact hi
  · obtain ⟨ob, h1, h2⟩ := hw.obj r g hr
    refine ⟨ob, h1, ?_⟩
    rw [hframe _ (hw.bound r g hr)]
    exact h2.mono hle fun o ho => by simp only [K.after]; rw [if_pos (hw.bound r g hr)]; exact ho
  · simp only [K.after] at h2; rw [h1] at h2; cases h2
  · simp only [K.after] at h2
    split at h2
    · rw [h1] at h2; cases h2
    · rename_i hb; exact .inl (by omega)
  · cases e : k.ρ r with
    | none => have := (h.newρ r g e hr).1; simp only at this; omega
    | some g' => have := h.le.ρ r g' e; rw [hr] at this; cases this; rfl
  · simp only [K.after]
    split
    · rename_i hb
      cases e : k.I b o with
      | some v' => have := h.le.I b o v' e; rw [hi] at this; cases this; rfl
      | none =>
        rcases h.newI b o v e hi with h1 | ⟨r0, _, hx, _⟩
        · omega
        · exact absurd hx (hX r0)
    · exact h.wr.imm b o v hi
  · cases e : k.ρ r with
    | some g' => have := hw.lt e; omega
    | none =>
      rcases (h.newρ r g e hr).2 with h1 | ⟨r0, _, hx, _⟩
      · exact h1
      · exact absurd hx (hX r0)

theorem top_vr {kA kB : K} {v v' : V} {x : Value} (h : VR kA v x) (h' : VR kB v' x) : VR kB (top v v') x := by
  unfold top
  split
  · cases h with | list0 _ _ base cap h1 h2 h3 => exact .list0 true none base cap h1 (fun e => by cases e) (fun e => by cases e)
  · exact h'

theorem tops_vr {kA kB : K} : ∀ {vs vs' : List V} {xs : List Value}, VRs kA vs xs → VRs kB vs' xs → VRs kB (List.zipWith top vs vs') xs
  | _, _, _, .nil, .nil => .nil
  | _, _, _, .cons h hs, .cons h' hs' => .cons (top_vr h h') (tops_vr hs hs')

theorem evRet_sim (hR : Ro k k' st st' w w') {v v2 : V} {st2 : St} {x : Value} (hx : VR k' v x) (h : evRet st st' v = some (v2, st2)) : st2 = st ∧ VR (k.after w w') v2 x := by
  unfold evRet at h
  split at h
  · cases h
  · rename_i v' hv'
    let kB : K := { ρ := k'.ρ, I := (k.after w w').I }
    have hle : k'.le kB := ⟨fun _ _ h => h, hR.I⟩
    have hrows : RowsLie k' kB st' w' (some st.store.length) := by
      intro r g es hr _ hfz o u hc
      simp only [frozenNow, Bool.false_or, decide_eq_true_eq] at hfz
      simp only [kB, K.after]
      rw [if_neg (by have := hR.rows r g hr hfz; omega)]; exact hc
    have h1 := (freeze_vr hR.wr hle hrows _ _ _ hv').1 x hx
    have h2 : ∀ v3 : V, VR kB v3 x → below st.store.length deep v3 = true → VR (k.after w w') v3 x := fun v3 h3 hb =>
      (below_vr (kB := kB) (kF := k.after w w') (fun r g hr hlt => hR.ρ r g hr hlt) (fun b o v h => h) _ _ hb).1 x h3
    have fin : ∀ q : V, VR kB q x → (if below st.store.length deep q then some (q, st) else none) = some (v2, st2) → st2 = st ∧ VR (k.after w w') v2 x := by
      intro q hq h
      split at h
      · rename_i hb
        simp only [Option.some.injEq, Prod.mk.injEq] at h
        obtain ⟨rfl, rfl⟩ := h
        exact ⟨rfl, h2 _ hq hb⟩
      · cases h
    split at h
    · refine fin _ ?_ h
      cases hx with | tup _ xs hv =>
      cases h1 with | tup _ _ hv' => exact .tup _ _ (tops_vr hv hv')
    · exact fin _ (top_vr hx h1) h

theorem evBody_some {S : S} {fn : Func} {args : List V} {v : V} (h : evBody T S fn args st = some (v, st')) : fn.body.isSome = true := by
  unfold evBody at h
  split at h
  · cases h
  · rename_i c hc; rw [hc]; rfl

theorem mapM_freeze (hw : WR k st w) : ∀ {args args' : List V} {vs : List Value}, args.mapM (freeze st none deep) = some args' → VRs k args vs → VRs k args' vs :=
  fun h hv => mapM_vrs (fun x y u _ e hx => (freeze_vr hw (.refl k) (fun r g es _ _ hf => by simp [frozenNow] at hf) _ _ _ e).1 u hx) h hv

theorem evCall_ok (hT : T.Fits P) {S : S} (hS : CodeOk P T S) : CallOk P T { code := evCode T S, call := evCall T S } := by
  intro f args st v st' h
  simp only at h
  unfold evCall at h
  split at h
  · cases h
  rename_i fn hfn
  have hbody : ∀ {args : List V} {s s' : St} {v : V}, evBody T S fn args s = some (v, s') → ∃ fn, P.funcs[f]? = some fn ∧ fn.body.isSome = true ∧ fn.name ≠ "runtime.NumGoroutine" :=
    fun h => ⟨fn, hT.fn f fn hfn, evBody_some h, hT.name f fn hfn⟩
  split at h
  · refine ⟨hbody h, fun k w vs n hg hw ha => evBody_sim hT hS hfn h n hg hw ha⟩
  · unfold evRo at h
    split at h
    · cases h
    · rename_i args' hargs
      split at h
      · cases h
      · rename_i v1 st1 hb
        refine ⟨hbody hb, fun k w vs n hg hw ha => ?_⟩
        have hw0 : WR k { st with base := st.store.length } w := ⟨hw.imm, hw.obj, hw.bound, hw.apart⟩
        refine CallsIn.mono (evBody_sim hT hS hfn hb n hg hw0 (mapM_freeze hw hargs ha)) ?_
        rintro e w' ⟨k', x, rfl, hL, hx⟩
        have hR := Ro.of hw hL
        obtain ⟨rfl, h1⟩ := evRet_sim hR hx h
        exact ⟨_, x, rfl, hR.later, h1⟩
  · split at h
    · rename_i x
      split at h
      · rename_i hx
        split at h
        · rename_i n1 s1 n2 s2 e1 e2
          cases h
          refine ⟨hbody e1, fun k w vs n hg hw ha => ?_⟩
          have hw0 : WR k { st with base := st.store.length } w := ⟨hw.imm, hw.obj, hw.bound, hw.apart⟩
          cases ha with | cons hX hs =>
          cases hs with | nil =>
          have fin : ∀ {X : Value} {y : V} {s' : St} {nl : Option Bool}, VR k y X → evBody T S fn [y] { st with base := st.store.length } = some (.list true nl [], s') → CallsIn Fence.wide n P f ⟨[X]⟩ w fun e w' => ∃ k' x, e = .returned x ∧ Later k k' st st w w' ∧ VR k' (.list true none []) x := by
            intro X y s' nl hy hb
            refine CallsIn.mono (evBody_sim hT hS hfn hb n hg hw0 (.cons hy .nil)) ?_
            rintro e w' ⟨k', x, rfl, hL, hx⟩
            have hR := Ro.of hw hL
            refine ⟨_, x, rfl, hR.later, ?_⟩
            cases hx with | list0 _ _ base cap h1 h2 h3 => exact .list0 true none base cap h1 (fun e => by cases e) (fun e => by cases e)
          unfold isEmptyList at hx
          split at hx
          · cases hX with | list0 _ _ base cap h1 h2 h3 =>
            cases base with
            | none => exact fin (.list0 false (some true) none cap (fun e => by cases e) (fun _ => rfl) (fun e => by cases e)) e1
            | some b => exact fin (.list0 false (some false) (some b) cap (fun e => by cases e) (fun e => by cases e) (fun _ e => by cases e)) e2
          · cases hx
        · cases h
      · exact ⟨hbody h, fun k w vs n hg hw ha => evBody_sim hT hS hfn h n hg hw ha⟩
    · cases h

end
end Go.Abs
