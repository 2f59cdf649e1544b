/- Proved: the statement CheckSteps holds of every program (and text) whose bulk is at most 1048576: the row's second form, as its tied card (theorem steps_card). Conditions: those of the given row, and that bound on the arguments' bulk; nothing else. -/
import Derived.Test.YtbbeelalcamgjaaGreatDoorCards
import Derived.Test.YtbbeelalcamgjaaGreatDoorTie
import Derived.SevenTiedAt
import Derived.Deep.DeepWitnessRowRef
import Derived.Test.YtbbeelalcamgjaaGreatDoor22
set_option linter.all false
namespace Go.Proofs.YtbbeelalcamgjaaGreatDoor
open Go Go.Abs Go.ChangeShapes Go.WideShapes Go.RowKit
set_option maxRecDepth 1000000
theorem aD_6 (xs : List V) (hl : xs.length = Tryz.f5.params.toList.length) (hs : ∀ (j : Nat) t x, Tryz.f5.params.toList[j]? = some t → xs[j]? = some x → ∃ n, Shaped Tryz.prog n t x) (hb : V.bulks xs ≤ 1048576) : ∃ st', (run tb).call 5 xs st0 = some (.bool true, st') := by
  rw [Tryz.params5] at hl hs
  obtain ⟨x0, x1, x2, rfl⟩ : ∃ x0 x1 x2, xs = [x0, x1, x2] := by
    rcases xs with _ | ⟨x0, _ | ⟨x1, _ | ⟨x2, _ | ⟨z, r⟩⟩⟩⟩
    · simp at hl
    · simp at hl
    · simp at hl
    · exact ⟨x0, x1, x2, rfl⟩
    · simp at hl
  obtain ⟨n0, h0⟩ := hs 0 26 x0 rfl rfl
  obtain ⟨n1, h1⟩ := hs 1 35 x1 rfl rfl
  obtain ⟨n2, h2⟩ := hs 2 38 x2 rfl rfl
  obtain ⟨p, rfl, hw⟩ := au_5 h0
  obtain ⟨f, rfl, hfw⟩ := ab_5 h1
  obtain ⟨q, rfl, -⟩ := y_6 h2
  simp only [V.bulks, U_9] at hb
  have hp : p.size = p.v.bulk := rfl
  have hp3 := j_6 p
  have hf : f.size = f.v.bulk := rfl
  have hq : q.size = q.v.bulk := rfl
  exact aO_2 p f q false false false p.n1 p.n2 p.n3 (by omega) hw (by omega) hfw (by omega)
theorem av_0 (os : Os) {H : Type} (enc : TypeId × Value → H) : ∃ places, DataW.whole enc Tryz.prog ((laidWorld os).forCall (fun _ _ => 0) ⟨#[], #[.agg #[.slice none 0 0, .slice none 0 0, .slice none 0 0], .agg #[.int .i64 0, .string .empty, .slice none 0 0, .slice none 0 0, .string .empty, .slice none 0 0], .agg #[.string .empty, .slice none 0 0]], []⟩).memory Tryz.f5.params.toList Rows.checkStepsSpec.vars false #[Value.agg #[.slice none 0 0, .slice none 0 0, .slice none 0 0], .agg #[.int .i64 0, .string .empty, .slice none 0 0, .slice none 0 0, .string .empty, .slice none 0 0], .agg #[.string .empty, .slice none 0 0]].toList 8 = some ([.agg [.nil, .nil, .nil], .agg [.lit (.int .i64 0), .lit (.string []), .nil, .nil, .lit (.string []), .nil], .agg [.lit (.string []), .nil]], [], places) :=
  ⟨[], by kernel_rfl⟩
theorem aq_2 (os : Os) (started : os.Started) (H : Type) (enc : TypeId × Value → H) (F : Stop.Interp) :
    ReturnsInHanded {} Tryz.checked os 5 .any ((Rows.OpenSpec.upto Rows.checkStepsSpec).preRow enc Tryz.prog Tryz.f5 Rows.checkStepsUptoRow.domain false Rows.checkStepsUptoRow.laid) (((Rows.OpenSpec.upto Rows.checkStepsSpec).at F).post enc Tryz.prog Tryz.f5 false true false false) := by
  obtain ⟨places, hx⟩ := av_0 os enc
  exact liftedUpto (C := Tryz.checked) (s := Rows.checkStepsSpec) (kc := Rows.uptoSmall) (L := Rows.checkStepsUptoRow.laid) bf_5 aV_5 own started (fun W h => be_4 h) (by kernel_rfl) Tryz.func5 rfl Tryz.underlying4 rfl tyL ba_3 (by kernel_rfl)
    (fun ds h => by
      rw [show Tryz.f5.params.toList = [26, 35, 38] from by rw [Tryz.params5]] at h
      rcases ds with _ | ⟨x0, _ | ⟨x1, _ | ⟨x2, _ | ⟨z, r⟩⟩⟩⟩
      · simp at h
      · simp at h
      · simp at h
      · rfl
      · simp at h)
    bd_8 aH_6 aD_6
    (witness_row_atRef (enc := enc) (C := Tryz.checked) false (laidWorld os) #[.agg #[.slice none 0 0, .slice none 0 0, .slice none 0 0], .agg #[.int .i64 0, .string .empty, .slice none 0 0, .slice none 0 0, .string .empty, .slice none 0 0], .agg #[.string .empty, .slice none 0 0]] (World.laidAll_os _ _ _) (by kernel_rfl) (by kernel_rfl) (by kernel_rfl)
      (OpenSpec.preRow_of_cond 8 hx (by kernel_rfl) (fun k hk => by cases hk; kernel_rfl) (by kernel_rfl) (ag_0 os _)))
theorem aR_2 : (Rows.checkStepsUptoRow.wf (OpenSpec.ofChange (Rows.OpenSpec.upto Rows.checkStepsSpec).bare)) = true := by kernel_rfl
theorem aT_2 : (laidOutB Tryz.pinned.checked.prog) = true := by kernel_rfl
theorem aU_9 : (mapsRowed Tryz.pinned.checked.prog) = true := by kernel_rfl
theorem aK_8 : (Tryz.f5.params.all (Tryz.pinned.checked.prog.readableRec ·)) = true := by kernel_rfl
theorem aR_6 : (namedTie Tryz.pinned.checked.prog Rows.checkStepsUptoRow.named (Rows.OpenSpec.upto Rows.checkStepsSpec).bare.vars) = true := by kernel_rfl
theorem aU_ : (Rows.checkStepsUptoRow.stops == []) = true := by kernel_rfl
theorem aP_0 : (Tryz.pinned.checked.prog.stops == []) = true := by kernel_rfl
theorem aM_8 : (Rows.checkStepsUptoRow.knobs == []) = true := by kernel_rfl
theorem aU_1 : (Tryz.pinned.checked.prog.stopKnobs == []) = true := by kernel_rfl
theorem aK_9 : (Rows.checkStepsUptoRow.inPlace == Tryz.pinned.checked.prog.inPlace 5) = true := by kernel_rfl
theorem aD_9 : (Rows.checkStepsUptoRow.unfollowed == Tryz.pinned.checked.prog.unfollowed 5) = true := by kernel_rfl
theorem aF_5 : (Rows.checkStepsUptoRow.recurses == Tryz.pinned.checked.prog.recurses 5) = true := by kernel_rfl
theorem aG_0 : (Rows.checkStepsUptoRow.named == Tryz.pinned.checked.prog.varsNamed 5) = true := by kernel_rfl
theorem aI_3 : (Rows.checkStepsUptoRow.maps == (Tryz.f5.params.toList ++ (Rows.OpenSpec.upto Rows.checkStepsSpec).bare.plain.varTypes Tryz.pinned.checked.prog).any (Tryz.pinned.checked.prog.mapsRec ·)) = true := by kernel_rfl
theorem aF_8 : (Rows.checkStepsUptoRow.ifaces == (Tryz.f5.params.toList ++ (Rows.OpenSpec.upto Rows.checkStepsSpec).bare.plain.varTypes Tryz.pinned.checked.prog).any (Tryz.pinned.checked.prog.ifacesRec ·)) = true := by kernel_rfl
theorem aC_2 : (Rows.checkStepsUptoRow.mapsOut == Tryz.pinned.checked.prog.mapsAmong Tryz.f5.resultTypes.toList) = true := by kernel_rfl
theorem aE_3 : (Rows.checkStepsUptoRow.loops == (Tryz.f5.params.toList ++ (Rows.OpenSpec.upto Rows.checkStepsSpec).bare.plain.varTypes Tryz.pinned.checked.prog).any (Tryz.pinned.checked.prog.loopsFrom ·)) = true := by kernel_rfl
theorem aF_7 : (Rows.checkStepsUptoRow.wideKeys == (Tryz.f5.params.toList ++ (Rows.OpenSpec.upto Rows.checkStepsSpec).bare.plain.varTypes Tryz.pinned.checked.prog ++ Tryz.f5.resultTypes.toList).any (Tryz.pinned.checked.prog.wideKeysFrom ·)) = true := by kernel_rfl
theorem aF_4 : ((Rows.OpenSpec.upto Rows.checkStepsSpec).bare.vars.all (Tryz.pinned.checked.prog.varReadable ·)) = true := by kernel_rfl
theorem aJ_3 : (Tryz.f5.resultTypes.all (fun t => Tryz.pinned.checked.prog.readableRec t && decide (t < Tryz.pinned.checked.prog.types.size))) = true := by kernel_rfl
theorem aI_9 : (Rows.checkStepsUptoRow.ifacesOut == Tryz.f5.resultTypes.toList.any (Tryz.pinned.checked.prog.ifacesRec ·)) = true := by kernel_rfl
theorem aK_6 : (Rows.checkStepsUptoRow.loopsOut == Tryz.f5.resultTypes.toList.any (Tryz.pinned.checked.prog.loopsFrom ·)) = true := by kernel_rfl
theorem aC_6 : (Rows.checkStepsUptoRow.plainKeys == Tryz.pinned.checked.prog.plainKeys) = true := by kernel_rfl
theorem aF_ : (Rows.checkStepsUptoRow.shortTexts.isNone) = true := by kernel_rfl
theorem aH_7 : (Tryz.pinned.checked.prog.stopsHeard) = true := by kernel_rfl
theorem aE_4 : (Tryz.pinned.checked.prog.mayEnter) = true := by kernel_rfl
theorem aG_8 : (Rows.checkStepsUptoRow.lifted == Tryz.pinned.checked.prog.liftsFinal) = true := by kernel_rfl
theorem aI_5 : (Tryz.pinned.checked.prog.make == some Rows.checkStepsUptoRow.make) = true := by kernel_rfl
theorem aG_5 : (Rows.checkStepsUptoRow.kinds == (if Rows.checkStepsUptoRow.domain.isEmpty then [] else Tryz.f5.params.toList.map fun t => match Tryz.pinned.checked.prog.underlying t with | some (.int k) => some k | _ => none)) = true := by kernel_rfl
theorem aE_9 : (Rows.checkStepsUptoRow.pinned == Rows.checkStepsUptoRow.pinnedBy) = true := by kernel_rfl
theorem aJ_9 : (Rows.checkStepsUptoRow.veiled == (Tryz.f5.params.toList ++ (Rows.OpenSpec.upto Rows.checkStepsSpec).bare.plain.varTypes Tryz.pinned.checked.prog ++ Tryz.f5.resultTypes.toList).any (Tryz.pinned.checked.prog.veiledRec ·)) = true := by kernel_rfl
theorem aK_0 : (Rows.checkStepsUptoRow.veiledFits Tryz.pinned.checked.prog Tryz.f5.params.toList (Tryz.f5.params.toList ++ (Rows.OpenSpec.upto Rows.checkStepsSpec).bare.plain.varTypes Tryz.pinned.checked.prog ++ Tryz.f5.resultTypes.toList)) = true := by kernel_rfl
theorem an_4 : joinedFacts Tryz.pinned.checked.prog 5 Tryz.f5 (Rows.OpenSpec.upto Rows.checkStepsSpec).bare Rows.checkStepsUptoRow = true := by
  unfold joinedFacts
  simp only [Bool.and_eq_true]
  exact ⟨⟨⟨⟨⟨⟨⟨⟨⟨⟨⟨⟨⟨⟨⟨⟨⟨⟨⟨⟨⟨⟨⟨⟨⟨⟨⟨⟨⟨⟨⟨aR_2, aT_2⟩, aU_9⟩, aK_8⟩, aR_6⟩, aU_⟩, aP_0⟩, aM_8⟩, aU_1⟩, aK_9⟩, aD_9⟩, aF_5⟩, aG_0⟩, aI_3⟩, aF_8⟩, aC_2⟩, aE_3⟩, aF_7⟩, aF_4⟩, aJ_3⟩, aI_9⟩, aK_6⟩, aC_6⟩, aF_⟩, aH_7⟩, aE_4⟩, aG_8⟩, aI_5⟩, aG_5⟩, aE_9⟩, aJ_9⟩, aK_0⟩
theorem aD_5 : Rows.CheckStepsUptoSaid :=
  OpenClaim.holds_of_cond 5 Tryz.f5 rfl rfl rfl rfl rfl rfl rfl ⟨rfl, rfl, rfl, rfl, rfl⟩ rfl rfl rfl rfl rfl (by kernel_rfl) Tryz.func5 an_4
    (of_decide_eq_true (by kernel_rfl)) (by unfold Func.isWrapper; first | (rw [if_pos (by decide +kernel)]; kernel_rfl) | (rw [if_neg (by decide +kernel)]; exact ⟨rfl, rfl⟩))
    (fun os started H enc _ F => by rw [OpenClaim.pre_eq_preRow]; exact aq_2 os started H enc F)
theorem as_8 (t : TypeId) (h : t ∈ [26, 35, 38]) : Tryz.prog.wantsStandIn t = false := by
  have h2 : ([26, 35, 38].all fun t => Tryz.prog.wantsStandIn t == false) = true := by kernel_rfl
  exact eq_of_beq (List.all_eq_true.1 h2 t h)
theorem au_4 (f : FuncId) (fn : Func) (hf : Tryz.pinned.checked.prog.funcNamed "drogue/droguelaw09.CheckSteps" = some f) (hfn : Tryz.pinned.checked.prog.funcs[f]? = some fn) :
    true = Tryz.pinned.checked.prog.looks [] ∧ ∀ (j : Nat) t, fn.params[j]? = some t → Tryz.pinned.checked.prog.wantsStandIn t = false := by
  obtain rfl : f = 5 := Option.some.inj ((show Tryz.prog.funcNamed "drogue/droguelaw09.CheckSteps" = some 5 by kernel_rfl).symm.trans hf) |>.symm
  obtain rfl : fn = Tryz.f5 := (Option.some.inj (Tryz.func5.symm.trans hfn)).symm
  refine ⟨by kernel_rfl, fun j t ht => ?_⟩
  rw [Tryz.params5] at ht
  exact as_8 t (List.mem_of_getElem? (i := j) (by simpa using ht))
theorem steps_card : Rows.CheckStepsUptoCardSaid :=
  Claim7.holds_tied_plain_at .later [] _ _ _ _ aD_5 (fun _ h => by cases h) (by kernel_rfl) (fun _ h => by cases h) checkStepsUpto_row_tie rfl ⟨rfl, rfl⟩ (by kernel_rfl) rfl au_4 (by kernel_rfl)
end Go.Proofs.YtbbeelalcamgjaaGreatDoor

