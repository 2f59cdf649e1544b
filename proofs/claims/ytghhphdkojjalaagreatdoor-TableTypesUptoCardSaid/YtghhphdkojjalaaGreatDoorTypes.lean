/- Proved: the statement TableTypes holds of every program (and text) whose bulk is at most 1048576: the row's second form, as its tied card (theorem types_card). Conditions: those of the given row, and that bound on the arguments' bulk; nothing else. -/
import Derived.Test.YtghhphdkojjalaaGreatDoorCards
import Derived.Test.YtghhphdkojjalaaGreatDoorTie
import Derived.SevenTiedAt
import Derived.Deep.DeepWitnessRowRef
import Derived.Test.YtghhphdkojjalaaGreatDoorB3
set_option linter.all false
namespace Go.Proofs.YtghhphdkojjalaaGreatDoor
open Go Go.Abs Go.ChangeShapes Go.WideShapes Go.RowKit
set_option maxRecDepth 1000000
theorem aS_6 (xs : List V) (hl : xs.length = Tryz.f4.params.toList.length) (hs : ∀ (j : Nat) t x, Tryz.f4.params.toList[j]? = some t → xs[j]? = some x → ∃ n, Shaped Tryz.prog n t x) (hb : V.bulks xs ≤ 1048576) : ∃ st', (run tb).call 4 xs st0 = some (.bool true, st') := by
  rw [Tryz.params4] at hl hs
  obtain ⟨x0, x1, rfl⟩ : ∃ x0 x1, xs = [x0, x1] := by
    rcases xs with _ | ⟨x0, _ | ⟨x1, _ | ⟨z, r⟩⟩⟩
    · simp at hl
    · simp at hl
    · exact ⟨x0, x1, rfl⟩
    · simp at hl
  obtain ⟨n0, h0⟩ := hs 0 26 x0 rfl rfl
  obtain ⟨n1, h1⟩ := hs 1 9 x1 rfl rfl
  obtain ⟨p, rfl, hw⟩ := E_0 h0
  obtain ⟨s1, rfl⟩ := a_4 Tryz.underlying9 h1
  simp only [V.bulks, M_2] at hb
  have hp : p.size = p.v.bulk := rfl
  exact aZ_7 p s1 false false false p.n1 p.n2 p.n3 (by omega) hw (by omega)
theorem aF_9 (os : Os) {H : Type} (enc : TypeId × Value → H) : ∃ places, DataW.whole enc Tryz.prog ((laidWorld os).forCall (fun _ _ => 0) ⟨#[], #[.agg #[.slice none 0 0, .slice none 0 0, .slice none 0 0], .string .empty], []⟩).memory Tryz.f4.params.toList Rows.tableTypesSpec.vars false #[Value.agg #[.slice none 0 0, .slice none 0 0, .slice none 0 0], .string .empty].toList 8 = some ([.agg [.nil, .nil, .nil], .lit (.string [])], [], places) :=
  ⟨[], by kernel_rfl⟩
theorem aC_5 (os : Os) (started : os.Started) (H : Type) (enc : TypeId × Value → H) (F : Stop.Interp) :
    ReturnsInHanded {} Tryz.checked os 4 .any ((Rows.OpenSpec.upto Rows.tableTypesSpec).preRow enc Tryz.prog Tryz.f4 Rows.tableTypesUptoRow.domain false Rows.tableTypesUptoRow.laid) (((Rows.OpenSpec.upto Rows.tableTypesSpec).at F).post enc Tryz.prog Tryz.f4 false true false false) := by
  obtain ⟨places, hx⟩ := aF_9 os enc
  exact liftedUpto (C := Tryz.checked) (s := Rows.tableTypesSpec) (kc := Rows.uptoSmall) (L := Rows.tableTypesUptoRow.laid) T_8 P_6 own started (fun W h => U_7 h) (by kernel_rfl) Tryz.func4 rfl Tryz.underlying4 rfl tyL P_2 (by kernel_rfl)
    (fun ds h => by
      rw [show Tryz.f4.params.toList = [26, 9] from by rw [Tryz.params4]] at h
      rcases ds with _ | ⟨x0, _ | ⟨x1, _ | ⟨z, r⟩⟩⟩
      · simp at h
      · simp at h
      · rfl
      · simp at h)
    U_6 G_2 aS_6
    (witness_row_atRef (enc := enc) (C := Tryz.checked) false (laidWorld os) #[.agg #[.slice none 0 0, .slice none 0 0, .slice none 0 0], .string .empty] (World.laidAll_os _ _ _) (by kernel_rfl) (by kernel_rfl) (by kernel_rfl)
      (OpenSpec.preRow_of_cond 8 hx (by kernel_rfl) (fun k hk => by cases hk; kernel_rfl) (by kernel_rfl) (w_6 os _)))
theorem aQ_6 : Rows.TableTypesUptoSaid :=
  OpenClaim.holds_of_cond 4 Tryz.f4 rfl rfl rfl rfl rfl rfl rfl ⟨rfl, rfl, rfl, rfl, rfl⟩ rfl rfl rfl rfl rfl (by kernel_rfl) Tryz.func4 (by kernel_rfl)
    (of_decide_eq_true (by kernel_rfl)) (by unfold Func.isWrapper; first | (rw [if_pos (by decide +kernel)]; kernel_rfl) | (rw [if_neg (by decide +kernel)]; exact ⟨rfl, rfl⟩))
    (fun os started H enc _ F => by rw [OpenClaim.pre_eq_preRow]; exact aC_5 os started H enc F)
theorem aJ_1 (t : TypeId) (h : t ∈ [26, 9]) : Tryz.prog.wantsStandIn t = false := by
  have h2 : ([26, 9].all fun t => Tryz.prog.wantsStandIn t == false) = true := by kernel_rfl
  exact eq_of_beq (List.all_eq_true.1 h2 t h)
theorem aJ_5 (f : FuncId) (fn : Func) (hf : Tryz.pinned.checked.prog.funcNamed "drogue/droguelaw08.TableTypes" = some f) (hfn : Tryz.pinned.checked.prog.funcs[f]? = some fn) :
    true = Tryz.pinned.checked.prog.looks [] ∧ ∀ (j : Nat) t, fn.params[j]? = some t → Tryz.pinned.checked.prog.wantsStandIn t = false := by
  obtain rfl : f = 4 := Option.some.inj ((show Tryz.prog.funcNamed "drogue/droguelaw08.TableTypes" = some 4 by kernel_rfl).symm.trans hf) |>.symm
  obtain rfl : fn = Tryz.f4 := (Option.some.inj (Tryz.func4.symm.trans hfn)).symm
  refine ⟨by kernel_rfl, fun j t ht => ?_⟩
  rw [Tryz.params4] at ht
  exact aJ_1 t (List.mem_of_getElem? (i := j) (by simpa using ht))
theorem types_card : Rows.TableTypesUptoCardSaid :=
  Claim7.holds_tied_plain_at .later [] _ _ _ _ aQ_6 (fun _ h => by cases h) (by kernel_rfl) (fun _ h => by cases h) tableTypesUpto_row_tie rfl ⟨rfl, rfl⟩ (by kernel_rfl) rfl aJ_5 (by kernel_rfl)
end Go.Proofs.YtghhphdkojjalaaGreatDoor

