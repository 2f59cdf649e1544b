/- Proved: the statement TableDiags holds of every program (and text) whose bulk is at most 1048576: the row's second form, as its tied card (theorem diags_card). Conditions: those of the given row, and that bound on the arguments' bulk; nothing else. -/
import Derived.Test.YtghhphdkojjalaaGreatDoorCards
import Derived.Test.YtghhphdkojjalaaGreatDoorTie
import Derived.SevenTiedAt
import Derived.Deep.DeepWitnessRowRef
import Derived.Test.YtghhphdkojjalaaGreatDoorB3
set_option linter.all false
namespace Go.Proofs.YtghhphdkojjalaaGreatDoor
open Go Go.Abs Go.ChangeShapes Go.WideShapes Go.RowKit
set_option maxRecDepth 1000000
theorem aB_4 {p : Prog} {xs : List V} (h : V.bulks (p.v :: xs) ≤ 1048576) : p.size ≤ 1048576 := by
  simp only [V.bulks] at h
  show p.v.bulk ≤ _
  omega
theorem aW_3 (xs : List V) (hl : xs.length = Tryz.f3.params.toList.length) (hs : ∀ (j : Nat) t x, Tryz.f3.params.toList[j]? = some t → xs[j]? = some x → ∃ n, Shaped Tryz.prog n t x) (hb : V.bulks xs ≤ 1048576) : ∃ st', (run tb).call 3 xs st0 = some (.bool true, st') := by
  rw [Tryz.params3] at hl hs
  obtain ⟨x0, rfl⟩ : ∃ x0, xs = [x0] := by
    rcases xs with _ | ⟨x0, _ | ⟨z, r⟩⟩
    · simp at hl
    · exact ⟨x0, rfl⟩
    · simp at hl
  obtain ⟨n0, h0⟩ := hs 0 26 x0 rfl rfl
  obtain ⟨p, rfl, hw⟩ := E_0 h0
  exact aY_ p false false false p.n1 p.n2 p.n3 (aB_4 hb) hw
theorem aD_8 (os : Os) {H : Type} (enc : TypeId × Value → H) : ∃ places, DataW.whole enc Tryz.prog ((laidWorld os).forCall (fun _ _ => 0) ⟨#[], #[.agg #[.slice none 0 0, .slice none 0 0, .slice none 0 0]], []⟩).memory Tryz.f3.params.toList Rows.tableDiagsSpec.vars false #[Value.agg #[.slice none 0 0, .slice none 0 0, .slice none 0 0]].toList 8 = some ([.agg [.nil, .nil, .nil]], [], places) :=
  ⟨[], by kernel_rfl⟩
theorem aC_7 (os : Os) (started : os.Started) (H : Type) (enc : TypeId × Value → H) (F : Stop.Interp) :
    ReturnsInHanded {} Tryz.checked os 3 .any ((Rows.OpenSpec.upto Rows.tableDiagsSpec).preRow enc Tryz.prog Tryz.f3 Rows.tableDiagsUptoRow.domain false Rows.tableDiagsUptoRow.laid) (((Rows.OpenSpec.upto Rows.tableDiagsSpec).at F).post enc Tryz.prog Tryz.f3 false true false false) := by
  obtain ⟨places, hx⟩ := aD_8 os enc
  exact liftedUpto (C := Tryz.checked) (s := Rows.tableDiagsSpec) (kc := Rows.uptoSmall) (L := Rows.tableDiagsUptoRow.laid) T_8 P_6 own started (fun W h => U_7 h) (by kernel_rfl) Tryz.func3 rfl Tryz.underlying4 rfl tyL P_2 (by kernel_rfl)
    (fun ds h => by
      rw [show Tryz.f3.params.toList = [26] from by rw [Tryz.params3]] at h
      rcases ds with _ | ⟨x0, _ | ⟨z, r⟩⟩
      · simp at h
      · rfl
      · simp at h)
    U_6 G_2 aW_3
    (witness_row_atRef (enc := enc) (C := Tryz.checked) false (laidWorld os) #[.agg #[.slice none 0 0, .slice none 0 0, .slice none 0 0]] (World.laidAll_os _ _ _) (by kernel_rfl) (by kernel_rfl) (by kernel_rfl)
      (OpenSpec.preRow_of_cond 8 hx (by kernel_rfl) (fun k hk => by cases hk; kernel_rfl) (by kernel_rfl) (w_6 os _)))
theorem aQ_1 : Rows.TableDiagsUptoSaid :=
  OpenClaim.holds_of_cond 3 Tryz.f3 rfl rfl rfl rfl rfl rfl rfl ⟨rfl, rfl, rfl, rfl, rfl⟩ rfl rfl rfl rfl rfl (by kernel_rfl) Tryz.func3 (by kernel_rfl)
    (of_decide_eq_true (by kernel_rfl)) (by unfold Func.isWrapper; first | (rw [if_pos (by decide +kernel)]; kernel_rfl) | (rw [if_neg (by decide +kernel)]; exact ⟨rfl, rfl⟩))
    (fun os started H enc _ F => by rw [OpenClaim.pre_eq_preRow]; exact aC_7 os started H enc F)
theorem aD_5 (f : FuncId) (fn : Func) (hf : Tryz.pinned.checked.prog.funcNamed "drogue/droguelaw08.TableDiags" = some f) (hfn : Tryz.pinned.checked.prog.funcs[f]? = some fn) :
    true = Tryz.pinned.checked.prog.looks [] ∧ ∀ (j : Nat) t, fn.params[j]? = some t → Tryz.pinned.checked.prog.wantsStandIn t = false := by
  obtain rfl : f = 3 := Option.some.inj ((show Tryz.prog.funcNamed "drogue/droguelaw08.TableDiags" = some 3 by kernel_rfl).symm.trans hf) |>.symm
  obtain rfl : fn = Tryz.f3 := (Option.some.inj (Tryz.func3.symm.trans hfn)).symm
  refine ⟨by kernel_rfl, fun j t ht => ?_⟩
  rw [Tryz.params3] at ht
  obtain rfl : t = 26 := by simpa using Array.mem_of_getElem? ht
  exact (show Tryz.prog.wantsStandIn 26 = false by kernel_rfl)
theorem diags_card : Rows.TableDiagsUptoCardSaid :=
  Claim7.holds_tied_plain_at .later [] _ _ _ _ aQ_1 (fun _ h => by cases h) (by kernel_rfl) (fun _ h => by cases h) tableDiagsUpto_row_tie rfl ⟨rfl, rfl⟩ (by kernel_rfl) rfl aD_5 (by kernel_rfl)
end Go.Proofs.YtghhphdkojjalaaGreatDoor

