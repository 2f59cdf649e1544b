/- Proved: the statement TableParts holds of every program (and text) whose bulk is at most 1048576: the row's second form, as its tied card (theorem parts_card). Conditions: those of the given row, and that bound on the arguments' bulk; nothing else. -/
import Derived.Test.YtghhphdkojjalaaGreatDoorCards
import Derived.Test.YtghhphdkojjalaaGreatDoorTie
import Derived.SevenTiedAt
import Derived.Deep.DeepWitnessRowRef
import Derived.Test.YtghhphdkojjalaaGreatDoorC2
set_option linter.all false
namespace Go.Proofs.YtghhphdkojjalaaGreatDoor
open Go Go.Abs Go.ChangeShapes Go.WideShapes Go.RowKit
set_option maxRecDepth 1000000
theorem aT_9 (xs : List V) (hl : xs.length = Tryz.f6.params.toList.length) (hs : ∀ (j : Nat) t x, Tryz.f6.params.toList[j]? = some t → xs[j]? = some x → ∃ n, Shaped Tryz.prog n t x) (hb : V.bulks xs ≤ 1048576) : ∃ st', (run tb).call 6 xs st0 = some (.bool true, st') := by
  rw [Tryz.params6] at hl hs
  obtain ⟨x0, rfl⟩ : ∃ x0, xs = [x0] := by
    rcases xs with _ | ⟨x0, _ | ⟨z, r⟩⟩
    · simp at hl
    · exact ⟨x0, rfl⟩
    · simp at hl
  obtain ⟨n0, h0⟩ := hs 0 26 x0 rfl rfl
  obtain ⟨p, rfl, hw⟩ := E_0 h0
  simp only [V.bulks, M_2] at hb
  have hp : p.size = p.v.bulk := rfl
  exact bg_ p  false false false p.n1 p.n2 p.n3 (by omega) hw 
theorem aE_5 (os : Os) {H : Type} (enc : TypeId × Value → H) : ∃ places, DataW.whole enc Tryz.prog ((laidWorld os).forCall (fun _ _ => 0) ⟨#[], #[.agg #[.slice none 0 0, .slice none 0 0, .slice none 0 0]], []⟩).memory Tryz.f6.params.toList Rows.tablePartsSpec.vars false #[Value.agg #[.slice none 0 0, .slice none 0 0, .slice none 0 0]].toList 8 = some ([.agg [.nil, .nil, .nil]], [], places) :=
  ⟨[], by kernel_rfl⟩
theorem ay_0 (os : Os) (started : os.Started) (H : Type) (enc : TypeId × Value → H) (F : Stop.Interp) :
    ReturnsInHanded {} Tryz.checked os 6 .any ((Rows.OpenSpec.upto Rows.tablePartsSpec).preRow enc Tryz.prog Tryz.f6 Rows.tablePartsUptoRow.domain false Rows.tablePartsUptoRow.laid) (((Rows.OpenSpec.upto Rows.tablePartsSpec).at F).post enc Tryz.prog Tryz.f6 false true false false) := by
  obtain ⟨places, hx⟩ := aE_5 os enc
  exact liftedUpto (C := Tryz.checked) (s := Rows.tablePartsSpec) (kc := Rows.uptoSmall) (L := Rows.tablePartsUptoRow.laid) T_8 P_6 own started (fun W h => U_7 h) (by kernel_rfl) Tryz.func6 rfl Tryz.underlying4 rfl tyL P_2 (by kernel_rfl)
    (fun ds h => by
      rw [show Tryz.f6.params.toList = [26] from by rw [Tryz.params6]] at h
      rcases ds with _ | ⟨x0, _ | ⟨z, r⟩⟩
      · simp at h
      · rfl
      · simp at h)
    U_6 G_2 aT_9
    (witness_row_atRef (enc := enc) (C := Tryz.checked) false (laidWorld os) #[.agg #[.slice none 0 0, .slice none 0 0, .slice none 0 0]] (World.laidAll_os _ _ _) (by kernel_rfl) (by kernel_rfl) (by kernel_rfl)
      (OpenSpec.preRow_of_cond 8 hx (by kernel_rfl) (fun k hk => by cases hk; kernel_rfl) (by kernel_rfl) (w_6 os _)))
theorem aU_2 : Rows.TablePartsUptoSaid :=
  OpenClaim.holds_of_cond 6 Tryz.f6 rfl rfl rfl rfl rfl rfl rfl ⟨rfl, rfl, rfl, rfl, rfl⟩ rfl rfl rfl rfl rfl (by kernel_rfl) Tryz.func6 (by kernel_rfl)
    (of_decide_eq_true (by kernel_rfl)) (by unfold Func.isWrapper; first | (rw [if_pos (by decide +kernel)]; kernel_rfl) | (rw [if_neg (by decide +kernel)]; exact ⟨rfl, rfl⟩))
    (fun os started H enc _ F => by rw [OpenClaim.pre_eq_preRow]; exact ay_0 os started H enc F)
theorem aG_7 (t : TypeId) (h : t ∈ [26]) : Tryz.prog.wantsStandIn t = false := by
  have h2 : ([26].all fun t => Tryz.prog.wantsStandIn t == false) = true := by kernel_rfl
  exact eq_of_beq (List.all_eq_true.1 h2 t h)
theorem aD_4 (f : FuncId) (fn : Func) (hf : Tryz.pinned.checked.prog.funcNamed "drogue/droguelaw08.TableParts" = some f) (hfn : Tryz.pinned.checked.prog.funcs[f]? = some fn) :
    true = Tryz.pinned.checked.prog.looks [] ∧ ∀ (j : Nat) t, fn.params[j]? = some t → Tryz.pinned.checked.prog.wantsStandIn t = false := by
  obtain rfl : f = 6 := Option.some.inj ((show Tryz.prog.funcNamed "drogue/droguelaw08.TableParts" = some 6 by kernel_rfl).symm.trans hf) |>.symm
  obtain rfl : fn = Tryz.f6 := (Option.some.inj (Tryz.func6.symm.trans hfn)).symm
  refine ⟨by kernel_rfl, fun j t ht => ?_⟩
  rw [Tryz.params6] at ht
  exact aG_7 t (List.mem_of_getElem? (i := j) (by simpa using ht))
theorem parts_card : Rows.TablePartsUptoCardSaid :=
  Claim7.holds_tied_plain_at .later [] _ _ _ _ aU_2 (fun _ h => by cases h) (by kernel_rfl) (fun _ h => by cases h) tablePartsUpto_row_tie rfl ⟨rfl, rfl⟩ (by kernel_rfl) rfl aD_4 (by kernel_rfl)
end Go.Proofs.YtghhphdkojjalaaGreatDoor

