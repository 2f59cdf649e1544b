/- Proved: the statement TableNames holds of every program (and text) whose bulk is at most 1048576: the row's second form, as its tied card (theorem names_card). Conditions: those of the given row, and that bound on the arguments' bulk; nothing else. -/
import Derived.Test.YtghhphdkojjalaaGreatDoorCards
import Derived.Test.YtghhphdkojjalaaGreatDoorTie
import Derived.SevenTiedAt
import Derived.Deep.DeepWitnessRowRef
import Derived.Test.YtghhphdkojjalaaGreatDoorB3
set_option linter.all false
namespace Go.Proofs.YtghhphdkojjalaaGreatDoor
open Go Go.Abs Go.ChangeShapes Go.WideShapes Go.RowKit
set_option maxRecDepth 1000000
theorem aS_4 (xs : List V) (hl : xs.length = Tryz.f7.params.toList.length) (hs : ∀ (j : Nat) t x, Tryz.f7.params.toList[j]? = some t → xs[j]? = some x → ∃ n, Shaped Tryz.prog n t x) (hb : V.bulks xs ≤ 1048576) : ∃ st', (run tb).call 7 xs st0 = some (.bool true, st') := by
  rw [Tryz.params7] at hl hs
  obtain ⟨x0, x1, x2, rfl⟩ : ∃ x0 x1 x2, xs = [x0, x1, x2] := by
    rcases xs with _ | ⟨x0, _ | ⟨x1, _ | ⟨x2, _ | ⟨z, r⟩⟩⟩⟩
    · simp at hl
    · simp at hl
    · simp at hl
    · exact ⟨x0, x1, x2, rfl⟩
    · simp at hl
  obtain ⟨n0, h0⟩ := hs 0 26 x0 rfl rfl
  obtain ⟨n1, h1⟩ := hs 1 9 x1 rfl rfl
  obtain ⟨n2, h2⟩ := hs 2 9 x2 rfl rfl
  obtain ⟨p, rfl, hw⟩ := E_0 h0
  obtain ⟨s1, rfl⟩ := a_4 Tryz.underlying9 h1
  obtain ⟨s2, rfl⟩ := a_4 Tryz.underlying9 h2
  simp only [V.bulks, M_2] at hb
  have hp : p.size = p.v.bulk := rfl
  exact be_5 p s1 s2 false false false p.n1 p.n2 p.n3 (by omega) hw (by omega) (by omega)
theorem aH_4 (os : Os) {H : Type} (enc : TypeId × Value → H) : ∃ places, DataW.whole enc Tryz.prog ((laidWorld os).forCall (fun _ _ => 0) ⟨#[], #[.agg #[.slice none 0 0, .slice none 0 0, .slice none 0 0], .string .empty, .string .empty], []⟩).memory Tryz.f7.params.toList Rows.tableNamesSpec.vars false #[Value.agg #[.slice none 0 0, .slice none 0 0, .slice none 0 0], .string .empty, .string .empty].toList 8 = some ([.agg [.nil, .nil, .nil], .lit (.string []), .lit (.string [])], [], places) :=
  ⟨[], by kernel_rfl⟩
theorem au_9 (os : Os) (started : os.Started) (H : Type) (enc : TypeId × Value → H) (F : Stop.Interp) :
    ReturnsInHanded {} Tryz.checked os 7 .any ((Rows.OpenSpec.upto Rows.tableNamesSpec).preRow enc Tryz.prog Tryz.f7 Rows.tableNamesUptoRow.domain false Rows.tableNamesUptoRow.laid) (((Rows.OpenSpec.upto Rows.tableNamesSpec).at F).post enc Tryz.prog Tryz.f7 false true false false) := by
  obtain ⟨places, hx⟩ := aH_4 os enc
  exact liftedUpto (C := Tryz.checked) (s := Rows.tableNamesSpec) (kc := Rows.uptoSmall) (L := Rows.tableNamesUptoRow.laid) T_8 P_6 own started (fun W h => U_7 h) (by kernel_rfl) Tryz.func7 rfl Tryz.underlying4 rfl tyL P_2 (by kernel_rfl)
    (fun ds h => by
      rw [show Tryz.f7.params.toList = [26, 9, 9] from by rw [Tryz.params7]] at h
      rcases ds with _ | ⟨x0, _ | ⟨x1, _ | ⟨x2, _ | ⟨z, r⟩⟩⟩⟩
      · simp at h
      · simp at h
      · simp at h
      · rfl
      · simp at h)
    U_6 G_2 aS_4
    (witness_row_atRef (enc := enc) (C := Tryz.checked) false (laidWorld os) #[.agg #[.slice none 0 0, .slice none 0 0, .slice none 0 0], .string .empty, .string .empty] (World.laidAll_os _ _ _) (by kernel_rfl) (by kernel_rfl) (by kernel_rfl)
      (OpenSpec.preRow_of_cond 8 hx (by kernel_rfl) (fun k hk => by cases hk; kernel_rfl) (by kernel_rfl) (w_6 os _)))
theorem aU_5 : Rows.TableNamesUptoSaid :=
  OpenClaim.holds_of_cond 7 Tryz.f7 rfl rfl rfl rfl rfl rfl rfl ⟨rfl, rfl, rfl, rfl, rfl⟩ rfl rfl rfl rfl rfl (by kernel_rfl) Tryz.func7 (by kernel_rfl)
    (of_decide_eq_true (by kernel_rfl)) (by unfold Func.isWrapper; first | (rw [if_pos (by decide +kernel)]; kernel_rfl) | (rw [if_neg (by decide +kernel)]; exact ⟨rfl, rfl⟩))
    (fun os started H enc _ F => by rw [OpenClaim.pre_eq_preRow]; exact au_9 os started H enc F)
theorem aI_0 (t : TypeId) (h : t ∈ [26, 9, 9]) : Tryz.prog.wantsStandIn t = false := by
  have h2 : ([26, 9, 9].all fun t => Tryz.prog.wantsStandIn t == false) = true := by kernel_rfl
  exact eq_of_beq (List.all_eq_true.1 h2 t h)
theorem aD_3 (f : FuncId) (fn : Func) (hf : Tryz.pinned.checked.prog.funcNamed "drogue/droguelaw08.TableNames" = some f) (hfn : Tryz.pinned.checked.prog.funcs[f]? = some fn) :
    true = Tryz.pinned.checked.prog.looks [] ∧ ∀ (j : Nat) t, fn.params[j]? = some t → Tryz.pinned.checked.prog.wantsStandIn t = false := by
  obtain rfl : f = 7 := Option.some.inj ((show Tryz.prog.funcNamed "drogue/droguelaw08.TableNames" = some 7 by kernel_rfl).symm.trans hf) |>.symm
  obtain rfl : fn = Tryz.f7 := (Option.some.inj (Tryz.func7.symm.trans hfn)).symm
  refine ⟨by kernel_rfl, fun j t ht => ?_⟩
  rw [Tryz.params7] at ht
  exact aI_0 t (List.mem_of_getElem? (i := j) (by simpa using ht))
theorem names_card : Rows.TableNamesUptoCardSaid :=
  Claim7.holds_tied_plain_at .later [] _ _ _ _ aU_5 (fun _ h => by cases h) (by kernel_rfl) (fun _ h => by cases h) tableNamesUpto_row_tie rfl ⟨rfl, rfl⟩ (by kernel_rfl) rfl aD_3 (by kernel_rfl)
end Go.Proofs.YtghhphdkojjalaaGreatDoor

