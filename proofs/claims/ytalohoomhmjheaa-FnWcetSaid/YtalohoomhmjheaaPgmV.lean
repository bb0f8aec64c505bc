import Derived.Test.YtalohoomhmjheaaPgm
import Derived.Test.YtalohoomhmjheaaFimplXProgramValid
import Derived.Test.YtalohoomhmjheaaFspecXProgramValid
set_option linter.unusedSimpArgs false
set_option linter.unusedVariables false
namespace Go.Proofs.Ytalohoomhmjheaa.Pu
open Go.RowKit Go.Proofs.Ytalohoomhmjheaa.Q Go.Proofs.YtalohoomhmjheaaW.PrintWords Go.Proofs.YtalohoomhmjheaaW.PrintLast

theorem NV_of {l : List Nd} {j : Nat} (h : ∀ i : Nat, i < j → nvP (rd_T28 l (i : Int)) (i : Int)) (e : l.length ≤ j) : NV l := fun i hi => h i (by omega)
theorem implPV_ex (l : List Nd) : Ex (fun k => impl_ProgramValid.f k l) (fun x => x = true ↔ PV l) := by
  unfold impl_ProgramValid.f
  simp only [pin_eq, Option.bind_some]
  refine Ex.ite (fun h => ?_) (fun h => Ex.val (psiff_no (fun h' => h (decide_eq_true ⟨by have := h'.pos; omega, by have := h'.len; omega⟩))))
  have h := of_decide_eq_true h
  have loop : ∀ (d j : Nat), j + d = l.length → (∀ i : Nat, i < j → nvP (rd_T28 l (i : Int)) (i : Int)) → Ex (fun k => impl_ProgramValid.l0 k l l (l.length : Int) (j : Int)) (fun x => x = true ↔ PV l) := by
    intro d
    induction d with
    | zero =>
      intro j hj hn
      have hv := NV_of hn (by omega)
      refine Ex.step ?_
      simp only [impl_ProgramValid.l0]
      rw [w64 (n := (l.length : Int) - 1) (by omega) (by omega), show (l.length : Int) - 1 = ((l.length - 1 : Nat) : Int) by omega]
      refine Ex.neg (by omega) (Ex.bind (implWorst_ex (by omega) hv) (fun x hx => Ex.pos (by omega) (Ex.pos (by omega) (Ex.val ?_))))
      rw [hx.2 (l.length - 1) (by omega), decide_eq_true_eq]
      exact ⟨fun g => ⟨by omega, by omega, hv, g⟩, fun g => g.fit⟩
    | succ d ih =>
      intro j hj hn
      refine Ex.step ?_
      simp only [impl_ProgramValid.l0]
      rw [pnx j (by omega)]
      simp only [implNode_eq _ (j : Int) (by omega) (by omega), Option.bind_some]
      refine Ex.pos (by omega) (Ex.pos (by omega) (Ex.pos (by omega) (Ex.ite (fun g => ih (j + 1) (by omega) (fun i hi => ?_)) (fun g => Ex.val (psiff_no (fun h' => g (decide_eq_true (h'.nv j (by omega)))))))))
      by_cases e : i = j
      · rw [e]; exact of_decide_eq_true g
      · exact hn i (by omega)
  exact loop l.length 0 (by omega) (fun i hi => by omega)
theorem specPV_ex (l : List Nd) : Ex (fun k => spec_ProgramValid.f k l) (fun x => x = true ↔ PV l) := by
  unfold spec_ProgramValid.f
  simp only [pl1In_eq, Option.bind_some]
  refine Ex.ite (fun h => ?_) (fun h => Ex.val (psiff_no (fun h' => h (decide_eq_true ⟨by have := h'.pos; omega, by have := h'.len; omega⟩))))
  have h := of_decide_eq_true h
  have loop : ∀ (d j : Nat), j + d = l.length → (∀ i : Nat, i < j → nvP (rd_T28 l (i : Int)) (i : Int)) → Ex (fun k => spec_ProgramValid.l0 k l (j : Int)) (fun x => x = true ↔ PV l) := by
    intro d
    induction d with
    | zero =>
      intro j hj hn
      have hv := NV_of hn (by omega)
      refine Ex.step ?_
      simp only [spec_ProgramValid.l0]
      rw [w64 (n := (l.length : Int) - 1) (by omega) (by omega), show (l.length : Int) - 1 = ((l.length - 1 : Nat) : Int) by omega]
      refine Ex.neg (by omega) (Ex.bind (specCosts_ex (by omega) hv true) (fun x hx => Ex.pos (by omega) (Ex.pos (by omega) (Ex.val ?_))))
      rw [hx.2 (l.length - 1) (by omega), if_pos rfl, V_capW hv _ (by omega), decide_eq_true_eq]
      have m := mn_bd (V wF l (l.length - 1)) 601
      exact ⟨fun g => ⟨by omega, by omega, hv, by omega⟩, fun g => by have := g.fit; omega⟩
    | succ d ih =>
      intro j hj hn
      refine Ex.step ?_
      simp only [spec_ProgramValid.l0]
      rw [pnx j (by omega)]
      simp only [specNode_eq _ (j : Int) (by omega) (by omega), Option.bind_some]
      refine Ex.pos (by omega) (Ex.pos (by omega) (Ex.ite (fun g => ih (j + 1) (by omega) (fun i hi => ?_)) (fun g => Ex.val (psiff_no (fun h' => g (decide_eq_true (h'.nv j (by omega))))))))
      by_cases e : i = j
      · rw [e]; exact of_decide_eq_true g
      · exact hn i (by omega)
  exact loop l.length 0 (by omega) (fun i hi => by omega)

end Go.Proofs.Ytalohoomhmjheaa.Pu
