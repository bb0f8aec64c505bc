/- The statement FnMaxFeasibleCost of the given program holds for every input: for every code of at most 2^20 bytes (and for longer ones at once) the law returns true. No further condition. -/
import Derived.Test.YthajimgepjbjiaaSensI
import Derived.Test.YthajimgepjbjiaaFlawsXFnMaxFeasibleCost
set_option linter.unusedSimpArgs false
set_option linter.unusedVariables false
namespace Go.Proofs.Ythajimgepjbjiaa.Pure
open Go.RowKit Go.Proofs.Ythajimgepjbjiaa.Q Go.Proofs.Ythajimgepjbjiaa.Pu Go.Proofs.YthajimgepjbjiaaW.PrintWords Go.Proofs.YthajimgepjbjiaaW.PrintLast

theorem withCost_eq {l : List Tk} (hl : l.length ≤ 1000) {j : Nat} (hj : j < l.length) (c : Int) : laws_withCost.f l (j : Int) c = some (setC l j c) := by
  unfold laws_withCost.f setC
  rw [Option.bind_some, List.nil_append, if_pos (by simp only [List.length_nil]; omega), Option.bind_some, if_pos (by omega), if_pos (by omega), Int.toNat_natCast]
theorem mfc_j1 {l : List Tk} (hok : Ok l) {j : Nat} (hj : j < l.length) : Ex (fun k => laws_FnMaxFeasibleCost.j1 k l (j : Int) (mfc l j) false) (fun x => x = true) := by
  have hx := ok_rd hok hj
  have hm := mn_bd 8 (rd_T44 l (j : Int)).f1
  unfold TkOk at hx
  obtain ⟨_, _, hs⟩ := mfc_spec hok hj
  have := hs (rd_T44 l (j : Int)).f0 (by omega) (by omega)
  rw [setC_self hj] at this
  refine Ex.step ?_
  simp only [laws_FnMaxFeasibleCost.j1]
  refine Ex.neg (by simp) (Ex.bind (implEdf_ex l) ?_)
  rintro _ rfl
  simp only [alive_eq, Option.bind_some]
  refine Ex.pos (by omega) (Ex.pos (by omega) (Ex.pos ?_ (Ex.val rfl)))
  rw [beq_iff_eq, Bool.eq_iff_iff, this, decide_eq_true_iff]
theorem FnMaxFeasibleCost : laws_FnMaxFeasibleCost.Pure := by
  intro l0 _ _ h8
  refine Ex.get ?_
  unfold laws_FnMaxFeasibleCost.f
  refine Ex.ite (fun _ => Ex.val rfl) (fun _ => Ex.bind (drawMfc_ex l0 h8) ?_)
  rintro ⟨l, i⟩ ⟨hl, hi1, hi2⟩
  simp only [] at hl hi1 hi2 ⊢
  have hlen := hl.len
  refine Ex.bind (implMfc_ex l (by omega) i) ?_
  rintro _ rfl
  refine Ex.bind (specMfc_ex l (by omega) i) ?_
  rintro _ rfl
  refine Ex.pos rfl (Ex.bind (specSet_ex l (by omega)) ?_)
  rintro _ rfl
  have no : inSet l i = false → Ex (fun k => laws_FnMaxFeasibleCost.j0 k l i (mfcO l i) true) (fun x => x = true) := fun h => by
    refine Ex.step ?_
    simp only [laws_FnMaxFeasibleCost.j0, alive_eq, Option.bind_some]
    exact Ex.pos trivial (Ex.pos (by unfold mfcO; rw [h]; rfl) (Ex.val rfl))
  refine Ex.ite (fun h => Ex.ite (fun h2 => no ?_) (fun h2 => ?_)) (fun h => no ?_)
  · unfold inSet; rw [h, decide_eq_false (by omega)]; rfl
  · by_cases h3 : i ≥ (l.length : Int)
    · rw [decide_eq_true h3]
      refine no ?_
      unfold inSet; rw [h, decide_eq_false (by omega)]; rfl
    · rw [decide_eq_false h3]
      have hok := (setOk_iff l).mp h
      obtain ⟨j, rfl⟩ := Int.eq_ofNat_of_zero_le (show 0 ≤ i by omega)
      have hj : j < l.length := by omega
      have e : mfcO l (j : Int) = mfc l j := by unfold mfcO; rw [if_pos ((inSet_iff _ _).mpr ⟨hok, by omega, by omega⟩), Int.toNat_natCast]
      rw [e]
      have hx := ok_rd hok hj
      have hm := mn_bd 8 (rd_T44 l (j : Int)).f1
      unfold TkOk at hx
      obtain ⟨g0, g1, hs⟩ := mfc_spec hok hj
      refine Ex.step ?_
      simp only [laws_FnMaxFeasibleCost.j0, withCost_eq (show l.length ≤ 1000 by omega) hj, Option.bind_some]
      have last : Ex (fun k => if mfc l j < mn 8 (rd_T44 l (j : Int)).f1 then (impl_EdfFeasible.f k (setC l j (wrap64 (mfc l j + 1)))).bind fun t => laws_FnMaxFeasibleCost.j1 k l (j : Int) (mfc l j) t else laws_FnMaxFeasibleCost.j1 k l (j : Int) (mfc l j) false) (fun x => x = true) := by
        refine Ex.ite (fun h5 => ?_) (fun _ => mfc_j1 hok hj)
        rw [w64 (by omega) (by omega)]
        refine Ex.bind (implEdf_ex _) ?_
        rintro _ rfl
        have : edf (setC l j (mfc l j + 1)) = false := by
          have := hs (mfc l j + 1) (by omega) (by omega)
          cases hb : edf (setC l j (mfc l j + 1)) with
          | false => rfl
          | true => exact absurd (this.mp hb) (by omega)
        rw [this]
        exact mfc_j1 hok hj
      refine Ex.neg (by simp) (Ex.pos (by omega) (Ex.pos (by omega) (Ex.neg (by omega) (Ex.neg (by omega) (Ex.ite (fun h4 => ?_) (fun h4 => last))))))
      refine Ex.bind (implEdf_ex _) ?_
      rintro _ rfl
      exact Ex.pos ((hs _ (by omega) g1).mpr (Int.le_refl _)) last
  · unfold inSet; simp only [h, Bool.false_and]

end Go.Proofs.Ythajimgepjbjiaa.Pure
