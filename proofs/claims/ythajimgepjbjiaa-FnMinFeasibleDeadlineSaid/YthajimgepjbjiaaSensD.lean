import Derived.Test.YthajimgepjbjiaaSensI
import Derived.Test.YthajimgepjbjiaaFspecXMinFeasibleDeadline
set_option linter.unusedSimpArgs false
set_option linter.unusedVariables false
namespace Go.Proofs.Ythajimgepjbjiaa.Pu
open Go.RowKit Go.Proofs.Ythajimgepjbjiaa.Q Go.Proofs.YthajimgepjbjiaaW.PrintWords Go.Proofs.YthajimgepjbjiaaW.PrintLast

theorem specMfd_loop {l : List Tk} (hok : Ok l) {j : Nat} (hj : j < l.length) : ∀ (n : Nat) (t : Int), t + n = (rd_T44 l (j : Int)).f2 + 1 → (rd_T44 l (j : Int)).f0 ≤ t →
    Ex (fun k => spec_MinFeasibleDeadline.l0 k l (j : Int) t) (fun x => x = upF (fun d => edf (setD l j d)) n t) := by
  have hlen := hok.len
  have hx := ok_rd hok hj
  unfold TkOk at hx
  intro n
  induction n with
  | zero =>
    intro t ht h0
    refine Ex.step ?_
    simp only [spec_MinFeasibleDeadline.l0]
    exact Ex.pos (by omega) (Ex.pos (by omega) (Ex.neg (by omega) (Ex.val rfl)))
  | succ n ih =>
    intro t ht h0
    refine Ex.step ?_
    simp only [spec_MinFeasibleDeadline.l0, Option.bind_some, List.nil_append, List.length_nil]
    refine Ex.pos (by omega) (Ex.pos (by omega) (Ex.pos (by omega) (Ex.pos (by omega) (Ex.pos (by omega) ?_))))
    refine Ex.bind (Ex.congr (fun k => rfl) (specEdf2_ex (setD l j t) ((setOk_iff _).mpr (setD_ok hok hj h0 (by omega))))) ?_
    rintro _ rfl
    unfold upF
    refine Ex.ite (fun h => Ex.val (by rw [if_pos h])) (fun h => ?_)
    rw [if_neg h, w64 (by omega) (by omega)]
    exact ih (t + 1) (by omega) (by omega)
theorem specMfd_ex (l : List Tk) (hl : l.length ≤ 1000) (i : Int) : Ex (fun k => spec_MinFeasibleDeadline.f k l i) (fun x => x = mfdO l i) := by
  unfold spec_MinFeasibleDeadline.f
  refine Ex.bind (specSet_ex l (by omega)) ?_
  rintro _ rfl
  rw [w64 (by omega) (by omega)]
  simp only [l1In_eq, Option.bind_some]
  have no : mfdO l i = -1 → Ex (fun k => spec_MinFeasibleDeadline.j0 k l i true) (fun x => x = mfdO l i) := fun e => by
    refine Ex.step ?_
    simp only [spec_MinFeasibleDeadline.j0]
    exact Ex.pos trivial (Ex.val e.symm)
  refine Ex.ite (fun h => ?_) (fun h => no ?_)
  · by_cases h2 : 0 ≤ i ∧ i ≤ (l.length : Int) - 1
    · have hin : inSet l i = true := by unfold inSet; rw [h, Bool.true_and]; exact decide_eq_true h2
      obtain ⟨hok, h0, h1⟩ := (inSet_iff l i).mp hin
      rw [decide_eq_true h2]
      unfold mfdO
      rw [if_pos hin]
      obtain ⟨j, rfl⟩ := Int.eq_ofNat_of_zero_le h0
      have hj : j < l.length := by omega
      have hx := ok_rd hok hj
      unfold TkOk at hx
      refine Ex.step ?_
      simp only [spec_MinFeasibleDeadline.j0]
      refine Ex.neg (by simp) (Ex.pos h0 (Ex.pos h1 ?_))
      exact specMfd_loop hok hj _ _ (by rw [Int.toNat_natCast]; omega) (by omega)
    · rw [decide_eq_false h2]
      refine no ?_
      unfold mfdO inSet
      rw [h, Bool.true_and, if_neg (by simpa using h2)]
  · unfold mfdO inSet
    rw [if_neg (by simp [h])]

end Go.Proofs.Ythajimgepjbjiaa.Pu
