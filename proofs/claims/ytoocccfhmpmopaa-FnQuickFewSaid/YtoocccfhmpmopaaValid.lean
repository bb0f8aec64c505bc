import Derived.Test.YtoocccfhmpmopaaTask
import Derived.Test.YtoocccfhmpmopaaFA
import Derived.Test.YtoocccfhmpmopaaFA
import Derived.Test.YtoocccfhmpmopaaFA
set_option linter.unusedSimpArgs false
set_option linter.unusedVariables false
namespace Go.Proofs.Ytoocccfhmpmopaa.Pu
open Go.RowKit Go.Proofs.Ytoocccfhmpmopaa.Q Go.Proofs.YtoocccfhmpmopaaW.PrintWords Go.Proofs.YtoocccfhmpmopaaW.PrintLast

/-- A task is valid. -/
def tv (a b c : Int) : Bool := decide (1 ≤ a ∧ a ≤ 8 ∧ a ≤ b ∧ b ≤ c ∧ c ≤ 12)
theorem in_eq (a b c : Int) : impl_in.f a b c = some (decide (b ≤ a ∧ a ≤ c)) := by
  unfold impl_in.f
  by_cases h : a ≥ b
  · rw [if_pos h]; congr 1; rw [decide_eq_decide]; omega
  · rw [if_neg h]; congr 1; symm; rw [decide_eq_false_iff_not]; omega
theorem l1In_eq (a b c : Int) : spec_l1In.f a b c = some (decide (b ≤ a ∧ a ≤ c)) := in_eq a b c
theorem implTask_eq (a b c : Int) : impl_TaskValid.f a b c = some (tv a b c) := by
  unfold impl_TaskValid.f tv
  rw [in_eq, in_eq]
  simp only [Option.bind_some]
  by_cases h1 : 1 ≤ a ∧ a ≤ 8
  · rw [decide_eq_true h1]
    simp only [if_true]
    by_cases h2 : a ≤ b ∧ b ≤ c
    · rw [decide_eq_true h2]; simp only [if_true]; congr 1; rw [decide_eq_decide]; omega
    · rw [decide_eq_false h2]; simp only [Bool.false_eq_true, if_false]; congr 1; symm; rw [decide_eq_false_iff_not]; omega
  · rw [decide_eq_false h1]; simp only [Bool.false_eq_true, if_false]; congr 1; symm; rw [decide_eq_false_iff_not]; omega
theorem specTask_eq (a b c : Int) : spec_TaskValid.f a b c = some (tv a b c) := by
  unfold spec_TaskValid.f tv
  rw [l1In_eq, l1In_eq, l1In_eq]
  simp only [Option.bind_some]
  by_cases h1 : 1 ≤ a ∧ a ≤ 8
  · rw [decide_eq_true h1]
    simp only [if_true]
    by_cases h2 : a ≤ b ∧ b ≤ c
    · rw [decide_eq_true h2]; simp only [if_true]; congr 1; rw [decide_eq_decide]; omega
    · rw [decide_eq_false h2]; simp only [Bool.false_eq_true, if_false]; congr 1; symm; rw [decide_eq_false_iff_not]; omega
  · rw [decide_eq_false h1]; simp only [Bool.false_eq_true, if_false]; congr 1; symm; rw [decide_eq_false_iff_not]; omega
theorem alive_eq : laws_alive.f = some true := by
  unfold laws_alive.f; rw [implTask_eq]; rfl
theorem tv_true {a b c : Int} (h : tv a b c = true) : 1 ≤ a ∧ a ≤ 8 ∧ a ≤ b ∧ b ≤ c ∧ c ≤ 12 := of_decide_eq_true h
theorem tv_mk {a b c : Int} (h : 1 ≤ a ∧ a ≤ 8 ∧ a ≤ b ∧ b ≤ c ∧ c ≤ 12) : tv a b c = true := decide_eq_true h
theorem tv_no {a b c : Int} (h : ¬ (1 ≤ a ∧ a ≤ 8 ∧ a ≤ b ∧ b ≤ c ∧ c ≤ 12)) : tv a b c = false := decide_eq_false h

end Go.Proofs.Ytoocccfhmpmopaa.Pu
