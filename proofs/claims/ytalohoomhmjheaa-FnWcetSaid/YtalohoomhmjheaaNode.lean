import Derived.Test.YtalohoomhmjheaaPO
import Derived.Test.YtalohoomhmjheaaFimplXnodeValid
import Derived.Test.YtalohoomhmjheaaFspecXl8Node
import Derived.Test.YtalohoomhmjheaaFimplXworst
import Derived.Test.YtalohoomhmjheaaFspecXl8Costs
set_option linter.unusedSimpArgs false
set_option linter.unusedVariables false
namespace Go.Proofs.Ytalohoomhmjheaa.Pu
open Go.RowKit Go.Proofs.Ytalohoomhmjheaa.Q Go.Proofs.YtalohoomhmjheaaW.PrintWords Go.Proofs.YtalohoomhmjheaaW.PrintLast

abbrev Nd := S28
abbrev rdN (l : List Nd) (i : Int) : Nd := rd_T28 l i
theorem pnx (j : Nat) (h : j ≤ 1000) : wrap64 ((j : Int) + 1) = ((j + 1 : Nat) : Int) := by rw [w64 (by omega) (by omega)]; omega
theorem pin_eq (a b c : Int) : impl_in.f a b c = some (decide (b ≤ a ∧ a ≤ c)) := by
  unfold impl_in.f
  by_cases h : a ≥ b
  · rw [if_pos h]; congr 1; rw [decide_eq_decide]; omega
  · rw [if_neg h]; congr 1; symm; rw [decide_eq_false_iff_not]; omega
theorem pl1In_eq (a b c : Int) : spec_l1In.f a b c = some (decide (b ≤ a ∧ a ≤ c)) := pin_eq a b c
/-- A node at a place is valid. -/
def nvP (n : Nd) (i : Int) : Prop :=
  (n.f0 = 1 ∧ (1 ≤ n.f1 ∧ n.f1 ≤ 9) ∧ n.f2 = 0 ∧ n.f3 = 0 ∧ n.f4 = 0) ∨
  (n.f0 = 2 ∧ n.f1 = 0 ∧ (0 ≤ n.f2 ∧ n.f2 < i) ∧ (0 ≤ n.f3 ∧ n.f3 < i) ∧ n.f4 = 0) ∨
  (n.f0 = 3 ∧ (1 ≤ n.f1 ∧ n.f1 ≤ 9) ∧ (0 ≤ n.f2 ∧ n.f2 < i) ∧ (0 ≤ n.f3 ∧ n.f3 < i) ∧ n.f4 = 0) ∨
  (n.f0 = 4 ∧ (1 ≤ n.f1 ∧ n.f1 ≤ 9) ∧ (0 ≤ n.f2 ∧ n.f2 < i) ∧ n.f3 = 0 ∧ (0 ≤ n.f4 ∧ n.f4 ≤ 4))
instance (n : Nd) (i : Int) : Decidable (nvP n i) := by unfold nvP; infer_instance
theorem bnd_dec {a b : Bool} {p : Prop} [Decidable p] (h : (a = true ∧ b = true) ↔ p) : (a && b) = decide p := by
  rw [Bool.eq_iff_iff, Bool.and_eq_true, decide_eq_true_eq]; exact h
theorem implNode_eq (n : Nd) (i : Int) (h0 : 0 ≤ i) (h1 : i ≤ 1000) : impl_nodeValid.f n.f0 n.f1 n.f2 n.f3 n.f4 i = some (decide (nvP n i)) := by
  obtain ⟨K, C, A, B, L⟩ := n
  have hd : ∀ b : Bool, (b = true ↔ nvP ⟨K, C, A, B, L⟩ i) → some b = some (decide (nvP ⟨K, C, A, B, L⟩ i)) := fun b h => by
    congr 1; rw [Bool.eq_iff_iff, h, decide_eq_true_eq]
  have hno : ¬ nvP ⟨K, C, A, B, L⟩ i → (false = true ↔ nvP ⟨K, C, A, B, L⟩ i) := fun h => ⟨fun h' => by simp at h', fun h' => absurd h' h⟩
  unfold impl_nodeValid.f
  dsimp only
  rw [w64 (n := i - 1) (by omega) (by omega), pin_eq, pin_eq, pin_eq, Option.bind_some, Option.bind_some, Option.bind_some]
  by_cases k1 : K = 1
  · rw [if_pos k1]
    by_cases c : 1 ≤ C ∧ C ≤ 9
    · rw [decide_eq_true c, if_pos rfl]
      refine hd _ ?_
      rw [Bool.and_eq_true, Bool.and_eq_true, beq_iff_eq, beq_iff_eq, beq_iff_eq]
      unfold nvP; dsimp only; omega
    · rw [decide_eq_false c, if_neg (by simp)]
      refine hd _ (hno ?_); unfold nvP; dsimp only; omega
  rw [if_neg k1]
  by_cases k2 : K = 2
  · rw [if_pos k2]
    by_cases a : 0 ≤ A ∧ A ≤ i - 1
    · rw [decide_eq_true a, if_pos rfl]
      by_cases b : 0 ≤ B ∧ B ≤ i - 1
      · rw [decide_eq_true b, if_pos rfl]
        refine hd _ ?_
        rw [Bool.and_eq_true, beq_iff_eq, beq_iff_eq]
        unfold nvP; dsimp only; omega
      · rw [decide_eq_false b, if_neg (by simp)]
        refine hd _ (hno ?_); unfold nvP; dsimp only; omega
    · rw [decide_eq_false a, if_neg (by simp)]
      refine hd _ (hno ?_); unfold nvP; dsimp only; omega
  rw [if_neg k2]
  by_cases k3 : K = 3
  · rw [if_pos k3]
    by_cases c : 1 ≤ C ∧ C ≤ 9
    · rw [decide_eq_true c, if_pos rfl]
      by_cases a : 0 ≤ A ∧ A ≤ i - 1
      · rw [decide_eq_true a, if_pos rfl]
        by_cases b : 0 ≤ B ∧ B ≤ i - 1
        · rw [decide_eq_true b, if_pos rfl]
          refine hd _ ?_
          rw [beq_iff_eq]
          unfold nvP; dsimp only; omega
        · rw [decide_eq_false b, if_neg (by simp)]
          refine hd _ (hno ?_); unfold nvP; dsimp only; omega
      · rw [decide_eq_false a, if_neg (by simp)]
        refine hd _ (hno ?_); unfold nvP; dsimp only; omega
    · rw [decide_eq_false c, if_neg (by simp)]
      refine hd _ (hno ?_); unfold nvP; dsimp only; omega
  rw [if_neg k3]
  by_cases k4 : K = 4
  · rw [if_pos k4]
    by_cases c : 1 ≤ C ∧ C ≤ 9
    · rw [decide_eq_true c, if_pos rfl]
      by_cases a : 0 ≤ A ∧ A ≤ i - 1
      · rw [decide_eq_true a, if_pos rfl, pin_eq, Option.bind_some]
        by_cases b : 0 ≤ L ∧ L ≤ 4
        · rw [decide_eq_true b, if_pos rfl]
          refine hd _ ?_
          rw [beq_iff_eq]
          unfold nvP; dsimp only; omega
        · rw [decide_eq_false b, if_neg (by simp)]
          refine hd _ (hno ?_); unfold nvP; dsimp only; omega
      · rw [decide_eq_false a, if_neg (by simp)]
        refine hd _ (hno ?_); unfold nvP; dsimp only; omega
    · rw [decide_eq_false c, if_neg (by simp)]
      refine hd _ (hno ?_); unfold nvP; dsimp only; omega
  rw [if_neg k4]
  refine hd _ (hno ?_); unfold nvP; dsimp only; omega
theorem specNode_eq (n : Nd) (i : Int) (h0 : 0 ≤ i) (h1 : i ≤ 1000) : spec_l8Node.f n.f0 n.f1 n.f2 n.f3 n.f4 i = some (decide (nvP n i)) := by
  obtain ⟨K, C, A, B, L⟩ := n
  have hd : ∀ b : Bool, (b = true ↔ nvP ⟨K, C, A, B, L⟩ i) → some b = some (decide (nvP ⟨K, C, A, B, L⟩ i)) := fun b h => by
    congr 1; rw [Bool.eq_iff_iff, h, decide_eq_true_eq]
  have hno : ¬ nvP ⟨K, C, A, B, L⟩ i → (false = true ↔ nvP ⟨K, C, A, B, L⟩ i) := fun h => ⟨fun h' => by simp at h', fun h' => absurd h' h⟩
  unfold spec_l8Node.f
  dsimp only
  rw [w64 (n := i - 1) (by omega) (by omega)]
  simp only [pl1In_eq, Option.bind_some]
  by_cases k1 : K = 1
  · rw [if_pos k1]
    by_cases c : 1 ≤ C ∧ C ≤ 9
    · rw [decide_eq_true c, if_pos rfl]
      by_cases a : A = 0
      · rw [if_pos a]
        by_cases b : B = 0
        · rw [if_pos b]
          refine hd _ ?_
          rw [beq_iff_eq]
          unfold nvP; dsimp only; omega
        · rw [if_neg b]
          refine hd _ (hno ?_); unfold nvP; dsimp only; omega
      · rw [if_neg a]
        refine hd _ (hno ?_); unfold nvP; dsimp only; omega
    · rw [decide_eq_false c, if_neg (by simp)]
      refine hd _ (hno ?_); unfold nvP; dsimp only; omega
  rw [if_neg k1]
  by_cases k2 : K = 2
  · rw [if_pos k2]
    by_cases c : C = 0
    · rw [if_pos c]
      by_cases a : 0 ≤ A ∧ A ≤ i - 1
      · rw [decide_eq_true a, if_pos rfl]
        by_cases b : 0 ≤ B ∧ B ≤ i - 1
        · rw [decide_eq_true b, if_pos rfl]
          refine hd _ ?_
          rw [beq_iff_eq]
          unfold nvP; dsimp only; omega
        · rw [decide_eq_false b, if_neg (by simp)]
          refine hd _ (hno ?_); unfold nvP; dsimp only; omega
      · rw [decide_eq_false a, if_neg (by simp)]
        refine hd _ (hno ?_); unfold nvP; dsimp only; omega
    · rw [if_neg c]
      refine hd _ (hno ?_); unfold nvP; dsimp only; omega
  rw [if_neg k2]
  by_cases k3 : K = 3
  · rw [if_pos k3]
    by_cases c : 1 ≤ C ∧ C ≤ 9
    · rw [decide_eq_true c, if_pos rfl]
      by_cases a : 0 ≤ A ∧ A ≤ i - 1
      · rw [decide_eq_true a, if_pos rfl]
        by_cases b : 0 ≤ B ∧ B ≤ i - 1
        · rw [decide_eq_true b, if_pos rfl]
          refine hd _ ?_
          rw [beq_iff_eq]
          unfold nvP; dsimp only; omega
        · rw [decide_eq_false b, if_neg (by simp)]
          refine hd _ (hno ?_); unfold nvP; dsimp only; omega
      · rw [decide_eq_false a, if_neg (by simp)]
        refine hd _ (hno ?_); unfold nvP; dsimp only; omega
    · rw [decide_eq_false c, if_neg (by simp)]
      refine hd _ (hno ?_); unfold nvP; dsimp only; omega
  rw [if_neg k3]
  by_cases k4 : K = 4
  · rw [if_pos k4]
    by_cases c : 1 ≤ C ∧ C ≤ 9
    · rw [decide_eq_true c, if_pos rfl]
      by_cases a : 0 ≤ A ∧ A ≤ i - 1
      · rw [decide_eq_true a, if_pos rfl]
        by_cases b : B = 0
        · rw [if_pos b]
          refine hd _ ?_
          rw [decide_eq_true_eq]
          unfold nvP; dsimp only; omega
        · rw [if_neg b]
          refine hd _ (hno ?_); unfold nvP; dsimp only; omega
      · rw [decide_eq_false a, if_neg (by simp)]
        refine hd _ (hno ?_); unfold nvP; dsimp only; omega
    · rw [decide_eq_false c, if_neg (by simp)]
      refine hd _ (hno ?_); unfold nvP; dsimp only; omega
  rw [if_neg k4]
  refine hd _ (hno ?_); unfold nvP; dsimp only; omega

end Go.Proofs.Ytalohoomhmjheaa.Pu
