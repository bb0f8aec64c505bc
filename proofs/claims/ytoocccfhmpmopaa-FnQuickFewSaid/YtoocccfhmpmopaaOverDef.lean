import Derived.Test.YtoocccfhmpmopaaDemMath
set_option linter.unusedSimpArgs false
set_option linter.unusedVariables false
namespace Go.Proofs.Ytoocccfhmpmopaa.Pu
open Go.RowKit Go.Proofs.Ytoocccfhmpmopaa.Q Go.Proofs.YtoocccfhmpmopaaW.PrintWords Go.Proofs.YtoocccfhmpmopaaW.PrintLast

/-- The first of n numbers from t on that passes, or -1. -/
def firstF (P : Int → Bool) : Nat → Int → Int
  | 0, _ => -1
  | n + 1, t => if P t = true then t else firstF P n (t + 1)
theorem firstF_spec (P : Int → Bool) : ∀ (n : Nat) (t : Int), (firstF P n t = -1 ∧ ∀ s, t ≤ s → s < t + n → P s = false) ∨ (t ≤ firstF P n t ∧ firstF P n t < t + n ∧ P (firstF P n t) = true ∧ ∀ s, t ≤ s → s < firstF P n t → P s = false)
  | 0, t => .inl ⟨rfl, fun s h1 h2 => by omega⟩
  | n + 1, t => by
    simp only [firstF]
    by_cases h : P t = true
    · rw [if_pos h]
      exact .inr ⟨by omega, by omega, h, fun s h1 h2 => by omega⟩
    · rw [if_neg h]
      rcases firstF_spec P n (t + 1) with ⟨e, hf⟩ | ⟨h1, h2, h3, h4⟩
      · refine .inl ⟨e, fun s a b => ?_⟩
        by_cases hs : s = t
        · rw [hs]; simpa using h
        · exact hf s (by omega) (by omega)
      · refine .inr ⟨by omega, by omega, h3, fun s a b => ?_⟩
        by_cases hs : s = t
        · rw [hs]; simpa using h
        · exact h4 s (by omega) b
theorem firstF_congr (P Q : Int → Bool) : ∀ (n : Nat) (t : Int), (∀ s, t ≤ s → s < t + n → P s = Q s) → firstF P n t = firstF Q n t
  | 0, _, _ => rfl
  | n + 1, t, h => by
    simp only [firstF]
    rw [h t (by omega) (by omega), firstF_congr P Q n (t + 1) (fun s a b => h s (by omega) (by omega))]

def ovP (l : List Tk) (t : Int) : Bool := decide (dem l t > t)
/-- The first overload of a valid set. -/
def fov (l : List Tk) : Int := firstF (ovP l) (hypN l) 1
theorem fov_spec (l : List Tk) : (fov l = -1 ∧ ∀ s, 1 ≤ s → s ≤ hyp l → dem l s ≤ s) ∨ (1 ≤ fov l ∧ fov l ≤ hyp l ∧ fov l < dem l (fov l) ∧ ∀ s, 1 ≤ s → s < fov l → dem l s ≤ s) := by
  unfold fov
  rcases firstF_spec (ovP l) (hypN l) 1 with ⟨e, h⟩ | ⟨h1, h2, h3, h4⟩
  · refine .inl ⟨e, fun s a b => ?_⟩
    have := h s a (by unfold hyp at b; omega)
    unfold ovP at this
    rw [decide_eq_false_iff_not] at this
    omega
  · refine .inr ⟨h1, by unfold hyp; omega, of_decide_eq_true h3, fun s a b => ?_⟩
    have := h4 s a b
    unfold ovP at this
    rw [decide_eq_false_iff_not] at this
    omega
theorem fov_neg_iff (l : List Tk) : fov l < 0 ↔ ∀ s, 1 ≤ s → s ≤ hyp l → dem l s ≤ s := by
  rcases fov_spec l with ⟨e, h⟩ | ⟨h1, h2, h3, h4⟩
  · exact ⟨fun _ => h, fun _ => by omega⟩
  · exact ⟨fun _ => by omega, fun h => by have := h _ h1 h2; omega⟩
theorem fov_one (l : List Tk) (h : fov l < 0) : fov l = -1 := by
  rcases fov_spec l with ⟨e, _⟩ | ⟨h1, _⟩
  · exact e
  · omega
/-- EdfFeasible. -/
def edf (l : List Tk) : Bool := setOk l && decide (fov l < 0)
theorem edf_iff (l : List Tk) : edf l = true ↔ Ok l ∧ ∀ s, 1 ≤ s → s ≤ hyp l → dem l s ≤ s := by
  unfold edf
  rw [Bool.and_eq_true, setOk_iff, decide_eq_true_eq, fov_neg_iff]

end Go.Proofs.Ytoocccfhmpmopaa.Pu
