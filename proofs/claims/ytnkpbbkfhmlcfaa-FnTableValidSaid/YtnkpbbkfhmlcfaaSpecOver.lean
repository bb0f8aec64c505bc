import Derived.Test.YtnkpbbkfhmlcfaaPB
import Derived.Test.YtnkpbbkfhmlcfaaSpecDem
import Derived.Test.YtnkpbbkfhmlcfaaFspecXl2Overload
set_option linter.unusedSimpArgs false
set_option linter.unusedVariables false
namespace Go.Proofs.Ytnkpbbkfhmlcfaa.Pu
open Go.RowKit Go.Proofs.Ytnkpbbkfhmlcfaa.Q Go.Proofs.YtnkpbbkfhmlcfaaW.PrintWords Go.Proofs.YtnkpbbkfhmlcfaaW.PrintLast

theorem specOver_loop (l : List Tk) (hok : Ok l) (H : Int) (hH : H ≤ 300000) : ∀ (n : Nat) (k : Nat) (t : Int), t + n = H + 1 → 1 ≤ t → n + 25 ≤ k → spec_l2Overload.l0 k l H t = some (firstF (ovP l) n t) := by
  intro n
  induction n with
  | zero =>
    intro k t ht h1 hk
    obtain ⟨k, rfl⟩ : ∃ m, k = m + 1 := ⟨k - 1, by omega⟩
    simp only [spec_l2Overload.l0]
    rw [if_neg (by omega)]
    rfl
  | succ n ih =>
    intro k t ht h1 hk
    obtain ⟨k, rfl⟩ : ∃ m, k = m + 1 := ⟨k - 1, by omega⟩
    simp only [spec_l2Overload.l0]
    rw [if_pos (by omega), specDem_eq l hok t (by omega) (by omega) k (by omega)]
    simp only [Option.bind_some, firstF, ovP, decide_eq_true_eq]
    by_cases hd : dem l t > t
    · rw [if_pos hd, if_pos hd]
    · rw [if_neg hd, if_neg hd, w64 (by omega) (by omega)]
      exact ih k (t + 1) (by omega) (by omega) (by omega)
theorem specOver_eq (l : List Tk) (hok : Ok l) (k : Nat) (hk : 300000 ≤ k) : spec_l2Overload.f k l (hyp l) = some (fov l) := by
  have hb := hyp_bd hok
  unfold spec_l2Overload.f
  exact specOver_loop l hok (hyp l) (by omega) (hypN l) k 1 (by unfold hyp; omega) (by omega) (by unfold hyp at hb; omega)

end Go.Proofs.Ytnkpbbkfhmlcfaa.Pu
