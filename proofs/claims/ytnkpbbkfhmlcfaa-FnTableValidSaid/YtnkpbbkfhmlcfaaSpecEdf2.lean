import Derived.Test.YtnkpbbkfhmlcfaaSpecOver
import Derived.Test.YtnkpbbkfhmlcfaaFspecXl2Edf
set_option linter.unusedSimpArgs false
set_option linter.unusedVariables false
namespace Go.Proofs.Ytnkpbbkfhmlcfaa.Pu
open Go.RowKit Go.Proofs.Ytnkpbbkfhmlcfaa.Q Go.Proofs.YtnkpbbkfhmlcfaaW.PrintWords Go.Proofs.YtnkpbbkfhmlcfaaW.PrintLast

theorem specEdf2_eq (l : List Tk) (h : setOk l = true) (k : Nat) (hk : 300000 ≤ k) : spec_l2Edf.f k l = some (decide (fov l < 0)) := by
  have hok := Ok.mk' h
  unfold spec_l2Edf.f
  rw [specHyper_eq l hok k (by omega)]
  simp only [Option.bind_some]
  rw [specOver_eq l hok k hk]
  simp only [Option.bind_some]
  congr 1
  rcases fov_spec l with ⟨e, _⟩ | ⟨h1, _⟩
  · rw [e]; rfl
  · rw [decide_eq_false (by omega)]
    exact beq_eq_false_iff_ne.mpr (by omega)

end Go.Proofs.Ytnkpbbkfhmlcfaa.Pu
