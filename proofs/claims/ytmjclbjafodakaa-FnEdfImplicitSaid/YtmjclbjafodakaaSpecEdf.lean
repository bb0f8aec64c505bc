import Derived.Test.YtmjclbjafodakaaSpecEdf2
import Derived.Test.YtmjclbjafodakaaFspecXEdfFeasible
set_option linter.unusedSimpArgs false
set_option linter.unusedVariables false
namespace Go.Proofs.Ytmjclbjafodakaa.Pu
open Go.RowKit Go.Proofs.Ytmjclbjafodakaa.Q Go.Proofs.YtmjclbjafodakaaW.PrintWords Go.Proofs.YtmjclbjafodakaaW.PrintLast

theorem specEdf_eq (l : List Tk) (hl : l.length ≤ 1000) (k : Nat) (hk : 300000 ≤ k) : spec_EdfFeasible.f k l = some (edf l) := by
  unfold spec_EdfFeasible.f edf
  rw [specSet_eq l (by omega) k (by omega)]
  simp only [Option.bind_some]
  by_cases h : setOk l = true
  · rw [if_pos h, specEdf2_eq l h k hk, h]
    rfl
  · rw [if_neg h]
    simp only [Bool.not_eq_true] at h
    rw [h]
    rfl

end Go.Proofs.Ytmjclbjafodakaa.Pu
