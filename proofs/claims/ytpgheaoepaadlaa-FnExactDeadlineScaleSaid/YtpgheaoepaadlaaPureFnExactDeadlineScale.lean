/- The statement FnExactDeadlineScale of the given program holds for every input. No further condition. -/
import Derived.Test.YtpgheaoepaadlaaExm
import Derived.Test.YtpgheaoepaadlaaMixDs
import Derived.Test.YtpgheaoepaadlaaFlawsXeqFraction
import Derived.Test.YtpgheaoepaadlaaFlawsXFnExactDeadlineScale
set_option linter.unusedSimpArgs false
set_option linter.unusedVariables false
namespace Go.Proofs.Ytpgheaoepaadlaa.Pure
open Go.RowKit Go.Proofs.Ytpgheaoepaadlaa.Q Go.Proofs.Ytpgheaoepaadlaa.Pu Go.Proofs.YtpgheaoepaadlaaW.PrintWords Go.Proofs.YtpgheaoepaadlaaW.PrintLast

theorem FnExactDeadlineScale (l : List Xm) (hl : l.length ≤ 9223372036854775807) : ∃ k, laws_FnExactDeadlineScale.f k l = some true := by
  refine Ex.get ?_
  unfold laws_FnExactDeadlineScale.f
  simp only [szS_eq l hl, Option.bind_some]
  by_cases h : l.length ≤ 1048576
  · rw [if_pos h]
    refine Ex.neg (by omega) (Ex.bind (toS_ex l h) ?_)
    rintro _ rfl
    have hm : (l.map cv).length ≤ 1048576 := by rw [List.length_map]; exact h
    refine Ex.bind (specDs_ex _ (by omega)) ?_
    rintro _ rfl
    refine Ex.bind (toS_ex l h) ?_
    rintro _ rfl
    refine Ex.bind (implDs_ex _) ?_
    rintro _ rfl
    unfold laws_eqFraction.f
    rw [if_pos rfl, if_pos rfl]
    simp only [Option.bind_some]
    refine Ex.pos trivial (Ex.step ?_)
    simp only [laws_FnExactDeadlineScale.j0]
    refine Ex.neg (by cases (dsO (l.map cv)).2.2 <;> decide) (Ex.bind (toS_ex l h) ?_)
    rintro _ rfl
    refine Ex.bind (eqS_ex _ hm) ?_
    rintro _ rfl
    exact Ex.pos rfl (Ex.val rfl)
  · rw [if_neg h]
    exact Ex.pos (by decide) (Ex.val rfl)

end Go.Proofs.Ytpgheaoepaadlaa.Pure
