/- The statement FnExactMixedLegal of the given program holds for every input. No further condition. -/
import Derived.Test.YtpgheaoepaadlaaExmJ
import Derived.Test.YtpgheaoepaadlaaFlawsXFnExactMixedLegal
set_option linter.unusedSimpArgs false
set_option linter.unusedVariables false
namespace Go.Proofs.Ytpgheaoepaadlaa.Pure
open Go.RowKit Go.Proofs.Ytpgheaoepaadlaa.Q Go.Proofs.Ytpgheaoepaadlaa.Pu Go.Proofs.YtpgheaoepaadlaaW.PrintWords Go.Proofs.YtpgheaoepaadlaaW.PrintLast

theorem FnExactMixedLegal (l : List Xm) (hl : l.length ≤ 9223372036854775807) (js : List Xj) (hj : js.length ≤ 9223372036854775807) : ∃ k, laws_FnExactMixedLegal.f k l js = some true := by
  refine Ex.get ?_
  unfold laws_FnExactMixedLegal.f
  simp only [szS_eq l hl, Option.bind_some]
  by_cases h : l.length ≤ 1048576
  · rw [if_pos h]
    refine Ex.neg (by omega) ?_
    simp only [szJS_eq js hj _ (show 0 ≤ 1048576 - (l.length : Int) by omega) (by omega), Option.bind_some]
    by_cases h2 : (js.length : Int) ≤ 1048576 - (l.length : Int)
    · rw [if_pos h2]
      have hjl : js.length ≤ 1048576 := by omega
      refine Ex.neg (by omega) (Ex.bind (toS_ex l h) ?_)
      rintro _ rfl
      refine Ex.bind (toJS_ex js hjl) ?_
      rintro _ rfl
      have hm : (l.map cv).length ≤ 1048576 := by rw [List.length_map]; exact h
      have hn : (js.map cj).length ≤ 1048576 := by rw [List.length_map]; exact hjl
      refine Ex.bind (specMixL_ex _ (by omega) _ (by omega)) (fun y hy => Ex.bind (toS_ex l h) ?_)
      rintro _ rfl
      refine Ex.bind (toJS_ex js hjl) ?_
      rintro _ rfl
      refine Ex.bind (implMixL_ex _ _ (by omega)) (fun x hx => ?_)
      have exy : x = y := by
        cases x <;> cases y <;> first | rfl | (have := hy.mpr (hx.mp rfl); simp at this) | (have := hx.mpr (hy.mp rfl); simp at this)
      refine Ex.neg (by rw [exy]; cases y <;> decide) (Ex.bind (toS_ex l h) ?_)
      rintro _ rfl
      refine Ex.bind (eqS_ex _ hm) ?_
      rintro _ rfl
      refine Ex.pos rfl (Ex.bind (toJS_ex js hjl) ?_)
      rintro _ rfl
      refine Ex.bind (eqJS_ex _ hn) ?_
      rintro _ rfl
      exact Ex.pos rfl (Ex.val rfl)
    · rw [if_neg h2]
      exact Ex.pos (by decide) (Ex.val rfl)
  · rw [if_neg h]
    exact Ex.pos (by decide) (Ex.val rfl)

end Go.Proofs.Ytpgheaoepaadlaa.Pure
