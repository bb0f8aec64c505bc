/- The statement FnBusyEnough of the given program holds for every input: for every code of at most 2^20 bytes (and for longer ones at once) the law returns true. No further condition. -/
import Derived.Test.YtoocccfhmpmopaaSpecBusy
import Derived.Test.YtoocccfhmpmopaaBusyMath
import Derived.Test.YtoocccfhmpmopaaImplFirst
import Derived.Test.YtoocccfhmpmopaaFlawsXFnBusyEnough
set_option linter.unusedSimpArgs false
set_option linter.unusedVariables false
namespace Go.Proofs.Ytoocccfhmpmopaa.Pure
open Go.RowKit Go.Proofs.Ytoocccfhmpmopaa.Q Go.Proofs.Ytoocccfhmpmopaa.Pu Go.Proofs.YtoocccfhmpmopaaW.PrintWords Go.Proofs.YtoocccfhmpmopaaW.PrintLast

theorem FnBusyEnough : laws_FnBusyEnough.Pure := by
  intro l0 _ _ h8
  obtain ⟨K, hK⟩ : ∃ K, 100000000 ≤ K := ⟨_, Nat.le_refl _⟩
  refine ⟨K, ?_⟩
  unfold laws_FnBusyEnough.f
  by_cases hlong : (l0.length : Int) > 1048576
  · rw [if_pos hlong]
  rw [if_neg hlong]
  obtain ⟨b, hb, ho⟩ := open_ev l0 h8
  obtain ⟨l, q, hl, _, _, hs⟩ := set_ev b hb 0 12 (by omega) (by omega)
  have hlen := hl.len
  have hdraw : spec_DrawBusyPeriod.f K l0 = some l := by
    unfold spec_DrawBusyPeriod.f
    rw [ho]
    simp only [Option.bind_some]
    rw [hs K (by omega)]
    rfl
  rw [hdraw, Option.bind_some, implBusy_eq l K (by omega), Option.bind_some, specBusy_eq l (by omega) K (by omega), Option.bind_some, if_pos rfl, implFirst_eq l K (by omega), Option.bind_some]
  by_cases h : setOk l = true ∧ l ≠ [] ∧ ld l ≤ hyp l
  · have hok := Ok.mk' h.1
    have hB := bp_yes hok h.2.1 h.2.2
    have := hB.lo
    rw [if_neg (by omega), if_pos h.1, if_pos (fov_busy hok hB), alive_eq]
    rfl
  · rw [bp_no h]
    rfl

end Go.Proofs.Ytoocccfhmpmopaa.Pure
