/- The statement FnQuickFew of the given program holds for every input: for every code of at most 2^20 bytes (and for longer ones at once) the law returns true. No further condition. -/
import Derived.Test.YtoocccfhmpmopaaQuickDef
import Derived.Test.YtoocccfhmpmopaaFlawsXFnQuickFew
set_option linter.unusedSimpArgs false
set_option linter.unusedVariables false
namespace Go.Proofs.Ytoocccfhmpmopaa.Pure
open Go.RowKit Go.Proofs.Ytoocccfhmpmopaa.Q Go.Proofs.Ytoocccfhmpmopaa.Pu Go.Proofs.YtoocccfhmpmopaaW.PrintWords Go.Proofs.YtoocccfhmpmopaaW.PrintLast

theorem FnQuickFew : laws_FnQuickFew.Pure := by
  intro l0 _ _ h8
  obtain ⟨K, hK⟩ : ∃ K, 100000000 ≤ K := ⟨_, Nat.le_refl _⟩
  refine ⟨K, ?_⟩
  unfold laws_FnQuickFew.f
  by_cases hlong : (l0.length : Int) > 1048576
  · rw [if_pos hlong]
  rw [if_neg hlong]
  obtain ⟨b, hb, ho⟩ := open_ev l0 h8
  obtain ⟨l, q, hl, _, _, hs⟩ := set_ev b hb 0 12 (by omega) (by omega)
  have hlen := hl.len
  have hdraw : spec_DrawQuickTest.f K l0 = some l := by
    unfold spec_DrawQuickTest.f
    rw [ho]
    simp only [Option.bind_some]
    rw [hs K (by omega)]
    rfl
  rw [hdraw, Option.bind_some, implQuick_eq l K (by omega), Option.bind_some, specQuick_eq l (by omega) K (by omega), Option.bind_some, if_pos rfl, implBusy_eq l K (by omega), Option.bind_some]
  by_cases h : setOk l = true
  · have hok := Ok.mk' h
    obtain ⟨_, h2, h3, h4⟩ := qT_spec hok
    by_cases hn : bp l < 0
    · rw [if_pos hn, if_pos (by have := h3 hn; omega), alive_eq]
      rfl
    · rw [if_neg hn, if_pos (by omega), if_pos (h4 (by omega)), alive_eq]
      rfl
  · have h2 : qT l = (false, -1) := by unfold qT; rw [if_neg h]
    rw [bp_no (fun a => h a.1), h2, if_pos (by decide), if_pos (by decide), alive_eq]
    rfl

end Go.Proofs.Ytoocccfhmpmopaa.Pure
