/- The statement FnQuickTest of the given program holds for every input: for every code of at most 2^20 bytes (and for longer ones at once) the law returns true. No further condition. -/
import Derived.Test.YthajimgepjbjiaaQuickDef
import Derived.Test.YthajimgepjbjiaaImplEdf
import Derived.Test.YthajimgepjbjiaaFlawsXFnQuickTest
set_option linter.unusedSimpArgs false
set_option linter.unusedVariables false
namespace Go.Proofs.Ythajimgepjbjiaa.Pure
open Go.RowKit Go.Proofs.Ythajimgepjbjiaa.Q Go.Proofs.Ythajimgepjbjiaa.Pu Go.Proofs.YthajimgepjbjiaaW.PrintWords Go.Proofs.YthajimgepjbjiaaW.PrintLast

theorem FnQuickTest : laws_FnQuickTest.Pure := by
  intro l0 _ _ h8
  obtain ⟨K, hK⟩ : ∃ K, 100000000 ≤ K := ⟨_, Nat.le_refl _⟩
  obtain ⟨K, rfl⟩ : ∃ m, K = m + 1 := ⟨K - 1, by omega⟩
  refine ⟨K + 1, ?_⟩
  unfold laws_FnQuickTest.f
  by_cases hlong : (l0.length : Int) > 1048576
  · rw [if_pos hlong]
  rw [if_neg hlong]
  obtain ⟨b, hb, ho⟩ := open_ev l0 h8
  obtain ⟨l, q, hl, _, _, hs⟩ := set_ev b hb 0 12 (by omega) (by omega)
  have hlen := hl.len
  have hdraw : spec_DrawQuickTest.f (K + 1) l0 = some l := by
    unfold spec_DrawQuickTest.f
    rw [ho]
    simp only [Option.bind_some]
    rw [hs (K + 1) (by omega)]
    rfl
  rw [hdraw, Option.bind_some, implQuick_eq l (K + 1) (by omega), Option.bind_some, specQuick_eq l (by omega) (K + 1) (by omega), Option.bind_some, if_neg (by simp), show ((qT l).2 != (qT l).2) = false from by simp, laws_FnQuickTest.j0, if_neg (by simp), implEdf_eq l K (by omega), Option.bind_some]
  by_cases h : setOk l = true
  · have hok := Ok.mk' h
    obtain ⟨h1, h2, _, _⟩ := qT_spec hok
    rw [if_pos (by rw [h1]; simp), specSet_eq l (by omega) K (by omega), Option.bind_some, h, show ((qT l).2 == -1) = false from beq_eq_false_iff_ne.mpr (by omega), alive_eq]
    rfl
  · have h0 : setOk l = false := by simpa using h
    have h1 : edf l = false := by unfold edf; rw [h0, Bool.false_and]
    have h2 : qT l = (false, -1) := by unfold qT; rw [if_neg h]
    rw [h1, h2, if_pos (by rfl), specSet_eq l (by omega) K (by omega), Option.bind_some, h0, alive_eq]
    rfl

end Go.Proofs.Ythajimgepjbjiaa.Pure
