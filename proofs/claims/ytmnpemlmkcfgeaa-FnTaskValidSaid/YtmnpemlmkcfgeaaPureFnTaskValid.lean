/- The statement FnTaskValid of the given program holds for every input: for every code of at most 2^20 bytes (and for longer ones at once) the law returns true. No further condition. -/
import Derived.Test.YtmnpemlmkcfgeaaValid
import Derived.Test.YtmnpemlmkcfgeaaFLawsFnTaskValid
namespace Go.Proofs.Ytmnpemlmkcfgeaa.Pure
open Go.RowKit Go.Proofs.Ytmnpemlmkcfgeaa.Q Go.Proofs.Ytmnpemlmkcfgeaa.Pu Go.Proofs.YtmnpemlmkcfgeaaW.PrintWords Go.Proofs.YtmnpemlmkcfgeaaW.PrintLast

theorem FnTaskValid : laws_FnTaskValid.Pure := by
  intro l0 _ _ h8
  refine ⟨2, ?_⟩
  unfold laws_FnTaskValid.f
  by_cases hl : (l0.length : Int) > 1048576
  · rw [if_pos hl]
  rw [if_neg hl]
  obtain ⟨b, hb, ho⟩ := open_ev l0 h8
  obtain ⟨c, d, e, q, _, _, hc, hd, he, _, ht⟩ := task_ev b hb 0 2 (by omega) (by omega)
  unfold spec_DrawTaskValid.f
  rw [ho]
  simp only [Option.bind_some]
  rw [ht 0]
  simp only [Option.bind_some, implTask_eq, specTask_eq, alive_eq, w64 (show -9223372036854775808 ≤ e + 1 by omega) (by omega), w64 (show -9223372036854775808 ≤ d + 1 by omega) (by omega)]
  rw [if_neg (by simp)]
  by_cases hv : tv c d e = true
  · have v := tv_true hv
    rw [if_pos hv, if_pos (by omega), if_pos (by omega), if_pos (by omega), if_pos (tv_mk (by omega)), if_neg (by rw [tv_no (by omega)]; simp), tv_no (by omega)]
    rfl
  · rw [if_neg hv]

end Go.Proofs.Ytmnpemlmkcfgeaa.Pure
