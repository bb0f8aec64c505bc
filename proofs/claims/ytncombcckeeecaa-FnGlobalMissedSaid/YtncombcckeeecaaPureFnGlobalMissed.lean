/- The statement FnGlobalMissed of the given program holds for every input: for every code of at most 2^20 bytes (and for longer ones at once) the law returns true. No further condition. -/
import Derived.Test.YtncombcckeeecaaMiss
import Derived.Test.YtncombcckeeecaaFlawsXFnGlobalMissed
set_option linter.unusedSimpArgs false
set_option linter.unusedVariables false
namespace Go.Proofs.Ytncombcckeeecaa.Pure
open Go.RowKit Go.Proofs.Ytncombcckeeecaa.Q Go.Proofs.Ytncombcckeeecaa.Pu Go.Proofs.YtncombcckeeecaaW.PrintWords Go.Proofs.YtncombcckeeecaaW.PrintLast

theorem FnGlobalMissed : laws_FnGlobalMissed.Pure := by
  intro l0 h1 h2 h8
  refine Ex.get ?_
  unfold laws_FnGlobalMissed.f
  refine Ex.ite (fun _ => Ex.val rfl) (fun _ => ?_)
  refine Ex.bind (P := fun x => x.1.length ≤ 61 ∧ x.2.2.length ≤ 62) ?_ ?_
  · unfold spec_DrawGlobalMissed.f
    exact Ex.bind (drawM_ex l0 h8) (fun x hx => Ex.val hx)
  rintro ⟨js, run, fin⟩ ⟨hl, hf⟩
  simp only [] at hl hf ⊢
  have hlen : (missO js fin).length ≤ 1000 := by
    unfold missO
    split
    · have := missL_len js fin js.length 0; omega
    · simp
  refine Ex.bind (P := fun x => x = missO js fin) ?_ ?_
  · unfold impl_GlobalMissed.f
    exact implMiss_ex js (by omega) [] fin
  intro x hx
  refine Ex.bind (P := fun x => x = missO js fin) ?_ ?_
  · unfold spec_GlobalMissed.f
    exact Ex.bind (specMiss_ex js (by omega) [] fin) (fun y hy => Ex.val hy)
  intro y hy
  rw [hx, hy]
  refine Ex.bind (sameInts_ex _ hlen) (fun z hz => Ex.pos hz (Ex.bind (implMiss_ex js (by omega) [] fin) (fun u hu => ?_)))
  rw [hu]
  refine Ex.bind (sameInts_ex _ hlen) (fun z2 hz2 => Ex.pos hz2 ?_)
  rw [alive_eq]
  exact Ex.val rfl

end Go.Proofs.Ytncombcckeeecaa.Pure
