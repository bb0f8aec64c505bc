import Derived.Test.YtabjigpbednfnaaSecC
import Derived.Test.YtabjigpbednfnaaFspecXDrawCeilings
set_option linter.unusedSimpArgs false
set_option linter.unusedVariables false
namespace Go.Proofs.Ytabjigpbednfnaa.Pu
open Go.RowKit Go.Proofs.Ytabjigpbednfnaa.Q Go.Proofs.YtabjigpbednfnaaW.PrintWords Go.Proofs.YtabjigpbednfnaaW.PrintLast

theorem drawC_ex (l0 : List Int) (h8 : ∀ x ∈ l0, (Lit.int .u8 x).wf = true) : Ex (fun k => spec_DrawCeilings.f k l0) (fun x => x.1.length ≤ 12 ∧ x.2.length ≤ 14) := by
  obtain ⟨b, hb, ho⟩ := open_ev l0 h8
  unfold spec_DrawCeilings.f
  rw [ho]
  simp only [Option.bind_some]
  obtain ⟨l, q, hl, q0, q1, hs⟩ := set_ev b hb 0 20 (by omega) (by omega)
  have hbl := hl.len
  refine Ex.bind (Ex.at_ 40 hs (P := fun x => x = (l, q)) rfl) ?_
  intro x hx
  rw [hx]
  simp only []
  exact Ex.bind (secs_ex hbl hb 12 (by omega) (by omega)) (fun y hy => Ex.val ⟨by simp only []; omega, hy.1⟩)

end Go.Proofs.Ytabjigpbednfnaa.Pu
