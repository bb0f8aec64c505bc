import Derived.Test.YtncombcckeeecaaPB
import Derived.Test.YtncombcckeeecaaFimplXHyperperiod
set_option linter.unusedSimpArgs false
set_option linter.unusedVariables false
namespace Go.Proofs.Ytncombcckeeecaa.Pu
open Go.RowKit Go.Proofs.Ytncombcckeeecaa.Q Go.Proofs.YtncombcckeeecaaW.PrintWords Go.Proofs.YtncombcckeeecaaW.PrintLast

theorem implHyp_eq (l : List Tk) (k : Nat) (hk : 20 ≤ k) : impl_Hyperperiod.f k l = some (hypO l) := by
  unfold impl_Hyperperiod.f hypO
  rw [implSet_eq]
  simp only [Option.bind_some]
  by_cases h : setOk l = true
  · rw [if_pos h, if_pos h, implHyper_eq l (Ok.mk' h) k hk]; rfl
  · rw [if_neg h, if_neg h]

end Go.Proofs.Ytncombcckeeecaa.Pu
