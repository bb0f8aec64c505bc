import Derived.Test.YtncombcckeeecaaImplFirst
import Derived.Test.YtncombcckeeecaaFimplXfeasible
set_option linter.unusedSimpArgs false
set_option linter.unusedVariables false
namespace Go.Proofs.Ytncombcckeeecaa.Pu
open Go.RowKit Go.Proofs.Ytncombcckeeecaa.Q Go.Proofs.YtncombcckeeecaaW.PrintWords Go.Proofs.YtncombcckeeecaaW.PrintLast

theorem implFeas_eq (l : List Tk) (h : setOk l = true) (k : Nat) (hk : 300000 ≤ k) : impl_feasible.f k l = some (decide (fov l < 0)) := by
  unfold impl_feasible.f
  rw [implFirst_eq l k hk, if_pos h]
  rfl

end Go.Proofs.Ytncombcckeeecaa.Pu
