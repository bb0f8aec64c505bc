import Derived.Test.YtabjigpbednfnaaImplFirst
import Derived.Test.YtabjigpbednfnaaFimplXfeasible
set_option linter.unusedSimpArgs false
set_option linter.unusedVariables false
namespace Go.Proofs.Ytabjigpbednfnaa.Pu
open Go.RowKit Go.Proofs.Ytabjigpbednfnaa.Q Go.Proofs.YtabjigpbednfnaaW.PrintWords Go.Proofs.YtabjigpbednfnaaW.PrintLast

theorem implFeas_eq (l : List Tk) (h : setOk l = true) (k : Nat) (hk : 300000 ≤ k) : impl_feasible.f k l = some (decide (fov l < 0)) := by
  unfold impl_feasible.f
  rw [implFirst_eq l k hk, if_pos h]
  rfl

end Go.Proofs.Ytabjigpbednfnaa.Pu
