import Derived.Test.YtabjigpbednfnaaImplFeas
import Derived.Test.YtabjigpbednfnaaFimplXEdfFeasible
set_option linter.unusedSimpArgs false
set_option linter.unusedVariables false
namespace Go.Proofs.Ytabjigpbednfnaa.Pu
open Go.RowKit Go.Proofs.Ytabjigpbednfnaa.Q Go.Proofs.YtabjigpbednfnaaW.PrintWords Go.Proofs.YtabjigpbednfnaaW.PrintLast

theorem implEdf_eq (l : List Tk) (k : Nat) (hk : 300000 ≤ k) : impl_EdfFeasible.f k l = some (edf l) := by
  unfold impl_EdfFeasible.f edf
  rw [implSet_eq]
  simp only [Option.bind_some]
  by_cases h : setOk l = true
  · rw [if_pos h, implFeas_eq l h k hk, h]
    rfl
  · rw [if_neg h]
    simp only [Bool.not_eq_true] at h
    rw [h]
    rfl

end Go.Proofs.Ytabjigpbednfnaa.Pu
