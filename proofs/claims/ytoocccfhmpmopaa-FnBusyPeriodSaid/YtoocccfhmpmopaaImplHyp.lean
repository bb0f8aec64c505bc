import Derived.Test.YtoocccfhmpmopaaHyper
import Derived.Test.YtoocccfhmpmopaaFimplXHyperperiod
set_option linter.unusedSimpArgs false
set_option linter.unusedVariables false
namespace Go.Proofs.Ytoocccfhmpmopaa.Pu
open Go.RowKit Go.Proofs.Ytoocccfhmpmopaa.Q Go.Proofs.YtoocccfhmpmopaaW.PrintWords Go.Proofs.YtoocccfhmpmopaaW.PrintLast

theorem implHyp_eq (l : List Tk) (k : Nat) (hk : 20 ≤ k) : impl_Hyperperiod.f k l = some (hypO l) := by
  unfold impl_Hyperperiod.f hypO
  rw [implSet_eq]
  simp only [Option.bind_some]
  by_cases h : setOk l = true
  · rw [if_pos h, if_pos h, implHyper_eq l (Ok.mk' h) k hk]; rfl
  · rw [if_neg h, if_neg h]

end Go.Proofs.Ytoocccfhmpmopaa.Pu
