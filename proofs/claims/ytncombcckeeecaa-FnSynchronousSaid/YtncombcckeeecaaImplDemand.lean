import Derived.Test.YtncombcckeeecaaPB
import Derived.Test.YtncombcckeeecaaImplDem
import Derived.Test.YtncombcckeeecaaFimplXDemand
set_option linter.unusedSimpArgs false
set_option linter.unusedVariables false
namespace Go.Proofs.Ytncombcckeeecaa.Pu
open Go.RowKit Go.Proofs.Ytncombcckeeecaa.Q Go.Proofs.YtncombcckeeecaaW.PrintWords Go.Proofs.YtncombcckeeecaaW.PrintLast

theorem implDemand_eq (l : List Tk) (t : Int) (k : Nat) (hk : 20 ≤ k) : impl_Demand.f k l t = some (demO l t) := by
  unfold impl_Demand.f demO
  rw [implSet_eq]
  simp only [Option.bind_some]
  by_cases h : setOk l = true
  · have hok := Ok.mk' h
    have hb := hyp_bd hok
    rw [if_pos h, if_pos h, implHyper_eq l hok k hk]
    simp only [Option.bind_some]
    rw [in_eq]
    simp only [Option.bind_some]
    by_cases ht : 0 ≤ t ∧ t ≤ hyp l
    · rw [decide_eq_true ht, if_pos rfl, if_pos ht, implDem_eq l hok t (by omega) (by omega) k hk]; rfl
    · rw [decide_eq_false ht, if_neg (by simp), if_neg ht]
  · rw [if_neg h, if_neg h]

end Go.Proofs.Ytncombcckeeecaa.Pu
