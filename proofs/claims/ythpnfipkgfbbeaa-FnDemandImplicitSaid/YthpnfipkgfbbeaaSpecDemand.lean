import Derived.Test.YthpnfipkgfbbeaaDemMath
import Derived.Test.YthpnfipkgfbbeaaSpecDem
import Derived.Test.YthpnfipkgfbbeaaFspecXDemand
set_option linter.unusedSimpArgs false
set_option linter.unusedVariables false
namespace Go.Proofs.Ythpnfipkgfbbeaa.Pu
open Go.RowKit Go.Proofs.Ythpnfipkgfbbeaa.Q Go.Proofs.YthpnfipkgfbbeaaW.PrintWords Go.Proofs.YthpnfipkgfbbeaaW.PrintLast

theorem specDemand_eq (l : List Tk) (hl : l.length ≤ 1000) (t : Int) (k : Nat) (hk : 2000 ≤ k) : spec_Demand.f k l t = some (demO l t) := by
  unfold spec_Demand.f demO
  rw [specSet_eq l (by omega) k (by omega)]
  simp only [Option.bind_some]
  by_cases h : setOk l = true
  · have hok := Ok.mk' h
    have hb := hyp_bd hok
    rw [if_pos h, if_pos h, specHyper_eq l hok k (by omega)]
    simp only [Option.bind_some]
    rw [l1In_eq]
    simp only [Option.bind_some]
    by_cases ht : 0 ≤ t ∧ t ≤ hyp l
    · rw [decide_eq_true ht, if_pos rfl, if_pos ht, specDem_eq l hok t (by omega) (by omega) k (by omega)]; rfl
    · rw [decide_eq_false ht, if_neg (by simp), if_neg ht]
  · rw [if_neg h, if_neg h]

end Go.Proofs.Ythpnfipkgfbbeaa.Pu
