import Derived.Test.YthpnfipkgfbbeaaHyper
import Derived.Test.YthpnfipkgfbbeaaFspecXHyperperiod
set_option linter.unusedSimpArgs false
set_option linter.unusedVariables false
namespace Go.Proofs.Ythpnfipkgfbbeaa.Pu
open Go.RowKit Go.Proofs.Ythpnfipkgfbbeaa.Q Go.Proofs.YthpnfipkgfbbeaaW.PrintWords Go.Proofs.YthpnfipkgfbbeaaW.PrintLast

theorem specHyp_eq (l : List Tk) (hl : l.length ≤ 1000) (k : Nat) (hk : 2000 ≤ k) : spec_Hyperperiod.f k l = some (hypO l) := by
  unfold spec_Hyperperiod.f hypO
  rw [specSet_eq l (by omega) k (by omega)]
  simp only [Option.bind_some]
  by_cases h : setOk l = true
  · rw [if_pos h, if_pos h, specHyper_eq l (Ok.mk' h) k (by omega)]; rfl
  · rw [if_neg h, if_neg h]

end Go.Proofs.Ythpnfipkgfbbeaa.Pu
