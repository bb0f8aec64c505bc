import Derived.Test.YthpnfipkgfbbeaaSpecOver
import Derived.Test.YthpnfipkgfbbeaaFspecXFirstOverload
set_option linter.unusedSimpArgs false
set_option linter.unusedVariables false
namespace Go.Proofs.Ythpnfipkgfbbeaa.Pu
open Go.RowKit Go.Proofs.Ythpnfipkgfbbeaa.Q Go.Proofs.YthpnfipkgfbbeaaW.PrintWords Go.Proofs.YthpnfipkgfbbeaaW.PrintLast

theorem specFirst_eq (l : List Tk) (hl : l.length ≤ 1000) (k : Nat) (hk : 300000 ≤ k) : spec_FirstOverload.f k l = some (if setOk l = true then fov l else -1) := by
  unfold spec_FirstOverload.f
  rw [specSet_eq l (by omega) k (by omega)]
  simp only [Option.bind_some]
  by_cases h : setOk l = true
  · have hok := Ok.mk' h
    rw [if_pos h, if_pos h, specHyper_eq l hok k (by omega)]
    simp only [Option.bind_some]
    rw [specOver_eq l hok k hk]
    rfl
  · rw [if_neg h, if_neg h]

end Go.Proofs.Ythpnfipkgfbbeaa.Pu
