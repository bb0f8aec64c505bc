import Derived.Test.YtnkpbbkfhmlcfaaPB
import Derived.Test.YtnkpbbkfhmlcfaaFA
set_option linter.unusedSimpArgs false
set_option linter.unusedVariables false
namespace Go.Proofs.Ytnkpbbkfhmlcfaa.Pu
open Go.RowKit Go.Proofs.Ytnkpbbkfhmlcfaa.Q Go.Proofs.YtnkpbbkfhmlcfaaW.PrintWords Go.Proofs.YtnkpbbkfhmlcfaaW.PrintLast

theorem implRed_eq (a b : Int) (ha : 0 ≤ a) (hb : 1 ≤ b) (ha' : a ≤ 1000000000) (hb' : b ≤ 1000000000) (k : Nat) (hk : b < k) : impl_reduced.f k a b = some (redI a b) := by
  have h := gcdI_spec a b ha hb
  unfold impl_reduced.f redI
  rw [implGcdI a b ha (by omega) k hk]
  simp only [Option.bind_some]
  rw [if_neg (by omega), tdiv_pos ha, tdiv_pos (by omega), w64 (n := a / gcdI a b) (by omega) (by omega), w64 (n := b / gcdI a b) (by omega) (by omega)]

end Go.Proofs.Ytnkpbbkfhmlcfaa.Pu
