import Derived.Test.YtpgheaoepaadlaaGcd
import Derived.Test.YtpgheaoepaadlaaFA
set_option linter.unusedSimpArgs false
set_option linter.unusedVariables false
namespace Go.Proofs.Ytpgheaoepaadlaa.Pu
open Go.RowKit Go.Proofs.Ytpgheaoepaadlaa.Q Go.Proofs.YtpgheaoepaadlaaW.PrintWords Go.Proofs.YtpgheaoepaadlaaW.PrintLast

theorem implRed_eq (a b : Int) (ha : 0 ≤ a) (hb : 1 ≤ b) (ha' : a ≤ 1000000000) (hb' : b ≤ 1000000000) (k : Nat) (hk : b < k) : impl_reduced.f k a b = some (redI a b) := by
  have h := gcdI_spec a b ha hb
  unfold impl_reduced.f redI
  rw [implGcdI a b ha (by omega) k hk]
  simp only [Option.bind_some]
  rw [if_neg (by omega), tdiv_pos ha, tdiv_pos (by omega), w64 (n := a / gcdI a b) (by omega) (by omega), w64 (n := b / gcdI a b) (by omega) (by omega)]

end Go.Proofs.Ytpgheaoepaadlaa.Pu
