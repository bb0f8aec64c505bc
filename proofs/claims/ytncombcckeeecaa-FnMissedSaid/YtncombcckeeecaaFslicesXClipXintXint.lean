-- written by mp.py, a program of this session's, out of the kit's print program and the translation
import Derived.Test.YtncombcckeeecaaF0
namespace Go.Proofs.Ytncombcckeeecaa.Q
open Go.RowKit Go.Proofs.YtncombcckeeecaaW.PrintWords Go.Proofs.YtncombcckeeecaaW.PrintLast Go.Proofs.YtncombcckeeecaaW.PrintMore
attribute [local go_sem] max2_int min2_int max_two min_two max_three min_three max_four min_four   -- for this text's walks alone
set_option linter.unusedVariables false
set_option linter.unusedSimpArgs false

/-! ### slices_Clip_int_int: function 94 -/
set_option maxHeartbeats 8000000 in
theorem slices_Clip_int_int.calls (A0 : Option Addr) (n c0 : Nat) (w : World) (hc : n ≤ c0) :
    Calls Try.prog 94 #[.slice A0 n c0] w fun e w' => e = .returned (.slice A0 n n) ∧ w = w' := by
  obtain ⟨i0, hi0, _, _, _⟩ := info_parts info3
  have hcut := cut_clip (P := Try.prog) 24 3 Try.underlying24 hi0 A0 n c0 hc
  clear hi0
  go_enter Try.func94, Try.ntmps94
  go_wp2
  go_ret
  exact ⟨rfl, rfl⟩

end Go.Proofs.Ytncombcckeeecaa.Q
