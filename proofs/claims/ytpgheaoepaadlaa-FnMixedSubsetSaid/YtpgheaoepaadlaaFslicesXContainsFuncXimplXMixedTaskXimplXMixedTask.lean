-- written by mp.py, a program of this session's, out of the kit's print program and the translation
import Derived.Test.YtpgheaoepaadlaaF0
import Derived.Test.YtpgheaoepaadlaaFslicesXIndexFuncXimplXMixedTaskXimplXMixedTask
namespace Go.Proofs.Ytpgheaoepaadlaa.Q
open Go.RowKit Go.Proofs.YtpgheaoepaadlaaW.PrintWords Go.Proofs.YtpgheaoepaadlaaW.PrintLast Go.Proofs.YtpgheaoepaadlaaW.PrintMore
attribute [local go_sem] max2_int min2_int max_two min_two max_three min_three max_four min_four   -- for this text's walks alone
set_option linter.unusedVariables false
set_option linter.unusedSimpArgs false

/-! ### slices_ContainsFunc_impl_MixedTask_impl_MixedTask: function 40 -/
set_option maxHeartbeats 8000000 in
set_option maxRecDepth 100000 in
theorem contFunc_T39.calls (G : Nat) (hG : Enters Try.prog G) (lb : Array Value) (p : S39 → Bool) (A0 : Option Addr) (c0 : Nat) (l0 : List S39) (w : World) (hr0 : Kd.C k39 w A0 l0.length l0) (hbig : l0.length ≤ 9223372036854775807)
    (hp : ∀ (W : World) (k : Nat), k < l0.length → Below w.heap.size w W → Calls Try.prog G (#[.agg #[.int .i64 (rd_T39 l0 (k : Int)).f0, .int .i64 (rd_T39 l0 (k : Int)).f1, .int .i64 (rd_T39 l0 (k : Int)).f2, .bool (rd_T39 l0 (k : Int)).f3]] ++ lb) W fun e w' => e = .returned (.bool (p (rd_T39 l0 (k : Int)))) ∧ Below w.heap.size w w') :
    Calls Try.prog 40 #[.slice A0 l0.length c0, .func (.func G) #[] lb] w fun e w' => e = .returned (.bool (l0.any p)) ∧ Below w.heap.size w w' := by
  have HC := idxFunc_T39.calls G hG lb p A0 c0 l0 w hr0 hbig hp
  have HI := Aside0.mk (idxOf_T39_any p l0)
  clear hp hr0
  obtain ⟨i, hi⟩ : ∃ i, idxOf_T39 p l0 = i := ⟨_, rfl⟩
  rw [hi] at HC HI
  clear hi
  go_enter Try.func40, Try.ntmps40
  go_wp2_with (go_at_call 61; refine HC.mono ?_; rintro e w2 ⟨rfl, hb⟩)
  go_ret
  rw [← HI.out]
  exact ⟨rfl, hb⟩

end Go.Proofs.Ytpgheaoepaadlaa.Q
