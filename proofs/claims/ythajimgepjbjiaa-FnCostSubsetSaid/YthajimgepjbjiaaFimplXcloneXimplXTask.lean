-- written by mp.py, a program of this session's, out of the kit's print program and the translation
import Derived.Test.YthajimgepjbjiaaF0
import Derived.Test.YthajimgepjbjiaaFslicesXClipXimplXTaskXimplXTask
import Derived.Test.YthajimgepjbjiaaFslicesXCloneXimplXTaskXimplXTask
namespace Go.Proofs.Ythajimgepjbjiaa.Q
open Go.RowKit Go.Proofs.YthajimgepjbjiaaW.PrintWords Go.Proofs.YthajimgepjbjiaaW.PrintLast Go.Proofs.YthajimgepjbjiaaW.PrintMore
attribute [local go_sem] max2_int min2_int max_two min_two max_three min_three max_four min_four   -- for this text's walks alone
set_option linter.unusedVariables false
set_option linter.unusedSimpArgs false

/-! ### impl_clone_impl_Task: function 67 -/
def impl_clone_impl_Task.f (l0 : List S44) : Option (List S44) := (slices_Clone_impl_Task_impl_Task.f l0).bind fun y => some y
set_option maxHeartbeats 8000000 in
set_option maxRecDepth 100000 in
theorem impl_clone_impl_Task.calls (A0 : Option Addr) (c0 : Nat) (l0 : List S44) (r : List S44) (w : World) (hr0 : Kd.C k44 w A0 l0.length l0) (hc0 : l0.length ≤ c0) (h : impl_clone_impl_Task.f l0 = some r) :
    Calls Try.prog 67 #[.slice A0 l0.length c0] w fun e w' => ∃ v0_ : Value, e = .returned (v0_) ∧ Kd.Q k44 44 w' w.heap.size (fun _ => True) v0_ r ∧ Below w.heap.size w w' := by
  unfold impl_clone_impl_Task.f at h
  obtain ⟨y, hy, h⟩ := Option.bind_eq_some_iff.mp h
  obtain rfl := Option.some.inj h
  clear h
  have hcall := slices_Clone_impl_Task_impl_Task.calls A0 c0 l0 y w hr0 hc0 hy
  clear hr0 hc0 hy
  go_enter Try.func67, Try.ntmps67
  go_wp2_with (first | (go_at_call 71; refine hcall.mono ?_; rintro e w2 ⟨v, rfl, ho, hb⟩; obtain ⟨A2, c2, rfl, hc2, _⟩ := Kd.R_reads ho; have HO := Aside0.mk ho; have HB := Aside0.mk hb; have HL := Aside0.mk hc2; clear ho hb hc2) | (go_at_call 70; refine (slices_Clip_impl_Task_impl_Task.calls A2 _ c2 _ HL.out).mono ?_; rintro e w3 ⟨rfl, rfl⟩))
  go_ret
  exact ⟨_, rfl, Kd.Q_clip (Kd.Q_of_R HO.out), HB.out⟩

end Go.Proofs.Ythajimgepjbjiaa.Q
