-- written by mp.py, a program of this session's, out of the kit's print program and the translation
import Derived.Test.YtnkpbbkfhmlcfaaF0
import Derived.Test.YtnkpbbkfhmlcfaaFslicesXClipXintXint
import Derived.Test.YtnkpbbkfhmlcfaaFslicesXCloneXintXint
namespace Go.Proofs.Ytnkpbbkfhmlcfaa.Q
open Go.RowKit Go.Proofs.YtnkpbbkfhmlcfaaW.PrintWords Go.Proofs.YtnkpbbkfhmlcfaaW.PrintLast Go.Proofs.YtnkpbbkfhmlcfaaW.PrintMore
attribute [local go_sem] max2_int min2_int max_two min_two max_three min_three max_four min_four   -- for this text's walks alone
set_option linter.unusedVariables false
set_option linter.unusedSimpArgs false

/-! ### impl_clone_int: function 55 -/
def impl_clone_int.f (l0 : List Int) : Option (List Int) := (slices_Clone_int_int.f l0).bind fun y => some y
set_option maxHeartbeats 8000000 in
set_option maxRecDepth 100000 in
theorem impl_clone_int.calls (A0 : Option Addr) (c0 : Nat) (l0 : List Int) (r : List Int) (w : World) (hr0 : Kd.C (Kd.int .i64) w A0 l0.length l0) (hc0 : l0.length ≤ c0) (h : impl_clone_int.f l0 = some r) :
    Calls Try.prog 55 #[.slice A0 l0.length c0] w fun e w' => ∃ v0_ : Value, e = .returned (v0_) ∧ Kd.Q (Kd.int .i64) 3 w' w.heap.size (fun _ => True) v0_ r ∧ Below w.heap.size w w' := by
  unfold impl_clone_int.f at h
  obtain ⟨y, hy, h⟩ := Option.bind_eq_some_iff.mp h
  obtain rfl := Option.some.inj h
  clear h
  have hcall := slices_Clone_int_int.calls A0 c0 l0 y w hr0 hc0 hy
  clear hr0 hc0 hy
  go_enter Try.func55, Try.ntmps55
  go_wp2_with (first | (go_at_call 70; refine hcall.mono ?_; rintro e w2 ⟨v, rfl, ho, hb⟩; obtain ⟨A2, c2, rfl, hc2, _⟩ := Kd.R_reads ho; have HO := Aside0.mk ho; have HB := Aside0.mk hb; have HL := Aside0.mk hc2; clear ho hb hc2) | (go_at_call 69; refine (slices_Clip_int_int.calls A2 _ c2 _ HL.out).mono ?_; rintro e w3 ⟨rfl, rfl⟩))
  go_ret
  exact ⟨_, rfl, Kd.Q_clip (Kd.Q_of_R HO.out), HB.out⟩

end Go.Proofs.Ytnkpbbkfhmlcfaa.Q
