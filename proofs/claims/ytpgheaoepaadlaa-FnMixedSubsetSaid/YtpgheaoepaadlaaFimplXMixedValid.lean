-- written by mp.py, a program of this session's, out of the kit's print program and the translation
import Derived.Test.YtpgheaoepaadlaaF0
import Derived.Test.YtpgheaoepaadlaaFA
import Derived.Test.YtpgheaoepaadlaaFslicesXContainsFuncXimplXMixedTaskXimplXMixedTask
import Derived.Test.YtpgheaoepaadlaaFimplXMixedValidX1
namespace Go.Proofs.Ytpgheaoepaadlaa.Q
open Go.RowKit Go.Proofs.YtpgheaoepaadlaaW.PrintWords Go.Proofs.YtpgheaoepaadlaaW.PrintLast Go.Proofs.YtpgheaoepaadlaaW.PrintMore
attribute [local go_sem] max2_int min2_int max_two min_two max_three min_three max_four min_four   -- for this text's walks alone
set_option linter.unusedVariables false
set_option linter.unusedSimpArgs false

/-! ### impl_MixedValid: function 18 -/
theorem impl_in.total_impl_MixedValid (a b c : Int) : ∃ r, impl_in.f a b c = some r := by unfold impl_in.f; split <;> exact ⟨_, rfl⟩
theorem impl_MixedValid_1.total (a0 : Int) (a1 : Int) (a2 : Int) (a3 : Bool) : ∃ r, impl_MixedValid_1.f a0 a1 a2 a3 = some r := by
  unfold impl_MixedValid_1.f impl_in.f
  repeat' split
  all_goals first | exact ⟨_, rfl⟩ | (simp only [Option.bind_some]; repeat' split)
  all_goals exact ⟨_, rfl⟩
/-- The test of one element, as the library's ContainsFunc asks it. -/
def bad_impl_MixedValid (x : S39) : Bool := impl_MixedValid_1.f x.f0 x.f1 x.f2 x.f3 == some true
def impl_MixedValid.f (l0 : List S39) : Option Bool := some (decide ((l0.length : Int) ≤ 5) && !(l0.any bad_impl_MixedValid))
theorem bad_impl_MixedValid.calls (x : S39) (w : World) : Calls Try.prog 41 #[.agg #[.int .i64 x.f0, .int .i64 x.f1, .int .i64 x.f2, .bool x.f3]] w fun e w' => e = .returned (.bool (bad_impl_MixedValid x)) ∧ Below w.heap.size w w' := by
  obtain ⟨r, hr⟩ := impl_MixedValid_1.total x.f0 x.f1 x.f2 x.f3
  have e : bad_impl_MixedValid x = r := by unfold bad_impl_MixedValid; rw [hr]; cases r <;> rfl
  rw [e]
  exact impl_MixedValid_1.calls x.f0 x.f1 x.f2 x.f3 r w hr
set_option maxHeartbeats 8000000 in
set_option maxRecDepth 100000 in
theorem impl_MixedValid.calls (A0 : Option Addr) (c0 : Nat) (l0 : List S39) (r : Bool) (w : World) (hr0 : Kd.C k39 w A0 l0.length l0) (hc0 : l0.length ≤ c0) (h : impl_MixedValid.f l0 = some r) :
    Calls Try.prog 18 #[.slice A0 l0.length c0] w fun e w' => e = .returned (.bool r) ∧ Below w.heap.size w w' := by
  have H := Aside0.mk (Option.some.inj h)
  clear h
  by_cases hlen : l0.length ≤ 5
  · have hd : decide ((l0.length : Int) ≤ 5) = true := decide_eq_true (by omega)
    have hcon := contFunc_T39.calls 41 (enters_of Try.func41 (by kernel_rfl) rfl) #[] bad_impl_MixedValid A0 c0 l0 w hr0 (by omega) (fun W k _ hB => (bad_impl_MixedValid.calls _ W).mono fun e w' ⟨he, hb⟩ => ⟨he, below_step hB hb⟩)
    have H1 : Aside0 ((!l0.any bad_impl_MixedValid) = r) := ⟨by have := H.out; rw [hd] at this; simpa using this⟩
    clear H hr0 hc0
    obtain ⟨b, hb⟩ : ∃ b, l0.any bad_impl_MixedValid = b := ⟨_, rfl⟩
    rw [hb] at hcon H1
    clear hb
    go_enter Try.func18, Try.ntmps18
    go_wp2_with (go_at_call 40; refine hcon.mono ?_; rintro e w2 ⟨rfl, hb⟩)
    go_ret
    rw [← H1.out]
    exact ⟨rfl, hb⟩
  · have hd : decide ((l0.length : Int) ≤ 5) = false := decide_eq_false (by omega)
    have H1 : Aside0 (false = r) := ⟨by have := H.out; rw [hd] at this; simpa using this⟩
    clear H hr0 hc0
    go_enter Try.func18, Try.ntmps18
    go_wp2
    go_ret
    rw [← H1.out]
    exact ⟨rfl, Below.refl _ _⟩

end Go.Proofs.Ytpgheaoepaadlaa.Q
