-- written by mp.py, a program of this session's, out of the kit's print program and the translation
import Derived.Test.YtpgheaoepaadlaaF0
import Derived.Test.YtpgheaoepaadlaaFslicesXContainsFuncXimplXServerXimplXServer
import Derived.Test.YtpgheaoepaadlaaFA
import Derived.Test.YtpgheaoepaadlaaFimplXServersValidX1
namespace Go.Proofs.Ytpgheaoepaadlaa.Q
open Go.RowKit Go.Proofs.YtpgheaoepaadlaaW.PrintWords Go.Proofs.YtpgheaoepaadlaaW.PrintLast Go.Proofs.YtpgheaoepaadlaaW.PrintMore
attribute [local go_sem] max2_int min2_int max_two min_two max_three min_three max_four min_four   -- for this text's walks alone
set_option linter.unusedVariables false
set_option linter.unusedSimpArgs false

/-! ### impl_ServersValid: function 12 -/
theorem impl_in.total_impl_ServersValid (a b c : Int) : ∃ r, impl_in.f a b c = some r := by unfold impl_in.f; split <;> exact ⟨_, rfl⟩
theorem impl_ServersValid_1.total (a0 : Int) (a1 : Int) : ∃ r, impl_ServersValid_1.f a0 a1 = some r := by
  unfold impl_ServersValid_1.f impl_in.f
  repeat' split
  all_goals first | exact ⟨_, rfl⟩ | (simp only [Option.bind_some]; repeat' split)
  all_goals exact ⟨_, rfl⟩
/-- The test of one element, as the library's ContainsFunc asks it. -/
def bad_impl_ServersValid (x : S27) : Bool := impl_ServersValid_1.f x.f0 x.f1 == some true
def impl_ServersValid.f (l0 : List S27) : Option Bool := some (decide ((l0.length : Int) ≤ 2) && !(l0.any bad_impl_ServersValid))
theorem bad_impl_ServersValid.calls (x : S27) (w : World) : Calls Try.prog 35 #[.agg #[.int .i64 x.f0, .int .i64 x.f1]] w fun e w' => e = .returned (.bool (bad_impl_ServersValid x)) ∧ Below w.heap.size w w' := by
  obtain ⟨r, hr⟩ := impl_ServersValid_1.total x.f0 x.f1
  have e : bad_impl_ServersValid x = r := by unfold bad_impl_ServersValid; rw [hr]; cases r <;> rfl
  rw [e]
  exact impl_ServersValid_1.calls x.f0 x.f1 r w hr
set_option maxHeartbeats 8000000 in
set_option maxRecDepth 100000 in
theorem impl_ServersValid.calls (A0 : Option Addr) (c0 : Nat) (l0 : List S27) (r : Bool) (w : World) (hr0 : Kd.C k27 w A0 l0.length l0) (hc0 : l0.length ≤ c0) (h : impl_ServersValid.f l0 = some r) :
    Calls Try.prog 12 #[.slice A0 l0.length c0] w fun e w' => e = .returned (.bool r) ∧ Below w.heap.size w w' := by
  have H := Aside0.mk (Option.some.inj h)
  clear h
  by_cases hlen : l0.length ≤ 2
  · have hd : decide ((l0.length : Int) ≤ 2) = true := decide_eq_true (by omega)
    have hcon := contFunc_T27.calls 35 (enters_of Try.func35 (by kernel_rfl) rfl) #[] bad_impl_ServersValid A0 c0 l0 w hr0 (by omega) (fun W k _ hB => (bad_impl_ServersValid.calls _ W).mono fun e w' ⟨he, hb⟩ => ⟨he, below_step hB hb⟩)
    have H1 : Aside0 ((!l0.any bad_impl_ServersValid) = r) := ⟨by have := H.out; rw [hd] at this; simpa using this⟩
    clear H hr0 hc0
    obtain ⟨b, hb⟩ : ∃ b, l0.any bad_impl_ServersValid = b := ⟨_, rfl⟩
    rw [hb] at hcon H1
    clear hb
    go_enter Try.func12, Try.ntmps12
    go_wp2_with (go_at_call 34; refine hcon.mono ?_; rintro e w2 ⟨rfl, hb⟩)
    go_ret
    rw [← H1.out]
    exact ⟨rfl, hb⟩
  · have hd : decide ((l0.length : Int) ≤ 2) = false := decide_eq_false (by omega)
    have H1 : Aside0 (false = r) := ⟨by have := H.out; rw [hd] at this; simpa using this⟩
    clear H hr0 hc0
    go_enter Try.func12, Try.ntmps12
    go_wp2
    go_ret
    rw [← H1.out]
    exact ⟨rfl, Below.refl _ _⟩

end Go.Proofs.Ytpgheaoepaadlaa.Q
