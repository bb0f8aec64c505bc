-- written by mp.py, a program of this session's, out of the kit's print program and the translation
import Derived.Test.YthpnfipkgfbbeaaF0
import Derived.Test.YthpnfipkgfbbeaaFimplXgcd
namespace Go.Proofs.Ythpnfipkgfbbeaa.Q
open Go.RowKit Go.Proofs.YthpnfipkgfbbeaaW.PrintWords Go.Proofs.YthpnfipkgfbbeaaW.PrintLast Go.Proofs.YthpnfipkgfbbeaaW.PrintMore
attribute [local go_sem] max2_int min2_int max_two min_two max_three min_three max_four min_four   -- for this text's walks alone
set_option linter.unusedVariables false
set_option linter.unusedSimpArgs false

/-! ### impl_lcm: function 51 -/
def impl_lcm.f (k : Nat) (a0 : Int) (a1 : Int) : Option (Int) := (impl_gcd.f k a0 a1).bind fun t101 => (if t101 = 0 then (none) else (some (wrap64 ((wrap64 (Int.tdiv a0 t101)) * a1))))
theorem impl_lcm.mono : ∀ a0 a1 k, LeO (impl_lcm.f k a0 a1) (impl_lcm.f (k + 1) a0 a1) := by
  intro a0 a1 k
  unfold impl_lcm.f
  repeat' first
      | (with_reducible exact impl_gcd.mono _ _ _)
      | (with_reducible exact LeO.refl _)
      | (with_reducible exact LeO.none _)
      | (with_reducible refine LeO.ite ?_ ?_)
      | (with_reducible refine LeO.bind ?_ (fun _ => ?_))
      | exact impl_gcd.mono _ _ _
      | exact LeO.none _
      | refine LeO.ite ?_ ?_
      | refine LeO.bind ?_ (fun _ => ?_)
set_option maxHeartbeats 8000000 in
set_option maxRecDepth 100000 in
theorem impl_lcm.calls (k : Nat) (a0 : Int) (a1 : Int) (r : Int) (w : World) (h : impl_lcm.f k a0 a1 = some r) :
    Calls Try.prog 51 #[.int .i64 a0, .int .i64 a1] w fun e w' => e = .returned (.int .i64 r) ∧ Drawn0 w w' := by
  have H : ((impl_gcd.f k a0 a1).bind fun t101 => (if t101 = 0 then (none) else (some (wrap64 ((wrap64 (Int.tdiv a0 t101)) * a1))))) = some r := h
  clear h
  replace H := Option.bind_eq_some_iff.mp H
  obtain ⟨t101, A30, H⟩ := H
  replace H : (if t101 = 0 then (none) else (some (wrap64 ((wrap64 (Int.tdiv a0 t101)) * a1)))) = some r := H
  have A3 := Aside0.mk A30
  clear A30
  by_cases c4 : t101 = 0
  · rw [if_pos c4] at H
    exact absurd H (by simp)
  · rw [if_neg c4] at H
    have c4b0 : (t101 == 0) = false := beq_eq_false_iff_ne.mpr c4
    have c4b1 : (t101 != 0) = true := bne_iff_ne.mpr c4
    obtain rfl := Option.some.inj H
    go_enter Try.func51, Try.ntmps51
    go_wp2_with (first | ((with_reducible refine gate_callee (f := 53) rfl ?_); refine goesL_ (some 8) rfl rfl Try.func53 (by kernel_rfl) rfl #[.int .i64 a0, .int .i64 a1] rfl (by (try simp only [List.map_toArray, List.map_cons, List.map_nil]); first | done | rfl | (simp only [List.length_drop, List.length_take]; rfl)) ?_; (with_reducible refine (impl_gcd.calls k a0 a1 t101 _ A3.out).mono ?_); rintro e w' ⟨rfl, ⟨nd, rfl⟩⟩; refine ⟨_, rfl, ?_⟩))
    go_ret
    exact ⟨by first | rfl | (simp; done) | (simp [*]; done), by repeat (first | exact Drawn0.refl _ | apply Drawn0.step)⟩

end Go.Proofs.Ythpnfipkgfbbeaa.Q
