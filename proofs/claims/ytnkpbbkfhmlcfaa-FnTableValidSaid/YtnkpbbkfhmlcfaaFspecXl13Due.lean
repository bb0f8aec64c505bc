-- written by mp.py, a program of this session's, out of the kit's print program and the translation
import Derived.Test.YtnkpbbkfhmlcfaaF0
namespace Go.Proofs.Ytnkpbbkfhmlcfaa.Q
open Go.RowKit Go.Proofs.YtnkpbbkfhmlcfaaW.PrintWords Go.Proofs.YtnkpbbkfhmlcfaaW.PrintLast Go.Proofs.YtnkpbbkfhmlcfaaW.PrintMore
attribute [local go_sem] max2_int min2_int max_two min_two max_three min_three max_four min_four   -- for this text's walks alone
set_option linter.unusedVariables false
set_option linter.unusedSimpArgs false

/-! ### spec_l13Due: function 61 -/
def spec_l13Due.f (l0 : List (S42)) (a1 : Int) (a2 : Int) : Option (Int) := if 0 ≤ a1 then (if a1 < (l0.length : Int) then (if ((rd_T42 l0 a1).f2) = 0 then (none) else (some (wrap64 ((wrap64 ((wrap64 (Int.tdiv a2 ((rd_T42 l0 a1).f2))) * ((rd_T42 l0 a1).f2))) + ((rd_T42 l0 a1).f1))))) else (none)) else (none)
set_option maxHeartbeats 8000000 in
set_option maxRecDepth 100000 in
theorem spec_l13Due.calls (A0 : Option Addr) (c0 : Nat) (l0 : List (S42)) (a1 : Int) (a2 : Int) (r : Int) (w : World) (hr0 : Kd.C k42 w A0 l0.length l0) (hc0 : l0.length ≤ c0) (h : spec_l13Due.f l0 a1 a2 = some r) :
    Calls Try.prog 61 #[.slice A0 l0.length c0, .int .i64 a1, .int .i64 a2] w fun e w' => e = .returned (.int .i64 r) ∧ Drawn0 w w' := by
  have HR0 := Aside0.mk hr0
  have HC0 := Aside0.mk hc0
  clear hr0 hc0
  have H : (if 0 ≤ a1 then (if a1 < (l0.length : Int) then (if ((rd_T42 l0 a1).f2) = 0 then (none) else (some (wrap64 ((wrap64 ((wrap64 (Int.tdiv a2 ((rd_T42 l0 a1).f2))) * ((rd_T42 l0 a1).f2))) + ((rd_T42 l0 a1).f1))))) else (none)) else (none)) = some r := h
  clear h
  by_cases c4 : 0 ≤ a1
  · rw [if_pos c4] at H
    have c4b0 : decide (0 ≤ a1) = true := decide_eq_true c4
    clear c4
    by_cases c5 : a1 < (l0.length : Int)
    · rw [if_pos c5] at H
      have c5b0 : decide (a1 < (l0.length : Int)) = true := decide_eq_true c5
      clear c5
      by_cases c6 : ((rd_T42 l0 a1).f2) = 0
      · rw [if_pos c6] at H
        exact absurd H (by simp)
      · rw [if_neg c6] at H
        have c6b0 : (((rd_T42 l0 a1).f2) == 0) = false := beq_eq_false_iff_ne.mpr c6
        have c6b1 : (((rd_T42 l0 a1).f2) != 0) = true := bne_iff_ne.mpr c6
        obtain rfl := Option.some.inj H
        have p101 : 0 ≤ (a1 : Int) := of_decide_eq_true (by first | (with_reducible assumption) | assumption)
        have q101 : a1 < (l0.length : Int) := of_decide_eq_true (by first | (with_reducible assumption) | assumption)
        obtain ⟨ad101, e101, hx101_0, hx101_1, hx101_2⟩ := at_T42 HR0.out a1 p101 q101
        cases e101
        replace p101 := eq_true p101
        replace q101 := eq_true q101
        have p102 : 0 ≤ (a1 : Int) := of_decide_eq_true (by first | (with_reducible assumption) | assumption)
        have q102 : a1 < (l0.length : Int) := of_decide_eq_true (by first | (with_reducible assumption) | assumption)
        obtain ⟨ad102, e102, hx102_0, hx102_1, hx102_2⟩ := at_T42 HR0.out a1 p102 q102
        obtain rfl : ad101 = ad102 := (by injection e102)
        replace p102 := eq_true p102
        replace q102 := eq_true q102
        have p103 : 0 ≤ (a1 : Int) := of_decide_eq_true (by first | (with_reducible assumption) | assumption)
        have q103 : a1 < (l0.length : Int) := of_decide_eq_true (by first | (with_reducible assumption) | assumption)
        obtain ⟨ad103, e103, hx103_0, hx103_1, hx103_2⟩ := at_T42 HR0.out a1 p103 q103
        obtain rfl : ad101 = ad103 := (by injection e103)
        replace p103 := eq_true p103
        replace q103 := eq_true q103
        go_enter Try.func61, Try.ntmps61
        go_wp2
        repeat (go_quiet (fail); try go_wp2)
        go_ret
        exact ⟨by first | rfl | (simp; done) | (simp [*]; done), by repeat (first | exact Drawn0.refl _ | apply Drawn0.step)⟩
    · rw [if_neg c5] at H
      exact absurd H (by simp)
  · rw [if_neg c4] at H
    exact absurd H (by simp)

end Go.Proofs.Ytnkpbbkfhmlcfaa.Q
