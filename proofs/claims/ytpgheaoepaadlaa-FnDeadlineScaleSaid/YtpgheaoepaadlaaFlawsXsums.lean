-- written by mp.py, a program of this session's, out of the kit's print program and the translation
import Derived.Test.YtpgheaoepaadlaaF0
namespace Go.Proofs.Ytpgheaoepaadlaa.Q
open Go.RowKit Go.Proofs.YtpgheaoepaadlaaW.PrintWords Go.Proofs.YtpgheaoepaadlaaW.PrintLast Go.Proofs.YtpgheaoepaadlaaW.PrintMore
attribute [local go_sem] max2_int min2_int max_two min_two max_three min_three max_four min_four   -- for this text's walks alone
set_option linter.unusedVariables false
set_option linter.unusedSimpArgs false

/-! ### laws_sums: function 25 -/
def laws_sums.l0 : Nat → List (S39) → Int → Int → Int → Int → Int → Option (Int × Int × Int × Int)
  | 0, _, _, _, _, _, _ => none
  | k + 1, x0, x6, x7, x8, x9, x10 => if x10 < (x0.length : Int) then (if 0 ≤ x10 then (if ((rd_T39 x0 x10).f2) = 0 then (none) else (if (rd_T39 x0 x10).f3 = true then (laws_sums.l0 k x0 x6 x7 (wrap64 (x8 + (wrap64 (((rd_T39 x0 x10).f0) * (wrap64 (Int.tdiv x6 ((rd_T39 x0 x10).f2))))))) (wrap64 (x9 + (wrap64 (((rd_T39 x0 x10).f1) * (wrap64 (Int.tdiv x6 ((rd_T39 x0 x10).f2))))))) (wrap64 (x10 + 1))) else (laws_sums.l0 k x0 x6 (wrap64 (x7 + (wrap64 (((rd_T39 x0 x10).f0) * (wrap64 (Int.tdiv x6 ((rd_T39 x0 x10).f2))))))) x8 x9 (wrap64 (x10 + 1))))) else (none)) else (some (x7, x8, x9, x6))
def laws_sums.f (k : Nat) (l0 : List (S39)) : Option (Int × Int × Int × Int) := laws_sums.l0 k l0 27720 0 0 0 0
theorem laws_sums.mono_l : ∀ k, (∀ y0 y1 y2 y3 y4 y5, LeO (laws_sums.l0 k y0 y1 y2 y3 y4 y5) (laws_sums.l0 (k + 1) y0 y1 y2 y3 y4 y5))
  | 0 => fun _ _ _ _ _ _ r h => by simp [laws_sums.l0] at h
  | k + 1 => by
    have ih0 := laws_sums.mono_l k
    · intro y0 y1 y2 y3 y4 y5
      unfold laws_sums.l0
      repeat' first
      | (with_reducible exact ih0 _ _ _ _ _ _)
      | (with_reducible exact LeO.refl _)
      | (with_reducible exact LeO.none _)
      | (with_reducible refine LeO.ite ?_ ?_)
      | (with_reducible refine LeO.bind ?_ (fun _ => ?_))
      | exact ih0 _ _ _ _ _ _
      | exact LeO.none _
      | refine LeO.ite ?_ ?_
      | refine LeO.bind ?_ (fun _ => ?_)
theorem laws_sums.mono : ∀ a0 k, LeO (laws_sums.f k a0) (laws_sums.f (k + 1) a0) := by
  intro a0 k
  have ih0 := laws_sums.mono_l k
  unfold laws_sums.f
  repeat' first
      | (with_reducible exact ih0 _ _ _ _ _ _)
      | (with_reducible exact LeO.refl _)
      | (with_reducible exact LeO.none _)
      | (with_reducible refine LeO.ite ?_ ?_)
      | (with_reducible refine LeO.bind ?_ (fun _ => ?_))
      | exact ih0 _ _ _ _ _ _
      | exact LeO.none _
      | refine LeO.ite ?_ ?_
      | refine LeO.bind ?_ (fun _ => ?_)
set_option maxHeartbeats 8000000 in
set_option maxRecDepth 100000 in
theorem laws_sums.calls (k : Nat) (A0 : Option Addr) (c0 : Nat) (l0 : List (S39)) (r1 : Int) (r2 : Int) (r3 : Int) (r4 : Int) (w : World) (hr0 : Kd.C k39 w A0 l0.length l0) (hc0 : l0.length ≤ c0) (h : laws_sums.f k l0 = some (r1, r2, r3, r4)) :
    Calls Try.prog 25 #[.slice A0 l0.length c0] w fun e w' => e = .returned (.tuple #[.int .i64 r1, .int .i64 r2, .int .i64 r3, .int .i64 r4]) ∧ Drawn0 w w' := by
  have HR0 := Aside0.mk hr0
  have HC0 := Aside0.mk hc0
  clear hr0 hc0
  have H : (laws_sums.l0 k l0 27720 0 0 0 0) = some (r1, r2, r3, r4) := h
  clear h
  have H' := Aside0.mk H
  clear H
  go_enter Try.func25, Try.ntmps25
  go_wp2
  go_loopg [7, 8, 9, 10] k (fun kq v7 v8 v9 v10 w' => ∃ (x7_1 : Int) (x8_1 : Int) (x9_1 : Int) (x10_1 : Int), v7 = .int .i64 x7_1 ∧ v8 = .int .i64 x8_1 ∧ v9 = .int .i64 x9_1 ∧ v10 = .int .i64 x10_1 ∧ Aside0 (laws_sums.l0 kq l0 27720 x7_1 x8_1 x9_1 x10_1 = some (r1, r2, r3, r4)) ∧ Aside0 (kq ≤ k) ∧ Drawn0 w w')
  case atStart => exact ⟨(0), (0), (0), (0), (by first | rfl | (simp; done) | (simp [*]; done)), (by first | rfl | (simp; done) | (simp [*]; done)), (by first | rfl | (simp; done) | (simp [*]; done)), (by first | rfl | (simp; done) | (simp [*]; done)), H', ⟨Nat.le_refl _⟩, by repeat (first | exact Drawn0.refl _ | apply Drawn0.step)⟩
  case round =>
    clear H'
    obtain ⟨x7_1, x8_1, x9_1, x10_1, rfl, rfl, rfl, rfl, HA, HK1, ⟨m1, rfl⟩⟩ := hrel
    cases gk with
    | zero => exact absurd HA.out (by simp [laws_sums.l0])
    | succ k1 =>
      have H := HA.out
      clear HA
      simp only [laws_sums.l0] at H
      by_cases c2 : x10_1 < (l0.length : Int)
      · rw [if_pos c2] at H
        have c2b0 : decide (x10_1 < (l0.length : Int)) = true := decide_eq_true c2
        clear c2
        by_cases c3 : 0 ≤ x10_1
        · rw [if_pos c3] at H
          have c3b0 : decide (0 ≤ x10_1) = true := decide_eq_true c3
          clear c3
          by_cases c4 : ((rd_T39 l0 x10_1).f2) = 0
          · rw [if_pos c4] at H
            exact absurd H (by simp)
          · rw [if_neg c4] at H
            have c4b0 : (((rd_T39 l0 x10_1).f2) == 0) = false := beq_eq_false_iff_ne.mpr c4
            have c4b1 : (((rd_T39 l0 x10_1).f2) != 0) = true := bne_iff_ne.mpr c4
            obtain ⟨bq5, hbq5⟩ : ∃ b_ : Bool, b_ = ((rd_T39 l0 x10_1).f3) := ⟨_, rfl⟩
            replace H : (if bq5 = true then (laws_sums.l0 k1 l0 27720 x7_1 (wrap64 (x8_1 + (wrap64 (((rd_T39 l0 x10_1).f0) * (wrap64 (Int.tdiv 27720 ((rd_T39 l0 x10_1).f2))))))) (wrap64 (x9_1 + (wrap64 (((rd_T39 l0 x10_1).f1) * (wrap64 (Int.tdiv 27720 ((rd_T39 l0 x10_1).f2))))))) (wrap64 (x10_1 + 1))) else (laws_sums.l0 k1 l0 27720 (wrap64 (x7_1 + (wrap64 (((rd_T39 l0 x10_1).f0) * (wrap64 (Int.tdiv 27720 ((rd_T39 l0 x10_1).f2))))))) x8_1 x9_1 (wrap64 (x10_1 + 1)))) = some (r1, r2, r3, r4) := by rw [← hbq5] at H; exact H
            have Nbq5 := Aside0.mk hbq5
            clear hbq5
            by_cases c6 : bq5 = true
            · subst c6
              have H1 : (laws_sums.l0 k1 l0 27720 x7_1 (wrap64 (x8_1 + (wrap64 (((rd_T39 l0 x10_1).f0) * (wrap64 (Int.tdiv 27720 ((rd_T39 l0 x10_1).f2))))))) (wrap64 (x9_1 + (wrap64 (((rd_T39 l0 x10_1).f1) * (wrap64 (Int.tdiv 27720 ((rd_T39 l0 x10_1).f2))))))) (wrap64 (x10_1 + 1))) = some (r1, r2, r3, r4) := by rw [if_pos rfl] at H; exact H
              clear H
              have H := H1
              clear H1
              have H' := Aside0.mk H
              clear H
              have p101 : 0 ≤ (x10_1 : Int) := of_decide_eq_true (by first | (with_reducible assumption) | assumption)
              have q101 : x10_1 < (l0.length : Int) := of_decide_eq_true (by first | (with_reducible assumption) | assumption)
              obtain ⟨ad101, e101, hx101_0, hx101_1, hx101_2, hx101_3⟩ := at_T39 HR0.out x10_1 p101 q101
              (try rw [← Nbq5.out] at hx101_3)
              cases e101
              replace p101 := eq_true p101
              replace q101 := eq_true q101
              have p102 : 0 ≤ (x10_1 : Int) := of_decide_eq_true (by first | (with_reducible assumption) | assumption)
              have q102 : x10_1 < (l0.length : Int) := of_decide_eq_true (by first | (with_reducible assumption) | assumption)
              obtain ⟨ad102, e102, hx102_0, hx102_1, hx102_2, hx102_3⟩ := at_T39 HR0.out x10_1 p102 q102
              (try rw [← Nbq5.out] at hx102_3)
              obtain rfl : ad101 = ad102 := (by injection e102)
              replace p102 := eq_true p102
              replace q102 := eq_true q102
              have p103 : 0 ≤ (x10_1 : Int) := of_decide_eq_true (by first | (with_reducible assumption) | assumption)
              have q103 : x10_1 < (l0.length : Int) := of_decide_eq_true (by first | (with_reducible assumption) | assumption)
              obtain ⟨ad103, e103, hx103_0, hx103_1, hx103_2, hx103_3⟩ := at_T39 HR0.out x10_1 p103 q103
              (try rw [← Nbq5.out] at hx103_3)
              obtain rfl : ad101 = ad103 := (by injection e103)
              replace p103 := eq_true p103
              replace q103 := eq_true q103
              have p104 : 0 ≤ (x10_1 : Int) := of_decide_eq_true (by first | (with_reducible assumption) | assumption)
              have q104 : x10_1 < (l0.length : Int) := of_decide_eq_true (by first | (with_reducible assumption) | assumption)
              obtain ⟨ad104, e104, hx104_0, hx104_1, hx104_2, hx104_3⟩ := at_T39 HR0.out x10_1 p104 q104
              (try rw [← Nbq5.out] at hx104_3)
              obtain rfl : ad101 = ad104 := (by injection e104)
              replace p104 := eq_true p104
              replace q104 := eq_true q104
              go_wp2
              go_roundg k1
              case measure => have := HK1.out; omega
              case rel => exact ⟨(x7_1), (wrap64 (x8_1 + (wrap64 (((rd_T39 l0 x10_1).f0) * (wrap64 (Int.tdiv 27720 ((rd_T39 l0 x10_1).f2))))))), (wrap64 (x9_1 + (wrap64 (((rd_T39 l0 x10_1).f1) * (wrap64 (Int.tdiv 27720 ((rd_T39 l0 x10_1).f2))))))), (wrap64 (x10_1 + 1)), (by first | rfl | (simp; done) | (simp [*]; done)), (by first | rfl | (simp; done) | (simp [*]; done)), (by first | rfl | (simp; done) | (simp [*]; done)), (by first | rfl | (simp; done) | (simp [*]; done)), H', ⟨by have := HK1.out; omega⟩, by repeat (first | exact Drawn0.refl _ | apply Drawn0.step)⟩
            · replace c6 := Bool.eq_false_iff.mpr c6
              subst c6
              have H1 : (laws_sums.l0 k1 l0 27720 (wrap64 (x7_1 + (wrap64 (((rd_T39 l0 x10_1).f0) * (wrap64 (Int.tdiv 27720 ((rd_T39 l0 x10_1).f2))))))) x8_1 x9_1 (wrap64 (x10_1 + 1))) = some (r1, r2, r3, r4) := by rw [if_neg (show ¬ (false = true) by decide)] at H; exact H
              clear H
              have H := H1
              clear H1
              have H' := Aside0.mk H
              clear H
              have p101 : 0 ≤ (x10_1 : Int) := of_decide_eq_true (by first | (with_reducible assumption) | assumption)
              have q101 : x10_1 < (l0.length : Int) := of_decide_eq_true (by first | (with_reducible assumption) | assumption)
              obtain ⟨ad101, e101, hx101_0, hx101_1, hx101_2, hx101_3⟩ := at_T39 HR0.out x10_1 p101 q101
              (try rw [← Nbq5.out] at hx101_3)
              cases e101
              replace p101 := eq_true p101
              replace q101 := eq_true q101
              have p102 : 0 ≤ (x10_1 : Int) := of_decide_eq_true (by first | (with_reducible assumption) | assumption)
              have q102 : x10_1 < (l0.length : Int) := of_decide_eq_true (by first | (with_reducible assumption) | assumption)
              obtain ⟨ad102, e102, hx102_0, hx102_1, hx102_2, hx102_3⟩ := at_T39 HR0.out x10_1 p102 q102
              (try rw [← Nbq5.out] at hx102_3)
              obtain rfl : ad101 = ad102 := (by injection e102)
              replace p102 := eq_true p102
              replace q102 := eq_true q102
              have p105 : 0 ≤ (x10_1 : Int) := of_decide_eq_true (by first | (with_reducible assumption) | assumption)
              have q105 : x10_1 < (l0.length : Int) := of_decide_eq_true (by first | (with_reducible assumption) | assumption)
              obtain ⟨ad105, e105, hx105_0, hx105_1, hx105_2, hx105_3⟩ := at_T39 HR0.out x10_1 p105 q105
              (try rw [← Nbq5.out] at hx105_3)
              obtain rfl : ad101 = ad105 := (by injection e105)
              replace p105 := eq_true p105
              replace q105 := eq_true q105
              go_wp2
              go_roundg k1
              case measure => have := HK1.out; omega
              case rel => exact ⟨(wrap64 (x7_1 + (wrap64 (((rd_T39 l0 x10_1).f0) * (wrap64 (Int.tdiv 27720 ((rd_T39 l0 x10_1).f2))))))), (x8_1), (x9_1), (wrap64 (x10_1 + 1)), (by first | rfl | (simp; done) | (simp [*]; done)), (by first | rfl | (simp; done) | (simp [*]; done)), (by first | rfl | (simp; done) | (simp [*]; done)), (by first | rfl | (simp; done) | (simp [*]; done)), H', ⟨by have := HK1.out; omega⟩, by repeat (first | exact Drawn0.refl _ | apply Drawn0.step)⟩
        · rw [if_neg c3] at H
          exact absurd H (by simp)
      · rw [if_neg c2] at H
        have c2b0 : decide (x10_1 < (l0.length : Int)) = false := decide_eq_false c2
        clear c2
        simp only [Option.some.injEq, Prod.mk.injEq] at H
        obtain ⟨rfl, rfl, rfl, rfl⟩ := H
        go_wp2
        refine bodyPost_ret (results_list (rs := [.tmp 2, .tmp 3, .tmp 4, .tmp 5]) rfl (by simp) (.tmp (.tmp (.tmp (.tmp .nil))))) rfl ?_
        exact ⟨by first | rfl | (simp; done) | (simp [*]; done), by repeat (first | exact Drawn0.refl _ | apply Drawn0.step)⟩

end Go.Proofs.Ytpgheaoepaadlaa.Q
