-- written by mp.py, a program of this session's, out of the kit's print program and the translation
import Derived.Test.YtncombcckeeecaaF0
namespace Go.Proofs.Ytncombcckeeecaa.Q
open Go.RowKit Go.Proofs.YtncombcckeeecaaW.PrintWords Go.Proofs.YtncombcckeeecaaW.PrintLast Go.Proofs.YtncombcckeeecaaW.PrintMore
attribute [local go_sem] max2_int min2_int max_two min_two max_three min_three max_four min_four   -- for this text's walks alone
set_option linter.unusedVariables false
set_option linter.unusedSimpArgs false

/-! ### spec_l3Best: function 97 -/
def spec_l3Best.l0 : Nat → List (S44) → List Int → List Int → Int → Int → Int → Option (Int)
  | 0, _, _, _, _, _, _ => none
  | k + 1, x0, x1, x2, x3, x9, x10 => if x10 < (x0.length : Int) then (if 0 ≤ x10 then (if ((rd_T44 x0 x10).f1) ≤ x3 then (if x10 < (x1.length : Int) then (if (rd x1 x10) > 0 then (if x9 < 0 then (spec_l3Best.l0 k x0 x1 x2 x3 x10 (wrap64 (x10 + 1))) else (if x10 < (x2.length : Int) then (if 0 ≤ x9 then (if x9 < (x2.length : Int) then (if (rd x2 x10) < (rd x2 x9) then (spec_l3Best.l0 k x0 x1 x2 x3 x10 (wrap64 (x10 + 1))) else (spec_l3Best.l0 k x0 x1 x2 x3 x9 (wrap64 (x10 + 1)))) else (none)) else (none)) else (none))) else (spec_l3Best.l0 k x0 x1 x2 x3 x9 (wrap64 (x10 + 1)))) else (none)) else (spec_l3Best.l0 k x0 x1 x2 x3 x9 (wrap64 (x10 + 1)))) else (none)) else (some x9)
def spec_l3Best.f (k : Nat) (l0 : List (S44)) (l1 : List Int) (l2 : List Int) (a3 : Int) : Option (Int) := spec_l3Best.l0 k l0 l1 l2 a3 (-1) 0
theorem spec_l3Best.mono_l : ∀ k, (∀ y0 y1 y2 y3 y4 y5, LeO (spec_l3Best.l0 k y0 y1 y2 y3 y4 y5) (spec_l3Best.l0 (k + 1) y0 y1 y2 y3 y4 y5))
  | 0 => fun _ _ _ _ _ _ r h => by simp [spec_l3Best.l0] at h
  | k + 1 => by
    have ih0 := spec_l3Best.mono_l k
    · intro y0 y1 y2 y3 y4 y5
      unfold spec_l3Best.l0
      repeat' first
      | (with_reducible exact ih0 _ _ _ _ _ _)
      | (with_reducible exact LeO.refl _)
      | (with_reducible exact LeO.none _)
      | (with_reducible refine LeO.ite ?_ ?_)
      | (with_reducible refine LeO.bind ?_ (fun _ => ?_))
      | exact ih0 _ _ _ _ _ _
      | exact LeO.none _
      | refine LeO.ite ?_ ?_
      | refine LeO.bind ?_ (fun _ => ?_)
theorem spec_l3Best.mono : ∀ a0 a1 a2 a3 k, LeO (spec_l3Best.f k a0 a1 a2 a3) (spec_l3Best.f (k + 1) a0 a1 a2 a3) := by
  intro a0 a1 a2 a3 k
  have ih0 := spec_l3Best.mono_l k
  unfold spec_l3Best.f
  repeat' first
      | (with_reducible exact ih0 _ _ _ _ _ _)
      | (with_reducible exact LeO.refl _)
      | (with_reducible exact LeO.none _)
      | (with_reducible refine LeO.ite ?_ ?_)
      | (with_reducible refine LeO.bind ?_ (fun _ => ?_))
      | exact ih0 _ _ _ _ _ _
      | exact LeO.none _
      | refine LeO.ite ?_ ?_
      | refine LeO.bind ?_ (fun _ => ?_)
set_option maxHeartbeats 8000000 in
set_option maxRecDepth 100000 in
theorem spec_l3Best.calls (k : Nat) (A0 : Option Addr) (c0 : Nat) (l0 : List (S44)) (A1 : Option Addr) (c1 : Nat) (l1 : List Int) (A2 : Option Addr) (c2 : Nat) (l2 : List Int) (a3 : Int) (r : Int) (w : World) (hr0 : Kd.C k44 w A0 l0.length l0) (hc0 : l0.length ≤ c0) (hr1 : Kd.C (Kd.int .i64) w A1 l1.length l1) (hc1 : l1.length ≤ c1) (hr2 : Kd.C (Kd.int .i64) w A2 l2.length l2) (hc2 : l2.length ≤ c2) (h : spec_l3Best.f k l0 l1 l2 a3 = some r) :
    Calls Try.prog 97 #[.slice A0 l0.length c0, .slice A1 l1.length c1, .slice A2 l2.length c2, .int .i64 a3] w fun e w' => e = .returned (.int .i64 r) ∧ Drawn0 w w' := by
  (have HR0 := Aside0.mk hr0); (have HC0 := Aside0.mk hc0); clear hr0 hc0; (have HR1 := Aside0.mk hr1); (have HC1 := Aside0.mk hc1); clear hr1 hc1; (have HR2 := Aside0.mk hr2); (have HC2 := Aside0.mk hc2); clear hr2 hc2; (have H : (spec_l3Best.l0 k l0 l1 l2 a3 (-1) 0) = some r := h); clear h; (have H' := Aside0.mk H); clear H; (go_enter Try.func97, Try.ntmps97); (go_wp2); (repeat (go_quiet (fail); try go_wp2)); (go_loopg [9, 10] k (fun kq v9 v10 w' => ∃ (x9_1 : Int) (x10_1 : Int), v9 = .int .i64 x9_1 ∧ v10 = .int .i64 x10_1 ∧ Aside0 (spec_l3Best.l0 kq l0 l1 l2 a3 x9_1 x10_1 = some r) ∧ Aside0 (kq ≤ k) ∧ Drawn0 w w'))
  case atStart => exact ⟨((-1)), (0), (by first | rfl | (simp; done) | (simp [*]; done)), (by first | rfl | (simp; done) | (simp [*]; done)), H', ⟨Nat.le_refl _⟩, by repeat (first | exact Drawn0.refl _ | apply Drawn0.step)⟩
  case round =>
    clear H'; (try clear c1); (try clear c2); (try clear p2); (obtain ⟨x9_1, x10_1, rfl, rfl, HA, HK1, ⟨m1, rfl⟩⟩ := hrel)
    cases gk with
    | zero => exact absurd HA.out (by simp [spec_l3Best.l0])
    | succ k1 =>
      (have H := HA.out); clear HA; (simp only [spec_l3Best.l0] at H); (by_cases c5 : x10_1 < (l0.length : Int))
      · (rw [if_pos c5] at H); (have c5b0 : decide (x10_1 < (l0.length : Int)) = true := decide_eq_true c5); clear c5; (by_cases c6 : 0 ≤ x10_1)
        · (rw [if_pos c6] at H); (have c6b0 : decide (0 ≤ x10_1) = true := decide_eq_true c6); clear c6; (by_cases c7 : ((rd_T44 l0 x10_1).f1) ≤ a3)
          · (rw [if_pos c7] at H); (have c7b0 : decide (((rd_T44 l0 x10_1).f1) ≤ a3) = true := decide_eq_true c7); clear c7; (by_cases c8 : x10_1 < (l1.length : Int))
            · (rw [if_pos c8] at H); (have c8b0 : decide (x10_1 < (l1.length : Int)) = true := decide_eq_true c8); clear c8; (by_cases c9 : (rd l1 x10_1) > 0)
              · (rw [if_pos c9] at H); (have c9b0 : decide (0 < (rd l1 x10_1)) = true := decide_eq_true c9); clear c9; (by_cases c10 : x9_1 < 0)
                · (rw [if_pos c10] at H); (have c10b0 : decide (x9_1 < 0) = true := decide_eq_true c10); clear c10; (have H' := Aside0.mk H); clear H; (have p101 : 0 ≤ (x10_1 : Int) := of_decide_eq_true (by first | (with_reducible assumption) | assumption)); (have q101 : x10_1 < (l0.length : Int) := of_decide_eq_true (by first | (with_reducible assumption) | assumption)); (obtain ⟨ad101, e101, hx101_0, hx101_1, hx101_2, hx101_3⟩ := at_T44 HR0.out x10_1 p101 q101); (cases e101); (replace p101 := eq_true p101); (replace q101 := eq_true q101); (have p102 : 0 ≤ (x10_1 : Int) := of_decide_eq_true (by first | (with_reducible assumption) | assumption)); (have q102 : x10_1 < (l1.length : Int) := of_decide_eq_true (by first | (with_reducible assumption) | assumption)); (obtain ⟨ad102, e102, hx102_0⟩ := Kd.at_int HR1.out x10_1 p102 q102); (cases e102); (replace p102 := eq_true p102); (replace q102 := eq_true q102); (go_wp2); (repeat (go_quiet (fail); try go_wp2)); (go_roundg k1)
                  case measure => have := HK1.out; omega
                  case rel => exact ⟨(x10_1), (wrap64 (x10_1 + 1)), (by first | rfl | (simp; done) | (simp [*]; done)), (by first | rfl | (simp; done) | (simp [*]; done)), H', ⟨by have := HK1.out; omega⟩, by repeat (first | exact Drawn0.refl _ | apply Drawn0.step)⟩
                · (rw [if_neg c10] at H); (have c10b0 : decide (x9_1 < 0) = false := decide_eq_false c10); clear c10; (by_cases c11 : x10_1 < (l2.length : Int))
                  · (rw [if_pos c11] at H); (have c11b0 : decide (x10_1 < (l2.length : Int)) = true := decide_eq_true c11); clear c11; (by_cases c12 : 0 ≤ x9_1)
                    · (rw [if_pos c12] at H); (have c12b0 : decide (0 ≤ x9_1) = true := decide_eq_true c12); clear c12; (by_cases c13 : x9_1 < (l2.length : Int))
                      · (rw [if_pos c13] at H); (have c13b0 : decide (x9_1 < (l2.length : Int)) = true := decide_eq_true c13); clear c13; (by_cases c14 : (rd l2 x10_1) < (rd l2 x9_1))
                        · (rw [if_pos c14] at H); (have c14b0 : decide ((rd l2 x10_1) < (rd l2 x9_1)) = true := decide_eq_true c14); clear c14; (have H' := Aside0.mk H); clear H; (have p101 : 0 ≤ (x10_1 : Int) := of_decide_eq_true (by first | (with_reducible assumption) | assumption)); (have q101 : x10_1 < (l0.length : Int) := of_decide_eq_true (by first | (with_reducible assumption) | assumption)); (obtain ⟨ad101, e101, hx101_0, hx101_1, hx101_2, hx101_3⟩ := at_T44 HR0.out x10_1 p101 q101); (cases e101); (replace p101 := eq_true p101); (replace q101 := eq_true q101); (have p102 : 0 ≤ (x10_1 : Int) := of_decide_eq_true (by first | (with_reducible assumption) | assumption)); (have q102 : x10_1 < (l1.length : Int) := of_decide_eq_true (by first | (with_reducible assumption) | assumption)); (obtain ⟨ad102, e102, hx102_0⟩ := Kd.at_int HR1.out x10_1 p102 q102); (cases e102); (replace p102 := eq_true p102); (replace q102 := eq_true q102); (have p103 : 0 ≤ (x10_1 : Int) := of_decide_eq_true (by first | (with_reducible assumption) | assumption)); (have q103 : x10_1 < (l2.length : Int) := of_decide_eq_true (by first | (with_reducible assumption) | assumption)); (obtain ⟨ad103, e103, hx103_0⟩ := Kd.at_int HR2.out x10_1 p103 q103); (cases e103); (replace p103 := eq_true p103); (replace q103 := eq_true q103); (have p104 : 0 ≤ (x9_1 : Int) := of_decide_eq_true (by first | (with_reducible assumption) | assumption)); (have q104 : x9_1 < (l2.length : Int) := of_decide_eq_true (by first | (with_reducible assumption) | assumption)); (obtain ⟨ad104, e104, hx104_0⟩ := Kd.at_int HR2.out x9_1 p104 q104); (obtain rfl : ad103 = ad104 := (by injection e104)); (replace p104 := eq_true p104); (replace q104 := eq_true q104); (go_wp2); (repeat (go_quiet (fail); try go_wp2)); (go_roundg k1)
                          case measure => have := HK1.out; omega
                          case rel => exact ⟨(x10_1), (wrap64 (x10_1 + 1)), (by first | rfl | (simp; done) | (simp [*]; done)), (by first | rfl | (simp; done) | (simp [*]; done)), H', ⟨by have := HK1.out; omega⟩, by repeat (first | exact Drawn0.refl _ | apply Drawn0.step)⟩
                        · (rw [if_neg c14] at H); (have c14b0 : decide ((rd l2 x10_1) < (rd l2 x9_1)) = false := decide_eq_false c14); clear c14; (have H' := Aside0.mk H); clear H; (have p101 : 0 ≤ (x10_1 : Int) := of_decide_eq_true (by first | (with_reducible assumption) | assumption)); (have q101 : x10_1 < (l0.length : Int) := of_decide_eq_true (by first | (with_reducible assumption) | assumption)); (obtain ⟨ad101, e101, hx101_0, hx101_1, hx101_2, hx101_3⟩ := at_T44 HR0.out x10_1 p101 q101); (cases e101); (replace p101 := eq_true p101); (replace q101 := eq_true q101); (have p102 : 0 ≤ (x10_1 : Int) := of_decide_eq_true (by first | (with_reducible assumption) | assumption)); (have q102 : x10_1 < (l1.length : Int) := of_decide_eq_true (by first | (with_reducible assumption) | assumption)); (obtain ⟨ad102, e102, hx102_0⟩ := Kd.at_int HR1.out x10_1 p102 q102); (cases e102); (replace p102 := eq_true p102); (replace q102 := eq_true q102); (have p103 : 0 ≤ (x10_1 : Int) := of_decide_eq_true (by first | (with_reducible assumption) | assumption)); (have q103 : x10_1 < (l2.length : Int) := of_decide_eq_true (by first | (with_reducible assumption) | assumption)); (obtain ⟨ad103, e103, hx103_0⟩ := Kd.at_int HR2.out x10_1 p103 q103); (cases e103); (replace p103 := eq_true p103); (replace q103 := eq_true q103); (have p104 : 0 ≤ (x9_1 : Int) := of_decide_eq_true (by first | (with_reducible assumption) | assumption)); (have q104 : x9_1 < (l2.length : Int) := of_decide_eq_true (by first | (with_reducible assumption) | assumption)); (obtain ⟨ad104, e104, hx104_0⟩ := Kd.at_int HR2.out x9_1 p104 q104); (obtain rfl : ad103 = ad104 := (by injection e104)); (replace p104 := eq_true p104); (replace q104 := eq_true q104); (go_wp2); (repeat (go_quiet (fail); try go_wp2)); (go_roundg k1)
                          case measure => have := HK1.out; omega
                          case rel => exact ⟨(x9_1), (wrap64 (x10_1 + 1)), (by first | rfl | (simp; done) | (simp [*]; done)), (by first | rfl | (simp; done) | (simp [*]; done)), H', ⟨by have := HK1.out; omega⟩, by repeat (first | exact Drawn0.refl _ | apply Drawn0.step)⟩
                      · (rw [if_neg c13] at H); (exact absurd H (by simp))
                    · (rw [if_neg c12] at H); (exact absurd H (by simp))
                  · (rw [if_neg c11] at H); (exact absurd H (by simp))
              · (rw [if_neg c9] at H); (have c9b0 : decide (0 < (rd l1 x10_1)) = false := decide_eq_false c9); clear c9; (have H' := Aside0.mk H); clear H; (have p101 : 0 ≤ (x10_1 : Int) := of_decide_eq_true (by first | (with_reducible assumption) | assumption)); (have q101 : x10_1 < (l0.length : Int) := of_decide_eq_true (by first | (with_reducible assumption) | assumption)); (obtain ⟨ad101, e101, hx101_0, hx101_1, hx101_2, hx101_3⟩ := at_T44 HR0.out x10_1 p101 q101); (cases e101); (replace p101 := eq_true p101); (replace q101 := eq_true q101); (have p102 : 0 ≤ (x10_1 : Int) := of_decide_eq_true (by first | (with_reducible assumption) | assumption)); (have q102 : x10_1 < (l1.length : Int) := of_decide_eq_true (by first | (with_reducible assumption) | assumption)); (obtain ⟨ad102, e102, hx102_0⟩ := Kd.at_int HR1.out x10_1 p102 q102); (cases e102); (replace p102 := eq_true p102); (replace q102 := eq_true q102); (go_wp2); (repeat (go_quiet (fail); try go_wp2)); (go_roundg k1)
                case measure => have := HK1.out; omega
                case rel => exact ⟨(x9_1), (wrap64 (x10_1 + 1)), (by first | rfl | (simp; done) | (simp [*]; done)), (by first | rfl | (simp; done) | (simp [*]; done)), H', ⟨by have := HK1.out; omega⟩, by repeat (first | exact Drawn0.refl _ | apply Drawn0.step)⟩
            · (rw [if_neg c8] at H); (exact absurd H (by simp))
          · (rw [if_neg c7] at H); (have c7b0 : decide (((rd_T44 l0 x10_1).f1) ≤ a3) = false := decide_eq_false c7); clear c7; (have H' := Aside0.mk H); clear H; (have p101 : 0 ≤ (x10_1 : Int) := of_decide_eq_true (by first | (with_reducible assumption) | assumption)); (have q101 : x10_1 < (l0.length : Int) := of_decide_eq_true (by first | (with_reducible assumption) | assumption)); (obtain ⟨ad101, e101, hx101_0, hx101_1, hx101_2, hx101_3⟩ := at_T44 HR0.out x10_1 p101 q101); (cases e101); (replace p101 := eq_true p101); (replace q101 := eq_true q101); (go_wp2); (repeat (go_quiet (fail); try go_wp2)); (go_roundg k1)
            case measure => have := HK1.out; omega
            case rel => exact ⟨(x9_1), (wrap64 (x10_1 + 1)), (by first | rfl | (simp; done) | (simp [*]; done)), (by first | rfl | (simp; done) | (simp [*]; done)), H', ⟨by have := HK1.out; omega⟩, by repeat (first | exact Drawn0.refl _ | apply Drawn0.step)⟩
        · (rw [if_neg c6] at H); (exact absurd H (by simp))
      · (rw [if_neg c5] at H); (have c5b0 : decide (x10_1 < (l0.length : Int)) = false := decide_eq_false c5); clear c5; (obtain rfl := Option.some.inj H); (go_wp2); (repeat (go_quiet (fail); try go_wp2)); (go_ret); (exact ⟨by first | rfl | (simp; done) | (simp [*]; done), by repeat (first | exact Drawn0.refl _ | apply Drawn0.step)⟩)

end Go.Proofs.Ytncombcckeeecaa.Q
