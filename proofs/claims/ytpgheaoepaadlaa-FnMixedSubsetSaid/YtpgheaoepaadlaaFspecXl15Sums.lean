-- written by mp.py, a program of this session's, out of the kit's print program and the translation
import Derived.Test.YtpgheaoepaadlaaF0
import Derived.Test.YtpgheaoepaadlaaFA
namespace Go.Proofs.Ytpgheaoepaadlaa.Q
open Go.RowKit Go.Proofs.YtpgheaoepaadlaaW.PrintWords Go.Proofs.YtpgheaoepaadlaaW.PrintLast Go.Proofs.YtpgheaoepaadlaaW.PrintMore
attribute [local go_sem] max2_int min2_int max_two min_two max_three min_three max_four min_four   -- for this text's walks alone
set_option linter.unusedVariables false
set_option linter.unusedSimpArgs false

/-! ### spec_l15Sums: function 45 -/
mutual
def spec_l15Sums.l0 : Nat → List (S39) → Int → Int → Option (Int × Int × Int × Int)
  | 0, _, _, _ => none
  | k + 1, x0, x6, x7 => if x7 < (x0.length : Int) then (if 0 ≤ x7 then ((spec_l1Gcd.f k x6 ((rd_T39 x0 x7).f2)).bind fun t102 => (if t102 = 0 then (none) else (spec_l15Sums.l0 k x0 (wrap64 ((wrap64 (Int.tdiv x6 t102)) * ((rd_T39 x0 x7).f2))) (wrap64 (x7 + 1))))) else (none)) else (spec_l15Sums.l1 k x0 x6 0 0 0 0)
def spec_l15Sums.l1 : Nat → List (S39) → Int → Int → Int → Int → Int → Option (Int × Int × Int × Int)
  | 0, _, _, _, _, _, _ => none
  | k + 1, x0, x6, x8, x9, x10, x11 => if x11 < (x0.length : Int) then (if 0 ≤ x11 then (if ((rd_T39 x0 x11).f2) = 0 then (none) else (if (rd_T39 x0 x11).f3 = true then (spec_l15Sums.l1 k x0 x6 x8 (wrap64 (x9 + (wrap64 (((rd_T39 x0 x11).f0) * (wrap64 (Int.tdiv x6 ((rd_T39 x0 x11).f2))))))) (wrap64 (x10 + (wrap64 (((rd_T39 x0 x11).f1) * (wrap64 (Int.tdiv x6 ((rd_T39 x0 x11).f2))))))) (wrap64 (x11 + 1))) else (spec_l15Sums.l1 k x0 x6 (wrap64 (x8 + (wrap64 (((rd_T39 x0 x11).f0) * (wrap64 (Int.tdiv x6 ((rd_T39 x0 x11).f2))))))) x9 x10 (wrap64 (x11 + 1))))) else (none)) else (some (x8, x9, x10, x6))
end
def spec_l15Sums.f (k : Nat) (l0 : List (S39)) : Option (Int × Int × Int × Int) := spec_l15Sums.l0 k l0 1 0
theorem spec_l15Sums.mono_l : ∀ k, (∀ y0 y1 y2, LeO (spec_l15Sums.l0 k y0 y1 y2) (spec_l15Sums.l0 (k + 1) y0 y1 y2)) ∧ (∀ y0 y1 y2 y3 y4 y5, LeO (spec_l15Sums.l1 k y0 y1 y2 y3 y4 y5) (spec_l15Sums.l1 (k + 1) y0 y1 y2 y3 y4 y5))
  | 0 => ⟨fun _ _ _ r h => by simp [spec_l15Sums.l0] at h, fun _ _ _ _ _ _ r h => by simp [spec_l15Sums.l1] at h⟩
  | k + 1 => by
    obtain ⟨ih0, ih1⟩ := spec_l15Sums.mono_l k
    refine ⟨?_, ?_⟩
    · intro y0 y1 y2
      unfold spec_l15Sums.l0
      repeat' first
      | (with_reducible exact ih0 _ _ _)
      | (with_reducible exact ih1 _ _ _ _ _ _)
      | (with_reducible exact spec_l1Gcd.mono _ _ _)
      | (with_reducible exact LeO.refl _)
      | (with_reducible exact LeO.none _)
      | (with_reducible refine LeO.ite ?_ ?_)
      | (with_reducible refine LeO.bind ?_ (fun _ => ?_))
      | exact ih0 _ _ _
      | exact ih1 _ _ _ _ _ _
      | exact spec_l1Gcd.mono _ _ _
      | exact LeO.none _
      | refine LeO.ite ?_ ?_
      | refine LeO.bind ?_ (fun _ => ?_)
    · intro y0 y1 y2 y3 y4 y5
      unfold spec_l15Sums.l1
      repeat' first
      | (with_reducible exact ih0 _ _ _)
      | (with_reducible exact ih1 _ _ _ _ _ _)
      | (with_reducible exact spec_l1Gcd.mono _ _ _)
      | (with_reducible exact LeO.refl _)
      | (with_reducible exact LeO.none _)
      | (with_reducible refine LeO.ite ?_ ?_)
      | (with_reducible refine LeO.bind ?_ (fun _ => ?_))
      | exact ih0 _ _ _
      | exact ih1 _ _ _ _ _ _
      | exact spec_l1Gcd.mono _ _ _
      | exact LeO.none _
      | refine LeO.ite ?_ ?_
      | refine LeO.bind ?_ (fun _ => ?_)
theorem spec_l15Sums.mono : ∀ a0 k, LeO (spec_l15Sums.f k a0) (spec_l15Sums.f (k + 1) a0) := by
  intro a0 k
  obtain ⟨ih0, ih1⟩ := spec_l15Sums.mono_l k
  unfold spec_l15Sums.f
  repeat' first
      | (with_reducible exact ih0 _ _ _)
      | (with_reducible exact ih1 _ _ _ _ _ _)
      | (with_reducible exact spec_l1Gcd.mono _ _ _)
      | (with_reducible exact LeO.refl _)
      | (with_reducible exact LeO.none _)
      | (with_reducible refine LeO.ite ?_ ?_)
      | (with_reducible refine LeO.bind ?_ (fun _ => ?_))
      | exact ih0 _ _ _
      | exact ih1 _ _ _ _ _ _
      | exact spec_l1Gcd.mono _ _ _
      | exact LeO.none _
      | refine LeO.ite ?_ ?_
      | refine LeO.bind ?_ (fun _ => ?_)
set_option maxHeartbeats 8000000 in
set_option maxRecDepth 100000 in
theorem spec_l15Sums.calls (k : Nat) (A0 : Option Addr) (c0 : Nat) (l0 : List (S39)) (r1 : Int) (r2 : Int) (r3 : Int) (r4 : Int) (w : World) (hr0 : Kd.C k39 w A0 l0.length l0) (hc0 : l0.length ≤ c0) (h : spec_l15Sums.f k l0 = some (r1, r2, r3, r4)) :
    Calls Try.prog 45 #[.slice A0 l0.length c0] w fun e w' => e = .returned (.tuple #[.int .i64 r1, .int .i64 r2, .int .i64 r3, .int .i64 r4]) ∧ Drawn0 w w' := by
  (have HR0 := Aside0.mk hr0); (have HC0 := Aside0.mk hc0); clear hr0 hc0; (have H : (spec_l15Sums.l0 k l0 1 0) = some (r1, r2, r3, r4) := h); clear h; (have H' := Aside0.mk H); clear H; (go_enter Try.func45, Try.ntmps45); (go_wp2); (repeat (go_quiet (fail); try go_wp2)); (go_loopg [6, 7] k (fun kq v6 v7 w' => ∃ (x6_1 : Int) (x7_1 : Int), v6 = .int .i64 x6_1 ∧ v7 = .int .i64 x7_1 ∧ Aside0 (spec_l15Sums.l0 kq l0 x6_1 x7_1 = some (r1, r2, r3, r4)) ∧ Aside0 (kq ≤ k) ∧ Drawn0 w w'))
  case atStart => exact ⟨(1), (0), (by first | rfl | (simp; done) | (simp [*]; done) | (simp only [i64_w]; done)), (by first | rfl | (simp; done) | (simp [*]; done) | (simp only [i64_w]; done)), H', ⟨Nat.le_refl _⟩, by repeat (first | exact Drawn0.refl _ | apply Drawn0.step)⟩
  case round =>
    clear H'; (obtain ⟨x6_1, x7_1, rfl, rfl, HA, HK1, ⟨m1, rfl⟩⟩ := hrel)
    cases gk with
    | zero => exact absurd HA.out (by simp [spec_l15Sums.l0])
    | succ k1 =>
      (have H := HA.out); clear HA; (simp only [spec_l15Sums.l0] at H); (by_cases c2 : x7_1 < (l0.length : Int))
      · (rw [if_pos c2] at H); (have c2b0 : decide (x7_1 < (l0.length : Int)) = true := decide_eq_true c2); clear c2; (by_cases c3 : 0 ≤ x7_1)
        · ((rw [if_pos c3] at H); (have c3b0 : decide (0 ≤ x7_1) = true := decide_eq_true c3); clear c3; (replace H := Option.bind_eq_some_iff.mp H); (obtain ⟨t102, A40, H⟩ := H); (replace H : (if t102 = 0 then (none) else (spec_l15Sums.l0 k1 l0 (wrap64 ((wrap64 (Int.tdiv x6_1 t102)) * ((rd_T39 l0 x7_1).f2))) (wrap64 (x7_1 + 1)))) = some (r1, r2, r3, r4) := H); (have A4 := Aside0.mk A40); clear A40; (by_cases c5 : t102 = 0)); (· (rw [if_pos c5] at H); (exact absurd H (by simp)))
          · (rw [if_neg c5] at H); (have c5b0 : (t102 == 0) = false := beq_eq_false_iff_ne.mpr c5); (have c5b1 : (t102 != 0) = true := bne_iff_ne.mpr c5); (have H' := Aside0.mk H); clear H; (have p101 : 0 ≤ (x7_1 : Int) := of_decide_eq_true (by first | (with_reducible assumption) | assumption)); (have q101 : x7_1 < (l0.length : Int) := of_decide_eq_true (by first | (with_reducible assumption) | assumption)); (obtain ⟨ad101, e101, hx101_0, hx101_1, hx101_2, hx101_3⟩ := at_T39 HR0.out x7_1 p101 q101); (cases e101); (replace p101 := eq_true p101); (replace q101 := eq_true q101); (go_wp2_with (first | (go_at_call 46; (with_reducible refine (spec_l1Gcd.calls k1 x6_1 ((rd_T39 l0 x7_1).f2) t102 _ A4.out).mono ?_); rintro e w' ⟨rfl, ⟨nd, rfl⟩⟩; (try first | exact ⟨rfl, _, World.drewN_drewN _ _ _⟩ | exact ⟨rfl, _, Eq.trans (World.drewN_drewN _ _ _) (congrArg (World.drewN _) (Nat.add_assoc _ _ _))⟩); have p103 : 0 ≤ (x7_1 : Int) := of_decide_eq_true (by first | (with_reducible assumption) | assumption); have q103 : x7_1 < (l0.length : Int) := of_decide_eq_true (by first | (with_reducible assumption) | assumption); obtain ⟨ad103, e103, hx103_0, hx103_1, hx103_2, hx103_3⟩ := at_T39 HR0.out x7_1 p103 q103; obtain rfl : ad101 = ad103 := (by injection e103); replace p103 := eq_true p103; replace q103 := eq_true q103))); (repeat (go_quiet (first | (go_at_call 46; (with_reducible refine (spec_l1Gcd.calls k1 x6_1 ((rd_T39 l0 x7_1).f2) t102 _ A4.out).mono ?_); rintro e w' ⟨rfl, ⟨nd, rfl⟩⟩; (try first | exact ⟨rfl, _, World.drewN_drewN _ _ _⟩ | exact ⟨rfl, _, Eq.trans (World.drewN_drewN _ _ _) (congrArg (World.drewN _) (Nat.add_assoc _ _ _))⟩); have p103 : 0 ≤ (x7_1 : Int) := of_decide_eq_true (by first | (with_reducible assumption) | assumption); have q103 : x7_1 < (l0.length : Int) := of_decide_eq_true (by first | (with_reducible assumption) | assumption); obtain ⟨ad103, e103, hx103_0, hx103_1, hx103_2, hx103_3⟩ := at_T39 HR0.out x7_1 p103 q103; obtain rfl : ad101 = ad103 := (by injection e103); replace p103 := eq_true p103; replace q103 := eq_true q103)); try go_wp2_with (first | (go_at_call 46; (with_reducible refine (spec_l1Gcd.calls k1 x6_1 ((rd_T39 l0 x7_1).f2) t102 _ A4.out).mono ?_); rintro e w' ⟨rfl, ⟨nd, rfl⟩⟩; (try first | exact ⟨rfl, _, World.drewN_drewN _ _ _⟩ | exact ⟨rfl, _, Eq.trans (World.drewN_drewN _ _ _) (congrArg (World.drewN _) (Nat.add_assoc _ _ _))⟩); have p103 : 0 ≤ (x7_1 : Int) := of_decide_eq_true (by first | (with_reducible assumption) | assumption); have q103 : x7_1 < (l0.length : Int) := of_decide_eq_true (by first | (with_reducible assumption) | assumption); obtain ⟨ad103, e103, hx103_0, hx103_1, hx103_2, hx103_3⟩ := at_T39 HR0.out x7_1 p103 q103; obtain rfl : ad101 = ad103 := (by injection e103); replace p103 := eq_true p103; replace q103 := eq_true q103)))); (go_roundg k1)
            case measure => have := HK1.out; omega
            case rel => exact ⟨(wrap64 ((wrap64 (Int.tdiv x6_1 t102)) * ((rd_T39 l0 x7_1).f2))), (wrap64 (x7_1 + 1)), (by first | rfl | (simp; done) | (simp [*]; done) | (simp only [i64_w]; done)), (by first | rfl | (simp; done) | (simp [*]; done) | (simp only [i64_w]; done)), H', ⟨by have := HK1.out; omega⟩, by repeat (first | exact Drawn0.refl _ | apply Drawn0.step)⟩
        · (rw [if_neg c3] at H); (exact absurd H (by simp))
      · (rw [if_neg c2] at H); (have c2b0 : decide (x7_1 < (l0.length : Int)) = false := decide_eq_false c2); clear c2; (have H' := Aside0.mk H); clear H; (go_wp2); (repeat (go_quiet (fail); try go_wp2)); (go_loopg [8, 9, 10, 11] k1 (fun kq v8 v9 v10 v11 w' => ∃ (x8_2 : Int) (x9_2 : Int) (x10_2 : Int) (x11_2 : Int), v8 = .int .i64 x8_2 ∧ v9 = .int .i64 x9_2 ∧ v10 = .int .i64 x10_2 ∧ v11 = .int .i64 x11_2 ∧ Aside0 (spec_l15Sums.l1 kq l0 x6_1 x8_2 x9_2 x10_2 x11_2 = some (r1, r2, r3, r4)) ∧ Aside0 (kq ≤ k1) ∧ Drawn0 w w'))
        case atStart => exact ⟨(0), (0), (0), (0), (by first | rfl | (simp; done) | (simp [*]; done) | (simp only [i64_w]; done)), (by first | rfl | (simp; done) | (simp [*]; done) | (simp only [i64_w]; done)), (by first | rfl | (simp; done) | (simp [*]; done) | (simp only [i64_w]; done)), (by first | rfl | (simp; done) | (simp [*]; done) | (simp only [i64_w]; done)), H', ⟨Nat.le_refl _⟩, by repeat (first | exact Drawn0.refl _ | apply Drawn0.step)⟩
        case round =>
          clear H'; (try clear p1); (try clear q1); (try clear hx1); (try clear c2); (try clear c2b0); (try clear p2); (try clear c3); (try clear c3b0); (try clear c4); (try clear c5); (try clear c5b0); (try clear c5b1); (try clear hx101_0); (try clear hx101_1); (try clear hx101_2); (try clear hx101_3); (try clear hx103_0); (try clear hx103_1); (try clear hx103_2); (try clear hx103_3); (try clear p101); (try clear p103); (try clear q101); (try clear q103); (obtain ⟨x8_2, x9_2, x10_2, x11_2, rfl, rfl, rfl, rfl, HA, HK2, ⟨m2, rfl⟩⟩ := hrel)
          cases gk with
          | zero => exact absurd HA.out (by simp [spec_l15Sums.l1])
          | succ k2 =>
            (have H := HA.out); clear HA; (simp only [spec_l15Sums.l1] at H); (by_cases c6 : x11_2 < (l0.length : Int))
            · (rw [if_pos c6] at H); (have c6b0 : decide (x11_2 < (l0.length : Int)) = true := decide_eq_true c6); clear c6; (by_cases c7 : 0 ≤ x11_2)
              · ((rw [if_pos c7] at H); (have c7b0 : decide (0 ≤ x11_2) = true := decide_eq_true c7); clear c7; (by_cases c8 : ((rd_T39 l0 x11_2).f2) = 0)); (· (rw [if_pos c8] at H); (exact absurd H (by simp)))
                · (rw [if_neg c8] at H); (have c8b0 : (((rd_T39 l0 x11_2).f2) == 0) = false := beq_eq_false_iff_ne.mpr c8); (have c8b1 : (((rd_T39 l0 x11_2).f2) != 0) = true := bne_iff_ne.mpr c8); (obtain ⟨bq9, hbq9⟩ : ∃ b_ : Bool, b_ = ((rd_T39 l0 x11_2).f3) := ⟨_, rfl⟩); (replace H : (if bq9 = true then (spec_l15Sums.l1 k2 l0 x6_1 x8_2 (wrap64 (x9_2 + (wrap64 (((rd_T39 l0 x11_2).f0) * (wrap64 (Int.tdiv x6_1 ((rd_T39 l0 x11_2).f2))))))) (wrap64 (x10_2 + (wrap64 (((rd_T39 l0 x11_2).f1) * (wrap64 (Int.tdiv x6_1 ((rd_T39 l0 x11_2).f2))))))) (wrap64 (x11_2 + 1))) else (spec_l15Sums.l1 k2 l0 x6_1 (wrap64 (x8_2 + (wrap64 (((rd_T39 l0 x11_2).f0) * (wrap64 (Int.tdiv x6_1 ((rd_T39 l0 x11_2).f2))))))) x9_2 x10_2 (wrap64 (x11_2 + 1)))) = some (r1, r2, r3, r4) := by rw [← hbq9] at H; exact H); (have Nbq9 := Aside0.mk hbq9); clear hbq9; (by_cases c10 : bq9 = true)
                  · (subst c10); (have H1 : (spec_l15Sums.l1 k2 l0 x6_1 x8_2 (wrap64 (x9_2 + (wrap64 (((rd_T39 l0 x11_2).f0) * (wrap64 (Int.tdiv x6_1 ((rd_T39 l0 x11_2).f2))))))) (wrap64 (x10_2 + (wrap64 (((rd_T39 l0 x11_2).f1) * (wrap64 (Int.tdiv x6_1 ((rd_T39 l0 x11_2).f2))))))) (wrap64 (x11_2 + 1))) = some (r1, r2, r3, r4) := by rw [if_pos rfl] at H; exact H); clear H; (have H := H1); clear H1; (have H' := Aside0.mk H); clear H; (have p104 : 0 ≤ (x11_2 : Int) := of_decide_eq_true (by first | (with_reducible assumption) | assumption)); (have q104 : x11_2 < (l0.length : Int) := of_decide_eq_true (by first | (with_reducible assumption) | assumption)); (obtain ⟨ad104, e104, hx104_0, hx104_1, hx104_2, hx104_3⟩ := at_T39 HR0.out x11_2 p104 q104); (try rw [← Nbq9.out] at hx104_3); (cases e104); (replace p104 := eq_true p104); (replace q104 := eq_true q104); (have p105 : 0 ≤ (x11_2 : Int) := of_decide_eq_true (by first | (with_reducible assumption) | assumption)); (have q105 : x11_2 < (l0.length : Int) := of_decide_eq_true (by first | (with_reducible assumption) | assumption)); (obtain ⟨ad105, e105, hx105_0, hx105_1, hx105_2, hx105_3⟩ := at_T39 HR0.out x11_2 p105 q105); (try rw [← Nbq9.out] at hx105_3); (obtain rfl : ad104 = ad105 := (by injection e105)); (replace p105 := eq_true p105); (replace q105 := eq_true q105); (have p106 : 0 ≤ (x11_2 : Int) := of_decide_eq_true (by first | (with_reducible assumption) | assumption)); (have q106 : x11_2 < (l0.length : Int) := of_decide_eq_true (by first | (with_reducible assumption) | assumption)); (obtain ⟨ad106, e106, hx106_0, hx106_1, hx106_2, hx106_3⟩ := at_T39 HR0.out x11_2 p106 q106); (try rw [← Nbq9.out] at hx106_3); (obtain rfl : ad104 = ad106 := (by injection e106)); (replace p106 := eq_true p106); (replace q106 := eq_true q106); (have p107 : 0 ≤ (x11_2 : Int) := of_decide_eq_true (by first | (with_reducible assumption) | assumption)); (have q107 : x11_2 < (l0.length : Int) := of_decide_eq_true (by first | (with_reducible assumption) | assumption)); (obtain ⟨ad107, e107, hx107_0, hx107_1, hx107_2, hx107_3⟩ := at_T39 HR0.out x11_2 p107 q107); (try rw [← Nbq9.out] at hx107_3); (obtain rfl : ad104 = ad107 := (by injection e107)); (replace p107 := eq_true p107); (replace q107 := eq_true q107); (go_wp2); (repeat (go_quiet (fail); try go_wp2)); (go_roundg k2)
                    case measure => have := HK1.out; have := HK2.out; omega
                    case rel => exact ⟨(x8_2), (wrap64 (x9_2 + (wrap64 (((rd_T39 l0 x11_2).f0) * (wrap64 (Int.tdiv x6_1 ((rd_T39 l0 x11_2).f2))))))), (wrap64 (x10_2 + (wrap64 (((rd_T39 l0 x11_2).f1) * (wrap64 (Int.tdiv x6_1 ((rd_T39 l0 x11_2).f2))))))), (wrap64 (x11_2 + 1)), (by first | rfl | (simp; done) | (simp [*]; done) | (simp only [i64_w]; done)), (by first | rfl | (simp; done) | (simp [*]; done) | (simp only [i64_w]; done)), (by first | rfl | (simp; done) | (simp [*]; done) | (simp only [i64_w]; done)), (by first | rfl | (simp; done) | (simp [*]; done) | (simp only [i64_w]; done)), H', ⟨by have := HK1.out; have := HK2.out; omega⟩, by repeat (first | exact Drawn0.refl _ | apply Drawn0.step)⟩
                  · (replace c10 := Bool.eq_false_iff.mpr c10); (subst c10); (have H1 : (spec_l15Sums.l1 k2 l0 x6_1 (wrap64 (x8_2 + (wrap64 (((rd_T39 l0 x11_2).f0) * (wrap64 (Int.tdiv x6_1 ((rd_T39 l0 x11_2).f2))))))) x9_2 x10_2 (wrap64 (x11_2 + 1))) = some (r1, r2, r3, r4) := by rw [if_neg (show ¬ (false = true) by decide)] at H; exact H); clear H; (have H := H1); clear H1; (have H' := Aside0.mk H); clear H; (have p104 : 0 ≤ (x11_2 : Int) := of_decide_eq_true (by first | (with_reducible assumption) | assumption)); (have q104 : x11_2 < (l0.length : Int) := of_decide_eq_true (by first | (with_reducible assumption) | assumption)); (obtain ⟨ad104, e104, hx104_0, hx104_1, hx104_2, hx104_3⟩ := at_T39 HR0.out x11_2 p104 q104); (try rw [← Nbq9.out] at hx104_3); (cases e104); (replace p104 := eq_true p104); (replace q104 := eq_true q104); (have p105 : 0 ≤ (x11_2 : Int) := of_decide_eq_true (by first | (with_reducible assumption) | assumption)); (have q105 : x11_2 < (l0.length : Int) := of_decide_eq_true (by first | (with_reducible assumption) | assumption)); (obtain ⟨ad105, e105, hx105_0, hx105_1, hx105_2, hx105_3⟩ := at_T39 HR0.out x11_2 p105 q105); (try rw [← Nbq9.out] at hx105_3); (obtain rfl : ad104 = ad105 := (by injection e105)); (replace p105 := eq_true p105); (replace q105 := eq_true q105); (have p108 : 0 ≤ (x11_2 : Int) := of_decide_eq_true (by first | (with_reducible assumption) | assumption)); (have q108 : x11_2 < (l0.length : Int) := of_decide_eq_true (by first | (with_reducible assumption) | assumption)); (obtain ⟨ad108, e108, hx108_0, hx108_1, hx108_2, hx108_3⟩ := at_T39 HR0.out x11_2 p108 q108); (try rw [← Nbq9.out] at hx108_3); (obtain rfl : ad104 = ad108 := (by injection e108)); (replace p108 := eq_true p108); (replace q108 := eq_true q108); (go_wp2); (repeat (go_quiet (fail); try go_wp2)); (go_roundg k2)
                    case measure => have := HK1.out; have := HK2.out; omega
                    case rel => exact ⟨(wrap64 (x8_2 + (wrap64 (((rd_T39 l0 x11_2).f0) * (wrap64 (Int.tdiv x6_1 ((rd_T39 l0 x11_2).f2))))))), (x9_2), (x10_2), (wrap64 (x11_2 + 1)), (by first | rfl | (simp; done) | (simp [*]; done) | (simp only [i64_w]; done)), (by first | rfl | (simp; done) | (simp [*]; done) | (simp only [i64_w]; done)), (by first | rfl | (simp; done) | (simp [*]; done) | (simp only [i64_w]; done)), (by first | rfl | (simp; done) | (simp [*]; done) | (simp only [i64_w]; done)), H', ⟨by have := HK1.out; have := HK2.out; omega⟩, by repeat (first | exact Drawn0.refl _ | apply Drawn0.step)⟩
              · (rw [if_neg c7] at H); (exact absurd H (by simp))
            · (rw [if_neg c6] at H); (have c6b0 : decide (x11_2 < (l0.length : Int)) = false := decide_eq_false c6); clear c6; (simp only [Option.some.injEq, Prod.mk.injEq] at H); (obtain ⟨rfl, rfl, rfl, rfl⟩ := H); (go_wp2); (repeat (go_quiet (fail); try go_wp2)); (refine bodyPost_ret (results_list (rs := [.tmp 2, .tmp 3, .tmp 4, .tmp 5]) rfl (by simp) (.tmp (.tmp (.tmp (.tmp .nil))))) rfl ?_); (exact ⟨by first | rfl | (simp; done) | (simp [*]; done), by repeat (first | exact Drawn0.refl _ | apply Drawn0.step)⟩)

end Go.Proofs.Ytpgheaoepaadlaa.Q
