-- written by mp.py, a program of this session's, out of the kit's print program and the translation
import Derived.Test.YtncombcckeeecaaF0
import Derived.Test.YtncombcckeeecaaFimplXceil
namespace Go.Proofs.Ytncombcckeeecaa.Q
open Go.RowKit Go.Proofs.YtncombcckeeecaaW.PrintWords Go.Proofs.YtncombcckeeecaaW.PrintLast Go.Proofs.YtncombcckeeecaaW.PrintMore
attribute [local go_sem] max2_int min2_int max_two min_two max_three min_three max_four min_four   -- for this text's walks alone
set_option linter.unusedVariables false
set_option linter.unusedSimpArgs false

/-! ### impl_response: function 65 -/
mutual
def impl_response.l0 : Nat → List (S34) → List Int → Int → List Int → Int → Option (Int)
  | 0, _, _, _, _, _ => none
  | k + 1, x0, x1, x2, x3, x9 => if 0 ≤ x2 then (if x2 < (x1.length : Int) then (if x2 < (x0.length : Int) then (if (wrap64 (x9 + (rd x1 x2))) ≤ ((rd_T34 x0 x2).f1) then (impl_response.l1 k x0 x1 x2 x3 x9 ((rd_T34 x0 x2).f0) x3 (x3.length : Int) 0) else (some (-1))) else (none)) else (none)) else (none)
def impl_response.l1 : Nat → List (S34) → List Int → Int → List Int → Int → Int → List Int → Int → Int → Option (Int)
  | 0, _, _, _, _, _, _, _, _, _ => none
  | k + 1, x0, x1, x2, x3, x9, x10, x35, x36, x37 => if x37 < x36 then (if 0 ≤ x37 then (if x37 < (x35.length : Int) then (if 0 ≤ (rd x35 x37) then (if (rd x35 x37) < (x1.length : Int) then (if (rd x35 x37) < (x0.length : Int) then ((impl_ceil.f (wrap64 (x9 + (rd x1 (rd x35 x37)))) ((rd_T34 x0 (rd x35 x37)).f2)).bind fun t108 => (impl_response.l1 k x0 x1 x2 x3 x9 (wrap64 (x10 + (wrap64 (t108 * ((rd_T34 x0 (rd x35 x37)).f0))))) x35 x36 (wrap64 (x37 + 1)))) else (none)) else (none)) else (none)) else (none)) else (none)) else (if x10 = x9 then (if 0 ≤ x2 then (if x2 < (x1.length : Int) then (some (wrap64 (x9 + (rd x1 x2)))) else (none)) else (none)) else (impl_response.l0 k x0 x1 x2 x3 x10))
end
def impl_response.f (k : Nat) (l0 : List (S34)) (l1 : List Int) (a2 : Int) (l3 : List Int) : Option (Int) := if 0 ≤ a2 then (if a2 < (l0.length : Int) then (impl_response.l0 k l0 l1 a2 l3 ((rd_T34 l0 a2).f0)) else (none)) else (none)
theorem impl_response.mono_l : ∀ k, (∀ y0 y1 y2 y3 y4, LeO (impl_response.l0 k y0 y1 y2 y3 y4) (impl_response.l0 (k + 1) y0 y1 y2 y3 y4)) ∧ (∀ y0 y1 y2 y3 y4 y5 y6 y7 y8, LeO (impl_response.l1 k y0 y1 y2 y3 y4 y5 y6 y7 y8) (impl_response.l1 (k + 1) y0 y1 y2 y3 y4 y5 y6 y7 y8))
  | 0 => ⟨fun _ _ _ _ _ r h => by simp [impl_response.l0] at h, fun _ _ _ _ _ _ _ _ _ r h => by simp [impl_response.l1] at h⟩
  | k + 1 => by
    obtain ⟨ih0, ih1⟩ := impl_response.mono_l k
    refine ⟨?_, ?_⟩
    · intro y0 y1 y2 y3 y4
      unfold impl_response.l0
      repeat' first
      | (with_reducible exact ih0 _ _ _ _ _)
      | (with_reducible exact ih1 _ _ _ _ _ _ _ _ _)
      | (with_reducible exact LeO.refl _)
      | (with_reducible exact LeO.none _)
      | (with_reducible refine LeO.ite ?_ ?_)
      | (with_reducible refine LeO.bind ?_ (fun _ => ?_))
      | exact ih0 _ _ _ _ _
      | exact ih1 _ _ _ _ _ _ _ _ _
      | exact LeO.none _
      | refine LeO.ite ?_ ?_
      | refine LeO.bind ?_ (fun _ => ?_)
    · intro y0 y1 y2 y3 y4 y5 y6 y7 y8
      unfold impl_response.l1
      repeat' first
      | (with_reducible exact ih0 _ _ _ _ _)
      | (with_reducible exact ih1 _ _ _ _ _ _ _ _ _)
      | (with_reducible exact LeO.refl _)
      | (with_reducible exact LeO.none _)
      | (with_reducible refine LeO.ite ?_ ?_)
      | (with_reducible refine LeO.bind ?_ (fun _ => ?_))
      | exact ih0 _ _ _ _ _
      | exact ih1 _ _ _ _ _ _ _ _ _
      | exact LeO.none _
      | refine LeO.ite ?_ ?_
      | refine LeO.bind ?_ (fun _ => ?_)
theorem impl_response.mono : ∀ a0 a1 a2 a3 k, LeO (impl_response.f k a0 a1 a2 a3) (impl_response.f (k + 1) a0 a1 a2 a3) := by
  intro a0 a1 a2 a3 k
  obtain ⟨ih0, ih1⟩ := impl_response.mono_l k
  unfold impl_response.f
  repeat' first
      | (with_reducible exact ih0 _ _ _ _ _)
      | (with_reducible exact ih1 _ _ _ _ _ _ _ _ _)
      | (with_reducible exact LeO.refl _)
      | (with_reducible exact LeO.none _)
      | (with_reducible refine LeO.ite ?_ ?_)
      | (with_reducible refine LeO.bind ?_ (fun _ => ?_))
      | exact ih0 _ _ _ _ _
      | exact ih1 _ _ _ _ _ _ _ _ _
      | exact LeO.none _
      | refine LeO.ite ?_ ?_
      | refine LeO.bind ?_ (fun _ => ?_)
set_option maxHeartbeats 8000000 in
set_option maxRecDepth 100000 in
theorem impl_response.calls (k : Nat) (A0 : Option Addr) (c0 : Nat) (l0 : List (S34)) (A1 : Option Addr) (c1 : Nat) (l1 : List Int) (a2 : Int) (A3 : Option Addr) (c3 : Nat) (l3 : List Int) (r : Int) (w : World) (hr0 : Kd.C k34 w A0 l0.length l0) (hc0 : l0.length ≤ c0) (hr1 : Kd.C (Kd.int .i64) w A1 l1.length l1) (hc1 : l1.length ≤ c1) (hr3 : Kd.C (Kd.int .i64) w A3 l3.length l3) (hc3 : l3.length ≤ c3) (h : impl_response.f k l0 l1 a2 l3 = some r) :
    Calls Try.prog 65 #[.slice A0 l0.length c0, .slice A1 l1.length c1, .int .i64 a2, .slice A3 l3.length c3] w fun e w' => e = .returned (.int .i64 r) ∧ Drawn0 w w' := by
  (have HR0 := Aside0.mk hr0); (have HC0 := Aside0.mk hc0); clear hr0 hc0; (have HR1 := Aside0.mk hr1); (have HC1 := Aside0.mk hc1); clear hr1 hc1; (have HR3 := Aside0.mk hr3); (have HC3 := Aside0.mk hc3); clear hr3 hc3; (have H : (if 0 ≤ a2 then (if a2 < (l0.length : Int) then (impl_response.l0 k l0 l1 a2 l3 ((rd_T34 l0 a2).f0)) else (none)) else (none)) = some r := h); clear h; (by_cases c5 : 0 ≤ a2)
  · (rw [if_pos c5] at H); (have c5b0 : decide (0 ≤ a2) = true := decide_eq_true c5); clear c5; (by_cases c6 : a2 < (l0.length : Int))
    · (rw [if_pos c6] at H); (have c6b0 : decide (a2 < (l0.length : Int)) = true := decide_eq_true c6); clear c6; (have H' := Aside0.mk H); clear H; (have p101 : 0 ≤ (a2 : Int) := of_decide_eq_true (by first | (with_reducible assumption) | assumption)); (have q101 : a2 < (l0.length : Int) := of_decide_eq_true (by first | (with_reducible assumption) | assumption)); (obtain ⟨ad101, e101, hx101_0, hx101_1, hx101_2⟩ := at_T34 HR0.out a2 p101 q101); (cases e101); (replace p101 := eq_true p101); (replace q101 := eq_true q101); (go_enter Try.func65, Try.ntmps65); (go_wp2); (repeat (go_quiet (fail); try go_wp2)); (go_loopg [9] k (fun kq v9 w' => ∃ (x9_1 : Int), v9 = .int .i64 x9_1 ∧ Aside0 (impl_response.l0 kq l0 l1 a2 l3 x9_1 = some r) ∧ Aside0 (kq ≤ k) ∧ Drawn0 w w'))
      case atStart => exact ⟨((rd_T34 l0 a2).f0), (by first | rfl | (simp; done) | (simp [*]; done)), H', ⟨Nat.le_refl _⟩, by repeat (first | exact Drawn0.refl _ | apply Drawn0.step)⟩
      case round =>
        clear H'; (try clear c1); (try clear p1); (try clear q1); (try clear hx1); (try clear p2); (try clear c3); (try clear c5); (try clear c5b0); (try clear c6); (try clear c6b0); (try clear hx101_0); (try clear hx101_1); (try clear hx101_2); (try clear p101); (try clear q101); (obtain ⟨x9_1, rfl, HA, HK1, ⟨m1, rfl⟩⟩ := hrel)
        cases gk with
        | zero => exact absurd HA.out (by simp [impl_response.l0])
        | succ k1 =>
          (have H := HA.out); clear HA; (simp only [impl_response.l0] at H); (by_cases c7 : 0 ≤ a2)
          · (rw [if_pos c7] at H); (have c7b0 : decide (0 ≤ a2) = true := decide_eq_true c7); clear c7; (by_cases c8 : a2 < (l1.length : Int))
            · (rw [if_pos c8] at H); (have c8b0 : decide (a2 < (l1.length : Int)) = true := decide_eq_true c8); clear c8; (by_cases c9 : a2 < (l0.length : Int))
              · (rw [if_pos c9] at H); (have c9b0 : decide (a2 < (l0.length : Int)) = true := decide_eq_true c9); clear c9; (by_cases c10 : (wrap64 (x9_1 + (rd l1 a2))) ≤ ((rd_T34 l0 a2).f1))
                · (rw [if_pos c10] at H); (have c10b0 : decide ((wrap64 (x9_1 + (rd l1 a2))) ≤ ((rd_T34 l0 a2).f1)) = true := decide_eq_true c10); clear c10; (have H' := Aside0.mk H); clear H; (have p102 : 0 ≤ (a2 : Int) := of_decide_eq_true (by first | (with_reducible assumption) | assumption)); (have q102 : a2 < (l1.length : Int) := of_decide_eq_true (by first | (with_reducible assumption) | assumption)); (obtain ⟨ad102, e102, hx102_0⟩ := Kd.at_int HR1.out a2 p102 q102); (cases e102); (replace p102 := eq_true p102); (replace q102 := eq_true q102); (have p103 : 0 ≤ (a2 : Int) := of_decide_eq_true (by first | (with_reducible assumption) | assumption)); (have q103 : a2 < (l0.length : Int) := of_decide_eq_true (by first | (with_reducible assumption) | assumption)); (obtain ⟨ad103, e103, hx103_0, hx103_1, hx103_2⟩ := at_T34 HR0.out a2 p103 q103); (obtain rfl : ad101 = ad103 := (by injection e103)); (replace p103 := eq_true p103); (replace q103 := eq_true q103); (have p104 : 0 ≤ (a2 : Int) := of_decide_eq_true (by first | (with_reducible assumption) | assumption)); (have q104 : a2 < (l0.length : Int) := of_decide_eq_true (by first | (with_reducible assumption) | assumption)); (obtain ⟨ad104, e104, hx104_0, hx104_1, hx104_2⟩ := at_T34 HR0.out a2 p104 q104); (obtain rfl : ad101 = ad104 := (by injection e104)); (replace p104 := eq_true p104); (replace q104 := eq_true q104); (go_wp2); (repeat (go_quiet (fail); try go_wp2)); (go_loopg [10, 37] k1 (fun kq v10 v37 w' => ∃ (x10_2 : Int) (x37_2 : Int), v10 = .int .i64 x10_2 ∧ v37 = .int .i64 x37_2 ∧ Aside0 (impl_response.l1 kq l0 l1 a2 l3 x9_1 x10_2 l3 (l3.length : Int) x37_2 = some r) ∧ Aside0 (kq ≤ k1) ∧ Drawn0 w w'))
                  case atStart => exact ⟨((rd_T34 l0 a2).f0), (0), (by first | rfl | (simp; done) | (simp [*]; done)), (by first | rfl | (simp; done) | (simp [*]; done)), H', ⟨Nat.le_refl _⟩, by repeat (first | exact Drawn0.refl _ | apply Drawn0.step)⟩
                  case round =>
                    clear H'; (try clear c1); (try clear p1); (try clear q1); (try clear hx1); (try clear p2); (try clear c3); (try clear c5); (try clear c5b0); (try clear c6); (try clear c6b0); (try clear p6); (try clear c7); (try clear c7b0); (try clear c8); (try clear c8b0); (try clear c9); (try clear c9b0); (try clear c10); (try clear c10b0); (try clear p10); (try clear q10); (try clear hx10); (try clear hx101_0); (try clear hx101_1); (try clear hx101_2); (try clear hx102_0); (try clear hx103_0); (try clear hx103_1); (try clear hx103_2); (try clear hx104_0); (try clear hx104_1); (try clear hx104_2); (try clear p1); (try clear p101); (try clear p102); (try clear p103); (try clear p104); (try clear p2); (try clear q1); (try clear q101); (try clear q102); (try clear q103); (try clear q104); (obtain ⟨x10_2, x37_2, rfl, rfl, HA, HK2, ⟨m2, rfl⟩⟩ := hrel)
                    cases gk with
                    | zero => exact absurd HA.out (by simp [impl_response.l1])
                    | succ k2 =>
                      (have H := HA.out); clear HA; (simp only [impl_response.l1] at H); (by_cases c11 : x37_2 < (l3.length : Int))
                      · (rw [if_pos c11] at H); (have c11b0 : decide (x37_2 < (l3.length : Int)) = true := decide_eq_true c11); clear c11; (by_cases c12 : 0 ≤ x37_2)
                        · (rw [if_pos c12] at H); (have c12b0 : decide (0 ≤ x37_2) = true := decide_eq_true c12); clear c12; (by_cases c13 : x37_2 < (l3.length : Int))
                          · (rw [if_pos c13] at H); (have c13b0 : decide (x37_2 < (l3.length : Int)) = true := decide_eq_true c13); clear c13; (by_cases c14 : 0 ≤ (rd l3 x37_2))
                            · (rw [if_pos c14] at H); (have c14b0 : decide (0 ≤ (rd l3 x37_2)) = true := decide_eq_true c14); clear c14; (by_cases c15 : (rd l3 x37_2) < (l1.length : Int))
                              · (rw [if_pos c15] at H); (have c15b0 : decide ((rd l3 x37_2) < (l1.length : Int)) = true := decide_eq_true c15); clear c15; (by_cases c16 : (rd l3 x37_2) < (l0.length : Int))
                                · (rw [if_pos c16] at H); (have c16b0 : decide ((rd l3 x37_2) < (l0.length : Int)) = true := decide_eq_true c16); clear c16; (replace H := Option.bind_eq_some_iff.mp H); (obtain ⟨t108, A170, H⟩ := H); (replace H : (impl_response.l1 k2 l0 l1 a2 l3 x9_1 (wrap64 (x10_2 + (wrap64 (t108 * ((rd_T34 l0 (rd l3 x37_2)).f0))))) l3 (l3.length : Int) (wrap64 (x37_2 + 1))) = some r := H); (have A17 := Aside0.mk A170); clear A170; (have H' := Aside0.mk H); clear H; (have p105 : 0 ≤ (x37_2 : Int) := of_decide_eq_true (by first | (with_reducible assumption) | assumption)); (have q105 : x37_2 < (l3.length : Int) := of_decide_eq_true (by first | (with_reducible assumption) | assumption)); (obtain ⟨ad105, e105, hx105_0⟩ := Kd.at_int HR3.out x37_2 p105 q105); (cases e105); (replace p105 := eq_true p105); (replace q105 := eq_true q105); (have p106 : 0 ≤ ((rd l3 x37_2) : Int) := of_decide_eq_true (by first | (with_reducible assumption) | assumption)); (have q106 : (rd l3 x37_2) < (l1.length : Int) := of_decide_eq_true (by first | (with_reducible assumption) | assumption)); (obtain ⟨ad106, e106, hx106_0⟩ := Kd.at_int HR1.out (rd l3 x37_2) p106 q106); (obtain rfl : ad102 = ad106 := (by injection e106)); (replace p106 := eq_true p106); (replace q106 := eq_true q106); (have p107 : 0 ≤ ((rd l3 x37_2) : Int) := of_decide_eq_true (by first | (with_reducible assumption) | assumption)); (have q107 : (rd l3 x37_2) < (l0.length : Int) := of_decide_eq_true (by first | (with_reducible assumption) | assumption)); (obtain ⟨ad107, e107, hx107_0, hx107_1, hx107_2⟩ := at_T34 HR0.out (rd l3 x37_2) p107 q107); (obtain rfl : ad101 = ad107 := (by injection e107)); (replace p107 := eq_true p107); (replace q107 := eq_true q107); (go_wp2_with (first | (go_at_call 89; (with_reducible refine (impl_ceil.calls (wrap64 (x9_1 + (rd l1 (rd l3 x37_2)))) ((rd_T34 l0 (rd l3 x37_2)).f2) t108 _ A17.out).mono ?_); rintro e w' ⟨rfl, ⟨nd, rfl⟩⟩; (try first | exact ⟨rfl, _, World.drewN_drewN _ _ _⟩ | exact ⟨rfl, _, Eq.trans (World.drewN_drewN _ _ _) (congrArg (World.drewN _) (Nat.add_assoc _ _ _))⟩); have p109 : 0 ≤ ((rd l3 x37_2) : Int) := of_decide_eq_true (by first | (with_reducible assumption) | assumption); have q109 : (rd l3 x37_2) < (l0.length : Int) := of_decide_eq_true (by first | (with_reducible assumption) | assumption); obtain ⟨ad109, e109, hx109_0, hx109_1, hx109_2⟩ := at_T34 HR0.out (rd l3 x37_2) p109 q109; obtain rfl : ad101 = ad109 := (by injection e109); replace p109 := eq_true p109; replace q109 := eq_true q109))); (repeat (go_quiet (first | (go_at_call 89; (try simp only [i64_w]); (with_reducible refine (impl_ceil.calls (wrap64 (x9_1 + (rd l1 (rd l3 x37_2)))) ((rd_T34 l0 (rd l3 x37_2)).f2) t108 _ A17.out).mono ?_); rintro e w' ⟨rfl, ⟨nd, rfl⟩⟩; (try first | exact ⟨rfl, _, World.drewN_drewN _ _ _⟩ | exact ⟨rfl, _, Eq.trans (World.drewN_drewN _ _ _) (congrArg (World.drewN _) (Nat.add_assoc _ _ _))⟩))); try go_wp2_with (first | (go_at_call 89; (with_reducible refine (impl_ceil.calls (wrap64 (x9_1 + (rd l1 (rd l3 x37_2)))) ((rd_T34 l0 (rd l3 x37_2)).f2) t108 _ A17.out).mono ?_); rintro e w' ⟨rfl, ⟨nd, rfl⟩⟩; (try first | exact ⟨rfl, _, World.drewN_drewN _ _ _⟩ | exact ⟨rfl, _, Eq.trans (World.drewN_drewN _ _ _) (congrArg (World.drewN _) (Nat.add_assoc _ _ _))⟩); have p109 : 0 ≤ ((rd l3 x37_2) : Int) := of_decide_eq_true (by first | (with_reducible assumption) | assumption); have q109 : (rd l3 x37_2) < (l0.length : Int) := of_decide_eq_true (by first | (with_reducible assumption) | assumption); obtain ⟨ad109, e109, hx109_0, hx109_1, hx109_2⟩ := at_T34 HR0.out (rd l3 x37_2) p109 q109; obtain rfl : ad101 = ad109 := (by injection e109); replace p109 := eq_true p109; replace q109 := eq_true q109)))); (go_roundg k2)
                                  case measure => have := HK1.out; have := HK2.out; omega
                                  case rel => exact ⟨(wrap64 (x10_2 + (wrap64 (t108 * ((rd_T34 l0 (rd l3 x37_2)).f0))))), (wrap64 (x37_2 + 1)), (by first | rfl | (simp; done) | (simp [*]; done)), (by first | rfl | (simp; done) | (simp [*]; done)), H', ⟨by have := HK1.out; have := HK2.out; omega⟩, by repeat (first | exact Drawn0.refl _ | apply Drawn0.step)⟩
                                · (rw [if_neg c16] at H); (exact absurd H (by simp))
                              · (rw [if_neg c15] at H); (exact absurd H (by simp))
                            · (rw [if_neg c14] at H); (exact absurd H (by simp))
                          · (rw [if_neg c13] at H); (exact absurd H (by simp))
                        · (rw [if_neg c12] at H); (exact absurd H (by simp))
                      · (rw [if_neg c11] at H); (have c11b0 : decide (x37_2 < (l3.length : Int)) = false := decide_eq_false c11); clear c11; (by_cases c18 : x10_2 = x9_1)
                        · (rw [if_pos c18] at H); (have c18b0 : (x10_2 == x9_1) = true := beq_iff_eq.mpr c18); (have c18b1 : (x10_2 != x9_1) = false := bne_eq_false_iff_eq.mpr c18); clear c18; (by_cases c19 : 0 ≤ a2)
                          · ((rw [if_pos c19] at H); (have c19b0 : decide (0 ≤ a2) = true := decide_eq_true c19); clear c19; (by_cases c20 : a2 < (l1.length : Int))); (· (rw [if_pos c20] at H); (have c20b0 : decide (a2 < (l1.length : Int)) = true := decide_eq_true c20); clear c20; (obtain rfl := Option.some.inj H); (have p110 : 0 ≤ (a2 : Int) := of_decide_eq_true (by first | (with_reducible assumption) | assumption)); (have q110 : a2 < (l1.length : Int) := of_decide_eq_true (by first | (with_reducible assumption) | assumption)); (obtain ⟨ad110, e110, hx110_0⟩ := Kd.at_int HR1.out a2 p110 q110); (obtain rfl : ad102 = ad110 := (by injection e110)); (replace p110 := eq_true p110); (replace q110 := eq_true q110); (go_wp2); (repeat (go_quiet (fail); try go_wp2)); (go_ret); (exact ⟨by first | rfl | (simp; done) | (simp [*]; done), by repeat (first | exact Drawn0.refl _ | apply Drawn0.step)⟩)); (· (rw [if_neg c20] at H); (exact absurd H (by simp)))
                          · (rw [if_neg c19] at H); (exact absurd H (by simp))
                        · (rw [if_neg c18] at H); (have c18b0 : (x10_2 == x9_1) = false := beq_eq_false_iff_ne.mpr c18); (have c18b1 : (x10_2 != x9_1) = true := bne_iff_ne.mpr c18); (have H' := Aside0.mk H); clear H; (go_wp2); (repeat (go_quiet (fail); try go_wp2)); (go_roundg k2)
                          case measure => have := HK1.out; have := HK2.out; omega
                          case rel => exact ⟨(x10_2), (by first | rfl | (simp; done) | (simp [*]; done)), H', ⟨by have := HK1.out; have := HK2.out; omega⟩, by repeat (first | exact Drawn0.refl _ | apply Drawn0.step)⟩
                · (rw [if_neg c10] at H); (have c10b0 : decide ((wrap64 (x9_1 + (rd l1 a2))) ≤ ((rd_T34 l0 a2).f1)) = false := decide_eq_false c10); clear c10; (obtain rfl := Option.some.inj H); (have p102 : 0 ≤ (a2 : Int) := of_decide_eq_true (by first | (with_reducible assumption) | assumption)); (have q102 : a2 < (l1.length : Int) := of_decide_eq_true (by first | (with_reducible assumption) | assumption)); (obtain ⟨ad102, e102, hx102_0⟩ := Kd.at_int HR1.out a2 p102 q102); (cases e102); (replace p102 := eq_true p102); (replace q102 := eq_true q102); (have p103 : 0 ≤ (a2 : Int) := of_decide_eq_true (by first | (with_reducible assumption) | assumption)); (have q103 : a2 < (l0.length : Int) := of_decide_eq_true (by first | (with_reducible assumption) | assumption)); (obtain ⟨ad103, e103, hx103_0, hx103_1, hx103_2⟩ := at_T34 HR0.out a2 p103 q103); (obtain rfl : ad101 = ad103 := (by injection e103)); (replace p103 := eq_true p103); (replace q103 := eq_true q103); (go_wp2); (repeat (go_quiet (fail); try go_wp2)); (go_ret); (exact ⟨by first | rfl | (simp; done) | (simp [*]; done), by repeat (first | exact Drawn0.refl _ | apply Drawn0.step)⟩)
              · (rw [if_neg c9] at H); (exact absurd H (by simp))
            · (rw [if_neg c8] at H); (exact absurd H (by simp))
          · (rw [if_neg c7] at H); (exact absurd H (by simp))
    · (rw [if_neg c6] at H); (exact absurd H (by simp))
  · (rw [if_neg c5] at H); (exact absurd H (by simp))

end Go.Proofs.Ytncombcckeeecaa.Q
