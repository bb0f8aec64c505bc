-- written by mp.py, a program of this session's, out of the kit's print program and the translation
import Derived.Test.YtmjclbjafodakaaF0
import Derived.Test.YtmjclbjafodakaaFA
import Derived.Test.YtmjclbjafodakaaFspecXl20Set
namespace Go.Proofs.Ytmjclbjafodakaa.Q
open Go.RowKit Go.Proofs.YtmjclbjafodakaaW.PrintWords Go.Proofs.YtmjclbjafodakaaW.PrintLast Go.Proofs.YtmjclbjafodakaaW.PrintMore
attribute [local go_sem] max2_int min2_int max_two min_two max_three min_three max_four min_four   -- for this text's walks alone
set_option linter.unusedVariables false
set_option linter.unusedSimpArgs false

/-! ### spec_DrawSpeedFeasible: function 24 -/
def spec_DrawSpeedFeasible.f (k : Nat) (l0 : List Int) : Option ((List (S29)) × Int × Int) := (spec_l20Open.f l0).bind fun bt101 => ((spec_l20Set.f k bt101.1 bt101.2 12).bind fun bt104 => ((spec_l20Rd_pick.f k bt101.1 bt104.2 20).bind fun bt108 => ((some (([wrap64 (1 + bt108.1), 0, 101] : List Int) : List Int)).bind fun y110 => ((some (([0, 0, 0, 0, 0, 1, 2] : List Int) : List Int)).bind fun y113 => ((spec_l20Rd_pick.f k bt101.1 bt108.2 7).bind fun bt116 => (if 0 ≤ bt116.1 then (if bt116.1 < (y113.length : Int) then (if 0 ≤ (rd y113 bt116.1) then (if (rd y113 bt116.1) < (y110.length : Int) then ((spec_l20Rd_pick.f k bt101.1 bt116.2 12).bind fun bt120 => ((some (([wrap64 (1 + bt120.1), 0, 101] : List Int) : List Int)).bind fun y122 => ((some (([0, 0, 0, 0, 0, 1, 2] : List Int) : List Int)).bind fun y125 => ((spec_l20Rd_pick.f k bt101.1 bt120.2 7).bind fun bt128 => (if 0 ≤ bt128.1 then (if bt128.1 < (y125.length : Int) then (if 0 ≤ (rd y125 bt128.1) then (if (rd y125 bt128.1) < (y122.length : Int) then (some (bt104.1, rd y110 (rd y113 bt116.1), rd y122 (rd y125 bt128.1))) else (none)) else (none)) else (none)) else (none)))))) else (none)) else (none)) else (none)) else (none)))))))
theorem spec_DrawSpeedFeasible.mono : ∀ a0 k, LeO (spec_DrawSpeedFeasible.f k a0) (spec_DrawSpeedFeasible.f (k + 1) a0) := by
  intro a0 k
  unfold spec_DrawSpeedFeasible.f
  repeat' first
      | (with_reducible exact spec_l20Rd_pick.mono _ _ _ _)
      | (with_reducible exact spec_l20Set.mono _ _ _ _)
      | (with_reducible exact LeO.refl _)
      | (with_reducible exact LeO.none _)
      | (with_reducible refine LeO.ite ?_ ?_)
      | (with_reducible refine LeO.bind ?_ (fun _ => ?_))
      | exact spec_l20Rd_pick.mono _ _ _ _
      | exact spec_l20Set.mono _ _ _ _
      | exact LeO.none _
      | refine LeO.ite ?_ ?_
      | refine LeO.bind ?_ (fun _ => ?_)
def spec_DrawSpeedFeasible.T2 : Bool × List (List Nat × List Nat) := (true, [([], []), ([0], [0]), ([], []), ([2, 1], [2]), ([3], [3]), ([4], [4]), ([], []), ([], []), ([7, 3], [7]), ([6, 8], [6, 8]), ([9], [9]), ([5, 10], [5, 10]), ([11], [11]), ([], []), ([13, 8], [13]), ([14], [14]), ([15], [15]), ([], []), ([], []), ([18, 14], [18]), ([17, 19], [17, 19]), ([20], [20]), ([16, 21], [16, 21]), ([22], [22]), ([1, 19, 0, 1], [1]), ([12, 24, 0, 1, 2, 3, 4, 5, 6, 7, 8, 9, 10, 11, 12, 24], [12]), ([23, 25, 0, 1, 2, 3, 4, 5, 6, 7, 8, 9, 10, 11, 12, 13, 14, 15, 16, 17, 18, 19, 20, 21, 22, 23, 24, 25], [23])])
def spec_DrawSpeedFeasible.B2 : List Nat := [0, 1, 0, 7, 15, 31, 0, 0, 143, 463, 975, 2047, 4095, 0, 8591, 24975, 57743, 0, 0, 287119, 942479, 1991055, 4186511, 8380815, 811407, 17596415, 67108863]
theorem spec_DrawSpeedFeasible.tab2 : rtab .any (opsOf Try.f24 2) = spec_DrawSpeedFeasible.T2 := by kernel_rfl
theorem spec_DrawSpeedFeasible.bits2 : waitsOk spec_DrawSpeedFeasible.T2.2 spec_DrawSpeedFeasible.B2 = true := by kernel_rfl
set_option maxHeartbeats 8000000 in
set_option maxRecDepth 100000 in
theorem spec_DrawSpeedFeasible.calls (k : Nat) (A0 : Option Addr) (c0 : Nat) (l0 : List Int) (r1 : List (S29)) (r2 : Int) (r3 : Int) (w : World) (hr0 : Kd.C (Kd.int .u8) w A0 l0.length l0) (hc0 : l0.length ≤ c0) (h : spec_DrawSpeedFeasible.f k l0 = some (r1, r2, r3)) :
    Calls Try.prog 24 #[.slice A0 l0.length c0] w fun e w' => ∃ v0_ : Value, e = .returned (.tuple #[v0_, .int .i64 r2, .int .i64 r3]) ∧ Kd.R k29 29 w' w.heap.size (fun _ => True) v0_ r1 ∧ Below w.heap.size w w' := by
  have HR0 := Aside0.mk hr0
  have HC0 := Aside0.mk hc0
  clear hr0 hc0
  have HB := Aside0.mk (Below.refl w.heap.size w)
  have H : ((spec_l20Open.f l0).bind fun bt101 => ((spec_l20Set.f k bt101.1 bt101.2 12).bind fun bt104 => ((spec_l20Rd_pick.f k bt101.1 bt104.2 20).bind fun bt108 => ((some (([wrap64 (1 + bt108.1), 0, 101] : List Int) : List Int)).bind fun y110 => ((some (([0, 0, 0, 0, 0, 1, 2] : List Int) : List Int)).bind fun y113 => ((spec_l20Rd_pick.f k bt101.1 bt108.2 7).bind fun bt116 => (if 0 ≤ bt116.1 then (if bt116.1 < (y113.length : Int) then (if 0 ≤ (rd y113 bt116.1) then (if (rd y113 bt116.1) < (y110.length : Int) then ((spec_l20Rd_pick.f k bt101.1 bt116.2 12).bind fun bt120 => ((some (([wrap64 (1 + bt120.1), 0, 101] : List Int) : List Int)).bind fun y122 => ((some (([0, 0, 0, 0, 0, 1, 2] : List Int) : List Int)).bind fun y125 => ((spec_l20Rd_pick.f k bt101.1 bt120.2 7).bind fun bt128 => (if 0 ≤ bt128.1 then (if bt128.1 < (y125.length : Int) then (if 0 ≤ (rd y125 bt128.1) then (if (rd y125 bt128.1) < (y122.length : Int) then (some (bt104.1, rd y110 (rd y113 bt116.1), rd y122 (rd y125 bt128.1))) else (none)) else (none)) else (none)) else (none)))))) else (none)) else (none)) else (none)) else (none)))))))) = some (r1, r2, r3) := h
  clear h
  replace H := Option.bind_eq_some_iff.mp H
  obtain ⟨⟨t101, t102⟩, A20, H⟩ := H
  replace H : ((spec_l20Set.f k t101 t102 12).bind fun bt104 => ((spec_l20Rd_pick.f k t101 bt104.2 20).bind fun bt108 => ((some (([wrap64 (1 + bt108.1), 0, 101] : List Int) : List Int)).bind fun y110 => ((some (([0, 0, 0, 0, 0, 1, 2] : List Int) : List Int)).bind fun y113 => ((spec_l20Rd_pick.f k t101 bt108.2 7).bind fun bt116 => (if 0 ≤ bt116.1 then (if bt116.1 < (y113.length : Int) then (if 0 ≤ (rd y113 bt116.1) then (if (rd y113 bt116.1) < (y110.length : Int) then ((spec_l20Rd_pick.f k t101 bt116.2 12).bind fun bt120 => ((some (([wrap64 (1 + bt120.1), 0, 101] : List Int) : List Int)).bind fun y122 => ((some (([0, 0, 0, 0, 0, 1, 2] : List Int) : List Int)).bind fun y125 => ((spec_l20Rd_pick.f k t101 bt120.2 7).bind fun bt128 => (if 0 ≤ bt128.1 then (if bt128.1 < (y125.length : Int) then (if 0 ≤ (rd y125 bt128.1) then (if (rd y125 bt128.1) < (y122.length : Int) then (some (bt104.1, rd y110 (rd y113 bt116.1), rd y122 (rd y125 bt128.1))) else (none)) else (none)) else (none)) else (none)))))) else (none)) else (none)) else (none)) else (none))))))) = some (r1, r2, r3) := H
  have A2 := Aside0.mk A20
  clear A20
  replace H := Option.bind_eq_some_iff.mp H
  obtain ⟨⟨t104, t107⟩, A30, H⟩ := H
  replace H : ((spec_l20Rd_pick.f k t101 t107 20).bind fun bt108 => ((some (([wrap64 (1 + bt108.1), 0, 101] : List Int) : List Int)).bind fun y110 => ((some (([0, 0, 0, 0, 0, 1, 2] : List Int) : List Int)).bind fun y113 => ((spec_l20Rd_pick.f k t101 bt108.2 7).bind fun bt116 => (if 0 ≤ bt116.1 then (if bt116.1 < (y113.length : Int) then (if 0 ≤ (rd y113 bt116.1) then (if (rd y113 bt116.1) < (y110.length : Int) then ((spec_l20Rd_pick.f k t101 bt116.2 12).bind fun bt120 => ((some (([wrap64 (1 + bt120.1), 0, 101] : List Int) : List Int)).bind fun y122 => ((some (([0, 0, 0, 0, 0, 1, 2] : List Int) : List Int)).bind fun y125 => ((spec_l20Rd_pick.f k t101 bt120.2 7).bind fun bt128 => (if 0 ≤ bt128.1 then (if bt128.1 < (y125.length : Int) then (if 0 ≤ (rd y125 bt128.1) then (if (rd y125 bt128.1) < (y122.length : Int) then (some (t104, rd y110 (rd y113 bt116.1), rd y122 (rd y125 bt128.1))) else (none)) else (none)) else (none)) else (none)))))) else (none)) else (none)) else (none)) else (none)))))) = some (r1, r2, r3) := H
  have A3 := Aside0.mk A30
  clear A30
  replace H := Option.bind_eq_some_iff.mp H
  obtain ⟨⟨t108, t109⟩, A40, H⟩ := H
  replace H : ((some (([wrap64 (1 + t108), 0, 101] : List Int) : List Int)).bind fun y110 => ((some (([0, 0, 0, 0, 0, 1, 2] : List Int) : List Int)).bind fun y113 => ((spec_l20Rd_pick.f k t101 t109 7).bind fun bt116 => (if 0 ≤ bt116.1 then (if bt116.1 < (y113.length : Int) then (if 0 ≤ (rd y113 bt116.1) then (if (rd y113 bt116.1) < (y110.length : Int) then ((spec_l20Rd_pick.f k t101 bt116.2 12).bind fun bt120 => ((some (([wrap64 (1 + bt120.1), 0, 101] : List Int) : List Int)).bind fun y122 => ((some (([0, 0, 0, 0, 0, 1, 2] : List Int) : List Int)).bind fun y125 => ((spec_l20Rd_pick.f k t101 bt120.2 7).bind fun bt128 => (if 0 ≤ bt128.1 then (if bt128.1 < (y125.length : Int) then (if 0 ≤ (rd y125 bt128.1) then (if (rd y125 bt128.1) < (y122.length : Int) then (some (t104, rd y110 (rd y113 bt116.1), rd y122 (rd y125 bt128.1))) else (none)) else (none)) else (none)) else (none)))))) else (none)) else (none)) else (none)) else (none))))) = some (r1, r2, r3) := H
  have A4 := Aside0.mk A40
  clear A40
  obtain ⟨y110, hy110⟩ : ∃ y_ : List Int, y_ = (([wrap64 (1 + t108), 0, 101] : List Int)) := ⟨_, rfl⟩
  replace H : ((some (([0, 0, 0, 0, 0, 1, 2] : List Int) : List Int)).bind fun y113 => ((spec_l20Rd_pick.f k t101 t109 7).bind fun bt116 => (if 0 ≤ bt116.1 then (if bt116.1 < (y113.length : Int) then (if 0 ≤ (rd y113 bt116.1) then (if (rd y113 bt116.1) < (y110.length : Int) then ((spec_l20Rd_pick.f k t101 bt116.2 12).bind fun bt120 => ((some (([wrap64 (1 + bt120.1), 0, 101] : List Int) : List Int)).bind fun y122 => ((some (([0, 0, 0, 0, 0, 1, 2] : List Int) : List Int)).bind fun y125 => ((spec_l20Rd_pick.f k t101 bt120.2 7).bind fun bt128 => (if 0 ≤ bt128.1 then (if bt128.1 < (y125.length : Int) then (if 0 ≤ (rd y125 bt128.1) then (if (rd y125 bt128.1) < (y122.length : Int) then (some (t104, rd y110 (rd y113 bt116.1), rd y122 (rd y125 bt128.1))) else (none)) else (none)) else (none)) else (none)))))) else (none)) else (none)) else (none)) else (none)))) = some (r1, r2, r3) := by first | (rw [hy110]; with_reducible exact H) | (have H2_ := (Option.bind_some _ _).symm.trans H; rw [hy110]; with_reducible exact H2_) | (have H2_ := (Option.bind_some _ _).symm.trans H; with_reducible exact H2_) | with_reducible exact H | (rw [hy110]; exact H) | exact H
  have Ny110 := Aside0.mk hy110
  clear hy110
  obtain ⟨y113, hy113⟩ : ∃ y_ : List Int, y_ = (([0, 0, 0, 0, 0, 1, 2] : List Int)) := ⟨_, rfl⟩
  replace H : ((spec_l20Rd_pick.f k t101 t109 7).bind fun bt116 => (if 0 ≤ bt116.1 then (if bt116.1 < (y113.length : Int) then (if 0 ≤ (rd y113 bt116.1) then (if (rd y113 bt116.1) < (y110.length : Int) then ((spec_l20Rd_pick.f k t101 bt116.2 12).bind fun bt120 => ((some (([wrap64 (1 + bt120.1), 0, 101] : List Int) : List Int)).bind fun y122 => ((some (([0, 0, 0, 0, 0, 1, 2] : List Int) : List Int)).bind fun y125 => ((spec_l20Rd_pick.f k t101 bt120.2 7).bind fun bt128 => (if 0 ≤ bt128.1 then (if bt128.1 < (y125.length : Int) then (if 0 ≤ (rd y125 bt128.1) then (if (rd y125 bt128.1) < (y122.length : Int) then (some (t104, rd y110 (rd y113 bt116.1), rd y122 (rd y125 bt128.1))) else (none)) else (none)) else (none)) else (none)))))) else (none)) else (none)) else (none)) else (none))) = some (r1, r2, r3) := by first | (rw [hy113]; with_reducible exact H) | (have H2_ := (Option.bind_some _ _).symm.trans H; rw [hy113]; with_reducible exact H2_) | (have H2_ := (Option.bind_some _ _).symm.trans H; with_reducible exact H2_) | with_reducible exact H | (rw [hy113]; exact H) | exact H
  have Ny113 := Aside0.mk hy113
  clear hy113
  replace H := Option.bind_eq_some_iff.mp H
  obtain ⟨⟨t116, t117⟩, A50, H⟩ := H
  replace H : (if 0 ≤ t116 then (if t116 < (y113.length : Int) then (if 0 ≤ (rd y113 t116) then (if (rd y113 t116) < (y110.length : Int) then ((spec_l20Rd_pick.f k t101 t117 12).bind fun bt120 => ((some (([wrap64 (1 + bt120.1), 0, 101] : List Int) : List Int)).bind fun y122 => ((some (([0, 0, 0, 0, 0, 1, 2] : List Int) : List Int)).bind fun y125 => ((spec_l20Rd_pick.f k t101 bt120.2 7).bind fun bt128 => (if 0 ≤ bt128.1 then (if bt128.1 < (y125.length : Int) then (if 0 ≤ (rd y125 bt128.1) then (if (rd y125 bt128.1) < (y122.length : Int) then (some (t104, rd y110 (rd y113 t116), rd y122 (rd y125 bt128.1))) else (none)) else (none)) else (none)) else (none)))))) else (none)) else (none)) else (none)) else (none)) = some (r1, r2, r3) := H
  have A5 := Aside0.mk A50
  clear A50
  by_cases c6 : 0 ≤ t116
  · rw [if_pos c6] at H
    have c6b0 : decide (0 ≤ t116) = true := decide_eq_true c6
    clear c6
    by_cases c7 : t116 < (y113.length : Int)
    · rw [if_pos c7] at H
      have c7b0 : decide (t116 < (y113.length : Int)) = true := decide_eq_true c7
      clear c7
      by_cases c8 : 0 ≤ (rd y113 t116)
      · rw [if_pos c8] at H
        have c8b0 : decide (0 ≤ (rd y113 t116)) = true := decide_eq_true c8
        clear c8
        by_cases c9 : (rd y113 t116) < (y110.length : Int)
        · rw [if_pos c9] at H
          have c9b0 : decide ((rd y113 t116) < (y110.length : Int)) = true := decide_eq_true c9
          clear c9
          replace H := Option.bind_eq_some_iff.mp H
          obtain ⟨⟨t120, t121⟩, A100, H⟩ := H
          replace H : ((some (([wrap64 (1 + t120), 0, 101] : List Int) : List Int)).bind fun y122 => ((some (([0, 0, 0, 0, 0, 1, 2] : List Int) : List Int)).bind fun y125 => ((spec_l20Rd_pick.f k t101 t121 7).bind fun bt128 => (if 0 ≤ bt128.1 then (if bt128.1 < (y125.length : Int) then (if 0 ≤ (rd y125 bt128.1) then (if (rd y125 bt128.1) < (y122.length : Int) then (some (t104, rd y110 (rd y113 t116), rd y122 (rd y125 bt128.1))) else (none)) else (none)) else (none)) else (none))))) = some (r1, r2, r3) := H
          have A10 := Aside0.mk A100
          clear A100
          obtain ⟨y122, hy122⟩ : ∃ y_ : List Int, y_ = (([wrap64 (1 + t120), 0, 101] : List Int)) := ⟨_, rfl⟩
          replace H : ((some (([0, 0, 0, 0, 0, 1, 2] : List Int) : List Int)).bind fun y125 => ((spec_l20Rd_pick.f k t101 t121 7).bind fun bt128 => (if 0 ≤ bt128.1 then (if bt128.1 < (y125.length : Int) then (if 0 ≤ (rd y125 bt128.1) then (if (rd y125 bt128.1) < (y122.length : Int) then (some (t104, rd y110 (rd y113 t116), rd y122 (rd y125 bt128.1))) else (none)) else (none)) else (none)) else (none)))) = some (r1, r2, r3) := by first | (rw [hy122]; with_reducible exact H) | (have H2_ := (Option.bind_some _ _).symm.trans H; rw [hy122]; with_reducible exact H2_) | (have H2_ := (Option.bind_some _ _).symm.trans H; with_reducible exact H2_) | with_reducible exact H | (rw [hy122]; exact H) | exact H
          have Ny122 := Aside0.mk hy122
          clear hy122
          obtain ⟨y125, hy125⟩ : ∃ y_ : List Int, y_ = (([0, 0, 0, 0, 0, 1, 2] : List Int)) := ⟨_, rfl⟩
          replace H : ((spec_l20Rd_pick.f k t101 t121 7).bind fun bt128 => (if 0 ≤ bt128.1 then (if bt128.1 < (y125.length : Int) then (if 0 ≤ (rd y125 bt128.1) then (if (rd y125 bt128.1) < (y122.length : Int) then (some (t104, rd y110 (rd y113 t116), rd y122 (rd y125 bt128.1))) else (none)) else (none)) else (none)) else (none))) = some (r1, r2, r3) := by first | (rw [hy125]; with_reducible exact H) | (have H2_ := (Option.bind_some _ _).symm.trans H; rw [hy125]; with_reducible exact H2_) | (have H2_ := (Option.bind_some _ _).symm.trans H; with_reducible exact H2_) | with_reducible exact H | (rw [hy125]; exact H) | exact H
          have Ny125 := Aside0.mk hy125
          clear hy125
          replace H := Option.bind_eq_some_iff.mp H
          obtain ⟨⟨t128, t129⟩, A110, H⟩ := H
          replace H : (if 0 ≤ t128 then (if t128 < (y125.length : Int) then (if 0 ≤ (rd y125 t128) then (if (rd y125 t128) < (y122.length : Int) then (some (t104, rd y110 (rd y113 t116), rd y122 (rd y125 t128))) else (none)) else (none)) else (none)) else (none)) = some (r1, r2, r3) := H
          have A11 := Aside0.mk A110
          clear A110
          by_cases c12 : 0 ≤ t128
          · rw [if_pos c12] at H
            have c12b0 : decide (0 ≤ t128) = true := decide_eq_true c12
            clear c12
            by_cases c13 : t128 < (y125.length : Int)
            · rw [if_pos c13] at H
              have c13b0 : decide (t128 < (y125.length : Int)) = true := decide_eq_true c13
              clear c13
              by_cases c14 : 0 ≤ (rd y125 t128)
              · rw [if_pos c14] at H
                have c14b0 : decide (0 ≤ (rd y125 t128)) = true := decide_eq_true c14
                clear c14
                by_cases c15 : (rd y125 t128) < (y122.length : Int)
                · rw [if_pos c15] at H
                  have c15b0 : decide ((rd y125 t128) < (y122.length : Int)) = true := decide_eq_true c15
                  clear c15
                  simp only [Option.some.injEq, Prod.mk.injEq] at H
                  obtain ⟨rfl, rfl, rfl⟩ := H
                  go_enter Try.func24, Try.ntmps24
                  try go_wp2_with (first | ((with_reducible refine gate_callee (f := 35) rfl ?_); refine goesL_ (some 7) rfl rfl Try.func35 (by kernel_rfl) rfl #[.slice A0 l0.length c0] rfl (by (try simp only [List.map_toArray, List.map_cons, List.map_nil]); first | done | rfl | (simp only [List.length_drop, List.length_take]; rfl)) ?_; (with_reducible refine (spec_l20Open.calls _ _ l0 t101 t102 w _ ?side1 ?side2 ?side3 A2.out).mono ?_); (case side1 => repeat (first | (with_reducible first | exact HB.out | apply below_alloc | apply pw_below_drewN | apply below_drew1) | exact HB.out)); (case side2 => exact HR0.out); (case side3 => exact HC0.out); rintro e w16 ⟨g103, rfl, hi, hb, hb2⟩; refine ⟨_, rfl, ?_⟩; have n0_ := Aside0.mk (hb); have n1_ := Aside0.mk (hi); clear HB; have HB := n0_; have HI103 := n1_; clear n0_ n1_; (try clear hb); (try clear hb2); (try clear hk); (try clear hi)))
                  have pi118 : (0 ≤ (t116 : Int)) = True := eq_true (of_decide_eq_true (by first | (with_reducible assumption) | assumption))
                  have qi118 : (t116 < (y113.length : Int)) = True := eq_true (of_decide_eq_true (by first | (with_reducible assumption) | assumption))
                  have pi119 : (0 ≤ ((rd y113 t116) : Int)) = True := eq_true (of_decide_eq_true (by first | (with_reducible assumption) | assumption))
                  have qi119 : ((rd y113 t116) < (y110.length : Int)) = True := eq_true (of_decide_eq_true (by first | (with_reducible assumption) | assumption))
                  have pi130 : (0 ≤ (t128 : Int)) = True := eq_true (of_decide_eq_true (by first | (with_reducible assumption) | assumption))
                  have qi130 : (t128 < (y125.length : Int)) = True := eq_true (of_decide_eq_true (by first | (with_reducible assumption) | assumption))
                  have pi131 : (0 ≤ ((rd y125 t128) : Int)) = True := eq_true (of_decide_eq_true (by first | (with_reducible assumption) | assumption))
                  have qi131 : ((rd y125 t128) < (y122.length : Int)) = True := eq_true (of_decide_eq_true (by first | (with_reducible assumption) | assumption))
                  have n0_ := Aside0.mk (IsS57.drew HI103.out)
                  have n1_ := Aside0.mk (below_drew1 HB.out)
                  clear HI103
                  clear HB
                  have HI103 := n0_
                  have HB := n1_
                  clear n0_ n1_
                  refine start_ (n := 27) (S := fun w' => True) (ds := []) #[false, false, false, false, false, false, false, false, false, false, false, false, false, false, false, false, false, false, false, false, false, false, false, false, false, false, false] (by kernel_rfl) rfl rfl trivial (fun hHeld => ?_); refine with_tabW spec_DrawSpeedFeasible.tab2 spec_DrawSpeedFeasible.bits2 (fun HT_ HW_ => ?_)
                  generalize w16.drew = w17 at HI103 HB hHeld ⊢
                  refine pure_ (i := 0) (N := some 8) (v := ?_) (a' := ?_) #[true, false, false, false, false, false, false, false, false, false, false, false, false, false, false, false, false, false, false, false, false, false, false, false, false, false, false] rfl rfl (any_of HT_.out (by kernel_rfl)) (fun _ _ _ h => h) (Or.inl ⟨by rfl, ?_⟩) ?_ ?_
                  rotate_left
                  · intro w'
                    go_simp
                    with_reducible rfl
                  rotate_left
                  · simp only [Act.put, List.setIfInBounds_toArray, List.set_cons_zero, List.set_cons_succ, i64_w, i32_w]
                    rfl
                  refine pure_ (i := 2) (N := some 10) (v := ?_) (a' := ?_) #[true, false, true, false, false, false, false, false, false, false, false, false, false, false, false, false, false, false, false, false, false, false, false, false, false, false, false] rfl rfl (any_of HT_.out (by kernel_rfl)) (fun _ _ _ h => h) (Or.inl ⟨by rfl, ?_⟩) ?_ ?_
                  rotate_left
                  · intro w'
                    go_simp
                    with_reducible rfl
                  rotate_left
                  · simp only [Act.put, List.setIfInBounds_toArray, List.set_cons_zero, List.set_cons_succ, i64_w, i32_w]
                    rfl
                  refine pure_ (i := 7) (N := some 15) (v := ?_) (a' := ?_) #[true, false, true, false, false, false, false, true, false, false, false, false, false, false, false, false, false, false, false, false, false, false, false, false, false, false, false] rfl rfl (any_of HT_.out (by kernel_rfl)) (fun _ _ _ h => h) (Or.inl ⟨by rfl, ?_⟩) ?_ ?_
                  rotate_left
                  · intro w'
                    go_simp
                    with_reducible rfl
                  rotate_left
                  · simp only [Act.put, List.setIfInBounds_toArray, List.set_cons_zero, List.set_cons_succ, i64_w, i32_w]
                    rfl
                  refine pure_ (i := 13) (N := some 21) (v := ?_) (a' := ?_) #[true, false, true, false, false, false, false, true, false, false, false, false, false, true, false, false, false, false, false, false, false, false, false, false, false, false, false] rfl rfl (any_of HT_.out (by kernel_rfl)) (fun _ _ _ h => h) (Or.inl ⟨by rfl, ?_⟩) ?_ ?_
                  rotate_left
                  · intro w'
                    go_simp
                    with_reducible rfl
                  rotate_left
                  · simp only [Act.put, List.setIfInBounds_toArray, List.set_cons_zero, List.set_cons_succ, i64_w, i32_w]
                    rfl
                  refine pure_ (i := 18) (N := some 26) (v := ?_) (a' := ?_) #[true, false, true, false, false, false, false, true, false, false, false, false, false, true, false, false, false, false, true, false, false, false, false, false, false, false, false] rfl rfl (any_of HT_.out (by kernel_rfl)) (fun _ _ _ h => h) (Or.inl ⟨by rfl, ?_⟩) ?_ ?_
                  rotate_left
                  · intro w'
                    go_simp
                    with_reducible rfl
                  rotate_left
                  · simp only [Act.put, List.setIfInBounds_toArray, List.set_cons_zero, List.set_cons_succ, i64_w, i32_w]
                    rfl
                  refine inv_at [1, 3, 4, 5, 6, 8, 9, 10, 11, 12, 14, 15, 16, 17, 19, 20, 21, 22, 23, 24, 25, 26] (fun a0_ b a w' => ∃ (v105 : Value) (v111 : Value) (adz_v111 : Addr) (v114 : Value) (adz_v114 : Addr) (v123 : Value) (adz_v123 : Addr) (v126 : Value) (adz_v126 : Addr) (m9_ : Value) (m11_ : Value) (m20_ : Value) (m22_ : Value) (m24_ : Value), a = putSel a0_ b [(1, 9, v105), (3, 11, .int .i64 t108), (4, 12, .int .i64 (wrap64 (1 + t108))), (5, 13, v111), (6, 14, v114), (8, 16, .int .i64 t116), (9, 17, m9_), (10, 18, .int .i64 (rd y113 t116)), (11, 19, m11_), (12, 20, .int .i64 (rd y110 (rd y113 t116))), (14, 22, .int .i64 t120), (15, 23, .int .i64 (wrap64 (1 + t120))), (16, 24, v123), (17, 25, v126), (19, 27, .int .i64 t128), (20, 28, m20_), (21, 29, .int .i64 (rd y125 t128)), (22, 30, m22_), (23, 31, .int .i64 (rd y122 (rd y125 t128))), (24, 2, m24_), (25, 3, .int .i64 (rd y110 (rd y113 t116))), (26, 4, .int .i64 (rd y122 (rd y125 t128)))] ∧ (b 1 = false → IsS57 w w' g103 t101 t102) ∧ (Below w.heap.size w w') ∧ (b 1 = true → Kd.R k29 29 w' w.heap.size (fun _ => True) v105 t104) ∧ (b 1 = true → b 3 = false → IsS57 w w' g103 t101 t107) ∧ (b 3 = true → b 8 = false → IsS57 w w' g103 t101 t109) ∧ (b 5 = true → Kd.R (Kd.int .i64) 3 w' w.heap.size (fun _ => True) v111 y110) ∧ (b 5 = true → ∃ c_, (v111 : Value) = .slice (some adz_v111) y110.length c_) ∧ (b 6 = true → Kd.R (Kd.int .i64) 3 w' w.heap.size (fun _ => True) v114 y113) ∧ (b 6 = true → ∃ c_, (v114 : Value) = .slice (some adz_v114) y113.length c_) ∧ (b 8 = true → b 14 = false → IsS57 w w' g103 t101 t117) ∧ (b 14 = true → b 19 = false → IsS57 w w' g103 t101 t121) ∧ (b 16 = true → Kd.R (Kd.int .i64) 3 w' w.heap.size (fun _ => True) v123 y122) ∧ (b 16 = true → ∃ c_, (v123 : Value) = .slice (some adz_v123) y122.length c_) ∧ (b 17 = true → Kd.R (Kd.int .i64) 3 w' w.heap.size (fun _ => True) v126 y125) ∧ (b 17 = true → ∃ c_, (v126 : Value) = .slice (some adz_v126) y125.length c_) ∧ (b 19 = true → IsS57 w w' g103 t101 t129) ∧ (b 9 = true → (m9_ : Value) = .pointer (some (adz_v114.add (t116).toNat))) ∧ (b 11 = true → (m11_ : Value) = .pointer (some (adz_v111.add ((rd y113 t116)).toNat))) ∧ (b 20 = true → (m20_ : Value) = .pointer (some (adz_v126.add (t128).toNat))) ∧ (b 22 = true → (m22_ : Value) = .pointer (some (adz_v123.add ((rd y125 t128)).toNat))) ∧ (b 24 = true → (m24_ : Value) = v105)) HT_.out HW_.out (by kernel_rfl) (by kernel_rfl) ?_ ?_ ?_
                  · exact ⟨.bool false, .bool false, ⟨0, 0, none⟩, .bool false, ⟨0, 0, none⟩, .bool false, ⟨0, 0, none⟩, .bool false, ⟨0, 0, none⟩, .bool false, .bool false, .bool false, .bool false, .bool false, by simp only [putSel, Bool.false_eq_true, if_false], fun _ => HI103.out, HB.out, fun h_ => absurd h_ (by decide), fun h_ => absurd h_ (by decide), fun h_ => absurd h_ (by decide), fun h_ => absurd h_ (by decide), fun h_ => absurd h_ (by decide), fun h_ => absurd h_ (by decide), fun h_ => absurd h_ (by decide), fun h_ => absurd h_ (by decide), fun h_ => absurd h_ (by decide), fun h_ => absurd h_ (by decide), fun h_ => absurd h_ (by decide), fun h_ => absurd h_ (by decide), fun h_ => absurd h_ (by decide), fun h_ => absurd h_ (by decide), fun h_ => absurd h_ (by decide), fun h_ => absurd h_ (by decide), fun h_ => absurd h_ (by decide), fun h_ => absurd h_ (by decide), fun h_ => absurd h_ (by decide)⟩
                  · skip
                    clear HB HI103
                    refine steps_cons ?_ ?_
                    · rintro b a w' ⟨v105, v111, adz_v111, v114, adz_v114, v123, adz_v123, v126, adz_v126, m9_, m11_, m20_, m22_, m24_, ha, Q_HI103, Q_HB, Q_HO106, Q_HI103_e1, Q_HI103_e3, Q_HO112, Q_HA_HO112, Q_HO115, Q_HA_HO115, Q_HI103_e8, Q_HI103_e14, Q_HO124, Q_HA_HO124, Q_HO127, Q_HA_HO127, Q_HI103_e19, Q_X9_, Q_X11_, Q_X20_, Q_X22_, Q_X24_⟩ hb_ hon hoff
                      refine ⟨_, rfl, fun K hK => ?_⟩
                      have e8 : a.tmps[8]? = some (.pointer (some ⟨g103, 0, none⟩)) := by rw [ha]; exact (putSel_off rfl).trans rfl
                      replace ha := Aside0.mk ha
                      have HI103 := Aside0.mk (Q_HI103 hb_)
                      have HB := Aside0.mk Q_HB
                      refine goes_ Try.func34 (by kernel_rfl) rfl #[.pointer (some ⟨g103, 0, none⟩), .int .i64 12] (by rfl) rfl rfl (by first | (simp only [List.map_toArray, List.map_cons, List.map_nil, Act.eval, Array.getD_eq_getD_getElem?, Option.getD_some, e8]; done) | (simp only [List.map_toArray, List.map_cons, List.map_nil, Act.eval, Array.getD_eq_getD_getElem?, Option.getD_some, e8]; rfl)) ?_
                      with_reducible refine (spec_l20Set.calls k g103 t101 t102 12 t104 t107 w _ ?side1 ?side2 A3.out).mono ?_
                      (case side1 => repeat (first | (with_reducible first | exact HI103.out | apply IsS57.alloc | apply IsS57.drewN | apply IsS57.drew | apply IsS57.set_1) | exact HI103.out))
                      (case side2 => repeat (first | (with_reducible first | exact HB.out | apply below_alloc | apply pw_below_drewN | apply below_drew1 | refine below_set ?_ (IsS57.ge HI103.out)) | exact HB.out))
                      rintro e w18 ⟨v105, rfl, ho0, hi, hb, hk⟩
                      refine ⟨_, rfl, ?_⟩
                      have n0_ := Aside0.mk (Kd.R_lower ho0 (below_size (by repeat (first | (with_reducible first | exact HB.out | apply below_alloc | apply pw_below_drewN | apply below_drew1 | refine below_set ?_ (IsS57.ge HI103.out)) | exact HB.out))))
                      have n1_ := Aside0.mk (hb)
                      have n2_ := Aside0.mk (hi)
                      have z_HO115 := fun (h0_ : b 6 = true) => (show Kd.R (Kd.int .i64) 3 w18 w.heap.size (fun _ => True) v114 y113 from by first | exact (Kd.R_mono (Kd.R_keep (IsS57.apart (show IsS57 w _ g103 t101 t102 from by repeat (first | (with_reducible first | exact HI103.out | apply IsS57.alloc | apply IsS57.drewN | apply IsS57.drew | apply IsS57.set_1) | exact HI103.out)) (by (with_reducible repeat (first | apply Kd.R_alloc | apply Kd.R_drewN | apply Kd.R_drew)); exact (Q_HO115 h0_)) (by decide)) hk (fun _ h => h.2)) (fun _ h => h.1)) | exact Kd.R_mono (Kd.R_mono (Kd.R_keep (IsS57.apart (show IsS57 w _ g103 t101 t102 from by repeat (first | (with_reducible first | exact HI103.out | apply IsS57.alloc | apply IsS57.drewN | apply IsS57.drew | apply IsS57.set_1) | exact HI103.out)) (by (with_reducible repeat (first | apply Kd.R_alloc | apply Kd.R_drewN | apply Kd.R_drew)); exact (Q_HO115 h0_)) (by decide)) hk (fun _ h => h.2)) (fun _ h => h.1)) (fun _ h_ => by first | trivial | exact h_ | exact h_.1))
                      have z_HO127 := fun (h0_ : b 17 = true) => (show Kd.R (Kd.int .i64) 3 w18 w.heap.size (fun _ => True) v126 y125 from by first | exact (Kd.R_mono (Kd.R_keep (IsS57.apart (show IsS57 w _ g103 t101 t102 from by repeat (first | (with_reducible first | exact HI103.out | apply IsS57.alloc | apply IsS57.drewN | apply IsS57.drew | apply IsS57.set_1) | exact HI103.out)) (by (with_reducible repeat (first | apply Kd.R_alloc | apply Kd.R_drewN | apply Kd.R_drew)); exact (Q_HO127 h0_)) (by decide)) hk (fun _ h => h.2)) (fun _ h => h.1)) | exact Kd.R_mono (Kd.R_mono (Kd.R_keep (IsS57.apart (show IsS57 w _ g103 t101 t102 from by repeat (first | (with_reducible first | exact HI103.out | apply IsS57.alloc | apply IsS57.drewN | apply IsS57.drew | apply IsS57.set_1) | exact HI103.out)) (by (with_reducible repeat (first | apply Kd.R_alloc | apply Kd.R_drewN | apply Kd.R_drew)); exact (Q_HO127 h0_)) (by decide)) hk (fun _ h => h.2)) (fun _ h => h.1)) (fun _ h_ => by first | trivial | exact h_ | exact h_.1))
                      clear HB
                      clear HI103
                      have HO106 := n0_
                      have HB := n1_
                      have HI103 := n2_
                      clear n0_ n1_ n2_
                      (try clear hb)
                      (try clear hb2)
                      (try clear hk)
                      (try clear hi)
                      (try clear ho0)
                      refine hK.out _ _ ⟨v105, v111, adz_v111, v114, adz_v114, v123, adz_v123, v126, adz_v126, m9_, m11_, m20_, m22_, m24_, (by rw [ha.out]; exact putSel_upk 0 hb_ rfl rfl rfl), fun h0_ => absurd ((up_self b 1).symm.trans h0_) (by decide), (by repeat (first | (with_reducible first | exact HB.out | apply below_alloc | apply pw_below_drewN | apply below_drew1 | refine below_set ?_ (IsS57.ge HI103.out)) | exact HB.out)), fun _ => (by (with_reducible repeat (first | apply Kd.R_alloc | apply Kd.R_drewN | apply Kd.R_drew)); exact HO106.out), fun _ _ => (by repeat (first | (with_reducible first | exact HI103.out | apply IsS57.alloc | apply IsS57.drewN | apply IsS57.drew | apply IsS57.set_1) | exact HI103.out)), fun h0_ _ => absurd ((hoff 3 (by kernel_rfl)).symm.trans h0_) (by decide), fun h0_ => absurd ((hoff 5 (by kernel_rfl)).symm.trans h0_) (by decide), fun h0_ => absurd ((hoff 5 (by kernel_rfl)).symm.trans h0_) (by decide), z_HO115, Q_HA_HO115, fun h0_ _ => absurd ((hoff 8 (by kernel_rfl)).symm.trans h0_) (by decide), fun h0_ _ => absurd ((hoff 14 (by kernel_rfl)).symm.trans h0_) (by decide), fun h0_ => absurd ((hoff 16 (by kernel_rfl)).symm.trans h0_) (by decide), fun h0_ => absurd ((hoff 16 (by kernel_rfl)).symm.trans h0_) (by decide), z_HO127, Q_HA_HO127, fun h0_ => absurd ((hoff 19 (by kernel_rfl)).symm.trans h0_) (by decide), fun h0_ => absurd ((hoff 9 (by kernel_rfl)).symm.trans h0_) (by decide), fun h0_ => absurd ((hoff 11 (by kernel_rfl)).symm.trans h0_) (by decide), fun h0_ => absurd ((hoff 20 (by kernel_rfl)).symm.trans h0_) (by decide), fun h0_ => absurd ((hoff 22 (by kernel_rfl)).symm.trans h0_) (by decide), fun h0_ => absurd ((hoff 24 (by kernel_rfl)).symm.trans h0_) (by decide)⟩
                    refine steps_cons ?_ ?_
                    · rintro b a w' ⟨v105, v111, adz_v111, v114, adz_v114, v123, adz_v123, v126, adz_v126, m9_, m11_, m20_, m22_, m24_, ha, Q_HI103, Q_HB, Q_HO106, Q_HI103_e1, Q_HI103_e3, Q_HO112, Q_HA_HO112, Q_HO115, Q_HA_HO115, Q_HI103_e8, Q_HI103_e14, Q_HO124, Q_HA_HO124, Q_HO127, Q_HA_HO127, Q_HI103_e19, Q_X9_, Q_X11_, Q_X20_, Q_X22_, Q_X24_⟩ hb_ hon hoff
                      refine ⟨_, rfl, fun K hK => ?_⟩
                      have e10 : a.tmps[10]? = some (.pointer (some ⟨g103, 0, none⟩)) := by rw [ha]; exact (putSel_off rfl).trans rfl
                      replace ha := Aside0.mk ha
                      have HB := Aside0.mk Q_HB
                      have HO106 := Aside0.mk (Q_HO106 (hon 1 (by kernel_rfl)))
                      have HI103 := Aside0.mk (Q_HI103_e1 (hon 1 (by kernel_rfl)) hb_)
                      refine goes_ Try.func51 (by kernel_rfl) rfl #[.pointer (some ⟨g103, 0, none⟩), .int .i64 20] (by rfl) rfl rfl (by first | (simp only [List.map_toArray, List.map_cons, List.map_nil, Act.eval, Array.getD_eq_getD_getElem?, Option.getD_some, e10]; done) | (simp only [List.map_toArray, List.map_cons, List.map_nil, Act.eval, Array.getD_eq_getD_getElem?, Option.getD_some, e10]; rfl)) ?_
                      with_reducible refine (spec_l20Rd_pick.calls k g103 t101 t107 20 t108 t109 w _ ?side1 ?side2 A4.out).mono ?_
                      (case side1 => repeat (first | (with_reducible first | exact HI103.out | apply IsS57.alloc | apply IsS57.drewN | apply IsS57.drew | apply IsS57.set_1) | exact HI103.out))
                      (case side2 => repeat (first | (with_reducible first | exact HB.out | apply below_alloc | apply pw_below_drewN | apply below_drew1 | refine below_set ?_ (IsS57.ge HI103.out)) | exact HB.out))
                      rintro e w20 ⟨rfl, hi, hb, hk⟩
                      refine ⟨_, rfl, ?_⟩
                      have n0_ := Aside0.mk (Kd.R_mono (Kd.R_keep (IsS57.apart (show IsS57 w _ g103 t101 t107 from by repeat (first | (with_reducible first | exact HI103.out | apply IsS57.alloc | apply IsS57.drewN | apply IsS57.drew | apply IsS57.set_1) | exact HI103.out)) (by (with_reducible repeat (first | apply Kd.R_alloc | apply Kd.R_drewN | apply Kd.R_drew)); exact HO106.out) (by decide)) hk (fun _ h => h.2)) (fun _ h => h.1))
                      have n1_ := Aside0.mk (hb)
                      have n2_ := Aside0.mk (hi)
                      have z_HO115 := fun (h0_ : b 6 = true) => (show Kd.R (Kd.int .i64) 3 w20 w.heap.size (fun _ => True) v114 y113 from by first | exact (Kd.R_mono (Kd.R_keep (IsS57.apart (show IsS57 w _ g103 t101 t107 from by repeat (first | (with_reducible first | exact HI103.out | apply IsS57.alloc | apply IsS57.drewN | apply IsS57.drew | apply IsS57.set_1) | exact HI103.out)) (by (with_reducible repeat (first | apply Kd.R_alloc | apply Kd.R_drewN | apply Kd.R_drew)); exact (Q_HO115 h0_)) (by decide)) hk (fun _ h => h.2)) (fun _ h => h.1)) | exact Kd.R_mono (Kd.R_mono (Kd.R_keep (IsS57.apart (show IsS57 w _ g103 t101 t107 from by repeat (first | (with_reducible first | exact HI103.out | apply IsS57.alloc | apply IsS57.drewN | apply IsS57.drew | apply IsS57.set_1) | exact HI103.out)) (by (with_reducible repeat (first | apply Kd.R_alloc | apply Kd.R_drewN | apply Kd.R_drew)); exact (Q_HO115 h0_)) (by decide)) hk (fun _ h => h.2)) (fun _ h => h.1)) (fun _ h_ => by first | trivial | exact h_ | exact h_.1))
                      have z_HO127 := fun (h0_ : b 17 = true) => (show Kd.R (Kd.int .i64) 3 w20 w.heap.size (fun _ => True) v126 y125 from by first | exact (Kd.R_mono (Kd.R_keep (IsS57.apart (show IsS57 w _ g103 t101 t107 from by repeat (first | (with_reducible first | exact HI103.out | apply IsS57.alloc | apply IsS57.drewN | apply IsS57.drew | apply IsS57.set_1) | exact HI103.out)) (by (with_reducible repeat (first | apply Kd.R_alloc | apply Kd.R_drewN | apply Kd.R_drew)); exact (Q_HO127 h0_)) (by decide)) hk (fun _ h => h.2)) (fun _ h => h.1)) | exact Kd.R_mono (Kd.R_mono (Kd.R_keep (IsS57.apart (show IsS57 w _ g103 t101 t107 from by repeat (first | (with_reducible first | exact HI103.out | apply IsS57.alloc | apply IsS57.drewN | apply IsS57.drew | apply IsS57.set_1) | exact HI103.out)) (by (with_reducible repeat (first | apply Kd.R_alloc | apply Kd.R_drewN | apply Kd.R_drew)); exact (Q_HO127 h0_)) (by decide)) hk (fun _ h => h.2)) (fun _ h => h.1)) (fun _ h_ => by first | trivial | exact h_ | exact h_.1))
                      clear HO106
                      clear HB
                      clear HI103
                      have HO106 := n0_
                      have HB := n1_
                      have HI103 := n2_
                      clear n0_ n1_ n2_
                      (try clear hb)
                      (try clear hb2)
                      (try clear hk)
                      (try clear hi)
                      refine hK.out _ _ ⟨v105, v111, adz_v111, v114, adz_v114, v123, adz_v123, v126, adz_v126, m9_, m11_, m20_, m22_, m24_, (by rw [ha.out]; exact putSel_upk 1 hb_ rfl rfl rfl), fun h0_ => absurd ((hon 1 (by kernel_rfl)).symm.trans h0_) (by decide), (by repeat (first | (with_reducible first | exact HB.out | apply below_alloc | apply pw_below_drewN | apply below_drew1 | refine below_set ?_ (IsS57.ge HI103.out)) | exact HB.out)), fun _ => (by (with_reducible repeat (first | apply Kd.R_alloc | apply Kd.R_drewN | apply Kd.R_drew)); exact HO106.out), fun _ h1_ => absurd ((up_self b 3).symm.trans h1_) (by decide), fun _ _ => (by repeat (first | (with_reducible first | exact HI103.out | apply IsS57.alloc | apply IsS57.drewN | apply IsS57.drew | apply IsS57.set_1) | exact HI103.out)), fun h0_ => absurd ((hoff 5 (by kernel_rfl)).symm.trans h0_) (by decide), fun h0_ => absurd ((hoff 5 (by kernel_rfl)).symm.trans h0_) (by decide), z_HO115, Q_HA_HO115, fun h0_ _ => absurd ((hoff 8 (by kernel_rfl)).symm.trans h0_) (by decide), fun h0_ _ => absurd ((hoff 14 (by kernel_rfl)).symm.trans h0_) (by decide), fun h0_ => absurd ((hoff 16 (by kernel_rfl)).symm.trans h0_) (by decide), fun h0_ => absurd ((hoff 16 (by kernel_rfl)).symm.trans h0_) (by decide), z_HO127, Q_HA_HO127, fun h0_ => absurd ((hoff 19 (by kernel_rfl)).symm.trans h0_) (by decide), fun h0_ => absurd ((hoff 9 (by kernel_rfl)).symm.trans h0_) (by decide), fun h0_ => absurd ((hoff 11 (by kernel_rfl)).symm.trans h0_) (by decide), fun h0_ => absurd ((hoff 20 (by kernel_rfl)).symm.trans h0_) (by decide), fun h0_ => absurd ((hoff 22 (by kernel_rfl)).symm.trans h0_) (by decide), fun h0_ => absurd ((hoff 24 (by kernel_rfl)).symm.trans h0_) (by decide)⟩
                    refine steps_cons ?_ ?_
                    · rintro b a w' ⟨v105, v111, adz_v111, v114, adz_v114, v123, adz_v123, v126, adz_v126, m9_, m11_, m20_, m22_, m24_, ha, Q_HI103, Q_HB, Q_HO106, Q_HI103_e1, Q_HI103_e3, Q_HO112, Q_HA_HO112, Q_HO115, Q_HA_HO115, Q_HI103_e8, Q_HI103_e14, Q_HO124, Q_HA_HO124, Q_HO127, Q_HA_HO127, Q_HI103_e19, Q_X9_, Q_X11_, Q_X20_, Q_X22_, Q_X24_⟩ hb_ hon hoff
                      refine ⟨_, rfl, fun K hK => ?_⟩
                      have e11 : a.tmps[11]? = some (.int .i64 t108) := by rw [ha]; exact putSel_on (e := (3, 11, .int .i64 t108)) 1 rfl rfl (hon 3 (by kernel_rfl)) rfl
                      replace ha := Aside0.mk ha
                      have HB := Aside0.mk Q_HB
                      have HO106 := Aside0.mk (Q_HO106 (hon 1 (by kernel_rfl)))
                      refine value_ (w1 := w') (v := .int .i64 (wrap64 (1 + t108))) (by rfl) rfl ?_ ?_
                      · go_simp
                        (try simp only [i64_w])
                        try rfl
                      refine hK.out _ _ ⟨v105, v111, adz_v111, v114, adz_v114, v123, adz_v123, v126, adz_v126, m9_, m11_, m20_, m22_, m24_, (by rw [ha.out]; exact putSel_upk 2 hb_ rfl rfl rfl), fun h0_ => absurd ((hon 1 (by kernel_rfl)).symm.trans h0_) (by decide), Q_HB, Q_HO106, fun _ h1_ => absurd ((hon 3 (by kernel_rfl)).symm.trans h1_) (by decide), Q_HI103_e3, fun h0_ => absurd ((hoff 5 (by kernel_rfl)).symm.trans h0_) (by decide), fun h0_ => absurd ((hoff 5 (by kernel_rfl)).symm.trans h0_) (by decide), Q_HO115, Q_HA_HO115, Q_HI103_e8, Q_HI103_e14, Q_HO124, Q_HA_HO124, Q_HO127, Q_HA_HO127, Q_HI103_e19, Q_X9_, fun h0_ => absurd ((hoff 11 (by kernel_rfl)).symm.trans h0_) (by decide), Q_X20_, Q_X22_, Q_X24_⟩
                    refine steps_cons ?_ ?_
                    · rintro b a w' ⟨v105, v111, adz_v111, v114, adz_v114, v123, adz_v123, v126, adz_v126, m9_, m11_, m20_, m22_, m24_, ha, Q_HI103, Q_HB, Q_HO106, Q_HI103_e1, Q_HI103_e3, Q_HO112, Q_HA_HO112, Q_HO115, Q_HA_HO115, Q_HI103_e8, Q_HI103_e14, Q_HO124, Q_HA_HO124, Q_HO127, Q_HA_HO127, Q_HI103_e19, Q_X9_, Q_X11_, Q_X20_, Q_X22_, Q_X24_⟩ hb_ hon hoff
                      refine ⟨_, rfl, fun K hK => ?_⟩
                      have e12 : a.tmps[12]? = some (.int .i64 (wrap64 (1 + t108))) := by rw [ha]; exact putSel_on (e := (4, 12, .int .i64 (wrap64 (1 + t108)))) 2 rfl rfl (hon 4 (by kernel_rfl)) rfl
                      replace ha := Aside0.mk ha
                      have HB := Aside0.mk Q_HB
                      have HO106 := Aside0.mk (Q_HO106 (hon 1 (by kernel_rfl)))
                      refine Kd.R_lit_step (Kd.int .i64) _ 3 ?hg (N := 13) ?hd (xs := ([wrap64 (1 + t108), 0, 101] : List Int)) (inner := [.int .i64 (wrap64 (1 + t108)), .int .i64 0, .int .i64 101]) (ok := fun _ => True) (okp := fun _ => True) ?hr ?hp (fun _ hk => hk) trivial (Below.refl _ _) (Nat.le_refl _) (by simp) ?_; (case hd => rfl); (case hg => rfl); (case hr => first | (go_simp; done) | (go_simp; rfl)); (case hp => exact (Reps.one (show Kd.M (Kd.int .i64) _ _ _ (wrap64 (1 + t108)) [.int .i64 (wrap64 (1 + t108))] from rfl) (Reps.one (show Kd.M (Kd.int .i64) _ _ _ 0 [.int .i64 0] from rfl) (Reps.one (show Kd.M (Kd.int .i64) _ _ _ 101 [.int .i64 101] from rfl) (Reps.none _ _)))))
                      intro v111 w21 ho22 hb hg_ hnew_
                      clear hg_ hnew_
                      (first | rw [← Ny110.out] at ho22 | (simp only [Int.reduceToNat] at ho22; rw [← Ny110.out] at ho22))
                      have n0_ := Aside0.mk (Kd.R_below (by (with_reducible repeat (first | apply Kd.R_alloc | apply Kd.R_drewN | apply Kd.R_drew)); exact HO106.out) hb)
                      have n1_ := Aside0.mk (Kd.R_lower ho22 (below_size (by repeat (first | (with_reducible first | exact HB.out | apply below_alloc | apply pw_below_drewN | apply below_drew1) | exact HB.out))))
                      have n3_ := Aside0.mk (below_step (by repeat (first | (with_reducible first | exact HB.out | apply below_alloc | apply pw_below_drewN | apply below_drew1) | exact HB.out)) hb)
                      have z_HI103_e3 := fun (h0_ : b 3 = true) (h1_ : b 8 = false) => (show IsS57 w w21 g103 t101 t109 from by first | exact (IsS57.below (by repeat (first | (with_reducible first | exact (Q_HI103_e3 h0_ h1_) | apply IsS57.alloc | apply IsS57.drewN | apply IsS57.drew | apply IsS57.set_1) | exact (Q_HI103_e3 h0_ h1_))) hb))
                      have z_HO115 := fun (h0_ : b 6 = true) => (show Kd.R (Kd.int .i64) 3 w21 w.heap.size (fun _ => True) v114 y113 from by first | exact (Kd.R_elder' (by (with_reducible repeat (first | apply Kd.R_alloc | apply Kd.R_drewN | apply Kd.R_drew)); exact (Q_HO115 h0_)) (Kd.R_base ho22) hb) | exact Kd.R_mono (Kd.R_elder' (by (with_reducible repeat (first | apply Kd.R_alloc | apply Kd.R_drewN | apply Kd.R_drew)); exact (Q_HO115 h0_)) (Kd.R_base ho22) hb) (fun _ h_ => by first | trivial | exact h_ | exact h_.1))
                      have z_HI103_e8 := fun (h0_ : b 8 = true) (h1_ : b 14 = false) => (show IsS57 w w21 g103 t101 t117 from by first | exact (IsS57.below (by repeat (first | (with_reducible first | exact (Q_HI103_e8 h0_ h1_) | apply IsS57.alloc | apply IsS57.drewN | apply IsS57.drew | apply IsS57.set_1) | exact (Q_HI103_e8 h0_ h1_))) hb))
                      have z_HI103_e14 := fun (h0_ : b 14 = true) (h1_ : b 19 = false) => (show IsS57 w w21 g103 t101 t121 from by first | exact (IsS57.below (by repeat (first | (with_reducible first | exact (Q_HI103_e14 h0_ h1_) | apply IsS57.alloc | apply IsS57.drewN | apply IsS57.drew | apply IsS57.set_1) | exact (Q_HI103_e14 h0_ h1_))) hb))
                      have z_HO124 := fun (h0_ : b 16 = true) => (show Kd.R (Kd.int .i64) 3 w21 w.heap.size (fun _ => True) v123 y122 from by first | exact (Kd.R_elder' (by (with_reducible repeat (first | apply Kd.R_alloc | apply Kd.R_drewN | apply Kd.R_drew)); exact (Q_HO124 h0_)) (Kd.R_base ho22) hb) | exact Kd.R_mono (Kd.R_elder' (by (with_reducible repeat (first | apply Kd.R_alloc | apply Kd.R_drewN | apply Kd.R_drew)); exact (Q_HO124 h0_)) (Kd.R_base ho22) hb) (fun _ h_ => by first | trivial | exact h_ | exact h_.1))
                      have z_HO127 := fun (h0_ : b 17 = true) => (show Kd.R (Kd.int .i64) 3 w21 w.heap.size (fun _ => True) v126 y125 from by first | exact (Kd.R_elder' (by (with_reducible repeat (first | apply Kd.R_alloc | apply Kd.R_drewN | apply Kd.R_drew)); exact (Q_HO127 h0_)) (Kd.R_base ho22) hb) | exact Kd.R_mono (Kd.R_elder' (by (with_reducible repeat (first | apply Kd.R_alloc | apply Kd.R_drewN | apply Kd.R_drew)); exact (Q_HO127 h0_)) (Kd.R_base ho22) hb) (fun _ h_ => by first | trivial | exact h_ | exact h_.1))
                      have z_HI103_e19 := fun (h0_ : b 19 = true) => (show IsS57 w w21 g103 t101 t129 from by first | exact (IsS57.below (by repeat (first | (with_reducible first | exact (Q_HI103_e19 h0_) | apply IsS57.alloc | apply IsS57.drewN | apply IsS57.drew | apply IsS57.set_1) | exact (Q_HI103_e19 h0_))) hb))
                      clear HO106
                      clear HB
                      have HO106 := n0_
                      have HO112 := n1_
                      have HB := n3_
                      clear n0_ n1_ n3_
                      clear hb ho22
                      obtain ⟨Ao23, co23, eo23⟩ := Kd.R_slice HO112.out
                      subst eo23
                      obtain ⟨ado23, fo23, _⟩ := Kd.at_int (Kd.R_reads' HO112.out).2.2 0 (by decide) (by rw [Ny110.out]; simp)
                      cases fo23
                      refine hK.out _ _ ⟨v105, .slice (some ado23) y110.length co23, ado23, v114, adz_v114, v123, adz_v123, v126, adz_v126, m9_, m11_, m20_, m22_, m24_, (by rw [ha.out]; exact putSel_upk 3 hb_ rfl rfl rfl), fun h0_ => absurd ((hon 1 (by kernel_rfl)).symm.trans h0_) (by decide), (by repeat (first | (with_reducible first | exact HB.out | apply below_alloc | apply pw_below_drewN | apply below_drew1) | exact HB.out)), fun _ => (by (with_reducible repeat (first | apply Kd.R_alloc | apply Kd.R_drewN | apply Kd.R_drew)); exact HO106.out), fun _ h1_ => absurd ((hon 3 (by kernel_rfl)).symm.trans h1_) (by decide), z_HI103_e3, fun _ => (by (with_reducible repeat (first | apply Kd.R_alloc | apply Kd.R_drewN | apply Kd.R_drew)); exact HO112.out), fun _ => ⟨_, rfl⟩, z_HO115, Q_HA_HO115, z_HI103_e8, z_HI103_e14, z_HO124, Q_HA_HO124, z_HO127, Q_HA_HO127, z_HI103_e19, Q_X9_, fun h0_ => absurd ((hoff 11 (by kernel_rfl)).symm.trans h0_) (by decide), Q_X20_, Q_X22_, Q_X24_⟩
                    refine steps_cons ?_ ?_
                    · rintro b a w' ⟨v105, v111, adz_v111, v114, adz_v114, v123, adz_v123, v126, adz_v126, m9_, m11_, m20_, m22_, m24_, ha, Q_HI103, Q_HB, Q_HO106, Q_HI103_e1, Q_HI103_e3, Q_HO112, Q_HA_HO112, Q_HO115, Q_HA_HO115, Q_HI103_e8, Q_HI103_e14, Q_HO124, Q_HA_HO124, Q_HO127, Q_HA_HO127, Q_HI103_e19, Q_X9_, Q_X11_, Q_X20_, Q_X22_, Q_X24_⟩ hb_ hon hoff
                      refine ⟨_, rfl, fun K hK => ?_⟩
                      replace ha := Aside0.mk ha
                      have HB := Aside0.mk Q_HB
                      refine Kd.R_lit_step (Kd.int .i64) _ 3 ?hg (N := 14) ?hd (xs := ([0, 0, 0, 0, 0, 1, 2] : List Int)) (inner := [.int .i64 0, .int .i64 0, .int .i64 0, .int .i64 0, .int .i64 0, .int .i64 1, .int .i64 2]) (ok := fun _ => True) (okp := fun _ => True) ?hr ?hp (fun _ hk => hk) trivial (Below.refl _ _) (Nat.le_refl _) (by simp) ?_; (case hd => rfl); (case hg => rfl); (case hr => first | (go_simp; done) | (go_simp; rfl)); (case hp => exact (Reps.one (show Kd.M (Kd.int .i64) _ _ _ 0 [.int .i64 0] from rfl) (Reps.one (show Kd.M (Kd.int .i64) _ _ _ 0 [.int .i64 0] from rfl) (Reps.one (show Kd.M (Kd.int .i64) _ _ _ 0 [.int .i64 0] from rfl) (Reps.one (show Kd.M (Kd.int .i64) _ _ _ 0 [.int .i64 0] from rfl) (Reps.one (show Kd.M (Kd.int .i64) _ _ _ 0 [.int .i64 0] from rfl) (Reps.one (show Kd.M (Kd.int .i64) _ _ _ 1 [.int .i64 1] from rfl) (Reps.one (show Kd.M (Kd.int .i64) _ _ _ 2 [.int .i64 2] from rfl) (Reps.none _ _)))))))))
                      intro v114 w18 ho19 hb hg_ hnew_
                      clear hg_ hnew_
                      (first | rw [← Ny113.out] at ho19 | (simp only [Int.reduceToNat] at ho19; rw [← Ny113.out] at ho19))
                      have n0_ := Aside0.mk (Kd.R_lower ho19 (below_size (by repeat (first | (with_reducible first | exact HB.out | apply below_alloc | apply pw_below_drewN | apply below_drew1) | exact HB.out))))
                      have n2_ := Aside0.mk (below_step (by repeat (first | (with_reducible first | exact HB.out | apply below_alloc | apply pw_below_drewN | apply below_drew1) | exact HB.out)) hb)
                      have z_HI103 := fun (h0_ : b 1 = false) => (show IsS57 w w18 g103 t101 t102 from by first | exact (IsS57.below (by repeat (first | (with_reducible first | exact (Q_HI103 h0_) | apply IsS57.alloc | apply IsS57.drewN | apply IsS57.drew | apply IsS57.set_1) | exact (Q_HI103 h0_))) hb))
                      have z_HO106 := fun (h0_ : b 1 = true) => (show Kd.R k29 29 w18 w.heap.size (fun _ => True) v105 t104 from by first | exact (Kd.R_below (by (with_reducible repeat (first | apply Kd.R_alloc | apply Kd.R_drewN | apply Kd.R_drew)); exact (Q_HO106 h0_)) hb) | exact Kd.R_mono (Kd.R_below (by (with_reducible repeat (first | apply Kd.R_alloc | apply Kd.R_drewN | apply Kd.R_drew)); exact (Q_HO106 h0_)) hb) (fun _ h_ => by first | trivial | exact h_ | exact h_.1))
                      have z_HI103_e1 := fun (h0_ : b 1 = true) (h1_ : b 3 = false) => (show IsS57 w w18 g103 t101 t107 from by first | exact (IsS57.below (by repeat (first | (with_reducible first | exact (Q_HI103_e1 h0_ h1_) | apply IsS57.alloc | apply IsS57.drewN | apply IsS57.drew | apply IsS57.set_1) | exact (Q_HI103_e1 h0_ h1_))) hb))
                      have z_HI103_e3 := fun (h0_ : b 3 = true) (h1_ : b 8 = false) => (show IsS57 w w18 g103 t101 t109 from by first | exact (IsS57.below (by repeat (first | (with_reducible first | exact (Q_HI103_e3 h0_ h1_) | apply IsS57.alloc | apply IsS57.drewN | apply IsS57.drew | apply IsS57.set_1) | exact (Q_HI103_e3 h0_ h1_))) hb))
                      have z_HO112 := fun (h0_ : b 5 = true) => (show Kd.R (Kd.int .i64) 3 w18 w.heap.size (fun _ => True) v111 y110 from by first | exact (Kd.R_elder' (by (with_reducible repeat (first | apply Kd.R_alloc | apply Kd.R_drewN | apply Kd.R_drew)); exact (Q_HO112 h0_)) (Kd.R_base ho19) hb) | exact Kd.R_mono (Kd.R_elder' (by (with_reducible repeat (first | apply Kd.R_alloc | apply Kd.R_drewN | apply Kd.R_drew)); exact (Q_HO112 h0_)) (Kd.R_base ho19) hb) (fun _ h_ => by first | trivial | exact h_ | exact h_.1))
                      have z_HI103_e8 := fun (h0_ : b 8 = true) (h1_ : b 14 = false) => (show IsS57 w w18 g103 t101 t117 from by first | exact (IsS57.below (by repeat (first | (with_reducible first | exact (Q_HI103_e8 h0_ h1_) | apply IsS57.alloc | apply IsS57.drewN | apply IsS57.drew | apply IsS57.set_1) | exact (Q_HI103_e8 h0_ h1_))) hb))
                      have z_HI103_e14 := fun (h0_ : b 14 = true) (h1_ : b 19 = false) => (show IsS57 w w18 g103 t101 t121 from by first | exact (IsS57.below (by repeat (first | (with_reducible first | exact (Q_HI103_e14 h0_ h1_) | apply IsS57.alloc | apply IsS57.drewN | apply IsS57.drew | apply IsS57.set_1) | exact (Q_HI103_e14 h0_ h1_))) hb))
                      have z_HO124 := fun (h0_ : b 16 = true) => (show Kd.R (Kd.int .i64) 3 w18 w.heap.size (fun _ => True) v123 y122 from by first | exact (Kd.R_elder' (by (with_reducible repeat (first | apply Kd.R_alloc | apply Kd.R_drewN | apply Kd.R_drew)); exact (Q_HO124 h0_)) (Kd.R_base ho19) hb) | exact Kd.R_mono (Kd.R_elder' (by (with_reducible repeat (first | apply Kd.R_alloc | apply Kd.R_drewN | apply Kd.R_drew)); exact (Q_HO124 h0_)) (Kd.R_base ho19) hb) (fun _ h_ => by first | trivial | exact h_ | exact h_.1))
                      have z_HO127 := fun (h0_ : b 17 = true) => (show Kd.R (Kd.int .i64) 3 w18 w.heap.size (fun _ => True) v126 y125 from by first | exact (Kd.R_elder' (by (with_reducible repeat (first | apply Kd.R_alloc | apply Kd.R_drewN | apply Kd.R_drew)); exact (Q_HO127 h0_)) (Kd.R_base ho19) hb) | exact Kd.R_mono (Kd.R_elder' (by (with_reducible repeat (first | apply Kd.R_alloc | apply Kd.R_drewN | apply Kd.R_drew)); exact (Q_HO127 h0_)) (Kd.R_base ho19) hb) (fun _ h_ => by first | trivial | exact h_ | exact h_.1))
                      have z_HI103_e19 := fun (h0_ : b 19 = true) => (show IsS57 w w18 g103 t101 t129 from by first | exact (IsS57.below (by repeat (first | (with_reducible first | exact (Q_HI103_e19 h0_) | apply IsS57.alloc | apply IsS57.drewN | apply IsS57.drew | apply IsS57.set_1) | exact (Q_HI103_e19 h0_))) hb))
                      clear HB
                      have HO115 := n0_
                      have HB := n2_
                      clear n0_ n2_
                      clear hb ho19
                      obtain ⟨Ao20, co20, eo20⟩ := Kd.R_slice HO115.out
                      subst eo20
                      obtain ⟨ado20, fo20, _⟩ := Kd.at_int (Kd.R_reads' HO115.out).2.2 0 (by decide) (by rw [Ny113.out]; simp)
                      cases fo20
                      refine hK.out _ _ ⟨v105, v111, adz_v111, .slice (some ado20) y113.length co20, ado20, v123, adz_v123, v126, adz_v126, m9_, m11_, m20_, m22_, m24_, (by rw [ha.out]; exact putSel_upk 4 hb_ rfl rfl rfl), z_HI103, (by repeat (first | (with_reducible first | exact HB.out | apply below_alloc | apply pw_below_drewN | apply below_drew1) | exact HB.out)), z_HO106, z_HI103_e1, z_HI103_e3, z_HO112, Q_HA_HO112, fun _ => (by (with_reducible repeat (first | apply Kd.R_alloc | apply Kd.R_drewN | apply Kd.R_drew)); exact HO115.out), fun _ => ⟨_, rfl⟩, z_HI103_e8, z_HI103_e14, z_HO124, Q_HA_HO124, z_HO127, Q_HA_HO127, z_HI103_e19, fun h0_ => absurd ((hoff 9 (by kernel_rfl)).symm.trans h0_) (by decide), fun h0_ => absurd ((hoff 11 (by kernel_rfl)).symm.trans h0_) (by decide), Q_X20_, Q_X22_, Q_X24_⟩
                    refine steps_cons ?_ ?_
                    · rintro b a w' ⟨v105, v111, adz_v111, v114, adz_v114, v123, adz_v123, v126, adz_v126, m9_, m11_, m20_, m22_, m24_, ha, Q_HI103, Q_HB, Q_HO106, Q_HI103_e1, Q_HI103_e3, Q_HO112, Q_HA_HO112, Q_HO115, Q_HA_HO115, Q_HI103_e8, Q_HI103_e14, Q_HO124, Q_HA_HO124, Q_HO127, Q_HA_HO127, Q_HI103_e19, Q_X9_, Q_X11_, Q_X20_, Q_X22_, Q_X24_⟩ hb_ hon hoff
                      refine ⟨_, rfl, fun K hK => ?_⟩
                      have e15 : a.tmps[15]? = some (.pointer (some ⟨g103, 0, none⟩)) := by rw [ha]; exact (putSel_off rfl).trans rfl
                      replace ha := Aside0.mk ha
                      have HB := Aside0.mk Q_HB
                      have HO106 := Aside0.mk (Q_HO106 (hon 1 (by kernel_rfl)))
                      have HI103 := Aside0.mk (Q_HI103_e3 (hon 3 (by kernel_rfl)) hb_)
                      refine goes_ Try.func51 (by kernel_rfl) rfl #[.pointer (some ⟨g103, 0, none⟩), .int .i64 7] (by rfl) rfl rfl (by first | (simp only [List.map_toArray, List.map_cons, List.map_nil, Act.eval, Array.getD_eq_getD_getElem?, Option.getD_some, e15]; done) | (simp only [List.map_toArray, List.map_cons, List.map_nil, Act.eval, Array.getD_eq_getD_getElem?, Option.getD_some, e15]; rfl)) ?_
                      with_reducible refine (spec_l20Rd_pick.calls k g103 t101 t109 7 t116 t117 w _ ?side1 ?side2 A5.out).mono ?_
                      (case side1 => repeat (first | (with_reducible first | exact HI103.out | apply IsS57.alloc | apply IsS57.drewN | apply IsS57.drew | apply IsS57.set_1) | exact HI103.out))
                      (case side2 => repeat (first | (with_reducible first | exact HB.out | apply below_alloc | apply pw_below_drewN | apply below_drew1 | refine below_set ?_ (IsS57.ge HI103.out)) | exact HB.out))
                      rintro e w21 ⟨rfl, hi, hb, hk⟩
                      refine ⟨_, rfl, ?_⟩
                      have n0_ := Aside0.mk (Kd.R_mono (Kd.R_keep (IsS57.apart (show IsS57 w _ g103 t101 t109 from by repeat (first | (with_reducible first | exact HI103.out | apply IsS57.alloc | apply IsS57.drewN | apply IsS57.drew | apply IsS57.set_1) | exact HI103.out)) (by (with_reducible repeat (first | apply Kd.R_alloc | apply Kd.R_drewN | apply Kd.R_drew)); exact HO106.out) (by decide)) hk (fun _ h => h.2)) (fun _ h => h.1))
                      have n1_ := Aside0.mk (hb)
                      have n2_ := Aside0.mk (hi)
                      have z_HO112 := fun (h0_ : b 5 = true) => (show Kd.R (Kd.int .i64) 3 w21 w.heap.size (fun _ => True) v111 y110 from by first | exact (Kd.R_mono (Kd.R_keep (IsS57.apart (show IsS57 w _ g103 t101 t109 from by repeat (first | (with_reducible first | exact HI103.out | apply IsS57.alloc | apply IsS57.drewN | apply IsS57.drew | apply IsS57.set_1) | exact HI103.out)) (by (with_reducible repeat (first | apply Kd.R_alloc | apply Kd.R_drewN | apply Kd.R_drew)); exact (Q_HO112 h0_)) (by decide)) hk (fun _ h => h.2)) (fun _ h => h.1)) | exact Kd.R_mono (Kd.R_mono (Kd.R_keep (IsS57.apart (show IsS57 w _ g103 t101 t109 from by repeat (first | (with_reducible first | exact HI103.out | apply IsS57.alloc | apply IsS57.drewN | apply IsS57.drew | apply IsS57.set_1) | exact HI103.out)) (by (with_reducible repeat (first | apply Kd.R_alloc | apply Kd.R_drewN | apply Kd.R_drew)); exact (Q_HO112 h0_)) (by decide)) hk (fun _ h => h.2)) (fun _ h => h.1)) (fun _ h_ => by first | trivial | exact h_ | exact h_.1))
                      have z_HO115 := fun (h0_ : b 6 = true) => (show Kd.R (Kd.int .i64) 3 w21 w.heap.size (fun _ => True) v114 y113 from by first | exact (Kd.R_mono (Kd.R_keep (IsS57.apart (show IsS57 w _ g103 t101 t109 from by repeat (first | (with_reducible first | exact HI103.out | apply IsS57.alloc | apply IsS57.drewN | apply IsS57.drew | apply IsS57.set_1) | exact HI103.out)) (by (with_reducible repeat (first | apply Kd.R_alloc | apply Kd.R_drewN | apply Kd.R_drew)); exact (Q_HO115 h0_)) (by decide)) hk (fun _ h => h.2)) (fun _ h => h.1)) | exact Kd.R_mono (Kd.R_mono (Kd.R_keep (IsS57.apart (show IsS57 w _ g103 t101 t109 from by repeat (first | (with_reducible first | exact HI103.out | apply IsS57.alloc | apply IsS57.drewN | apply IsS57.drew | apply IsS57.set_1) | exact HI103.out)) (by (with_reducible repeat (first | apply Kd.R_alloc | apply Kd.R_drewN | apply Kd.R_drew)); exact (Q_HO115 h0_)) (by decide)) hk (fun _ h => h.2)) (fun _ h => h.1)) (fun _ h_ => by first | trivial | exact h_ | exact h_.1))
                      have z_HO127 := fun (h0_ : b 17 = true) => (show Kd.R (Kd.int .i64) 3 w21 w.heap.size (fun _ => True) v126 y125 from by first | exact (Kd.R_mono (Kd.R_keep (IsS57.apart (show IsS57 w _ g103 t101 t109 from by repeat (first | (with_reducible first | exact HI103.out | apply IsS57.alloc | apply IsS57.drewN | apply IsS57.drew | apply IsS57.set_1) | exact HI103.out)) (by (with_reducible repeat (first | apply Kd.R_alloc | apply Kd.R_drewN | apply Kd.R_drew)); exact (Q_HO127 h0_)) (by decide)) hk (fun _ h => h.2)) (fun _ h => h.1)) | exact Kd.R_mono (Kd.R_mono (Kd.R_keep (IsS57.apart (show IsS57 w _ g103 t101 t109 from by repeat (first | (with_reducible first | exact HI103.out | apply IsS57.alloc | apply IsS57.drewN | apply IsS57.drew | apply IsS57.set_1) | exact HI103.out)) (by (with_reducible repeat (first | apply Kd.R_alloc | apply Kd.R_drewN | apply Kd.R_drew)); exact (Q_HO127 h0_)) (by decide)) hk (fun _ h => h.2)) (fun _ h => h.1)) (fun _ h_ => by first | trivial | exact h_ | exact h_.1))
                      clear HO106
                      clear HB
                      clear HI103
                      have HO106 := n0_
                      have HB := n1_
                      have HI103 := n2_
                      clear n0_ n1_ n2_
                      (try clear hb)
                      (try clear hb2)
                      (try clear hk)
                      (try clear hi)
                      refine hK.out _ _ ⟨v105, v111, adz_v111, v114, adz_v114, v123, adz_v123, v126, adz_v126, m9_, m11_, m20_, m22_, m24_, (by rw [ha.out]; exact putSel_upk 5 hb_ rfl rfl rfl), fun h0_ => absurd ((hon 1 (by kernel_rfl)).symm.trans h0_) (by decide), (by repeat (first | (with_reducible first | exact HB.out | apply below_alloc | apply pw_below_drewN | apply below_drew1 | refine below_set ?_ (IsS57.ge HI103.out)) | exact HB.out)), fun _ => (by (with_reducible repeat (first | apply Kd.R_alloc | apply Kd.R_drewN | apply Kd.R_drew)); exact HO106.out), fun _ h1_ => absurd ((hon 3 (by kernel_rfl)).symm.trans h1_) (by decide), fun _ h1_ => absurd ((up_self b 8).symm.trans h1_) (by decide), z_HO112, Q_HA_HO112, z_HO115, Q_HA_HO115, fun _ _ => (by repeat (first | (with_reducible first | exact HI103.out | apply IsS57.alloc | apply IsS57.drewN | apply IsS57.drew | apply IsS57.set_1) | exact HI103.out)), fun h0_ _ => absurd ((hoff 14 (by kernel_rfl)).symm.trans h0_) (by decide), fun h0_ => absurd ((hoff 16 (by kernel_rfl)).symm.trans h0_) (by decide), fun h0_ => absurd ((hoff 16 (by kernel_rfl)).symm.trans h0_) (by decide), z_HO127, Q_HA_HO127, fun h0_ => absurd ((hoff 19 (by kernel_rfl)).symm.trans h0_) (by decide), fun h0_ => absurd ((hoff 9 (by kernel_rfl)).symm.trans h0_) (by decide), fun h0_ => absurd ((hoff 11 (by kernel_rfl)).symm.trans h0_) (by decide), fun h0_ => absurd ((hoff 20 (by kernel_rfl)).symm.trans h0_) (by decide), fun h0_ => absurd ((hoff 22 (by kernel_rfl)).symm.trans h0_) (by decide), fun h0_ => absurd ((hoff 24 (by kernel_rfl)).symm.trans h0_) (by decide)⟩
                    refine steps_cons ?_ ?_
                    · rintro b a w' ⟨v105, v111, adz_v111, v114, adz_v114, v123, adz_v123, v126, adz_v126, m9_, m11_, m20_, m22_, m24_, ha, Q_HI103, Q_HB, Q_HO106, Q_HI103_e1, Q_HI103_e3, Q_HO112, Q_HA_HO112, Q_HO115, Q_HA_HO115, Q_HI103_e8, Q_HI103_e14, Q_HO124, Q_HA_HO124, Q_HO127, Q_HA_HO127, Q_HI103_e19, Q_X9_, Q_X11_, Q_X20_, Q_X22_, Q_X24_⟩ hb_ hon hoff
                      refine ⟨_, rfl, fun K hK => ?_⟩
                      have e14 : a.tmps[14]? = some (v114) := by rw [ha]; exact putSel_on (e := (6, 14, v114)) 4 rfl rfl (hon 6 (by kernel_rfl)) rfl
                      have e16 : a.tmps[16]? = some (.int .i64 t116) := by rw [ha]; exact putSel_on (e := (8, 16, .int .i64 t116)) 5 rfl rfl (hon 8 (by kernel_rfl)) rfl
                      replace ha := Aside0.mk ha
                      have HB := Aside0.mk Q_HB
                      have HO106 := Aside0.mk (Q_HO106 (hon 1 (by kernel_rfl)))
                      have HO115 := Aside0.mk (Q_HO115 (hon 6 (by kernel_rfl)))
                      have HA_HO115 := Aside0.mk (Q_HA_HO115 (hon 6 (by kernel_rfl)))
                      obtain ⟨c_, hv_⟩ := HA_HO115.out
                      rw [hv_] at e14
                      refine value_ (w1 := w') (v := .pointer (some (adz_v114.add (t116).toNat))) (by rfl) rfl ?_ ?_
                      · go_simp
                        (try simp only [i64_w])
                        try rfl
                      refine hK.out _ _ ⟨v105, v111, adz_v111, v114, adz_v114, v123, adz_v123, v126, adz_v126, (.pointer (some (adz_v114.add (t116).toNat))), m11_, m20_, m22_, m24_, (by rw [ha.out]; exact putSel_upk 6 hb_ rfl rfl rfl), fun h0_ => absurd ((hon 1 (by kernel_rfl)).symm.trans h0_) (by decide), Q_HB, Q_HO106, fun _ h1_ => absurd ((hon 3 (by kernel_rfl)).symm.trans h1_) (by decide), fun _ h1_ => absurd ((hon 8 (by kernel_rfl)).symm.trans h1_) (by decide), Q_HO112, Q_HA_HO112, Q_HO115, Q_HA_HO115, Q_HI103_e8, Q_HI103_e14, Q_HO124, Q_HA_HO124, Q_HO127, Q_HA_HO127, Q_HI103_e19, fun _ => rfl, fun h0_ => absurd ((hoff 11 (by kernel_rfl)).symm.trans h0_) (by decide), Q_X20_, Q_X22_, Q_X24_⟩
                    refine steps_cons ?_ ?_
                    · rintro b a w' ⟨v105, v111, adz_v111, v114, adz_v114, v123, adz_v123, v126, adz_v126, m9_, m11_, m20_, m22_, m24_, ha, Q_HI103, Q_HB, Q_HO106, Q_HI103_e1, Q_HI103_e3, Q_HO112, Q_HA_HO112, Q_HO115, Q_HA_HO115, Q_HI103_e8, Q_HI103_e14, Q_HO124, Q_HA_HO124, Q_HO127, Q_HA_HO127, Q_HI103_e19, Q_X9_, Q_X11_, Q_X20_, Q_X22_, Q_X24_⟩ hb_ hon hoff
                      refine ⟨_, rfl, fun K hK => ?_⟩
                      have e17 : a.tmps[17]? = some (m9_) := by rw [ha]; exact putSel_on (e := (9, 17, m9_)) 6 rfl rfl (hon 9 (by kernel_rfl)) rfl
                      rw [Q_X9_ (hon 9 (by kernel_rfl))] at e17
                      replace ha := Aside0.mk ha
                      have HB := Aside0.mk Q_HB
                      have HO106 := Aside0.mk (Q_HO106 (hon 1 (by kernel_rfl)))
                      have HO115 := Aside0.mk (Q_HO115 (hon 6 (by kernel_rfl)))
                      have HA_HO115 := Aside0.mk (Q_HA_HO115 (hon 6 (by kernel_rfl)))
                      obtain ⟨c_, hv_⟩ := HA_HO115.out
                      have hF_ := HO115.out
                      rw [hv_] at hF_
                      obtain ⟨ad_, ea_, hx_⟩ := Kd.at_int (Kd.R_reads' hF_).2.2 t116 (of_eq_true pi118) (of_eq_true qi118)
                      cases ea_
                      refine value_ (w1 := w') (v := .int .i64 (rd y113 t116)) (by rfl) rfl ?_ ?_
                      · go_simp
                        (try simp only [i64_w])
                        try rfl
                      refine hK.out _ _ ⟨v105, v111, adz_v111, v114, adz_v114, v123, adz_v123, v126, adz_v126, m9_, m11_, m20_, m22_, m24_, (by rw [ha.out]; exact putSel_upk 7 hb_ rfl rfl rfl), fun h0_ => absurd ((hon 1 (by kernel_rfl)).symm.trans h0_) (by decide), Q_HB, Q_HO106, fun _ h1_ => absurd ((hon 3 (by kernel_rfl)).symm.trans h1_) (by decide), fun _ h1_ => absurd ((hon 8 (by kernel_rfl)).symm.trans h1_) (by decide), Q_HO112, Q_HA_HO112, Q_HO115, Q_HA_HO115, Q_HI103_e8, Q_HI103_e14, Q_HO124, Q_HA_HO124, Q_HO127, Q_HA_HO127, Q_HI103_e19, Q_X9_, fun h0_ => absurd ((hoff 11 (by kernel_rfl)).symm.trans h0_) (by decide), Q_X20_, Q_X22_, Q_X24_⟩
                    refine steps_cons ?_ ?_
                    · rintro b a w' ⟨v105, v111, adz_v111, v114, adz_v114, v123, adz_v123, v126, adz_v126, m9_, m11_, m20_, m22_, m24_, ha, Q_HI103, Q_HB, Q_HO106, Q_HI103_e1, Q_HI103_e3, Q_HO112, Q_HA_HO112, Q_HO115, Q_HA_HO115, Q_HI103_e8, Q_HI103_e14, Q_HO124, Q_HA_HO124, Q_HO127, Q_HA_HO127, Q_HI103_e19, Q_X9_, Q_X11_, Q_X20_, Q_X22_, Q_X24_⟩ hb_ hon hoff
                      refine ⟨_, rfl, fun K hK => ?_⟩
                      have e13 : a.tmps[13]? = some (v111) := by rw [ha]; exact putSel_on (e := (5, 13, v111)) 3 rfl rfl (hon 5 (by kernel_rfl)) rfl
                      have e18 : a.tmps[18]? = some (.int .i64 (rd y113 t116)) := by rw [ha]; exact putSel_on (e := (10, 18, .int .i64 (rd y113 t116))) 7 rfl rfl (hon 10 (by kernel_rfl)) rfl
                      replace ha := Aside0.mk ha
                      have HB := Aside0.mk Q_HB
                      have HO106 := Aside0.mk (Q_HO106 (hon 1 (by kernel_rfl)))
                      have HO112 := Aside0.mk (Q_HO112 (hon 5 (by kernel_rfl)))
                      have HA_HO112 := Aside0.mk (Q_HA_HO112 (hon 5 (by kernel_rfl)))
                      have HO115 := Aside0.mk (Q_HO115 (hon 6 (by kernel_rfl)))
                      have HA_HO115 := Aside0.mk (Q_HA_HO115 (hon 6 (by kernel_rfl)))
                      obtain ⟨c_, hv_⟩ := HA_HO112.out
                      rw [hv_] at e13
                      refine value_ (w1 := w') (v := .pointer (some (adz_v111.add ((rd y113 t116)).toNat))) (by rfl) rfl ?_ ?_
                      · go_simp
                        (try simp only [i64_w])
                        try rfl
                      refine hK.out _ _ ⟨v105, v111, adz_v111, v114, adz_v114, v123, adz_v123, v126, adz_v126, m9_, (.pointer (some (adz_v111.add ((rd y113 t116)).toNat))), m20_, m22_, m24_, (by rw [ha.out]; exact putSel_upk 8 hb_ rfl rfl rfl), fun h0_ => absurd ((hon 1 (by kernel_rfl)).symm.trans h0_) (by decide), Q_HB, Q_HO106, fun _ h1_ => absurd ((hon 3 (by kernel_rfl)).symm.trans h1_) (by decide), fun _ h1_ => absurd ((hon 8 (by kernel_rfl)).symm.trans h1_) (by decide), Q_HO112, Q_HA_HO112, Q_HO115, Q_HA_HO115, Q_HI103_e8, Q_HI103_e14, Q_HO124, Q_HA_HO124, Q_HO127, Q_HA_HO127, Q_HI103_e19, Q_X9_, fun _ => rfl, Q_X20_, Q_X22_, Q_X24_⟩
                    refine steps_cons ?_ ?_
                    · rintro b a w' ⟨v105, v111, adz_v111, v114, adz_v114, v123, adz_v123, v126, adz_v126, m9_, m11_, m20_, m22_, m24_, ha, Q_HI103, Q_HB, Q_HO106, Q_HI103_e1, Q_HI103_e3, Q_HO112, Q_HA_HO112, Q_HO115, Q_HA_HO115, Q_HI103_e8, Q_HI103_e14, Q_HO124, Q_HA_HO124, Q_HO127, Q_HA_HO127, Q_HI103_e19, Q_X9_, Q_X11_, Q_X20_, Q_X22_, Q_X24_⟩ hb_ hon hoff
                      refine ⟨_, rfl, fun K hK => ?_⟩
                      have e19 : a.tmps[19]? = some (m11_) := by rw [ha]; exact putSel_on (e := (11, 19, m11_)) 8 rfl rfl (hon 11 (by kernel_rfl)) rfl
                      rw [Q_X11_ (hon 11 (by kernel_rfl))] at e19
                      replace ha := Aside0.mk ha
                      have HB := Aside0.mk Q_HB
                      have HO106 := Aside0.mk (Q_HO106 (hon 1 (by kernel_rfl)))
                      have HO112 := Aside0.mk (Q_HO112 (hon 5 (by kernel_rfl)))
                      have HA_HO112 := Aside0.mk (Q_HA_HO112 (hon 5 (by kernel_rfl)))
                      have HO115 := Aside0.mk (Q_HO115 (hon 6 (by kernel_rfl)))
                      have HA_HO115 := Aside0.mk (Q_HA_HO115 (hon 6 (by kernel_rfl)))
                      obtain ⟨c_, hv_⟩ := HA_HO112.out
                      have hF_ := HO112.out
                      rw [hv_] at hF_
                      obtain ⟨ad_, ea_, hx_⟩ := Kd.at_int (Kd.R_reads' hF_).2.2 (rd y113 t116) (of_eq_true pi119) (of_eq_true qi119)
                      cases ea_
                      refine value_ (w1 := w') (v := .int .i64 (rd y110 (rd y113 t116))) (by rfl) rfl ?_ ?_
                      · go_simp
                        (try simp only [i64_w])
                        try rfl
                      refine hK.out _ _ ⟨v105, v111, adz_v111, v114, adz_v114, v123, adz_v123, v126, adz_v126, m9_, m11_, m20_, m22_, m24_, (by rw [ha.out]; exact putSel_upk 9 hb_ rfl rfl rfl), fun h0_ => absurd ((hon 1 (by kernel_rfl)).symm.trans h0_) (by decide), Q_HB, Q_HO106, fun _ h1_ => absurd ((hon 3 (by kernel_rfl)).symm.trans h1_) (by decide), fun _ h1_ => absurd ((hon 8 (by kernel_rfl)).symm.trans h1_) (by decide), Q_HO112, Q_HA_HO112, Q_HO115, Q_HA_HO115, Q_HI103_e8, Q_HI103_e14, Q_HO124, Q_HA_HO124, Q_HO127, Q_HA_HO127, Q_HI103_e19, Q_X9_, Q_X11_, Q_X20_, Q_X22_, Q_X24_⟩
                    refine steps_cons ?_ ?_
                    · rintro b a w' ⟨v105, v111, adz_v111, v114, adz_v114, v123, adz_v123, v126, adz_v126, m9_, m11_, m20_, m22_, m24_, ha, Q_HI103, Q_HB, Q_HO106, Q_HI103_e1, Q_HI103_e3, Q_HO112, Q_HA_HO112, Q_HO115, Q_HA_HO115, Q_HI103_e8, Q_HI103_e14, Q_HO124, Q_HA_HO124, Q_HO127, Q_HA_HO127, Q_HI103_e19, Q_X9_, Q_X11_, Q_X20_, Q_X22_, Q_X24_⟩ hb_ hon hoff
                      refine ⟨_, rfl, fun K hK => ?_⟩
                      have e21 : a.tmps[21]? = some (.pointer (some ⟨g103, 0, none⟩)) := by rw [ha]; exact (putSel_off rfl).trans rfl
                      replace ha := Aside0.mk ha
                      have HB := Aside0.mk Q_HB
                      have HO106 := Aside0.mk (Q_HO106 (hon 1 (by kernel_rfl)))
                      have HI103 := Aside0.mk (Q_HI103_e8 (hon 8 (by kernel_rfl)) hb_)
                      refine goes_ Try.func51 (by kernel_rfl) rfl #[.pointer (some ⟨g103, 0, none⟩), .int .i64 12] (by rfl) rfl rfl (by first | (simp only [List.map_toArray, List.map_cons, List.map_nil, Act.eval, Array.getD_eq_getD_getElem?, Option.getD_some, e21]; done) | (simp only [List.map_toArray, List.map_cons, List.map_nil, Act.eval, Array.getD_eq_getD_getElem?, Option.getD_some, e21]; rfl)) ?_
                      with_reducible refine (spec_l20Rd_pick.calls k g103 t101 t117 12 t120 t121 w _ ?side1 ?side2 A10.out).mono ?_
                      (case side1 => repeat (first | (with_reducible first | exact HI103.out | apply IsS57.alloc | apply IsS57.drewN | apply IsS57.drew | apply IsS57.set_1) | exact HI103.out))
                      (case side2 => repeat (first | (with_reducible first | exact HB.out | apply below_alloc | apply pw_below_drewN | apply below_drew1 | refine below_set ?_ (IsS57.ge HI103.out)) | exact HB.out))
                      rintro e w22 ⟨rfl, hi, hb, hk⟩
                      refine ⟨_, rfl, ?_⟩
                      have n0_ := Aside0.mk (Kd.R_mono (Kd.R_keep (IsS57.apart (show IsS57 w _ g103 t101 t117 from by repeat (first | (with_reducible first | exact HI103.out | apply IsS57.alloc | apply IsS57.drewN | apply IsS57.drew | apply IsS57.set_1) | exact HI103.out)) (by (with_reducible repeat (first | apply Kd.R_alloc | apply Kd.R_drewN | apply Kd.R_drew)); exact HO106.out) (by decide)) hk (fun _ h => h.2)) (fun _ h => h.1))
                      have n1_ := Aside0.mk (hb)
                      have n2_ := Aside0.mk (hi)
                      have z_HO112 := fun (h0_ : b 5 = true) => (show Kd.R (Kd.int .i64) 3 w22 w.heap.size (fun _ => True) v111 y110 from by first | exact (Kd.R_mono (Kd.R_keep (IsS57.apart (show IsS57 w _ g103 t101 t117 from by repeat (first | (with_reducible first | exact HI103.out | apply IsS57.alloc | apply IsS57.drewN | apply IsS57.drew | apply IsS57.set_1) | exact HI103.out)) (by (with_reducible repeat (first | apply Kd.R_alloc | apply Kd.R_drewN | apply Kd.R_drew)); exact (Q_HO112 h0_)) (by decide)) hk (fun _ h => h.2)) (fun _ h => h.1)) | exact Kd.R_mono (Kd.R_mono (Kd.R_keep (IsS57.apart (show IsS57 w _ g103 t101 t117 from by repeat (first | (with_reducible first | exact HI103.out | apply IsS57.alloc | apply IsS57.drewN | apply IsS57.drew | apply IsS57.set_1) | exact HI103.out)) (by (with_reducible repeat (first | apply Kd.R_alloc | apply Kd.R_drewN | apply Kd.R_drew)); exact (Q_HO112 h0_)) (by decide)) hk (fun _ h => h.2)) (fun _ h => h.1)) (fun _ h_ => by first | trivial | exact h_ | exact h_.1))
                      have z_HO115 := fun (h0_ : b 6 = true) => (show Kd.R (Kd.int .i64) 3 w22 w.heap.size (fun _ => True) v114 y113 from by first | exact (Kd.R_mono (Kd.R_keep (IsS57.apart (show IsS57 w _ g103 t101 t117 from by repeat (first | (with_reducible first | exact HI103.out | apply IsS57.alloc | apply IsS57.drewN | apply IsS57.drew | apply IsS57.set_1) | exact HI103.out)) (by (with_reducible repeat (first | apply Kd.R_alloc | apply Kd.R_drewN | apply Kd.R_drew)); exact (Q_HO115 h0_)) (by decide)) hk (fun _ h => h.2)) (fun _ h => h.1)) | exact Kd.R_mono (Kd.R_mono (Kd.R_keep (IsS57.apart (show IsS57 w _ g103 t101 t117 from by repeat (first | (with_reducible first | exact HI103.out | apply IsS57.alloc | apply IsS57.drewN | apply IsS57.drew | apply IsS57.set_1) | exact HI103.out)) (by (with_reducible repeat (first | apply Kd.R_alloc | apply Kd.R_drewN | apply Kd.R_drew)); exact (Q_HO115 h0_)) (by decide)) hk (fun _ h => h.2)) (fun _ h => h.1)) (fun _ h_ => by first | trivial | exact h_ | exact h_.1))
                      have z_HO127 := fun (h0_ : b 17 = true) => (show Kd.R (Kd.int .i64) 3 w22 w.heap.size (fun _ => True) v126 y125 from by first | exact (Kd.R_mono (Kd.R_keep (IsS57.apart (show IsS57 w _ g103 t101 t117 from by repeat (first | (with_reducible first | exact HI103.out | apply IsS57.alloc | apply IsS57.drewN | apply IsS57.drew | apply IsS57.set_1) | exact HI103.out)) (by (with_reducible repeat (first | apply Kd.R_alloc | apply Kd.R_drewN | apply Kd.R_drew)); exact (Q_HO127 h0_)) (by decide)) hk (fun _ h => h.2)) (fun _ h => h.1)) | exact Kd.R_mono (Kd.R_mono (Kd.R_keep (IsS57.apart (show IsS57 w _ g103 t101 t117 from by repeat (first | (with_reducible first | exact HI103.out | apply IsS57.alloc | apply IsS57.drewN | apply IsS57.drew | apply IsS57.set_1) | exact HI103.out)) (by (with_reducible repeat (first | apply Kd.R_alloc | apply Kd.R_drewN | apply Kd.R_drew)); exact (Q_HO127 h0_)) (by decide)) hk (fun _ h => h.2)) (fun _ h => h.1)) (fun _ h_ => by first | trivial | exact h_ | exact h_.1))
                      clear HO106
                      clear HB
                      clear HI103
                      have HO106 := n0_
                      have HB := n1_
                      have HI103 := n2_
                      clear n0_ n1_ n2_
                      (try clear hb)
                      (try clear hb2)
                      (try clear hk)
                      (try clear hi)
                      refine hK.out _ _ ⟨v105, v111, adz_v111, v114, adz_v114, v123, adz_v123, v126, adz_v126, m9_, m11_, m20_, m22_, m24_, (by rw [ha.out]; exact putSel_upk 10 hb_ rfl rfl rfl), fun h0_ => absurd ((hon 1 (by kernel_rfl)).symm.trans h0_) (by decide), (by repeat (first | (with_reducible first | exact HB.out | apply below_alloc | apply pw_below_drewN | apply below_drew1 | refine below_set ?_ (IsS57.ge HI103.out)) | exact HB.out)), fun _ => (by (with_reducible repeat (first | apply Kd.R_alloc | apply Kd.R_drewN | apply Kd.R_drew)); exact HO106.out), fun _ h1_ => absurd ((hon 3 (by kernel_rfl)).symm.trans h1_) (by decide), fun _ h1_ => absurd ((hon 8 (by kernel_rfl)).symm.trans h1_) (by decide), z_HO112, Q_HA_HO112, z_HO115, Q_HA_HO115, fun _ h1_ => absurd ((up_self b 14).symm.trans h1_) (by decide), fun _ _ => (by repeat (first | (with_reducible first | exact HI103.out | apply IsS57.alloc | apply IsS57.drewN | apply IsS57.drew | apply IsS57.set_1) | exact HI103.out)), fun h0_ => absurd ((hoff 16 (by kernel_rfl)).symm.trans h0_) (by decide), fun h0_ => absurd ((hoff 16 (by kernel_rfl)).symm.trans h0_) (by decide), z_HO127, Q_HA_HO127, fun h0_ => absurd ((hoff 19 (by kernel_rfl)).symm.trans h0_) (by decide), Q_X9_, Q_X11_, fun h0_ => absurd ((hoff 20 (by kernel_rfl)).symm.trans h0_) (by decide), fun h0_ => absurd ((hoff 22 (by kernel_rfl)).symm.trans h0_) (by decide), fun h0_ => absurd ((hoff 24 (by kernel_rfl)).symm.trans h0_) (by decide)⟩
                    refine steps_cons ?_ ?_
                    · rintro b a w' ⟨v105, v111, adz_v111, v114, adz_v114, v123, adz_v123, v126, adz_v126, m9_, m11_, m20_, m22_, m24_, ha, Q_HI103, Q_HB, Q_HO106, Q_HI103_e1, Q_HI103_e3, Q_HO112, Q_HA_HO112, Q_HO115, Q_HA_HO115, Q_HI103_e8, Q_HI103_e14, Q_HO124, Q_HA_HO124, Q_HO127, Q_HA_HO127, Q_HI103_e19, Q_X9_, Q_X11_, Q_X20_, Q_X22_, Q_X24_⟩ hb_ hon hoff
                      refine ⟨_, rfl, fun K hK => ?_⟩
                      have e22 : a.tmps[22]? = some (.int .i64 t120) := by rw [ha]; exact putSel_on (e := (14, 22, .int .i64 t120)) 10 rfl rfl (hon 14 (by kernel_rfl)) rfl
                      replace ha := Aside0.mk ha
                      have HB := Aside0.mk Q_HB
                      have HO106 := Aside0.mk (Q_HO106 (hon 1 (by kernel_rfl)))
                      refine value_ (w1 := w') (v := .int .i64 (wrap64 (1 + t120))) (by rfl) rfl ?_ ?_
                      · go_simp
                        (try simp only [i64_w])
                        try rfl
                      refine hK.out _ _ ⟨v105, v111, adz_v111, v114, adz_v114, v123, adz_v123, v126, adz_v126, m9_, m11_, m20_, m22_, m24_, (by rw [ha.out]; exact putSel_upk 11 hb_ rfl rfl rfl), fun h0_ => absurd ((hon 1 (by kernel_rfl)).symm.trans h0_) (by decide), Q_HB, Q_HO106, fun _ h1_ => absurd ((hon 3 (by kernel_rfl)).symm.trans h1_) (by decide), fun _ h1_ => absurd ((hon 8 (by kernel_rfl)).symm.trans h1_) (by decide), Q_HO112, Q_HA_HO112, Q_HO115, Q_HA_HO115, fun _ h1_ => absurd ((hon 14 (by kernel_rfl)).symm.trans h1_) (by decide), Q_HI103_e14, fun h0_ => absurd ((hoff 16 (by kernel_rfl)).symm.trans h0_) (by decide), fun h0_ => absurd ((hoff 16 (by kernel_rfl)).symm.trans h0_) (by decide), Q_HO127, Q_HA_HO127, Q_HI103_e19, Q_X9_, Q_X11_, Q_X20_, fun h0_ => absurd ((hoff 22 (by kernel_rfl)).symm.trans h0_) (by decide), Q_X24_⟩
                    refine steps_cons ?_ ?_
                    · rintro b a w' ⟨v105, v111, adz_v111, v114, adz_v114, v123, adz_v123, v126, adz_v126, m9_, m11_, m20_, m22_, m24_, ha, Q_HI103, Q_HB, Q_HO106, Q_HI103_e1, Q_HI103_e3, Q_HO112, Q_HA_HO112, Q_HO115, Q_HA_HO115, Q_HI103_e8, Q_HI103_e14, Q_HO124, Q_HA_HO124, Q_HO127, Q_HA_HO127, Q_HI103_e19, Q_X9_, Q_X11_, Q_X20_, Q_X22_, Q_X24_⟩ hb_ hon hoff
                      refine ⟨_, rfl, fun K hK => ?_⟩
                      have e23 : a.tmps[23]? = some (.int .i64 (wrap64 (1 + t120))) := by rw [ha]; exact putSel_on (e := (15, 23, .int .i64 (wrap64 (1 + t120)))) 11 rfl rfl (hon 15 (by kernel_rfl)) rfl
                      replace ha := Aside0.mk ha
                      have HB := Aside0.mk Q_HB
                      have HO106 := Aside0.mk (Q_HO106 (hon 1 (by kernel_rfl)))
                      refine Kd.R_lit_step (Kd.int .i64) _ 3 ?hg (N := 24) ?hd (xs := ([wrap64 (1 + t120), 0, 101] : List Int)) (inner := [.int .i64 (wrap64 (1 + t120)), .int .i64 0, .int .i64 101]) (ok := fun _ => True) (okp := fun _ => True) ?hr ?hp (fun _ hk => hk) trivial (Below.refl _ _) (Nat.le_refl _) (by simp) ?_; (case hd => rfl); (case hg => rfl); (case hr => first | (go_simp; done) | (go_simp; rfl)); (case hp => exact (Reps.one (show Kd.M (Kd.int .i64) _ _ _ (wrap64 (1 + t120)) [.int .i64 (wrap64 (1 + t120))] from rfl) (Reps.one (show Kd.M (Kd.int .i64) _ _ _ 0 [.int .i64 0] from rfl) (Reps.one (show Kd.M (Kd.int .i64) _ _ _ 101 [.int .i64 101] from rfl) (Reps.none _ _)))))
                      intro v123 w23 ho24 hb hg_ hnew_
                      clear hg_ hnew_
                      (first | rw [← Ny122.out] at ho24 | (simp only [Int.reduceToNat] at ho24; rw [← Ny122.out] at ho24))
                      have n0_ := Aside0.mk (Kd.R_below (by (with_reducible repeat (first | apply Kd.R_alloc | apply Kd.R_drewN | apply Kd.R_drew)); exact HO106.out) hb)
                      have n1_ := Aside0.mk (Kd.R_lower ho24 (below_size (by repeat (first | (with_reducible first | exact HB.out | apply below_alloc | apply pw_below_drewN | apply below_drew1) | exact HB.out))))
                      have n3_ := Aside0.mk (below_step (by repeat (first | (with_reducible first | exact HB.out | apply below_alloc | apply pw_below_drewN | apply below_drew1) | exact HB.out)) hb)
                      have z_HO112 := fun (h0_ : b 5 = true) => (show Kd.R (Kd.int .i64) 3 w23 w.heap.size (fun _ => True) v111 y110 from by first | exact (Kd.R_elder' (by (with_reducible repeat (first | apply Kd.R_alloc | apply Kd.R_drewN | apply Kd.R_drew)); exact (Q_HO112 h0_)) (Kd.R_base ho24) hb) | exact Kd.R_mono (Kd.R_elder' (by (with_reducible repeat (first | apply Kd.R_alloc | apply Kd.R_drewN | apply Kd.R_drew)); exact (Q_HO112 h0_)) (Kd.R_base ho24) hb) (fun _ h_ => by first | trivial | exact h_ | exact h_.1))
                      have z_HO115 := fun (h0_ : b 6 = true) => (show Kd.R (Kd.int .i64) 3 w23 w.heap.size (fun _ => True) v114 y113 from by first | exact (Kd.R_elder' (by (with_reducible repeat (first | apply Kd.R_alloc | apply Kd.R_drewN | apply Kd.R_drew)); exact (Q_HO115 h0_)) (Kd.R_base ho24) hb) | exact Kd.R_mono (Kd.R_elder' (by (with_reducible repeat (first | apply Kd.R_alloc | apply Kd.R_drewN | apply Kd.R_drew)); exact (Q_HO115 h0_)) (Kd.R_base ho24) hb) (fun _ h_ => by first | trivial | exact h_ | exact h_.1))
                      have z_HI103_e14 := fun (h0_ : b 14 = true) (h1_ : b 19 = false) => (show IsS57 w w23 g103 t101 t121 from by first | exact (IsS57.below (by repeat (first | (with_reducible first | exact (Q_HI103_e14 h0_ h1_) | apply IsS57.alloc | apply IsS57.drewN | apply IsS57.drew | apply IsS57.set_1) | exact (Q_HI103_e14 h0_ h1_))) hb))
                      have z_HO127 := fun (h0_ : b 17 = true) => (show Kd.R (Kd.int .i64) 3 w23 w.heap.size (fun _ => True) v126 y125 from by first | exact (Kd.R_elder' (by (with_reducible repeat (first | apply Kd.R_alloc | apply Kd.R_drewN | apply Kd.R_drew)); exact (Q_HO127 h0_)) (Kd.R_base ho24) hb) | exact Kd.R_mono (Kd.R_elder' (by (with_reducible repeat (first | apply Kd.R_alloc | apply Kd.R_drewN | apply Kd.R_drew)); exact (Q_HO127 h0_)) (Kd.R_base ho24) hb) (fun _ h_ => by first | trivial | exact h_ | exact h_.1))
                      have z_HI103_e19 := fun (h0_ : b 19 = true) => (show IsS57 w w23 g103 t101 t129 from by first | exact (IsS57.below (by repeat (first | (with_reducible first | exact (Q_HI103_e19 h0_) | apply IsS57.alloc | apply IsS57.drewN | apply IsS57.drew | apply IsS57.set_1) | exact (Q_HI103_e19 h0_))) hb))
                      clear HO106
                      clear HB
                      have HO106 := n0_
                      have HO124 := n1_
                      have HB := n3_
                      clear n0_ n1_ n3_
                      clear hb ho24
                      obtain ⟨Ao25, co25, eo25⟩ := Kd.R_slice HO124.out
                      subst eo25
                      obtain ⟨ado25, fo25, _⟩ := Kd.at_int (Kd.R_reads' HO124.out).2.2 0 (by decide) (by rw [Ny122.out]; simp)
                      cases fo25
                      refine hK.out _ _ ⟨v105, v111, adz_v111, v114, adz_v114, .slice (some ado25) y122.length co25, ado25, v126, adz_v126, m9_, m11_, m20_, m22_, m24_, (by rw [ha.out]; exact putSel_upk 12 hb_ rfl rfl rfl), fun h0_ => absurd ((hon 1 (by kernel_rfl)).symm.trans h0_) (by decide), (by repeat (first | (with_reducible first | exact HB.out | apply below_alloc | apply pw_below_drewN | apply below_drew1) | exact HB.out)), fun _ => (by (with_reducible repeat (first | apply Kd.R_alloc | apply Kd.R_drewN | apply Kd.R_drew)); exact HO106.out), fun _ h1_ => absurd ((hon 3 (by kernel_rfl)).symm.trans h1_) (by decide), fun _ h1_ => absurd ((hon 8 (by kernel_rfl)).symm.trans h1_) (by decide), z_HO112, Q_HA_HO112, z_HO115, Q_HA_HO115, fun _ h1_ => absurd ((hon 14 (by kernel_rfl)).symm.trans h1_) (by decide), z_HI103_e14, fun _ => (by (with_reducible repeat (first | apply Kd.R_alloc | apply Kd.R_drewN | apply Kd.R_drew)); exact HO124.out), fun _ => ⟨_, rfl⟩, z_HO127, Q_HA_HO127, z_HI103_e19, Q_X9_, Q_X11_, Q_X20_, fun h0_ => absurd ((hoff 22 (by kernel_rfl)).symm.trans h0_) (by decide), Q_X24_⟩
                    refine steps_cons ?_ ?_
                    · rintro b a w' ⟨v105, v111, adz_v111, v114, adz_v114, v123, adz_v123, v126, adz_v126, m9_, m11_, m20_, m22_, m24_, ha, Q_HI103, Q_HB, Q_HO106, Q_HI103_e1, Q_HI103_e3, Q_HO112, Q_HA_HO112, Q_HO115, Q_HA_HO115, Q_HI103_e8, Q_HI103_e14, Q_HO124, Q_HA_HO124, Q_HO127, Q_HA_HO127, Q_HI103_e19, Q_X9_, Q_X11_, Q_X20_, Q_X22_, Q_X24_⟩ hb_ hon hoff
                      refine ⟨_, rfl, fun K hK => ?_⟩
                      replace ha := Aside0.mk ha
                      have HB := Aside0.mk Q_HB
                      refine Kd.R_lit_step (Kd.int .i64) _ 3 ?hg (N := 25) ?hd (xs := ([0, 0, 0, 0, 0, 1, 2] : List Int)) (inner := [.int .i64 0, .int .i64 0, .int .i64 0, .int .i64 0, .int .i64 0, .int .i64 1, .int .i64 2]) (ok := fun _ => True) (okp := fun _ => True) ?hr ?hp (fun _ hk => hk) trivial (Below.refl _ _) (Nat.le_refl _) (by simp) ?_; (case hd => rfl); (case hg => rfl); (case hr => first | (go_simp; done) | (go_simp; rfl)); (case hp => exact (Reps.one (show Kd.M (Kd.int .i64) _ _ _ 0 [.int .i64 0] from rfl) (Reps.one (show Kd.M (Kd.int .i64) _ _ _ 0 [.int .i64 0] from rfl) (Reps.one (show Kd.M (Kd.int .i64) _ _ _ 0 [.int .i64 0] from rfl) (Reps.one (show Kd.M (Kd.int .i64) _ _ _ 0 [.int .i64 0] from rfl) (Reps.one (show Kd.M (Kd.int .i64) _ _ _ 0 [.int .i64 0] from rfl) (Reps.one (show Kd.M (Kd.int .i64) _ _ _ 1 [.int .i64 1] from rfl) (Reps.one (show Kd.M (Kd.int .i64) _ _ _ 2 [.int .i64 2] from rfl) (Reps.none _ _)))))))))
                      intro v126 w18 ho19 hb hg_ hnew_
                      clear hg_ hnew_
                      (first | rw [← Ny125.out] at ho19 | (simp only [Int.reduceToNat] at ho19; rw [← Ny125.out] at ho19))
                      have n0_ := Aside0.mk (Kd.R_lower ho19 (below_size (by repeat (first | (with_reducible first | exact HB.out | apply below_alloc | apply pw_below_drewN | apply below_drew1) | exact HB.out))))
                      have n2_ := Aside0.mk (below_step (by repeat (first | (with_reducible first | exact HB.out | apply below_alloc | apply pw_below_drewN | apply below_drew1) | exact HB.out)) hb)
                      have z_HI103 := fun (h0_ : b 1 = false) => (show IsS57 w w18 g103 t101 t102 from by first | exact (IsS57.below (by repeat (first | (with_reducible first | exact (Q_HI103 h0_) | apply IsS57.alloc | apply IsS57.drewN | apply IsS57.drew | apply IsS57.set_1) | exact (Q_HI103 h0_))) hb))
                      have z_HO106 := fun (h0_ : b 1 = true) => (show Kd.R k29 29 w18 w.heap.size (fun _ => True) v105 t104 from by first | exact (Kd.R_below (by (with_reducible repeat (first | apply Kd.R_alloc | apply Kd.R_drewN | apply Kd.R_drew)); exact (Q_HO106 h0_)) hb) | exact Kd.R_mono (Kd.R_below (by (with_reducible repeat (first | apply Kd.R_alloc | apply Kd.R_drewN | apply Kd.R_drew)); exact (Q_HO106 h0_)) hb) (fun _ h_ => by first | trivial | exact h_ | exact h_.1))
                      have z_HI103_e1 := fun (h0_ : b 1 = true) (h1_ : b 3 = false) => (show IsS57 w w18 g103 t101 t107 from by first | exact (IsS57.below (by repeat (first | (with_reducible first | exact (Q_HI103_e1 h0_ h1_) | apply IsS57.alloc | apply IsS57.drewN | apply IsS57.drew | apply IsS57.set_1) | exact (Q_HI103_e1 h0_ h1_))) hb))
                      have z_HI103_e3 := fun (h0_ : b 3 = true) (h1_ : b 8 = false) => (show IsS57 w w18 g103 t101 t109 from by first | exact (IsS57.below (by repeat (first | (with_reducible first | exact (Q_HI103_e3 h0_ h1_) | apply IsS57.alloc | apply IsS57.drewN | apply IsS57.drew | apply IsS57.set_1) | exact (Q_HI103_e3 h0_ h1_))) hb))
                      have z_HO112 := fun (h0_ : b 5 = true) => (show Kd.R (Kd.int .i64) 3 w18 w.heap.size (fun _ => True) v111 y110 from by first | exact (Kd.R_elder' (by (with_reducible repeat (first | apply Kd.R_alloc | apply Kd.R_drewN | apply Kd.R_drew)); exact (Q_HO112 h0_)) (Kd.R_base ho19) hb) | exact Kd.R_mono (Kd.R_elder' (by (with_reducible repeat (first | apply Kd.R_alloc | apply Kd.R_drewN | apply Kd.R_drew)); exact (Q_HO112 h0_)) (Kd.R_base ho19) hb) (fun _ h_ => by first | trivial | exact h_ | exact h_.1))
                      have z_HO115 := fun (h0_ : b 6 = true) => (show Kd.R (Kd.int .i64) 3 w18 w.heap.size (fun _ => True) v114 y113 from by first | exact (Kd.R_elder' (by (with_reducible repeat (first | apply Kd.R_alloc | apply Kd.R_drewN | apply Kd.R_drew)); exact (Q_HO115 h0_)) (Kd.R_base ho19) hb) | exact Kd.R_mono (Kd.R_elder' (by (with_reducible repeat (first | apply Kd.R_alloc | apply Kd.R_drewN | apply Kd.R_drew)); exact (Q_HO115 h0_)) (Kd.R_base ho19) hb) (fun _ h_ => by first | trivial | exact h_ | exact h_.1))
                      have z_HI103_e8 := fun (h0_ : b 8 = true) (h1_ : b 14 = false) => (show IsS57 w w18 g103 t101 t117 from by first | exact (IsS57.below (by repeat (first | (with_reducible first | exact (Q_HI103_e8 h0_ h1_) | apply IsS57.alloc | apply IsS57.drewN | apply IsS57.drew | apply IsS57.set_1) | exact (Q_HI103_e8 h0_ h1_))) hb))
                      have z_HI103_e14 := fun (h0_ : b 14 = true) (h1_ : b 19 = false) => (show IsS57 w w18 g103 t101 t121 from by first | exact (IsS57.below (by repeat (first | (with_reducible first | exact (Q_HI103_e14 h0_ h1_) | apply IsS57.alloc | apply IsS57.drewN | apply IsS57.drew | apply IsS57.set_1) | exact (Q_HI103_e14 h0_ h1_))) hb))
                      have z_HO124 := fun (h0_ : b 16 = true) => (show Kd.R (Kd.int .i64) 3 w18 w.heap.size (fun _ => True) v123 y122 from by first | exact (Kd.R_elder' (by (with_reducible repeat (first | apply Kd.R_alloc | apply Kd.R_drewN | apply Kd.R_drew)); exact (Q_HO124 h0_)) (Kd.R_base ho19) hb) | exact Kd.R_mono (Kd.R_elder' (by (with_reducible repeat (first | apply Kd.R_alloc | apply Kd.R_drewN | apply Kd.R_drew)); exact (Q_HO124 h0_)) (Kd.R_base ho19) hb) (fun _ h_ => by first | trivial | exact h_ | exact h_.1))
                      have z_HI103_e19 := fun (h0_ : b 19 = true) => (show IsS57 w w18 g103 t101 t129 from by first | exact (IsS57.below (by repeat (first | (with_reducible first | exact (Q_HI103_e19 h0_) | apply IsS57.alloc | apply IsS57.drewN | apply IsS57.drew | apply IsS57.set_1) | exact (Q_HI103_e19 h0_))) hb))
                      clear HB
                      have HO127 := n0_
                      have HB := n2_
                      clear n0_ n2_
                      clear hb ho19
                      obtain ⟨Ao20, co20, eo20⟩ := Kd.R_slice HO127.out
                      subst eo20
                      obtain ⟨ado20, fo20, _⟩ := Kd.at_int (Kd.R_reads' HO127.out).2.2 0 (by decide) (by rw [Ny125.out]; simp)
                      cases fo20
                      refine hK.out _ _ ⟨v105, v111, adz_v111, v114, adz_v114, v123, adz_v123, .slice (some ado20) y125.length co20, ado20, m9_, m11_, m20_, m22_, m24_, (by rw [ha.out]; exact putSel_upk 13 hb_ rfl rfl rfl), z_HI103, (by repeat (first | (with_reducible first | exact HB.out | apply below_alloc | apply pw_below_drewN | apply below_drew1) | exact HB.out)), z_HO106, z_HI103_e1, z_HI103_e3, z_HO112, Q_HA_HO112, z_HO115, Q_HA_HO115, z_HI103_e8, z_HI103_e14, z_HO124, Q_HA_HO124, fun _ => (by (with_reducible repeat (first | apply Kd.R_alloc | apply Kd.R_drewN | apply Kd.R_drew)); exact HO127.out), fun _ => ⟨_, rfl⟩, z_HI103_e19, Q_X9_, Q_X11_, fun h0_ => absurd ((hoff 20 (by kernel_rfl)).symm.trans h0_) (by decide), fun h0_ => absurd ((hoff 22 (by kernel_rfl)).symm.trans h0_) (by decide), Q_X24_⟩
                    refine steps_cons ?_ ?_
                    · rintro b a w' ⟨v105, v111, adz_v111, v114, adz_v114, v123, adz_v123, v126, adz_v126, m9_, m11_, m20_, m22_, m24_, ha, Q_HI103, Q_HB, Q_HO106, Q_HI103_e1, Q_HI103_e3, Q_HO112, Q_HA_HO112, Q_HO115, Q_HA_HO115, Q_HI103_e8, Q_HI103_e14, Q_HO124, Q_HA_HO124, Q_HO127, Q_HA_HO127, Q_HI103_e19, Q_X9_, Q_X11_, Q_X20_, Q_X22_, Q_X24_⟩ hb_ hon hoff
                      refine ⟨_, rfl, fun K hK => ?_⟩
                      have e26 : a.tmps[26]? = some (.pointer (some ⟨g103, 0, none⟩)) := by rw [ha]; exact (putSel_off rfl).trans rfl
                      replace ha := Aside0.mk ha
                      have HB := Aside0.mk Q_HB
                      have HO106 := Aside0.mk (Q_HO106 (hon 1 (by kernel_rfl)))
                      have HI103 := Aside0.mk (Q_HI103_e14 (hon 14 (by kernel_rfl)) hb_)
                      refine goes_ Try.func51 (by kernel_rfl) rfl #[.pointer (some ⟨g103, 0, none⟩), .int .i64 7] (by rfl) rfl rfl (by first | (simp only [List.map_toArray, List.map_cons, List.map_nil, Act.eval, Array.getD_eq_getD_getElem?, Option.getD_some, e26]; done) | (simp only [List.map_toArray, List.map_cons, List.map_nil, Act.eval, Array.getD_eq_getD_getElem?, Option.getD_some, e26]; rfl)) ?_
                      with_reducible refine (spec_l20Rd_pick.calls k g103 t101 t121 7 t128 t129 w _ ?side1 ?side2 A11.out).mono ?_
                      (case side1 => repeat (first | (with_reducible first | exact HI103.out | apply IsS57.alloc | apply IsS57.drewN | apply IsS57.drew | apply IsS57.set_1) | exact HI103.out))
                      (case side2 => repeat (first | (with_reducible first | exact HB.out | apply below_alloc | apply pw_below_drewN | apply below_drew1 | refine below_set ?_ (IsS57.ge HI103.out)) | exact HB.out))
                      rintro e w23 ⟨rfl, hi, hb, hk⟩
                      refine ⟨_, rfl, ?_⟩
                      have n0_ := Aside0.mk (Kd.R_mono (Kd.R_keep (IsS57.apart (show IsS57 w _ g103 t101 t121 from by repeat (first | (with_reducible first | exact HI103.out | apply IsS57.alloc | apply IsS57.drewN | apply IsS57.drew | apply IsS57.set_1) | exact HI103.out)) (by (with_reducible repeat (first | apply Kd.R_alloc | apply Kd.R_drewN | apply Kd.R_drew)); exact HO106.out) (by decide)) hk (fun _ h => h.2)) (fun _ h => h.1))
                      have n1_ := Aside0.mk (hb)
                      have n2_ := Aside0.mk (hi)
                      have z_HO112 := fun (h0_ : b 5 = true) => (show Kd.R (Kd.int .i64) 3 w23 w.heap.size (fun _ => True) v111 y110 from by first | exact (Kd.R_mono (Kd.R_keep (IsS57.apart (show IsS57 w _ g103 t101 t121 from by repeat (first | (with_reducible first | exact HI103.out | apply IsS57.alloc | apply IsS57.drewN | apply IsS57.drew | apply IsS57.set_1) | exact HI103.out)) (by (with_reducible repeat (first | apply Kd.R_alloc | apply Kd.R_drewN | apply Kd.R_drew)); exact (Q_HO112 h0_)) (by decide)) hk (fun _ h => h.2)) (fun _ h => h.1)) | exact Kd.R_mono (Kd.R_mono (Kd.R_keep (IsS57.apart (show IsS57 w _ g103 t101 t121 from by repeat (first | (with_reducible first | exact HI103.out | apply IsS57.alloc | apply IsS57.drewN | apply IsS57.drew | apply IsS57.set_1) | exact HI103.out)) (by (with_reducible repeat (first | apply Kd.R_alloc | apply Kd.R_drewN | apply Kd.R_drew)); exact (Q_HO112 h0_)) (by decide)) hk (fun _ h => h.2)) (fun _ h => h.1)) (fun _ h_ => by first | trivial | exact h_ | exact h_.1))
                      have z_HO115 := fun (h0_ : b 6 = true) => (show Kd.R (Kd.int .i64) 3 w23 w.heap.size (fun _ => True) v114 y113 from by first | exact (Kd.R_mono (Kd.R_keep (IsS57.apart (show IsS57 w _ g103 t101 t121 from by repeat (first | (with_reducible first | exact HI103.out | apply IsS57.alloc | apply IsS57.drewN | apply IsS57.drew | apply IsS57.set_1) | exact HI103.out)) (by (with_reducible repeat (first | apply Kd.R_alloc | apply Kd.R_drewN | apply Kd.R_drew)); exact (Q_HO115 h0_)) (by decide)) hk (fun _ h => h.2)) (fun _ h => h.1)) | exact Kd.R_mono (Kd.R_mono (Kd.R_keep (IsS57.apart (show IsS57 w _ g103 t101 t121 from by repeat (first | (with_reducible first | exact HI103.out | apply IsS57.alloc | apply IsS57.drewN | apply IsS57.drew | apply IsS57.set_1) | exact HI103.out)) (by (with_reducible repeat (first | apply Kd.R_alloc | apply Kd.R_drewN | apply Kd.R_drew)); exact (Q_HO115 h0_)) (by decide)) hk (fun _ h => h.2)) (fun _ h => h.1)) (fun _ h_ => by first | trivial | exact h_ | exact h_.1))
                      have z_HO124 := fun (h0_ : b 16 = true) => (show Kd.R (Kd.int .i64) 3 w23 w.heap.size (fun _ => True) v123 y122 from by first | exact (Kd.R_mono (Kd.R_keep (IsS57.apart (show IsS57 w _ g103 t101 t121 from by repeat (first | (with_reducible first | exact HI103.out | apply IsS57.alloc | apply IsS57.drewN | apply IsS57.drew | apply IsS57.set_1) | exact HI103.out)) (by (with_reducible repeat (first | apply Kd.R_alloc | apply Kd.R_drewN | apply Kd.R_drew)); exact (Q_HO124 h0_)) (by decide)) hk (fun _ h => h.2)) (fun _ h => h.1)) | exact Kd.R_mono (Kd.R_mono (Kd.R_keep (IsS57.apart (show IsS57 w _ g103 t101 t121 from by repeat (first | (with_reducible first | exact HI103.out | apply IsS57.alloc | apply IsS57.drewN | apply IsS57.drew | apply IsS57.set_1) | exact HI103.out)) (by (with_reducible repeat (first | apply Kd.R_alloc | apply Kd.R_drewN | apply Kd.R_drew)); exact (Q_HO124 h0_)) (by decide)) hk (fun _ h => h.2)) (fun _ h => h.1)) (fun _ h_ => by first | trivial | exact h_ | exact h_.1))
                      have z_HO127 := fun (h0_ : b 17 = true) => (show Kd.R (Kd.int .i64) 3 w23 w.heap.size (fun _ => True) v126 y125 from by first | exact (Kd.R_mono (Kd.R_keep (IsS57.apart (show IsS57 w _ g103 t101 t121 from by repeat (first | (with_reducible first | exact HI103.out | apply IsS57.alloc | apply IsS57.drewN | apply IsS57.drew | apply IsS57.set_1) | exact HI103.out)) (by (with_reducible repeat (first | apply Kd.R_alloc | apply Kd.R_drewN | apply Kd.R_drew)); exact (Q_HO127 h0_)) (by decide)) hk (fun _ h => h.2)) (fun _ h => h.1)) | exact Kd.R_mono (Kd.R_mono (Kd.R_keep (IsS57.apart (show IsS57 w _ g103 t101 t121 from by repeat (first | (with_reducible first | exact HI103.out | apply IsS57.alloc | apply IsS57.drewN | apply IsS57.drew | apply IsS57.set_1) | exact HI103.out)) (by (with_reducible repeat (first | apply Kd.R_alloc | apply Kd.R_drewN | apply Kd.R_drew)); exact (Q_HO127 h0_)) (by decide)) hk (fun _ h => h.2)) (fun _ h => h.1)) (fun _ h_ => by first | trivial | exact h_ | exact h_.1))
                      clear HO106
                      clear HB
                      clear HI103
                      have HO106 := n0_
                      have HB := n1_
                      have HI103 := n2_
                      clear n0_ n1_ n2_
                      (try clear hb)
                      (try clear hb2)
                      (try clear hk)
                      (try clear hi)
                      refine hK.out _ _ ⟨v105, v111, adz_v111, v114, adz_v114, v123, adz_v123, v126, adz_v126, m9_, m11_, m20_, m22_, m24_, (by rw [ha.out]; exact putSel_upk 14 hb_ rfl rfl rfl), fun h0_ => absurd ((hon 1 (by kernel_rfl)).symm.trans h0_) (by decide), (by repeat (first | (with_reducible first | exact HB.out | apply below_alloc | apply pw_below_drewN | apply below_drew1 | refine below_set ?_ (IsS57.ge HI103.out)) | exact HB.out)), fun _ => (by (with_reducible repeat (first | apply Kd.R_alloc | apply Kd.R_drewN | apply Kd.R_drew)); exact HO106.out), fun _ h1_ => absurd ((hon 3 (by kernel_rfl)).symm.trans h1_) (by decide), fun _ h1_ => absurd ((hon 8 (by kernel_rfl)).symm.trans h1_) (by decide), z_HO112, Q_HA_HO112, z_HO115, Q_HA_HO115, fun _ h1_ => absurd ((hon 14 (by kernel_rfl)).symm.trans h1_) (by decide), fun _ h1_ => absurd ((up_self b 19).symm.trans h1_) (by decide), z_HO124, Q_HA_HO124, z_HO127, Q_HA_HO127, fun _ => (by repeat (first | (with_reducible first | exact HI103.out | apply IsS57.alloc | apply IsS57.drewN | apply IsS57.drew | apply IsS57.set_1) | exact HI103.out)), Q_X9_, Q_X11_, fun h0_ => absurd ((hoff 20 (by kernel_rfl)).symm.trans h0_) (by decide), fun h0_ => absurd ((hoff 22 (by kernel_rfl)).symm.trans h0_) (by decide), fun h0_ => absurd ((hoff 24 (by kernel_rfl)).symm.trans h0_) (by decide)⟩
                    refine steps_cons ?_ ?_
                    · rintro b a w' ⟨v105, v111, adz_v111, v114, adz_v114, v123, adz_v123, v126, adz_v126, m9_, m11_, m20_, m22_, m24_, ha, Q_HI103, Q_HB, Q_HO106, Q_HI103_e1, Q_HI103_e3, Q_HO112, Q_HA_HO112, Q_HO115, Q_HA_HO115, Q_HI103_e8, Q_HI103_e14, Q_HO124, Q_HA_HO124, Q_HO127, Q_HA_HO127, Q_HI103_e19, Q_X9_, Q_X11_, Q_X20_, Q_X22_, Q_X24_⟩ hb_ hon hoff
                      refine ⟨_, rfl, fun K hK => ?_⟩
                      have e25 : a.tmps[25]? = some (v126) := by rw [ha]; exact putSel_on (e := (17, 25, v126)) 13 rfl rfl (hon 17 (by kernel_rfl)) rfl
                      have e27 : a.tmps[27]? = some (.int .i64 t128) := by rw [ha]; exact putSel_on (e := (19, 27, .int .i64 t128)) 14 rfl rfl (hon 19 (by kernel_rfl)) rfl
                      replace ha := Aside0.mk ha
                      have HB := Aside0.mk Q_HB
                      have HO106 := Aside0.mk (Q_HO106 (hon 1 (by kernel_rfl)))
                      have HO127 := Aside0.mk (Q_HO127 (hon 17 (by kernel_rfl)))
                      have HA_HO127 := Aside0.mk (Q_HA_HO127 (hon 17 (by kernel_rfl)))
                      have HI103 := Aside0.mk (Q_HI103_e19 (hon 19 (by kernel_rfl)))
                      obtain ⟨c_, hv_⟩ := HA_HO127.out
                      rw [hv_] at e25
                      refine value_ (w1 := w') (v := .pointer (some (adz_v126.add (t128).toNat))) (by rfl) rfl ?_ ?_
                      · go_simp
                        (try simp only [i64_w])
                        try rfl
                      refine hK.out _ _ ⟨v105, v111, adz_v111, v114, adz_v114, v123, adz_v123, v126, adz_v126, m9_, m11_, (.pointer (some (adz_v126.add (t128).toNat))), m22_, m24_, (by rw [ha.out]; exact putSel_upk 15 hb_ rfl rfl rfl), fun h0_ => absurd ((hon 1 (by kernel_rfl)).symm.trans h0_) (by decide), Q_HB, Q_HO106, fun _ h1_ => absurd ((hon 3 (by kernel_rfl)).symm.trans h1_) (by decide), fun _ h1_ => absurd ((hon 8 (by kernel_rfl)).symm.trans h1_) (by decide), Q_HO112, Q_HA_HO112, Q_HO115, Q_HA_HO115, fun _ h1_ => absurd ((hon 14 (by kernel_rfl)).symm.trans h1_) (by decide), fun _ h1_ => absurd ((hon 19 (by kernel_rfl)).symm.trans h1_) (by decide), Q_HO124, Q_HA_HO124, Q_HO127, Q_HA_HO127, Q_HI103_e19, Q_X9_, Q_X11_, fun _ => rfl, fun h0_ => absurd ((hoff 22 (by kernel_rfl)).symm.trans h0_) (by decide), Q_X24_⟩
                    refine steps_cons ?_ ?_
                    · rintro b a w' ⟨v105, v111, adz_v111, v114, adz_v114, v123, adz_v123, v126, adz_v126, m9_, m11_, m20_, m22_, m24_, ha, Q_HI103, Q_HB, Q_HO106, Q_HI103_e1, Q_HI103_e3, Q_HO112, Q_HA_HO112, Q_HO115, Q_HA_HO115, Q_HI103_e8, Q_HI103_e14, Q_HO124, Q_HA_HO124, Q_HO127, Q_HA_HO127, Q_HI103_e19, Q_X9_, Q_X11_, Q_X20_, Q_X22_, Q_X24_⟩ hb_ hon hoff
                      refine ⟨_, rfl, fun K hK => ?_⟩
                      have e28 : a.tmps[28]? = some (m20_) := by rw [ha]; exact putSel_on (e := (20, 28, m20_)) 15 rfl rfl (hon 20 (by kernel_rfl)) rfl
                      rw [Q_X20_ (hon 20 (by kernel_rfl))] at e28
                      replace ha := Aside0.mk ha
                      have HB := Aside0.mk Q_HB
                      have HO106 := Aside0.mk (Q_HO106 (hon 1 (by kernel_rfl)))
                      have HO127 := Aside0.mk (Q_HO127 (hon 17 (by kernel_rfl)))
                      have HA_HO127 := Aside0.mk (Q_HA_HO127 (hon 17 (by kernel_rfl)))
                      have HI103 := Aside0.mk (Q_HI103_e19 (hon 19 (by kernel_rfl)))
                      obtain ⟨c_, hv_⟩ := HA_HO127.out
                      have hF_ := HO127.out
                      rw [hv_] at hF_
                      obtain ⟨ad_, ea_, hx_⟩ := Kd.at_int (Kd.R_reads' hF_).2.2 t128 (of_eq_true pi130) (of_eq_true qi130)
                      cases ea_
                      refine value_ (w1 := w') (v := .int .i64 (rd y125 t128)) (by rfl) rfl ?_ ?_
                      · go_simp
                        (try simp only [i64_w])
                        try rfl
                      refine hK.out _ _ ⟨v105, v111, adz_v111, v114, adz_v114, v123, adz_v123, v126, adz_v126, m9_, m11_, m20_, m22_, m24_, (by rw [ha.out]; exact putSel_upk 16 hb_ rfl rfl rfl), fun h0_ => absurd ((hon 1 (by kernel_rfl)).symm.trans h0_) (by decide), Q_HB, Q_HO106, fun _ h1_ => absurd ((hon 3 (by kernel_rfl)).symm.trans h1_) (by decide), fun _ h1_ => absurd ((hon 8 (by kernel_rfl)).symm.trans h1_) (by decide), Q_HO112, Q_HA_HO112, Q_HO115, Q_HA_HO115, fun _ h1_ => absurd ((hon 14 (by kernel_rfl)).symm.trans h1_) (by decide), fun _ h1_ => absurd ((hon 19 (by kernel_rfl)).symm.trans h1_) (by decide), Q_HO124, Q_HA_HO124, Q_HO127, Q_HA_HO127, Q_HI103_e19, Q_X9_, Q_X11_, Q_X20_, fun h0_ => absurd ((hoff 22 (by kernel_rfl)).symm.trans h0_) (by decide), Q_X24_⟩
                    refine steps_cons ?_ ?_
                    · rintro b a w' ⟨v105, v111, adz_v111, v114, adz_v114, v123, adz_v123, v126, adz_v126, m9_, m11_, m20_, m22_, m24_, ha, Q_HI103, Q_HB, Q_HO106, Q_HI103_e1, Q_HI103_e3, Q_HO112, Q_HA_HO112, Q_HO115, Q_HA_HO115, Q_HI103_e8, Q_HI103_e14, Q_HO124, Q_HA_HO124, Q_HO127, Q_HA_HO127, Q_HI103_e19, Q_X9_, Q_X11_, Q_X20_, Q_X22_, Q_X24_⟩ hb_ hon hoff
                      refine ⟨_, rfl, fun K hK => ?_⟩
                      have e24 : a.tmps[24]? = some (v123) := by rw [ha]; exact putSel_on (e := (16, 24, v123)) 12 rfl rfl (hon 16 (by kernel_rfl)) rfl
                      have e29 : a.tmps[29]? = some (.int .i64 (rd y125 t128)) := by rw [ha]; exact putSel_on (e := (21, 29, .int .i64 (rd y125 t128))) 16 rfl rfl (hon 21 (by kernel_rfl)) rfl
                      replace ha := Aside0.mk ha
                      have HB := Aside0.mk Q_HB
                      have HO106 := Aside0.mk (Q_HO106 (hon 1 (by kernel_rfl)))
                      have HO124 := Aside0.mk (Q_HO124 (hon 16 (by kernel_rfl)))
                      have HA_HO124 := Aside0.mk (Q_HA_HO124 (hon 16 (by kernel_rfl)))
                      have HO127 := Aside0.mk (Q_HO127 (hon 17 (by kernel_rfl)))
                      have HA_HO127 := Aside0.mk (Q_HA_HO127 (hon 17 (by kernel_rfl)))
                      have HI103 := Aside0.mk (Q_HI103_e19 (hon 19 (by kernel_rfl)))
                      obtain ⟨c_, hv_⟩ := HA_HO124.out
                      rw [hv_] at e24
                      refine value_ (w1 := w') (v := .pointer (some (adz_v123.add ((rd y125 t128)).toNat))) (by rfl) rfl ?_ ?_
                      · go_simp
                        (try simp only [i64_w])
                        try rfl
                      refine hK.out _ _ ⟨v105, v111, adz_v111, v114, adz_v114, v123, adz_v123, v126, adz_v126, m9_, m11_, m20_, (.pointer (some (adz_v123.add ((rd y125 t128)).toNat))), m24_, (by rw [ha.out]; exact putSel_upk 17 hb_ rfl rfl rfl), fun h0_ => absurd ((hon 1 (by kernel_rfl)).symm.trans h0_) (by decide), Q_HB, Q_HO106, fun _ h1_ => absurd ((hon 3 (by kernel_rfl)).symm.trans h1_) (by decide), fun _ h1_ => absurd ((hon 8 (by kernel_rfl)).symm.trans h1_) (by decide), Q_HO112, Q_HA_HO112, Q_HO115, Q_HA_HO115, fun _ h1_ => absurd ((hon 14 (by kernel_rfl)).symm.trans h1_) (by decide), fun _ h1_ => absurd ((hon 19 (by kernel_rfl)).symm.trans h1_) (by decide), Q_HO124, Q_HA_HO124, Q_HO127, Q_HA_HO127, Q_HI103_e19, Q_X9_, Q_X11_, Q_X20_, fun _ => rfl, Q_X24_⟩
                    refine steps_cons ?_ ?_
                    · rintro b a w' ⟨v105, v111, adz_v111, v114, adz_v114, v123, adz_v123, v126, adz_v126, m9_, m11_, m20_, m22_, m24_, ha, Q_HI103, Q_HB, Q_HO106, Q_HI103_e1, Q_HI103_e3, Q_HO112, Q_HA_HO112, Q_HO115, Q_HA_HO115, Q_HI103_e8, Q_HI103_e14, Q_HO124, Q_HA_HO124, Q_HO127, Q_HA_HO127, Q_HI103_e19, Q_X9_, Q_X11_, Q_X20_, Q_X22_, Q_X24_⟩ hb_ hon hoff
                      refine ⟨_, rfl, fun K hK => ?_⟩
                      have e30 : a.tmps[30]? = some (m22_) := by rw [ha]; exact putSel_on (e := (22, 30, m22_)) 17 rfl rfl (hon 22 (by kernel_rfl)) rfl
                      rw [Q_X22_ (hon 22 (by kernel_rfl))] at e30
                      replace ha := Aside0.mk ha
                      have HB := Aside0.mk Q_HB
                      have HO106 := Aside0.mk (Q_HO106 (hon 1 (by kernel_rfl)))
                      have HO124 := Aside0.mk (Q_HO124 (hon 16 (by kernel_rfl)))
                      have HA_HO124 := Aside0.mk (Q_HA_HO124 (hon 16 (by kernel_rfl)))
                      have HO127 := Aside0.mk (Q_HO127 (hon 17 (by kernel_rfl)))
                      have HA_HO127 := Aside0.mk (Q_HA_HO127 (hon 17 (by kernel_rfl)))
                      have HI103 := Aside0.mk (Q_HI103_e19 (hon 19 (by kernel_rfl)))
                      obtain ⟨c_, hv_⟩ := HA_HO124.out
                      have hF_ := HO124.out
                      rw [hv_] at hF_
                      obtain ⟨ad_, ea_, hx_⟩ := Kd.at_int (Kd.R_reads' hF_).2.2 (rd y125 t128) (of_eq_true pi131) (of_eq_true qi131)
                      cases ea_
                      refine value_ (w1 := w') (v := .int .i64 (rd y122 (rd y125 t128))) (by rfl) rfl ?_ ?_
                      · go_simp
                        (try simp only [i64_w])
                        try rfl
                      refine hK.out _ _ ⟨v105, v111, adz_v111, v114, adz_v114, v123, adz_v123, v126, adz_v126, m9_, m11_, m20_, m22_, m24_, (by rw [ha.out]; exact putSel_upk 18 hb_ rfl rfl rfl), fun h0_ => absurd ((hon 1 (by kernel_rfl)).symm.trans h0_) (by decide), Q_HB, Q_HO106, fun _ h1_ => absurd ((hon 3 (by kernel_rfl)).symm.trans h1_) (by decide), fun _ h1_ => absurd ((hon 8 (by kernel_rfl)).symm.trans h1_) (by decide), Q_HO112, Q_HA_HO112, Q_HO115, Q_HA_HO115, fun _ h1_ => absurd ((hon 14 (by kernel_rfl)).symm.trans h1_) (by decide), fun _ h1_ => absurd ((hon 19 (by kernel_rfl)).symm.trans h1_) (by decide), Q_HO124, Q_HA_HO124, Q_HO127, Q_HA_HO127, Q_HI103_e19, Q_X9_, Q_X11_, Q_X20_, Q_X22_, Q_X24_⟩
                    refine steps_cons ?_ ?_
                    · rintro b a w' ⟨v105, v111, adz_v111, v114, adz_v114, v123, adz_v123, v126, adz_v126, m9_, m11_, m20_, m22_, m24_, ha, Q_HI103, Q_HB, Q_HO106, Q_HI103_e1, Q_HI103_e3, Q_HO112, Q_HA_HO112, Q_HO115, Q_HA_HO115, Q_HI103_e8, Q_HI103_e14, Q_HO124, Q_HA_HO124, Q_HO127, Q_HA_HO127, Q_HI103_e19, Q_X9_, Q_X11_, Q_X20_, Q_X22_, Q_X24_⟩ hb_ hon hoff
                      refine ⟨_, rfl, fun K hK => ?_⟩
                      have e9 : a.tmps[9]? = some (v105) := by rw [ha]; exact putSel_on (e := (1, 9, v105)) 0 rfl rfl (hon 1 (by kernel_rfl)) rfl
                      replace ha := Aside0.mk ha
                      have HB := Aside0.mk Q_HB
                      have HO106 := Aside0.mk (Q_HO106 (hon 1 (by kernel_rfl)))
                      have HI103 := Aside0.mk (Q_HI103_e19 (hon 19 (by kernel_rfl)))
                      refine value_ (w1 := w') (v := v105) (by rfl) rfl ?_ ?_
                      · go_simp
                        (try simp only [i64_w])
                        try rfl
                      refine hK.out _ _ ⟨v105, v111, adz_v111, v114, adz_v114, v123, adz_v123, v126, adz_v126, m9_, m11_, m20_, m22_, (v105), (by rw [ha.out]; exact putSel_upk 19 hb_ rfl rfl rfl), fun h0_ => absurd ((hon 1 (by kernel_rfl)).symm.trans h0_) (by decide), Q_HB, Q_HO106, fun _ h1_ => absurd ((hon 3 (by kernel_rfl)).symm.trans h1_) (by decide), fun _ h1_ => absurd ((hon 8 (by kernel_rfl)).symm.trans h1_) (by decide), Q_HO112, Q_HA_HO112, Q_HO115, Q_HA_HO115, fun _ h1_ => absurd ((hon 14 (by kernel_rfl)).symm.trans h1_) (by decide), fun _ h1_ => absurd ((hon 19 (by kernel_rfl)).symm.trans h1_) (by decide), Q_HO124, Q_HA_HO124, Q_HO127, Q_HA_HO127, Q_HI103_e19, Q_X9_, Q_X11_, Q_X20_, Q_X22_, fun _ => rfl⟩
                    refine steps_cons ?_ ?_
                    · rintro b a w' ⟨v105, v111, adz_v111, v114, adz_v114, v123, adz_v123, v126, adz_v126, m9_, m11_, m20_, m22_, m24_, ha, Q_HI103, Q_HB, Q_HO106, Q_HI103_e1, Q_HI103_e3, Q_HO112, Q_HA_HO112, Q_HO115, Q_HA_HO115, Q_HI103_e8, Q_HI103_e14, Q_HO124, Q_HA_HO124, Q_HO127, Q_HA_HO127, Q_HI103_e19, Q_X9_, Q_X11_, Q_X20_, Q_X22_, Q_X24_⟩ hb_ hon hoff
                      refine ⟨_, rfl, fun K hK => ?_⟩
                      have e20 : a.tmps[20]? = some (.int .i64 (rd y110 (rd y113 t116))) := by rw [ha]; exact putSel_on (e := (12, 20, .int .i64 (rd y110 (rd y113 t116)))) 9 rfl rfl (hon 12 (by kernel_rfl)) rfl
                      replace ha := Aside0.mk ha
                      have HB := Aside0.mk Q_HB
                      have HO106 := Aside0.mk (Q_HO106 (hon 1 (by kernel_rfl)))
                      have HO112 := Aside0.mk (Q_HO112 (hon 5 (by kernel_rfl)))
                      have HA_HO112 := Aside0.mk (Q_HA_HO112 (hon 5 (by kernel_rfl)))
                      have HO115 := Aside0.mk (Q_HO115 (hon 6 (by kernel_rfl)))
                      have HA_HO115 := Aside0.mk (Q_HA_HO115 (hon 6 (by kernel_rfl)))
                      have HI103 := Aside0.mk (Q_HI103_e19 (hon 19 (by kernel_rfl)))
                      refine value_ (w1 := w') (v := .int .i64 (rd y110 (rd y113 t116))) (by rfl) rfl ?_ ?_
                      · go_simp
                        (try simp only [i64_w])
                        try rfl
                      refine hK.out _ _ ⟨v105, v111, adz_v111, v114, adz_v114, v123, adz_v123, v126, adz_v126, m9_, m11_, m20_, m22_, m24_, (by rw [ha.out]; exact putSel_upk 20 hb_ rfl rfl rfl), fun h0_ => absurd ((hon 1 (by kernel_rfl)).symm.trans h0_) (by decide), Q_HB, Q_HO106, fun _ h1_ => absurd ((hon 3 (by kernel_rfl)).symm.trans h1_) (by decide), fun _ h1_ => absurd ((hon 8 (by kernel_rfl)).symm.trans h1_) (by decide), Q_HO112, Q_HA_HO112, Q_HO115, Q_HA_HO115, fun _ h1_ => absurd ((hon 14 (by kernel_rfl)).symm.trans h1_) (by decide), fun _ h1_ => absurd ((hon 19 (by kernel_rfl)).symm.trans h1_) (by decide), Q_HO124, Q_HA_HO124, Q_HO127, Q_HA_HO127, Q_HI103_e19, Q_X9_, Q_X11_, Q_X20_, Q_X22_, Q_X24_⟩
                    refine steps_cons ?_ ?_
                    · rintro b a w' ⟨v105, v111, adz_v111, v114, adz_v114, v123, adz_v123, v126, adz_v126, m9_, m11_, m20_, m22_, m24_, ha, Q_HI103, Q_HB, Q_HO106, Q_HI103_e1, Q_HI103_e3, Q_HO112, Q_HA_HO112, Q_HO115, Q_HA_HO115, Q_HI103_e8, Q_HI103_e14, Q_HO124, Q_HA_HO124, Q_HO127, Q_HA_HO127, Q_HI103_e19, Q_X9_, Q_X11_, Q_X20_, Q_X22_, Q_X24_⟩ hb_ hon hoff
                      refine ⟨_, rfl, fun K hK => ?_⟩
                      have e31 : a.tmps[31]? = some (.int .i64 (rd y122 (rd y125 t128))) := by rw [ha]; exact putSel_on (e := (23, 31, .int .i64 (rd y122 (rd y125 t128)))) 18 rfl rfl (hon 23 (by kernel_rfl)) rfl
                      replace ha := Aside0.mk ha
                      have HB := Aside0.mk Q_HB
                      have HO106 := Aside0.mk (Q_HO106 (hon 1 (by kernel_rfl)))
                      have HO112 := Aside0.mk (Q_HO112 (hon 5 (by kernel_rfl)))
                      have HA_HO112 := Aside0.mk (Q_HA_HO112 (hon 5 (by kernel_rfl)))
                      have HO115 := Aside0.mk (Q_HO115 (hon 6 (by kernel_rfl)))
                      have HA_HO115 := Aside0.mk (Q_HA_HO115 (hon 6 (by kernel_rfl)))
                      have HO124 := Aside0.mk (Q_HO124 (hon 16 (by kernel_rfl)))
                      have HA_HO124 := Aside0.mk (Q_HA_HO124 (hon 16 (by kernel_rfl)))
                      have HO127 := Aside0.mk (Q_HO127 (hon 17 (by kernel_rfl)))
                      have HA_HO127 := Aside0.mk (Q_HA_HO127 (hon 17 (by kernel_rfl)))
                      have HI103 := Aside0.mk (Q_HI103_e19 (hon 19 (by kernel_rfl)))
                      refine value_ (w1 := w') (v := .int .i64 (rd y122 (rd y125 t128))) (by rfl) rfl ?_ ?_
                      · go_simp
                        (try simp only [i64_w])
                        try rfl
                      refine hK.out _ _ ⟨v105, v111, adz_v111, v114, adz_v114, v123, adz_v123, v126, adz_v126, m9_, m11_, m20_, m22_, m24_, (by rw [ha.out]; exact putSel_upk 21 hb_ rfl rfl rfl), fun h0_ => absurd ((hon 1 (by kernel_rfl)).symm.trans h0_) (by decide), Q_HB, Q_HO106, fun _ h1_ => absurd ((hon 3 (by kernel_rfl)).symm.trans h1_) (by decide), fun _ h1_ => absurd ((hon 8 (by kernel_rfl)).symm.trans h1_) (by decide), Q_HO112, Q_HA_HO112, Q_HO115, Q_HA_HO115, fun _ h1_ => absurd ((hon 14 (by kernel_rfl)).symm.trans h1_) (by decide), fun _ h1_ => absurd ((hon 19 (by kernel_rfl)).symm.trans h1_) (by decide), Q_HO124, Q_HA_HO124, Q_HO127, Q_HA_HO127, Q_HI103_e19, Q_X9_, Q_X11_, Q_X20_, Q_X22_, Q_X24_⟩
                    exact steps_nil
                  rintro b a w35 hall ⟨v105, v111, adz_v111, v114, adz_v114, v123, adz_v123, v126, adz_v126, m9_, m11_, m20_, m22_, m24_, ha, Q_HI103, Q_HB, Q_HO106, Q_HI103_e1, Q_HI103_e3, Q_HO112, Q_HA_HO112, Q_HO115, Q_HA_HO115, Q_HI103_e8, Q_HI103_e14, Q_HO124, Q_HA_HO124, Q_HO127, Q_HA_HO127, Q_HI103_e19, Q_X9_, Q_X11_, Q_X20_, Q_X22_, Q_X24_⟩
                  clear HB HI103
                  have hb1_ := hall 1 (by kernel_rfl)
                  have hb3_ := hall 3 (by kernel_rfl)
                  have hb4_ := hall 4 (by kernel_rfl)
                  have hb5_ := hall 5 (by kernel_rfl)
                  have hb6_ := hall 6 (by kernel_rfl)
                  have hb8_ := hall 8 (by kernel_rfl)
                  have hb9_ := hall 9 (by kernel_rfl)
                  have hb10_ := hall 10 (by kernel_rfl)
                  have hb11_ := hall 11 (by kernel_rfl)
                  have hb12_ := hall 12 (by kernel_rfl)
                  have hb14_ := hall 14 (by kernel_rfl)
                  have hb15_ := hall 15 (by kernel_rfl)
                  have hb16_ := hall 16 (by kernel_rfl)
                  have hb17_ := hall 17 (by kernel_rfl)
                  have hb19_ := hall 19 (by kernel_rfl)
                  have hb20_ := hall 20 (by kernel_rfl)
                  have hb21_ := hall 21 (by kernel_rfl)
                  have hb22_ := hall 22 (by kernel_rfl)
                  have hb23_ := hall 23 (by kernel_rfl)
                  have hb24_ := hall 24 (by kernel_rfl)
                  have hb25_ := hall 25 (by kernel_rfl)
                  have hb26_ := hall 26 (by kernel_rfl)
                  subst ha
                  obtain rfl := Q_X9_ hb9_
                  obtain rfl := Q_X11_ hb11_
                  obtain rfl := Q_X20_ hb20_
                  obtain rfl := Q_X22_ hb22_
                  obtain rfl := Q_X24_ hb24_
                  simp only [putSel, hb1_, hb3_, hb4_, hb5_, hb6_, hb8_, hb9_, hb10_, hb11_, hb12_, hb14_, hb15_, hb16_, hb17_, hb19_, hb20_, hb21_, hb22_, hb23_, hb24_, hb25_, hb26_, if_true, Act.put, List.setIfInBounds_toArray, List.set_cons_zero, List.set_cons_succ]
                  clear Q_HI103
                  have HB := Aside0.mk Q_HB
                  clear Q_HB
                  have HO106 := Aside0.mk (Q_HO106 hb1_)
                  clear Q_HO106
                  clear Q_HI103_e1
                  clear Q_HI103_e3
                  have HO112 := Aside0.mk (Q_HO112 hb5_)
                  clear Q_HO112
                  have HA_HO112 := Aside0.mk (Q_HA_HO112 hb5_)
                  clear Q_HA_HO112
                  have HO115 := Aside0.mk (Q_HO115 hb6_)
                  clear Q_HO115
                  have HA_HO115 := Aside0.mk (Q_HA_HO115 hb6_)
                  clear Q_HA_HO115
                  clear Q_HI103_e8
                  clear Q_HI103_e14
                  have HO124 := Aside0.mk (Q_HO124 hb16_)
                  clear Q_HO124
                  have HA_HO124 := Aside0.mk (Q_HA_HO124 hb16_)
                  clear Q_HA_HO124
                  have HO127 := Aside0.mk (Q_HO127 hb17_)
                  clear Q_HO127
                  have HA_HO127 := Aside0.mk (Q_HA_HO127 hb17_)
                  clear Q_HA_HO127
                  have HI103 := Aside0.mk (Q_HI103_e19 hb19_)
                  clear Q_HI103_e19
                  clear hall hb1_ hb3_ hb4_ hb5_ hb6_ hb8_ hb9_ hb10_ hb11_ hb12_ hb14_ hb15_ hb16_ hb17_ hb19_ hb20_ hb21_ hb22_ hb23_ hb24_ hb25_ hb26_
                  obtain ⟨co36, eo36⟩ := HA_HO112.out
                  clear HA_HO112
                  subst eo36
                  obtain ⟨co37, eo37⟩ := HA_HO115.out
                  clear HA_HO115
                  subst eo37
                  obtain ⟨co38, eo38⟩ := HA_HO124.out
                  clear HA_HO124
                  subst eo38
                  obtain ⟨co39, eo39⟩ := HA_HO127.out
                  clear HA_HO127
                  subst eo39
                  try go_wp2
                  go_ret3
                  exact ⟨_, by first | rfl | (simp [errW_none, errW_some] <;> rfl) | (simp [*, errW_none, errW_some] <;> rfl), by (with_reducible repeat (first | apply Kd.R_alloc | apply Kd.R_drewN | apply Kd.R_drew)); exact HO106.out, by repeat (first | (with_reducible first | exact HB.out | apply below_alloc | apply pw_below_drewN | apply below_drew1 | refine below_set ?_ (IsS57.ge HI103.out)) | exact HB.out)⟩
                · rw [if_neg c15] at H
                  exact absurd H (by simp)
              · rw [if_neg c14] at H
                exact absurd H (by simp)
            · rw [if_neg c13] at H
              exact absurd H (by simp)
          · rw [if_neg c12] at H
            exact absurd H (by simp)
        · rw [if_neg c9] at H
          exact absurd H (by simp)
      · rw [if_neg c8] at H
        exact absurd H (by simp)
    · rw [if_neg c7] at H
      exact absurd H (by simp)
  · rw [if_neg c6] at H
    exact absurd H (by simp)

end Go.Proofs.Ytmjclbjafodakaa.Q
