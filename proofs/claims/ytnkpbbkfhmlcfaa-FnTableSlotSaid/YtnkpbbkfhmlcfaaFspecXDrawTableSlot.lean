-- written by mp.py, a program of this session's, out of the kit's print program and the translation
import Derived.Test.YtnkpbbkfhmlcfaaF0
import Derived.Test.YtnkpbbkfhmlcfaaFA
import Derived.Test.YtnkpbbkfhmlcfaaFspecXDrawTableValid
namespace Go.Proofs.Ytnkpbbkfhmlcfaa.Q
open Go.RowKit Go.Proofs.YtnkpbbkfhmlcfaaW.PrintWords Go.Proofs.YtnkpbbkfhmlcfaaW.PrintLast Go.Proofs.YtnkpbbkfhmlcfaaW.PrintMore
attribute [local go_sem] max2_int min2_int max_two min_two max_three min_three max_four min_four   -- for this text's walks alone
set_option linter.unusedVariables false
set_option linter.unusedSimpArgs false

/-! ### spec_DrawTableSlot: function 10 -/
def spec_DrawTableSlot.f (k : Nat) (l0 : List Int) : Option ((List (S42)) × List Int × Int) := (spec_DrawTableValid.f k l0).bind fun bt101 => ((spec_l20Open.f l0).bind fun bt107 => ((spec_l20Rd_pick.f k bt107.1 bt107.2 256).bind fun bt110 => ((some (([wrap64 (bt110.1 * 5), (-1), 9223372036854775807] : List Int) : List Int)).bind fun y112 => ((some (([0, 0, 0, 0, 1, 2] : List Int) : List Int)).bind fun y115 => ((spec_l20Rd_pick.f k bt107.1 bt110.2 6).bind fun bt118 => (if 0 ≤ bt118.1 then (if bt118.1 < (y115.length : Int) then (if 0 ≤ (rd y115 bt118.1) then (if (rd y115 bt118.1) < (y112.length : Int) then (some (bt101.1, bt101.2, rd y112 (rd y115 bt118.1))) else (none)) else (none)) else (none)) else (none)))))))
theorem spec_DrawTableSlot.mono : ∀ a0 k, LeO (spec_DrawTableSlot.f k a0) (spec_DrawTableSlot.f (k + 1) a0) := by
  intro a0 k
  unfold spec_DrawTableSlot.f
  repeat' first
      | (with_reducible exact spec_DrawTableValid.mono _ _)
      | (with_reducible exact spec_l20Rd_pick.mono _ _ _ _)
      | (with_reducible exact LeO.refl _)
      | (with_reducible exact LeO.none _)
      | (with_reducible refine LeO.ite ?_ ?_)
      | (with_reducible refine LeO.bind ?_ (fun _ => ?_))
      | exact spec_DrawTableValid.mono _ _
      | exact spec_l20Rd_pick.mono _ _ _ _
      | exact LeO.none _
      | refine LeO.ite ?_ ?_
      | refine LeO.bind ?_ (fun _ => ?_)
def spec_DrawTableSlot.T3 : Bool × List (List Nat × List Nat) := (true, [([], []), ([], []), ([], []), ([2], [2]), ([3], [3]), ([4], [4]), ([], []), ([], []), ([7, 3], [7]), ([6, 8], [6, 8]), ([9], [9]), ([5, 10], [5, 10]), ([11], [11]), ([0, 8, 0], [0]), ([1, 13, 0, 1, 13], [1]), ([12, 14, 0, 1, 2, 3, 4, 5, 6, 7, 8, 9, 10, 11, 12, 13, 14], [12])])
def spec_DrawTableSlot.B3 : List Nat := [0, 0, 0, 4, 12, 28, 0, 0, 140, 460, 972, 2044, 4092, 397, 8591, 32767]
theorem spec_DrawTableSlot.tab3 : rtab .any (opsOf Try.f10 3) = spec_DrawTableSlot.T3 := by kernel_rfl
theorem spec_DrawTableSlot.bits3 : waitsOk spec_DrawTableSlot.T3.2 spec_DrawTableSlot.B3 = true := by kernel_rfl
set_option maxHeartbeats 8000000 in
set_option maxRecDepth 100000 in
theorem spec_DrawTableSlot.calls (k : Nat) (A0 : Option Addr) (c0 : Nat) (l0 : List Int) (r1 : List (S42)) (r2 : List Int) (r3 : Int) (w : World) (hr0 : Kd.C (Kd.int .u8) w A0 l0.length l0) (hc0 : l0.length ≤ c0) (h : spec_DrawTableSlot.f k l0 = some (r1, r2, r3)) :
    Calls Try.prog 10 #[.slice A0 l0.length c0] w fun e w' => ∃ v0_ v1_ : Value, e = .returned (.tuple #[v0_, v1_, .int .i64 r3]) ∧ Kd.R k42 42 w' w.heap.size (fun _ => True) v0_ r1 ∧ Kd.R (Kd.int .i64) 3 w' w.heap.size (fun _ => True) v1_ r2 ∧ Below w.heap.size w w' := by
  have HR0 := Aside0.mk hr0
  have HC0 := Aside0.mk hc0
  clear hr0 hc0
  have HB := Aside0.mk (Below.refl w.heap.size w)
  have H : ((spec_DrawTableValid.f k l0).bind fun bt101 => ((spec_l20Open.f l0).bind fun bt107 => ((spec_l20Rd_pick.f k bt107.1 bt107.2 256).bind fun bt110 => ((some (([wrap64 (bt110.1 * 5), (-1), 9223372036854775807] : List Int) : List Int)).bind fun y112 => ((some (([0, 0, 0, 0, 1, 2] : List Int) : List Int)).bind fun y115 => ((spec_l20Rd_pick.f k bt107.1 bt110.2 6).bind fun bt118 => (if 0 ≤ bt118.1 then (if bt118.1 < (y115.length : Int) then (if 0 ≤ (rd y115 bt118.1) then (if (rd y115 bt118.1) < (y112.length : Int) then (some (bt101.1, bt101.2, rd y112 (rd y115 bt118.1))) else (none)) else (none)) else (none)) else (none)))))))) = some (r1, r2, r3) := h
  clear h
  replace H := Option.bind_eq_some_iff.mp H
  obtain ⟨⟨t101, t102⟩, A20, H⟩ := H
  replace H : ((spec_l20Open.f l0).bind fun bt107 => ((spec_l20Rd_pick.f k bt107.1 bt107.2 256).bind fun bt110 => ((some (([wrap64 (bt110.1 * 5), (-1), 9223372036854775807] : List Int) : List Int)).bind fun y112 => ((some (([0, 0, 0, 0, 1, 2] : List Int) : List Int)).bind fun y115 => ((spec_l20Rd_pick.f k bt107.1 bt110.2 6).bind fun bt118 => (if 0 ≤ bt118.1 then (if bt118.1 < (y115.length : Int) then (if 0 ≤ (rd y115 bt118.1) then (if (rd y115 bt118.1) < (y112.length : Int) then (some (t101, t102, rd y112 (rd y115 bt118.1))) else (none)) else (none)) else (none)) else (none))))))) = some (r1, r2, r3) := H
  have A2 := Aside0.mk A20
  clear A20
  replace H := Option.bind_eq_some_iff.mp H
  obtain ⟨⟨t107, t108⟩, A30, H⟩ := H
  replace H : ((spec_l20Rd_pick.f k t107 t108 256).bind fun bt110 => ((some (([wrap64 (bt110.1 * 5), (-1), 9223372036854775807] : List Int) : List Int)).bind fun y112 => ((some (([0, 0, 0, 0, 1, 2] : List Int) : List Int)).bind fun y115 => ((spec_l20Rd_pick.f k t107 bt110.2 6).bind fun bt118 => (if 0 ≤ bt118.1 then (if bt118.1 < (y115.length : Int) then (if 0 ≤ (rd y115 bt118.1) then (if (rd y115 bt118.1) < (y112.length : Int) then (some (t101, t102, rd y112 (rd y115 bt118.1))) else (none)) else (none)) else (none)) else (none)))))) = some (r1, r2, r3) := H
  have A3 := Aside0.mk A30
  clear A30
  replace H := Option.bind_eq_some_iff.mp H
  obtain ⟨⟨t110, t111⟩, A40, H⟩ := H
  replace H : ((some (([wrap64 (t110 * 5), (-1), 9223372036854775807] : List Int) : List Int)).bind fun y112 => ((some (([0, 0, 0, 0, 1, 2] : List Int) : List Int)).bind fun y115 => ((spec_l20Rd_pick.f k t107 t111 6).bind fun bt118 => (if 0 ≤ bt118.1 then (if bt118.1 < (y115.length : Int) then (if 0 ≤ (rd y115 bt118.1) then (if (rd y115 bt118.1) < (y112.length : Int) then (some (t101, t102, rd y112 (rd y115 bt118.1))) else (none)) else (none)) else (none)) else (none))))) = some (r1, r2, r3) := H
  have A4 := Aside0.mk A40
  clear A40
  obtain ⟨y112, hy112⟩ : ∃ y_ : List Int, y_ = (([wrap64 (t110 * 5), (-1), 9223372036854775807] : List Int)) := ⟨_, rfl⟩
  replace H : ((some (([0, 0, 0, 0, 1, 2] : List Int) : List Int)).bind fun y115 => ((spec_l20Rd_pick.f k t107 t111 6).bind fun bt118 => (if 0 ≤ bt118.1 then (if bt118.1 < (y115.length : Int) then (if 0 ≤ (rd y115 bt118.1) then (if (rd y115 bt118.1) < (y112.length : Int) then (some (t101, t102, rd y112 (rd y115 bt118.1))) else (none)) else (none)) else (none)) else (none)))) = some (r1, r2, r3) := by first | (rw [hy112]; with_reducible exact H) | (have H2_ := (Option.bind_some _ _).symm.trans H; rw [hy112]; with_reducible exact H2_) | (have H2_ := (Option.bind_some _ _).symm.trans H; with_reducible exact H2_) | with_reducible exact H | (rw [hy112]; exact H) | exact H
  have Ny112 := Aside0.mk hy112
  clear hy112
  obtain ⟨y115, hy115⟩ : ∃ y_ : List Int, y_ = (([0, 0, 0, 0, 1, 2] : List Int)) := ⟨_, rfl⟩
  replace H : ((spec_l20Rd_pick.f k t107 t111 6).bind fun bt118 => (if 0 ≤ bt118.1 then (if bt118.1 < (y115.length : Int) then (if 0 ≤ (rd y115 bt118.1) then (if (rd y115 bt118.1) < (y112.length : Int) then (some (t101, t102, rd y112 (rd y115 bt118.1))) else (none)) else (none)) else (none)) else (none))) = some (r1, r2, r3) := by first | (rw [hy115]; with_reducible exact H) | (have H2_ := (Option.bind_some _ _).symm.trans H; rw [hy115]; with_reducible exact H2_) | (have H2_ := (Option.bind_some _ _).symm.trans H; with_reducible exact H2_) | with_reducible exact H | (rw [hy115]; exact H) | exact H
  have Ny115 := Aside0.mk hy115
  clear hy115
  replace H := Option.bind_eq_some_iff.mp H
  obtain ⟨⟨t118, t119⟩, A50, H⟩ := H
  replace H : (if 0 ≤ t118 then (if t118 < (y115.length : Int) then (if 0 ≤ (rd y115 t118) then (if (rd y115 t118) < (y112.length : Int) then (some (t101, t102, rd y112 (rd y115 t118))) else (none)) else (none)) else (none)) else (none)) = some (r1, r2, r3) := H
  have A5 := Aside0.mk A50
  clear A50
  by_cases c6 : 0 ≤ t118
  · rw [if_pos c6] at H
    have c6b0 : decide (0 ≤ t118) = true := decide_eq_true c6
    clear c6
    by_cases c7 : t118 < (y115.length : Int)
    · rw [if_pos c7] at H
      have c7b0 : decide (t118 < (y115.length : Int)) = true := decide_eq_true c7
      clear c7
      by_cases c8 : 0 ≤ (rd y115 t118)
      · rw [if_pos c8] at H
        have c8b0 : decide (0 ≤ (rd y115 t118)) = true := decide_eq_true c8
        clear c8
        by_cases c9 : (rd y115 t118) < (y112.length : Int)
        · rw [if_pos c9] at H
          have c9b0 : decide ((rd y115 t118) < (y112.length : Int)) = true := decide_eq_true c9
          clear c9
          simp only [Option.some.injEq, Prod.mk.injEq] at H
          obtain ⟨rfl, rfl, rfl⟩ := H
          go_enter Try.func10, Try.ntmps10
          try go_wp2_with (first | ((with_reducible refine gate_callee (f := 15) rfl ?_); refine goesL_ (some 10) rfl rfl Try.func15 (by kernel_rfl) rfl #[.slice A0 l0.length c0] rfl (by (try simp only [List.map_toArray, List.map_cons, List.map_nil]); first | done | rfl | (simp only [List.length_drop, List.length_take]; rfl)) ?_; (with_reducible refine (spec_DrawTableValid.calls k _ _ l0 t101 t102 _ ?side1 ?side2 A2.out).mono ?_); (case side1 => repeat (first | exact HR0.out | (with_reducible refine Kd.C_alloc ?_ _) | (with_reducible refine Kd.C_drewN ?_ _) | (with_reducible refine Kd.C_drew ?_))); (case side2 => exact HC0.out); rintro e w10 ⟨v103, v105, rfl, ho0, ho1, hb⟩; refine ⟨_, rfl, ?_⟩; have n0_ := Aside0.mk (Kd.R_lower ho0 (below_size (by repeat (first | (with_reducible first | exact HB.out | apply below_alloc | apply pw_below_drewN | apply below_drew1) | exact HB.out)))); have n1_ := Aside0.mk (Kd.R_lower ho1 (below_size (by repeat (first | (with_reducible first | exact HB.out | apply below_alloc | apply pw_below_drewN | apply below_drew1) | exact HB.out)))); have n2_ := Aside0.mk (below_step (by repeat (first | (with_reducible first | exact HB.out | apply below_alloc | apply pw_below_drewN | apply below_drew1) | exact HB.out)) hb); clear HB; have HO104 := n0_; have HO106 := n1_; have HB := n2_; clear n0_ n1_ n2_; (try clear hb); (try clear hb2); (try clear hk); (try clear hi); (try clear ho0); (try clear ho1)) | ((with_reducible refine gate_callee (f := 34) rfl ?_); refine goesL_ (some 14) rfl rfl Try.func34 (by kernel_rfl) rfl #[.slice A0 l0.length c0] rfl (by (try simp only [List.map_toArray, List.map_cons, List.map_nil]); first | done | rfl | (simp only [List.length_drop, List.length_take]; rfl)) ?_; (with_reducible refine (spec_l20Open.calls _ _ l0 t107 t108 w _ ?side1 ?side2 ?side3 A3.out).mono ?_); (case side1 => repeat (first | (with_reducible first | exact HB.out | apply below_alloc | apply pw_below_drewN | apply below_drew1) | exact HB.out)); (case side2 => exact HR0.out); (case side3 => exact HC0.out); rintro e w11 ⟨g109, rfl, hi, hb, hb2⟩; refine ⟨_, rfl, ?_⟩; have n0_ := Aside0.mk (Kd.R_below (by (with_reducible repeat (first | apply Kd.R_alloc | apply Kd.R_drewN | apply Kd.R_drew)); exact HO104.out) hb2); have n1_ := Aside0.mk (Kd.R_below (by (with_reducible repeat (first | apply Kd.R_alloc | apply Kd.R_drewN | apply Kd.R_drew)); exact HO106.out) hb2); have n2_ := Aside0.mk (hb); have n3_ := Aside0.mk (hi); clear HO104; clear HO106; clear HB; have HO104 := n0_; have HO106 := n1_; have HB := n2_; have HI109 := n3_; clear n0_ n1_ n2_ n3_; (try clear hb); (try clear hb2); (try clear hk); (try clear hi)))
          have pi120 : (0 ≤ (t118 : Int)) = True := eq_true (of_decide_eq_true (by first | (with_reducible assumption) | assumption))
          have qi120 : (t118 < (y115.length : Int)) = True := eq_true (of_decide_eq_true (by first | (with_reducible assumption) | assumption))
          have pi121 : (0 ≤ ((rd y115 t118) : Int)) = True := eq_true (of_decide_eq_true (by first | (with_reducible assumption) | assumption))
          have qi121 : ((rd y115 t118) < (y112.length : Int)) = True := eq_true (of_decide_eq_true (by first | (with_reducible assumption) | assumption))
          have n0_ := Aside0.mk (Kd.R_drew HO104.out)
          have n1_ := Aside0.mk (Kd.R_drew HO106.out)
          have n2_ := Aside0.mk (IsS66.drew HI109.out)
          have n3_ := Aside0.mk (below_drew1 HB.out)
          clear HO104
          clear HO106
          clear HI109
          clear HB
          have HO104 := n0_
          have HO106 := n1_
          have HI109 := n2_
          have HB := n3_
          clear n0_ n1_ n2_ n3_
          refine start_ (n := 16) (S := fun w' => True) (ds := []) #[false, false, false, false, false, false, false, false, false, false, false, false, false, false, false, false] (by kernel_rfl) rfl rfl trivial (fun hHeld => ?_); refine with_tabW spec_DrawTableSlot.tab3 spec_DrawTableSlot.bits3 (fun HT_ HW_ => ?_)
          generalize w11.drew = w12 at HO104 HO106 HI109 HB hHeld ⊢
          refine pure_ (i := 0) (N := some 15) (v := ?_) (a' := ?_) #[true, false, false, false, false, false, false, false, false, false, false, false, false, false, false, false] rfl rfl (any_of HT_.out (by kernel_rfl)) (fun _ _ _ h => h) (Or.inl ⟨by rfl, ?_⟩) ?_ ?_
          rotate_left
          · intro w'
            go_simp
            with_reducible rfl
          rotate_left
          · simp only [Act.put, List.setIfInBounds_toArray, List.set_cons_zero, List.set_cons_succ, i64_w, i32_w]
            rfl
          refine pure_ (i := 1) (N := some 16) (v := ?_) (a' := ?_) #[true, true, false, false, false, false, false, false, false, false, false, false, false, false, false, false] rfl rfl (any_of HT_.out (by kernel_rfl)) (fun _ _ _ h => h) (Or.inl ⟨by rfl, ?_⟩) ?_ ?_
          rotate_left
          · intro w'
            go_simp
            with_reducible rfl
          rotate_left
          · simp only [Act.put, List.setIfInBounds_toArray, List.set_cons_zero, List.set_cons_succ, i64_w, i32_w]
            rfl
          refine pure_ (i := 2) (N := some 17) (v := ?_) (a' := ?_) #[true, true, true, false, false, false, false, false, false, false, false, false, false, false, false, false] rfl rfl (any_of HT_.out (by kernel_rfl)) (fun _ _ _ h => h) (Or.inl ⟨by rfl, ?_⟩) ?_ ?_
          rotate_left
          · intro w'
            go_simp
            with_reducible rfl
          rotate_left
          · simp only [Act.put, List.setIfInBounds_toArray, List.set_cons_zero, List.set_cons_succ, i64_w, i32_w]
            rfl
          refine pure_ (i := 7) (N := some 22) (v := ?_) (a' := ?_) #[true, true, true, false, false, false, false, true, false, false, false, false, false, false, false, false] rfl rfl (any_of HT_.out (by kernel_rfl)) (fun _ _ _ h => h) (Or.inl ⟨by rfl, ?_⟩) ?_ ?_
          rotate_left
          · intro w'
            go_simp
            with_reducible rfl
          rotate_left
          · simp only [Act.put, List.setIfInBounds_toArray, List.set_cons_zero, List.set_cons_succ, i64_w, i32_w]
            rfl
          refine inv_at [3, 4, 5, 6, 8, 9, 10, 11, 12, 13, 14, 15] (fun a0_ b a w' => ∃ (v113 : Value) (adz_v113 : Addr) (v116 : Value) (adz_v116 : Addr) (m9_ : Value) (m11_ : Value), a = putSel a0_ b [(3, 18, .int .i64 t110), (4, 19, .int .i64 (wrap64 (t110 * 5))), (5, 20, v113), (6, 21, v116), (8, 23, .int .i64 t118), (9, 24, m9_), (10, 25, .int .i64 (rd y115 t118)), (11, 26, m11_), (12, 27, .int .i64 (rd y112 (rd y115 t118))), (13, 2, v103), (14, 3, v105), (15, 4, .int .i64 (rd y112 (rd y115 t118)))] ∧ (Kd.R k42 42 w' w.heap.size (fun _ => True) v103 t101) ∧ (Kd.R (Kd.int .i64) 3 w' w.heap.size (fun _ => True) v105 t102) ∧ (b 3 = false → IsS66 w w' g109 t107 t108) ∧ (Below w.heap.size w w') ∧ (b 3 = true → b 8 = false → IsS66 w w' g109 t107 t111) ∧ (b 5 = true → Kd.R (Kd.int .i64) 3 w' w.heap.size (fun k_ => some k_ ≠ (v105 : Value).ownBlock) v113 y112) ∧ (b 5 = true → ∃ c_, (v113 : Value) = .slice (some adz_v113) y112.length c_) ∧ (b 6 = true → Kd.R (Kd.int .i64) 3 w' w.heap.size (fun k_ => some k_ ≠ (v105 : Value).ownBlock) v116 y115) ∧ (b 6 = true → ∃ c_, (v116 : Value) = .slice (some adz_v116) y115.length c_) ∧ (b 8 = true → IsS66 w w' g109 t107 t119) ∧ (b 9 = true → (m9_ : Value) = .pointer (some (adz_v116.add (t118).toNat))) ∧ (b 11 = true → (m11_ : Value) = .pointer (some (adz_v113.add ((rd y115 t118)).toNat)))) HT_.out HW_.out (by kernel_rfl) (by kernel_rfl) ?_ ?_ ?_
          · exact ⟨.bool false, ⟨0, 0, none⟩, .bool false, ⟨0, 0, none⟩, .bool false, .bool false, by simp only [putSel, Bool.false_eq_true, if_false], HO104.out, HO106.out, fun _ => HI109.out, HB.out, fun h_ => absurd h_ (by decide), fun h_ => absurd h_ (by decide), fun h_ => absurd h_ (by decide), fun h_ => absurd h_ (by decide), fun h_ => absurd h_ (by decide), fun h_ => absurd h_ (by decide), fun h_ => absurd h_ (by decide), fun h_ => absurd h_ (by decide)⟩
          · skip
            clear HB HI109 HO104 HO106
            refine steps_cons ?_ ?_
            · rintro b a w' ⟨v113, adz_v113, v116, adz_v116, m9_, m11_, ha, Q_HO104, Q_HO106, Q_HI109, Q_HB, Q_HI109_e3, Q_HO114, Q_HA_HO114, Q_HO117, Q_HA_HO117, Q_HI109_e8, Q_X9_, Q_X11_⟩ hb_ hon hoff
              refine ⟨_, rfl, fun K hK => ?_⟩
              have e17 : a.tmps[17]? = some (.pointer (some ⟨g109, 0, none⟩)) := by rw [ha]; exact (putSel_off rfl).trans rfl
              replace ha := Aside0.mk ha
              have HO104 := Aside0.mk Q_HO104
              have HO106 := Aside0.mk Q_HO106
              have HI109 := Aside0.mk (Q_HI109 hb_)
              have HB := Aside0.mk Q_HB
              refine goes_ Try.func35 (by kernel_rfl) rfl #[.pointer (some ⟨g109, 0, none⟩), .int .i64 256] (by rfl) rfl rfl (by first | (simp only [List.map_toArray, List.map_cons, List.map_nil, Act.eval, Array.getD_eq_getD_getElem?, Option.getD_some, e17]; done) | (simp only [List.map_toArray, List.map_cons, List.map_nil, Act.eval, Array.getD_eq_getD_getElem?, Option.getD_some, e17]; rfl)) ?_
              with_reducible refine (spec_l20Rd_pick.calls k g109 t107 t108 256 t110 t111 w _ ?side1 ?side2 A4.out).mono ?_
              (case side1 => repeat (first | (with_reducible first | exact HI109.out | apply IsS66.alloc | apply IsS66.drewN | apply IsS66.drew | apply IsS66.set_1) | exact HI109.out))
              (case side2 => repeat (first | (with_reducible first | exact HB.out | apply below_alloc | apply pw_below_drewN | apply below_drew1 | refine below_set ?_ (IsS66.ge HI109.out)) | exact HB.out))
              rintro e w13 ⟨rfl, hi, hb, hk⟩
              refine ⟨_, rfl, ?_⟩
              have n0_ := Aside0.mk (Kd.R_mono (Kd.R_keep (IsS66.apart (show IsS66 w _ g109 t107 t108 from by repeat (first | (with_reducible first | exact HI109.out | apply IsS66.alloc | apply IsS66.drewN | apply IsS66.drew | apply IsS66.set_1) | exact HI109.out)) (by (with_reducible repeat (first | apply Kd.R_alloc | apply Kd.R_drewN | apply Kd.R_drew)); exact HO104.out) (by decide)) hk (fun _ h => h.2)) (fun _ h => h.1))
              have n1_ := Aside0.mk (Kd.R_mono (Kd.R_keep (IsS66.apart (show IsS66 w _ g109 t107 t108 from by repeat (first | (with_reducible first | exact HI109.out | apply IsS66.alloc | apply IsS66.drewN | apply IsS66.drew | apply IsS66.set_1) | exact HI109.out)) (by (with_reducible repeat (first | apply Kd.R_alloc | apply Kd.R_drewN | apply Kd.R_drew)); exact HO106.out) (by decide)) hk (fun _ h => h.2)) (fun _ h => h.1))
              have n2_ := Aside0.mk (hb)
              have n3_ := Aside0.mk (hi)
              have z_HO117 := fun (h0_ : b 6 = true) => (show Kd.R (Kd.int .i64) 3 w13 w.heap.size (fun k_ => some k_ ≠ (v105 : Value).ownBlock) v116 y115 from by first | exact (Kd.R_mono (Kd.R_keep (IsS66.apart (show IsS66 w _ g109 t107 t108 from by repeat (first | (with_reducible first | exact HI109.out | apply IsS66.alloc | apply IsS66.drewN | apply IsS66.drew | apply IsS66.set_1) | exact HI109.out)) (by (with_reducible repeat (first | apply Kd.R_alloc | apply Kd.R_drewN | apply Kd.R_drew)); exact (Q_HO117 h0_)) (by decide)) hk (fun _ h => h.2)) (fun _ h => h.1)) | exact Kd.R_mono (Kd.R_mono (Kd.R_keep (IsS66.apart (show IsS66 w _ g109 t107 t108 from by repeat (first | (with_reducible first | exact HI109.out | apply IsS66.alloc | apply IsS66.drewN | apply IsS66.drew | apply IsS66.set_1) | exact HI109.out)) (by (with_reducible repeat (first | apply Kd.R_alloc | apply Kd.R_drewN | apply Kd.R_drew)); exact (Q_HO117 h0_)) (by decide)) hk (fun _ h => h.2)) (fun _ h => h.1)) (fun _ h_ => by first | trivial | exact h_ | exact h_.1))
              clear HO104
              clear HO106
              clear HB
              clear HI109
              have HO104 := n0_
              have HO106 := n1_
              have HB := n2_
              have HI109 := n3_
              clear n0_ n1_ n2_ n3_
              (try clear hb)
              (try clear hb2)
              (try clear hk)
              (try clear hi)
              refine hK.out _ _ ⟨v113, adz_v113, v116, adz_v116, m9_, m11_, (by rw [ha.out]; exact putSel_upk 0 hb_ rfl rfl rfl), (by (with_reducible repeat (first | apply Kd.R_alloc | apply Kd.R_drewN | apply Kd.R_drew)); exact HO104.out), (by (with_reducible repeat (first | apply Kd.R_alloc | apply Kd.R_drewN | apply Kd.R_drew)); exact HO106.out), fun h0_ => absurd ((up_self b 3).symm.trans h0_) (by decide), (by repeat (first | (with_reducible first | exact HB.out | apply below_alloc | apply pw_below_drewN | apply below_drew1 | refine below_set ?_ (IsS66.ge HI109.out)) | exact HB.out)), fun _ _ => (by repeat (first | (with_reducible first | exact HI109.out | apply IsS66.alloc | apply IsS66.drewN | apply IsS66.drew | apply IsS66.set_1) | exact HI109.out)), fun h0_ => absurd ((hoff 5 (by kernel_rfl)).symm.trans h0_) (by decide), fun h0_ => absurd ((hoff 5 (by kernel_rfl)).symm.trans h0_) (by decide), z_HO117, Q_HA_HO117, fun h0_ => absurd ((hoff 8 (by kernel_rfl)).symm.trans h0_) (by decide), fun h0_ => absurd ((hoff 9 (by kernel_rfl)).symm.trans h0_) (by decide), fun h0_ => absurd ((hoff 11 (by kernel_rfl)).symm.trans h0_) (by decide)⟩
            refine steps_cons ?_ ?_
            · rintro b a w' ⟨v113, adz_v113, v116, adz_v116, m9_, m11_, ha, Q_HO104, Q_HO106, Q_HI109, Q_HB, Q_HI109_e3, Q_HO114, Q_HA_HO114, Q_HO117, Q_HA_HO117, Q_HI109_e8, Q_X9_, Q_X11_⟩ hb_ hon hoff
              refine ⟨_, rfl, fun K hK => ?_⟩
              have e18 : a.tmps[18]? = some (.int .i64 t110) := by rw [ha]; exact putSel_on (e := (3, 18, .int .i64 t110)) 0 rfl rfl (hon 3 (by kernel_rfl)) rfl
              replace ha := Aside0.mk ha
              have HO104 := Aside0.mk Q_HO104
              have HO106 := Aside0.mk Q_HO106
              have HB := Aside0.mk Q_HB
              refine value_ (w1 := w') (v := .int .i64 (wrap64 (t110 * 5))) (by rfl) rfl ?_ ?_
              · go_simp
                (try simp only [i64_w])
                try rfl
              refine hK.out _ _ ⟨v113, adz_v113, v116, adz_v116, m9_, m11_, (by rw [ha.out]; exact putSel_upk 1 hb_ rfl rfl rfl), Q_HO104, Q_HO106, fun h0_ => absurd ((hon 3 (by kernel_rfl)).symm.trans h0_) (by decide), Q_HB, Q_HI109_e3, fun h0_ => absurd ((hoff 5 (by kernel_rfl)).symm.trans h0_) (by decide), fun h0_ => absurd ((hoff 5 (by kernel_rfl)).symm.trans h0_) (by decide), Q_HO117, Q_HA_HO117, Q_HI109_e8, Q_X9_, fun h0_ => absurd ((hoff 11 (by kernel_rfl)).symm.trans h0_) (by decide)⟩
            refine steps_cons ?_ ?_
            · rintro b a w' ⟨v113, adz_v113, v116, adz_v116, m9_, m11_, ha, Q_HO104, Q_HO106, Q_HI109, Q_HB, Q_HI109_e3, Q_HO114, Q_HA_HO114, Q_HO117, Q_HA_HO117, Q_HI109_e8, Q_X9_, Q_X11_⟩ hb_ hon hoff
              refine ⟨_, rfl, fun K hK => ?_⟩
              have e19 : a.tmps[19]? = some (.int .i64 (wrap64 (t110 * 5))) := by rw [ha]; exact putSel_on (e := (4, 19, .int .i64 (wrap64 (t110 * 5)))) 1 rfl rfl (hon 4 (by kernel_rfl)) rfl
              replace ha := Aside0.mk ha
              have HO104 := Aside0.mk Q_HO104
              have HO106 := Aside0.mk Q_HO106
              have HB := Aside0.mk Q_HB
              refine Kd.R_lit_step (Kd.int .i64) _ 3 ?hg (N := 20) ?hd (xs := ([wrap64 (t110 * 5), (-1), 9223372036854775807] : List Int)) (inner := [.int .i64 (wrap64 (t110 * 5)), .int .i64 (-1), .int .i64 9223372036854775807]) (ok := fun _ => True) (okp := fun _ => True) ?hr ?hp (fun _ hk => hk) trivial (Below.refl _ _) (Nat.le_refl _) (by simp) ?_; (case hd => rfl); (case hg => rfl); (case hr => first | (go_simp; done) | (go_simp; rfl)); (case hp => exact (Reps.one (show Kd.M (Kd.int .i64) _ _ _ (wrap64 (t110 * 5)) [.int .i64 (wrap64 (t110 * 5))] from rfl) (Reps.one (show Kd.M (Kd.int .i64) _ _ _ (-1) [.int .i64 (-1)] from rfl) (Reps.one (show Kd.M (Kd.int .i64) _ _ _ 9223372036854775807 [.int .i64 9223372036854775807] from rfl) (Reps.none _ _)))))
              intro v113 w15 ho16 hb hg_ hnew_
              clear hg_ hnew_
              (first | rw [← Ny112.out] at ho16 | (simp only [Int.reduceToNat] at ho16; rw [← Ny112.out] at ho16))
              have n0_ := Aside0.mk (Kd.R_below (by (with_reducible repeat (first | apply Kd.R_alloc | apply Kd.R_drewN | apply Kd.R_drew)); exact HO104.out) hb)
              have n1_ := Aside0.mk (Kd.R_elder' (by (with_reducible repeat (first | apply Kd.R_alloc | apply Kd.R_drewN | apply Kd.R_drew)); exact HO106.out) (Kd.R_base ho16) hb)
              have n2_ := Aside0.mk (Kd.R_lower (Kd.R_new' ho16 (Kd.R_lt (by (with_reducible repeat (first | apply Kd.R_alloc | apply Kd.R_drewN | apply Kd.R_drew)); exact HO106.out))) (below_size (by repeat (first | (with_reducible first | exact HB.out | apply below_alloc | apply pw_below_drewN | apply below_drew1) | exact HB.out))))
              have n4_ := Aside0.mk (below_step (by repeat (first | (with_reducible first | exact HB.out | apply below_alloc | apply pw_below_drewN | apply below_drew1) | exact HB.out)) hb)
              have z_HI109_e3 := fun (h0_ : b 3 = true) (h1_ : b 8 = false) => (show IsS66 w w15 g109 t107 t111 from by first | exact (IsS66.below (by repeat (first | (with_reducible first | exact (Q_HI109_e3 h0_ h1_) | apply IsS66.alloc | apply IsS66.drewN | apply IsS66.drew | apply IsS66.set_1) | exact (Q_HI109_e3 h0_ h1_))) hb))
              have z_HO117 := fun (h0_ : b 6 = true) => (show Kd.R (Kd.int .i64) 3 w15 w.heap.size (fun k_ => some k_ ≠ (v105 : Value).ownBlock) v116 y115 from by first | exact (Kd.R_elder' (by (with_reducible repeat (first | apply Kd.R_alloc | apply Kd.R_drewN | apply Kd.R_drew)); exact (Q_HO117 h0_)) (Kd.R_base ho16) hb) | exact Kd.R_mono (Kd.R_elder' (by (with_reducible repeat (first | apply Kd.R_alloc | apply Kd.R_drewN | apply Kd.R_drew)); exact (Q_HO117 h0_)) (Kd.R_base ho16) hb) (fun _ h_ => by first | trivial | exact h_ | exact h_.1))
              have z_HI109_e8 := fun (h0_ : b 8 = true) => (show IsS66 w w15 g109 t107 t119 from by first | exact (IsS66.below (by repeat (first | (with_reducible first | exact (Q_HI109_e8 h0_) | apply IsS66.alloc | apply IsS66.drewN | apply IsS66.drew | apply IsS66.set_1) | exact (Q_HI109_e8 h0_))) hb))
              clear HO104
              clear HO106
              clear HB
              have HO104 := n0_
              have HO106 := n1_
              have HO114 := n2_
              have HB := n4_
              clear n0_ n1_ n2_ n4_
              clear hb ho16
              obtain ⟨Ao17, co17, eo17⟩ := Kd.R_slice HO114.out
              subst eo17
              obtain ⟨ado17, fo17, _⟩ := Kd.at_int (Kd.R_reads' HO114.out).2.2 0 (by decide) (by rw [Ny112.out]; simp)
              cases fo17
              refine hK.out _ _ ⟨.slice (some ado17) y112.length co17, ado17, v116, adz_v116, m9_, m11_, (by rw [ha.out]; exact putSel_upk 2 hb_ rfl rfl rfl), (by (with_reducible repeat (first | apply Kd.R_alloc | apply Kd.R_drewN | apply Kd.R_drew)); exact HO104.out), (by (with_reducible repeat (first | apply Kd.R_alloc | apply Kd.R_drewN | apply Kd.R_drew)); exact Kd.R_mono HO106.out (fun _ hk => (by first | exact hk.2 | exact trivial))), fun h0_ => absurd ((hon 3 (by kernel_rfl)).symm.trans h0_) (by decide), (by repeat (first | (with_reducible first | exact HB.out | apply below_alloc | apply pw_below_drewN | apply below_drew1) | exact HB.out)), z_HI109_e3, fun _ => (by (with_reducible repeat (first | apply Kd.R_alloc | apply Kd.R_drewN | apply Kd.R_drew)); exact Kd.R_mono HO114.out (fun _ hk => (by first | exact hk.2 | exact trivial))), fun _ => ⟨_, rfl⟩, z_HO117, Q_HA_HO117, z_HI109_e8, Q_X9_, fun h0_ => absurd ((hoff 11 (by kernel_rfl)).symm.trans h0_) (by decide)⟩
            refine steps_cons ?_ ?_
            · rintro b a w' ⟨v113, adz_v113, v116, adz_v116, m9_, m11_, ha, Q_HO104, Q_HO106, Q_HI109, Q_HB, Q_HI109_e3, Q_HO114, Q_HA_HO114, Q_HO117, Q_HA_HO117, Q_HI109_e8, Q_X9_, Q_X11_⟩ hb_ hon hoff
              refine ⟨_, rfl, fun K hK => ?_⟩
              replace ha := Aside0.mk ha
              have HO104 := Aside0.mk Q_HO104
              have HO106 := Aside0.mk Q_HO106
              have HB := Aside0.mk Q_HB
              refine Kd.R_lit_step (Kd.int .i64) _ 3 ?hg (N := 21) ?hd (xs := ([0, 0, 0, 0, 1, 2] : List Int)) (inner := [.int .i64 0, .int .i64 0, .int .i64 0, .int .i64 0, .int .i64 1, .int .i64 2]) (ok := fun _ => True) (okp := fun _ => True) ?hr ?hp (fun _ hk => hk) trivial (Below.refl _ _) (Nat.le_refl _) (by simp) ?_; (case hd => rfl); (case hg => rfl); (case hr => first | (go_simp; done) | (go_simp; rfl)); (case hp => exact (Reps.one (show Kd.M (Kd.int .i64) _ _ _ 0 [.int .i64 0] from rfl) (Reps.one (show Kd.M (Kd.int .i64) _ _ _ 0 [.int .i64 0] from rfl) (Reps.one (show Kd.M (Kd.int .i64) _ _ _ 0 [.int .i64 0] from rfl) (Reps.one (show Kd.M (Kd.int .i64) _ _ _ 0 [.int .i64 0] from rfl) (Reps.one (show Kd.M (Kd.int .i64) _ _ _ 1 [.int .i64 1] from rfl) (Reps.one (show Kd.M (Kd.int .i64) _ _ _ 2 [.int .i64 2] from rfl) (Reps.none _ _))))))))
              intro v116 w13 ho14 hb hg_ hnew_
              clear hg_ hnew_
              (first | rw [← Ny115.out] at ho14 | (simp only [Int.reduceToNat] at ho14; rw [← Ny115.out] at ho14))
              have n0_ := Aside0.mk (Kd.R_below (by (with_reducible repeat (first | apply Kd.R_alloc | apply Kd.R_drewN | apply Kd.R_drew)); exact HO104.out) hb)
              have n1_ := Aside0.mk (Kd.R_elder' (by (with_reducible repeat (first | apply Kd.R_alloc | apply Kd.R_drewN | apply Kd.R_drew)); exact HO106.out) (Kd.R_base ho14) hb)
              have n2_ := Aside0.mk (Kd.R_lower (Kd.R_new' ho14 (Kd.R_lt (by (with_reducible repeat (first | apply Kd.R_alloc | apply Kd.R_drewN | apply Kd.R_drew)); exact HO106.out))) (below_size (by repeat (first | (with_reducible first | exact HB.out | apply below_alloc | apply pw_below_drewN | apply below_drew1) | exact HB.out))))
              have n4_ := Aside0.mk (below_step (by repeat (first | (with_reducible first | exact HB.out | apply below_alloc | apply pw_below_drewN | apply below_drew1) | exact HB.out)) hb)
              have z_HI109 := fun (h0_ : b 3 = false) => (show IsS66 w w13 g109 t107 t108 from by first | exact (IsS66.below (by repeat (first | (with_reducible first | exact (Q_HI109 h0_) | apply IsS66.alloc | apply IsS66.drewN | apply IsS66.drew | apply IsS66.set_1) | exact (Q_HI109 h0_))) hb))
              have z_HI109_e3 := fun (h0_ : b 3 = true) (h1_ : b 8 = false) => (show IsS66 w w13 g109 t107 t111 from by first | exact (IsS66.below (by repeat (first | (with_reducible first | exact (Q_HI109_e3 h0_ h1_) | apply IsS66.alloc | apply IsS66.drewN | apply IsS66.drew | apply IsS66.set_1) | exact (Q_HI109_e3 h0_ h1_))) hb))
              have z_HO114 := fun (h0_ : b 5 = true) => (show Kd.R (Kd.int .i64) 3 w13 w.heap.size (fun k_ => some k_ ≠ (v105 : Value).ownBlock) v113 y112 from by first | exact (Kd.R_elder' (by (with_reducible repeat (first | apply Kd.R_alloc | apply Kd.R_drewN | apply Kd.R_drew)); exact (Q_HO114 h0_)) (Kd.R_base ho14) hb) | exact Kd.R_mono (Kd.R_elder' (by (with_reducible repeat (first | apply Kd.R_alloc | apply Kd.R_drewN | apply Kd.R_drew)); exact (Q_HO114 h0_)) (Kd.R_base ho14) hb) (fun _ h_ => by first | trivial | exact h_ | exact h_.1))
              have z_HI109_e8 := fun (h0_ : b 8 = true) => (show IsS66 w w13 g109 t107 t119 from by first | exact (IsS66.below (by repeat (first | (with_reducible first | exact (Q_HI109_e8 h0_) | apply IsS66.alloc | apply IsS66.drewN | apply IsS66.drew | apply IsS66.set_1) | exact (Q_HI109_e8 h0_))) hb))
              clear HO104
              clear HO106
              clear HB
              have HO104 := n0_
              have HO106 := n1_
              have HO117 := n2_
              have HB := n4_
              clear n0_ n1_ n2_ n4_
              clear hb ho14
              obtain ⟨Ao15, co15, eo15⟩ := Kd.R_slice HO117.out
              subst eo15
              obtain ⟨ado15, fo15, _⟩ := Kd.at_int (Kd.R_reads' HO117.out).2.2 0 (by decide) (by rw [Ny115.out]; simp)
              cases fo15
              refine hK.out _ _ ⟨v113, adz_v113, .slice (some ado15) y115.length co15, ado15, m9_, m11_, (by rw [ha.out]; exact putSel_upk 3 hb_ rfl rfl rfl), (by (with_reducible repeat (first | apply Kd.R_alloc | apply Kd.R_drewN | apply Kd.R_drew)); exact HO104.out), (by (with_reducible repeat (first | apply Kd.R_alloc | apply Kd.R_drewN | apply Kd.R_drew)); exact Kd.R_mono HO106.out (fun _ hk => (by first | exact hk.2 | exact trivial))), z_HI109, (by repeat (first | (with_reducible first | exact HB.out | apply below_alloc | apply pw_below_drewN | apply below_drew1) | exact HB.out)), z_HI109_e3, z_HO114, Q_HA_HO114, fun _ => (by (with_reducible repeat (first | apply Kd.R_alloc | apply Kd.R_drewN | apply Kd.R_drew)); exact Kd.R_mono HO117.out (fun _ hk => (by first | exact hk.2 | exact trivial))), fun _ => ⟨_, rfl⟩, z_HI109_e8, fun h0_ => absurd ((hoff 9 (by kernel_rfl)).symm.trans h0_) (by decide), fun h0_ => absurd ((hoff 11 (by kernel_rfl)).symm.trans h0_) (by decide)⟩
            refine steps_cons ?_ ?_
            · rintro b a w' ⟨v113, adz_v113, v116, adz_v116, m9_, m11_, ha, Q_HO104, Q_HO106, Q_HI109, Q_HB, Q_HI109_e3, Q_HO114, Q_HA_HO114, Q_HO117, Q_HA_HO117, Q_HI109_e8, Q_X9_, Q_X11_⟩ hb_ hon hoff
              refine ⟨_, rfl, fun K hK => ?_⟩
              have e22 : a.tmps[22]? = some (.pointer (some ⟨g109, 0, none⟩)) := by rw [ha]; exact (putSel_off rfl).trans rfl
              replace ha := Aside0.mk ha
              have HO104 := Aside0.mk Q_HO104
              have HO106 := Aside0.mk Q_HO106
              have HB := Aside0.mk Q_HB
              have HI109 := Aside0.mk (Q_HI109_e3 (hon 3 (by kernel_rfl)) hb_)
              refine goes_ Try.func35 (by kernel_rfl) rfl #[.pointer (some ⟨g109, 0, none⟩), .int .i64 6] (by rfl) rfl rfl (by first | (simp only [List.map_toArray, List.map_cons, List.map_nil, Act.eval, Array.getD_eq_getD_getElem?, Option.getD_some, e22]; done) | (simp only [List.map_toArray, List.map_cons, List.map_nil, Act.eval, Array.getD_eq_getD_getElem?, Option.getD_some, e22]; rfl)) ?_
              with_reducible refine (spec_l20Rd_pick.calls k g109 t107 t111 6 t118 t119 w _ ?side1 ?side2 A5.out).mono ?_
              (case side1 => repeat (first | (with_reducible first | exact HI109.out | apply IsS66.alloc | apply IsS66.drewN | apply IsS66.drew | apply IsS66.set_1) | exact HI109.out))
              (case side2 => repeat (first | (with_reducible first | exact HB.out | apply below_alloc | apply pw_below_drewN | apply below_drew1 | refine below_set ?_ (IsS66.ge HI109.out)) | exact HB.out))
              rintro e w15 ⟨rfl, hi, hb, hk⟩
              refine ⟨_, rfl, ?_⟩
              have n0_ := Aside0.mk (Kd.R_mono (Kd.R_keep (IsS66.apart (show IsS66 w _ g109 t107 t111 from by repeat (first | (with_reducible first | exact HI109.out | apply IsS66.alloc | apply IsS66.drewN | apply IsS66.drew | apply IsS66.set_1) | exact HI109.out)) (by (with_reducible repeat (first | apply Kd.R_alloc | apply Kd.R_drewN | apply Kd.R_drew)); exact HO104.out) (by decide)) hk (fun _ h => h.2)) (fun _ h => h.1))
              have n1_ := Aside0.mk (Kd.R_mono (Kd.R_keep (IsS66.apart (show IsS66 w _ g109 t107 t111 from by repeat (first | (with_reducible first | exact HI109.out | apply IsS66.alloc | apply IsS66.drewN | apply IsS66.drew | apply IsS66.set_1) | exact HI109.out)) (by (with_reducible repeat (first | apply Kd.R_alloc | apply Kd.R_drewN | apply Kd.R_drew)); exact HO106.out) (by decide)) hk (fun _ h => h.2)) (fun _ h => h.1))
              have n2_ := Aside0.mk (hb)
              have n3_ := Aside0.mk (hi)
              have z_HO114 := fun (h0_ : b 5 = true) => (show Kd.R (Kd.int .i64) 3 w15 w.heap.size (fun k_ => some k_ ≠ (v105 : Value).ownBlock) v113 y112 from by first | exact (Kd.R_mono (Kd.R_keep (IsS66.apart (show IsS66 w _ g109 t107 t111 from by repeat (first | (with_reducible first | exact HI109.out | apply IsS66.alloc | apply IsS66.drewN | apply IsS66.drew | apply IsS66.set_1) | exact HI109.out)) (by (with_reducible repeat (first | apply Kd.R_alloc | apply Kd.R_drewN | apply Kd.R_drew)); exact (Q_HO114 h0_)) (by decide)) hk (fun _ h => h.2)) (fun _ h => h.1)) | exact Kd.R_mono (Kd.R_mono (Kd.R_keep (IsS66.apart (show IsS66 w _ g109 t107 t111 from by repeat (first | (with_reducible first | exact HI109.out | apply IsS66.alloc | apply IsS66.drewN | apply IsS66.drew | apply IsS66.set_1) | exact HI109.out)) (by (with_reducible repeat (first | apply Kd.R_alloc | apply Kd.R_drewN | apply Kd.R_drew)); exact (Q_HO114 h0_)) (by decide)) hk (fun _ h => h.2)) (fun _ h => h.1)) (fun _ h_ => by first | trivial | exact h_ | exact h_.1))
              have z_HO117 := fun (h0_ : b 6 = true) => (show Kd.R (Kd.int .i64) 3 w15 w.heap.size (fun k_ => some k_ ≠ (v105 : Value).ownBlock) v116 y115 from by first | exact (Kd.R_mono (Kd.R_keep (IsS66.apart (show IsS66 w _ g109 t107 t111 from by repeat (first | (with_reducible first | exact HI109.out | apply IsS66.alloc | apply IsS66.drewN | apply IsS66.drew | apply IsS66.set_1) | exact HI109.out)) (by (with_reducible repeat (first | apply Kd.R_alloc | apply Kd.R_drewN | apply Kd.R_drew)); exact (Q_HO117 h0_)) (by decide)) hk (fun _ h => h.2)) (fun _ h => h.1)) | exact Kd.R_mono (Kd.R_mono (Kd.R_keep (IsS66.apart (show IsS66 w _ g109 t107 t111 from by repeat (first | (with_reducible first | exact HI109.out | apply IsS66.alloc | apply IsS66.drewN | apply IsS66.drew | apply IsS66.set_1) | exact HI109.out)) (by (with_reducible repeat (first | apply Kd.R_alloc | apply Kd.R_drewN | apply Kd.R_drew)); exact (Q_HO117 h0_)) (by decide)) hk (fun _ h => h.2)) (fun _ h => h.1)) (fun _ h_ => by first | trivial | exact h_ | exact h_.1))
              clear HO104
              clear HO106
              clear HB
              clear HI109
              have HO104 := n0_
              have HO106 := n1_
              have HB := n2_
              have HI109 := n3_
              clear n0_ n1_ n2_ n3_
              (try clear hb)
              (try clear hb2)
              (try clear hk)
              (try clear hi)
              refine hK.out _ _ ⟨v113, adz_v113, v116, adz_v116, m9_, m11_, (by rw [ha.out]; exact putSel_upk 4 hb_ rfl rfl rfl), (by (with_reducible repeat (first | apply Kd.R_alloc | apply Kd.R_drewN | apply Kd.R_drew)); exact HO104.out), (by (with_reducible repeat (first | apply Kd.R_alloc | apply Kd.R_drewN | apply Kd.R_drew)); exact HO106.out), fun h0_ => absurd ((hon 3 (by kernel_rfl)).symm.trans h0_) (by decide), (by repeat (first | (with_reducible first | exact HB.out | apply below_alloc | apply pw_below_drewN | apply below_drew1 | refine below_set ?_ (IsS66.ge HI109.out)) | exact HB.out)), fun _ h1_ => absurd ((up_self b 8).symm.trans h1_) (by decide), z_HO114, Q_HA_HO114, z_HO117, Q_HA_HO117, fun _ => (by repeat (first | (with_reducible first | exact HI109.out | apply IsS66.alloc | apply IsS66.drewN | apply IsS66.drew | apply IsS66.set_1) | exact HI109.out)), fun h0_ => absurd ((hoff 9 (by kernel_rfl)).symm.trans h0_) (by decide), fun h0_ => absurd ((hoff 11 (by kernel_rfl)).symm.trans h0_) (by decide)⟩
            refine steps_cons ?_ ?_
            · rintro b a w' ⟨v113, adz_v113, v116, adz_v116, m9_, m11_, ha, Q_HO104, Q_HO106, Q_HI109, Q_HB, Q_HI109_e3, Q_HO114, Q_HA_HO114, Q_HO117, Q_HA_HO117, Q_HI109_e8, Q_X9_, Q_X11_⟩ hb_ hon hoff
              refine ⟨_, rfl, fun K hK => ?_⟩
              have e21 : a.tmps[21]? = some (v116) := by rw [ha]; exact putSel_on (e := (6, 21, v116)) 3 rfl rfl (hon 6 (by kernel_rfl)) rfl
              have e23 : a.tmps[23]? = some (.int .i64 t118) := by rw [ha]; exact putSel_on (e := (8, 23, .int .i64 t118)) 4 rfl rfl (hon 8 (by kernel_rfl)) rfl
              replace ha := Aside0.mk ha
              have HO104 := Aside0.mk Q_HO104
              have HO106 := Aside0.mk Q_HO106
              have HB := Aside0.mk Q_HB
              have HO117 := Aside0.mk (Q_HO117 (hon 6 (by kernel_rfl)))
              have HA_HO117 := Aside0.mk (Q_HA_HO117 (hon 6 (by kernel_rfl)))
              have HI109 := Aside0.mk (Q_HI109_e8 (hon 8 (by kernel_rfl)))
              obtain ⟨c_, hv_⟩ := HA_HO117.out
              rw [hv_] at e21
              refine value_ (w1 := w') (v := .pointer (some (adz_v116.add (t118).toNat))) (by rfl) rfl ?_ ?_
              · go_simp
                (try simp only [i64_w])
                try rfl
              refine hK.out _ _ ⟨v113, adz_v113, v116, adz_v116, (.pointer (some (adz_v116.add (t118).toNat))), m11_, (by rw [ha.out]; exact putSel_upk 5 hb_ rfl rfl rfl), Q_HO104, Q_HO106, fun h0_ => absurd ((hon 3 (by kernel_rfl)).symm.trans h0_) (by decide), Q_HB, fun _ h1_ => absurd ((hon 8 (by kernel_rfl)).symm.trans h1_) (by decide), Q_HO114, Q_HA_HO114, Q_HO117, Q_HA_HO117, Q_HI109_e8, fun _ => rfl, fun h0_ => absurd ((hoff 11 (by kernel_rfl)).symm.trans h0_) (by decide)⟩
            refine steps_cons ?_ ?_
            · rintro b a w' ⟨v113, adz_v113, v116, adz_v116, m9_, m11_, ha, Q_HO104, Q_HO106, Q_HI109, Q_HB, Q_HI109_e3, Q_HO114, Q_HA_HO114, Q_HO117, Q_HA_HO117, Q_HI109_e8, Q_X9_, Q_X11_⟩ hb_ hon hoff
              refine ⟨_, rfl, fun K hK => ?_⟩
              have e24 : a.tmps[24]? = some (m9_) := by rw [ha]; exact putSel_on (e := (9, 24, m9_)) 5 rfl rfl (hon 9 (by kernel_rfl)) rfl
              rw [Q_X9_ (hon 9 (by kernel_rfl))] at e24
              replace ha := Aside0.mk ha
              have HO104 := Aside0.mk Q_HO104
              have HO106 := Aside0.mk Q_HO106
              have HB := Aside0.mk Q_HB
              have HO117 := Aside0.mk (Q_HO117 (hon 6 (by kernel_rfl)))
              have HA_HO117 := Aside0.mk (Q_HA_HO117 (hon 6 (by kernel_rfl)))
              have HI109 := Aside0.mk (Q_HI109_e8 (hon 8 (by kernel_rfl)))
              obtain ⟨c_, hv_⟩ := HA_HO117.out
              have hF_ := HO117.out
              rw [hv_] at hF_
              obtain ⟨ad_, ea_, hx_⟩ := Kd.at_int (Kd.R_reads' hF_).2.2 t118 (of_eq_true pi120) (of_eq_true qi120)
              cases ea_
              refine value_ (w1 := w') (v := .int .i64 (rd y115 t118)) (by rfl) rfl ?_ ?_
              · go_simp
                (try simp only [i64_w])
                try rfl
              refine hK.out _ _ ⟨v113, adz_v113, v116, adz_v116, m9_, m11_, (by rw [ha.out]; exact putSel_upk 6 hb_ rfl rfl rfl), Q_HO104, Q_HO106, fun h0_ => absurd ((hon 3 (by kernel_rfl)).symm.trans h0_) (by decide), Q_HB, fun _ h1_ => absurd ((hon 8 (by kernel_rfl)).symm.trans h1_) (by decide), Q_HO114, Q_HA_HO114, Q_HO117, Q_HA_HO117, Q_HI109_e8, Q_X9_, fun h0_ => absurd ((hoff 11 (by kernel_rfl)).symm.trans h0_) (by decide)⟩
            refine steps_cons ?_ ?_
            · rintro b a w' ⟨v113, adz_v113, v116, adz_v116, m9_, m11_, ha, Q_HO104, Q_HO106, Q_HI109, Q_HB, Q_HI109_e3, Q_HO114, Q_HA_HO114, Q_HO117, Q_HA_HO117, Q_HI109_e8, Q_X9_, Q_X11_⟩ hb_ hon hoff
              refine ⟨_, rfl, fun K hK => ?_⟩
              have e20 : a.tmps[20]? = some (v113) := by rw [ha]; exact putSel_on (e := (5, 20, v113)) 2 rfl rfl (hon 5 (by kernel_rfl)) rfl
              have e25 : a.tmps[25]? = some (.int .i64 (rd y115 t118)) := by rw [ha]; exact putSel_on (e := (10, 25, .int .i64 (rd y115 t118))) 6 rfl rfl (hon 10 (by kernel_rfl)) rfl
              replace ha := Aside0.mk ha
              have HO104 := Aside0.mk Q_HO104
              have HO106 := Aside0.mk Q_HO106
              have HB := Aside0.mk Q_HB
              have HO114 := Aside0.mk (Q_HO114 (hon 5 (by kernel_rfl)))
              have HA_HO114 := Aside0.mk (Q_HA_HO114 (hon 5 (by kernel_rfl)))
              have HO117 := Aside0.mk (Q_HO117 (hon 6 (by kernel_rfl)))
              have HA_HO117 := Aside0.mk (Q_HA_HO117 (hon 6 (by kernel_rfl)))
              have HI109 := Aside0.mk (Q_HI109_e8 (hon 8 (by kernel_rfl)))
              obtain ⟨c_, hv_⟩ := HA_HO114.out
              rw [hv_] at e20
              refine value_ (w1 := w') (v := .pointer (some (adz_v113.add ((rd y115 t118)).toNat))) (by rfl) rfl ?_ ?_
              · go_simp
                (try simp only [i64_w])
                try rfl
              refine hK.out _ _ ⟨v113, adz_v113, v116, adz_v116, m9_, (.pointer (some (adz_v113.add ((rd y115 t118)).toNat))), (by rw [ha.out]; exact putSel_upk 7 hb_ rfl rfl rfl), Q_HO104, Q_HO106, fun h0_ => absurd ((hon 3 (by kernel_rfl)).symm.trans h0_) (by decide), Q_HB, fun _ h1_ => absurd ((hon 8 (by kernel_rfl)).symm.trans h1_) (by decide), Q_HO114, Q_HA_HO114, Q_HO117, Q_HA_HO117, Q_HI109_e8, Q_X9_, fun _ => rfl⟩
            refine steps_cons ?_ ?_
            · rintro b a w' ⟨v113, adz_v113, v116, adz_v116, m9_, m11_, ha, Q_HO104, Q_HO106, Q_HI109, Q_HB, Q_HI109_e3, Q_HO114, Q_HA_HO114, Q_HO117, Q_HA_HO117, Q_HI109_e8, Q_X9_, Q_X11_⟩ hb_ hon hoff
              refine ⟨_, rfl, fun K hK => ?_⟩
              have e26 : a.tmps[26]? = some (m11_) := by rw [ha]; exact putSel_on (e := (11, 26, m11_)) 7 rfl rfl (hon 11 (by kernel_rfl)) rfl
              rw [Q_X11_ (hon 11 (by kernel_rfl))] at e26
              replace ha := Aside0.mk ha
              have HO104 := Aside0.mk Q_HO104
              have HO106 := Aside0.mk Q_HO106
              have HB := Aside0.mk Q_HB
              have HO114 := Aside0.mk (Q_HO114 (hon 5 (by kernel_rfl)))
              have HA_HO114 := Aside0.mk (Q_HA_HO114 (hon 5 (by kernel_rfl)))
              have HO117 := Aside0.mk (Q_HO117 (hon 6 (by kernel_rfl)))
              have HA_HO117 := Aside0.mk (Q_HA_HO117 (hon 6 (by kernel_rfl)))
              have HI109 := Aside0.mk (Q_HI109_e8 (hon 8 (by kernel_rfl)))
              obtain ⟨c_, hv_⟩ := HA_HO114.out
              have hF_ := HO114.out
              rw [hv_] at hF_
              obtain ⟨ad_, ea_, hx_⟩ := Kd.at_int (Kd.R_reads' hF_).2.2 (rd y115 t118) (of_eq_true pi121) (of_eq_true qi121)
              cases ea_
              refine value_ (w1 := w') (v := .int .i64 (rd y112 (rd y115 t118))) (by rfl) rfl ?_ ?_
              · go_simp
                (try simp only [i64_w])
                try rfl
              refine hK.out _ _ ⟨v113, adz_v113, v116, adz_v116, m9_, m11_, (by rw [ha.out]; exact putSel_upk 8 hb_ rfl rfl rfl), Q_HO104, Q_HO106, fun h0_ => absurd ((hon 3 (by kernel_rfl)).symm.trans h0_) (by decide), Q_HB, fun _ h1_ => absurd ((hon 8 (by kernel_rfl)).symm.trans h1_) (by decide), Q_HO114, Q_HA_HO114, Q_HO117, Q_HA_HO117, Q_HI109_e8, Q_X9_, Q_X11_⟩
            refine steps_cons ?_ ?_
            · rintro b a w' ⟨v113, adz_v113, v116, adz_v116, m9_, m11_, ha, Q_HO104, Q_HO106, Q_HI109, Q_HB, Q_HI109_e3, Q_HO114, Q_HA_HO114, Q_HO117, Q_HA_HO117, Q_HI109_e8, Q_X9_, Q_X11_⟩ hb_ hon hoff
              refine ⟨_, rfl, fun K hK => ?_⟩
              have e15 : a.tmps[15]? = some (v103) := by rw [ha]; exact (putSel_off rfl).trans rfl
              replace ha := Aside0.mk ha
              have HO104 := Aside0.mk Q_HO104
              have HO106 := Aside0.mk Q_HO106
              have HB := Aside0.mk Q_HB
              have HI109 := Aside0.mk (Q_HI109_e8 (hon 8 (by kernel_rfl)))
              refine value_ (w1 := w') (v := v103) (by rfl) rfl ?_ ?_
              · go_simp
                (try simp only [i64_w])
                try rfl
              refine hK.out _ _ ⟨v113, adz_v113, v116, adz_v116, m9_, m11_, (by rw [ha.out]; exact putSel_upk 9 hb_ rfl rfl rfl), Q_HO104, Q_HO106, fun h0_ => absurd ((hon 3 (by kernel_rfl)).symm.trans h0_) (by decide), Q_HB, fun _ h1_ => absurd ((hon 8 (by kernel_rfl)).symm.trans h1_) (by decide), Q_HO114, Q_HA_HO114, Q_HO117, Q_HA_HO117, Q_HI109_e8, Q_X9_, Q_X11_⟩
            refine steps_cons ?_ ?_
            · rintro b a w' ⟨v113, adz_v113, v116, adz_v116, m9_, m11_, ha, Q_HO104, Q_HO106, Q_HI109, Q_HB, Q_HI109_e3, Q_HO114, Q_HA_HO114, Q_HO117, Q_HA_HO117, Q_HI109_e8, Q_X9_, Q_X11_⟩ hb_ hon hoff
              refine ⟨_, rfl, fun K hK => ?_⟩
              have e16 : a.tmps[16]? = some (v105) := by rw [ha]; exact (putSel_off rfl).trans rfl
              replace ha := Aside0.mk ha
              have HO104 := Aside0.mk Q_HO104
              have HO106 := Aside0.mk Q_HO106
              have HB := Aside0.mk Q_HB
              have HI109 := Aside0.mk (Q_HI109_e8 (hon 8 (by kernel_rfl)))
              refine value_ (w1 := w') (v := v105) (by rfl) rfl ?_ ?_
              · go_simp
                (try simp only [i64_w])
                try rfl
              refine hK.out _ _ ⟨v113, adz_v113, v116, adz_v116, m9_, m11_, (by rw [ha.out]; exact putSel_upk 10 hb_ rfl rfl rfl), Q_HO104, Q_HO106, fun h0_ => absurd ((hon 3 (by kernel_rfl)).symm.trans h0_) (by decide), Q_HB, fun _ h1_ => absurd ((hon 8 (by kernel_rfl)).symm.trans h1_) (by decide), Q_HO114, Q_HA_HO114, Q_HO117, Q_HA_HO117, Q_HI109_e8, Q_X9_, Q_X11_⟩
            refine steps_cons ?_ ?_
            · rintro b a w' ⟨v113, adz_v113, v116, adz_v116, m9_, m11_, ha, Q_HO104, Q_HO106, Q_HI109, Q_HB, Q_HI109_e3, Q_HO114, Q_HA_HO114, Q_HO117, Q_HA_HO117, Q_HI109_e8, Q_X9_, Q_X11_⟩ hb_ hon hoff
              refine ⟨_, rfl, fun K hK => ?_⟩
              have e27 : a.tmps[27]? = some (.int .i64 (rd y112 (rd y115 t118))) := by rw [ha]; exact putSel_on (e := (12, 27, .int .i64 (rd y112 (rd y115 t118)))) 8 rfl rfl (hon 12 (by kernel_rfl)) rfl
              replace ha := Aside0.mk ha
              have HO104 := Aside0.mk Q_HO104
              have HO106 := Aside0.mk Q_HO106
              have HB := Aside0.mk Q_HB
              have HO114 := Aside0.mk (Q_HO114 (hon 5 (by kernel_rfl)))
              have HA_HO114 := Aside0.mk (Q_HA_HO114 (hon 5 (by kernel_rfl)))
              have HO117 := Aside0.mk (Q_HO117 (hon 6 (by kernel_rfl)))
              have HA_HO117 := Aside0.mk (Q_HA_HO117 (hon 6 (by kernel_rfl)))
              have HI109 := Aside0.mk (Q_HI109_e8 (hon 8 (by kernel_rfl)))
              refine value_ (w1 := w') (v := .int .i64 (rd y112 (rd y115 t118))) (by rfl) rfl ?_ ?_
              · go_simp
                (try simp only [i64_w])
                try rfl
              refine hK.out _ _ ⟨v113, adz_v113, v116, adz_v116, m9_, m11_, (by rw [ha.out]; exact putSel_upk 11 hb_ rfl rfl rfl), Q_HO104, Q_HO106, fun h0_ => absurd ((hon 3 (by kernel_rfl)).symm.trans h0_) (by decide), Q_HB, fun _ h1_ => absurd ((hon 8 (by kernel_rfl)).symm.trans h1_) (by decide), Q_HO114, Q_HA_HO114, Q_HO117, Q_HA_HO117, Q_HI109_e8, Q_X9_, Q_X11_⟩
            exact steps_nil
          rintro b a w21 hall ⟨v113, adz_v113, v116, adz_v116, m9_, m11_, ha, Q_HO104, Q_HO106, Q_HI109, Q_HB, Q_HI109_e3, Q_HO114, Q_HA_HO114, Q_HO117, Q_HA_HO117, Q_HI109_e8, Q_X9_, Q_X11_⟩
          clear HB HI109 HO104 HO106
          have hb3_ := hall 3 (by kernel_rfl)
          have hb4_ := hall 4 (by kernel_rfl)
          have hb5_ := hall 5 (by kernel_rfl)
          have hb6_ := hall 6 (by kernel_rfl)
          have hb8_ := hall 8 (by kernel_rfl)
          have hb9_ := hall 9 (by kernel_rfl)
          have hb10_ := hall 10 (by kernel_rfl)
          have hb11_ := hall 11 (by kernel_rfl)
          have hb12_ := hall 12 (by kernel_rfl)
          have hb13_ := hall 13 (by kernel_rfl)
          have hb14_ := hall 14 (by kernel_rfl)
          have hb15_ := hall 15 (by kernel_rfl)
          subst ha
          obtain rfl := Q_X9_ hb9_
          obtain rfl := Q_X11_ hb11_
          simp only [putSel, hb3_, hb4_, hb5_, hb6_, hb8_, hb9_, hb10_, hb11_, hb12_, hb13_, hb14_, hb15_, if_true, Act.put, List.setIfInBounds_toArray, List.set_cons_zero, List.set_cons_succ]
          have HO104 := Aside0.mk Q_HO104
          clear Q_HO104
          have HO106 := Aside0.mk Q_HO106
          clear Q_HO106
          clear Q_HI109
          have HB := Aside0.mk Q_HB
          clear Q_HB
          clear Q_HI109_e3
          have HO114 := Aside0.mk (Q_HO114 hb5_)
          clear Q_HO114
          have HA_HO114 := Aside0.mk (Q_HA_HO114 hb5_)
          clear Q_HA_HO114
          have HO117 := Aside0.mk (Q_HO117 hb6_)
          clear Q_HO117
          have HA_HO117 := Aside0.mk (Q_HA_HO117 hb6_)
          clear Q_HA_HO117
          have HI109 := Aside0.mk (Q_HI109_e8 hb8_)
          clear Q_HI109_e8
          clear hall hb3_ hb4_ hb5_ hb6_ hb8_ hb9_ hb10_ hb11_ hb12_ hb13_ hb14_ hb15_
          obtain ⟨co22, eo22⟩ := HA_HO114.out
          clear HA_HO114
          subst eo22
          obtain ⟨co23, eo23⟩ := HA_HO117.out
          clear HA_HO117
          subst eo23
          try go_wp2
          go_ret3
          exact ⟨_, _, by first | rfl | (simp [errW_none, errW_some] <;> rfl) | (simp [*, errW_none, errW_some] <;> rfl), by (with_reducible repeat (first | apply Kd.R_alloc | apply Kd.R_drewN | apply Kd.R_drew)); exact HO104.out, by (with_reducible repeat (first | apply Kd.R_alloc | apply Kd.R_drewN | apply Kd.R_drew)); exact Kd.R_mono HO106.out (fun _ hk => trivial), by repeat (first | (with_reducible first | exact HB.out | apply below_alloc | apply pw_below_drewN | apply below_drew1 | refine below_set ?_ (IsS66.ge HI109.out)) | exact HB.out)⟩
        · rw [if_neg c9] at H
          exact absurd H (by simp)
      · rw [if_neg c8] at H
        exact absurd H (by simp)
    · rw [if_neg c7] at H
      exact absurd H (by simp)
  · rw [if_neg c6] at H
    exact absurd H (by simp)

end Go.Proofs.Ytnkpbbkfhmlcfaa.Q
