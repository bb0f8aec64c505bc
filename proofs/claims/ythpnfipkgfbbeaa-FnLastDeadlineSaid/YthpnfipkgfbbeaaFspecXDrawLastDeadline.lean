-- written by mp.py, a program of this session's, out of the kit's print program and the translation
import Derived.Test.YthpnfipkgfbbeaaF0
import Derived.Test.YthpnfipkgfbbeaaFA
import Derived.Test.YthpnfipkgfbbeaaFspecXl20Set
namespace Go.Proofs.Ythpnfipkgfbbeaa.Q
open Go.RowKit Go.Proofs.YthpnfipkgfbbeaaW.PrintWords Go.Proofs.YthpnfipkgfbbeaaW.PrintLast Go.Proofs.YthpnfipkgfbbeaaW.PrintMore
attribute [local go_sem] max2_int min2_int max_two min_two max_three min_three max_four min_four   -- for this text's walks alone
set_option linter.unusedVariables false
set_option linter.unusedSimpArgs false

/-! ### spec_DrawLastDeadline: function 17 -/
def spec_DrawLastDeadline.f (k : Nat) (l0 : List Int) : Option ((List (S29)) × Int) := (spec_l20Open.f l0).bind fun bt101 => ((spec_l20Set.f k bt101.1 bt101.2 12).bind fun bt104 => ((spec_l20Rd_pick.f k bt101.1 bt104.2 40).bind fun bt108 => ((spec_l20Rd_pick.f k bt101.1 bt108.2 256).bind fun bt110 => ((some (([bt108.1, (-1), wrap64 (bt110.1 * 9)] : List Int) : List Int)).bind fun y112 => ((some (([0, 0, 0, 0, 1, 2] : List Int) : List Int)).bind fun y115 => ((spec_l20Rd_pick.f k bt101.1 bt110.2 6).bind fun bt118 => (if 0 ≤ bt118.1 then (if bt118.1 < (y115.length : Int) then (if 0 ≤ (rd y115 bt118.1) then (if (rd y115 bt118.1) < (y112.length : Int) then (some (bt104.1, rd y112 (rd y115 bt118.1))) else (none)) else (none)) else (none)) else (none))))))))
theorem spec_DrawLastDeadline.mono : ∀ a0 k, LeO (spec_DrawLastDeadline.f k a0) (spec_DrawLastDeadline.f (k + 1) a0) := by
  intro a0 k
  unfold spec_DrawLastDeadline.f
  repeat' first
      | (with_reducible exact spec_l20Rd_pick.mono _ _ _ _)
      | (with_reducible exact spec_l20Set.mono _ _ _ _)
      | (with_reducible exact LeO.refl _)
      | (with_reducible exact LeO.none _)
      | (with_reducible refine LeO.ite ?_ ?_)
      | (with_reducible refine LeO.bind ?_ (fun _ => ?_))
      | exact spec_l20Rd_pick.mono _ _ _ _
      | exact spec_l20Set.mono _ _ _ _
      | exact LeO.none _
      | refine LeO.ite ?_ ?_
      | refine LeO.bind ?_ (fun _ => ?_)
def spec_DrawLastDeadline.T2 : Bool × List (List Nat × List Nat) := (true, [([], []), ([0], [0]), ([], []), ([2, 1], [2]), ([], []), ([4, 3], [4]), ([5], [5]), ([3, 6], [3, 6]), ([], []), ([], []), ([9, 5], [9]), ([8, 10], [8, 10]), ([11], [11]), ([7, 12], [7, 12]), ([13], [13]), ([1, 10, 0, 1], [1]), ([14, 15, 0, 1, 2, 3, 4, 5, 6, 7, 8, 9, 10, 11, 12, 13, 14, 15], [14])])
def spec_DrawLastDeadline.B2 : List Nat := [0, 1, 0, 7, 0, 31, 63, 127, 0, 0, 575, 1855, 3903, 8191, 16383, 1599, 65535]
theorem spec_DrawLastDeadline.tab2 : rtab .any (opsOf Try.f17 2) = spec_DrawLastDeadline.T2 := by kernel_rfl
theorem spec_DrawLastDeadline.bits2 : waitsOk spec_DrawLastDeadline.T2.2 spec_DrawLastDeadline.B2 = true := by kernel_rfl
set_option maxHeartbeats 8000000 in
set_option maxRecDepth 100000 in
theorem spec_DrawLastDeadline.calls (k : Nat) (A0 : Option Addr) (c0 : Nat) (l0 : List Int) (r1 : List (S29)) (r2 : Int) (w : World) (hr0 : Kd.C (Kd.int .u8) w A0 l0.length l0) (hc0 : l0.length ≤ c0) (h : spec_DrawLastDeadline.f k l0 = some (r1, r2)) :
    Calls Try.prog 17 #[.slice A0 l0.length c0] w fun e w' => ∃ v0_ : Value, e = .returned (.tuple #[v0_, .int .i64 r2]) ∧ Kd.R k29 29 w' w.heap.size (fun _ => True) v0_ r1 ∧ Below w.heap.size w w' := by
  have HR0 := Aside0.mk hr0
  have HC0 := Aside0.mk hc0
  clear hr0 hc0
  have HB := Aside0.mk (Below.refl w.heap.size w)
  have H : ((spec_l20Open.f l0).bind fun bt101 => ((spec_l20Set.f k bt101.1 bt101.2 12).bind fun bt104 => ((spec_l20Rd_pick.f k bt101.1 bt104.2 40).bind fun bt108 => ((spec_l20Rd_pick.f k bt101.1 bt108.2 256).bind fun bt110 => ((some (([bt108.1, (-1), wrap64 (bt110.1 * 9)] : List Int) : List Int)).bind fun y112 => ((some (([0, 0, 0, 0, 1, 2] : List Int) : List Int)).bind fun y115 => ((spec_l20Rd_pick.f k bt101.1 bt110.2 6).bind fun bt118 => (if 0 ≤ bt118.1 then (if bt118.1 < (y115.length : Int) then (if 0 ≤ (rd y115 bt118.1) then (if (rd y115 bt118.1) < (y112.length : Int) then (some (bt104.1, rd y112 (rd y115 bt118.1))) else (none)) else (none)) else (none)) else (none))))))))) = some (r1, r2) := h
  clear h
  replace H := Option.bind_eq_some_iff.mp H
  obtain ⟨⟨t101, t102⟩, A20, H⟩ := H
  replace H : ((spec_l20Set.f k t101 t102 12).bind fun bt104 => ((spec_l20Rd_pick.f k t101 bt104.2 40).bind fun bt108 => ((spec_l20Rd_pick.f k t101 bt108.2 256).bind fun bt110 => ((some (([bt108.1, (-1), wrap64 (bt110.1 * 9)] : List Int) : List Int)).bind fun y112 => ((some (([0, 0, 0, 0, 1, 2] : List Int) : List Int)).bind fun y115 => ((spec_l20Rd_pick.f k t101 bt110.2 6).bind fun bt118 => (if 0 ≤ bt118.1 then (if bt118.1 < (y115.length : Int) then (if 0 ≤ (rd y115 bt118.1) then (if (rd y115 bt118.1) < (y112.length : Int) then (some (bt104.1, rd y112 (rd y115 bt118.1))) else (none)) else (none)) else (none)) else (none)))))))) = some (r1, r2) := H
  have A2 := Aside0.mk A20
  clear A20
  replace H := Option.bind_eq_some_iff.mp H
  obtain ⟨⟨t104, t107⟩, A30, H⟩ := H
  replace H : ((spec_l20Rd_pick.f k t101 t107 40).bind fun bt108 => ((spec_l20Rd_pick.f k t101 bt108.2 256).bind fun bt110 => ((some (([bt108.1, (-1), wrap64 (bt110.1 * 9)] : List Int) : List Int)).bind fun y112 => ((some (([0, 0, 0, 0, 1, 2] : List Int) : List Int)).bind fun y115 => ((spec_l20Rd_pick.f k t101 bt110.2 6).bind fun bt118 => (if 0 ≤ bt118.1 then (if bt118.1 < (y115.length : Int) then (if 0 ≤ (rd y115 bt118.1) then (if (rd y115 bt118.1) < (y112.length : Int) then (some (t104, rd y112 (rd y115 bt118.1))) else (none)) else (none)) else (none)) else (none))))))) = some (r1, r2) := H
  have A3 := Aside0.mk A30
  clear A30
  replace H := Option.bind_eq_some_iff.mp H
  obtain ⟨⟨t108, t109⟩, A40, H⟩ := H
  replace H : ((spec_l20Rd_pick.f k t101 t109 256).bind fun bt110 => ((some (([t108, (-1), wrap64 (bt110.1 * 9)] : List Int) : List Int)).bind fun y112 => ((some (([0, 0, 0, 0, 1, 2] : List Int) : List Int)).bind fun y115 => ((spec_l20Rd_pick.f k t101 bt110.2 6).bind fun bt118 => (if 0 ≤ bt118.1 then (if bt118.1 < (y115.length : Int) then (if 0 ≤ (rd y115 bt118.1) then (if (rd y115 bt118.1) < (y112.length : Int) then (some (t104, rd y112 (rd y115 bt118.1))) else (none)) else (none)) else (none)) else (none)))))) = some (r1, r2) := H
  have A4 := Aside0.mk A40
  clear A40
  replace H := Option.bind_eq_some_iff.mp H
  obtain ⟨⟨t110, t111⟩, A50, H⟩ := H
  replace H : ((some (([t108, (-1), wrap64 (t110 * 9)] : List Int) : List Int)).bind fun y112 => ((some (([0, 0, 0, 0, 1, 2] : List Int) : List Int)).bind fun y115 => ((spec_l20Rd_pick.f k t101 t111 6).bind fun bt118 => (if 0 ≤ bt118.1 then (if bt118.1 < (y115.length : Int) then (if 0 ≤ (rd y115 bt118.1) then (if (rd y115 bt118.1) < (y112.length : Int) then (some (t104, rd y112 (rd y115 bt118.1))) else (none)) else (none)) else (none)) else (none))))) = some (r1, r2) := H
  have A5 := Aside0.mk A50
  clear A50
  obtain ⟨y112, hy112⟩ : ∃ y_ : List Int, y_ = (([t108, (-1), wrap64 (t110 * 9)] : List Int)) := ⟨_, rfl⟩
  replace H : ((some (([0, 0, 0, 0, 1, 2] : List Int) : List Int)).bind fun y115 => ((spec_l20Rd_pick.f k t101 t111 6).bind fun bt118 => (if 0 ≤ bt118.1 then (if bt118.1 < (y115.length : Int) then (if 0 ≤ (rd y115 bt118.1) then (if (rd y115 bt118.1) < (y112.length : Int) then (some (t104, rd y112 (rd y115 bt118.1))) else (none)) else (none)) else (none)) else (none)))) = some (r1, r2) := by first | (rw [hy112]; with_reducible exact H) | (have H2_ := (Option.bind_some _ _).symm.trans H; rw [hy112]; with_reducible exact H2_) | (have H2_ := (Option.bind_some _ _).symm.trans H; with_reducible exact H2_) | with_reducible exact H | (rw [hy112]; exact H) | exact H
  have Ny112 := Aside0.mk hy112
  clear hy112
  obtain ⟨y115, hy115⟩ : ∃ y_ : List Int, y_ = (([0, 0, 0, 0, 1, 2] : List Int)) := ⟨_, rfl⟩
  replace H : ((spec_l20Rd_pick.f k t101 t111 6).bind fun bt118 => (if 0 ≤ bt118.1 then (if bt118.1 < (y115.length : Int) then (if 0 ≤ (rd y115 bt118.1) then (if (rd y115 bt118.1) < (y112.length : Int) then (some (t104, rd y112 (rd y115 bt118.1))) else (none)) else (none)) else (none)) else (none))) = some (r1, r2) := by first | (rw [hy115]; with_reducible exact H) | (have H2_ := (Option.bind_some _ _).symm.trans H; rw [hy115]; with_reducible exact H2_) | (have H2_ := (Option.bind_some _ _).symm.trans H; with_reducible exact H2_) | with_reducible exact H | (rw [hy115]; exact H) | exact H
  have Ny115 := Aside0.mk hy115
  clear hy115
  replace H := Option.bind_eq_some_iff.mp H
  obtain ⟨⟨t118, t119⟩, A60, H⟩ := H
  replace H : (if 0 ≤ t118 then (if t118 < (y115.length : Int) then (if 0 ≤ (rd y115 t118) then (if (rd y115 t118) < (y112.length : Int) then (some (t104, rd y112 (rd y115 t118))) else (none)) else (none)) else (none)) else (none)) = some (r1, r2) := H
  have A6 := Aside0.mk A60
  clear A60
  by_cases c7 : 0 ≤ t118
  · rw [if_pos c7] at H
    have c7b0 : decide (0 ≤ t118) = true := decide_eq_true c7
    clear c7
    by_cases c8 : t118 < (y115.length : Int)
    · rw [if_pos c8] at H
      have c8b0 : decide (t118 < (y115.length : Int)) = true := decide_eq_true c8
      clear c8
      by_cases c9 : 0 ≤ (rd y115 t118)
      · rw [if_pos c9] at H
        have c9b0 : decide (0 ≤ (rd y115 t118)) = true := decide_eq_true c9
        clear c9
        by_cases c10 : (rd y115 t118) < (y112.length : Int)
        · rw [if_pos c10] at H
          have c10b0 : decide ((rd y115 t118) < (y112.length : Int)) = true := decide_eq_true c10
          clear c10
          simp only [Option.some.injEq, Prod.mk.injEq] at H
          obtain ⟨rfl, rfl⟩ := H
          go_enter Try.func17, Try.ntmps17
          try go_wp2_with (first | ((with_reducible refine gate_callee (f := 31) rfl ?_); refine goesL_ (some 6) rfl rfl Try.func31 (by kernel_rfl) rfl #[.slice A0 l0.length c0] rfl (by (try simp only [List.map_toArray, List.map_cons, List.map_nil]); first | done | rfl | (simp only [List.length_drop, List.length_take]; rfl)) ?_; (with_reducible refine (spec_l20Open.calls _ _ l0 t101 t102 w _ ?side1 ?side2 ?side3 A2.out).mono ?_); (case side1 => repeat (first | (with_reducible first | exact HB.out | apply below_alloc | apply pw_below_drewN | apply below_drew1) | exact HB.out)); (case side2 => exact HR0.out); (case side3 => exact HC0.out); rintro e w11 ⟨g103, rfl, hi, hb, hb2⟩; refine ⟨_, rfl, ?_⟩; have n0_ := Aside0.mk (hb); have n1_ := Aside0.mk (hi); clear HB; have HB := n0_; have HI103 := n1_; clear n0_ n1_; (try clear hb); (try clear hb2); (try clear hk); (try clear hi)))
          have pi120 : (0 ≤ (t118 : Int)) = True := eq_true (of_decide_eq_true (by first | (with_reducible assumption) | assumption))
          have qi120 : (t118 < (y115.length : Int)) = True := eq_true (of_decide_eq_true (by first | (with_reducible assumption) | assumption))
          have pi121 : (0 ≤ ((rd y115 t118) : Int)) = True := eq_true (of_decide_eq_true (by first | (with_reducible assumption) | assumption))
          have qi121 : ((rd y115 t118) < (y112.length : Int)) = True := eq_true (of_decide_eq_true (by first | (with_reducible assumption) | assumption))
          have n0_ := Aside0.mk (IsS51.drew HI103.out)
          have n1_ := Aside0.mk (below_drew1 HB.out)
          clear HI103
          clear HB
          have HI103 := n0_
          have HB := n1_
          clear n0_ n1_
          refine start_ (n := 17) (S := fun w' => True) (ds := []) #[false, false, false, false, false, false, false, false, false, false, false, false, false, false, false, false, false] (by kernel_rfl) rfl rfl trivial (fun hHeld => ?_); refine with_tabW spec_DrawLastDeadline.tab2 spec_DrawLastDeadline.bits2 (fun HT_ HW_ => ?_)
          generalize w11.drew = w12 at HI103 HB hHeld ⊢
          refine pure_ (i := 0) (N := some 7) (v := ?_) (a' := ?_) #[true, false, false, false, false, false, false, false, false, false, false, false, false, false, false, false, false] rfl rfl (any_of HT_.out (by kernel_rfl)) (fun _ _ _ h => h) (Or.inl ⟨by rfl, ?_⟩) ?_ ?_
          rotate_left
          · intro w'
            go_simp
            with_reducible rfl
          rotate_left
          · simp only [Act.put, List.setIfInBounds_toArray, List.set_cons_zero, List.set_cons_succ, i64_w, i32_w]
            rfl
          refine pure_ (i := 2) (N := some 9) (v := ?_) (a' := ?_) #[true, false, true, false, false, false, false, false, false, false, false, false, false, false, false, false, false] rfl rfl (any_of HT_.out (by kernel_rfl)) (fun _ _ _ h => h) (Or.inl ⟨by rfl, ?_⟩) ?_ ?_
          rotate_left
          · intro w'
            go_simp
            with_reducible rfl
          rotate_left
          · simp only [Act.put, List.setIfInBounds_toArray, List.set_cons_zero, List.set_cons_succ, i64_w, i32_w]
            rfl
          refine pure_ (i := 4) (N := some 11) (v := ?_) (a' := ?_) #[true, false, true, false, true, false, false, false, false, false, false, false, false, false, false, false, false] rfl rfl (any_of HT_.out (by kernel_rfl)) (fun _ _ _ h => h) (Or.inl ⟨by rfl, ?_⟩) ?_ ?_
          rotate_left
          · intro w'
            go_simp
            with_reducible rfl
          rotate_left
          · simp only [Act.put, List.setIfInBounds_toArray, List.set_cons_zero, List.set_cons_succ, i64_w, i32_w]
            rfl
          refine pure_ (i := 9) (N := some 16) (v := ?_) (a' := ?_) #[true, false, true, false, true, false, false, false, false, true, false, false, false, false, false, false, false] rfl rfl (any_of HT_.out (by kernel_rfl)) (fun _ _ _ h => h) (Or.inl ⟨by rfl, ?_⟩) ?_ ?_
          rotate_left
          · intro w'
            go_simp
            with_reducible rfl
          rotate_left
          · simp only [Act.put, List.setIfInBounds_toArray, List.set_cons_zero, List.set_cons_succ, i64_w, i32_w]
            rfl
          refine inv_at [1, 3, 5, 6, 7, 8, 10, 11, 12, 13, 14, 15, 16] (fun a0_ b a w' => ∃ (v105 : Value) (v113 : Value) (adz_v113 : Addr) (v116 : Value) (adz_v116 : Addr) (m11_ : Value) (m13_ : Value) (m15_ : Value), a = putSel a0_ b [(1, 8, v105), (3, 10, .int .i64 t108), (5, 12, .int .i64 t110), (6, 13, .int .i64 (wrap64 (t110 * 9))), (7, 14, v113), (8, 15, v116), (10, 17, .int .i64 t118), (11, 18, m11_), (12, 19, .int .i64 (rd y115 t118)), (13, 20, m13_), (14, 21, .int .i64 (rd y112 (rd y115 t118))), (15, 2, m15_), (16, 3, .int .i64 (rd y112 (rd y115 t118)))] ∧ (b 1 = false → IsS51 w w' g103 t101 t102) ∧ (Below w.heap.size w w') ∧ (b 1 = true → Kd.R k29 29 w' w.heap.size (fun _ => True) v105 t104) ∧ (b 1 = true → b 3 = false → IsS51 w w' g103 t101 t107) ∧ (b 3 = true → b 5 = false → IsS51 w w' g103 t101 t109) ∧ (b 5 = true → b 10 = false → IsS51 w w' g103 t101 t111) ∧ (b 7 = true → Kd.R (Kd.int .i64) 3 w' w.heap.size (fun _ => True) v113 y112) ∧ (b 7 = true → ∃ c_, (v113 : Value) = .slice (some adz_v113) y112.length c_) ∧ (b 8 = true → Kd.R (Kd.int .i64) 3 w' w.heap.size (fun _ => True) v116 y115) ∧ (b 8 = true → ∃ c_, (v116 : Value) = .slice (some adz_v116) y115.length c_) ∧ (b 10 = true → IsS51 w w' g103 t101 t119) ∧ (b 11 = true → (m11_ : Value) = .pointer (some (adz_v116.add (t118).toNat))) ∧ (b 13 = true → (m13_ : Value) = .pointer (some (adz_v113.add ((rd y115 t118)).toNat))) ∧ (b 15 = true → (m15_ : Value) = v105)) HT_.out HW_.out (by kernel_rfl) (by kernel_rfl) ?_ ?_ ?_
          · exact ⟨.bool false, .bool false, ⟨0, 0, none⟩, .bool false, ⟨0, 0, none⟩, .bool false, .bool false, .bool false, by simp only [putSel, Bool.false_eq_true, if_false], fun _ => HI103.out, HB.out, fun h_ => absurd h_ (by decide), fun h_ => absurd h_ (by decide), fun h_ => absurd h_ (by decide), fun h_ => absurd h_ (by decide), fun h_ => absurd h_ (by decide), fun h_ => absurd h_ (by decide), fun h_ => absurd h_ (by decide), fun h_ => absurd h_ (by decide), fun h_ => absurd h_ (by decide), fun h_ => absurd h_ (by decide), fun h_ => absurd h_ (by decide), fun h_ => absurd h_ (by decide)⟩
          · skip
            clear HB HI103
            refine steps_cons ?_ ?_
            · rintro b a w' ⟨v105, v113, adz_v113, v116, adz_v116, m11_, m13_, m15_, ha, Q_HI103, Q_HB, Q_HO106, Q_HI103_e1, Q_HI103_e3, Q_HI103_e5, Q_HO114, Q_HA_HO114, Q_HO117, Q_HA_HO117, Q_HI103_e10, Q_X11_, Q_X13_, Q_X15_⟩ hb_ hon hoff
              refine ⟨_, rfl, fun K hK => ?_⟩
              have e7 : a.tmps[7]? = some (.pointer (some ⟨g103, 0, none⟩)) := by rw [ha]; exact (putSel_off rfl).trans rfl
              replace ha := Aside0.mk ha
              have HI103 := Aside0.mk (Q_HI103 hb_)
              have HB := Aside0.mk Q_HB
              refine goes_ Try.func30 (by kernel_rfl) rfl #[.pointer (some ⟨g103, 0, none⟩), .int .i64 12] (by rfl) rfl rfl (by first | (simp only [List.map_toArray, List.map_cons, List.map_nil, Act.eval, Array.getD_eq_getD_getElem?, Option.getD_some, e7]; done) | (simp only [List.map_toArray, List.map_cons, List.map_nil, Act.eval, Array.getD_eq_getD_getElem?, Option.getD_some, e7]; rfl)) ?_
              with_reducible refine (spec_l20Set.calls k g103 t101 t102 12 t104 t107 w _ ?side1 ?side2 A3.out).mono ?_
              (case side1 => repeat (first | (with_reducible first | exact HI103.out | apply IsS51.alloc | apply IsS51.drewN | apply IsS51.drew | apply IsS51.set_1) | exact HI103.out))
              (case side2 => repeat (first | (with_reducible first | exact HB.out | apply below_alloc | apply pw_below_drewN | apply below_drew1 | refine below_set ?_ (IsS51.ge HI103.out)) | exact HB.out))
              rintro e w13 ⟨v105, rfl, ho0, hi, hb, hk⟩
              refine ⟨_, rfl, ?_⟩
              have n0_ := Aside0.mk (Kd.R_lower ho0 (below_size (by repeat (first | (with_reducible first | exact HB.out | apply below_alloc | apply pw_below_drewN | apply below_drew1 | refine below_set ?_ (IsS51.ge HI103.out)) | exact HB.out))))
              have n1_ := Aside0.mk (hb)
              have n2_ := Aside0.mk (hi)
              have z_HO117 := fun (h0_ : b 8 = true) => (show Kd.R (Kd.int .i64) 3 w13 w.heap.size (fun _ => True) v116 y115 from by first | exact (Kd.R_mono (Kd.R_keep (IsS51.apart (show IsS51 w _ g103 t101 t102 from by repeat (first | (with_reducible first | exact HI103.out | apply IsS51.alloc | apply IsS51.drewN | apply IsS51.drew | apply IsS51.set_1) | exact HI103.out)) (by (with_reducible repeat (first | apply Kd.R_alloc | apply Kd.R_drewN | apply Kd.R_drew)); exact (Q_HO117 h0_)) (by decide)) hk (fun _ h => h.2)) (fun _ h => h.1)) | exact Kd.R_mono (Kd.R_mono (Kd.R_keep (IsS51.apart (show IsS51 w _ g103 t101 t102 from by repeat (first | (with_reducible first | exact HI103.out | apply IsS51.alloc | apply IsS51.drewN | apply IsS51.drew | apply IsS51.set_1) | exact HI103.out)) (by (with_reducible repeat (first | apply Kd.R_alloc | apply Kd.R_drewN | apply Kd.R_drew)); exact (Q_HO117 h0_)) (by decide)) hk (fun _ h => h.2)) (fun _ h => h.1)) (fun _ h_ => by first | trivial | exact h_ | exact h_.1))
              clear HB
              clear HI103
              have HO106 := n0_
              have HB := n1_
              have HI103 := n2_
              clear n0_ n1_ n2_
              (try clear hb)
              (try clear hb2)
              (try clear hk)
              (try clear hi)
              (try clear ho0)
              refine hK.out _ _ ⟨v105, v113, adz_v113, v116, adz_v116, m11_, m13_, m15_, (by rw [ha.out]; exact putSel_upk 0 hb_ rfl rfl rfl), fun h0_ => absurd ((up_self b 1).symm.trans h0_) (by decide), (by repeat (first | (with_reducible first | exact HB.out | apply below_alloc | apply pw_below_drewN | apply below_drew1 | refine below_set ?_ (IsS51.ge HI103.out)) | exact HB.out)), fun _ => (by (with_reducible repeat (first | apply Kd.R_alloc | apply Kd.R_drewN | apply Kd.R_drew)); exact HO106.out), fun _ _ => (by repeat (first | (with_reducible first | exact HI103.out | apply IsS51.alloc | apply IsS51.drewN | apply IsS51.drew | apply IsS51.set_1) | exact HI103.out)), fun h0_ _ => absurd ((hoff 3 (by kernel_rfl)).symm.trans h0_) (by decide), fun h0_ _ => absurd ((hoff 5 (by kernel_rfl)).symm.trans h0_) (by decide), fun h0_ => absurd ((hoff 7 (by kernel_rfl)).symm.trans h0_) (by decide), fun h0_ => absurd ((hoff 7 (by kernel_rfl)).symm.trans h0_) (by decide), z_HO117, Q_HA_HO117, fun h0_ => absurd ((hoff 10 (by kernel_rfl)).symm.trans h0_) (by decide), fun h0_ => absurd ((hoff 11 (by kernel_rfl)).symm.trans h0_) (by decide), fun h0_ => absurd ((hoff 13 (by kernel_rfl)).symm.trans h0_) (by decide), fun h0_ => absurd ((hoff 15 (by kernel_rfl)).symm.trans h0_) (by decide)⟩
            refine steps_cons ?_ ?_
            · rintro b a w' ⟨v105, v113, adz_v113, v116, adz_v116, m11_, m13_, m15_, ha, Q_HI103, Q_HB, Q_HO106, Q_HI103_e1, Q_HI103_e3, Q_HI103_e5, Q_HO114, Q_HA_HO114, Q_HO117, Q_HA_HO117, Q_HI103_e10, Q_X11_, Q_X13_, Q_X15_⟩ hb_ hon hoff
              refine ⟨_, rfl, fun K hK => ?_⟩
              have e9 : a.tmps[9]? = some (.pointer (some ⟨g103, 0, none⟩)) := by rw [ha]; exact (putSel_off rfl).trans rfl
              replace ha := Aside0.mk ha
              have HB := Aside0.mk Q_HB
              have HO106 := Aside0.mk (Q_HO106 (hon 1 (by kernel_rfl)))
              have HI103 := Aside0.mk (Q_HI103_e1 (hon 1 (by kernel_rfl)) hb_)
              refine goes_ Try.func36 (by kernel_rfl) rfl #[.pointer (some ⟨g103, 0, none⟩), .int .i64 40] (by rfl) rfl rfl (by first | (simp only [List.map_toArray, List.map_cons, List.map_nil, Act.eval, Array.getD_eq_getD_getElem?, Option.getD_some, e9]; done) | (simp only [List.map_toArray, List.map_cons, List.map_nil, Act.eval, Array.getD_eq_getD_getElem?, Option.getD_some, e9]; rfl)) ?_
              with_reducible refine (spec_l20Rd_pick.calls k g103 t101 t107 40 t108 t109 w _ ?side1 ?side2 A4.out).mono ?_
              (case side1 => repeat (first | (with_reducible first | exact HI103.out | apply IsS51.alloc | apply IsS51.drewN | apply IsS51.drew | apply IsS51.set_1) | exact HI103.out))
              (case side2 => repeat (first | (with_reducible first | exact HB.out | apply below_alloc | apply pw_below_drewN | apply below_drew1 | refine below_set ?_ (IsS51.ge HI103.out)) | exact HB.out))
              rintro e w15 ⟨rfl, hi, hb, hk⟩
              refine ⟨_, rfl, ?_⟩
              have n0_ := Aside0.mk (Kd.R_mono (Kd.R_keep (IsS51.apart (show IsS51 w _ g103 t101 t107 from by repeat (first | (with_reducible first | exact HI103.out | apply IsS51.alloc | apply IsS51.drewN | apply IsS51.drew | apply IsS51.set_1) | exact HI103.out)) (by (with_reducible repeat (first | apply Kd.R_alloc | apply Kd.R_drewN | apply Kd.R_drew)); exact HO106.out) (by decide)) hk (fun _ h => h.2)) (fun _ h => h.1))
              have n1_ := Aside0.mk (hb)
              have n2_ := Aside0.mk (hi)
              have z_HO117 := fun (h0_ : b 8 = true) => (show Kd.R (Kd.int .i64) 3 w15 w.heap.size (fun _ => True) v116 y115 from by first | exact (Kd.R_mono (Kd.R_keep (IsS51.apart (show IsS51 w _ g103 t101 t107 from by repeat (first | (with_reducible first | exact HI103.out | apply IsS51.alloc | apply IsS51.drewN | apply IsS51.drew | apply IsS51.set_1) | exact HI103.out)) (by (with_reducible repeat (first | apply Kd.R_alloc | apply Kd.R_drewN | apply Kd.R_drew)); exact (Q_HO117 h0_)) (by decide)) hk (fun _ h => h.2)) (fun _ h => h.1)) | exact Kd.R_mono (Kd.R_mono (Kd.R_keep (IsS51.apart (show IsS51 w _ g103 t101 t107 from by repeat (first | (with_reducible first | exact HI103.out | apply IsS51.alloc | apply IsS51.drewN | apply IsS51.drew | apply IsS51.set_1) | exact HI103.out)) (by (with_reducible repeat (first | apply Kd.R_alloc | apply Kd.R_drewN | apply Kd.R_drew)); exact (Q_HO117 h0_)) (by decide)) hk (fun _ h => h.2)) (fun _ h => h.1)) (fun _ h_ => by first | trivial | exact h_ | exact h_.1))
              clear HO106
              clear HB
              clear HI103
              have HO106 := n0_
              have HB := n1_
              have HI103 := n2_
              clear n0_ n1_ n2_
              (try clear hb)
              (try clear hb2)
              (try clear hk)
              (try clear hi)
              refine hK.out _ _ ⟨v105, v113, adz_v113, v116, adz_v116, m11_, m13_, m15_, (by rw [ha.out]; exact putSel_upk 1 hb_ rfl rfl rfl), fun h0_ => absurd ((hon 1 (by kernel_rfl)).symm.trans h0_) (by decide), (by repeat (first | (with_reducible first | exact HB.out | apply below_alloc | apply pw_below_drewN | apply below_drew1 | refine below_set ?_ (IsS51.ge HI103.out)) | exact HB.out)), fun _ => (by (with_reducible repeat (first | apply Kd.R_alloc | apply Kd.R_drewN | apply Kd.R_drew)); exact HO106.out), fun _ h1_ => absurd ((up_self b 3).symm.trans h1_) (by decide), fun _ _ => (by repeat (first | (with_reducible first | exact HI103.out | apply IsS51.alloc | apply IsS51.drewN | apply IsS51.drew | apply IsS51.set_1) | exact HI103.out)), fun h0_ _ => absurd ((hoff 5 (by kernel_rfl)).symm.trans h0_) (by decide), fun h0_ => absurd ((hoff 7 (by kernel_rfl)).symm.trans h0_) (by decide), fun h0_ => absurd ((hoff 7 (by kernel_rfl)).symm.trans h0_) (by decide), z_HO117, Q_HA_HO117, fun h0_ => absurd ((hoff 10 (by kernel_rfl)).symm.trans h0_) (by decide), fun h0_ => absurd ((hoff 11 (by kernel_rfl)).symm.trans h0_) (by decide), fun h0_ => absurd ((hoff 13 (by kernel_rfl)).symm.trans h0_) (by decide), fun h0_ => absurd ((hoff 15 (by kernel_rfl)).symm.trans h0_) (by decide)⟩
            refine steps_cons ?_ ?_
            · rintro b a w' ⟨v105, v113, adz_v113, v116, adz_v116, m11_, m13_, m15_, ha, Q_HI103, Q_HB, Q_HO106, Q_HI103_e1, Q_HI103_e3, Q_HI103_e5, Q_HO114, Q_HA_HO114, Q_HO117, Q_HA_HO117, Q_HI103_e10, Q_X11_, Q_X13_, Q_X15_⟩ hb_ hon hoff
              refine ⟨_, rfl, fun K hK => ?_⟩
              have e11 : a.tmps[11]? = some (.pointer (some ⟨g103, 0, none⟩)) := by rw [ha]; exact (putSel_off rfl).trans rfl
              replace ha := Aside0.mk ha
              have HB := Aside0.mk Q_HB
              have HO106 := Aside0.mk (Q_HO106 (hon 1 (by kernel_rfl)))
              have HI103 := Aside0.mk (Q_HI103_e3 (hon 3 (by kernel_rfl)) hb_)
              refine goes_ Try.func36 (by kernel_rfl) rfl #[.pointer (some ⟨g103, 0, none⟩), .int .i64 256] (by rfl) rfl rfl (by first | (simp only [List.map_toArray, List.map_cons, List.map_nil, Act.eval, Array.getD_eq_getD_getElem?, Option.getD_some, e11]; done) | (simp only [List.map_toArray, List.map_cons, List.map_nil, Act.eval, Array.getD_eq_getD_getElem?, Option.getD_some, e11]; rfl)) ?_
              with_reducible refine (spec_l20Rd_pick.calls k g103 t101 t109 256 t110 t111 w _ ?side1 ?side2 A5.out).mono ?_
              (case side1 => repeat (first | (with_reducible first | exact HI103.out | apply IsS51.alloc | apply IsS51.drewN | apply IsS51.drew | apply IsS51.set_1) | exact HI103.out))
              (case side2 => repeat (first | (with_reducible first | exact HB.out | apply below_alloc | apply pw_below_drewN | apply below_drew1 | refine below_set ?_ (IsS51.ge HI103.out)) | exact HB.out))
              rintro e w16 ⟨rfl, hi, hb, hk⟩
              refine ⟨_, rfl, ?_⟩
              have n0_ := Aside0.mk (Kd.R_mono (Kd.R_keep (IsS51.apart (show IsS51 w _ g103 t101 t109 from by repeat (first | (with_reducible first | exact HI103.out | apply IsS51.alloc | apply IsS51.drewN | apply IsS51.drew | apply IsS51.set_1) | exact HI103.out)) (by (with_reducible repeat (first | apply Kd.R_alloc | apply Kd.R_drewN | apply Kd.R_drew)); exact HO106.out) (by decide)) hk (fun _ h => h.2)) (fun _ h => h.1))
              have n1_ := Aside0.mk (hb)
              have n2_ := Aside0.mk (hi)
              have z_HO117 := fun (h0_ : b 8 = true) => (show Kd.R (Kd.int .i64) 3 w16 w.heap.size (fun _ => True) v116 y115 from by first | exact (Kd.R_mono (Kd.R_keep (IsS51.apart (show IsS51 w _ g103 t101 t109 from by repeat (first | (with_reducible first | exact HI103.out | apply IsS51.alloc | apply IsS51.drewN | apply IsS51.drew | apply IsS51.set_1) | exact HI103.out)) (by (with_reducible repeat (first | apply Kd.R_alloc | apply Kd.R_drewN | apply Kd.R_drew)); exact (Q_HO117 h0_)) (by decide)) hk (fun _ h => h.2)) (fun _ h => h.1)) | exact Kd.R_mono (Kd.R_mono (Kd.R_keep (IsS51.apart (show IsS51 w _ g103 t101 t109 from by repeat (first | (with_reducible first | exact HI103.out | apply IsS51.alloc | apply IsS51.drewN | apply IsS51.drew | apply IsS51.set_1) | exact HI103.out)) (by (with_reducible repeat (first | apply Kd.R_alloc | apply Kd.R_drewN | apply Kd.R_drew)); exact (Q_HO117 h0_)) (by decide)) hk (fun _ h => h.2)) (fun _ h => h.1)) (fun _ h_ => by first | trivial | exact h_ | exact h_.1))
              clear HO106
              clear HB
              clear HI103
              have HO106 := n0_
              have HB := n1_
              have HI103 := n2_
              clear n0_ n1_ n2_
              (try clear hb)
              (try clear hb2)
              (try clear hk)
              (try clear hi)
              refine hK.out _ _ ⟨v105, v113, adz_v113, v116, adz_v116, m11_, m13_, m15_, (by rw [ha.out]; exact putSel_upk 2 hb_ rfl rfl rfl), fun h0_ => absurd ((hon 1 (by kernel_rfl)).symm.trans h0_) (by decide), (by repeat (first | (with_reducible first | exact HB.out | apply below_alloc | apply pw_below_drewN | apply below_drew1 | refine below_set ?_ (IsS51.ge HI103.out)) | exact HB.out)), fun _ => (by (with_reducible repeat (first | apply Kd.R_alloc | apply Kd.R_drewN | apply Kd.R_drew)); exact HO106.out), fun _ h1_ => absurd ((hon 3 (by kernel_rfl)).symm.trans h1_) (by decide), fun _ h1_ => absurd ((up_self b 5).symm.trans h1_) (by decide), fun _ _ => (by repeat (first | (with_reducible first | exact HI103.out | apply IsS51.alloc | apply IsS51.drewN | apply IsS51.drew | apply IsS51.set_1) | exact HI103.out)), fun h0_ => absurd ((hoff 7 (by kernel_rfl)).symm.trans h0_) (by decide), fun h0_ => absurd ((hoff 7 (by kernel_rfl)).symm.trans h0_) (by decide), z_HO117, Q_HA_HO117, fun h0_ => absurd ((hoff 10 (by kernel_rfl)).symm.trans h0_) (by decide), fun h0_ => absurd ((hoff 11 (by kernel_rfl)).symm.trans h0_) (by decide), fun h0_ => absurd ((hoff 13 (by kernel_rfl)).symm.trans h0_) (by decide), fun h0_ => absurd ((hoff 15 (by kernel_rfl)).symm.trans h0_) (by decide)⟩
            refine steps_cons ?_ ?_
            · rintro b a w' ⟨v105, v113, adz_v113, v116, adz_v116, m11_, m13_, m15_, ha, Q_HI103, Q_HB, Q_HO106, Q_HI103_e1, Q_HI103_e3, Q_HI103_e5, Q_HO114, Q_HA_HO114, Q_HO117, Q_HA_HO117, Q_HI103_e10, Q_X11_, Q_X13_, Q_X15_⟩ hb_ hon hoff
              refine ⟨_, rfl, fun K hK => ?_⟩
              have e12 : a.tmps[12]? = some (.int .i64 t110) := by rw [ha]; exact putSel_on (e := (5, 12, .int .i64 t110)) 2 rfl rfl (hon 5 (by kernel_rfl)) rfl
              replace ha := Aside0.mk ha
              have HB := Aside0.mk Q_HB
              have HO106 := Aside0.mk (Q_HO106 (hon 1 (by kernel_rfl)))
              refine value_ (w1 := w') (v := .int .i64 (wrap64 (t110 * 9))) (by rfl) rfl ?_ ?_
              · go_simp
                (try simp only [i64_w])
                try rfl
              refine hK.out _ _ ⟨v105, v113, adz_v113, v116, adz_v116, m11_, m13_, m15_, (by rw [ha.out]; exact putSel_upk 3 hb_ rfl rfl rfl), fun h0_ => absurd ((hon 1 (by kernel_rfl)).symm.trans h0_) (by decide), Q_HB, Q_HO106, fun _ h1_ => absurd ((hon 3 (by kernel_rfl)).symm.trans h1_) (by decide), fun _ h1_ => absurd ((hon 5 (by kernel_rfl)).symm.trans h1_) (by decide), Q_HI103_e5, fun h0_ => absurd ((hoff 7 (by kernel_rfl)).symm.trans h0_) (by decide), fun h0_ => absurd ((hoff 7 (by kernel_rfl)).symm.trans h0_) (by decide), Q_HO117, Q_HA_HO117, Q_HI103_e10, Q_X11_, fun h0_ => absurd ((hoff 13 (by kernel_rfl)).symm.trans h0_) (by decide), Q_X15_⟩
            refine steps_cons ?_ ?_
            · rintro b a w' ⟨v105, v113, adz_v113, v116, adz_v116, m11_, m13_, m15_, ha, Q_HI103, Q_HB, Q_HO106, Q_HI103_e1, Q_HI103_e3, Q_HI103_e5, Q_HO114, Q_HA_HO114, Q_HO117, Q_HA_HO117, Q_HI103_e10, Q_X11_, Q_X13_, Q_X15_⟩ hb_ hon hoff
              refine ⟨_, rfl, fun K hK => ?_⟩
              have e10 : a.tmps[10]? = some (.int .i64 t108) := by rw [ha]; exact putSel_on (e := (3, 10, .int .i64 t108)) 1 rfl rfl (hon 3 (by kernel_rfl)) rfl
              have e13 : a.tmps[13]? = some (.int .i64 (wrap64 (t110 * 9))) := by rw [ha]; exact putSel_on (e := (6, 13, .int .i64 (wrap64 (t110 * 9)))) 3 rfl rfl (hon 6 (by kernel_rfl)) rfl
              replace ha := Aside0.mk ha
              have HB := Aside0.mk Q_HB
              have HO106 := Aside0.mk (Q_HO106 (hon 1 (by kernel_rfl)))
              refine Kd.R_lit_step (Kd.int .i64) _ 3 ?hg (N := 14) ?hd (xs := ([t108, (-1), wrap64 (t110 * 9)] : List Int)) (inner := [.int .i64 t108, .int .i64 (-1), .int .i64 (wrap64 (t110 * 9))]) (ok := fun _ => True) (okp := fun _ => True) ?hr ?hp (fun _ hk => hk) trivial (Below.refl _ _) (Nat.le_refl _) (by simp) ?_; (case hd => rfl); (case hg => rfl); (case hr => first | (go_simp; done) | (go_simp; rfl)); (case hp => exact (Reps.one (show Kd.M (Kd.int .i64) _ _ _ t108 [.int .i64 t108] from rfl) (Reps.one (show Kd.M (Kd.int .i64) _ _ _ (-1) [.int .i64 (-1)] from rfl) (Reps.one (show Kd.M (Kd.int .i64) _ _ _ (wrap64 (t110 * 9)) [.int .i64 (wrap64 (t110 * 9))] from rfl) (Reps.none _ _)))))
              intro v113 w17 ho18 hb hg_ hnew_
              clear hg_ hnew_
              (first | rw [← Ny112.out] at ho18 | (simp only [Int.reduceToNat] at ho18; rw [← Ny112.out] at ho18))
              have n0_ := Aside0.mk (Kd.R_below (by (with_reducible repeat (first | apply Kd.R_alloc | apply Kd.R_drewN | apply Kd.R_drew)); exact HO106.out) hb)
              have n1_ := Aside0.mk (Kd.R_lower ho18 (below_size (by repeat (first | (with_reducible first | exact HB.out | apply below_alloc | apply pw_below_drewN | apply below_drew1) | exact HB.out))))
              have n3_ := Aside0.mk (below_step (by repeat (first | (with_reducible first | exact HB.out | apply below_alloc | apply pw_below_drewN | apply below_drew1) | exact HB.out)) hb)
              have z_HI103_e5 := fun (h0_ : b 5 = true) (h1_ : b 10 = false) => (show IsS51 w w17 g103 t101 t111 from by first | exact (IsS51.below (by repeat (first | (with_reducible first | exact (Q_HI103_e5 h0_ h1_) | apply IsS51.alloc | apply IsS51.drewN | apply IsS51.drew | apply IsS51.set_1) | exact (Q_HI103_e5 h0_ h1_))) hb))
              have z_HO117 := fun (h0_ : b 8 = true) => (show Kd.R (Kd.int .i64) 3 w17 w.heap.size (fun _ => True) v116 y115 from by first | exact (Kd.R_elder' (by (with_reducible repeat (first | apply Kd.R_alloc | apply Kd.R_drewN | apply Kd.R_drew)); exact (Q_HO117 h0_)) (Kd.R_base ho18) hb) | exact Kd.R_mono (Kd.R_elder' (by (with_reducible repeat (first | apply Kd.R_alloc | apply Kd.R_drewN | apply Kd.R_drew)); exact (Q_HO117 h0_)) (Kd.R_base ho18) hb) (fun _ h_ => by first | trivial | exact h_ | exact h_.1))
              have z_HI103_e10 := fun (h0_ : b 10 = true) => (show IsS51 w w17 g103 t101 t119 from by first | exact (IsS51.below (by repeat (first | (with_reducible first | exact (Q_HI103_e10 h0_) | apply IsS51.alloc | apply IsS51.drewN | apply IsS51.drew | apply IsS51.set_1) | exact (Q_HI103_e10 h0_))) hb))
              clear HO106
              clear HB
              have HO106 := n0_
              have HO114 := n1_
              have HB := n3_
              clear n0_ n1_ n3_
              clear hb ho18
              obtain ⟨Ao19, co19, eo19⟩ := Kd.R_slice HO114.out
              subst eo19
              obtain ⟨ado19, fo19, _⟩ := Kd.at_int (Kd.R_reads' HO114.out).2.2 0 (by decide) (by rw [Ny112.out]; simp)
              cases fo19
              refine hK.out _ _ ⟨v105, .slice (some ado19) y112.length co19, ado19, v116, adz_v116, m11_, m13_, m15_, (by rw [ha.out]; exact putSel_upk 4 hb_ rfl rfl rfl), fun h0_ => absurd ((hon 1 (by kernel_rfl)).symm.trans h0_) (by decide), (by repeat (first | (with_reducible first | exact HB.out | apply below_alloc | apply pw_below_drewN | apply below_drew1) | exact HB.out)), fun _ => (by (with_reducible repeat (first | apply Kd.R_alloc | apply Kd.R_drewN | apply Kd.R_drew)); exact HO106.out), fun _ h1_ => absurd ((hon 3 (by kernel_rfl)).symm.trans h1_) (by decide), fun _ h1_ => absurd ((hon 5 (by kernel_rfl)).symm.trans h1_) (by decide), z_HI103_e5, fun _ => (by (with_reducible repeat (first | apply Kd.R_alloc | apply Kd.R_drewN | apply Kd.R_drew)); exact HO114.out), fun _ => ⟨_, rfl⟩, z_HO117, Q_HA_HO117, z_HI103_e10, Q_X11_, fun h0_ => absurd ((hoff 13 (by kernel_rfl)).symm.trans h0_) (by decide), Q_X15_⟩
            refine steps_cons ?_ ?_
            · rintro b a w' ⟨v105, v113, adz_v113, v116, adz_v116, m11_, m13_, m15_, ha, Q_HI103, Q_HB, Q_HO106, Q_HI103_e1, Q_HI103_e3, Q_HI103_e5, Q_HO114, Q_HA_HO114, Q_HO117, Q_HA_HO117, Q_HI103_e10, Q_X11_, Q_X13_, Q_X15_⟩ hb_ hon hoff
              refine ⟨_, rfl, fun K hK => ?_⟩
              replace ha := Aside0.mk ha
              have HB := Aside0.mk Q_HB
              refine Kd.R_lit_step (Kd.int .i64) _ 3 ?hg (N := 15) ?hd (xs := ([0, 0, 0, 0, 1, 2] : List Int)) (inner := [.int .i64 0, .int .i64 0, .int .i64 0, .int .i64 0, .int .i64 1, .int .i64 2]) (ok := fun _ => True) (okp := fun _ => True) ?hr ?hp (fun _ hk => hk) trivial (Below.refl _ _) (Nat.le_refl _) (by simp) ?_; (case hd => rfl); (case hg => rfl); (case hr => first | (go_simp; done) | (go_simp; rfl)); (case hp => exact (Reps.one (show Kd.M (Kd.int .i64) _ _ _ 0 [.int .i64 0] from rfl) (Reps.one (show Kd.M (Kd.int .i64) _ _ _ 0 [.int .i64 0] from rfl) (Reps.one (show Kd.M (Kd.int .i64) _ _ _ 0 [.int .i64 0] from rfl) (Reps.one (show Kd.M (Kd.int .i64) _ _ _ 0 [.int .i64 0] from rfl) (Reps.one (show Kd.M (Kd.int .i64) _ _ _ 1 [.int .i64 1] from rfl) (Reps.one (show Kd.M (Kd.int .i64) _ _ _ 2 [.int .i64 2] from rfl) (Reps.none _ _))))))))
              intro v116 w13 ho14 hb hg_ hnew_
              clear hg_ hnew_
              (first | rw [← Ny115.out] at ho14 | (simp only [Int.reduceToNat] at ho14; rw [← Ny115.out] at ho14))
              have n0_ := Aside0.mk (Kd.R_lower ho14 (below_size (by repeat (first | (with_reducible first | exact HB.out | apply below_alloc | apply pw_below_drewN | apply below_drew1) | exact HB.out))))
              have n2_ := Aside0.mk (below_step (by repeat (first | (with_reducible first | exact HB.out | apply below_alloc | apply pw_below_drewN | apply below_drew1) | exact HB.out)) hb)
              have z_HI103 := fun (h0_ : b 1 = false) => (show IsS51 w w13 g103 t101 t102 from by first | exact (IsS51.below (by repeat (first | (with_reducible first | exact (Q_HI103 h0_) | apply IsS51.alloc | apply IsS51.drewN | apply IsS51.drew | apply IsS51.set_1) | exact (Q_HI103 h0_))) hb))
              have z_HO106 := fun (h0_ : b 1 = true) => (show Kd.R k29 29 w13 w.heap.size (fun _ => True) v105 t104 from by first | exact (Kd.R_below (by (with_reducible repeat (first | apply Kd.R_alloc | apply Kd.R_drewN | apply Kd.R_drew)); exact (Q_HO106 h0_)) hb) | exact Kd.R_mono (Kd.R_below (by (with_reducible repeat (first | apply Kd.R_alloc | apply Kd.R_drewN | apply Kd.R_drew)); exact (Q_HO106 h0_)) hb) (fun _ h_ => by first | trivial | exact h_ | exact h_.1))
              have z_HI103_e1 := fun (h0_ : b 1 = true) (h1_ : b 3 = false) => (show IsS51 w w13 g103 t101 t107 from by first | exact (IsS51.below (by repeat (first | (with_reducible first | exact (Q_HI103_e1 h0_ h1_) | apply IsS51.alloc | apply IsS51.drewN | apply IsS51.drew | apply IsS51.set_1) | exact (Q_HI103_e1 h0_ h1_))) hb))
              have z_HI103_e3 := fun (h0_ : b 3 = true) (h1_ : b 5 = false) => (show IsS51 w w13 g103 t101 t109 from by first | exact (IsS51.below (by repeat (first | (with_reducible first | exact (Q_HI103_e3 h0_ h1_) | apply IsS51.alloc | apply IsS51.drewN | apply IsS51.drew | apply IsS51.set_1) | exact (Q_HI103_e3 h0_ h1_))) hb))
              have z_HI103_e5 := fun (h0_ : b 5 = true) (h1_ : b 10 = false) => (show IsS51 w w13 g103 t101 t111 from by first | exact (IsS51.below (by repeat (first | (with_reducible first | exact (Q_HI103_e5 h0_ h1_) | apply IsS51.alloc | apply IsS51.drewN | apply IsS51.drew | apply IsS51.set_1) | exact (Q_HI103_e5 h0_ h1_))) hb))
              have z_HO114 := fun (h0_ : b 7 = true) => (show Kd.R (Kd.int .i64) 3 w13 w.heap.size (fun _ => True) v113 y112 from by first | exact (Kd.R_elder' (by (with_reducible repeat (first | apply Kd.R_alloc | apply Kd.R_drewN | apply Kd.R_drew)); exact (Q_HO114 h0_)) (Kd.R_base ho14) hb) | exact Kd.R_mono (Kd.R_elder' (by (with_reducible repeat (first | apply Kd.R_alloc | apply Kd.R_drewN | apply Kd.R_drew)); exact (Q_HO114 h0_)) (Kd.R_base ho14) hb) (fun _ h_ => by first | trivial | exact h_ | exact h_.1))
              have z_HI103_e10 := fun (h0_ : b 10 = true) => (show IsS51 w w13 g103 t101 t119 from by first | exact (IsS51.below (by repeat (first | (with_reducible first | exact (Q_HI103_e10 h0_) | apply IsS51.alloc | apply IsS51.drewN | apply IsS51.drew | apply IsS51.set_1) | exact (Q_HI103_e10 h0_))) hb))
              clear HB
              have HO117 := n0_
              have HB := n2_
              clear n0_ n2_
              clear hb ho14
              obtain ⟨Ao15, co15, eo15⟩ := Kd.R_slice HO117.out
              subst eo15
              obtain ⟨ado15, fo15, _⟩ := Kd.at_int (Kd.R_reads' HO117.out).2.2 0 (by decide) (by rw [Ny115.out]; simp)
              cases fo15
              refine hK.out _ _ ⟨v105, v113, adz_v113, .slice (some ado15) y115.length co15, ado15, m11_, m13_, m15_, (by rw [ha.out]; exact putSel_upk 5 hb_ rfl rfl rfl), z_HI103, (by repeat (first | (with_reducible first | exact HB.out | apply below_alloc | apply pw_below_drewN | apply below_drew1) | exact HB.out)), z_HO106, z_HI103_e1, z_HI103_e3, z_HI103_e5, z_HO114, Q_HA_HO114, fun _ => (by (with_reducible repeat (first | apply Kd.R_alloc | apply Kd.R_drewN | apply Kd.R_drew)); exact HO117.out), fun _ => ⟨_, rfl⟩, z_HI103_e10, fun h0_ => absurd ((hoff 11 (by kernel_rfl)).symm.trans h0_) (by decide), fun h0_ => absurd ((hoff 13 (by kernel_rfl)).symm.trans h0_) (by decide), Q_X15_⟩
            refine steps_cons ?_ ?_
            · rintro b a w' ⟨v105, v113, adz_v113, v116, adz_v116, m11_, m13_, m15_, ha, Q_HI103, Q_HB, Q_HO106, Q_HI103_e1, Q_HI103_e3, Q_HI103_e5, Q_HO114, Q_HA_HO114, Q_HO117, Q_HA_HO117, Q_HI103_e10, Q_X11_, Q_X13_, Q_X15_⟩ hb_ hon hoff
              refine ⟨_, rfl, fun K hK => ?_⟩
              have e16 : a.tmps[16]? = some (.pointer (some ⟨g103, 0, none⟩)) := by rw [ha]; exact (putSel_off rfl).trans rfl
              replace ha := Aside0.mk ha
              have HB := Aside0.mk Q_HB
              have HO106 := Aside0.mk (Q_HO106 (hon 1 (by kernel_rfl)))
              have HI103 := Aside0.mk (Q_HI103_e5 (hon 5 (by kernel_rfl)) hb_)
              refine goes_ Try.func36 (by kernel_rfl) rfl #[.pointer (some ⟨g103, 0, none⟩), .int .i64 6] (by rfl) rfl rfl (by first | (simp only [List.map_toArray, List.map_cons, List.map_nil, Act.eval, Array.getD_eq_getD_getElem?, Option.getD_some, e16]; done) | (simp only [List.map_toArray, List.map_cons, List.map_nil, Act.eval, Array.getD_eq_getD_getElem?, Option.getD_some, e16]; rfl)) ?_
              with_reducible refine (spec_l20Rd_pick.calls k g103 t101 t111 6 t118 t119 w _ ?side1 ?side2 A6.out).mono ?_
              (case side1 => repeat (first | (with_reducible first | exact HI103.out | apply IsS51.alloc | apply IsS51.drewN | apply IsS51.drew | apply IsS51.set_1) | exact HI103.out))
              (case side2 => repeat (first | (with_reducible first | exact HB.out | apply below_alloc | apply pw_below_drewN | apply below_drew1 | refine below_set ?_ (IsS51.ge HI103.out)) | exact HB.out))
              rintro e w17 ⟨rfl, hi, hb, hk⟩
              refine ⟨_, rfl, ?_⟩
              have n0_ := Aside0.mk (Kd.R_mono (Kd.R_keep (IsS51.apart (show IsS51 w _ g103 t101 t111 from by repeat (first | (with_reducible first | exact HI103.out | apply IsS51.alloc | apply IsS51.drewN | apply IsS51.drew | apply IsS51.set_1) | exact HI103.out)) (by (with_reducible repeat (first | apply Kd.R_alloc | apply Kd.R_drewN | apply Kd.R_drew)); exact HO106.out) (by decide)) hk (fun _ h => h.2)) (fun _ h => h.1))
              have n1_ := Aside0.mk (hb)
              have n2_ := Aside0.mk (hi)
              have z_HO114 := fun (h0_ : b 7 = true) => (show Kd.R (Kd.int .i64) 3 w17 w.heap.size (fun _ => True) v113 y112 from by first | exact (Kd.R_mono (Kd.R_keep (IsS51.apart (show IsS51 w _ g103 t101 t111 from by repeat (first | (with_reducible first | exact HI103.out | apply IsS51.alloc | apply IsS51.drewN | apply IsS51.drew | apply IsS51.set_1) | exact HI103.out)) (by (with_reducible repeat (first | apply Kd.R_alloc | apply Kd.R_drewN | apply Kd.R_drew)); exact (Q_HO114 h0_)) (by decide)) hk (fun _ h => h.2)) (fun _ h => h.1)) | exact Kd.R_mono (Kd.R_mono (Kd.R_keep (IsS51.apart (show IsS51 w _ g103 t101 t111 from by repeat (first | (with_reducible first | exact HI103.out | apply IsS51.alloc | apply IsS51.drewN | apply IsS51.drew | apply IsS51.set_1) | exact HI103.out)) (by (with_reducible repeat (first | apply Kd.R_alloc | apply Kd.R_drewN | apply Kd.R_drew)); exact (Q_HO114 h0_)) (by decide)) hk (fun _ h => h.2)) (fun _ h => h.1)) (fun _ h_ => by first | trivial | exact h_ | exact h_.1))
              have z_HO117 := fun (h0_ : b 8 = true) => (show Kd.R (Kd.int .i64) 3 w17 w.heap.size (fun _ => True) v116 y115 from by first | exact (Kd.R_mono (Kd.R_keep (IsS51.apart (show IsS51 w _ g103 t101 t111 from by repeat (first | (with_reducible first | exact HI103.out | apply IsS51.alloc | apply IsS51.drewN | apply IsS51.drew | apply IsS51.set_1) | exact HI103.out)) (by (with_reducible repeat (first | apply Kd.R_alloc | apply Kd.R_drewN | apply Kd.R_drew)); exact (Q_HO117 h0_)) (by decide)) hk (fun _ h => h.2)) (fun _ h => h.1)) | exact Kd.R_mono (Kd.R_mono (Kd.R_keep (IsS51.apart (show IsS51 w _ g103 t101 t111 from by repeat (first | (with_reducible first | exact HI103.out | apply IsS51.alloc | apply IsS51.drewN | apply IsS51.drew | apply IsS51.set_1) | exact HI103.out)) (by (with_reducible repeat (first | apply Kd.R_alloc | apply Kd.R_drewN | apply Kd.R_drew)); exact (Q_HO117 h0_)) (by decide)) hk (fun _ h => h.2)) (fun _ h => h.1)) (fun _ h_ => by first | trivial | exact h_ | exact h_.1))
              clear HO106
              clear HB
              clear HI103
              have HO106 := n0_
              have HB := n1_
              have HI103 := n2_
              clear n0_ n1_ n2_
              (try clear hb)
              (try clear hb2)
              (try clear hk)
              (try clear hi)
              refine hK.out _ _ ⟨v105, v113, adz_v113, v116, adz_v116, m11_, m13_, m15_, (by rw [ha.out]; exact putSel_upk 6 hb_ rfl rfl rfl), fun h0_ => absurd ((hon 1 (by kernel_rfl)).symm.trans h0_) (by decide), (by repeat (first | (with_reducible first | exact HB.out | apply below_alloc | apply pw_below_drewN | apply below_drew1 | refine below_set ?_ (IsS51.ge HI103.out)) | exact HB.out)), fun _ => (by (with_reducible repeat (first | apply Kd.R_alloc | apply Kd.R_drewN | apply Kd.R_drew)); exact HO106.out), fun _ h1_ => absurd ((hon 3 (by kernel_rfl)).symm.trans h1_) (by decide), fun _ h1_ => absurd ((hon 5 (by kernel_rfl)).symm.trans h1_) (by decide), fun _ h1_ => absurd ((up_self b 10).symm.trans h1_) (by decide), z_HO114, Q_HA_HO114, z_HO117, Q_HA_HO117, fun _ => (by repeat (first | (with_reducible first | exact HI103.out | apply IsS51.alloc | apply IsS51.drewN | apply IsS51.drew | apply IsS51.set_1) | exact HI103.out)), fun h0_ => absurd ((hoff 11 (by kernel_rfl)).symm.trans h0_) (by decide), fun h0_ => absurd ((hoff 13 (by kernel_rfl)).symm.trans h0_) (by decide), fun h0_ => absurd ((hoff 15 (by kernel_rfl)).symm.trans h0_) (by decide)⟩
            refine steps_cons ?_ ?_
            · rintro b a w' ⟨v105, v113, adz_v113, v116, adz_v116, m11_, m13_, m15_, ha, Q_HI103, Q_HB, Q_HO106, Q_HI103_e1, Q_HI103_e3, Q_HI103_e5, Q_HO114, Q_HA_HO114, Q_HO117, Q_HA_HO117, Q_HI103_e10, Q_X11_, Q_X13_, Q_X15_⟩ hb_ hon hoff
              refine ⟨_, rfl, fun K hK => ?_⟩
              have e15 : a.tmps[15]? = some (v116) := by rw [ha]; exact putSel_on (e := (8, 15, v116)) 5 rfl rfl (hon 8 (by kernel_rfl)) rfl
              have e17 : a.tmps[17]? = some (.int .i64 t118) := by rw [ha]; exact putSel_on (e := (10, 17, .int .i64 t118)) 6 rfl rfl (hon 10 (by kernel_rfl)) rfl
              replace ha := Aside0.mk ha
              have HB := Aside0.mk Q_HB
              have HO106 := Aside0.mk (Q_HO106 (hon 1 (by kernel_rfl)))
              have HO117 := Aside0.mk (Q_HO117 (hon 8 (by kernel_rfl)))
              have HA_HO117 := Aside0.mk (Q_HA_HO117 (hon 8 (by kernel_rfl)))
              have HI103 := Aside0.mk (Q_HI103_e10 (hon 10 (by kernel_rfl)))
              obtain ⟨c_, hv_⟩ := HA_HO117.out
              rw [hv_] at e15
              refine value_ (w1 := w') (v := .pointer (some (adz_v116.add (t118).toNat))) (by rfl) rfl ?_ ?_
              · go_simp
                (try simp only [i64_w])
                try rfl
              refine hK.out _ _ ⟨v105, v113, adz_v113, v116, adz_v116, (.pointer (some (adz_v116.add (t118).toNat))), m13_, m15_, (by rw [ha.out]; exact putSel_upk 7 hb_ rfl rfl rfl), fun h0_ => absurd ((hon 1 (by kernel_rfl)).symm.trans h0_) (by decide), Q_HB, Q_HO106, fun _ h1_ => absurd ((hon 3 (by kernel_rfl)).symm.trans h1_) (by decide), fun _ h1_ => absurd ((hon 5 (by kernel_rfl)).symm.trans h1_) (by decide), fun _ h1_ => absurd ((hon 10 (by kernel_rfl)).symm.trans h1_) (by decide), Q_HO114, Q_HA_HO114, Q_HO117, Q_HA_HO117, Q_HI103_e10, fun _ => rfl, fun h0_ => absurd ((hoff 13 (by kernel_rfl)).symm.trans h0_) (by decide), Q_X15_⟩
            refine steps_cons ?_ ?_
            · rintro b a w' ⟨v105, v113, adz_v113, v116, adz_v116, m11_, m13_, m15_, ha, Q_HI103, Q_HB, Q_HO106, Q_HI103_e1, Q_HI103_e3, Q_HI103_e5, Q_HO114, Q_HA_HO114, Q_HO117, Q_HA_HO117, Q_HI103_e10, Q_X11_, Q_X13_, Q_X15_⟩ hb_ hon hoff
              refine ⟨_, rfl, fun K hK => ?_⟩
              have e18 : a.tmps[18]? = some (m11_) := by rw [ha]; exact putSel_on (e := (11, 18, m11_)) 7 rfl rfl (hon 11 (by kernel_rfl)) rfl
              rw [Q_X11_ (hon 11 (by kernel_rfl))] at e18
              replace ha := Aside0.mk ha
              have HB := Aside0.mk Q_HB
              have HO106 := Aside0.mk (Q_HO106 (hon 1 (by kernel_rfl)))
              have HO117 := Aside0.mk (Q_HO117 (hon 8 (by kernel_rfl)))
              have HA_HO117 := Aside0.mk (Q_HA_HO117 (hon 8 (by kernel_rfl)))
              have HI103 := Aside0.mk (Q_HI103_e10 (hon 10 (by kernel_rfl)))
              obtain ⟨c_, hv_⟩ := HA_HO117.out
              have hF_ := HO117.out
              rw [hv_] at hF_
              obtain ⟨ad_, ea_, hx_⟩ := Kd.at_int (Kd.R_reads' hF_).2.2 t118 (of_eq_true pi120) (of_eq_true qi120)
              cases ea_
              refine value_ (w1 := w') (v := .int .i64 (rd y115 t118)) (by rfl) rfl ?_ ?_
              · go_simp
                (try simp only [i64_w])
                try rfl
              refine hK.out _ _ ⟨v105, v113, adz_v113, v116, adz_v116, m11_, m13_, m15_, (by rw [ha.out]; exact putSel_upk 8 hb_ rfl rfl rfl), fun h0_ => absurd ((hon 1 (by kernel_rfl)).symm.trans h0_) (by decide), Q_HB, Q_HO106, fun _ h1_ => absurd ((hon 3 (by kernel_rfl)).symm.trans h1_) (by decide), fun _ h1_ => absurd ((hon 5 (by kernel_rfl)).symm.trans h1_) (by decide), fun _ h1_ => absurd ((hon 10 (by kernel_rfl)).symm.trans h1_) (by decide), Q_HO114, Q_HA_HO114, Q_HO117, Q_HA_HO117, Q_HI103_e10, Q_X11_, fun h0_ => absurd ((hoff 13 (by kernel_rfl)).symm.trans h0_) (by decide), Q_X15_⟩
            refine steps_cons ?_ ?_
            · rintro b a w' ⟨v105, v113, adz_v113, v116, adz_v116, m11_, m13_, m15_, ha, Q_HI103, Q_HB, Q_HO106, Q_HI103_e1, Q_HI103_e3, Q_HI103_e5, Q_HO114, Q_HA_HO114, Q_HO117, Q_HA_HO117, Q_HI103_e10, Q_X11_, Q_X13_, Q_X15_⟩ hb_ hon hoff
              refine ⟨_, rfl, fun K hK => ?_⟩
              have e14 : a.tmps[14]? = some (v113) := by rw [ha]; exact putSel_on (e := (7, 14, v113)) 4 rfl rfl (hon 7 (by kernel_rfl)) rfl
              have e19 : a.tmps[19]? = some (.int .i64 (rd y115 t118)) := by rw [ha]; exact putSel_on (e := (12, 19, .int .i64 (rd y115 t118))) 8 rfl rfl (hon 12 (by kernel_rfl)) rfl
              replace ha := Aside0.mk ha
              have HB := Aside0.mk Q_HB
              have HO106 := Aside0.mk (Q_HO106 (hon 1 (by kernel_rfl)))
              have HO114 := Aside0.mk (Q_HO114 (hon 7 (by kernel_rfl)))
              have HA_HO114 := Aside0.mk (Q_HA_HO114 (hon 7 (by kernel_rfl)))
              have HO117 := Aside0.mk (Q_HO117 (hon 8 (by kernel_rfl)))
              have HA_HO117 := Aside0.mk (Q_HA_HO117 (hon 8 (by kernel_rfl)))
              have HI103 := Aside0.mk (Q_HI103_e10 (hon 10 (by kernel_rfl)))
              obtain ⟨c_, hv_⟩ := HA_HO114.out
              rw [hv_] at e14
              refine value_ (w1 := w') (v := .pointer (some (adz_v113.add ((rd y115 t118)).toNat))) (by rfl) rfl ?_ ?_
              · go_simp
                (try simp only [i64_w])
                try rfl
              refine hK.out _ _ ⟨v105, v113, adz_v113, v116, adz_v116, m11_, (.pointer (some (adz_v113.add ((rd y115 t118)).toNat))), m15_, (by rw [ha.out]; exact putSel_upk 9 hb_ rfl rfl rfl), fun h0_ => absurd ((hon 1 (by kernel_rfl)).symm.trans h0_) (by decide), Q_HB, Q_HO106, fun _ h1_ => absurd ((hon 3 (by kernel_rfl)).symm.trans h1_) (by decide), fun _ h1_ => absurd ((hon 5 (by kernel_rfl)).symm.trans h1_) (by decide), fun _ h1_ => absurd ((hon 10 (by kernel_rfl)).symm.trans h1_) (by decide), Q_HO114, Q_HA_HO114, Q_HO117, Q_HA_HO117, Q_HI103_e10, Q_X11_, fun _ => rfl, Q_X15_⟩
            refine steps_cons ?_ ?_
            · rintro b a w' ⟨v105, v113, adz_v113, v116, adz_v116, m11_, m13_, m15_, ha, Q_HI103, Q_HB, Q_HO106, Q_HI103_e1, Q_HI103_e3, Q_HI103_e5, Q_HO114, Q_HA_HO114, Q_HO117, Q_HA_HO117, Q_HI103_e10, Q_X11_, Q_X13_, Q_X15_⟩ hb_ hon hoff
              refine ⟨_, rfl, fun K hK => ?_⟩
              have e20 : a.tmps[20]? = some (m13_) := by rw [ha]; exact putSel_on (e := (13, 20, m13_)) 9 rfl rfl (hon 13 (by kernel_rfl)) rfl
              rw [Q_X13_ (hon 13 (by kernel_rfl))] at e20
              replace ha := Aside0.mk ha
              have HB := Aside0.mk Q_HB
              have HO106 := Aside0.mk (Q_HO106 (hon 1 (by kernel_rfl)))
              have HO114 := Aside0.mk (Q_HO114 (hon 7 (by kernel_rfl)))
              have HA_HO114 := Aside0.mk (Q_HA_HO114 (hon 7 (by kernel_rfl)))
              have HO117 := Aside0.mk (Q_HO117 (hon 8 (by kernel_rfl)))
              have HA_HO117 := Aside0.mk (Q_HA_HO117 (hon 8 (by kernel_rfl)))
              have HI103 := Aside0.mk (Q_HI103_e10 (hon 10 (by kernel_rfl)))
              obtain ⟨c_, hv_⟩ := HA_HO114.out
              have hF_ := HO114.out
              rw [hv_] at hF_
              obtain ⟨ad_, ea_, hx_⟩ := Kd.at_int (Kd.R_reads' hF_).2.2 (rd y115 t118) (of_eq_true pi121) (of_eq_true qi121)
              cases ea_
              refine value_ (w1 := w') (v := .int .i64 (rd y112 (rd y115 t118))) (by rfl) rfl ?_ ?_
              · go_simp
                (try simp only [i64_w])
                try rfl
              refine hK.out _ _ ⟨v105, v113, adz_v113, v116, adz_v116, m11_, m13_, m15_, (by rw [ha.out]; exact putSel_upk 10 hb_ rfl rfl rfl), fun h0_ => absurd ((hon 1 (by kernel_rfl)).symm.trans h0_) (by decide), Q_HB, Q_HO106, fun _ h1_ => absurd ((hon 3 (by kernel_rfl)).symm.trans h1_) (by decide), fun _ h1_ => absurd ((hon 5 (by kernel_rfl)).symm.trans h1_) (by decide), fun _ h1_ => absurd ((hon 10 (by kernel_rfl)).symm.trans h1_) (by decide), Q_HO114, Q_HA_HO114, Q_HO117, Q_HA_HO117, Q_HI103_e10, Q_X11_, Q_X13_, Q_X15_⟩
            refine steps_cons ?_ ?_
            · rintro b a w' ⟨v105, v113, adz_v113, v116, adz_v116, m11_, m13_, m15_, ha, Q_HI103, Q_HB, Q_HO106, Q_HI103_e1, Q_HI103_e3, Q_HI103_e5, Q_HO114, Q_HA_HO114, Q_HO117, Q_HA_HO117, Q_HI103_e10, Q_X11_, Q_X13_, Q_X15_⟩ hb_ hon hoff
              refine ⟨_, rfl, fun K hK => ?_⟩
              have e8 : a.tmps[8]? = some (v105) := by rw [ha]; exact putSel_on (e := (1, 8, v105)) 0 rfl rfl (hon 1 (by kernel_rfl)) rfl
              replace ha := Aside0.mk ha
              have HB := Aside0.mk Q_HB
              have HO106 := Aside0.mk (Q_HO106 (hon 1 (by kernel_rfl)))
              have HI103 := Aside0.mk (Q_HI103_e10 (hon 10 (by kernel_rfl)))
              refine value_ (w1 := w') (v := v105) (by rfl) rfl ?_ ?_
              · go_simp
                (try simp only [i64_w])
                try rfl
              refine hK.out _ _ ⟨v105, v113, adz_v113, v116, adz_v116, m11_, m13_, (v105), (by rw [ha.out]; exact putSel_upk 11 hb_ rfl rfl rfl), fun h0_ => absurd ((hon 1 (by kernel_rfl)).symm.trans h0_) (by decide), Q_HB, Q_HO106, fun _ h1_ => absurd ((hon 3 (by kernel_rfl)).symm.trans h1_) (by decide), fun _ h1_ => absurd ((hon 5 (by kernel_rfl)).symm.trans h1_) (by decide), fun _ h1_ => absurd ((hon 10 (by kernel_rfl)).symm.trans h1_) (by decide), Q_HO114, Q_HA_HO114, Q_HO117, Q_HA_HO117, Q_HI103_e10, Q_X11_, Q_X13_, fun _ => rfl⟩
            refine steps_cons ?_ ?_
            · rintro b a w' ⟨v105, v113, adz_v113, v116, adz_v116, m11_, m13_, m15_, ha, Q_HI103, Q_HB, Q_HO106, Q_HI103_e1, Q_HI103_e3, Q_HI103_e5, Q_HO114, Q_HA_HO114, Q_HO117, Q_HA_HO117, Q_HI103_e10, Q_X11_, Q_X13_, Q_X15_⟩ hb_ hon hoff
              refine ⟨_, rfl, fun K hK => ?_⟩
              have e21 : a.tmps[21]? = some (.int .i64 (rd y112 (rd y115 t118))) := by rw [ha]; exact putSel_on (e := (14, 21, .int .i64 (rd y112 (rd y115 t118)))) 10 rfl rfl (hon 14 (by kernel_rfl)) rfl
              replace ha := Aside0.mk ha
              have HB := Aside0.mk Q_HB
              have HO106 := Aside0.mk (Q_HO106 (hon 1 (by kernel_rfl)))
              have HO114 := Aside0.mk (Q_HO114 (hon 7 (by kernel_rfl)))
              have HA_HO114 := Aside0.mk (Q_HA_HO114 (hon 7 (by kernel_rfl)))
              have HO117 := Aside0.mk (Q_HO117 (hon 8 (by kernel_rfl)))
              have HA_HO117 := Aside0.mk (Q_HA_HO117 (hon 8 (by kernel_rfl)))
              have HI103 := Aside0.mk (Q_HI103_e10 (hon 10 (by kernel_rfl)))
              refine value_ (w1 := w') (v := .int .i64 (rd y112 (rd y115 t118))) (by rfl) rfl ?_ ?_
              · go_simp
                (try simp only [i64_w])
                try rfl
              refine hK.out _ _ ⟨v105, v113, adz_v113, v116, adz_v116, m11_, m13_, m15_, (by rw [ha.out]; exact putSel_upk 12 hb_ rfl rfl rfl), fun h0_ => absurd ((hon 1 (by kernel_rfl)).symm.trans h0_) (by decide), Q_HB, Q_HO106, fun _ h1_ => absurd ((hon 3 (by kernel_rfl)).symm.trans h1_) (by decide), fun _ h1_ => absurd ((hon 5 (by kernel_rfl)).symm.trans h1_) (by decide), fun _ h1_ => absurd ((hon 10 (by kernel_rfl)).symm.trans h1_) (by decide), Q_HO114, Q_HA_HO114, Q_HO117, Q_HA_HO117, Q_HI103_e10, Q_X11_, Q_X13_, Q_X15_⟩
            exact steps_nil
          rintro b a w23 hall ⟨v105, v113, adz_v113, v116, adz_v116, m11_, m13_, m15_, ha, Q_HI103, Q_HB, Q_HO106, Q_HI103_e1, Q_HI103_e3, Q_HI103_e5, Q_HO114, Q_HA_HO114, Q_HO117, Q_HA_HO117, Q_HI103_e10, Q_X11_, Q_X13_, Q_X15_⟩
          clear HB HI103
          have hb1_ := hall 1 (by kernel_rfl)
          have hb3_ := hall 3 (by kernel_rfl)
          have hb5_ := hall 5 (by kernel_rfl)
          have hb6_ := hall 6 (by kernel_rfl)
          have hb7_ := hall 7 (by kernel_rfl)
          have hb8_ := hall 8 (by kernel_rfl)
          have hb10_ := hall 10 (by kernel_rfl)
          have hb11_ := hall 11 (by kernel_rfl)
          have hb12_ := hall 12 (by kernel_rfl)
          have hb13_ := hall 13 (by kernel_rfl)
          have hb14_ := hall 14 (by kernel_rfl)
          have hb15_ := hall 15 (by kernel_rfl)
          have hb16_ := hall 16 (by kernel_rfl)
          subst ha
          obtain rfl := Q_X11_ hb11_
          obtain rfl := Q_X13_ hb13_
          obtain rfl := Q_X15_ hb15_
          simp only [putSel, hb1_, hb3_, hb5_, hb6_, hb7_, hb8_, hb10_, hb11_, hb12_, hb13_, hb14_, hb15_, hb16_, if_true, Act.put, List.setIfInBounds_toArray, List.set_cons_zero, List.set_cons_succ]
          clear Q_HI103
          have HB := Aside0.mk Q_HB
          clear Q_HB
          have HO106 := Aside0.mk (Q_HO106 hb1_)
          clear Q_HO106
          clear Q_HI103_e1
          clear Q_HI103_e3
          clear Q_HI103_e5
          have HO114 := Aside0.mk (Q_HO114 hb7_)
          clear Q_HO114
          have HA_HO114 := Aside0.mk (Q_HA_HO114 hb7_)
          clear Q_HA_HO114
          have HO117 := Aside0.mk (Q_HO117 hb8_)
          clear Q_HO117
          have HA_HO117 := Aside0.mk (Q_HA_HO117 hb8_)
          clear Q_HA_HO117
          have HI103 := Aside0.mk (Q_HI103_e10 hb10_)
          clear Q_HI103_e10
          clear hall hb1_ hb3_ hb5_ hb6_ hb7_ hb8_ hb10_ hb11_ hb12_ hb13_ hb14_ hb15_ hb16_
          obtain ⟨co24, eo24⟩ := HA_HO114.out
          clear HA_HO114
          subst eo24
          obtain ⟨co25, eo25⟩ := HA_HO117.out
          clear HA_HO117
          subst eo25
          try go_wp2
          go_ret2
          exact ⟨_, by first | rfl | (simp [errW_none, errW_some] <;> rfl) | (simp [*, errW_none, errW_some] <;> rfl), by (with_reducible repeat (first | apply Kd.R_alloc | apply Kd.R_drewN | apply Kd.R_drew)); exact HO106.out, by repeat (first | (with_reducible first | exact HB.out | apply below_alloc | apply pw_below_drewN | apply below_drew1 | refine below_set ?_ (IsS51.ge HI103.out)) | exact HB.out)⟩
        · rw [if_neg c10] at H
          exact absurd H (by simp)
      · rw [if_neg c9] at H
        exact absurd H (by simp)
    · rw [if_neg c8] at H
      exact absurd H (by simp)
  · rw [if_neg c7] at H
    exact absurd H (by simp)

end Go.Proofs.Ythpnfipkgfbbeaa.Q
