-- written by mp.py, a program of this session's, out of the kit's print program and the translation
import Derived.Test.YthpnfipkgfbbeaaF0
import Derived.Test.YthpnfipkgfbbeaaFA
import Derived.Test.YthpnfipkgfbbeaaFspecXl20Set
namespace Go.Proofs.Ythpnfipkgfbbeaa.Q
open Go.RowKit Go.Proofs.YthpnfipkgfbbeaaW.PrintWords Go.Proofs.YthpnfipkgfbbeaaW.PrintLast Go.Proofs.YthpnfipkgfbbeaaW.PrintMore
attribute [local go_sem] max2_int min2_int max_two min_two max_three min_three max_four min_four   -- for this text's walks alone
set_option linter.unusedVariables false
set_option linter.unusedSimpArgs false

/-! ### spec_DrawDemand: function 20 -/
def spec_DrawDemand.f (k : Nat) (l0 : List Int) : Option ((List (S29)) × Int) := (spec_l20Open.f l0).bind fun bt101 => ((spec_l20Set.f k bt101.1 bt101.2 12).bind fun bt104 => ((spec_l20Rd_pick.f k bt101.1 bt104.2 40).bind fun bt108 => ((spec_l20Rd_pick.f k bt101.1 bt108.2 256).bind fun bt110 => ((some (([bt108.1, wrap64 (bt110.1 * 7), (-1)] : List Int) : List Int)).bind fun y112 => ((some (([0, 0, 0, 0, 1, 2] : List Int) : List Int)).bind fun y115 => ((spec_l20Rd_pick.f k bt101.1 bt110.2 6).bind fun bt118 => (if 0 ≤ bt118.1 then (if bt118.1 < (y115.length : Int) then (if 0 ≤ (rd y115 bt118.1) then (if (rd y115 bt118.1) < (y112.length : Int) then (some (bt104.1, rd y112 (rd y115 bt118.1))) else (none)) else (none)) else (none)) else (none))))))))
theorem spec_DrawDemand.mono : ∀ a0 k, LeO (spec_DrawDemand.f k a0) (spec_DrawDemand.f (k + 1) a0) := by
  intro a0 k
  unfold spec_DrawDemand.f
  repeat' first
      | (with_reducible exact spec_l20Rd_pick.mono _ _ _ _)
      | (with_reducible exact spec_l20Set.mono _ _ _ _)
      | (with_reducible exact LeO.refl _)
      | (with_reducible exact LeO.none _)
      | (with_reducible refine LeO.ite ?_ ?_)
      | (with_reducible refine LeO.bind ?_ (fun _ => ?_))
      | exact spec_l20Rd_pick.mono _ _ _ _
      | exact spec_l20Set.mono _ _ _ _
      | exact LeO.none _
      | refine LeO.ite ?_ ?_
      | refine LeO.bind ?_ (fun _ => ?_)
def spec_DrawDemand.T3 : Bool × List (List Nat × List Nat) := (true, [([], []), ([], []), ([1], [1]), ([], []), ([3, 2], [3]), ([4], [4]), ([2, 5], [2, 5]), ([], []), ([], []), ([8, 4], [8]), ([7, 9], [7, 9]), ([10], [10]), ([6, 11], [6, 11]), ([12], [12]), ([0, 9, 0], [0]), ([13, 14, 0, 1, 2, 3, 4, 5, 6, 7, 8, 9, 10, 11, 12, 13, 14], [13])])
def spec_DrawDemand.B3 : List Nat := [0, 0, 2, 0, 14, 30, 62, 0, 0, 286, 926, 1950, 4094, 8190, 799, 32767]
theorem spec_DrawDemand.tab3 : rtab .any (opsOf Try.f20 3) = spec_DrawDemand.T3 := by kernel_rfl
theorem spec_DrawDemand.bits3 : waitsOk spec_DrawDemand.T3.2 spec_DrawDemand.B3 = true := by kernel_rfl
set_option maxHeartbeats 8000000 in
set_option maxRecDepth 100000 in
theorem spec_DrawDemand.calls (k : Nat) (A0 : Option Addr) (c0 : Nat) (l0 : List Int) (r1 : List (S29)) (r2 : Int) (w : World) (hr0 : Kd.C (Kd.int .u8) w A0 l0.length l0) (hc0 : l0.length ≤ c0) (h : spec_DrawDemand.f k l0 = some (r1, r2)) :
    Calls Try.prog 20 #[.slice A0 l0.length c0] w fun e w' => ∃ v0_ : Value, e = .returned (.tuple #[v0_, .int .i64 r2]) ∧ Kd.R k29 29 w' w.heap.size (fun _ => True) v0_ r1 ∧ Below w.heap.size w w' := by
  have HR0 := Aside0.mk hr0
  have HC0 := Aside0.mk hc0
  clear hr0 hc0
  have HB := Aside0.mk (Below.refl w.heap.size w)
  have H : ((spec_l20Open.f l0).bind fun bt101 => ((spec_l20Set.f k bt101.1 bt101.2 12).bind fun bt104 => ((spec_l20Rd_pick.f k bt101.1 bt104.2 40).bind fun bt108 => ((spec_l20Rd_pick.f k bt101.1 bt108.2 256).bind fun bt110 => ((some (([bt108.1, wrap64 (bt110.1 * 7), (-1)] : List Int) : List Int)).bind fun y112 => ((some (([0, 0, 0, 0, 1, 2] : List Int) : List Int)).bind fun y115 => ((spec_l20Rd_pick.f k bt101.1 bt110.2 6).bind fun bt118 => (if 0 ≤ bt118.1 then (if bt118.1 < (y115.length : Int) then (if 0 ≤ (rd y115 bt118.1) then (if (rd y115 bt118.1) < (y112.length : Int) then (some (bt104.1, rd y112 (rd y115 bt118.1))) else (none)) else (none)) else (none)) else (none))))))))) = some (r1, r2) := h
  clear h
  replace H := Option.bind_eq_some_iff.mp H
  obtain ⟨⟨t101, t102⟩, A20, H⟩ := H
  replace H : ((spec_l20Set.f k t101 t102 12).bind fun bt104 => ((spec_l20Rd_pick.f k t101 bt104.2 40).bind fun bt108 => ((spec_l20Rd_pick.f k t101 bt108.2 256).bind fun bt110 => ((some (([bt108.1, wrap64 (bt110.1 * 7), (-1)] : List Int) : List Int)).bind fun y112 => ((some (([0, 0, 0, 0, 1, 2] : List Int) : List Int)).bind fun y115 => ((spec_l20Rd_pick.f k t101 bt110.2 6).bind fun bt118 => (if 0 ≤ bt118.1 then (if bt118.1 < (y115.length : Int) then (if 0 ≤ (rd y115 bt118.1) then (if (rd y115 bt118.1) < (y112.length : Int) then (some (bt104.1, rd y112 (rd y115 bt118.1))) else (none)) else (none)) else (none)) else (none)))))))) = some (r1, r2) := H
  have A2 := Aside0.mk A20
  clear A20
  replace H := Option.bind_eq_some_iff.mp H
  obtain ⟨⟨t104, t107⟩, A30, H⟩ := H
  replace H : ((spec_l20Rd_pick.f k t101 t107 40).bind fun bt108 => ((spec_l20Rd_pick.f k t101 bt108.2 256).bind fun bt110 => ((some (([bt108.1, wrap64 (bt110.1 * 7), (-1)] : List Int) : List Int)).bind fun y112 => ((some (([0, 0, 0, 0, 1, 2] : List Int) : List Int)).bind fun y115 => ((spec_l20Rd_pick.f k t101 bt110.2 6).bind fun bt118 => (if 0 ≤ bt118.1 then (if bt118.1 < (y115.length : Int) then (if 0 ≤ (rd y115 bt118.1) then (if (rd y115 bt118.1) < (y112.length : Int) then (some (t104, rd y112 (rd y115 bt118.1))) else (none)) else (none)) else (none)) else (none))))))) = some (r1, r2) := H
  have A3 := Aside0.mk A30
  clear A30
  replace H := Option.bind_eq_some_iff.mp H
  obtain ⟨⟨t108, t109⟩, A40, H⟩ := H
  replace H : ((spec_l20Rd_pick.f k t101 t109 256).bind fun bt110 => ((some (([t108, wrap64 (bt110.1 * 7), (-1)] : List Int) : List Int)).bind fun y112 => ((some (([0, 0, 0, 0, 1, 2] : List Int) : List Int)).bind fun y115 => ((spec_l20Rd_pick.f k t101 bt110.2 6).bind fun bt118 => (if 0 ≤ bt118.1 then (if bt118.1 < (y115.length : Int) then (if 0 ≤ (rd y115 bt118.1) then (if (rd y115 bt118.1) < (y112.length : Int) then (some (t104, rd y112 (rd y115 bt118.1))) else (none)) else (none)) else (none)) else (none)))))) = some (r1, r2) := H
  have A4 := Aside0.mk A40
  clear A40
  replace H := Option.bind_eq_some_iff.mp H
  obtain ⟨⟨t110, t111⟩, A50, H⟩ := H
  replace H : ((some (([t108, wrap64 (t110 * 7), (-1)] : List Int) : List Int)).bind fun y112 => ((some (([0, 0, 0, 0, 1, 2] : List Int) : List Int)).bind fun y115 => ((spec_l20Rd_pick.f k t101 t111 6).bind fun bt118 => (if 0 ≤ bt118.1 then (if bt118.1 < (y115.length : Int) then (if 0 ≤ (rd y115 bt118.1) then (if (rd y115 bt118.1) < (y112.length : Int) then (some (t104, rd y112 (rd y115 bt118.1))) else (none)) else (none)) else (none)) else (none))))) = some (r1, r2) := H
  have A5 := Aside0.mk A50
  clear A50
  obtain ⟨y112, hy112⟩ : ∃ y_ : List Int, y_ = (([t108, wrap64 (t110 * 7), (-1)] : List Int)) := ⟨_, rfl⟩
  replace H : ((some (([0, 0, 0, 0, 1, 2] : List Int) : List Int)).bind fun y115 => ((spec_l20Rd_pick.f k t101 t111 6).bind fun bt118 => (if 0 ≤ bt118.1 then (if bt118.1 < (y115.length : Int) then (if 0 ≤ (rd y115 bt118.1) then (if (rd y115 bt118.1) < (y112.length : Int) then (some (t104, rd y112 (rd y115 bt118.1))) else (none)) else (none)) else (none)) else (none)))) = some (r1, r2) := by first | (rw [hy112]; with_reducible exact H) | (have H2_ := (Option.bind_some _ _).symm.trans H; rw [hy112]; with_reducible exact H2_) | (have H2_ := (Option.bind_some _ _).symm.trans H; with_reducible exact H2_) | with_reducible exact H | (rw [hy112]; exact H) | exact H
  have Ny112 := Aside0.mk hy112
  clear hy112
  obtain ⟨y115, hy115⟩ : ∃ y_ : List Int, y_ = (([0, 0, 0, 0, 1, 2] : List Int)) := ⟨_, rfl⟩
  replace H : ((spec_l20Rd_pick.f k t101 t111 6).bind fun bt118 => (if 0 ≤ bt118.1 then (if bt118.1 < (y115.length : Int) then (if 0 ≤ (rd y115 bt118.1) then (if (rd y115 bt118.1) < (y112.length : Int) then (some (t104, rd y112 (rd y115 bt118.1))) else (none)) else (none)) else (none)) else (none))) = some (r1, r2) := by first | (rw [hy115]; with_reducible exact H) | (have H2_ := (Option.bind_some _ _).symm.trans H; rw [hy115]; with_reducible exact H2_) | (have H2_ := (Option.bind_some _ _).symm.trans H; with_reducible exact H2_) | with_reducible exact H | (rw [hy115]; exact H) | exact H
  have Ny115 := Aside0.mk hy115
  clear hy115
  replace H := Option.bind_eq_some_iff.mp H
  obtain ⟨⟨t118, t119⟩, A60, H⟩ := H
  replace H : (if 0 ≤ t118 then (if t118 < (y115.length : Int) then (if 0 ≤ (rd y115 t118) then (if (rd y115 t118) < (y112.length : Int) then (some (t104, rd y112 (rd y115 t118))) else (none)) else (none)) else (none)) else (none)) = some (r1, r2) := H
  have A6 := Aside0.mk A60
  clear A60
  by_cases c7 : 0 ≤ t118
  · rw [if_pos c7] at H
    have c7b0 : decide (0 ≤ t118) = true := decide_eq_true c7
    clear c7
    by_cases c8 : t118 < (y115.length : Int)
    · rw [if_pos c8] at H
      have c8b0 : decide (t118 < (y115.length : Int)) = true := decide_eq_true c8
      clear c8
      by_cases c9 : 0 ≤ (rd y115 t118)
      · rw [if_pos c9] at H
        have c9b0 : decide (0 ≤ (rd y115 t118)) = true := decide_eq_true c9
        clear c9
        by_cases c10 : (rd y115 t118) < (y112.length : Int)
        · rw [if_pos c10] at H
          have c10b0 : decide ((rd y115 t118) < (y112.length : Int)) = true := decide_eq_true c10
          clear c10
          simp only [Option.some.injEq, Prod.mk.injEq] at H
          obtain ⟨rfl, rfl⟩ := H
          go_enter Try.func20, Try.ntmps20
          try go_wp2_with (first | ((with_reducible refine gate_callee (f := 31) rfl ?_); refine goesL_ (some 7) rfl rfl Try.func31 (by kernel_rfl) rfl #[.slice A0 l0.length c0] rfl (by (try simp only [List.map_toArray, List.map_cons, List.map_nil]); first | done | rfl | (simp only [List.length_drop, List.length_take]; rfl)) ?_; (with_reducible refine (spec_l20Open.calls _ _ l0 t101 t102 w _ ?side1 ?side2 ?side3 A2.out).mono ?_); (case side1 => repeat (first | (with_reducible first | exact HB.out | apply below_alloc | apply pw_below_drewN | apply below_drew1) | exact HB.out)); (case side2 => exact HR0.out); (case side3 => exact HC0.out); rintro e w11 ⟨g103, rfl, hi, hb, hb2⟩; refine ⟨_, rfl, ?_⟩; have n0_ := Aside0.mk (hb); have n1_ := Aside0.mk (hi); clear HB; have HB := n0_; have HI103 := n1_; clear n0_ n1_; (try clear hb); (try clear hb2); (try clear hk); (try clear hi)) | ((with_reducible refine gate_callee (f := 30) rfl ?_); refine goesL_ (some 9) rfl rfl Try.func30 (by kernel_rfl) rfl #[.pointer (some ⟨g103, 0, none⟩), .int .i64 12] rfl (by (try simp only [List.map_toArray, List.map_cons, List.map_nil]); first | done | rfl | (simp only [List.length_drop, List.length_take]; rfl)) ?_; (with_reducible refine (spec_l20Set.calls k g103 t101 t102 12 t104 t107 w _ ?side1 ?side2 A3.out).mono ?_); (case side1 => repeat (first | (with_reducible first | exact HI103.out | apply IsS51.alloc | apply IsS51.drewN | apply IsS51.drew | apply IsS51.set_1) | exact HI103.out)); (case side2 => repeat (first | (with_reducible first | exact HB.out | apply below_alloc | apply pw_below_drewN | apply below_drew1 | refine below_set ?_ (IsS51.ge HI103.out)) | exact HB.out)); rintro e w12 ⟨v105, rfl, ho0, hi, hb, hk⟩; refine ⟨_, rfl, ?_⟩; have n0_ := Aside0.mk (Kd.R_lower ho0 (below_size (by repeat (first | (with_reducible first | exact HB.out | apply below_alloc | apply pw_below_drewN | apply below_drew1 | refine below_set ?_ (IsS51.ge HI103.out)) | exact HB.out)))); have n1_ := Aside0.mk (hb); have n2_ := Aside0.mk (hi); clear HB; clear HI103; have HO106 := n0_; have HB := n1_; have HI103 := n2_; clear n0_ n1_ n2_; (try clear hb); (try clear hb2); (try clear hk); (try clear hi); (try clear ho0)))
          have pi120 : (0 ≤ (t118 : Int)) = True := eq_true (of_decide_eq_true (by first | (with_reducible assumption) | assumption))
          have qi120 : (t118 < (y115.length : Int)) = True := eq_true (of_decide_eq_true (by first | (with_reducible assumption) | assumption))
          have pi121 : (0 ≤ ((rd y115 t118) : Int)) = True := eq_true (of_decide_eq_true (by first | (with_reducible assumption) | assumption))
          have qi121 : ((rd y115 t118) < (y112.length : Int)) = True := eq_true (of_decide_eq_true (by first | (with_reducible assumption) | assumption))
          have n0_ := Aside0.mk (Kd.R_drew HO106.out)
          have n1_ := Aside0.mk (IsS51.drew HI103.out)
          have n2_ := Aside0.mk (below_drew1 HB.out)
          clear HO106
          clear HI103
          clear HB
          have HO106 := n0_
          have HI103 := n1_
          have HB := n2_
          clear n0_ n1_ n2_
          refine start_ (n := 16) (S := fun w' => True) (ds := []) #[false, false, false, false, false, false, false, false, false, false, false, false, false, false, false, false] (by kernel_rfl) rfl rfl trivial (fun hHeld => ?_); refine with_tabW spec_DrawDemand.tab3 spec_DrawDemand.bits3 (fun HT_ HW_ => ?_)
          generalize w12.drew = w13 at HO106 HI103 HB hHeld ⊢
          refine pure_ (i := 0) (N := some 10) (v := ?_) (a' := ?_) #[true, false, false, false, false, false, false, false, false, false, false, false, false, false, false, false] rfl rfl (any_of HT_.out (by kernel_rfl)) (fun _ _ _ h => h) (Or.inl ⟨by rfl, ?_⟩) ?_ ?_
          rotate_left
          · intro w'
            go_simp
            with_reducible rfl
          rotate_left
          · simp only [Act.put, List.setIfInBounds_toArray, List.set_cons_zero, List.set_cons_succ, i64_w, i32_w]
            rfl
          refine pure_ (i := 1) (N := some 11) (v := ?_) (a' := ?_) #[true, true, false, false, false, false, false, false, false, false, false, false, false, false, false, false] rfl rfl (any_of HT_.out (by kernel_rfl)) (fun _ _ _ h => h) (Or.inl ⟨by rfl, ?_⟩) ?_ ?_
          rotate_left
          · intro w'
            go_simp
            with_reducible rfl
          rotate_left
          · simp only [Act.put, List.setIfInBounds_toArray, List.set_cons_zero, List.set_cons_succ, i64_w, i32_w]
            rfl
          refine pure_ (i := 3) (N := some 13) (v := ?_) (a' := ?_) #[true, true, false, true, false, false, false, false, false, false, false, false, false, false, false, false] rfl rfl (any_of HT_.out (by kernel_rfl)) (fun _ _ _ h => h) (Or.inl ⟨by rfl, ?_⟩) ?_ ?_
          rotate_left
          · intro w'
            go_simp
            with_reducible rfl
          rotate_left
          · simp only [Act.put, List.setIfInBounds_toArray, List.set_cons_zero, List.set_cons_succ, i64_w, i32_w]
            rfl
          refine pure_ (i := 8) (N := some 18) (v := ?_) (a' := ?_) #[true, true, false, true, false, false, false, false, true, false, false, false, false, false, false, false] rfl rfl (any_of HT_.out (by kernel_rfl)) (fun _ _ _ h => h) (Or.inl ⟨by rfl, ?_⟩) ?_ ?_
          rotate_left
          · intro w'
            go_simp
            with_reducible rfl
          rotate_left
          · simp only [Act.put, List.setIfInBounds_toArray, List.set_cons_zero, List.set_cons_succ, i64_w, i32_w]
            rfl
          refine inv_at [2, 4, 5, 6, 7, 9, 10, 11, 12, 13, 14, 15] (fun a0_ b a w' => ∃ (v113 : Value) (adz_v113 : Addr) (v116 : Value) (adz_v116 : Addr) (m10_ : Value) (m12_ : Value), a = putSel a0_ b [(2, 12, .int .i64 t108), (4, 14, .int .i64 t110), (5, 15, .int .i64 (wrap64 (t110 * 7))), (6, 16, v113), (7, 17, v116), (9, 19, .int .i64 t118), (10, 20, m10_), (11, 21, .int .i64 (rd y115 t118)), (12, 22, m12_), (13, 23, .int .i64 (rd y112 (rd y115 t118))), (14, 2, v105), (15, 3, .int .i64 (rd y112 (rd y115 t118)))] ∧ (Kd.R k29 29 w' w.heap.size (fun _ => True) v105 t104) ∧ (b 2 = false → IsS51 w w' g103 t101 t107) ∧ (Below w.heap.size w w') ∧ (b 2 = true → b 4 = false → IsS51 w w' g103 t101 t109) ∧ (b 4 = true → b 9 = false → IsS51 w w' g103 t101 t111) ∧ (b 6 = true → Kd.R (Kd.int .i64) 3 w' w.heap.size (fun _ => True) v113 y112) ∧ (b 6 = true → ∃ c_, (v113 : Value) = .slice (some adz_v113) y112.length c_) ∧ (b 7 = true → Kd.R (Kd.int .i64) 3 w' w.heap.size (fun _ => True) v116 y115) ∧ (b 7 = true → ∃ c_, (v116 : Value) = .slice (some adz_v116) y115.length c_) ∧ (b 9 = true → IsS51 w w' g103 t101 t119) ∧ (b 10 = true → (m10_ : Value) = .pointer (some (adz_v116.add (t118).toNat))) ∧ (b 12 = true → (m12_ : Value) = .pointer (some (adz_v113.add ((rd y115 t118)).toNat)))) HT_.out HW_.out (by kernel_rfl) (by kernel_rfl) ?_ ?_ ?_
          · exact ⟨.bool false, ⟨0, 0, none⟩, .bool false, ⟨0, 0, none⟩, .bool false, .bool false, by simp only [putSel, Bool.false_eq_true, if_false], HO106.out, fun _ => HI103.out, HB.out, fun h_ => absurd h_ (by decide), fun h_ => absurd h_ (by decide), fun h_ => absurd h_ (by decide), fun h_ => absurd h_ (by decide), fun h_ => absurd h_ (by decide), fun h_ => absurd h_ (by decide), fun h_ => absurd h_ (by decide), fun h_ => absurd h_ (by decide), fun h_ => absurd h_ (by decide)⟩
          · skip
            clear HB HI103 HO106
            refine steps_cons ?_ ?_
            · rintro b a w' ⟨v113, adz_v113, v116, adz_v116, m10_, m12_, ha, Q_HO106, Q_HI103, Q_HB, Q_HI103_e2, Q_HI103_e4, Q_HO114, Q_HA_HO114, Q_HO117, Q_HA_HO117, Q_HI103_e9, Q_X10_, Q_X12_⟩ hb_ hon hoff
              refine ⟨_, rfl, fun K hK => ?_⟩
              have e11 : a.tmps[11]? = some (.pointer (some ⟨g103, 0, none⟩)) := by rw [ha]; exact (putSel_off rfl).trans rfl
              replace ha := Aside0.mk ha
              have HO106 := Aside0.mk Q_HO106
              have HI103 := Aside0.mk (Q_HI103 hb_)
              have HB := Aside0.mk Q_HB
              refine goes_ Try.func36 (by kernel_rfl) rfl #[.pointer (some ⟨g103, 0, none⟩), .int .i64 40] (by rfl) rfl rfl (by first | (simp only [List.map_toArray, List.map_cons, List.map_nil, Act.eval, Array.getD_eq_getD_getElem?, Option.getD_some, e11]; done) | (simp only [List.map_toArray, List.map_cons, List.map_nil, Act.eval, Array.getD_eq_getD_getElem?, Option.getD_some, e11]; rfl)) ?_
              with_reducible refine (spec_l20Rd_pick.calls k g103 t101 t107 40 t108 t109 w _ ?side1 ?side2 A4.out).mono ?_
              (case side1 => repeat (first | (with_reducible first | exact HI103.out | apply IsS51.alloc | apply IsS51.drewN | apply IsS51.drew | apply IsS51.set_1) | exact HI103.out))
              (case side2 => repeat (first | (with_reducible first | exact HB.out | apply below_alloc | apply pw_below_drewN | apply below_drew1 | refine below_set ?_ (IsS51.ge HI103.out)) | exact HB.out))
              rintro e w14 ⟨rfl, hi, hb, hk⟩
              refine ⟨_, rfl, ?_⟩
              have n0_ := Aside0.mk (Kd.R_mono (Kd.R_keep (IsS51.apart (show IsS51 w _ g103 t101 t107 from by repeat (first | (with_reducible first | exact HI103.out | apply IsS51.alloc | apply IsS51.drewN | apply IsS51.drew | apply IsS51.set_1) | exact HI103.out)) (by (with_reducible repeat (first | apply Kd.R_alloc | apply Kd.R_drewN | apply Kd.R_drew)); exact HO106.out) (by decide)) hk (fun _ h => h.2)) (fun _ h => h.1))
              have n1_ := Aside0.mk (hb)
              have n2_ := Aside0.mk (hi)
              have z_HO117 := fun (h0_ : b 7 = true) => (show Kd.R (Kd.int .i64) 3 w14 w.heap.size (fun _ => True) v116 y115 from by first | exact (Kd.R_mono (Kd.R_keep (IsS51.apart (show IsS51 w _ g103 t101 t107 from by repeat (first | (with_reducible first | exact HI103.out | apply IsS51.alloc | apply IsS51.drewN | apply IsS51.drew | apply IsS51.set_1) | exact HI103.out)) (by (with_reducible repeat (first | apply Kd.R_alloc | apply Kd.R_drewN | apply Kd.R_drew)); exact (Q_HO117 h0_)) (by decide)) hk (fun _ h => h.2)) (fun _ h => h.1)) | exact Kd.R_mono (Kd.R_mono (Kd.R_keep (IsS51.apart (show IsS51 w _ g103 t101 t107 from by repeat (first | (with_reducible first | exact HI103.out | apply IsS51.alloc | apply IsS51.drewN | apply IsS51.drew | apply IsS51.set_1) | exact HI103.out)) (by (with_reducible repeat (first | apply Kd.R_alloc | apply Kd.R_drewN | apply Kd.R_drew)); exact (Q_HO117 h0_)) (by decide)) hk (fun _ h => h.2)) (fun _ h => h.1)) (fun _ h_ => by first | trivial | exact h_ | exact h_.1))
              clear HO106
              clear HB
              clear HI103
              have HO106 := n0_
              have HB := n1_
              have HI103 := n2_
              clear n0_ n1_ n2_
              (try clear hb)
              (try clear hb2)
              (try clear hk)
              (try clear hi)
              refine hK.out _ _ ⟨v113, adz_v113, v116, adz_v116, m10_, m12_, (by rw [ha.out]; exact putSel_upk 0 hb_ rfl rfl rfl), (by (with_reducible repeat (first | apply Kd.R_alloc | apply Kd.R_drewN | apply Kd.R_drew)); exact HO106.out), fun h0_ => absurd ((up_self b 2).symm.trans h0_) (by decide), (by repeat (first | (with_reducible first | exact HB.out | apply below_alloc | apply pw_below_drewN | apply below_drew1 | refine below_set ?_ (IsS51.ge HI103.out)) | exact HB.out)), fun _ _ => (by repeat (first | (with_reducible first | exact HI103.out | apply IsS51.alloc | apply IsS51.drewN | apply IsS51.drew | apply IsS51.set_1) | exact HI103.out)), fun h0_ _ => absurd ((hoff 4 (by kernel_rfl)).symm.trans h0_) (by decide), fun h0_ => absurd ((hoff 6 (by kernel_rfl)).symm.trans h0_) (by decide), fun h0_ => absurd ((hoff 6 (by kernel_rfl)).symm.trans h0_) (by decide), z_HO117, Q_HA_HO117, fun h0_ => absurd ((hoff 9 (by kernel_rfl)).symm.trans h0_) (by decide), fun h0_ => absurd ((hoff 10 (by kernel_rfl)).symm.trans h0_) (by decide), fun h0_ => absurd ((hoff 12 (by kernel_rfl)).symm.trans h0_) (by decide)⟩
            refine steps_cons ?_ ?_
            · rintro b a w' ⟨v113, adz_v113, v116, adz_v116, m10_, m12_, ha, Q_HO106, Q_HI103, Q_HB, Q_HI103_e2, Q_HI103_e4, Q_HO114, Q_HA_HO114, Q_HO117, Q_HA_HO117, Q_HI103_e9, Q_X10_, Q_X12_⟩ hb_ hon hoff
              refine ⟨_, rfl, fun K hK => ?_⟩
              have e13 : a.tmps[13]? = some (.pointer (some ⟨g103, 0, none⟩)) := by rw [ha]; exact (putSel_off rfl).trans rfl
              replace ha := Aside0.mk ha
              have HO106 := Aside0.mk Q_HO106
              have HB := Aside0.mk Q_HB
              have HI103 := Aside0.mk (Q_HI103_e2 (hon 2 (by kernel_rfl)) hb_)
              refine goes_ Try.func36 (by kernel_rfl) rfl #[.pointer (some ⟨g103, 0, none⟩), .int .i64 256] (by rfl) rfl rfl (by first | (simp only [List.map_toArray, List.map_cons, List.map_nil, Act.eval, Array.getD_eq_getD_getElem?, Option.getD_some, e13]; done) | (simp only [List.map_toArray, List.map_cons, List.map_nil, Act.eval, Array.getD_eq_getD_getElem?, Option.getD_some, e13]; rfl)) ?_
              with_reducible refine (spec_l20Rd_pick.calls k g103 t101 t109 256 t110 t111 w _ ?side1 ?side2 A5.out).mono ?_
              (case side1 => repeat (first | (with_reducible first | exact HI103.out | apply IsS51.alloc | apply IsS51.drewN | apply IsS51.drew | apply IsS51.set_1) | exact HI103.out))
              (case side2 => repeat (first | (with_reducible first | exact HB.out | apply below_alloc | apply pw_below_drewN | apply below_drew1 | refine below_set ?_ (IsS51.ge HI103.out)) | exact HB.out))
              rintro e w16 ⟨rfl, hi, hb, hk⟩
              refine ⟨_, rfl, ?_⟩
              have n0_ := Aside0.mk (Kd.R_mono (Kd.R_keep (IsS51.apart (show IsS51 w _ g103 t101 t109 from by repeat (first | (with_reducible first | exact HI103.out | apply IsS51.alloc | apply IsS51.drewN | apply IsS51.drew | apply IsS51.set_1) | exact HI103.out)) (by (with_reducible repeat (first | apply Kd.R_alloc | apply Kd.R_drewN | apply Kd.R_drew)); exact HO106.out) (by decide)) hk (fun _ h => h.2)) (fun _ h => h.1))
              have n1_ := Aside0.mk (hb)
              have n2_ := Aside0.mk (hi)
              have z_HO117 := fun (h0_ : b 7 = true) => (show Kd.R (Kd.int .i64) 3 w16 w.heap.size (fun _ => True) v116 y115 from by first | exact (Kd.R_mono (Kd.R_keep (IsS51.apart (show IsS51 w _ g103 t101 t109 from by repeat (first | (with_reducible first | exact HI103.out | apply IsS51.alloc | apply IsS51.drewN | apply IsS51.drew | apply IsS51.set_1) | exact HI103.out)) (by (with_reducible repeat (first | apply Kd.R_alloc | apply Kd.R_drewN | apply Kd.R_drew)); exact (Q_HO117 h0_)) (by decide)) hk (fun _ h => h.2)) (fun _ h => h.1)) | exact Kd.R_mono (Kd.R_mono (Kd.R_keep (IsS51.apart (show IsS51 w _ g103 t101 t109 from by repeat (first | (with_reducible first | exact HI103.out | apply IsS51.alloc | apply IsS51.drewN | apply IsS51.drew | apply IsS51.set_1) | exact HI103.out)) (by (with_reducible repeat (first | apply Kd.R_alloc | apply Kd.R_drewN | apply Kd.R_drew)); exact (Q_HO117 h0_)) (by decide)) hk (fun _ h => h.2)) (fun _ h => h.1)) (fun _ h_ => by first | trivial | exact h_ | exact h_.1))
              clear HO106
              clear HB
              clear HI103
              have HO106 := n0_
              have HB := n1_
              have HI103 := n2_
              clear n0_ n1_ n2_
              (try clear hb)
              (try clear hb2)
              (try clear hk)
              (try clear hi)
              refine hK.out _ _ ⟨v113, adz_v113, v116, adz_v116, m10_, m12_, (by rw [ha.out]; exact putSel_upk 1 hb_ rfl rfl rfl), (by (with_reducible repeat (first | apply Kd.R_alloc | apply Kd.R_drewN | apply Kd.R_drew)); exact HO106.out), fun h0_ => absurd ((hon 2 (by kernel_rfl)).symm.trans h0_) (by decide), (by repeat (first | (with_reducible first | exact HB.out | apply below_alloc | apply pw_below_drewN | apply below_drew1 | refine below_set ?_ (IsS51.ge HI103.out)) | exact HB.out)), fun _ h1_ => absurd ((up_self b 4).symm.trans h1_) (by decide), fun _ _ => (by repeat (first | (with_reducible first | exact HI103.out | apply IsS51.alloc | apply IsS51.drewN | apply IsS51.drew | apply IsS51.set_1) | exact HI103.out)), fun h0_ => absurd ((hoff 6 (by kernel_rfl)).symm.trans h0_) (by decide), fun h0_ => absurd ((hoff 6 (by kernel_rfl)).symm.trans h0_) (by decide), z_HO117, Q_HA_HO117, fun h0_ => absurd ((hoff 9 (by kernel_rfl)).symm.trans h0_) (by decide), fun h0_ => absurd ((hoff 10 (by kernel_rfl)).symm.trans h0_) (by decide), fun h0_ => absurd ((hoff 12 (by kernel_rfl)).symm.trans h0_) (by decide)⟩
            refine steps_cons ?_ ?_
            · rintro b a w' ⟨v113, adz_v113, v116, adz_v116, m10_, m12_, ha, Q_HO106, Q_HI103, Q_HB, Q_HI103_e2, Q_HI103_e4, Q_HO114, Q_HA_HO114, Q_HO117, Q_HA_HO117, Q_HI103_e9, Q_X10_, Q_X12_⟩ hb_ hon hoff
              refine ⟨_, rfl, fun K hK => ?_⟩
              have e14 : a.tmps[14]? = some (.int .i64 t110) := by rw [ha]; exact putSel_on (e := (4, 14, .int .i64 t110)) 1 rfl rfl (hon 4 (by kernel_rfl)) rfl
              replace ha := Aside0.mk ha
              have HO106 := Aside0.mk Q_HO106
              have HB := Aside0.mk Q_HB
              refine value_ (w1 := w') (v := .int .i64 (wrap64 (t110 * 7))) (by rfl) rfl ?_ ?_
              · go_simp
                (try simp only [i64_w])
                try rfl
              refine hK.out _ _ ⟨v113, adz_v113, v116, adz_v116, m10_, m12_, (by rw [ha.out]; exact putSel_upk 2 hb_ rfl rfl rfl), Q_HO106, fun h0_ => absurd ((hon 2 (by kernel_rfl)).symm.trans h0_) (by decide), Q_HB, fun _ h1_ => absurd ((hon 4 (by kernel_rfl)).symm.trans h1_) (by decide), Q_HI103_e4, fun h0_ => absurd ((hoff 6 (by kernel_rfl)).symm.trans h0_) (by decide), fun h0_ => absurd ((hoff 6 (by kernel_rfl)).symm.trans h0_) (by decide), Q_HO117, Q_HA_HO117, Q_HI103_e9, Q_X10_, fun h0_ => absurd ((hoff 12 (by kernel_rfl)).symm.trans h0_) (by decide)⟩
            refine steps_cons ?_ ?_
            · rintro b a w' ⟨v113, adz_v113, v116, adz_v116, m10_, m12_, ha, Q_HO106, Q_HI103, Q_HB, Q_HI103_e2, Q_HI103_e4, Q_HO114, Q_HA_HO114, Q_HO117, Q_HA_HO117, Q_HI103_e9, Q_X10_, Q_X12_⟩ hb_ hon hoff
              refine ⟨_, rfl, fun K hK => ?_⟩
              have e12 : a.tmps[12]? = some (.int .i64 t108) := by rw [ha]; exact putSel_on (e := (2, 12, .int .i64 t108)) 0 rfl rfl (hon 2 (by kernel_rfl)) rfl
              have e15 : a.tmps[15]? = some (.int .i64 (wrap64 (t110 * 7))) := by rw [ha]; exact putSel_on (e := (5, 15, .int .i64 (wrap64 (t110 * 7)))) 2 rfl rfl (hon 5 (by kernel_rfl)) rfl
              replace ha := Aside0.mk ha
              have HO106 := Aside0.mk Q_HO106
              have HB := Aside0.mk Q_HB
              refine Kd.R_lit_step (Kd.int .i64) _ 3 ?hg (N := 16) ?hd (xs := ([t108, wrap64 (t110 * 7), (-1)] : List Int)) (inner := [.int .i64 t108, .int .i64 (wrap64 (t110 * 7)), .int .i64 (-1)]) (ok := fun _ => True) (okp := fun _ => True) ?hr ?hp (fun _ hk => hk) trivial (Below.refl _ _) (Nat.le_refl _) (by simp) ?_; (case hd => rfl); (case hg => rfl); (case hr => first | (go_simp; done) | (go_simp; rfl)); (case hp => exact (Reps.one (show Kd.M (Kd.int .i64) _ _ _ t108 [.int .i64 t108] from rfl) (Reps.one (show Kd.M (Kd.int .i64) _ _ _ (wrap64 (t110 * 7)) [.int .i64 (wrap64 (t110 * 7))] from rfl) (Reps.one (show Kd.M (Kd.int .i64) _ _ _ (-1) [.int .i64 (-1)] from rfl) (Reps.none _ _)))))
              intro v113 w17 ho18 hb hg_ hnew_
              clear hg_ hnew_
              (first | rw [← Ny112.out] at ho18 | (simp only [Int.reduceToNat] at ho18; rw [← Ny112.out] at ho18))
              have n0_ := Aside0.mk (Kd.R_below (by (with_reducible repeat (first | apply Kd.R_alloc | apply Kd.R_drewN | apply Kd.R_drew)); exact HO106.out) hb)
              have n1_ := Aside0.mk (Kd.R_lower ho18 (below_size (by repeat (first | (with_reducible first | exact HB.out | apply below_alloc | apply pw_below_drewN | apply below_drew1) | exact HB.out))))
              have n3_ := Aside0.mk (below_step (by repeat (first | (with_reducible first | exact HB.out | apply below_alloc | apply pw_below_drewN | apply below_drew1) | exact HB.out)) hb)
              have z_HI103_e4 := fun (h0_ : b 4 = true) (h1_ : b 9 = false) => (show IsS51 w w17 g103 t101 t111 from by first | exact (IsS51.below (by repeat (first | (with_reducible first | exact (Q_HI103_e4 h0_ h1_) | apply IsS51.alloc | apply IsS51.drewN | apply IsS51.drew | apply IsS51.set_1) | exact (Q_HI103_e4 h0_ h1_))) hb))
              have z_HO117 := fun (h0_ : b 7 = true) => (show Kd.R (Kd.int .i64) 3 w17 w.heap.size (fun _ => True) v116 y115 from by first | exact (Kd.R_elder' (by (with_reducible repeat (first | apply Kd.R_alloc | apply Kd.R_drewN | apply Kd.R_drew)); exact (Q_HO117 h0_)) (Kd.R_base ho18) hb) | exact Kd.R_mono (Kd.R_elder' (by (with_reducible repeat (first | apply Kd.R_alloc | apply Kd.R_drewN | apply Kd.R_drew)); exact (Q_HO117 h0_)) (Kd.R_base ho18) hb) (fun _ h_ => by first | trivial | exact h_ | exact h_.1))
              have z_HI103_e9 := fun (h0_ : b 9 = true) => (show IsS51 w w17 g103 t101 t119 from by first | exact (IsS51.below (by repeat (first | (with_reducible first | exact (Q_HI103_e9 h0_) | apply IsS51.alloc | apply IsS51.drewN | apply IsS51.drew | apply IsS51.set_1) | exact (Q_HI103_e9 h0_))) hb))
              clear HO106
              clear HB
              have HO106 := n0_
              have HO114 := n1_
              have HB := n3_
              clear n0_ n1_ n3_
              clear hb ho18
              obtain ⟨Ao19, co19, eo19⟩ := Kd.R_slice HO114.out
              subst eo19
              obtain ⟨ado19, fo19, _⟩ := Kd.at_int (Kd.R_reads' HO114.out).2.2 0 (by decide) (by rw [Ny112.out]; simp)
              cases fo19
              refine hK.out _ _ ⟨.slice (some ado19) y112.length co19, ado19, v116, adz_v116, m10_, m12_, (by rw [ha.out]; exact putSel_upk 3 hb_ rfl rfl rfl), (by (with_reducible repeat (first | apply Kd.R_alloc | apply Kd.R_drewN | apply Kd.R_drew)); exact HO106.out), fun h0_ => absurd ((hon 2 (by kernel_rfl)).symm.trans h0_) (by decide), (by repeat (first | (with_reducible first | exact HB.out | apply below_alloc | apply pw_below_drewN | apply below_drew1) | exact HB.out)), fun _ h1_ => absurd ((hon 4 (by kernel_rfl)).symm.trans h1_) (by decide), z_HI103_e4, fun _ => (by (with_reducible repeat (first | apply Kd.R_alloc | apply Kd.R_drewN | apply Kd.R_drew)); exact HO114.out), fun _ => ⟨_, rfl⟩, z_HO117, Q_HA_HO117, z_HI103_e9, Q_X10_, fun h0_ => absurd ((hoff 12 (by kernel_rfl)).symm.trans h0_) (by decide)⟩
            refine steps_cons ?_ ?_
            · rintro b a w' ⟨v113, adz_v113, v116, adz_v116, m10_, m12_, ha, Q_HO106, Q_HI103, Q_HB, Q_HI103_e2, Q_HI103_e4, Q_HO114, Q_HA_HO114, Q_HO117, Q_HA_HO117, Q_HI103_e9, Q_X10_, Q_X12_⟩ hb_ hon hoff
              refine ⟨_, rfl, fun K hK => ?_⟩
              replace ha := Aside0.mk ha
              have HO106 := Aside0.mk Q_HO106
              have HB := Aside0.mk Q_HB
              refine Kd.R_lit_step (Kd.int .i64) _ 3 ?hg (N := 17) ?hd (xs := ([0, 0, 0, 0, 1, 2] : List Int)) (inner := [.int .i64 0, .int .i64 0, .int .i64 0, .int .i64 0, .int .i64 1, .int .i64 2]) (ok := fun _ => True) (okp := fun _ => True) ?hr ?hp (fun _ hk => hk) trivial (Below.refl _ _) (Nat.le_refl _) (by simp) ?_; (case hd => rfl); (case hg => rfl); (case hr => first | (go_simp; done) | (go_simp; rfl)); (case hp => exact (Reps.one (show Kd.M (Kd.int .i64) _ _ _ 0 [.int .i64 0] from rfl) (Reps.one (show Kd.M (Kd.int .i64) _ _ _ 0 [.int .i64 0] from rfl) (Reps.one (show Kd.M (Kd.int .i64) _ _ _ 0 [.int .i64 0] from rfl) (Reps.one (show Kd.M (Kd.int .i64) _ _ _ 0 [.int .i64 0] from rfl) (Reps.one (show Kd.M (Kd.int .i64) _ _ _ 1 [.int .i64 1] from rfl) (Reps.one (show Kd.M (Kd.int .i64) _ _ _ 2 [.int .i64 2] from rfl) (Reps.none _ _))))))))
              intro v116 w14 ho15 hb hg_ hnew_
              clear hg_ hnew_
              (first | rw [← Ny115.out] at ho15 | (simp only [Int.reduceToNat] at ho15; rw [← Ny115.out] at ho15))
              have n0_ := Aside0.mk (Kd.R_below (by (with_reducible repeat (first | apply Kd.R_alloc | apply Kd.R_drewN | apply Kd.R_drew)); exact HO106.out) hb)
              have n1_ := Aside0.mk (Kd.R_lower ho15 (below_size (by repeat (first | (with_reducible first | exact HB.out | apply below_alloc | apply pw_below_drewN | apply below_drew1) | exact HB.out))))
              have n3_ := Aside0.mk (below_step (by repeat (first | (with_reducible first | exact HB.out | apply below_alloc | apply pw_below_drewN | apply below_drew1) | exact HB.out)) hb)
              have z_HI103 := fun (h0_ : b 2 = false) => (show IsS51 w w14 g103 t101 t107 from by first | exact (IsS51.below (by repeat (first | (with_reducible first | exact (Q_HI103 h0_) | apply IsS51.alloc | apply IsS51.drewN | apply IsS51.drew | apply IsS51.set_1) | exact (Q_HI103 h0_))) hb))
              have z_HI103_e2 := fun (h0_ : b 2 = true) (h1_ : b 4 = false) => (show IsS51 w w14 g103 t101 t109 from by first | exact (IsS51.below (by repeat (first | (with_reducible first | exact (Q_HI103_e2 h0_ h1_) | apply IsS51.alloc | apply IsS51.drewN | apply IsS51.drew | apply IsS51.set_1) | exact (Q_HI103_e2 h0_ h1_))) hb))
              have z_HI103_e4 := fun (h0_ : b 4 = true) (h1_ : b 9 = false) => (show IsS51 w w14 g103 t101 t111 from by first | exact (IsS51.below (by repeat (first | (with_reducible first | exact (Q_HI103_e4 h0_ h1_) | apply IsS51.alloc | apply IsS51.drewN | apply IsS51.drew | apply IsS51.set_1) | exact (Q_HI103_e4 h0_ h1_))) hb))
              have z_HO114 := fun (h0_ : b 6 = true) => (show Kd.R (Kd.int .i64) 3 w14 w.heap.size (fun _ => True) v113 y112 from by first | exact (Kd.R_elder' (by (with_reducible repeat (first | apply Kd.R_alloc | apply Kd.R_drewN | apply Kd.R_drew)); exact (Q_HO114 h0_)) (Kd.R_base ho15) hb) | exact Kd.R_mono (Kd.R_elder' (by (with_reducible repeat (first | apply Kd.R_alloc | apply Kd.R_drewN | apply Kd.R_drew)); exact (Q_HO114 h0_)) (Kd.R_base ho15) hb) (fun _ h_ => by first | trivial | exact h_ | exact h_.1))
              have z_HI103_e9 := fun (h0_ : b 9 = true) => (show IsS51 w w14 g103 t101 t119 from by first | exact (IsS51.below (by repeat (first | (with_reducible first | exact (Q_HI103_e9 h0_) | apply IsS51.alloc | apply IsS51.drewN | apply IsS51.drew | apply IsS51.set_1) | exact (Q_HI103_e9 h0_))) hb))
              clear HO106
              clear HB
              have HO106 := n0_
              have HO117 := n1_
              have HB := n3_
              clear n0_ n1_ n3_
              clear hb ho15
              obtain ⟨Ao16, co16, eo16⟩ := Kd.R_slice HO117.out
              subst eo16
              obtain ⟨ado16, fo16, _⟩ := Kd.at_int (Kd.R_reads' HO117.out).2.2 0 (by decide) (by rw [Ny115.out]; simp)
              cases fo16
              refine hK.out _ _ ⟨v113, adz_v113, .slice (some ado16) y115.length co16, ado16, m10_, m12_, (by rw [ha.out]; exact putSel_upk 4 hb_ rfl rfl rfl), (by (with_reducible repeat (first | apply Kd.R_alloc | apply Kd.R_drewN | apply Kd.R_drew)); exact HO106.out), z_HI103, (by repeat (first | (with_reducible first | exact HB.out | apply below_alloc | apply pw_below_drewN | apply below_drew1) | exact HB.out)), z_HI103_e2, z_HI103_e4, z_HO114, Q_HA_HO114, fun _ => (by (with_reducible repeat (first | apply Kd.R_alloc | apply Kd.R_drewN | apply Kd.R_drew)); exact HO117.out), fun _ => ⟨_, rfl⟩, z_HI103_e9, fun h0_ => absurd ((hoff 10 (by kernel_rfl)).symm.trans h0_) (by decide), fun h0_ => absurd ((hoff 12 (by kernel_rfl)).symm.trans h0_) (by decide)⟩
            refine steps_cons ?_ ?_
            · rintro b a w' ⟨v113, adz_v113, v116, adz_v116, m10_, m12_, ha, Q_HO106, Q_HI103, Q_HB, Q_HI103_e2, Q_HI103_e4, Q_HO114, Q_HA_HO114, Q_HO117, Q_HA_HO117, Q_HI103_e9, Q_X10_, Q_X12_⟩ hb_ hon hoff
              refine ⟨_, rfl, fun K hK => ?_⟩
              have e18 : a.tmps[18]? = some (.pointer (some ⟨g103, 0, none⟩)) := by rw [ha]; exact (putSel_off rfl).trans rfl
              replace ha := Aside0.mk ha
              have HO106 := Aside0.mk Q_HO106
              have HB := Aside0.mk Q_HB
              have HI103 := Aside0.mk (Q_HI103_e4 (hon 4 (by kernel_rfl)) hb_)
              refine goes_ Try.func36 (by kernel_rfl) rfl #[.pointer (some ⟨g103, 0, none⟩), .int .i64 6] (by rfl) rfl rfl (by first | (simp only [List.map_toArray, List.map_cons, List.map_nil, Act.eval, Array.getD_eq_getD_getElem?, Option.getD_some, e18]; done) | (simp only [List.map_toArray, List.map_cons, List.map_nil, Act.eval, Array.getD_eq_getD_getElem?, Option.getD_some, e18]; rfl)) ?_
              with_reducible refine (spec_l20Rd_pick.calls k g103 t101 t111 6 t118 t119 w _ ?side1 ?side2 A6.out).mono ?_
              (case side1 => repeat (first | (with_reducible first | exact HI103.out | apply IsS51.alloc | apply IsS51.drewN | apply IsS51.drew | apply IsS51.set_1) | exact HI103.out))
              (case side2 => repeat (first | (with_reducible first | exact HB.out | apply below_alloc | apply pw_below_drewN | apply below_drew1 | refine below_set ?_ (IsS51.ge HI103.out)) | exact HB.out))
              rintro e w17 ⟨rfl, hi, hb, hk⟩
              refine ⟨_, rfl, ?_⟩
              have n0_ := Aside0.mk (Kd.R_mono (Kd.R_keep (IsS51.apart (show IsS51 w _ g103 t101 t111 from by repeat (first | (with_reducible first | exact HI103.out | apply IsS51.alloc | apply IsS51.drewN | apply IsS51.drew | apply IsS51.set_1) | exact HI103.out)) (by (with_reducible repeat (first | apply Kd.R_alloc | apply Kd.R_drewN | apply Kd.R_drew)); exact HO106.out) (by decide)) hk (fun _ h => h.2)) (fun _ h => h.1))
              have n1_ := Aside0.mk (hb)
              have n2_ := Aside0.mk (hi)
              have z_HO114 := fun (h0_ : b 6 = true) => (show Kd.R (Kd.int .i64) 3 w17 w.heap.size (fun _ => True) v113 y112 from by first | exact (Kd.R_mono (Kd.R_keep (IsS51.apart (show IsS51 w _ g103 t101 t111 from by repeat (first | (with_reducible first | exact HI103.out | apply IsS51.alloc | apply IsS51.drewN | apply IsS51.drew | apply IsS51.set_1) | exact HI103.out)) (by (with_reducible repeat (first | apply Kd.R_alloc | apply Kd.R_drewN | apply Kd.R_drew)); exact (Q_HO114 h0_)) (by decide)) hk (fun _ h => h.2)) (fun _ h => h.1)) | exact Kd.R_mono (Kd.R_mono (Kd.R_keep (IsS51.apart (show IsS51 w _ g103 t101 t111 from by repeat (first | (with_reducible first | exact HI103.out | apply IsS51.alloc | apply IsS51.drewN | apply IsS51.drew | apply IsS51.set_1) | exact HI103.out)) (by (with_reducible repeat (first | apply Kd.R_alloc | apply Kd.R_drewN | apply Kd.R_drew)); exact (Q_HO114 h0_)) (by decide)) hk (fun _ h => h.2)) (fun _ h => h.1)) (fun _ h_ => by first | trivial | exact h_ | exact h_.1))
              have z_HO117 := fun (h0_ : b 7 = true) => (show Kd.R (Kd.int .i64) 3 w17 w.heap.size (fun _ => True) v116 y115 from by first | exact (Kd.R_mono (Kd.R_keep (IsS51.apart (show IsS51 w _ g103 t101 t111 from by repeat (first | (with_reducible first | exact HI103.out | apply IsS51.alloc | apply IsS51.drewN | apply IsS51.drew | apply IsS51.set_1) | exact HI103.out)) (by (with_reducible repeat (first | apply Kd.R_alloc | apply Kd.R_drewN | apply Kd.R_drew)); exact (Q_HO117 h0_)) (by decide)) hk (fun _ h => h.2)) (fun _ h => h.1)) | exact Kd.R_mono (Kd.R_mono (Kd.R_keep (IsS51.apart (show IsS51 w _ g103 t101 t111 from by repeat (first | (with_reducible first | exact HI103.out | apply IsS51.alloc | apply IsS51.drewN | apply IsS51.drew | apply IsS51.set_1) | exact HI103.out)) (by (with_reducible repeat (first | apply Kd.R_alloc | apply Kd.R_drewN | apply Kd.R_drew)); exact (Q_HO117 h0_)) (by decide)) hk (fun _ h => h.2)) (fun _ h => h.1)) (fun _ h_ => by first | trivial | exact h_ | exact h_.1))
              clear HO106
              clear HB
              clear HI103
              have HO106 := n0_
              have HB := n1_
              have HI103 := n2_
              clear n0_ n1_ n2_
              (try clear hb)
              (try clear hb2)
              (try clear hk)
              (try clear hi)
              refine hK.out _ _ ⟨v113, adz_v113, v116, adz_v116, m10_, m12_, (by rw [ha.out]; exact putSel_upk 5 hb_ rfl rfl rfl), (by (with_reducible repeat (first | apply Kd.R_alloc | apply Kd.R_drewN | apply Kd.R_drew)); exact HO106.out), fun h0_ => absurd ((hon 2 (by kernel_rfl)).symm.trans h0_) (by decide), (by repeat (first | (with_reducible first | exact HB.out | apply below_alloc | apply pw_below_drewN | apply below_drew1 | refine below_set ?_ (IsS51.ge HI103.out)) | exact HB.out)), fun _ h1_ => absurd ((hon 4 (by kernel_rfl)).symm.trans h1_) (by decide), fun _ h1_ => absurd ((up_self b 9).symm.trans h1_) (by decide), z_HO114, Q_HA_HO114, z_HO117, Q_HA_HO117, fun _ => (by repeat (first | (with_reducible first | exact HI103.out | apply IsS51.alloc | apply IsS51.drewN | apply IsS51.drew | apply IsS51.set_1) | exact HI103.out)), fun h0_ => absurd ((hoff 10 (by kernel_rfl)).symm.trans h0_) (by decide), fun h0_ => absurd ((hoff 12 (by kernel_rfl)).symm.trans h0_) (by decide)⟩
            refine steps_cons ?_ ?_
            · rintro b a w' ⟨v113, adz_v113, v116, adz_v116, m10_, m12_, ha, Q_HO106, Q_HI103, Q_HB, Q_HI103_e2, Q_HI103_e4, Q_HO114, Q_HA_HO114, Q_HO117, Q_HA_HO117, Q_HI103_e9, Q_X10_, Q_X12_⟩ hb_ hon hoff
              refine ⟨_, rfl, fun K hK => ?_⟩
              have e17 : a.tmps[17]? = some (v116) := by rw [ha]; exact putSel_on (e := (7, 17, v116)) 4 rfl rfl (hon 7 (by kernel_rfl)) rfl
              have e19 : a.tmps[19]? = some (.int .i64 t118) := by rw [ha]; exact putSel_on (e := (9, 19, .int .i64 t118)) 5 rfl rfl (hon 9 (by kernel_rfl)) rfl
              replace ha := Aside0.mk ha
              have HO106 := Aside0.mk Q_HO106
              have HB := Aside0.mk Q_HB
              have HO117 := Aside0.mk (Q_HO117 (hon 7 (by kernel_rfl)))
              have HA_HO117 := Aside0.mk (Q_HA_HO117 (hon 7 (by kernel_rfl)))
              have HI103 := Aside0.mk (Q_HI103_e9 (hon 9 (by kernel_rfl)))
              obtain ⟨c_, hv_⟩ := HA_HO117.out
              rw [hv_] at e17
              refine value_ (w1 := w') (v := .pointer (some (adz_v116.add (t118).toNat))) (by rfl) rfl ?_ ?_
              · go_simp
                (try simp only [i64_w])
                try rfl
              refine hK.out _ _ ⟨v113, adz_v113, v116, adz_v116, (.pointer (some (adz_v116.add (t118).toNat))), m12_, (by rw [ha.out]; exact putSel_upk 6 hb_ rfl rfl rfl), Q_HO106, fun h0_ => absurd ((hon 2 (by kernel_rfl)).symm.trans h0_) (by decide), Q_HB, fun _ h1_ => absurd ((hon 4 (by kernel_rfl)).symm.trans h1_) (by decide), fun _ h1_ => absurd ((hon 9 (by kernel_rfl)).symm.trans h1_) (by decide), Q_HO114, Q_HA_HO114, Q_HO117, Q_HA_HO117, Q_HI103_e9, fun _ => rfl, fun h0_ => absurd ((hoff 12 (by kernel_rfl)).symm.trans h0_) (by decide)⟩
            refine steps_cons ?_ ?_
            · rintro b a w' ⟨v113, adz_v113, v116, adz_v116, m10_, m12_, ha, Q_HO106, Q_HI103, Q_HB, Q_HI103_e2, Q_HI103_e4, Q_HO114, Q_HA_HO114, Q_HO117, Q_HA_HO117, Q_HI103_e9, Q_X10_, Q_X12_⟩ hb_ hon hoff
              refine ⟨_, rfl, fun K hK => ?_⟩
              have e20 : a.tmps[20]? = some (m10_) := by rw [ha]; exact putSel_on (e := (10, 20, m10_)) 6 rfl rfl (hon 10 (by kernel_rfl)) rfl
              rw [Q_X10_ (hon 10 (by kernel_rfl))] at e20
              replace ha := Aside0.mk ha
              have HO106 := Aside0.mk Q_HO106
              have HB := Aside0.mk Q_HB
              have HO117 := Aside0.mk (Q_HO117 (hon 7 (by kernel_rfl)))
              have HA_HO117 := Aside0.mk (Q_HA_HO117 (hon 7 (by kernel_rfl)))
              have HI103 := Aside0.mk (Q_HI103_e9 (hon 9 (by kernel_rfl)))
              obtain ⟨c_, hv_⟩ := HA_HO117.out
              have hF_ := HO117.out
              rw [hv_] at hF_
              obtain ⟨ad_, ea_, hx_⟩ := Kd.at_int (Kd.R_reads' hF_).2.2 t118 (of_eq_true pi120) (of_eq_true qi120)
              cases ea_
              refine value_ (w1 := w') (v := .int .i64 (rd y115 t118)) (by rfl) rfl ?_ ?_
              · go_simp
                (try simp only [i64_w])
                try rfl
              refine hK.out _ _ ⟨v113, adz_v113, v116, adz_v116, m10_, m12_, (by rw [ha.out]; exact putSel_upk 7 hb_ rfl rfl rfl), Q_HO106, fun h0_ => absurd ((hon 2 (by kernel_rfl)).symm.trans h0_) (by decide), Q_HB, fun _ h1_ => absurd ((hon 4 (by kernel_rfl)).symm.trans h1_) (by decide), fun _ h1_ => absurd ((hon 9 (by kernel_rfl)).symm.trans h1_) (by decide), Q_HO114, Q_HA_HO114, Q_HO117, Q_HA_HO117, Q_HI103_e9, Q_X10_, fun h0_ => absurd ((hoff 12 (by kernel_rfl)).symm.trans h0_) (by decide)⟩
            refine steps_cons ?_ ?_
            · rintro b a w' ⟨v113, adz_v113, v116, adz_v116, m10_, m12_, ha, Q_HO106, Q_HI103, Q_HB, Q_HI103_e2, Q_HI103_e4, Q_HO114, Q_HA_HO114, Q_HO117, Q_HA_HO117, Q_HI103_e9, Q_X10_, Q_X12_⟩ hb_ hon hoff
              refine ⟨_, rfl, fun K hK => ?_⟩
              have e16 : a.tmps[16]? = some (v113) := by rw [ha]; exact putSel_on (e := (6, 16, v113)) 3 rfl rfl (hon 6 (by kernel_rfl)) rfl
              have e21 : a.tmps[21]? = some (.int .i64 (rd y115 t118)) := by rw [ha]; exact putSel_on (e := (11, 21, .int .i64 (rd y115 t118))) 7 rfl rfl (hon 11 (by kernel_rfl)) rfl
              replace ha := Aside0.mk ha
              have HO106 := Aside0.mk Q_HO106
              have HB := Aside0.mk Q_HB
              have HO114 := Aside0.mk (Q_HO114 (hon 6 (by kernel_rfl)))
              have HA_HO114 := Aside0.mk (Q_HA_HO114 (hon 6 (by kernel_rfl)))
              have HO117 := Aside0.mk (Q_HO117 (hon 7 (by kernel_rfl)))
              have HA_HO117 := Aside0.mk (Q_HA_HO117 (hon 7 (by kernel_rfl)))
              have HI103 := Aside0.mk (Q_HI103_e9 (hon 9 (by kernel_rfl)))
              obtain ⟨c_, hv_⟩ := HA_HO114.out
              rw [hv_] at e16
              refine value_ (w1 := w') (v := .pointer (some (adz_v113.add ((rd y115 t118)).toNat))) (by rfl) rfl ?_ ?_
              · go_simp
                (try simp only [i64_w])
                try rfl
              refine hK.out _ _ ⟨v113, adz_v113, v116, adz_v116, m10_, (.pointer (some (adz_v113.add ((rd y115 t118)).toNat))), (by rw [ha.out]; exact putSel_upk 8 hb_ rfl rfl rfl), Q_HO106, fun h0_ => absurd ((hon 2 (by kernel_rfl)).symm.trans h0_) (by decide), Q_HB, fun _ h1_ => absurd ((hon 4 (by kernel_rfl)).symm.trans h1_) (by decide), fun _ h1_ => absurd ((hon 9 (by kernel_rfl)).symm.trans h1_) (by decide), Q_HO114, Q_HA_HO114, Q_HO117, Q_HA_HO117, Q_HI103_e9, Q_X10_, fun _ => rfl⟩
            refine steps_cons ?_ ?_
            · rintro b a w' ⟨v113, adz_v113, v116, adz_v116, m10_, m12_, ha, Q_HO106, Q_HI103, Q_HB, Q_HI103_e2, Q_HI103_e4, Q_HO114, Q_HA_HO114, Q_HO117, Q_HA_HO117, Q_HI103_e9, Q_X10_, Q_X12_⟩ hb_ hon hoff
              refine ⟨_, rfl, fun K hK => ?_⟩
              have e22 : a.tmps[22]? = some (m12_) := by rw [ha]; exact putSel_on (e := (12, 22, m12_)) 8 rfl rfl (hon 12 (by kernel_rfl)) rfl
              rw [Q_X12_ (hon 12 (by kernel_rfl))] at e22
              replace ha := Aside0.mk ha
              have HO106 := Aside0.mk Q_HO106
              have HB := Aside0.mk Q_HB
              have HO114 := Aside0.mk (Q_HO114 (hon 6 (by kernel_rfl)))
              have HA_HO114 := Aside0.mk (Q_HA_HO114 (hon 6 (by kernel_rfl)))
              have HO117 := Aside0.mk (Q_HO117 (hon 7 (by kernel_rfl)))
              have HA_HO117 := Aside0.mk (Q_HA_HO117 (hon 7 (by kernel_rfl)))
              have HI103 := Aside0.mk (Q_HI103_e9 (hon 9 (by kernel_rfl)))
              obtain ⟨c_, hv_⟩ := HA_HO114.out
              have hF_ := HO114.out
              rw [hv_] at hF_
              obtain ⟨ad_, ea_, hx_⟩ := Kd.at_int (Kd.R_reads' hF_).2.2 (rd y115 t118) (of_eq_true pi121) (of_eq_true qi121)
              cases ea_
              refine value_ (w1 := w') (v := .int .i64 (rd y112 (rd y115 t118))) (by rfl) rfl ?_ ?_
              · go_simp
                (try simp only [i64_w])
                try rfl
              refine hK.out _ _ ⟨v113, adz_v113, v116, adz_v116, m10_, m12_, (by rw [ha.out]; exact putSel_upk 9 hb_ rfl rfl rfl), Q_HO106, fun h0_ => absurd ((hon 2 (by kernel_rfl)).symm.trans h0_) (by decide), Q_HB, fun _ h1_ => absurd ((hon 4 (by kernel_rfl)).symm.trans h1_) (by decide), fun _ h1_ => absurd ((hon 9 (by kernel_rfl)).symm.trans h1_) (by decide), Q_HO114, Q_HA_HO114, Q_HO117, Q_HA_HO117, Q_HI103_e9, Q_X10_, Q_X12_⟩
            refine steps_cons ?_ ?_
            · rintro b a w' ⟨v113, adz_v113, v116, adz_v116, m10_, m12_, ha, Q_HO106, Q_HI103, Q_HB, Q_HI103_e2, Q_HI103_e4, Q_HO114, Q_HA_HO114, Q_HO117, Q_HA_HO117, Q_HI103_e9, Q_X10_, Q_X12_⟩ hb_ hon hoff
              refine ⟨_, rfl, fun K hK => ?_⟩
              have e10 : a.tmps[10]? = some (v105) := by rw [ha]; exact (putSel_off rfl).trans rfl
              replace ha := Aside0.mk ha
              have HO106 := Aside0.mk Q_HO106
              have HB := Aside0.mk Q_HB
              have HI103 := Aside0.mk (Q_HI103_e9 (hon 9 (by kernel_rfl)))
              refine value_ (w1 := w') (v := v105) (by rfl) rfl ?_ ?_
              · go_simp
                (try simp only [i64_w])
                try rfl
              refine hK.out _ _ ⟨v113, adz_v113, v116, adz_v116, m10_, m12_, (by rw [ha.out]; exact putSel_upk 10 hb_ rfl rfl rfl), Q_HO106, fun h0_ => absurd ((hon 2 (by kernel_rfl)).symm.trans h0_) (by decide), Q_HB, fun _ h1_ => absurd ((hon 4 (by kernel_rfl)).symm.trans h1_) (by decide), fun _ h1_ => absurd ((hon 9 (by kernel_rfl)).symm.trans h1_) (by decide), Q_HO114, Q_HA_HO114, Q_HO117, Q_HA_HO117, Q_HI103_e9, Q_X10_, Q_X12_⟩
            refine steps_cons ?_ ?_
            · rintro b a w' ⟨v113, adz_v113, v116, adz_v116, m10_, m12_, ha, Q_HO106, Q_HI103, Q_HB, Q_HI103_e2, Q_HI103_e4, Q_HO114, Q_HA_HO114, Q_HO117, Q_HA_HO117, Q_HI103_e9, Q_X10_, Q_X12_⟩ hb_ hon hoff
              refine ⟨_, rfl, fun K hK => ?_⟩
              have e23 : a.tmps[23]? = some (.int .i64 (rd y112 (rd y115 t118))) := by rw [ha]; exact putSel_on (e := (13, 23, .int .i64 (rd y112 (rd y115 t118)))) 9 rfl rfl (hon 13 (by kernel_rfl)) rfl
              replace ha := Aside0.mk ha
              have HO106 := Aside0.mk Q_HO106
              have HB := Aside0.mk Q_HB
              have HO114 := Aside0.mk (Q_HO114 (hon 6 (by kernel_rfl)))
              have HA_HO114 := Aside0.mk (Q_HA_HO114 (hon 6 (by kernel_rfl)))
              have HO117 := Aside0.mk (Q_HO117 (hon 7 (by kernel_rfl)))
              have HA_HO117 := Aside0.mk (Q_HA_HO117 (hon 7 (by kernel_rfl)))
              have HI103 := Aside0.mk (Q_HI103_e9 (hon 9 (by kernel_rfl)))
              refine value_ (w1 := w') (v := .int .i64 (rd y112 (rd y115 t118))) (by rfl) rfl ?_ ?_
              · go_simp
                (try simp only [i64_w])
                try rfl
              refine hK.out _ _ ⟨v113, adz_v113, v116, adz_v116, m10_, m12_, (by rw [ha.out]; exact putSel_upk 11 hb_ rfl rfl rfl), Q_HO106, fun h0_ => absurd ((hon 2 (by kernel_rfl)).symm.trans h0_) (by decide), Q_HB, fun _ h1_ => absurd ((hon 4 (by kernel_rfl)).symm.trans h1_) (by decide), fun _ h1_ => absurd ((hon 9 (by kernel_rfl)).symm.trans h1_) (by decide), Q_HO114, Q_HA_HO114, Q_HO117, Q_HA_HO117, Q_HI103_e9, Q_X10_, Q_X12_⟩
            exact steps_nil
          rintro b a w23 hall ⟨v113, adz_v113, v116, adz_v116, m10_, m12_, ha, Q_HO106, Q_HI103, Q_HB, Q_HI103_e2, Q_HI103_e4, Q_HO114, Q_HA_HO114, Q_HO117, Q_HA_HO117, Q_HI103_e9, Q_X10_, Q_X12_⟩
          clear HB HI103 HO106
          have hb2_ := hall 2 (by kernel_rfl)
          have hb4_ := hall 4 (by kernel_rfl)
          have hb5_ := hall 5 (by kernel_rfl)
          have hb6_ := hall 6 (by kernel_rfl)
          have hb7_ := hall 7 (by kernel_rfl)
          have hb9_ := hall 9 (by kernel_rfl)
          have hb10_ := hall 10 (by kernel_rfl)
          have hb11_ := hall 11 (by kernel_rfl)
          have hb12_ := hall 12 (by kernel_rfl)
          have hb13_ := hall 13 (by kernel_rfl)
          have hb14_ := hall 14 (by kernel_rfl)
          have hb15_ := hall 15 (by kernel_rfl)
          subst ha
          obtain rfl := Q_X10_ hb10_
          obtain rfl := Q_X12_ hb12_
          simp only [putSel, hb2_, hb4_, hb5_, hb6_, hb7_, hb9_, hb10_, hb11_, hb12_, hb13_, hb14_, hb15_, if_true, Act.put, List.setIfInBounds_toArray, List.set_cons_zero, List.set_cons_succ]
          have HO106 := Aside0.mk Q_HO106
          clear Q_HO106
          clear Q_HI103
          have HB := Aside0.mk Q_HB
          clear Q_HB
          clear Q_HI103_e2
          clear Q_HI103_e4
          have HO114 := Aside0.mk (Q_HO114 hb6_)
          clear Q_HO114
          have HA_HO114 := Aside0.mk (Q_HA_HO114 hb6_)
          clear Q_HA_HO114
          have HO117 := Aside0.mk (Q_HO117 hb7_)
          clear Q_HO117
          have HA_HO117 := Aside0.mk (Q_HA_HO117 hb7_)
          clear Q_HA_HO117
          have HI103 := Aside0.mk (Q_HI103_e9 hb9_)
          clear Q_HI103_e9
          clear hall hb2_ hb4_ hb5_ hb6_ hb7_ hb9_ hb10_ hb11_ hb12_ hb13_ hb14_ hb15_
          obtain ⟨co24, eo24⟩ := HA_HO114.out
          clear HA_HO114
          subst eo24
          obtain ⟨co25, eo25⟩ := HA_HO117.out
          clear HA_HO117
          subst eo25
          try go_wp2
          go_ret2
          exact ⟨_, by first | rfl | (simp [errW_none, errW_some] <;> rfl) | (simp [*, errW_none, errW_some] <;> rfl), by (with_reducible repeat (first | apply Kd.R_alloc | apply Kd.R_drewN | apply Kd.R_drew)); exact HO106.out, by repeat (first | (with_reducible first | exact HB.out | apply below_alloc | apply pw_below_drewN | apply below_drew1 | refine below_set ?_ (IsS51.ge HI103.out)) | exact HB.out)⟩
        · rw [if_neg c10] at H
          exact absurd H (by simp)
      · rw [if_neg c9] at H
        exact absurd H (by simp)
    · rw [if_neg c8] at H
      exact absurd H (by simp)
  · rw [if_neg c7] at H
    exact absurd H (by simp)

end Go.Proofs.Ythpnfipkgfbbeaa.Q
