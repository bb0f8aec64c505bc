-- written by mp.py, a program of this session's, out of the kit's print program and the translation
import Derived.Test.YtncombcckeeecaaF0
import Derived.Test.YtncombcckeeecaaFA
import Derived.Test.YtncombcckeeecaaFspecXl20Set
namespace Go.Proofs.Ytncombcckeeecaa.Q
open Go.RowKit Go.Proofs.YtncombcckeeecaaW.PrintWords Go.Proofs.YtncombcckeeecaaW.PrintLast Go.Proofs.YtncombcckeeecaaW.PrintMore
attribute [local go_sem] max2_int min2_int max_two min_two max_three min_three max_four min_four   -- for this text's walks alone
set_option linter.unusedVariables false
set_option linter.unusedSimpArgs false

/-! ### spec_DrawSynchronous: function 32 -/
def spec_DrawSynchronous.f (k : Nat) (l0 : List Int) : Option ((List (S34)) × Int) := (spec_l20Open.f l0).bind fun bt101 => ((spec_l20Set.f k bt101.1 bt101.2 12).bind fun bt104 => ((spec_l20Rd_pick.f k bt101.1 bt104.2 121).bind fun bt108 => ((some (([bt108.1, (-1), 121] : List Int) : List Int)).bind fun y110 => ((some (([0, 0, 0, 0, 1, 2] : List Int) : List Int)).bind fun y113 => ((spec_l20Rd_pick.f k bt101.1 bt108.2 6).bind fun bt116 => (if 0 ≤ bt116.1 then (if bt116.1 < (y113.length : Int) then (if 0 ≤ (rd y113 bt116.1) then (if (rd y113 bt116.1) < (y110.length : Int) then (some (bt104.1, rd y110 (rd y113 bt116.1))) else (none)) else (none)) else (none)) else (none)))))))
theorem spec_DrawSynchronous.mono : ∀ a0 k, LeO (spec_DrawSynchronous.f k a0) (spec_DrawSynchronous.f (k + 1) a0) := by
  intro a0 k
  unfold spec_DrawSynchronous.f
  repeat' first
      | (with_reducible exact spec_l20Rd_pick.mono _ _ _ _)
      | (with_reducible exact spec_l20Set.mono _ _ _ _)
      | (with_reducible exact LeO.refl _)
      | (with_reducible exact LeO.none _)
      | (with_reducible refine LeO.ite ?_ ?_)
      | (with_reducible refine LeO.bind ?_ (fun _ => ?_))
      | exact spec_l20Rd_pick.mono _ _ _ _
      | exact spec_l20Set.mono _ _ _ _
      | exact LeO.none _
      | refine LeO.ite ?_ ?_
      | refine LeO.bind ?_ (fun _ => ?_)
def spec_DrawSynchronous.T2 : Bool × List (List Nat × List Nat) := (true, [([], []), ([0], [0]), ([], []), ([2, 1], [2]), ([3], [3]), ([], []), ([], []), ([6, 3], [6]), ([5, 7], [5, 7]), ([8], [8]), ([4, 9], [4, 9]), ([10], [10]), ([1, 7, 0, 1], [1]), ([11, 12, 0, 1, 2, 3, 4, 5, 6, 7, 8, 9, 10, 11, 12], [11])])
def spec_DrawSynchronous.B2 : List Nat := [0, 1, 0, 7, 15, 0, 0, 79, 239, 495, 1023, 2047, 207, 8191]
theorem spec_DrawSynchronous.tab2 : rtab .any (opsOf Try.f32 2) = spec_DrawSynchronous.T2 := by kernel_rfl
theorem spec_DrawSynchronous.bits2 : waitsOk spec_DrawSynchronous.T2.2 spec_DrawSynchronous.B2 = true := by kernel_rfl
set_option maxHeartbeats 8000000 in
set_option maxRecDepth 100000 in
theorem spec_DrawSynchronous.calls (k : Nat) (A0 : Option Addr) (c0 : Nat) (l0 : List Int) (r1 : List (S34)) (r2 : Int) (w : World) (hr0 : Kd.C (Kd.int .u8) w A0 l0.length l0) (hc0 : l0.length ≤ c0) (h : spec_DrawSynchronous.f k l0 = some (r1, r2)) :
    Calls Try.prog 32 #[.slice A0 l0.length c0] w fun e w' => ∃ v0_ : Value, e = .returned (.tuple #[v0_, .int .i64 r2]) ∧ Kd.R k34 34 w' w.heap.size (fun _ => True) v0_ r1 ∧ Below w.heap.size w w' := by
  have HR0 := Aside0.mk hr0
  have HC0 := Aside0.mk hc0
  clear hr0 hc0
  have HB := Aside0.mk (Below.refl w.heap.size w)
  have H : ((spec_l20Open.f l0).bind fun bt101 => ((spec_l20Set.f k bt101.1 bt101.2 12).bind fun bt104 => ((spec_l20Rd_pick.f k bt101.1 bt104.2 121).bind fun bt108 => ((some (([bt108.1, (-1), 121] : List Int) : List Int)).bind fun y110 => ((some (([0, 0, 0, 0, 1, 2] : List Int) : List Int)).bind fun y113 => ((spec_l20Rd_pick.f k bt101.1 bt108.2 6).bind fun bt116 => (if 0 ≤ bt116.1 then (if bt116.1 < (y113.length : Int) then (if 0 ≤ (rd y113 bt116.1) then (if (rd y113 bt116.1) < (y110.length : Int) then (some (bt104.1, rd y110 (rd y113 bt116.1))) else (none)) else (none)) else (none)) else (none)))))))) = some (r1, r2) := h
  clear h
  replace H := Option.bind_eq_some_iff.mp H
  obtain ⟨⟨t101, t102⟩, A20, H⟩ := H
  replace H : ((spec_l20Set.f k t101 t102 12).bind fun bt104 => ((spec_l20Rd_pick.f k t101 bt104.2 121).bind fun bt108 => ((some (([bt108.1, (-1), 121] : List Int) : List Int)).bind fun y110 => ((some (([0, 0, 0, 0, 1, 2] : List Int) : List Int)).bind fun y113 => ((spec_l20Rd_pick.f k t101 bt108.2 6).bind fun bt116 => (if 0 ≤ bt116.1 then (if bt116.1 < (y113.length : Int) then (if 0 ≤ (rd y113 bt116.1) then (if (rd y113 bt116.1) < (y110.length : Int) then (some (bt104.1, rd y110 (rd y113 bt116.1))) else (none)) else (none)) else (none)) else (none))))))) = some (r1, r2) := H
  have A2 := Aside0.mk A20
  clear A20
  replace H := Option.bind_eq_some_iff.mp H
  obtain ⟨⟨t104, t107⟩, A30, H⟩ := H
  replace H : ((spec_l20Rd_pick.f k t101 t107 121).bind fun bt108 => ((some (([bt108.1, (-1), 121] : List Int) : List Int)).bind fun y110 => ((some (([0, 0, 0, 0, 1, 2] : List Int) : List Int)).bind fun y113 => ((spec_l20Rd_pick.f k t101 bt108.2 6).bind fun bt116 => (if 0 ≤ bt116.1 then (if bt116.1 < (y113.length : Int) then (if 0 ≤ (rd y113 bt116.1) then (if (rd y113 bt116.1) < (y110.length : Int) then (some (t104, rd y110 (rd y113 bt116.1))) else (none)) else (none)) else (none)) else (none)))))) = some (r1, r2) := H
  have A3 := Aside0.mk A30
  clear A30
  replace H := Option.bind_eq_some_iff.mp H
  obtain ⟨⟨t108, t109⟩, A40, H⟩ := H
  replace H : ((some (([t108, (-1), 121] : List Int) : List Int)).bind fun y110 => ((some (([0, 0, 0, 0, 1, 2] : List Int) : List Int)).bind fun y113 => ((spec_l20Rd_pick.f k t101 t109 6).bind fun bt116 => (if 0 ≤ bt116.1 then (if bt116.1 < (y113.length : Int) then (if 0 ≤ (rd y113 bt116.1) then (if (rd y113 bt116.1) < (y110.length : Int) then (some (t104, rd y110 (rd y113 bt116.1))) else (none)) else (none)) else (none)) else (none))))) = some (r1, r2) := H
  have A4 := Aside0.mk A40
  clear A40
  obtain ⟨y110, hy110⟩ : ∃ y_ : List Int, y_ = (([t108, (-1), 121] : List Int)) := ⟨_, rfl⟩
  replace H : ((some (([0, 0, 0, 0, 1, 2] : List Int) : List Int)).bind fun y113 => ((spec_l20Rd_pick.f k t101 t109 6).bind fun bt116 => (if 0 ≤ bt116.1 then (if bt116.1 < (y113.length : Int) then (if 0 ≤ (rd y113 bt116.1) then (if (rd y113 bt116.1) < (y110.length : Int) then (some (t104, rd y110 (rd y113 bt116.1))) else (none)) else (none)) else (none)) else (none)))) = some (r1, r2) := by first | (rw [hy110]; with_reducible exact H) | (have H2_ := (Option.bind_some _ _).symm.trans H; rw [hy110]; with_reducible exact H2_) | (have H2_ := (Option.bind_some _ _).symm.trans H; with_reducible exact H2_) | with_reducible exact H | (rw [hy110]; exact H) | exact H
  have Ny110 := Aside0.mk hy110
  clear hy110
  obtain ⟨y113, hy113⟩ : ∃ y_ : List Int, y_ = (([0, 0, 0, 0, 1, 2] : List Int)) := ⟨_, rfl⟩
  replace H : ((spec_l20Rd_pick.f k t101 t109 6).bind fun bt116 => (if 0 ≤ bt116.1 then (if bt116.1 < (y113.length : Int) then (if 0 ≤ (rd y113 bt116.1) then (if (rd y113 bt116.1) < (y110.length : Int) then (some (t104, rd y110 (rd y113 bt116.1))) else (none)) else (none)) else (none)) else (none))) = some (r1, r2) := by first | (rw [hy113]; with_reducible exact H) | (have H2_ := (Option.bind_some _ _).symm.trans H; rw [hy113]; with_reducible exact H2_) | (have H2_ := (Option.bind_some _ _).symm.trans H; with_reducible exact H2_) | with_reducible exact H | (rw [hy113]; exact H) | exact H
  have Ny113 := Aside0.mk hy113
  clear hy113
  replace H := Option.bind_eq_some_iff.mp H
  obtain ⟨⟨t116, t117⟩, A50, H⟩ := H
  replace H : (if 0 ≤ t116 then (if t116 < (y113.length : Int) then (if 0 ≤ (rd y113 t116) then (if (rd y113 t116) < (y110.length : Int) then (some (t104, rd y110 (rd y113 t116))) else (none)) else (none)) else (none)) else (none)) = some (r1, r2) := H
  have A5 := Aside0.mk A50
  clear A50
  by_cases c6 : 0 ≤ t116
  · rw [if_pos c6] at H
    have c6b0 : decide (0 ≤ t116) = true := decide_eq_true c6
    clear c6
    by_cases c7 : t116 < (y113.length : Int)
    · rw [if_pos c7] at H
      have c7b0 : decide (t116 < (y113.length : Int)) = true := decide_eq_true c7
      clear c7
      by_cases c8 : 0 ≤ (rd y113 t116)
      · rw [if_pos c8] at H
        have c8b0 : decide (0 ≤ (rd y113 t116)) = true := decide_eq_true c8
        clear c8
        by_cases c9 : (rd y113 t116) < (y110.length : Int)
        · rw [if_pos c9] at H
          have c9b0 : decide ((rd y113 t116) < (y110.length : Int)) = true := decide_eq_true c9
          clear c9
          simp only [Option.some.injEq, Prod.mk.injEq] at H
          obtain ⟨rfl, rfl⟩ := H
          go_enter Try.func32, Try.ntmps32
          try go_wp2_with (first | ((with_reducible refine gate_callee (f := 45) rfl ?_); refine goesL_ (some 6) rfl rfl Try.func45 (by kernel_rfl) rfl #[.slice A0 l0.length c0] rfl (by (try simp only [List.map_toArray, List.map_cons, List.map_nil]); first | done | rfl | (simp only [List.length_drop, List.length_take]; rfl)) ?_; (with_reducible refine (spec_l20Open.calls _ _ l0 t101 t102 w _ ?side1 ?side2 ?side3 A2.out).mono ?_); (case side1 => repeat (first | (with_reducible first | exact HB.out | apply below_alloc | apply pw_below_drewN | apply below_drew1) | exact HB.out)); (case side2 => exact HR0.out); (case side3 => exact HC0.out); rintro e w10 ⟨g103, rfl, hi, hb, hb2⟩; refine ⟨_, rfl, ?_⟩; have n0_ := Aside0.mk (hb); have n1_ := Aside0.mk (hi); clear HB; have HB := n0_; have HI103 := n1_; clear n0_ n1_; (try clear hb); (try clear hb2); (try clear hk); (try clear hi)))
          have pi118 : (0 ≤ (t116 : Int)) = True := eq_true (of_decide_eq_true (by first | (with_reducible assumption) | assumption))
          have qi118 : (t116 < (y113.length : Int)) = True := eq_true (of_decide_eq_true (by first | (with_reducible assumption) | assumption))
          have pi119 : (0 ≤ ((rd y113 t116) : Int)) = True := eq_true (of_decide_eq_true (by first | (with_reducible assumption) | assumption))
          have qi119 : ((rd y113 t116) < (y110.length : Int)) = True := eq_true (of_decide_eq_true (by first | (with_reducible assumption) | assumption))
          have n0_ := Aside0.mk (IsS90.drew HI103.out)
          have n1_ := Aside0.mk (below_drew1 HB.out)
          clear HI103
          clear HB
          have HI103 := n0_
          have HB := n1_
          clear n0_ n1_
          refine start_ (n := 14) (S := fun w' => True) (ds := []) #[false, false, false, false, false, false, false, false, false, false, false, false, false, false] (by kernel_rfl) rfl rfl trivial (fun hHeld => ?_); refine with_tabW spec_DrawSynchronous.tab2 spec_DrawSynchronous.bits2 (fun HT_ HW_ => ?_)
          generalize w10.drew = w11 at HI103 HB hHeld ⊢
          refine pure_ (i := 0) (N := some 7) (v := ?_) (a' := ?_) #[true, false, false, false, false, false, false, false, false, false, false, false, false, false] rfl rfl (any_of HT_.out (by kernel_rfl)) (fun _ _ _ h => h) (Or.inl ⟨by rfl, ?_⟩) ?_ ?_
          rotate_left
          · intro w'
            go_simp
            with_reducible rfl
          rotate_left
          · simp only [Act.put, List.setIfInBounds_toArray, List.set_cons_zero, List.set_cons_succ, i64_w, i32_w]
            rfl
          refine pure_ (i := 2) (N := some 9) (v := ?_) (a' := ?_) #[true, false, true, false, false, false, false, false, false, false, false, false, false, false] rfl rfl (any_of HT_.out (by kernel_rfl)) (fun _ _ _ h => h) (Or.inl ⟨by rfl, ?_⟩) ?_ ?_
          rotate_left
          · intro w'
            go_simp
            with_reducible rfl
          rotate_left
          · simp only [Act.put, List.setIfInBounds_toArray, List.set_cons_zero, List.set_cons_succ, i64_w, i32_w]
            rfl
          refine pure_ (i := 6) (N := some 13) (v := ?_) (a' := ?_) #[true, false, true, false, false, false, true, false, false, false, false, false, false, false] rfl rfl (any_of HT_.out (by kernel_rfl)) (fun _ _ _ h => h) (Or.inl ⟨by rfl, ?_⟩) ?_ ?_
          rotate_left
          · intro w'
            go_simp
            with_reducible rfl
          rotate_left
          · simp only [Act.put, List.setIfInBounds_toArray, List.set_cons_zero, List.set_cons_succ, i64_w, i32_w]
            rfl
          refine inv_at [1, 3, 4, 5, 7, 8, 9, 10, 11, 12, 13] (fun a0_ b a w' => ∃ (v105 : Value) (v111 : Value) (adz_v111 : Addr) (v114 : Value) (adz_v114 : Addr) (m8_ : Value) (m10_ : Value) (m12_ : Value), a = putSel a0_ b [(1, 8, v105), (3, 10, .int .i64 t108), (4, 11, v111), (5, 12, v114), (7, 14, .int .i64 t116), (8, 15, m8_), (9, 16, .int .i64 (rd y113 t116)), (10, 17, m10_), (11, 18, .int .i64 (rd y110 (rd y113 t116))), (12, 2, m12_), (13, 3, .int .i64 (rd y110 (rd y113 t116)))] ∧ (b 1 = false → IsS90 w w' g103 t101 t102) ∧ (Below w.heap.size w w') ∧ (b 1 = true → Kd.R k34 34 w' w.heap.size (fun _ => True) v105 t104) ∧ (b 1 = true → b 3 = false → IsS90 w w' g103 t101 t107) ∧ (b 3 = true → b 7 = false → IsS90 w w' g103 t101 t109) ∧ (b 4 = true → Kd.R (Kd.int .i64) 3 w' w.heap.size (fun _ => True) v111 y110) ∧ (b 4 = true → ∃ c_, (v111 : Value) = .slice (some adz_v111) y110.length c_) ∧ (b 5 = true → Kd.R (Kd.int .i64) 3 w' w.heap.size (fun _ => True) v114 y113) ∧ (b 5 = true → ∃ c_, (v114 : Value) = .slice (some adz_v114) y113.length c_) ∧ (b 7 = true → IsS90 w w' g103 t101 t117) ∧ (b 8 = true → (m8_ : Value) = .pointer (some (adz_v114.add (t116).toNat))) ∧ (b 10 = true → (m10_ : Value) = .pointer (some (adz_v111.add ((rd y113 t116)).toNat))) ∧ (b 12 = true → (m12_ : Value) = v105)) HT_.out HW_.out (by kernel_rfl) (by kernel_rfl) ?_ ?_ ?_
          · exact ⟨.bool false, .bool false, ⟨0, 0, none⟩, .bool false, ⟨0, 0, none⟩, .bool false, .bool false, .bool false, by simp only [putSel, Bool.false_eq_true, if_false], fun _ => HI103.out, HB.out, fun h_ => absurd h_ (by decide), fun h_ => absurd h_ (by decide), fun h_ => absurd h_ (by decide), fun h_ => absurd h_ (by decide), fun h_ => absurd h_ (by decide), fun h_ => absurd h_ (by decide), fun h_ => absurd h_ (by decide), fun h_ => absurd h_ (by decide), fun h_ => absurd h_ (by decide), fun h_ => absurd h_ (by decide), fun h_ => absurd h_ (by decide)⟩
          · skip
            clear HB HI103
            refine steps_cons ?_ ?_
            · rintro b a w' ⟨v105, v111, adz_v111, v114, adz_v114, m8_, m10_, m12_, ha, Q_HI103, Q_HB, Q_HO106, Q_HI103_e1, Q_HI103_e3, Q_HO112, Q_HA_HO112, Q_HO115, Q_HA_HO115, Q_HI103_e7, Q_X8_, Q_X10_, Q_X12_⟩ hb_ hon hoff
              refine ⟨_, rfl, fun K hK => ?_⟩
              have e7 : a.tmps[7]? = some (.pointer (some ⟨g103, 0, none⟩)) := by rw [ha]; exact (putSel_off rfl).trans rfl
              replace ha := Aside0.mk ha
              have HI103 := Aside0.mk (Q_HI103 hb_)
              have HB := Aside0.mk Q_HB
              refine goes_ Try.func46 (by kernel_rfl) rfl #[.pointer (some ⟨g103, 0, none⟩), .int .i64 12] (by rfl) rfl rfl (by first | (simp only [List.map_toArray, List.map_cons, List.map_nil, Act.eval, Array.getD_eq_getD_getElem?, Option.getD_some, e7]; done) | (simp only [List.map_toArray, List.map_cons, List.map_nil, Act.eval, Array.getD_eq_getD_getElem?, Option.getD_some, e7]; rfl)) ?_
              with_reducible refine (spec_l20Set.calls k g103 t101 t102 12 t104 t107 w _ ?side1 ?side2 A3.out).mono ?_
              (case side1 => repeat (first | (with_reducible first | exact HI103.out | apply IsS90.alloc | apply IsS90.drewN | apply IsS90.drew | apply IsS90.set_1) | exact HI103.out))
              (case side2 => repeat (first | (with_reducible first | exact HB.out | apply below_alloc | apply pw_below_drewN | apply below_drew1 | refine below_set ?_ (IsS90.ge HI103.out)) | exact HB.out))
              rintro e w12 ⟨v105, rfl, ho0, hi, hb, hk⟩
              refine ⟨_, rfl, ?_⟩
              have n0_ := Aside0.mk (Kd.R_lower ho0 (below_size (by repeat (first | (with_reducible first | exact HB.out | apply below_alloc | apply pw_below_drewN | apply below_drew1 | refine below_set ?_ (IsS90.ge HI103.out)) | exact HB.out))))
              have n1_ := Aside0.mk (hb)
              have n2_ := Aside0.mk (hi)
              have z_HO115 := fun (h0_ : b 5 = true) => (show Kd.R (Kd.int .i64) 3 w12 w.heap.size (fun _ => True) v114 y113 from by first | exact (Kd.R_mono (Kd.R_keep (IsS90.apart (show IsS90 w _ g103 t101 t102 from by repeat (first | (with_reducible first | exact HI103.out | apply IsS90.alloc | apply IsS90.drewN | apply IsS90.drew | apply IsS90.set_1) | exact HI103.out)) (by (with_reducible repeat (first | apply Kd.R_alloc | apply Kd.R_drewN | apply Kd.R_drew)); exact (Q_HO115 h0_)) (by decide)) hk (fun _ h => h.2)) (fun _ h => h.1)) | exact Kd.R_mono (Kd.R_mono (Kd.R_keep (IsS90.apart (show IsS90 w _ g103 t101 t102 from by repeat (first | (with_reducible first | exact HI103.out | apply IsS90.alloc | apply IsS90.drewN | apply IsS90.drew | apply IsS90.set_1) | exact HI103.out)) (by (with_reducible repeat (first | apply Kd.R_alloc | apply Kd.R_drewN | apply Kd.R_drew)); exact (Q_HO115 h0_)) (by decide)) hk (fun _ h => h.2)) (fun _ h => h.1)) (fun _ h_ => by first | trivial | exact h_ | exact h_.1))
              clear HB
              clear HI103
              have HO106 := n0_
              have HB := n1_
              have HI103 := n2_
              clear n0_ n1_ n2_
              (try clear hb)
              (try clear hb2)
              (try clear hk)
              (try clear hi)
              (try clear ho0)
              refine hK.out _ _ ⟨v105, v111, adz_v111, v114, adz_v114, m8_, m10_, m12_, (by rw [ha.out]; exact putSel_upk 0 hb_ rfl rfl rfl), fun h0_ => absurd ((up_self b 1).symm.trans h0_) (by decide), (by repeat (first | (with_reducible first | exact HB.out | apply below_alloc | apply pw_below_drewN | apply below_drew1 | refine below_set ?_ (IsS90.ge HI103.out)) | exact HB.out)), fun _ => (by (with_reducible repeat (first | apply Kd.R_alloc | apply Kd.R_drewN | apply Kd.R_drew)); exact HO106.out), fun _ _ => (by repeat (first | (with_reducible first | exact HI103.out | apply IsS90.alloc | apply IsS90.drewN | apply IsS90.drew | apply IsS90.set_1) | exact HI103.out)), fun h0_ _ => absurd ((hoff 3 (by kernel_rfl)).symm.trans h0_) (by decide), fun h0_ => absurd ((hoff 4 (by kernel_rfl)).symm.trans h0_) (by decide), fun h0_ => absurd ((hoff 4 (by kernel_rfl)).symm.trans h0_) (by decide), z_HO115, Q_HA_HO115, fun h0_ => absurd ((hoff 7 (by kernel_rfl)).symm.trans h0_) (by decide), fun h0_ => absurd ((hoff 8 (by kernel_rfl)).symm.trans h0_) (by decide), fun h0_ => absurd ((hoff 10 (by kernel_rfl)).symm.trans h0_) (by decide), fun h0_ => absurd ((hoff 12 (by kernel_rfl)).symm.trans h0_) (by decide)⟩
            refine steps_cons ?_ ?_
            · rintro b a w' ⟨v105, v111, adz_v111, v114, adz_v114, m8_, m10_, m12_, ha, Q_HI103, Q_HB, Q_HO106, Q_HI103_e1, Q_HI103_e3, Q_HO112, Q_HA_HO112, Q_HO115, Q_HA_HO115, Q_HI103_e7, Q_X8_, Q_X10_, Q_X12_⟩ hb_ hon hoff
              refine ⟨_, rfl, fun K hK => ?_⟩
              have e9 : a.tmps[9]? = some (.pointer (some ⟨g103, 0, none⟩)) := by rw [ha]; exact (putSel_off rfl).trans rfl
              replace ha := Aside0.mk ha
              have HB := Aside0.mk Q_HB
              have HO106 := Aside0.mk (Q_HO106 (hon 1 (by kernel_rfl)))
              have HI103 := Aside0.mk (Q_HI103_e1 (hon 1 (by kernel_rfl)) hb_)
              refine goes_ Try.func76 (by kernel_rfl) rfl #[.pointer (some ⟨g103, 0, none⟩), .int .i64 121] (by rfl) rfl rfl (by first | (simp only [List.map_toArray, List.map_cons, List.map_nil, Act.eval, Array.getD_eq_getD_getElem?, Option.getD_some, e9]; done) | (simp only [List.map_toArray, List.map_cons, List.map_nil, Act.eval, Array.getD_eq_getD_getElem?, Option.getD_some, e9]; rfl)) ?_
              with_reducible refine (spec_l20Rd_pick.calls k g103 t101 t107 121 t108 t109 w _ ?side1 ?side2 A4.out).mono ?_
              (case side1 => repeat (first | (with_reducible first | exact HI103.out | apply IsS90.alloc | apply IsS90.drewN | apply IsS90.drew | apply IsS90.set_1) | exact HI103.out))
              (case side2 => repeat (first | (with_reducible first | exact HB.out | apply below_alloc | apply pw_below_drewN | apply below_drew1 | refine below_set ?_ (IsS90.ge HI103.out)) | exact HB.out))
              rintro e w14 ⟨rfl, hi, hb, hk⟩
              refine ⟨_, rfl, ?_⟩
              have n0_ := Aside0.mk (Kd.R_mono (Kd.R_keep (IsS90.apart (show IsS90 w _ g103 t101 t107 from by repeat (first | (with_reducible first | exact HI103.out | apply IsS90.alloc | apply IsS90.drewN | apply IsS90.drew | apply IsS90.set_1) | exact HI103.out)) (by (with_reducible repeat (first | apply Kd.R_alloc | apply Kd.R_drewN | apply Kd.R_drew)); exact HO106.out) (by decide)) hk (fun _ h => h.2)) (fun _ h => h.1))
              have n1_ := Aside0.mk (hb)
              have n2_ := Aside0.mk (hi)
              have z_HO115 := fun (h0_ : b 5 = true) => (show Kd.R (Kd.int .i64) 3 w14 w.heap.size (fun _ => True) v114 y113 from by first | exact (Kd.R_mono (Kd.R_keep (IsS90.apart (show IsS90 w _ g103 t101 t107 from by repeat (first | (with_reducible first | exact HI103.out | apply IsS90.alloc | apply IsS90.drewN | apply IsS90.drew | apply IsS90.set_1) | exact HI103.out)) (by (with_reducible repeat (first | apply Kd.R_alloc | apply Kd.R_drewN | apply Kd.R_drew)); exact (Q_HO115 h0_)) (by decide)) hk (fun _ h => h.2)) (fun _ h => h.1)) | exact Kd.R_mono (Kd.R_mono (Kd.R_keep (IsS90.apart (show IsS90 w _ g103 t101 t107 from by repeat (first | (with_reducible first | exact HI103.out | apply IsS90.alloc | apply IsS90.drewN | apply IsS90.drew | apply IsS90.set_1) | exact HI103.out)) (by (with_reducible repeat (first | apply Kd.R_alloc | apply Kd.R_drewN | apply Kd.R_drew)); exact (Q_HO115 h0_)) (by decide)) hk (fun _ h => h.2)) (fun _ h => h.1)) (fun _ h_ => by first | trivial | exact h_ | exact h_.1))
              clear HO106
              clear HB
              clear HI103
              have HO106 := n0_
              have HB := n1_
              have HI103 := n2_
              clear n0_ n1_ n2_
              (try clear hb)
              (try clear hb2)
              (try clear hk)
              (try clear hi)
              refine hK.out _ _ ⟨v105, v111, adz_v111, v114, adz_v114, m8_, m10_, m12_, (by rw [ha.out]; exact putSel_upk 1 hb_ rfl rfl rfl), fun h0_ => absurd ((hon 1 (by kernel_rfl)).symm.trans h0_) (by decide), (by repeat (first | (with_reducible first | exact HB.out | apply below_alloc | apply pw_below_drewN | apply below_drew1 | refine below_set ?_ (IsS90.ge HI103.out)) | exact HB.out)), fun _ => (by (with_reducible repeat (first | apply Kd.R_alloc | apply Kd.R_drewN | apply Kd.R_drew)); exact HO106.out), fun _ h1_ => absurd ((up_self b 3).symm.trans h1_) (by decide), fun _ _ => (by repeat (first | (with_reducible first | exact HI103.out | apply IsS90.alloc | apply IsS90.drewN | apply IsS90.drew | apply IsS90.set_1) | exact HI103.out)), fun h0_ => absurd ((hoff 4 (by kernel_rfl)).symm.trans h0_) (by decide), fun h0_ => absurd ((hoff 4 (by kernel_rfl)).symm.trans h0_) (by decide), z_HO115, Q_HA_HO115, fun h0_ => absurd ((hoff 7 (by kernel_rfl)).symm.trans h0_) (by decide), fun h0_ => absurd ((hoff 8 (by kernel_rfl)).symm.trans h0_) (by decide), fun h0_ => absurd ((hoff 10 (by kernel_rfl)).symm.trans h0_) (by decide), fun h0_ => absurd ((hoff 12 (by kernel_rfl)).symm.trans h0_) (by decide)⟩
            refine steps_cons ?_ ?_
            · rintro b a w' ⟨v105, v111, adz_v111, v114, adz_v114, m8_, m10_, m12_, ha, Q_HI103, Q_HB, Q_HO106, Q_HI103_e1, Q_HI103_e3, Q_HO112, Q_HA_HO112, Q_HO115, Q_HA_HO115, Q_HI103_e7, Q_X8_, Q_X10_, Q_X12_⟩ hb_ hon hoff
              refine ⟨_, rfl, fun K hK => ?_⟩
              have e10 : a.tmps[10]? = some (.int .i64 t108) := by rw [ha]; exact putSel_on (e := (3, 10, .int .i64 t108)) 1 rfl rfl (hon 3 (by kernel_rfl)) rfl
              replace ha := Aside0.mk ha
              have HB := Aside0.mk Q_HB
              have HO106 := Aside0.mk (Q_HO106 (hon 1 (by kernel_rfl)))
              refine Kd.R_lit_step (Kd.int .i64) _ 3 ?hg (N := 11) ?hd (xs := ([t108, (-1), 121] : List Int)) (inner := [.int .i64 t108, .int .i64 (-1), .int .i64 121]) (ok := fun _ => True) (okp := fun _ => True) ?hr ?hp (fun _ hk => hk) trivial (Below.refl _ _) (Nat.le_refl _) (by simp) ?_; (case hd => rfl); (case hg => rfl); (case hr => first | (go_simp; done) | (go_simp; rfl)); (case hp => exact (Reps.one (show Kd.M (Kd.int .i64) _ _ _ t108 [.int .i64 t108] from rfl) (Reps.one (show Kd.M (Kd.int .i64) _ _ _ (-1) [.int .i64 (-1)] from rfl) (Reps.one (show Kd.M (Kd.int .i64) _ _ _ 121 [.int .i64 121] from rfl) (Reps.none _ _)))))
              intro v111 w15 ho16 hb hg_ hnew_
              clear hg_ hnew_
              (first | rw [← Ny110.out] at ho16 | (simp only [Int.reduceToNat] at ho16; rw [← Ny110.out] at ho16))
              have n0_ := Aside0.mk (Kd.R_below (by (with_reducible repeat (first | apply Kd.R_alloc | apply Kd.R_drewN | apply Kd.R_drew)); exact HO106.out) hb)
              have n1_ := Aside0.mk (Kd.R_lower ho16 (below_size (by repeat (first | (with_reducible first | exact HB.out | apply below_alloc | apply pw_below_drewN | apply below_drew1) | exact HB.out))))
              have n3_ := Aside0.mk (below_step (by repeat (first | (with_reducible first | exact HB.out | apply below_alloc | apply pw_below_drewN | apply below_drew1) | exact HB.out)) hb)
              have z_HI103_e3 := fun (h0_ : b 3 = true) (h1_ : b 7 = false) => (show IsS90 w w15 g103 t101 t109 from by first | exact (IsS90.below (by repeat (first | (with_reducible first | exact (Q_HI103_e3 h0_ h1_) | apply IsS90.alloc | apply IsS90.drewN | apply IsS90.drew | apply IsS90.set_1) | exact (Q_HI103_e3 h0_ h1_))) hb))
              have z_HO115 := fun (h0_ : b 5 = true) => (show Kd.R (Kd.int .i64) 3 w15 w.heap.size (fun _ => True) v114 y113 from by first | exact (Kd.R_elder' (by (with_reducible repeat (first | apply Kd.R_alloc | apply Kd.R_drewN | apply Kd.R_drew)); exact (Q_HO115 h0_)) (Kd.R_base ho16) hb) | exact Kd.R_mono (Kd.R_elder' (by (with_reducible repeat (first | apply Kd.R_alloc | apply Kd.R_drewN | apply Kd.R_drew)); exact (Q_HO115 h0_)) (Kd.R_base ho16) hb) (fun _ h_ => by first | trivial | exact h_ | exact h_.1))
              have z_HI103_e7 := fun (h0_ : b 7 = true) => (show IsS90 w w15 g103 t101 t117 from by first | exact (IsS90.below (by repeat (first | (with_reducible first | exact (Q_HI103_e7 h0_) | apply IsS90.alloc | apply IsS90.drewN | apply IsS90.drew | apply IsS90.set_1) | exact (Q_HI103_e7 h0_))) hb))
              clear HO106
              clear HB
              have HO106 := n0_
              have HO112 := n1_
              have HB := n3_
              clear n0_ n1_ n3_
              clear hb ho16
              obtain ⟨Ao17, co17, eo17⟩ := Kd.R_slice HO112.out
              subst eo17
              obtain ⟨ado17, fo17, _⟩ := Kd.at_int (Kd.R_reads' HO112.out).2.2 0 (by decide) (by rw [Ny110.out]; simp)
              cases fo17
              refine hK.out _ _ ⟨v105, .slice (some ado17) y110.length co17, ado17, v114, adz_v114, m8_, m10_, m12_, (by rw [ha.out]; exact putSel_upk 2 hb_ rfl rfl rfl), fun h0_ => absurd ((hon 1 (by kernel_rfl)).symm.trans h0_) (by decide), (by repeat (first | (with_reducible first | exact HB.out | apply below_alloc | apply pw_below_drewN | apply below_drew1) | exact HB.out)), fun _ => (by (with_reducible repeat (first | apply Kd.R_alloc | apply Kd.R_drewN | apply Kd.R_drew)); exact HO106.out), fun _ h1_ => absurd ((hon 3 (by kernel_rfl)).symm.trans h1_) (by decide), z_HI103_e3, fun _ => (by (with_reducible repeat (first | apply Kd.R_alloc | apply Kd.R_drewN | apply Kd.R_drew)); exact HO112.out), fun _ => ⟨_, rfl⟩, z_HO115, Q_HA_HO115, z_HI103_e7, Q_X8_, fun h0_ => absurd ((hoff 10 (by kernel_rfl)).symm.trans h0_) (by decide), Q_X12_⟩
            refine steps_cons ?_ ?_
            · rintro b a w' ⟨v105, v111, adz_v111, v114, adz_v114, m8_, m10_, m12_, ha, Q_HI103, Q_HB, Q_HO106, Q_HI103_e1, Q_HI103_e3, Q_HO112, Q_HA_HO112, Q_HO115, Q_HA_HO115, Q_HI103_e7, Q_X8_, Q_X10_, Q_X12_⟩ hb_ hon hoff
              refine ⟨_, rfl, fun K hK => ?_⟩
              replace ha := Aside0.mk ha
              have HB := Aside0.mk Q_HB
              refine Kd.R_lit_step (Kd.int .i64) _ 3 ?hg (N := 12) ?hd (xs := ([0, 0, 0, 0, 1, 2] : List Int)) (inner := [.int .i64 0, .int .i64 0, .int .i64 0, .int .i64 0, .int .i64 1, .int .i64 2]) (ok := fun _ => True) (okp := fun _ => True) ?hr ?hp (fun _ hk => hk) trivial (Below.refl _ _) (Nat.le_refl _) (by simp) ?_; (case hd => rfl); (case hg => rfl); (case hr => first | (go_simp; done) | (go_simp; rfl)); (case hp => exact (Reps.one (show Kd.M (Kd.int .i64) _ _ _ 0 [.int .i64 0] from rfl) (Reps.one (show Kd.M (Kd.int .i64) _ _ _ 0 [.int .i64 0] from rfl) (Reps.one (show Kd.M (Kd.int .i64) _ _ _ 0 [.int .i64 0] from rfl) (Reps.one (show Kd.M (Kd.int .i64) _ _ _ 0 [.int .i64 0] from rfl) (Reps.one (show Kd.M (Kd.int .i64) _ _ _ 1 [.int .i64 1] from rfl) (Reps.one (show Kd.M (Kd.int .i64) _ _ _ 2 [.int .i64 2] from rfl) (Reps.none _ _))))))))
              intro v114 w12 ho13 hb hg_ hnew_
              clear hg_ hnew_
              (first | rw [← Ny113.out] at ho13 | (simp only [Int.reduceToNat] at ho13; rw [← Ny113.out] at ho13))
              have n0_ := Aside0.mk (Kd.R_lower ho13 (below_size (by repeat (first | (with_reducible first | exact HB.out | apply below_alloc | apply pw_below_drewN | apply below_drew1) | exact HB.out))))
              have n2_ := Aside0.mk (below_step (by repeat (first | (with_reducible first | exact HB.out | apply below_alloc | apply pw_below_drewN | apply below_drew1) | exact HB.out)) hb)
              have z_HI103 := fun (h0_ : b 1 = false) => (show IsS90 w w12 g103 t101 t102 from by first | exact (IsS90.below (by repeat (first | (with_reducible first | exact (Q_HI103 h0_) | apply IsS90.alloc | apply IsS90.drewN | apply IsS90.drew | apply IsS90.set_1) | exact (Q_HI103 h0_))) hb))
              have z_HO106 := fun (h0_ : b 1 = true) => (show Kd.R k34 34 w12 w.heap.size (fun _ => True) v105 t104 from by first | exact (Kd.R_below (by (with_reducible repeat (first | apply Kd.R_alloc | apply Kd.R_drewN | apply Kd.R_drew)); exact (Q_HO106 h0_)) hb) | exact Kd.R_mono (Kd.R_below (by (with_reducible repeat (first | apply Kd.R_alloc | apply Kd.R_drewN | apply Kd.R_drew)); exact (Q_HO106 h0_)) hb) (fun _ h_ => by first | trivial | exact h_ | exact h_.1))
              have z_HI103_e1 := fun (h0_ : b 1 = true) (h1_ : b 3 = false) => (show IsS90 w w12 g103 t101 t107 from by first | exact (IsS90.below (by repeat (first | (with_reducible first | exact (Q_HI103_e1 h0_ h1_) | apply IsS90.alloc | apply IsS90.drewN | apply IsS90.drew | apply IsS90.set_1) | exact (Q_HI103_e1 h0_ h1_))) hb))
              have z_HI103_e3 := fun (h0_ : b 3 = true) (h1_ : b 7 = false) => (show IsS90 w w12 g103 t101 t109 from by first | exact (IsS90.below (by repeat (first | (with_reducible first | exact (Q_HI103_e3 h0_ h1_) | apply IsS90.alloc | apply IsS90.drewN | apply IsS90.drew | apply IsS90.set_1) | exact (Q_HI103_e3 h0_ h1_))) hb))
              have z_HO112 := fun (h0_ : b 4 = true) => (show Kd.R (Kd.int .i64) 3 w12 w.heap.size (fun _ => True) v111 y110 from by first | exact (Kd.R_elder' (by (with_reducible repeat (first | apply Kd.R_alloc | apply Kd.R_drewN | apply Kd.R_drew)); exact (Q_HO112 h0_)) (Kd.R_base ho13) hb) | exact Kd.R_mono (Kd.R_elder' (by (with_reducible repeat (first | apply Kd.R_alloc | apply Kd.R_drewN | apply Kd.R_drew)); exact (Q_HO112 h0_)) (Kd.R_base ho13) hb) (fun _ h_ => by first | trivial | exact h_ | exact h_.1))
              have z_HI103_e7 := fun (h0_ : b 7 = true) => (show IsS90 w w12 g103 t101 t117 from by first | exact (IsS90.below (by repeat (first | (with_reducible first | exact (Q_HI103_e7 h0_) | apply IsS90.alloc | apply IsS90.drewN | apply IsS90.drew | apply IsS90.set_1) | exact (Q_HI103_e7 h0_))) hb))
              clear HB
              have HO115 := n0_
              have HB := n2_
              clear n0_ n2_
              clear hb ho13
              obtain ⟨Ao14, co14, eo14⟩ := Kd.R_slice HO115.out
              subst eo14
              obtain ⟨ado14, fo14, _⟩ := Kd.at_int (Kd.R_reads' HO115.out).2.2 0 (by decide) (by rw [Ny113.out]; simp)
              cases fo14
              refine hK.out _ _ ⟨v105, v111, adz_v111, .slice (some ado14) y113.length co14, ado14, m8_, m10_, m12_, (by rw [ha.out]; exact putSel_upk 3 hb_ rfl rfl rfl), z_HI103, (by repeat (first | (with_reducible first | exact HB.out | apply below_alloc | apply pw_below_drewN | apply below_drew1) | exact HB.out)), z_HO106, z_HI103_e1, z_HI103_e3, z_HO112, Q_HA_HO112, fun _ => (by (with_reducible repeat (first | apply Kd.R_alloc | apply Kd.R_drewN | apply Kd.R_drew)); exact HO115.out), fun _ => ⟨_, rfl⟩, z_HI103_e7, fun h0_ => absurd ((hoff 8 (by kernel_rfl)).symm.trans h0_) (by decide), fun h0_ => absurd ((hoff 10 (by kernel_rfl)).symm.trans h0_) (by decide), Q_X12_⟩
            refine steps_cons ?_ ?_
            · rintro b a w' ⟨v105, v111, adz_v111, v114, adz_v114, m8_, m10_, m12_, ha, Q_HI103, Q_HB, Q_HO106, Q_HI103_e1, Q_HI103_e3, Q_HO112, Q_HA_HO112, Q_HO115, Q_HA_HO115, Q_HI103_e7, Q_X8_, Q_X10_, Q_X12_⟩ hb_ hon hoff
              refine ⟨_, rfl, fun K hK => ?_⟩
              have e13 : a.tmps[13]? = some (.pointer (some ⟨g103, 0, none⟩)) := by rw [ha]; exact (putSel_off rfl).trans rfl
              replace ha := Aside0.mk ha
              have HB := Aside0.mk Q_HB
              have HO106 := Aside0.mk (Q_HO106 (hon 1 (by kernel_rfl)))
              have HI103 := Aside0.mk (Q_HI103_e3 (hon 3 (by kernel_rfl)) hb_)
              refine goes_ Try.func76 (by kernel_rfl) rfl #[.pointer (some ⟨g103, 0, none⟩), .int .i64 6] (by rfl) rfl rfl (by first | (simp only [List.map_toArray, List.map_cons, List.map_nil, Act.eval, Array.getD_eq_getD_getElem?, Option.getD_some, e13]; done) | (simp only [List.map_toArray, List.map_cons, List.map_nil, Act.eval, Array.getD_eq_getD_getElem?, Option.getD_some, e13]; rfl)) ?_
              with_reducible refine (spec_l20Rd_pick.calls k g103 t101 t109 6 t116 t117 w _ ?side1 ?side2 A5.out).mono ?_
              (case side1 => repeat (first | (with_reducible first | exact HI103.out | apply IsS90.alloc | apply IsS90.drewN | apply IsS90.drew | apply IsS90.set_1) | exact HI103.out))
              (case side2 => repeat (first | (with_reducible first | exact HB.out | apply below_alloc | apply pw_below_drewN | apply below_drew1 | refine below_set ?_ (IsS90.ge HI103.out)) | exact HB.out))
              rintro e w15 ⟨rfl, hi, hb, hk⟩
              refine ⟨_, rfl, ?_⟩
              have n0_ := Aside0.mk (Kd.R_mono (Kd.R_keep (IsS90.apart (show IsS90 w _ g103 t101 t109 from by repeat (first | (with_reducible first | exact HI103.out | apply IsS90.alloc | apply IsS90.drewN | apply IsS90.drew | apply IsS90.set_1) | exact HI103.out)) (by (with_reducible repeat (first | apply Kd.R_alloc | apply Kd.R_drewN | apply Kd.R_drew)); exact HO106.out) (by decide)) hk (fun _ h => h.2)) (fun _ h => h.1))
              have n1_ := Aside0.mk (hb)
              have n2_ := Aside0.mk (hi)
              have z_HO112 := fun (h0_ : b 4 = true) => (show Kd.R (Kd.int .i64) 3 w15 w.heap.size (fun _ => True) v111 y110 from by first | exact (Kd.R_mono (Kd.R_keep (IsS90.apart (show IsS90 w _ g103 t101 t109 from by repeat (first | (with_reducible first | exact HI103.out | apply IsS90.alloc | apply IsS90.drewN | apply IsS90.drew | apply IsS90.set_1) | exact HI103.out)) (by (with_reducible repeat (first | apply Kd.R_alloc | apply Kd.R_drewN | apply Kd.R_drew)); exact (Q_HO112 h0_)) (by decide)) hk (fun _ h => h.2)) (fun _ h => h.1)) | exact Kd.R_mono (Kd.R_mono (Kd.R_keep (IsS90.apart (show IsS90 w _ g103 t101 t109 from by repeat (first | (with_reducible first | exact HI103.out | apply IsS90.alloc | apply IsS90.drewN | apply IsS90.drew | apply IsS90.set_1) | exact HI103.out)) (by (with_reducible repeat (first | apply Kd.R_alloc | apply Kd.R_drewN | apply Kd.R_drew)); exact (Q_HO112 h0_)) (by decide)) hk (fun _ h => h.2)) (fun _ h => h.1)) (fun _ h_ => by first | trivial | exact h_ | exact h_.1))
              have z_HO115 := fun (h0_ : b 5 = true) => (show Kd.R (Kd.int .i64) 3 w15 w.heap.size (fun _ => True) v114 y113 from by first | exact (Kd.R_mono (Kd.R_keep (IsS90.apart (show IsS90 w _ g103 t101 t109 from by repeat (first | (with_reducible first | exact HI103.out | apply IsS90.alloc | apply IsS90.drewN | apply IsS90.drew | apply IsS90.set_1) | exact HI103.out)) (by (with_reducible repeat (first | apply Kd.R_alloc | apply Kd.R_drewN | apply Kd.R_drew)); exact (Q_HO115 h0_)) (by decide)) hk (fun _ h => h.2)) (fun _ h => h.1)) | exact Kd.R_mono (Kd.R_mono (Kd.R_keep (IsS90.apart (show IsS90 w _ g103 t101 t109 from by repeat (first | (with_reducible first | exact HI103.out | apply IsS90.alloc | apply IsS90.drewN | apply IsS90.drew | apply IsS90.set_1) | exact HI103.out)) (by (with_reducible repeat (first | apply Kd.R_alloc | apply Kd.R_drewN | apply Kd.R_drew)); exact (Q_HO115 h0_)) (by decide)) hk (fun _ h => h.2)) (fun _ h => h.1)) (fun _ h_ => by first | trivial | exact h_ | exact h_.1))
              clear HO106
              clear HB
              clear HI103
              have HO106 := n0_
              have HB := n1_
              have HI103 := n2_
              clear n0_ n1_ n2_
              (try clear hb)
              (try clear hb2)
              (try clear hk)
              (try clear hi)
              refine hK.out _ _ ⟨v105, v111, adz_v111, v114, adz_v114, m8_, m10_, m12_, (by rw [ha.out]; exact putSel_upk 4 hb_ rfl rfl rfl), fun h0_ => absurd ((hon 1 (by kernel_rfl)).symm.trans h0_) (by decide), (by repeat (first | (with_reducible first | exact HB.out | apply below_alloc | apply pw_below_drewN | apply below_drew1 | refine below_set ?_ (IsS90.ge HI103.out)) | exact HB.out)), fun _ => (by (with_reducible repeat (first | apply Kd.R_alloc | apply Kd.R_drewN | apply Kd.R_drew)); exact HO106.out), fun _ h1_ => absurd ((hon 3 (by kernel_rfl)).symm.trans h1_) (by decide), fun _ h1_ => absurd ((up_self b 7).symm.trans h1_) (by decide), z_HO112, Q_HA_HO112, z_HO115, Q_HA_HO115, fun _ => (by repeat (first | (with_reducible first | exact HI103.out | apply IsS90.alloc | apply IsS90.drewN | apply IsS90.drew | apply IsS90.set_1) | exact HI103.out)), fun h0_ => absurd ((hoff 8 (by kernel_rfl)).symm.trans h0_) (by decide), fun h0_ => absurd ((hoff 10 (by kernel_rfl)).symm.trans h0_) (by decide), fun h0_ => absurd ((hoff 12 (by kernel_rfl)).symm.trans h0_) (by decide)⟩
            refine steps_cons ?_ ?_
            · rintro b a w' ⟨v105, v111, adz_v111, v114, adz_v114, m8_, m10_, m12_, ha, Q_HI103, Q_HB, Q_HO106, Q_HI103_e1, Q_HI103_e3, Q_HO112, Q_HA_HO112, Q_HO115, Q_HA_HO115, Q_HI103_e7, Q_X8_, Q_X10_, Q_X12_⟩ hb_ hon hoff
              refine ⟨_, rfl, fun K hK => ?_⟩
              have e12 : a.tmps[12]? = some (v114) := by rw [ha]; exact putSel_on (e := (5, 12, v114)) 3 rfl rfl (hon 5 (by kernel_rfl)) rfl
              have e14 : a.tmps[14]? = some (.int .i64 t116) := by rw [ha]; exact putSel_on (e := (7, 14, .int .i64 t116)) 4 rfl rfl (hon 7 (by kernel_rfl)) rfl
              replace ha := Aside0.mk ha
              have HB := Aside0.mk Q_HB
              have HO106 := Aside0.mk (Q_HO106 (hon 1 (by kernel_rfl)))
              have HO115 := Aside0.mk (Q_HO115 (hon 5 (by kernel_rfl)))
              have HA_HO115 := Aside0.mk (Q_HA_HO115 (hon 5 (by kernel_rfl)))
              have HI103 := Aside0.mk (Q_HI103_e7 (hon 7 (by kernel_rfl)))
              obtain ⟨c_, hv_⟩ := HA_HO115.out
              rw [hv_] at e12
              refine value_ (w1 := w') (v := .pointer (some (adz_v114.add (t116).toNat))) (by rfl) rfl ?_ ?_
              · go_simp
                (try simp only [i64_w])
                try rfl
              refine hK.out _ _ ⟨v105, v111, adz_v111, v114, adz_v114, (.pointer (some (adz_v114.add (t116).toNat))), m10_, m12_, (by rw [ha.out]; exact putSel_upk 5 hb_ rfl rfl rfl), fun h0_ => absurd ((hon 1 (by kernel_rfl)).symm.trans h0_) (by decide), Q_HB, Q_HO106, fun _ h1_ => absurd ((hon 3 (by kernel_rfl)).symm.trans h1_) (by decide), fun _ h1_ => absurd ((hon 7 (by kernel_rfl)).symm.trans h1_) (by decide), Q_HO112, Q_HA_HO112, Q_HO115, Q_HA_HO115, Q_HI103_e7, fun _ => rfl, fun h0_ => absurd ((hoff 10 (by kernel_rfl)).symm.trans h0_) (by decide), Q_X12_⟩
            refine steps_cons ?_ ?_
            · rintro b a w' ⟨v105, v111, adz_v111, v114, adz_v114, m8_, m10_, m12_, ha, Q_HI103, Q_HB, Q_HO106, Q_HI103_e1, Q_HI103_e3, Q_HO112, Q_HA_HO112, Q_HO115, Q_HA_HO115, Q_HI103_e7, Q_X8_, Q_X10_, Q_X12_⟩ hb_ hon hoff
              refine ⟨_, rfl, fun K hK => ?_⟩
              have e15 : a.tmps[15]? = some (m8_) := by rw [ha]; exact putSel_on (e := (8, 15, m8_)) 5 rfl rfl (hon 8 (by kernel_rfl)) rfl
              rw [Q_X8_ (hon 8 (by kernel_rfl))] at e15
              replace ha := Aside0.mk ha
              have HB := Aside0.mk Q_HB
              have HO106 := Aside0.mk (Q_HO106 (hon 1 (by kernel_rfl)))
              have HO115 := Aside0.mk (Q_HO115 (hon 5 (by kernel_rfl)))
              have HA_HO115 := Aside0.mk (Q_HA_HO115 (hon 5 (by kernel_rfl)))
              have HI103 := Aside0.mk (Q_HI103_e7 (hon 7 (by kernel_rfl)))
              obtain ⟨c_, hv_⟩ := HA_HO115.out
              have hF_ := HO115.out
              rw [hv_] at hF_
              obtain ⟨ad_, ea_, hx_⟩ := Kd.at_int (Kd.R_reads' hF_).2.2 t116 (of_eq_true pi118) (of_eq_true qi118)
              cases ea_
              refine value_ (w1 := w') (v := .int .i64 (rd y113 t116)) (by rfl) rfl ?_ ?_
              · go_simp
                (try simp only [i64_w])
                try rfl
              refine hK.out _ _ ⟨v105, v111, adz_v111, v114, adz_v114, m8_, m10_, m12_, (by rw [ha.out]; exact putSel_upk 6 hb_ rfl rfl rfl), fun h0_ => absurd ((hon 1 (by kernel_rfl)).symm.trans h0_) (by decide), Q_HB, Q_HO106, fun _ h1_ => absurd ((hon 3 (by kernel_rfl)).symm.trans h1_) (by decide), fun _ h1_ => absurd ((hon 7 (by kernel_rfl)).symm.trans h1_) (by decide), Q_HO112, Q_HA_HO112, Q_HO115, Q_HA_HO115, Q_HI103_e7, Q_X8_, fun h0_ => absurd ((hoff 10 (by kernel_rfl)).symm.trans h0_) (by decide), Q_X12_⟩
            refine steps_cons ?_ ?_
            · rintro b a w' ⟨v105, v111, adz_v111, v114, adz_v114, m8_, m10_, m12_, ha, Q_HI103, Q_HB, Q_HO106, Q_HI103_e1, Q_HI103_e3, Q_HO112, Q_HA_HO112, Q_HO115, Q_HA_HO115, Q_HI103_e7, Q_X8_, Q_X10_, Q_X12_⟩ hb_ hon hoff
              refine ⟨_, rfl, fun K hK => ?_⟩
              have e11 : a.tmps[11]? = some (v111) := by rw [ha]; exact putSel_on (e := (4, 11, v111)) 2 rfl rfl (hon 4 (by kernel_rfl)) rfl
              have e16 : a.tmps[16]? = some (.int .i64 (rd y113 t116)) := by rw [ha]; exact putSel_on (e := (9, 16, .int .i64 (rd y113 t116))) 6 rfl rfl (hon 9 (by kernel_rfl)) rfl
              replace ha := Aside0.mk ha
              have HB := Aside0.mk Q_HB
              have HO106 := Aside0.mk (Q_HO106 (hon 1 (by kernel_rfl)))
              have HO112 := Aside0.mk (Q_HO112 (hon 4 (by kernel_rfl)))
              have HA_HO112 := Aside0.mk (Q_HA_HO112 (hon 4 (by kernel_rfl)))
              have HO115 := Aside0.mk (Q_HO115 (hon 5 (by kernel_rfl)))
              have HA_HO115 := Aside0.mk (Q_HA_HO115 (hon 5 (by kernel_rfl)))
              have HI103 := Aside0.mk (Q_HI103_e7 (hon 7 (by kernel_rfl)))
              obtain ⟨c_, hv_⟩ := HA_HO112.out
              rw [hv_] at e11
              refine value_ (w1 := w') (v := .pointer (some (adz_v111.add ((rd y113 t116)).toNat))) (by rfl) rfl ?_ ?_
              · go_simp
                (try simp only [i64_w])
                try rfl
              refine hK.out _ _ ⟨v105, v111, adz_v111, v114, adz_v114, m8_, (.pointer (some (adz_v111.add ((rd y113 t116)).toNat))), m12_, (by rw [ha.out]; exact putSel_upk 7 hb_ rfl rfl rfl), fun h0_ => absurd ((hon 1 (by kernel_rfl)).symm.trans h0_) (by decide), Q_HB, Q_HO106, fun _ h1_ => absurd ((hon 3 (by kernel_rfl)).symm.trans h1_) (by decide), fun _ h1_ => absurd ((hon 7 (by kernel_rfl)).symm.trans h1_) (by decide), Q_HO112, Q_HA_HO112, Q_HO115, Q_HA_HO115, Q_HI103_e7, Q_X8_, fun _ => rfl, Q_X12_⟩
            refine steps_cons ?_ ?_
            · rintro b a w' ⟨v105, v111, adz_v111, v114, adz_v114, m8_, m10_, m12_, ha, Q_HI103, Q_HB, Q_HO106, Q_HI103_e1, Q_HI103_e3, Q_HO112, Q_HA_HO112, Q_HO115, Q_HA_HO115, Q_HI103_e7, Q_X8_, Q_X10_, Q_X12_⟩ hb_ hon hoff
              refine ⟨_, rfl, fun K hK => ?_⟩
              have e17 : a.tmps[17]? = some (m10_) := by rw [ha]; exact putSel_on (e := (10, 17, m10_)) 7 rfl rfl (hon 10 (by kernel_rfl)) rfl
              rw [Q_X10_ (hon 10 (by kernel_rfl))] at e17
              replace ha := Aside0.mk ha
              have HB := Aside0.mk Q_HB
              have HO106 := Aside0.mk (Q_HO106 (hon 1 (by kernel_rfl)))
              have HO112 := Aside0.mk (Q_HO112 (hon 4 (by kernel_rfl)))
              have HA_HO112 := Aside0.mk (Q_HA_HO112 (hon 4 (by kernel_rfl)))
              have HO115 := Aside0.mk (Q_HO115 (hon 5 (by kernel_rfl)))
              have HA_HO115 := Aside0.mk (Q_HA_HO115 (hon 5 (by kernel_rfl)))
              have HI103 := Aside0.mk (Q_HI103_e7 (hon 7 (by kernel_rfl)))
              obtain ⟨c_, hv_⟩ := HA_HO112.out
              have hF_ := HO112.out
              rw [hv_] at hF_
              obtain ⟨ad_, ea_, hx_⟩ := Kd.at_int (Kd.R_reads' hF_).2.2 (rd y113 t116) (of_eq_true pi119) (of_eq_true qi119)
              cases ea_
              refine value_ (w1 := w') (v := .int .i64 (rd y110 (rd y113 t116))) (by rfl) rfl ?_ ?_
              · go_simp
                (try simp only [i64_w])
                try rfl
              refine hK.out _ _ ⟨v105, v111, adz_v111, v114, adz_v114, m8_, m10_, m12_, (by rw [ha.out]; exact putSel_upk 8 hb_ rfl rfl rfl), fun h0_ => absurd ((hon 1 (by kernel_rfl)).symm.trans h0_) (by decide), Q_HB, Q_HO106, fun _ h1_ => absurd ((hon 3 (by kernel_rfl)).symm.trans h1_) (by decide), fun _ h1_ => absurd ((hon 7 (by kernel_rfl)).symm.trans h1_) (by decide), Q_HO112, Q_HA_HO112, Q_HO115, Q_HA_HO115, Q_HI103_e7, Q_X8_, Q_X10_, Q_X12_⟩
            refine steps_cons ?_ ?_
            · rintro b a w' ⟨v105, v111, adz_v111, v114, adz_v114, m8_, m10_, m12_, ha, Q_HI103, Q_HB, Q_HO106, Q_HI103_e1, Q_HI103_e3, Q_HO112, Q_HA_HO112, Q_HO115, Q_HA_HO115, Q_HI103_e7, Q_X8_, Q_X10_, Q_X12_⟩ hb_ hon hoff
              refine ⟨_, rfl, fun K hK => ?_⟩
              have e8 : a.tmps[8]? = some (v105) := by rw [ha]; exact putSel_on (e := (1, 8, v105)) 0 rfl rfl (hon 1 (by kernel_rfl)) rfl
              replace ha := Aside0.mk ha
              have HB := Aside0.mk Q_HB
              have HO106 := Aside0.mk (Q_HO106 (hon 1 (by kernel_rfl)))
              have HI103 := Aside0.mk (Q_HI103_e7 (hon 7 (by kernel_rfl)))
              refine value_ (w1 := w') (v := v105) (by rfl) rfl ?_ ?_
              · go_simp
                (try simp only [i64_w])
                try rfl
              refine hK.out _ _ ⟨v105, v111, adz_v111, v114, adz_v114, m8_, m10_, (v105), (by rw [ha.out]; exact putSel_upk 9 hb_ rfl rfl rfl), fun h0_ => absurd ((hon 1 (by kernel_rfl)).symm.trans h0_) (by decide), Q_HB, Q_HO106, fun _ h1_ => absurd ((hon 3 (by kernel_rfl)).symm.trans h1_) (by decide), fun _ h1_ => absurd ((hon 7 (by kernel_rfl)).symm.trans h1_) (by decide), Q_HO112, Q_HA_HO112, Q_HO115, Q_HA_HO115, Q_HI103_e7, Q_X8_, Q_X10_, fun _ => rfl⟩
            refine steps_cons ?_ ?_
            · rintro b a w' ⟨v105, v111, adz_v111, v114, adz_v114, m8_, m10_, m12_, ha, Q_HI103, Q_HB, Q_HO106, Q_HI103_e1, Q_HI103_e3, Q_HO112, Q_HA_HO112, Q_HO115, Q_HA_HO115, Q_HI103_e7, Q_X8_, Q_X10_, Q_X12_⟩ hb_ hon hoff
              refine ⟨_, rfl, fun K hK => ?_⟩
              have e18 : a.tmps[18]? = some (.int .i64 (rd y110 (rd y113 t116))) := by rw [ha]; exact putSel_on (e := (11, 18, .int .i64 (rd y110 (rd y113 t116)))) 8 rfl rfl (hon 11 (by kernel_rfl)) rfl
              replace ha := Aside0.mk ha
              have HB := Aside0.mk Q_HB
              have HO106 := Aside0.mk (Q_HO106 (hon 1 (by kernel_rfl)))
              have HO112 := Aside0.mk (Q_HO112 (hon 4 (by kernel_rfl)))
              have HA_HO112 := Aside0.mk (Q_HA_HO112 (hon 4 (by kernel_rfl)))
              have HO115 := Aside0.mk (Q_HO115 (hon 5 (by kernel_rfl)))
              have HA_HO115 := Aside0.mk (Q_HA_HO115 (hon 5 (by kernel_rfl)))
              have HI103 := Aside0.mk (Q_HI103_e7 (hon 7 (by kernel_rfl)))
              refine value_ (w1 := w') (v := .int .i64 (rd y110 (rd y113 t116))) (by rfl) rfl ?_ ?_
              · go_simp
                (try simp only [i64_w])
                try rfl
              refine hK.out _ _ ⟨v105, v111, adz_v111, v114, adz_v114, m8_, m10_, m12_, (by rw [ha.out]; exact putSel_upk 10 hb_ rfl rfl rfl), fun h0_ => absurd ((hon 1 (by kernel_rfl)).symm.trans h0_) (by decide), Q_HB, Q_HO106, fun _ h1_ => absurd ((hon 3 (by kernel_rfl)).symm.trans h1_) (by decide), fun _ h1_ => absurd ((hon 7 (by kernel_rfl)).symm.trans h1_) (by decide), Q_HO112, Q_HA_HO112, Q_HO115, Q_HA_HO115, Q_HI103_e7, Q_X8_, Q_X10_, Q_X12_⟩
            exact steps_nil
          rintro b a w21 hall ⟨v105, v111, adz_v111, v114, adz_v114, m8_, m10_, m12_, ha, Q_HI103, Q_HB, Q_HO106, Q_HI103_e1, Q_HI103_e3, Q_HO112, Q_HA_HO112, Q_HO115, Q_HA_HO115, Q_HI103_e7, Q_X8_, Q_X10_, Q_X12_⟩
          clear HB HI103
          have hb1_ := hall 1 (by kernel_rfl)
          have hb3_ := hall 3 (by kernel_rfl)
          have hb4_ := hall 4 (by kernel_rfl)
          have hb5_ := hall 5 (by kernel_rfl)
          have hb7_ := hall 7 (by kernel_rfl)
          have hb8_ := hall 8 (by kernel_rfl)
          have hb9_ := hall 9 (by kernel_rfl)
          have hb10_ := hall 10 (by kernel_rfl)
          have hb11_ := hall 11 (by kernel_rfl)
          have hb12_ := hall 12 (by kernel_rfl)
          have hb13_ := hall 13 (by kernel_rfl)
          subst ha
          obtain rfl := Q_X8_ hb8_
          obtain rfl := Q_X10_ hb10_
          obtain rfl := Q_X12_ hb12_
          simp only [putSel, hb1_, hb3_, hb4_, hb5_, hb7_, hb8_, hb9_, hb10_, hb11_, hb12_, hb13_, if_true, Act.put, List.setIfInBounds_toArray, List.set_cons_zero, List.set_cons_succ]
          clear Q_HI103
          have HB := Aside0.mk Q_HB
          clear Q_HB
          have HO106 := Aside0.mk (Q_HO106 hb1_)
          clear Q_HO106
          clear Q_HI103_e1
          clear Q_HI103_e3
          have HO112 := Aside0.mk (Q_HO112 hb4_)
          clear Q_HO112
          have HA_HO112 := Aside0.mk (Q_HA_HO112 hb4_)
          clear Q_HA_HO112
          have HO115 := Aside0.mk (Q_HO115 hb5_)
          clear Q_HO115
          have HA_HO115 := Aside0.mk (Q_HA_HO115 hb5_)
          clear Q_HA_HO115
          have HI103 := Aside0.mk (Q_HI103_e7 hb7_)
          clear Q_HI103_e7
          clear hall hb1_ hb3_ hb4_ hb5_ hb7_ hb8_ hb9_ hb10_ hb11_ hb12_ hb13_
          obtain ⟨co22, eo22⟩ := HA_HO112.out
          clear HA_HO112
          subst eo22
          obtain ⟨co23, eo23⟩ := HA_HO115.out
          clear HA_HO115
          subst eo23
          try go_wp2
          go_ret2
          exact ⟨_, by first | rfl | (simp [errW_none, errW_some] <;> rfl) | (simp [*, errW_none, errW_some] <;> rfl), by (with_reducible repeat (first | apply Kd.R_alloc | apply Kd.R_drewN | apply Kd.R_drew)); exact HO106.out, by repeat (first | (with_reducible first | exact HB.out | apply below_alloc | apply pw_below_drewN | apply below_drew1 | refine below_set ?_ (IsS90.ge HI103.out)) | exact HB.out)⟩
        · rw [if_neg c9] at H
          exact absurd H (by simp)
      · rw [if_neg c8] at H
        exact absurd H (by simp)
    · rw [if_neg c7] at H
      exact absurd H (by simp)
  · rw [if_neg c6] at H
    exact absurd H (by simp)

end Go.Proofs.Ytncombcckeeecaa.Q
