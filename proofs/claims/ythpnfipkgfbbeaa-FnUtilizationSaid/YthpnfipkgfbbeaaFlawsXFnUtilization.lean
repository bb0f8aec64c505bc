-- written by mp.py, a program of this session's, out of the kit's print program and the translation
import Derived.Test.YthpnfipkgfbbeaaF0
import Derived.Test.YthpnfipkgfbbeaaFEq36
import Derived.Test.YthpnfipkgfbbeaaFimplXHyperperiod
import Derived.Test.YthpnfipkgfbbeaaFspecXSetValid
import Derived.Test.YthpnfipkgfbbeaaFA
import Derived.Test.YthpnfipkgfbbeaaFlawsXwithout
import Derived.Test.YthpnfipkgfbbeaaFspecXDrawUtilization
import Derived.Test.YthpnfipkgfbbeaaFimplXUtilization
import Derived.Test.YthpnfipkgfbbeaaFspecXUtilization
namespace Go.Proofs.Ythpnfipkgfbbeaa.Q
open Go.RowKit Go.Proofs.YthpnfipkgfbbeaaW.PrintWords Go.Proofs.YthpnfipkgfbbeaaW.PrintLast Go.Proofs.YthpnfipkgfbbeaaW.PrintMore
attribute [local go_sem] max2_int min2_int max_two min_two max_three min_three max_four min_four   -- for this text's walks alone
set_option linter.unusedVariables false
set_option linter.unusedSimpArgs false

attribute [local go_sem high] eqA36
/-! ### laws_FnUtilization: function 8 -/
mutual
def laws_FnUtilization.l0 : Nat → List (S29) → Int → Int → Int → Int → Int → Option (Bool)
  | 0, _, _, _, _, _, _ => none
  | k + 1, x3, x5, x6, x7, x107000, x107001 => if x7 < (x3.length : Int) then (if 0 ≤ x7 then (if ((rd_T29 x3 x7).f2) = 0 then (none) else (laws_FnUtilization.l0 k x3 x5 (wrap64 (x6 + (wrap64 (((rd_T29 x3 x7).f0) * (wrap64 (Int.tdiv x5 ((rd_T29 x3 x7).f2))))))) (wrap64 (x7 + 1)) x107000 x107001)) else (none)) else (laws_FnUtilization.l1 k x3 x5 x6 2 x107000 x107001)
def laws_FnUtilization.l1 : Nat → List (S29) → Int → Int → Int → Int → Int → Option (Bool)
  | 0, _, _, _, _, _, _ => none
  | k + 1, x3, x5, x6, x8, x107000, x107001 => if x8 ≤ x107001 then (if x8 = 0 then (none) else (if (Int.tmod x107000 x8) = 0 then (if (Int.tmod x107001 x8) = 0 then (some false) else (laws_FnUtilization.l1 k x3 x5 x6 (wrap64 (x8 + 1)) x107000 x107001)) else (laws_FnUtilization.l1 k x3 x5 x6 (wrap64 (x8 + 1)) x107000 x107001))) else (laws_FnUtilization.l2 k x3 x5 x6 0 x107000 x107001)
def laws_FnUtilization.l2 : Nat → List (S29) → Int → Int → Int → Int → Int → Option (Bool)
  | 0, _, _, _, _, _, _ => none
  | k + 1, x3, x5, x6, x9, x107000, x107001 => if x9 < (x3.length : Int) then ((laws_without.f x3 x9).bind fun t115 => ((impl_Utilization.f k t115).bind fun bt118 => (if (wrap64 (bt118.1 * x107001)) ≥ (wrap64 (x107000 * bt118.2)) then (some false) else (laws_FnUtilization.l2 k x3 x5 x6 (wrap64 (x9 + 1)) x107000 x107001)))) else (if x107001 ≥ 1 then (if (wrap64 (x107000 * x5)) = (wrap64 (x6 * x107001)) then ((laws_alive.f).bind fun t114 => (some t114)) else (some false)) else (some false))
end
def laws_FnUtilization.f (k : Nat) (l0 : List Int) : Option (Bool) := if (l0.length : Int) > 1048576 then (some true) else ((spec_DrawUtilization.f k l0).bind fun t101 => ((impl_Utilization.f k t101).bind fun bt104 => ((spec_Utilization.f k t101).bind fun bt107 => (if (!(bt104.1 == bt107.1) || (!(bt104.2 == bt107.2))) = true then (some false) else ((spec_SetValid.f k t101).bind fun t109 => (if t109 = true then ((impl_Hyperperiod.f k t101).bind fun t111 => (laws_FnUtilization.l0 k t101 t111 0 0 bt104.1 bt104.2)) else (if (bt104.1 == 0 && (bt104.2 == 0)) = true then ((laws_alive.f).bind fun t110 => (some t110)) else (some false))))))))
theorem laws_FnUtilization.mono_l : ∀ k, (∀ y0 y1 y2 y3 y4 y5, LeO (laws_FnUtilization.l0 k y0 y1 y2 y3 y4 y5) (laws_FnUtilization.l0 (k + 1) y0 y1 y2 y3 y4 y5)) ∧ (∀ y0 y1 y2 y3 y4 y5, LeO (laws_FnUtilization.l1 k y0 y1 y2 y3 y4 y5) (laws_FnUtilization.l1 (k + 1) y0 y1 y2 y3 y4 y5)) ∧ (∀ y0 y1 y2 y3 y4 y5, LeO (laws_FnUtilization.l2 k y0 y1 y2 y3 y4 y5) (laws_FnUtilization.l2 (k + 1) y0 y1 y2 y3 y4 y5))
  | 0 => ⟨fun _ _ _ _ _ _ r h => by simp [laws_FnUtilization.l0] at h, fun _ _ _ _ _ _ r h => by simp [laws_FnUtilization.l1] at h, fun _ _ _ _ _ _ r h => by simp [laws_FnUtilization.l2] at h⟩
  | k + 1 => by
    obtain ⟨ih0, ih1, ih2⟩ := laws_FnUtilization.mono_l k
    refine ⟨?_, ?_, ?_⟩
    · intro y0 y1 y2 y3 y4 y5
      unfold laws_FnUtilization.l0
      repeat' first
      | (with_reducible exact ih0 _ _ _ _ _ _)
      | (with_reducible exact ih1 _ _ _ _ _ _)
      | (with_reducible exact ih2 _ _ _ _ _ _)
      | (with_reducible exact impl_Hyperperiod.mono _ _)
      | (with_reducible exact impl_Utilization.mono _ _)
      | (with_reducible exact spec_DrawUtilization.mono _ _)
      | (with_reducible exact spec_SetValid.mono _ _)
      | (with_reducible exact spec_Utilization.mono _ _)
      | (with_reducible exact LeO.refl _)
      | (with_reducible exact LeO.none _)
      | (with_reducible refine LeO.ite ?_ ?_)
      | (with_reducible refine LeO.bind ?_ (fun _ => ?_))
      | exact ih0 _ _ _ _ _ _
      | exact ih1 _ _ _ _ _ _
      | exact ih2 _ _ _ _ _ _
      | exact impl_Hyperperiod.mono _ _
      | exact impl_Utilization.mono _ _
      | exact spec_DrawUtilization.mono _ _
      | exact spec_SetValid.mono _ _
      | exact spec_Utilization.mono _ _
      | exact LeO.none _
      | refine LeO.ite ?_ ?_
      | refine LeO.bind ?_ (fun _ => ?_)
    · intro y0 y1 y2 y3 y4 y5
      unfold laws_FnUtilization.l1
      repeat' first
      | (with_reducible exact ih0 _ _ _ _ _ _)
      | (with_reducible exact ih1 _ _ _ _ _ _)
      | (with_reducible exact ih2 _ _ _ _ _ _)
      | (with_reducible exact impl_Hyperperiod.mono _ _)
      | (with_reducible exact impl_Utilization.mono _ _)
      | (with_reducible exact spec_DrawUtilization.mono _ _)
      | (with_reducible exact spec_SetValid.mono _ _)
      | (with_reducible exact spec_Utilization.mono _ _)
      | (with_reducible exact LeO.refl _)
      | (with_reducible exact LeO.none _)
      | (with_reducible refine LeO.ite ?_ ?_)
      | (with_reducible refine LeO.bind ?_ (fun _ => ?_))
      | exact ih0 _ _ _ _ _ _
      | exact ih1 _ _ _ _ _ _
      | exact ih2 _ _ _ _ _ _
      | exact impl_Hyperperiod.mono _ _
      | exact impl_Utilization.mono _ _
      | exact spec_DrawUtilization.mono _ _
      | exact spec_SetValid.mono _ _
      | exact spec_Utilization.mono _ _
      | exact LeO.none _
      | refine LeO.ite ?_ ?_
      | refine LeO.bind ?_ (fun _ => ?_)
    · intro y0 y1 y2 y3 y4 y5
      unfold laws_FnUtilization.l2
      repeat' first
      | (with_reducible exact ih0 _ _ _ _ _ _)
      | (with_reducible exact ih1 _ _ _ _ _ _)
      | (with_reducible exact ih2 _ _ _ _ _ _)
      | (with_reducible exact impl_Hyperperiod.mono _ _)
      | (with_reducible exact impl_Utilization.mono _ _)
      | (with_reducible exact spec_DrawUtilization.mono _ _)
      | (with_reducible exact spec_SetValid.mono _ _)
      | (with_reducible exact spec_Utilization.mono _ _)
      | (with_reducible exact LeO.refl _)
      | (with_reducible exact LeO.none _)
      | (with_reducible refine LeO.ite ?_ ?_)
      | (with_reducible refine LeO.bind ?_ (fun _ => ?_))
      | exact ih0 _ _ _ _ _ _
      | exact ih1 _ _ _ _ _ _
      | exact ih2 _ _ _ _ _ _
      | exact impl_Hyperperiod.mono _ _
      | exact impl_Utilization.mono _ _
      | exact spec_DrawUtilization.mono _ _
      | exact spec_SetValid.mono _ _
      | exact spec_Utilization.mono _ _
      | exact LeO.none _
      | refine LeO.ite ?_ ?_
      | refine LeO.bind ?_ (fun _ => ?_)
theorem laws_FnUtilization.mono : ∀ a0 k, LeO (laws_FnUtilization.f k a0) (laws_FnUtilization.f (k + 1) a0) := by
  intro a0 k
  obtain ⟨ih0, ih1, ih2⟩ := laws_FnUtilization.mono_l k
  unfold laws_FnUtilization.f
  repeat' first
      | (with_reducible exact ih0 _ _ _ _ _ _)
      | (with_reducible exact ih1 _ _ _ _ _ _)
      | (with_reducible exact ih2 _ _ _ _ _ _)
      | (with_reducible exact impl_Hyperperiod.mono _ _)
      | (with_reducible exact impl_Utilization.mono _ _)
      | (with_reducible exact spec_DrawUtilization.mono _ _)
      | (with_reducible exact spec_SetValid.mono _ _)
      | (with_reducible exact spec_Utilization.mono _ _)
      | (with_reducible exact LeO.refl _)
      | (with_reducible exact LeO.none _)
      | (with_reducible refine LeO.ite ?_ ?_)
      | (with_reducible refine LeO.bind ?_ (fun _ => ?_))
      | exact ih0 _ _ _ _ _ _
      | exact ih1 _ _ _ _ _ _
      | exact ih2 _ _ _ _ _ _
      | exact impl_Hyperperiod.mono _ _
      | exact impl_Utilization.mono _ _
      | exact spec_DrawUtilization.mono _ _
      | exact spec_SetValid.mono _ _
      | exact spec_Utilization.mono _ _
      | exact LeO.none _
      | refine LeO.ite ?_ ?_
      | refine LeO.bind ?_ (fun _ => ?_)
def laws_FnUtilization.T14 : Bool × List (List Nat × List Nat) := (true, [([], []), ([], []), ([], []), ([1, 2], [1, 2]), ([3], [3]), ([4], [4]), ([], []), ([], []), ([], []), ([7, 8], [7, 8]), ([9], [9]), ([10], [10]), ([6, 11], [6, 11]), ([5, 12], [5, 12]), ([0, 13], [0, 13]), ([14, 0, 1, 2, 3, 4, 5, 6, 7, 8, 9, 10, 11, 12, 13, 14], [0, 14])])
def laws_FnUtilization.B14 : List Nat := [0, 0, 0, 6, 14, 30, 0, 0, 0, 384, 896, 1920, 4032, 8190, 16383, 32767]
theorem laws_FnUtilization.tab14 : rtab .any (opsOf Try.f8 14) = laws_FnUtilization.T14 := by kernel_rfl
theorem laws_FnUtilization.bits14 : waitsOk laws_FnUtilization.T14.2 laws_FnUtilization.B14 = true := by kernel_rfl
set_option maxHeartbeats 8000000 in
set_option maxRecDepth 100000 in
theorem laws_FnUtilization.calls (k : Nat) (A0 : Option Addr) (c0 : Nat) (l0 : List Int) (r : Bool) (w : World) (hr0 : Kd.C (Kd.int .u8) w A0 l0.length l0) (hc0 : l0.length ≤ c0) (h : laws_FnUtilization.f k l0 = some r) :
    Calls Try.prog 8 #[.slice A0 l0.length c0] w fun e w' => e = .returned (.bool r) ∧ Below w.heap.size w w' := by
  have hu36 := Try.underlying36
  have HR0 := Aside0.mk hr0
  have HC0 := Aside0.mk hc0
  clear hr0 hc0
  have HB := Aside0.mk (Below.refl w.heap.size w)
  have H : (if (l0.length : Int) > 1048576 then (some true) else ((spec_DrawUtilization.f k l0).bind fun t101 => ((impl_Utilization.f k t101).bind fun bt104 => ((spec_Utilization.f k t101).bind fun bt107 => (if (!(bt104.1 == bt107.1) || (!(bt104.2 == bt107.2))) = true then (some false) else ((spec_SetValid.f k t101).bind fun t109 => (if t109 = true then ((impl_Hyperperiod.f k t101).bind fun t111 => (laws_FnUtilization.l0 k t101 t111 0 0 bt104.1 bt104.2)) else (if (bt104.1 == 0 && (bt104.2 == 0)) = true then ((laws_alive.f).bind fun t110 => (some t110)) else (some false))))))))) = some r := h
  clear h
  by_cases c2 : (l0.length : Int) > 1048576
  · rw [if_pos c2] at H
    have c2b0 : decide (1048576 < (l0.length : Int)) = true := decide_eq_true c2
    have c2b1 : decide (1048576 < l0.length) = true := decide_eq_true (by omega)
    clear c2
    obtain rfl := Option.some.inj H
    go_enter Try.func8, Try.ntmps8
    go_wp2
    go_ret
    exact ⟨by first | rfl | (simp [errW_none, errW_some] <;> rfl) | (simp [*, errW_none, errW_some] <;> rfl), by repeat (first | (with_reducible first | exact HB.out | apply below_alloc | apply pw_below_drewN | apply below_drew1) | exact HB.out)⟩
  · rw [if_neg c2] at H
    have c2b0 : decide (1048576 < (l0.length : Int)) = false := decide_eq_false c2
    have c2b1 : decide (1048576 < l0.length) = false := decide_eq_false (by omega)
    clear c2
    replace H := Option.bind_eq_some_iff.mp H
    obtain ⟨t101, A30, H⟩ := H
    replace H : ((impl_Utilization.f k t101).bind fun bt104 => ((spec_Utilization.f k t101).bind fun bt107 => (if (!(bt104.1 == bt107.1) || (!(bt104.2 == bt107.2))) = true then (some false) else ((spec_SetValid.f k t101).bind fun t109 => (if t109 = true then ((impl_Hyperperiod.f k t101).bind fun t111 => (laws_FnUtilization.l0 k t101 t111 0 0 bt104.1 bt104.2)) else (if (bt104.1 == 0 && (bt104.2 == 0)) = true then ((laws_alive.f).bind fun t110 => (some t110)) else (some false))))))) = some r := H
    have A3 := Aside0.mk A30
    clear A30
    replace H := Option.bind_eq_some_iff.mp H
    obtain ⟨⟨t104, t105⟩, A40, H⟩ := H
    replace H : ((spec_Utilization.f k t101).bind fun bt107 => (if (!(t104 == bt107.1) || (!(t105 == bt107.2))) = true then (some false) else ((spec_SetValid.f k t101).bind fun t109 => (if t109 = true then ((impl_Hyperperiod.f k t101).bind fun t111 => (laws_FnUtilization.l0 k t101 t111 0 0 t104 t105)) else (if (t104 == 0 && (t105 == 0)) = true then ((laws_alive.f).bind fun t110 => (some t110)) else (some false)))))) = some r := H
    have A4 := Aside0.mk A40
    clear A40
    replace H := Option.bind_eq_some_iff.mp H
    obtain ⟨⟨t107, t108⟩, A50, H⟩ := H
    replace H : (if (!(t104 == t107) || (!(t105 == t108))) = true then (some false) else ((spec_SetValid.f k t101).bind fun t109 => (if t109 = true then ((impl_Hyperperiod.f k t101).bind fun t111 => (laws_FnUtilization.l0 k t101 t111 0 0 t104 t105)) else (if (t104 == 0 && (t105 == 0)) = true then ((laws_alive.f).bind fun t110 => (some t110)) else (some false))))) = some r := H
    have A5 := Aside0.mk A50
    clear A50
    by_cases c6 : (!(t104 == t107) || (!(t105 == t108))) = true
    · rw [if_pos c6] at H
      have c6b0 : (!(t104 == t107) || (!(t105 == t108))) = true := c6
      clear c6
      obtain rfl := Option.some.inj H
      go_enter Try.func8, Try.ntmps8
      try go_wp2_with (first | ((with_reducible refine gate_callee (f := 24) rfl ?_); refine goesL_ (some 15) rfl rfl Try.func24 (by kernel_rfl) rfl #[.slice A0 l0.length c0] rfl (by (try simp only [List.map_toArray, List.map_cons, List.map_nil]); first | done | rfl | (simp only [List.length_drop, List.length_take]; rfl)) ?_; (with_reducible refine (spec_DrawUtilization.calls k _ _ l0 t101 _ ?side1 ?side2 A3.out).mono ?_); (case side1 => repeat (first | exact HR0.out | (with_reducible refine Kd.C_alloc ?_ _) | (with_reducible refine Kd.C_drewN ?_ _) | (with_reducible refine Kd.C_drew ?_))); (case side2 => exact HC0.out); rintro e w7 ⟨v102, rfl, ho0, hb⟩; refine ⟨_, rfl, ?_⟩; have n0_ := Aside0.mk (Kd.R_lower ho0 (below_size (by repeat (first | (with_reducible first | exact HB.out | apply below_alloc | apply pw_below_drewN | apply below_drew1) | exact HB.out)))); have n1_ := Aside0.mk (below_step (by repeat (first | (with_reducible first | exact HB.out | apply below_alloc | apply pw_below_drewN | apply below_drew1) | exact HB.out)) hb); clear HB; have HO103 := n0_; have HB := n1_; clear n0_ n1_; (try clear hb); (try clear hb2); (try clear hk); (try clear hi); (try clear ho0); obtain ⟨Ao8, co8, eo8⟩ := Kd.R_slice HO103.out; subst eo8) | ((with_reducible refine gate_callee (f := 25) rfl ?_); refine goesL_ (some 17) rfl rfl Try.func25 (by kernel_rfl) rfl #[.slice Ao8 t101.length co8] rfl (by (try simp only [List.map_toArray, List.map_cons, List.map_nil]); first | done | rfl | (simp only [List.length_drop, List.length_take]; rfl)) ?_; (with_reducible refine (impl_Utilization.calls k _ _ t101 t104 t105 _ ?side1 ?side2 A4.out).mono ?_); (case side1 => repeat (first | exact (Kd.R_reads' HO103.out).2.2 | (with_reducible refine Kd.C_alloc ?_ _) | (with_reducible refine Kd.C_drewN ?_ _) | (with_reducible refine Kd.C_drew ?_))); (case side2 => exact (Kd.R_reads' HO103.out).2.1); rintro e w9 ⟨rfl, hb⟩; refine ⟨_, rfl, ?_⟩; have n0_ := Aside0.mk (Kd.R_below (by (with_reducible repeat (first | apply Kd.R_alloc | apply Kd.R_drewN | apply Kd.R_drew)); exact HO103.out) hb); have n1_ := Aside0.mk (below_step (by repeat (first | (with_reducible first | exact HB.out | apply below_alloc | apply pw_below_drewN | apply below_drew1) | exact HB.out)) hb); clear HO103; clear HB; have HO103 := n0_; have HB := n1_; clear n0_ n1_; (try clear hb); (try clear hb2); (try clear hk); (try clear hi)) | ((with_reducible refine gate_dst (N := 4) rfl ?_); refine box_event ?hg (N := 4) ?hd (cs := #[.int .i64 0, .int .i64 0]) (t := 36) ?hr ?_; (case hd => rfl); (case hg => rfl); (case hr => first | (go_simp; done) | (go_simp; rfl)); intro gb106 hg w10 hbox hb; have n0_ := Aside0.mk (Kd.R_below (by (with_reducible repeat (first | apply Kd.R_alloc | apply Kd.R_drewN | apply Kd.R_drew)); exact HO103.out) hb); have n1_ := Aside0.mk (below_step (by repeat (first | (with_reducible first | exact HB.out | apply below_alloc | apply pw_below_drewN | apply below_drew1) | exact HB.out)) hb); have n2_ := Aside0.mk (hbox); have n3_ := Aside0.mk ((by rw [hg]; exact (below_size (by repeat (first | (with_reducible first | exact HB.out | apply below_alloc | apply pw_below_drewN | apply below_drew1) | exact HB.out))) : w.heap.size ≤ gb106)); have n4_ := Aside0.mk ((by rw [hg]; exact (below_size (by repeat (first | (with_reducible first | exact HB.out | apply below_alloc | apply pw_below_drewN | apply below_drew1) | exact HB.out))) : w.heap.size ≤ gb106)); clear HO103; clear HB; have HO103 := n0_; have HB := n1_; have BK106 := n2_; have GW106 := n3_; have GE106 := n4_; clear n0_ n1_ n2_ n3_ n4_; clear hb hbox hg; have hcz11_0 : w10.cell? ⟨gb106, 0, none⟩ = some (.int .i64 0) := (blk_cell BK106.out 0).trans rfl; have hcz11_1 : w10.cell? ⟨gb106, 1, none⟩ = some (.int .i64 0) := (blk_cell BK106.out 1).trans rfl; have hfz11_0 := blk_frozen BK106.out 0; have hfz11_1 := blk_frozen BK106.out 1))
      have n0_ : Aside0 (Kd.R k29 29 ((w10.setCell ⟨gb106, 0, none⟩ (.int .i64 t104)).setCell ⟨gb106, 1, none⟩ (.int .i64 t105)) w.heap.size (fun _ => True) (.slice Ao8 t101.length co8) t101) := ⟨by (with_reducible repeat (first | apply Kd.R_alloc | apply Kd.R_drewN | apply Kd.R_drew)); exact Kd.R_mono (Kd.R_far (p := ⟨gb106, 1, none⟩) (Kd.R_far (p := ⟨gb106, 0, none⟩) (Kd.R_types HO103.out BK106.out (by decide)) (fun _ hk => hk.2) (.int .i64 t104)) (fun _ hk => hk.2) (.int .i64 t105)) (fun _ hk => trivial)⟩
      have n1_ : Aside0 (((w10.setCell ⟨gb106, 0, none⟩ (.int .i64 t104)).setCell ⟨gb106, 1, none⟩ (.int .i64 t105)).heap[gb106]? = some (.cells #[.int .i64 t104, .int .i64 t105] 36 (0, 0))) := ⟨by (with_reducible repeat (first | refine blk_drewN ?_ _ | refine blk_drew ?_ | refine blk_alloc ?_ _)); refine blk_put (cs := #[.int .i64 t104, .int .i64 0]) ?_ 1 _ rfl; (with_reducible repeat (first | refine blk_drewN ?_ _ | refine blk_drew ?_ | refine blk_alloc ?_ _)); refine blk_put (cs := #[.int .i64 0, .int .i64 0]) ?_ 0 _ rfl; (with_reducible repeat (first | refine blk_drewN ?_ _ | refine blk_drew ?_ | refine blk_alloc ?_ _)); exact BK106.out⟩
      have n2_ : Aside0 (Below w.heap.size w ((w10.setCell ⟨gb106, 0, none⟩ (.int .i64 t104)).setCell ⟨gb106, 1, none⟩ (.int .i64 t105))) := ⟨by repeat (first | (with_reducible first | exact HB.out | apply below_alloc | apply pw_below_drewN | apply below_drew1 | refine below_set ?_ GE106.out) | exact HB.out)⟩
      (try clear HO103)
      (try clear BK106)
      (try clear HB)
      generalize ((w10.setCell ⟨gb106, 0, none⟩ (.int .i64 t104)).setCell ⟨gb106, 1, none⟩ (.int .i64 t105)) = w12 at n0_ n1_ n2_ ⊢
      have HO103 := n0_
      have BK106 := n1_
      have HB := n2_
      clear n0_ n1_ n2_
      have n0_ := Aside0.mk (Kd.R_drew HO103.out)
      have n1_ := Aside0.mk (blk_drew BK106.out)
      have n2_ := Aside0.mk (below_drew1 HB.out)
      clear HO103
      clear BK106
      clear HB
      have HO103 := n0_
      have BK106 := n1_
      have HB := n2_
      clear n0_ n1_ n2_
      refine start_ (n := 4) (S := fun w' => w'.cell? ⟨gb106, 0, none⟩ = some (.int .i64 t104) ∧ w'.cell? ⟨gb106, 1, none⟩ = some (.int .i64 t105)) (ds := []) #[false, false, false, false] (by kernel_rfl) rfl rfl ⟨(blk_cell BK106.out 0).trans rfl, (blk_cell BK106.out 1).trans rfl⟩ (fun hHeld => ?_)
      generalize w12.drew = w13 at HO103 BK106 HB hHeld ⊢
      refine pure_ (i := 1) (N := some 19) (v := ?_) (a' := ?_) #[false, true, false, false] rfl rfl (by kernel_rfl) (fun _ _ _ h => h) (Or.inl ⟨by rfl, ?_⟩) ?_ ?_
      rotate_left
      · intro w'
        go_simp
        with_reducible rfl
      rotate_left
      · simp only [Act.put, List.setIfInBounds_toArray, List.set_cons_zero, List.set_cons_succ, i64_w, i32_w]
        rfl
      refine take_ (i := 0) (N := some 18) (v := ?_) (a' := ?_) #[true, true, false, false] rfl rfl (by kernel_rfl) (fun _ _ _ h => h) (Or.inl ⟨by rfl, ?_⟩) hHeld ?_ ?_
      rotate_left
      · rintro w' ⟨s0, s1⟩
        go_simp
        with_reducible rfl
      rotate_left
      · simp only [Act.put, List.setIfInBounds_toArray, List.set_cons_zero, List.set_cons_succ, i64_w, i32_w]
        rfl
      refine one_ (i := 2) (N := some 20) #[true, true, true, false] rfl rfl (by kernel_rfl) (by decide) (fun K hK => ?_)
      refine goes_ Try.func26 (by kernel_rfl) rfl #[.slice Ao8 t101.length co8] (by rfl) rfl rfl (by (try simp only [List.map_toArray, List.map_cons, List.map_nil]); first | done | rfl | (simp only [List.length_drop, List.length_take]; rfl)) ?_
      with_reducible refine (spec_Utilization.calls k _ _ t101 t107 t108 _ ?side1 ?side2 A5.out).mono ?_
      (case side1 => repeat (first | exact (Kd.R_reads' HO103.out).2.2 | (with_reducible refine Kd.C_alloc ?_ _) | (with_reducible refine Kd.C_drewN ?_ _) | (with_reducible refine Kd.C_drew ?_)))
      (case side2 => exact (Kd.R_reads' HO103.out).2.1)
      rintro e w14 ⟨rfl, hb⟩
      refine ⟨_, rfl, ?_⟩
      have n0_ := Aside0.mk (Kd.R_below (by (with_reducible repeat (first | apply Kd.R_alloc | apply Kd.R_drewN | apply Kd.R_drew)); exact HO103.out) hb)
      have n1_ := Aside0.mk (blk_below (g := gb106) (o := .cells #[.int .i64 t104, .int .i64 t105] 36 (0, 0)) (by (with_reducible repeat (first | refine blk_drewN ?_ _ | refine blk_drew ?_ | refine blk_alloc ?_ _)); exact BK106.out) hb)
      have n2_ := Aside0.mk (below_step (by repeat (first | (with_reducible first | exact HB.out | apply below_alloc | apply pw_below_drewN | apply below_drew1 | refine below_set ?_ GE106.out) | exact HB.out)) hb)
      clear HO103
      clear BK106
      clear HB
      have HO103 := n0_
      have BK106 := n1_
      have HB := n2_
      clear n0_ n1_ n2_
      (try clear hb)
      (try clear hb2)
      (try clear hk)
      (try clear hi)
      refine hK.out _ _ ⟨(blk_cell BK106.out 0).trans rfl, (blk_cell BK106.out 1).trans rfl⟩ (fun hHeld => ?_)
      clear hK K
      refine norm_ (a' := ?_) ?_ ?_
      rotate_left
      · show Act.put _ (some 20) _ = _
        simp only [Act.put, List.setIfInBounds_toArray, List.set_cons_zero, List.set_cons_succ, i64_w, i32_w]
        rfl
      refine pure_ (i := 3) (N := some 21) (v := ?_) (a' := ?_) #[true, true, true, true] rfl rfl (by kernel_rfl) (fun _ _ _ h => h) (Or.inl ⟨by rfl, ?_⟩) ?_ ?_
      rotate_left
      · intro w'
        go_simp
        with_reducible rfl
      rotate_left
      · simp only [Act.put, List.setIfInBounds_toArray, List.set_cons_zero, List.set_cons_succ, i64_w, i32_w]
        rfl
      refine done_ (by kernel_rfl) ?_
      try go_wp2
      go_ret
      exact ⟨by first | rfl | (simp [errW_none, errW_some] <;> rfl) | (simp [*, errW_none, errW_some] <;> rfl), by repeat (first | (with_reducible first | exact HB.out | apply below_alloc | apply pw_below_drewN | apply below_drew1 | refine below_set ?_ GE106.out) | exact HB.out)⟩
    · rw [if_neg c6] at H
      have c6b0 : (!(t104 == t107) || (!(t105 == t108))) = false := by simpa using c6
      clear c6
      replace H := Option.bind_eq_some_iff.mp H
      obtain ⟨t109, A150, H⟩ := H
      replace H : (if t109 = true then ((impl_Hyperperiod.f k t101).bind fun t111 => (laws_FnUtilization.l0 k t101 t111 0 0 t104 t105)) else (if (t104 == 0 && (t105 == 0)) = true then ((laws_alive.f).bind fun t110 => (some t110)) else (some false))) = some r := H
      have A15 := Aside0.mk A150
      clear A150
      by_cases c16 : t109 = true
      · subst c16
        have H1 : ((impl_Hyperperiod.f k t101).bind fun t111 => (laws_FnUtilization.l0 k t101 t111 0 0 t104 t105)) = some r := by rw [if_pos rfl] at H; exact H
        clear H
        have H := H1
        clear H1
        replace H := Option.bind_eq_some_iff.mp H
        obtain ⟨t111, A170, H⟩ := H
        replace H : (laws_FnUtilization.l0 k t101 t111 0 0 t104 t105) = some r := H
        have A17 := Aside0.mk A170
        clear A170
        have H' := Aside0.mk H
        clear H
        go_enter Try.func8, Try.ntmps8
        try go_wp2_with (first | ((with_reducible refine gate_callee (f := 24) rfl ?_); refine goesL_ (some 15) rfl rfl Try.func24 (by kernel_rfl) rfl #[.slice A0 l0.length c0] rfl (by (try simp only [List.map_toArray, List.map_cons, List.map_nil]); first | done | rfl | (simp only [List.length_drop, List.length_take]; rfl)) ?_; (with_reducible refine (spec_DrawUtilization.calls k _ _ l0 t101 _ ?side1 ?side2 A3.out).mono ?_); (case side1 => repeat (first | exact HR0.out | (with_reducible refine Kd.C_alloc ?_ _) | (with_reducible refine Kd.C_drewN ?_ _) | (with_reducible refine Kd.C_drew ?_))); (case side2 => exact HC0.out); rintro e w18 ⟨v102, rfl, ho0, hb⟩; refine ⟨_, rfl, ?_⟩; have n0_ := Aside0.mk (Kd.R_lower ho0 (below_size (by repeat (first | (with_reducible first | exact HB.out | apply below_alloc | apply pw_below_drewN | apply below_drew1) | exact HB.out)))); have n1_ := Aside0.mk (below_step (by repeat (first | (with_reducible first | exact HB.out | apply below_alloc | apply pw_below_drewN | apply below_drew1) | exact HB.out)) hb); clear HB; have HO103 := n0_; have HB := n1_; clear n0_ n1_; (try clear hb); (try clear hb2); (try clear hk); (try clear hi); (try clear ho0); obtain ⟨Ao19, co19, eo19⟩ := Kd.R_slice HO103.out; subst eo19) | ((with_reducible refine gate_callee (f := 25) rfl ?_); refine goesL_ (some 17) rfl rfl Try.func25 (by kernel_rfl) rfl #[.slice Ao19 t101.length co19] rfl (by (try simp only [List.map_toArray, List.map_cons, List.map_nil]); first | done | rfl | (simp only [List.length_drop, List.length_take]; rfl)) ?_; (with_reducible refine (impl_Utilization.calls k _ _ t101 t104 t105 _ ?side1 ?side2 A4.out).mono ?_); (case side1 => repeat (first | exact (Kd.R_reads' HO103.out).2.2 | (with_reducible refine Kd.C_alloc ?_ _) | (with_reducible refine Kd.C_drewN ?_ _) | (with_reducible refine Kd.C_drew ?_))); (case side2 => exact (Kd.R_reads' HO103.out).2.1); rintro e w20 ⟨rfl, hb⟩; refine ⟨_, rfl, ?_⟩; have n0_ := Aside0.mk (Kd.R_below (by (with_reducible repeat (first | apply Kd.R_alloc | apply Kd.R_drewN | apply Kd.R_drew)); exact HO103.out) hb); have n1_ := Aside0.mk (below_step (by repeat (first | (with_reducible first | exact HB.out | apply below_alloc | apply pw_below_drewN | apply below_drew1) | exact HB.out)) hb); clear HO103; clear HB; have HO103 := n0_; have HB := n1_; clear n0_ n1_; (try clear hb); (try clear hb2); (try clear hk); (try clear hi)) | ((with_reducible refine gate_dst (N := 4) rfl ?_); refine box_event ?hg (N := 4) ?hd (cs := #[.int .i64 0, .int .i64 0]) (t := 36) ?hr ?_; (case hd => rfl); (case hg => rfl); (case hr => first | (go_simp; done) | (go_simp; rfl)); intro gb106 hg w21 hbox hb; have n0_ := Aside0.mk (Kd.R_below (by (with_reducible repeat (first | apply Kd.R_alloc | apply Kd.R_drewN | apply Kd.R_drew)); exact HO103.out) hb); have n1_ := Aside0.mk (below_step (by repeat (first | (with_reducible first | exact HB.out | apply below_alloc | apply pw_below_drewN | apply below_drew1) | exact HB.out)) hb); have n2_ := Aside0.mk (hbox); have n3_ := Aside0.mk ((by rw [hg]; exact (below_size (by repeat (first | (with_reducible first | exact HB.out | apply below_alloc | apply pw_below_drewN | apply below_drew1) | exact HB.out))) : w.heap.size ≤ gb106)); have n4_ := Aside0.mk ((by rw [hg]; exact (below_size (by repeat (first | (with_reducible first | exact HB.out | apply below_alloc | apply pw_below_drewN | apply below_drew1) | exact HB.out))) : w.heap.size ≤ gb106)); clear HO103; clear HB; have HO103 := n0_; have HB := n1_; have BK106 := n2_; have GW106 := n3_; have GE106 := n4_; clear n0_ n1_ n2_ n3_ n4_; clear hb hbox hg; have hcz22_0 : w21.cell? ⟨gb106, 0, none⟩ = some (.int .i64 0) := (blk_cell BK106.out 0).trans rfl; have hcz22_1 : w21.cell? ⟨gb106, 1, none⟩ = some (.int .i64 0) := (blk_cell BK106.out 1).trans rfl; have hfz22_0 := blk_frozen BK106.out 0; have hfz22_1 := blk_frozen BK106.out 1))
        have n0_ : Aside0 (Kd.R k29 29 ((w21.setCell ⟨gb106, 0, none⟩ (.int .i64 t104)).setCell ⟨gb106, 1, none⟩ (.int .i64 t105)) w.heap.size (fun _ => True) (.slice Ao19 t101.length co19) t101) := ⟨by (with_reducible repeat (first | apply Kd.R_alloc | apply Kd.R_drewN | apply Kd.R_drew)); exact Kd.R_mono (Kd.R_far (p := ⟨gb106, 1, none⟩) (Kd.R_far (p := ⟨gb106, 0, none⟩) (Kd.R_types HO103.out BK106.out (by decide)) (fun _ hk => hk.2) (.int .i64 t104)) (fun _ hk => hk.2) (.int .i64 t105)) (fun _ hk => trivial)⟩
        have n1_ : Aside0 (((w21.setCell ⟨gb106, 0, none⟩ (.int .i64 t104)).setCell ⟨gb106, 1, none⟩ (.int .i64 t105)).heap[gb106]? = some (.cells #[.int .i64 t104, .int .i64 t105] 36 (0, 0))) := ⟨by (with_reducible repeat (first | refine blk_drewN ?_ _ | refine blk_drew ?_ | refine blk_alloc ?_ _)); refine blk_put (cs := #[.int .i64 t104, .int .i64 0]) ?_ 1 _ rfl; (with_reducible repeat (first | refine blk_drewN ?_ _ | refine blk_drew ?_ | refine blk_alloc ?_ _)); refine blk_put (cs := #[.int .i64 0, .int .i64 0]) ?_ 0 _ rfl; (with_reducible repeat (first | refine blk_drewN ?_ _ | refine blk_drew ?_ | refine blk_alloc ?_ _)); exact BK106.out⟩
        have n2_ : Aside0 (Below w.heap.size w ((w21.setCell ⟨gb106, 0, none⟩ (.int .i64 t104)).setCell ⟨gb106, 1, none⟩ (.int .i64 t105))) := ⟨by repeat (first | (with_reducible first | exact HB.out | apply below_alloc | apply pw_below_drewN | apply below_drew1 | refine below_set ?_ GE106.out) | exact HB.out)⟩
        (try clear HO103)
        (try clear BK106)
        (try clear HB)
        generalize ((w21.setCell ⟨gb106, 0, none⟩ (.int .i64 t104)).setCell ⟨gb106, 1, none⟩ (.int .i64 t105)) = w23 at n0_ n1_ n2_ ⊢
        have HO103 := n0_
        have BK106 := n1_
        have HB := n2_
        clear n0_ n1_ n2_
        have n0_ := Aside0.mk (Kd.R_drew HO103.out)
        have n1_ := Aside0.mk (blk_drew BK106.out)
        have n2_ := Aside0.mk (below_drew1 HB.out)
        clear HO103
        clear BK106
        clear HB
        have HO103 := n0_
        have BK106 := n1_
        have HB := n2_
        clear n0_ n1_ n2_
        refine start_ (n := 4) (S := fun w' => w'.cell? ⟨gb106, 0, none⟩ = some (.int .i64 t104) ∧ w'.cell? ⟨gb106, 1, none⟩ = some (.int .i64 t105)) (ds := []) #[false, false, false, false] (by kernel_rfl) rfl rfl ⟨(blk_cell BK106.out 0).trans rfl, (blk_cell BK106.out 1).trans rfl⟩ (fun hHeld => ?_)
        generalize w23.drew = w24 at HO103 BK106 HB hHeld ⊢
        refine pure_ (i := 1) (N := some 19) (v := ?_) (a' := ?_) #[false, true, false, false] rfl rfl (by kernel_rfl) (fun _ _ _ h => h) (Or.inl ⟨by rfl, ?_⟩) ?_ ?_
        rotate_left
        · intro w'
          go_simp
          with_reducible rfl
        rotate_left
        · simp only [Act.put, List.setIfInBounds_toArray, List.set_cons_zero, List.set_cons_succ, i64_w, i32_w]
          rfl
        refine take_ (i := 0) (N := some 18) (v := ?_) (a' := ?_) #[true, true, false, false] rfl rfl (by kernel_rfl) (fun _ _ _ h => h) (Or.inl ⟨by rfl, ?_⟩) hHeld ?_ ?_
        rotate_left
        · rintro w' ⟨s0, s1⟩
          go_simp
          with_reducible rfl
        rotate_left
        · simp only [Act.put, List.setIfInBounds_toArray, List.set_cons_zero, List.set_cons_succ, i64_w, i32_w]
          rfl
        refine one_ (i := 2) (N := some 20) #[true, true, true, false] rfl rfl (by kernel_rfl) (by decide) (fun K hK => ?_)
        refine goes_ Try.func26 (by kernel_rfl) rfl #[.slice Ao19 t101.length co19] (by rfl) rfl rfl (by (try simp only [List.map_toArray, List.map_cons, List.map_nil]); first | done | rfl | (simp only [List.length_drop, List.length_take]; rfl)) ?_
        with_reducible refine (spec_Utilization.calls k _ _ t101 t107 t108 _ ?side1 ?side2 A5.out).mono ?_
        (case side1 => repeat (first | exact (Kd.R_reads' HO103.out).2.2 | (with_reducible refine Kd.C_alloc ?_ _) | (with_reducible refine Kd.C_drewN ?_ _) | (with_reducible refine Kd.C_drew ?_)))
        (case side2 => exact (Kd.R_reads' HO103.out).2.1)
        rintro e w25 ⟨rfl, hb⟩
        refine ⟨_, rfl, ?_⟩
        have n0_ := Aside0.mk (Kd.R_below (by (with_reducible repeat (first | apply Kd.R_alloc | apply Kd.R_drewN | apply Kd.R_drew)); exact HO103.out) hb)
        have n1_ := Aside0.mk (blk_below (g := gb106) (o := .cells #[.int .i64 t104, .int .i64 t105] 36 (0, 0)) (by (with_reducible repeat (first | refine blk_drewN ?_ _ | refine blk_drew ?_ | refine blk_alloc ?_ _)); exact BK106.out) hb)
        have n2_ := Aside0.mk (below_step (by repeat (first | (with_reducible first | exact HB.out | apply below_alloc | apply pw_below_drewN | apply below_drew1 | refine below_set ?_ GE106.out) | exact HB.out)) hb)
        clear HO103
        clear BK106
        clear HB
        have HO103 := n0_
        have BK106 := n1_
        have HB := n2_
        clear n0_ n1_ n2_
        (try clear hb)
        (try clear hb2)
        (try clear hk)
        (try clear hi)
        refine hK.out _ _ ⟨(blk_cell BK106.out 0).trans rfl, (blk_cell BK106.out 1).trans rfl⟩ (fun hHeld => ?_)
        clear hK K
        refine norm_ (a' := ?_) ?_ ?_
        rotate_left
        · show Act.put _ (some 20) _ = _
          simp only [Act.put, List.setIfInBounds_toArray, List.set_cons_zero, List.set_cons_succ, i64_w, i32_w]
          rfl
        refine pure_ (i := 3) (N := some 21) (v := ?_) (a' := ?_) #[true, true, true, true] rfl rfl (by kernel_rfl) (fun _ _ _ h => h) (Or.inl ⟨by rfl, ?_⟩) ?_ ?_
        rotate_left
        · intro w'
          go_simp
          with_reducible rfl
        rotate_left
        · simp only [Act.put, List.setIfInBounds_toArray, List.set_cons_zero, List.set_cons_succ, i64_w, i32_w]
          rfl
        refine done_ (by kernel_rfl) ?_
        try go_wp2_with (first | ((with_reducible refine gate_callee (f := 14) rfl ?_); refine goesL_ (some 23) rfl rfl Try.func14 (by kernel_rfl) rfl #[.slice Ao19 t101.length co19] rfl (by (try simp only [List.map_toArray, List.map_cons, List.map_nil]); first | done | rfl | (simp only [List.length_drop, List.length_take]; rfl)) ?_; (with_reducible refine (spec_SetValid.calls k _ _ t101 true _ ?side1 ?side2 A15.out).mono ?_); (case side1 => repeat (first | exact (Kd.R_reads' HO103.out).2.2 | (with_reducible refine Kd.C_alloc ?_ _) | (with_reducible refine Kd.C_drewN ?_ _) | (with_reducible refine Kd.C_drew ?_))); (case side2 => exact (Kd.R_reads' HO103.out).2.1); rintro e w26 ⟨rfl, hb⟩; refine ⟨_, rfl, ?_⟩; have n0_ := Aside0.mk (Kd.R_below (by (with_reducible repeat (first | apply Kd.R_alloc | apply Kd.R_drewN | apply Kd.R_drew)); exact HO103.out) hb); have n1_ := Aside0.mk (blk_below (g := gb106) (o := .cells #[.int .i64 t104, .int .i64 t105] 36 (0, 0)) (by (with_reducible repeat (first | refine blk_drewN ?_ _ | refine blk_drew ?_ | refine blk_alloc ?_ _)); exact BK106.out) hb); have n2_ := Aside0.mk (below_step (by repeat (first | (with_reducible first | exact HB.out | apply below_alloc | apply pw_below_drewN | apply below_drew1 | refine below_set ?_ GE106.out) | exact HB.out)) hb); clear HO103; clear BK106; clear HB; have HO103 := n0_; have BK106 := n1_; have HB := n2_; clear n0_ n1_ n2_; (try clear hb); (try clear hb2); (try clear hk); (try clear hi)) | ((with_reducible refine gate_callee (f := 12) rfl ?_); refine goesL_ (some 32) rfl rfl Try.func12 (by kernel_rfl) rfl #[.slice Ao19 t101.length co19] rfl (by (try simp only [List.map_toArray, List.map_cons, List.map_nil]); first | done | rfl | (simp only [List.length_drop, List.length_take]; rfl)) ?_; (with_reducible refine (impl_Hyperperiod.calls k _ _ t101 t111 _ ?side1 ?side2 A17.out).mono ?_); (case side1 => repeat (first | exact (Kd.R_reads' HO103.out).2.2 | (with_reducible refine Kd.C_alloc ?_ _) | (with_reducible refine Kd.C_drewN ?_ _) | (with_reducible refine Kd.C_drew ?_))); (case side2 => exact (Kd.R_reads' HO103.out).2.1); rintro e w27 ⟨rfl, hb⟩; refine ⟨_, rfl, ?_⟩; have n0_ := Aside0.mk (Kd.R_below (by (with_reducible repeat (first | apply Kd.R_alloc | apply Kd.R_drewN | apply Kd.R_drew)); exact HO103.out) hb); have n1_ := Aside0.mk (blk_below (g := gb106) (o := .cells #[.int .i64 t104, .int .i64 t105] 36 (0, 0)) (by (with_reducible repeat (first | refine blk_drewN ?_ _ | refine blk_drew ?_ | refine blk_alloc ?_ _)); exact BK106.out) hb); have n2_ := Aside0.mk (below_step (by repeat (first | (with_reducible first | exact HB.out | apply below_alloc | apply pw_below_drewN | apply below_drew1 | refine below_set ?_ GE106.out) | exact HB.out)) hb); clear HO103; clear BK106; clear HB; have HO103 := n0_; have BK106 := n1_; have HB := n2_; clear n0_ n1_ n2_; (try clear hb); (try clear hb2); (try clear hk); (try clear hi)))
        go_loopg [6, 7] k (fun kq v6 v7 w' => ∃ (x6_1 : Int) (x7_1 : Int), v6 = .int .i64 x6_1 ∧ v7 = .int .i64 x7_1 ∧ Aside0 (laws_FnUtilization.l0 kq t101 t111 x6_1 x7_1 t104 t105 = some r) ∧ Aside0 (kq ≤ k) ∧ Aside0 (Kd.R k29 29 w' w.heap.size (fun _ => True) (.slice Ao19 t101.length co19) t101) ∧ Aside0 (w'.heap[gb106]? = some (.cells #[.int .i64 t104, .int .i64 t105] 36 (0, 0))) ∧ Aside0 (Below w.heap.size w w'))
        case atStart => exact ⟨(0), (0), (by first | rfl | (simp; done) | (simp [*]; done)), (by first | rfl | (simp; done) | (simp [*]; done)), H', ⟨Nat.le_refl _⟩, ⟨by (with_reducible repeat (first | apply Kd.R_alloc | apply Kd.R_drewN | apply Kd.R_drew)); exact HO103.out⟩, ⟨by (with_reducible repeat (first | refine blk_drewN ?_ _ | refine blk_drew ?_ | refine blk_alloc ?_ _)); exact BK106.out⟩, ⟨by repeat (first | (with_reducible first | exact HB.out | apply below_alloc | apply pw_below_drewN | apply below_drew1 | refine below_set ?_ GE106.out) | exact HB.out)⟩⟩
        case round =>
          clear H'
          try clear c1
          try clear c2
          try clear c2b0
          try clear c2b1
          try clear p2
          try clear c6
          try clear c6b0
          try clear c8
          try clear c12
          try clear c14
          try clear c16
          try clear c24
          try clear c25
          try clear c26
          try clear hcz11_0
          try clear hcz11_1
          try clear hcz22_0
          try clear hcz22_1
          try clear hfz11_0
          try clear hfz11_1
          try clear hfz22_0
          try clear hfz22_1
          obtain ⟨x6_1, x7_1, rfl, rfl, HA, HK1, HO_3, BK106, HB⟩ := hrel
          cases gk with
          | zero => exact absurd HA.out (by simp [laws_FnUtilization.l0])
          | succ k1 =>
            have H := HA.out
            clear HA
            simp only [laws_FnUtilization.l0] at H
            by_cases c28 : x7_1 < (t101.length : Int)
            · rw [if_pos c28] at H
              have c28b0 : decide (x7_1 < (t101.length : Int)) = true := decide_eq_true c28
              clear c28
              by_cases c29 : 0 ≤ x7_1
              · rw [if_pos c29] at H
                have c29b0 : decide (0 ≤ x7_1) = true := decide_eq_true c29
                clear c29
                by_cases c30 : ((rd_T29 t101 x7_1).f2) = 0
                · rw [if_pos c30] at H
                  exact absurd H (by simp)
                · rw [if_neg c30] at H
                  have c30b0 : (((rd_T29 t101 x7_1).f2) == 0) = false := beq_eq_false_iff_ne.mpr c30
                  have c30b1 : (((rd_T29 t101 x7_1).f2) != 0) = true := bne_iff_ne.mpr c30
                  have H' := Aside0.mk H
                  clear H
                  try go_wp2
                  have n0_ := Aside0.mk (Kd.R_drew HO_3.out)
                  have n1_ := Aside0.mk (blk_drew BK106.out)
                  have n2_ := Aside0.mk (below_drew1 HB.out)
                  clear HO_3
                  clear BK106
                  clear HB
                  have HO_3 := n0_
                  have BK106 := n1_
                  have HB := n2_
                  clear n0_ n1_ n2_
                  have p112 : 0 ≤ (x7_1 : Int) := of_decide_eq_true (by first | (with_reducible assumption) | assumption)
                  have q112 : x7_1 < (t101.length : Int) := of_decide_eq_true (by first | (with_reducible assumption) | assumption)
                  obtain ⟨ad112, e112, hx112_0, hx112_1, hx112_2⟩ := at_T29 (Kd.R_reads' HO_3.out).2.2 x7_1 p112 q112
                  cases e112
                  replace p112 := eq_true p112
                  replace q112 := eq_true q112
                  have p113 : 0 ≤ (x7_1 : Int) := of_decide_eq_true (by first | (with_reducible assumption) | assumption)
                  have q113 : x7_1 < (t101.length : Int) := of_decide_eq_true (by first | (with_reducible assumption) | assumption)
                  obtain ⟨ad113, e113, hx113_0, hx113_1, hx113_2⟩ := at_T29 (Kd.R_reads' HO_3.out).2.2 x7_1 p113 q113
                  obtain rfl : ad112 = ad113 := (by injection e113)
                  replace p113 := eq_true p113
                  replace q113 := eq_true q113
                  refine start_ (n := 16) (S := fun w' => w'.cell? (ad112.add ((x7_1).toNat * 3)) = some (.int .i64 ((rd_T29 t101 x7_1).f0)) ∧ w'.cell? ⟨(ad112.add ((x7_1).toNat * 3)).block, (ad112.add ((x7_1).toNat * 3)).off + 1, none⟩ = some (.int .i64 ((rd_T29 t101 x7_1).f1)) ∧ w'.cell? ⟨(ad112.add ((x7_1).toNat * 3)).block, (ad112.add ((x7_1).toNat * 3)).off + 2, none⟩ = some (.int .i64 ((rd_T29 t101 x7_1).f2)) ∧ w'.cell? (ad112.add ((x7_1).toNat * 3)) = some (.int .i64 ((rd_T29 t101 x7_1).f0)) ∧ w'.cell? ⟨(ad112.add ((x7_1).toNat * 3)).block, (ad112.add ((x7_1).toNat * 3)).off + 1, none⟩ = some (.int .i64 ((rd_T29 t101 x7_1).f1)) ∧ w'.cell? ⟨(ad112.add ((x7_1).toNat * 3)).block, (ad112.add ((x7_1).toNat * 3)).off + 2, none⟩ = some (.int .i64 ((rd_T29 t101 x7_1).f2))) (ds := []) #[false, false, false, false, false, false, false, false, false, false, false, false, false, false, false, false] (by kernel_rfl) rfl rfl ⟨hx112_0, hx112_1, hx112_2, hx113_0, hx113_1, hx113_2⟩ (fun hHeld => ?_); refine with_tabW laws_FnUtilization.tab14 laws_FnUtilization.bits14 (fun HT_ HW_ => ?_)
                  generalize wr.drew = w31 at HO_3 BK106 HB hx112_0 hx112_1 hx112_2 hx113_0 hx113_1 hx113_2 hHeld ⊢
                  refine pure_ (i := 0) (N := some 39) (v := ?_) (a' := ?_) #[true, false, false, false, false, false, false, false, false, false, false, false, false, false, false, false] rfl rfl (any_of HT_.out (by kernel_rfl)) (fun _ _ _ h => h) (Or.inl ⟨by rfl, ?_⟩) ?_ ?_
                  rotate_left
                  · intro w'
                    go_simp
                    with_reducible rfl
                  rotate_left
                  · simp only [Act.put, List.setIfInBounds_toArray, List.set_cons_zero, List.set_cons_succ, i64_w, i32_w]
                    rfl
                  refine pure_ (i := 1) (N := some 40) (v := ?_) (a' := ?_) #[true, true, false, false, false, false, false, false, false, false, false, false, false, false, false, false] rfl rfl (any_of HT_.out (by kernel_rfl)) (fun _ _ _ h => h) (Or.inl ⟨by rfl, ?_⟩) ?_ ?_
                  rotate_left
                  · intro w'
                    go_simp
                    with_reducible rfl
                  rotate_left
                  · simp only [Act.put, List.setIfInBounds_toArray, List.set_cons_zero, List.set_cons_succ, i64_w, i32_w]
                    rfl
                  refine pure_ (i := 2) (N := some 41) (v := ?_) (a' := ?_) #[true, true, true, false, false, false, false, false, false, false, false, false, false, false, false, false] rfl rfl (any_of HT_.out (by kernel_rfl)) (fun _ _ _ h => h) (Or.inl ⟨by rfl, ?_⟩) ?_ ?_
                  rotate_left
                  · intro w'
                    go_simp
                    with_reducible rfl
                  rotate_left
                  · simp only [Act.put, List.setIfInBounds_toArray, List.set_cons_zero, List.set_cons_succ, i64_w, i32_w]
                    rfl
                  refine pure_ (i := 3) (N := some 42) (v := ?_) (a' := ?_) #[true, true, true, true, false, false, false, false, false, false, false, false, false, false, false, false] rfl rfl (any_of HT_.out (by kernel_rfl)) (fun _ _ _ h => h) (Or.inl ⟨by rfl, ?_⟩) ?_ ?_
                  rotate_left
                  · intro w'
                    go_simp
                    with_reducible rfl
                  rotate_left
                  · simp only [Act.put, List.setIfInBounds_toArray, List.set_cons_zero, List.set_cons_succ, i64_w, i32_w]
                    rfl
                  refine pure_ (i := 4) (N := some 43) (v := ?_) (a' := ?_) #[true, true, true, true, true, false, false, false, false, false, false, false, false, false, false, false] rfl rfl (any_of HT_.out (by kernel_rfl)) (fun _ _ _ h => h) (Or.inl ⟨by rfl, ?_⟩) ?_ ?_
                  rotate_left
                  · intro w'
                    go_simp
                    with_reducible rfl
                  rotate_left
                  · simp only [Act.put, List.setIfInBounds_toArray, List.set_cons_zero, List.set_cons_succ, i64_w, i32_w]
                    rfl
                  refine pure_ (i := 6) (N := some 45) (v := ?_) (a' := ?_) #[true, true, true, true, true, false, true, false, false, false, false, false, false, false, false, false] rfl rfl (any_of HT_.out (by kernel_rfl)) (fun _ _ _ h => h) (Or.inl ⟨by rfl, ?_⟩) ?_ ?_
                  rotate_left
                  · intro w'
                    go_simp
                    with_reducible rfl
                  rotate_left
                  · simp only [Act.put, List.setIfInBounds_toArray, List.set_cons_zero, List.set_cons_succ, i64_w, i32_w]
                    rfl
                  refine pure_ (i := 7) (N := some 46) (v := ?_) (a' := ?_) #[true, true, true, true, true, false, true, true, false, false, false, false, false, false, false, false] rfl rfl (any_of HT_.out (by kernel_rfl)) (fun _ _ _ h => h) (Or.inl ⟨by rfl, ?_⟩) ?_ ?_
                  rotate_left
                  · intro w'
                    go_simp
                    with_reducible rfl
                  rotate_left
                  · simp only [Act.put, List.setIfInBounds_toArray, List.set_cons_zero, List.set_cons_succ, i64_w, i32_w]
                    rfl
                  refine pure_ (i := 8) (N := some 47) (v := ?_) (a' := ?_) #[true, true, true, true, true, false, true, true, true, false, false, false, false, false, false, false] rfl rfl (any_of HT_.out (by kernel_rfl)) (fun _ _ _ h => h) (Or.inl ⟨by rfl, ?_⟩) ?_ ?_
                  rotate_left
                  · intro w'
                    go_simp
                    with_reducible rfl
                  rotate_left
                  · simp only [Act.put, List.setIfInBounds_toArray, List.set_cons_zero, List.set_cons_succ, i64_w, i32_w]
                    rfl
                  refine pure_ (i := 9) (N := some 48) (v := ?_) (a' := ?_) #[true, true, true, true, true, false, true, true, true, true, false, false, false, false, false, false] rfl rfl (any_of HT_.out (by kernel_rfl)) (fun _ _ _ h => h) (Or.inl ⟨by rfl, ?_⟩) ?_ ?_
                  rotate_left
                  · intro w'
                    go_simp
                    with_reducible rfl
                  rotate_left
                  · simp only [Act.put, List.setIfInBounds_toArray, List.set_cons_zero, List.set_cons_succ, i64_w, i32_w]
                    rfl
                  refine pure_ (i := 10) (N := some 49) (v := ?_) (a' := ?_) #[true, true, true, true, true, false, true, true, true, true, true, false, false, false, false, false] rfl rfl (any_of HT_.out (by kernel_rfl)) (fun _ _ _ h => h) (Or.inl ⟨by rfl, ?_⟩) ?_ ?_
                  rotate_left
                  · intro w'
                    go_simp
                    with_reducible rfl
                  rotate_left
                  · simp only [Act.put, List.setIfInBounds_toArray, List.set_cons_zero, List.set_cons_succ, i64_w, i32_w]
                    rfl
                  refine take_ (i := 5) (N := some 44) (v := ?_) (a' := ?_) #[true, true, true, true, true, true, true, true, true, true, true, false, false, false, false, false] rfl rfl (take_ofW HT_.out HW_.out (by kernel_rfl)) (fun _ _ _ h => h) (Or.inl ⟨by rfl, ?_⟩) hHeld ?_ ?_
                  rotate_left
                  · rintro w' ⟨s0, s1, s2, s3, s4, s5⟩
                    go_simp
                    with_reducible rfl
                  rotate_left
                  · simp only [Act.put, List.setIfInBounds_toArray, List.set_cons_zero, List.set_cons_succ, i64_w, i32_w]
                    rfl
                  refine take_ (i := 11) (N := some 50) (v := ?_) (a' := ?_) #[true, true, true, true, true, true, true, true, true, true, true, true, false, false, false, false] rfl rfl (take_ofW HT_.out HW_.out (by kernel_rfl)) (fun _ _ _ h => h) (Or.inl ⟨by rfl, ?_⟩) hHeld ?_ ?_
                  rotate_left
                  · rintro w' ⟨s0, s1, s2, s3, s4, s5⟩
                    go_simp
                    with_reducible rfl
                  rotate_left
                  · simp only [Act.put, List.setIfInBounds_toArray, List.set_cons_zero, List.set_cons_succ, i64_w, i32_w]
                    rfl
                  refine pure_ (i := 12) (N := some 51) (v := ?_) (a' := ?_) #[true, true, true, true, true, true, true, true, true, true, true, true, true, false, false, false] rfl rfl (any_of HT_.out (by kernel_rfl)) (fun _ _ _ h => h) (Or.inl ⟨by rfl, ?_⟩) ?_ ?_
                  rotate_left
                  · intro w'
                    go_simp
                    with_reducible rfl
                  rotate_left
                  · simp only [Act.put, List.setIfInBounds_toArray, List.set_cons_zero, List.set_cons_succ, i64_w, i32_w]
                    rfl
                  refine pure_ (i := 13) (N := some 52) (v := ?_) (a' := ?_) #[true, true, true, true, true, true, true, true, true, true, true, true, true, true, false, false] rfl rfl (any_of HT_.out (by kernel_rfl)) (fun _ _ _ h => h) (Or.inl ⟨by rfl, ?_⟩) ?_ ?_
                  rotate_left
                  · intro w'
                    go_simp
                    with_reducible rfl
                  rotate_left
                  · simp only [Act.put, List.setIfInBounds_toArray, List.set_cons_zero, List.set_cons_succ, i64_w, i32_w]
                    rfl
                  refine pure_ (i := 14) (N := some 53) (v := ?_) (a' := ?_) #[true, true, true, true, true, true, true, true, true, true, true, true, true, true, true, false] rfl rfl (any_of HT_.out (by kernel_rfl)) (fun _ _ _ h => h) (Or.inl ⟨by rfl, ?_⟩) ?_ ?_
                  rotate_left
                  · intro w'
                    go_simp
                    with_reducible rfl
                  rotate_left
                  · simp only [Act.put, List.setIfInBounds_toArray, List.set_cons_zero, List.set_cons_succ, i64_w, i32_w]
                    rfl
                  refine pure_ (i := 15) (N := some 6) (v := ?_) (a' := ?_) #[true, true, true, true, true, true, true, true, true, true, true, true, true, true, true, true] rfl rfl (any_of HT_.out (by kernel_rfl)) (fun _ _ _ h => h) (Or.inl ⟨by rfl, ?_⟩) ?_ ?_
                  rotate_left
                  · intro w'
                    go_simp
                    with_reducible rfl
                  rotate_left
                  · simp only [Act.put, List.setIfInBounds_toArray, List.set_cons_zero, List.set_cons_succ, i64_w, i32_w]
                    rfl
                  refine done_ (done_of HT_.out (by kernel_rfl)) ?_
                  try go_wp2
                  go_roundg k1
                  case measure => have := HK1.out; omega
                  case rel => exact ⟨(wrap64 (x6_1 + (wrap64 (((rd_T29 t101 x7_1).f0) * (wrap64 (Int.tdiv t111 ((rd_T29 t101 x7_1).f2))))))), (wrap64 (x7_1 + 1)), (by first | rfl | (simp; done) | (simp [*]; done)), (by first | rfl | (simp; done) | (simp [*]; done)), H', ⟨by have := HK1.out; omega⟩, ⟨by (with_reducible repeat (first | apply Kd.R_alloc | apply Kd.R_drewN | apply Kd.R_drew)); exact HO_3.out⟩, ⟨by (with_reducible repeat (first | refine blk_drewN ?_ _ | refine blk_drew ?_ | refine blk_alloc ?_ _)); exact BK106.out⟩, ⟨by repeat (first | (with_reducible first | exact HB.out | apply below_alloc | apply pw_below_drewN | apply below_drew1 | refine below_set ?_ GE106.out) | exact HB.out)⟩⟩
              · rw [if_neg c29] at H
                exact absurd H (by simp)
            · rw [if_neg c28] at H
              have c28b0 : decide (x7_1 < (t101.length : Int)) = false := decide_eq_false c28
              clear c28
              have H' := Aside0.mk H
              clear H
              go_wp2
              go_loopg [8] k1 (fun kq v8 w' => ∃ (x8_2 : Int), v8 = .int .i64 x8_2 ∧ Aside0 (laws_FnUtilization.l1 kq t101 t111 x6_1 x8_2 t104 t105 = some r) ∧ Aside0 (kq ≤ k1) ∧ Aside0 (Kd.R k29 29 w' w.heap.size (fun _ => True) (.slice Ao19 t101.length co19) t101) ∧ Aside0 (w'.heap[gb106]? = some (.cells #[.int .i64 t104, .int .i64 t105] 36 (0, 0))) ∧ Aside0 (Below w.heap.size w w'))
              case atStart => exact ⟨(2), (by first | rfl | (simp; done) | (simp [*]; done)), H', ⟨Nat.le_refl _⟩, ⟨by (with_reducible repeat (first | apply Kd.R_alloc | apply Kd.R_drewN | apply Kd.R_drew)); exact HO_3.out⟩, ⟨by (with_reducible repeat (first | refine blk_drewN ?_ _ | refine blk_drew ?_ | refine blk_alloc ?_ _)); exact BK106.out⟩, ⟨by repeat (first | (with_reducible first | exact HB.out | apply below_alloc | apply pw_below_drewN | apply below_drew1 | refine below_set ?_ GE106.out) | exact HB.out)⟩⟩
              case round =>
                clear H'
                try clear c1
                try clear p1
                try clear q1
                try clear hx1
                try clear c2
                try clear c2b0
                try clear c2b1
                try clear p2
                try clear c3
                try clear c6
                try clear c6b0
                try clear p6
                try clear c8
                try clear p11
                try clear q11
                try clear hx11
                try clear c12
                try clear c14
                try clear c16
                try clear c24
                try clear c25
                try clear c26
                try clear c28
                try clear c28b0
                try clear c29
                try clear c29b0
                try clear c30
                try clear c30b0
                try clear c30b1
                try clear hcz11_0
                try clear hcz11_1
                try clear hcz22_0
                try clear hcz22_1
                try clear hfz11_0
                try clear hfz11_1
                try clear hfz22_0
                try clear hfz22_1
                try clear hx112_0
                try clear hx112_1
                try clear hx112_2
                try clear hx113_0
                try clear hx113_1
                try clear hx113_2
                try clear p112
                try clear p113
                try clear p2
                try clear q112
                try clear q113
                obtain ⟨x8_2, rfl, HA, HK2, HO_3, BK106, HB⟩ := hrel
                cases gk with
                | zero => exact absurd HA.out (by simp [laws_FnUtilization.l1])
                | succ k2 =>
                  have H := HA.out
                  clear HA
                  simp only [laws_FnUtilization.l1] at H
                  by_cases c32 : x8_2 ≤ t105
                  · rw [if_pos c32] at H
                    have c32b0 : decide (x8_2 ≤ t105) = true := decide_eq_true c32
                    clear c32
                    by_cases c33 : x8_2 = 0
                    · rw [if_pos c33] at H
                      exact absurd H (by simp)
                    · rw [if_neg c33] at H
                      have c33b0 : (x8_2 == 0) = false := beq_eq_false_iff_ne.mpr c33
                      have c33b1 : (x8_2 != 0) = true := bne_iff_ne.mpr c33
                      by_cases c34 : (Int.tmod t104 x8_2) = 0
                      · rw [if_pos c34] at H
                        have c34b0 : ((Int.tmod t104 x8_2) == 0) = true := beq_iff_eq.mpr c34
                        have c34b1 : ((Int.tmod t104 x8_2) != 0) = false := bne_eq_false_iff_eq.mpr c34
                        clear c34
                        by_cases c35 : (Int.tmod t105 x8_2) = 0
                        · rw [if_pos c35] at H
                          have c35b0 : ((Int.tmod t105 x8_2) == 0) = true := beq_iff_eq.mpr c35
                          have c35b1 : ((Int.tmod t105 x8_2) != 0) = false := bne_eq_false_iff_eq.mpr c35
                          clear c35
                          obtain rfl := Option.some.inj H
                          have hcz36_0 : wr.cell? ⟨gb106, 0, none⟩ = some (.int .i64 t104) := (blk_cell BK106.out 0).trans rfl
                          have hcz36_1 : wr.cell? ⟨gb106, 1, none⟩ = some (.int .i64 t105) := (blk_cell BK106.out 1).trans rfl
                          have hfz36_0 := blk_frozen BK106.out 0
                          have hfz36_1 := blk_frozen BK106.out 1
                          go_wp2
                          go_ret
                          exact ⟨by first | rfl | (simp [errW_none, errW_some] <;> rfl) | (simp [*, errW_none, errW_some] <;> rfl), by repeat (first | (with_reducible first | exact HB.out | apply below_alloc | apply pw_below_drewN | apply below_drew1 | refine below_set ?_ GE106.out) | exact HB.out)⟩
                        · rw [if_neg c35] at H
                          have c35b0 : ((Int.tmod t105 x8_2) == 0) = false := beq_eq_false_iff_ne.mpr c35
                          have c35b1 : ((Int.tmod t105 x8_2) != 0) = true := bne_iff_ne.mpr c35
                          have H' := Aside0.mk H
                          clear H
                          have hcz37_0 : wr.cell? ⟨gb106, 0, none⟩ = some (.int .i64 t104) := (blk_cell BK106.out 0).trans rfl
                          have hcz37_1 : wr.cell? ⟨gb106, 1, none⟩ = some (.int .i64 t105) := (blk_cell BK106.out 1).trans rfl
                          have hfz37_0 := blk_frozen BK106.out 0
                          have hfz37_1 := blk_frozen BK106.out 1
                          go_wp2
                          go_roundg k2
                          case measure => have := HK1.out; have := HK2.out; omega
                          case rel => exact ⟨(wrap64 (x8_2 + 1)), (by first | rfl | (simp; done) | (simp [*]; done)), H', ⟨by have := HK1.out; have := HK2.out; omega⟩, ⟨by (with_reducible repeat (first | apply Kd.R_alloc | apply Kd.R_drewN | apply Kd.R_drew)); exact HO_3.out⟩, ⟨by (with_reducible repeat (first | refine blk_drewN ?_ _ | refine blk_drew ?_ | refine blk_alloc ?_ _)); exact BK106.out⟩, ⟨by repeat (first | (with_reducible first | exact HB.out | apply below_alloc | apply pw_below_drewN | apply below_drew1 | refine below_set ?_ GE106.out) | exact HB.out)⟩⟩
                      · rw [if_neg c34] at H
                        have c34b0 : ((Int.tmod t104 x8_2) == 0) = false := beq_eq_false_iff_ne.mpr c34
                        have c34b1 : ((Int.tmod t104 x8_2) != 0) = true := bne_iff_ne.mpr c34
                        have H' := Aside0.mk H
                        clear H
                        have hcz38_0 : wr.cell? ⟨gb106, 0, none⟩ = some (.int .i64 t104) := (blk_cell BK106.out 0).trans rfl
                        have hcz38_1 : wr.cell? ⟨gb106, 1, none⟩ = some (.int .i64 t105) := (blk_cell BK106.out 1).trans rfl
                        have hfz38_0 := blk_frozen BK106.out 0
                        have hfz38_1 := blk_frozen BK106.out 1
                        go_wp2
                        go_roundg k2
                        case measure => have := HK1.out; have := HK2.out; omega
                        case rel => exact ⟨(wrap64 (x8_2 + 1)), (by first | rfl | (simp; done) | (simp [*]; done)), H', ⟨by have := HK1.out; have := HK2.out; omega⟩, ⟨by (with_reducible repeat (first | apply Kd.R_alloc | apply Kd.R_drewN | apply Kd.R_drew)); exact HO_3.out⟩, ⟨by (with_reducible repeat (first | refine blk_drewN ?_ _ | refine blk_drew ?_ | refine blk_alloc ?_ _)); exact BK106.out⟩, ⟨by repeat (first | (with_reducible first | exact HB.out | apply below_alloc | apply pw_below_drewN | apply below_drew1 | refine below_set ?_ GE106.out) | exact HB.out)⟩⟩
                  · rw [if_neg c32] at H
                    have c32b0 : decide (x8_2 ≤ t105) = false := decide_eq_false c32
                    clear c32
                    have H' := Aside0.mk H
                    clear H
                    have hcz39_0 : wr.cell? ⟨gb106, 0, none⟩ = some (.int .i64 t104) := (blk_cell BK106.out 0).trans rfl
                    have hcz39_1 : wr.cell? ⟨gb106, 1, none⟩ = some (.int .i64 t105) := (blk_cell BK106.out 1).trans rfl
                    have hfz39_0 := blk_frozen BK106.out 0
                    have hfz39_1 := blk_frozen BK106.out 1
                    go_wp2
                    go_loopg [9] k2 (fun kq v9 w' => ∃ (x9_3 : Int), v9 = .int .i64 x9_3 ∧ Aside0 (laws_FnUtilization.l2 kq t101 t111 x6_1 x9_3 t104 t105 = some r) ∧ Aside0 (kq ≤ k2) ∧ Aside0 (Kd.R k29 29 w' w.heap.size (fun _ => True) (.slice Ao19 t101.length co19) t101) ∧ Aside0 (w'.heap[gb106]? = some (.cells #[.int .i64 t104, .int .i64 t105] 36 (0, 0))) ∧ Aside0 (Below w.heap.size w w'))
                    case atStart => exact ⟨(0), (by first | rfl | (simp; done) | (simp [*]; done)), H', ⟨Nat.le_refl _⟩, ⟨by (with_reducible repeat (first | apply Kd.R_alloc | apply Kd.R_drewN | apply Kd.R_drew)); exact HO_3.out⟩, ⟨by (with_reducible repeat (first | refine blk_drewN ?_ _ | refine blk_drew ?_ | refine blk_alloc ?_ _)); exact BK106.out⟩, ⟨by repeat (first | (with_reducible first | exact HB.out | apply below_alloc | apply pw_below_drewN | apply below_drew1 | refine below_set ?_ GE106.out) | exact HB.out)⟩⟩
                    case round =>
                      clear H'
                      try clear c1
                      try clear p1
                      try clear q1
                      try clear hx1
                      try clear c2
                      try clear c2b0
                      try clear c2b1
                      try clear p2
                      try clear c3
                      try clear c6
                      try clear c6b0
                      try clear p6
                      try clear c8
                      try clear p11
                      try clear q11
                      try clear hx11
                      try clear c12
                      try clear c14
                      try clear c16
                      try clear c24
                      try clear c25
                      try clear c26
                      try clear c28
                      try clear c28b0
                      try clear c29
                      try clear c29b0
                      try clear c30
                      try clear c30b0
                      try clear c30b1
                      try clear c32
                      try clear c32b0
                      try clear c33
                      try clear c33b0
                      try clear c33b1
                      try clear c34
                      try clear c34b0
                      try clear c34b1
                      try clear c35
                      try clear c35b0
                      try clear c35b1
                      try clear hcz11_0
                      try clear hcz11_1
                      try clear hcz22_0
                      try clear hcz22_1
                      try clear hcz36_0
                      try clear hcz36_1
                      try clear hcz37_0
                      try clear hcz37_1
                      try clear hcz38_0
                      try clear hcz38_1
                      try clear hcz39_0
                      try clear hcz39_1
                      try clear hfz11_0
                      try clear hfz11_1
                      try clear hfz22_0
                      try clear hfz22_1
                      try clear hfz36_0
                      try clear hfz36_1
                      try clear hfz37_0
                      try clear hfz37_1
                      try clear hfz38_0
                      try clear hfz38_1
                      try clear hfz39_0
                      try clear hfz39_1
                      try clear hx112_0
                      try clear hx112_1
                      try clear hx112_2
                      try clear hx113_0
                      try clear hx113_1
                      try clear hx113_2
                      try clear p1
                      try clear p11
                      try clear p112
                      try clear p113
                      try clear p2
                      try clear p6
                      try clear q1
                      try clear q11
                      try clear q112
                      try clear q113
                      obtain ⟨x9_3, rfl, HA, HK3, HO_3, BK106, HB⟩ := hrel
                      cases gk with
                      | zero => exact absurd HA.out (by simp [laws_FnUtilization.l2])
                      | succ k3 =>
                        have H := HA.out
                        clear HA
                        simp only [laws_FnUtilization.l2] at H
                        by_cases c40 : x9_3 < (t101.length : Int)
                        · rw [if_pos c40] at H
                          have c40b0 : decide (x9_3 < (t101.length : Int)) = true := decide_eq_true c40
                          clear c40
                          replace H := Option.bind_eq_some_iff.mp H
                          obtain ⟨t115, A410, H⟩ := H
                          replace H : ((impl_Utilization.f k3 t115).bind fun bt118 => (if (wrap64 (bt118.1 * t105)) ≥ (wrap64 (t104 * bt118.2)) then (some false) else (laws_FnUtilization.l2 k3 t101 t111 x6_1 (wrap64 (x9_3 + 1)) t104 t105))) = some r := H
                          have A41 := Aside0.mk A410
                          clear A410
                          replace H := Option.bind_eq_some_iff.mp H
                          obtain ⟨⟨t118, t119⟩, A420, H⟩ := H
                          replace H : (if (wrap64 (t118 * t105)) ≥ (wrap64 (t104 * t119)) then (some false) else (laws_FnUtilization.l2 k3 t101 t111 x6_1 (wrap64 (x9_3 + 1)) t104 t105)) = some r := H
                          have A42 := Aside0.mk A420
                          clear A420
                          by_cases c43 : (wrap64 (t118 * t105)) ≥ (wrap64 (t104 * t119))
                          · rw [if_pos c43] at H
                            have c43b0 : decide ((wrap64 (t104 * t119)) ≤ (wrap64 (t118 * t105))) = true := decide_eq_true c43
                            clear c43
                            obtain rfl := Option.some.inj H
                            go_wp2_with (first | ((with_reducible refine gate_callee (f := 16) rfl ?_); refine goesL_ (some 80) rfl rfl Try.func16 (by kernel_rfl) rfl #[.slice Ao19 t101.length co19, .int .i64 x9_3] rfl (by (try simp only [List.map_toArray, List.map_cons, List.map_nil]); first | done | rfl | (simp only [List.length_drop, List.length_take]; rfl)) ?_; (with_reducible refine (laws_without.calls _ _ t101 x9_3 t115 _ ?side1 ?side2 A41.out).mono ?_); (case side1 => repeat (first | exact (Kd.R_reads' HO_3.out).2.2 | (with_reducible refine Kd.C_alloc ?_ _) | (with_reducible refine Kd.C_drewN ?_ _) | (with_reducible refine Kd.C_drew ?_))); (case side2 => exact (Kd.R_reads' HO_3.out).2.1); rintro e w44 ⟨v116, rfl, ho0, hb⟩; refine ⟨_, rfl, ?_⟩; have n0_ := Aside0.mk (Kd.R_elder' (by (with_reducible repeat (first | apply Kd.R_alloc | apply Kd.R_drewN | apply Kd.R_drew)); exact HO_3.out) (Kd.R_base ho0) hb); have n1_ := Aside0.mk (Kd.R_lower (Kd.R_new' ho0 (Kd.R_lt (by (with_reducible repeat (first | apply Kd.R_alloc | apply Kd.R_drewN | apply Kd.R_drew)); exact HO_3.out))) (below_size (by repeat (first | (with_reducible first | exact HB.out | apply below_alloc | apply pw_below_drewN | apply below_drew1 | refine below_set ?_ GE106.out) | exact HB.out)))); have n2_ := Aside0.mk (blk_below (g := gb106) (o := .cells #[.int .i64 t104, .int .i64 t105] 36 (0, 0)) (by (with_reducible repeat (first | refine blk_drewN ?_ _ | refine blk_drew ?_ | refine blk_alloc ?_ _)); exact BK106.out) hb); have n3_ := Aside0.mk (below_step (by repeat (first | (with_reducible first | exact HB.out | apply below_alloc | apply pw_below_drewN | apply below_drew1 | refine below_set ?_ GE106.out) | exact HB.out)) hb); clear HO_3; clear BK106; clear HB; have HO_3 := n0_; have HO117 := n1_; have BK106 := n2_; have HB := n3_; clear n0_ n1_ n2_ n3_; (try clear hb); (try clear hb2); (try clear hk); (try clear hi); (try clear ho0); obtain ⟨Ao45, co45, eo45⟩ := Kd.R_slice HO117.out; subst eo45) | ((with_reducible refine gate_callee (f := 25) rfl ?_); refine goesL_ (some 81) rfl rfl Try.func25 (by kernel_rfl) rfl #[.slice Ao45 t115.length co45] rfl (by (try simp only [List.map_toArray, List.map_cons, List.map_nil]); first | done | rfl | (simp only [List.length_drop, List.length_take]; rfl)) ?_; (with_reducible refine (impl_Utilization.calls k3 _ _ t115 t118 t119 _ ?side1 ?side2 A42.out).mono ?_); (case side1 => repeat (first | exact (Kd.R_reads' HO117.out).2.2 | (with_reducible refine Kd.C_alloc ?_ _) | (with_reducible refine Kd.C_drewN ?_ _) | (with_reducible refine Kd.C_drew ?_))); (case side2 => exact (Kd.R_reads' HO117.out).2.1); rintro e w46 ⟨rfl, hb⟩; refine ⟨_, rfl, ?_⟩; have n0_ := Aside0.mk (Kd.R_below (by (with_reducible repeat (first | apply Kd.R_alloc | apply Kd.R_drewN | apply Kd.R_drew)); exact HO_3.out) hb); have n1_ := Aside0.mk (Kd.R_below (by (with_reducible repeat (first | apply Kd.R_alloc | apply Kd.R_drewN | apply Kd.R_drew)); exact HO117.out) hb); have n2_ := Aside0.mk (blk_below (g := gb106) (o := .cells #[.int .i64 t104, .int .i64 t105] 36 (0, 0)) (by (with_reducible repeat (first | refine blk_drewN ?_ _ | refine blk_drew ?_ | refine blk_alloc ?_ _)); exact BK106.out) hb); have n3_ := Aside0.mk (below_step (by repeat (first | (with_reducible first | exact HB.out | apply below_alloc | apply pw_below_drewN | apply below_drew1 | refine below_set ?_ GE106.out) | exact HB.out)) hb); clear HO_3; clear HO117; clear BK106; clear HB; have HO_3 := n0_; have HO117 := n1_; have BK106 := n2_; have HB := n3_; clear n0_ n1_ n2_ n3_; (try clear hb); (try clear hb2); (try clear hk); (try clear hi)) | ((with_reducible refine gate_dst (N := 10) rfl ?_); refine box_event ?hg (N := 10) ?hd (cs := #[.int .i64 0, .int .i64 0]) (t := 36) ?hr ?_; (case hd => rfl); (case hg => rfl); (case hr => first | (go_simp; done) | (go_simp; rfl)); intro gb120 hg w47 hbox hb; have n0_ := Aside0.mk (Kd.R_below (by (with_reducible repeat (first | apply Kd.R_alloc | apply Kd.R_drewN | apply Kd.R_drew)); exact HO_3.out) hb); have n1_ := Aside0.mk (Kd.R_below (by (with_reducible repeat (first | apply Kd.R_alloc | apply Kd.R_drewN | apply Kd.R_drew)); exact HO117.out) hb); have n2_ := Aside0.mk (blk_below (g := gb106) (o := .cells #[.int .i64 t104, .int .i64 t105] 36 (0, 0)) (by (with_reducible repeat (first | refine blk_drewN ?_ _ | refine blk_drew ?_ | refine blk_alloc ?_ _)); exact BK106.out) hb); have n3_ := Aside0.mk (below_step (by repeat (first | (with_reducible first | exact HB.out | apply below_alloc | apply pw_below_drewN | apply below_drew1 | refine below_set ?_ GE106.out) | exact HB.out)) hb); have n4_ := Aside0.mk (hbox); have n5_ := Aside0.mk ((by rw [hg]; exact (below_size (by repeat (first | (with_reducible first | exact HB.out | apply below_alloc | apply pw_below_drewN | apply below_drew1 | refine below_set ?_ GE106.out) | exact HB.out))) : w.heap.size ≤ gb120)); have n6_ := Aside0.mk ((by rw [hg]; exact (below_size (by repeat (first | (with_reducible first | exact HB.out | apply below_alloc | apply pw_below_drewN | apply below_drew1 | refine below_set ?_ GE106.out) | exact HB.out))) : w.heap.size ≤ gb120)); have n7_ := Aside0.mk ((by rw [hg]; exact Nat.ne_of_lt (blk_lt (g := gb106) (o := .cells #[.int .i64 t104, .int .i64 t105] 36 (0, 0)) (by (with_reducible repeat (first | refine blk_drewN ?_ _ | refine blk_drew ?_ | refine blk_alloc ?_ _)); exact BK106.out)) : gb106 ≠ gb120)); have n8_ := Aside0.mk ((by rw [hg]; exact Nat.ne_of_gt (blk_lt (g := gb106) (o := .cells #[.int .i64 t104, .int .i64 t105] 36 (0, 0)) (by (with_reducible repeat (first | refine blk_drewN ?_ _ | refine blk_drew ?_ | refine blk_alloc ?_ _)); exact BK106.out)) : gb120 ≠ gb106)); clear HO_3; clear HO117; clear BK106; clear HB; have HO_3 := n0_; have HO117 := n1_; have BK106 := n2_; have HB := n3_; have BK120 := n4_; have GW120 := n5_; have GE120 := n6_; have NB106_120 := n7_; have NB120_106 := n8_; clear n0_ n1_ n2_ n3_ n4_ n5_ n6_ n7_ n8_; clear hb hbox hg; have hnb48 := NB120_106.out; have hnc48 := NB106_120.out; have hcz49_0 : w47.cell? ⟨gb120, 0, none⟩ = some (.int .i64 0) := (blk_cell BK120.out 0).trans rfl; have hcz49_1 : w47.cell? ⟨gb120, 1, none⟩ = some (.int .i64 0) := (blk_cell BK120.out 1).trans rfl; have hfz49_0 := blk_frozen BK120.out 0; have hfz49_1 := blk_frozen BK120.out 1; have hcz50_0 : w47.cell? ⟨gb106, 0, none⟩ = some (.int .i64 t104) := (blk_cell BK106.out 0).trans rfl; have hcz50_1 : w47.cell? ⟨gb106, 1, none⟩ = some (.int .i64 t105) := (blk_cell BK106.out 1).trans rfl; have hfz50_0 := blk_frozen BK106.out 0; have hfz50_1 := blk_frozen BK106.out 1))
                            go_ret
                            exact ⟨by first | rfl | (simp [errW_none, errW_some] <;> rfl) | (simp [*, errW_none, errW_some] <;> rfl), by repeat (first | (with_reducible first | exact HB.out | apply below_alloc | apply pw_below_drewN | apply below_drew1 | refine below_set ?_ GE106.out | refine below_set ?_ GE120.out) | exact HB.out)⟩
                          · rw [if_neg c43] at H
                            have c43b0 : decide ((wrap64 (t104 * t119)) ≤ (wrap64 (t118 * t105))) = false := decide_eq_false c43
                            clear c43
                            have H' := Aside0.mk H
                            clear H
                            go_wp2_with (first | ((with_reducible refine gate_callee (f := 16) rfl ?_); refine goesL_ (some 80) rfl rfl Try.func16 (by kernel_rfl) rfl #[.slice Ao19 t101.length co19, .int .i64 x9_3] rfl (by (try simp only [List.map_toArray, List.map_cons, List.map_nil]); first | done | rfl | (simp only [List.length_drop, List.length_take]; rfl)) ?_; (with_reducible refine (laws_without.calls _ _ t101 x9_3 t115 _ ?side1 ?side2 A41.out).mono ?_); (case side1 => repeat (first | exact (Kd.R_reads' HO_3.out).2.2 | (with_reducible refine Kd.C_alloc ?_ _) | (with_reducible refine Kd.C_drewN ?_ _) | (with_reducible refine Kd.C_drew ?_))); (case side2 => exact (Kd.R_reads' HO_3.out).2.1); rintro e w51 ⟨v116, rfl, ho0, hb⟩; refine ⟨_, rfl, ?_⟩; have n0_ := Aside0.mk (Kd.R_elder' (by (with_reducible repeat (first | apply Kd.R_alloc | apply Kd.R_drewN | apply Kd.R_drew)); exact HO_3.out) (Kd.R_base ho0) hb); have n1_ := Aside0.mk (Kd.R_lower (Kd.R_new' ho0 (Kd.R_lt (by (with_reducible repeat (first | apply Kd.R_alloc | apply Kd.R_drewN | apply Kd.R_drew)); exact HO_3.out))) (below_size (by repeat (first | (with_reducible first | exact HB.out | apply below_alloc | apply pw_below_drewN | apply below_drew1 | refine below_set ?_ GE106.out) | exact HB.out)))); have n2_ := Aside0.mk (blk_below (g := gb106) (o := .cells #[.int .i64 t104, .int .i64 t105] 36 (0, 0)) (by (with_reducible repeat (first | refine blk_drewN ?_ _ | refine blk_drew ?_ | refine blk_alloc ?_ _)); exact BK106.out) hb); have n3_ := Aside0.mk (below_step (by repeat (first | (with_reducible first | exact HB.out | apply below_alloc | apply pw_below_drewN | apply below_drew1 | refine below_set ?_ GE106.out) | exact HB.out)) hb); clear HO_3; clear BK106; clear HB; have HO_3 := n0_; have HO117 := n1_; have BK106 := n2_; have HB := n3_; clear n0_ n1_ n2_ n3_; (try clear hb); (try clear hb2); (try clear hk); (try clear hi); (try clear ho0); obtain ⟨Ao52, co52, eo52⟩ := Kd.R_slice HO117.out; subst eo52) | ((with_reducible refine gate_callee (f := 25) rfl ?_); refine goesL_ (some 81) rfl rfl Try.func25 (by kernel_rfl) rfl #[.slice Ao52 t115.length co52] rfl (by (try simp only [List.map_toArray, List.map_cons, List.map_nil]); first | done | rfl | (simp only [List.length_drop, List.length_take]; rfl)) ?_; (with_reducible refine (impl_Utilization.calls k3 _ _ t115 t118 t119 _ ?side1 ?side2 A42.out).mono ?_); (case side1 => repeat (first | exact (Kd.R_reads' HO117.out).2.2 | (with_reducible refine Kd.C_alloc ?_ _) | (with_reducible refine Kd.C_drewN ?_ _) | (with_reducible refine Kd.C_drew ?_))); (case side2 => exact (Kd.R_reads' HO117.out).2.1); rintro e w53 ⟨rfl, hb⟩; refine ⟨_, rfl, ?_⟩; have n0_ := Aside0.mk (Kd.R_below (by (with_reducible repeat (first | apply Kd.R_alloc | apply Kd.R_drewN | apply Kd.R_drew)); exact HO_3.out) hb); have n1_ := Aside0.mk (Kd.R_below (by (with_reducible repeat (first | apply Kd.R_alloc | apply Kd.R_drewN | apply Kd.R_drew)); exact HO117.out) hb); have n2_ := Aside0.mk (blk_below (g := gb106) (o := .cells #[.int .i64 t104, .int .i64 t105] 36 (0, 0)) (by (with_reducible repeat (first | refine blk_drewN ?_ _ | refine blk_drew ?_ | refine blk_alloc ?_ _)); exact BK106.out) hb); have n3_ := Aside0.mk (below_step (by repeat (first | (with_reducible first | exact HB.out | apply below_alloc | apply pw_below_drewN | apply below_drew1 | refine below_set ?_ GE106.out) | exact HB.out)) hb); clear HO_3; clear HO117; clear BK106; clear HB; have HO_3 := n0_; have HO117 := n1_; have BK106 := n2_; have HB := n3_; clear n0_ n1_ n2_ n3_; (try clear hb); (try clear hb2); (try clear hk); (try clear hi)) | ((with_reducible refine gate_dst (N := 10) rfl ?_); refine box_event ?hg (N := 10) ?hd (cs := #[.int .i64 0, .int .i64 0]) (t := 36) ?hr ?_; (case hd => rfl); (case hg => rfl); (case hr => first | (go_simp; done) | (go_simp; rfl)); intro gb120 hg w54 hbox hb; have n0_ := Aside0.mk (Kd.R_below (by (with_reducible repeat (first | apply Kd.R_alloc | apply Kd.R_drewN | apply Kd.R_drew)); exact HO_3.out) hb); have n1_ := Aside0.mk (Kd.R_below (by (with_reducible repeat (first | apply Kd.R_alloc | apply Kd.R_drewN | apply Kd.R_drew)); exact HO117.out) hb); have n2_ := Aside0.mk (blk_below (g := gb106) (o := .cells #[.int .i64 t104, .int .i64 t105] 36 (0, 0)) (by (with_reducible repeat (first | refine blk_drewN ?_ _ | refine blk_drew ?_ | refine blk_alloc ?_ _)); exact BK106.out) hb); have n3_ := Aside0.mk (below_step (by repeat (first | (with_reducible first | exact HB.out | apply below_alloc | apply pw_below_drewN | apply below_drew1 | refine below_set ?_ GE106.out) | exact HB.out)) hb); have n4_ := Aside0.mk (hbox); have n5_ := Aside0.mk ((by rw [hg]; exact (below_size (by repeat (first | (with_reducible first | exact HB.out | apply below_alloc | apply pw_below_drewN | apply below_drew1 | refine below_set ?_ GE106.out) | exact HB.out))) : w.heap.size ≤ gb120)); have n6_ := Aside0.mk ((by rw [hg]; exact (below_size (by repeat (first | (with_reducible first | exact HB.out | apply below_alloc | apply pw_below_drewN | apply below_drew1 | refine below_set ?_ GE106.out) | exact HB.out))) : w.heap.size ≤ gb120)); have n7_ := Aside0.mk ((by rw [hg]; exact Nat.ne_of_lt (blk_lt (g := gb106) (o := .cells #[.int .i64 t104, .int .i64 t105] 36 (0, 0)) (by (with_reducible repeat (first | refine blk_drewN ?_ _ | refine blk_drew ?_ | refine blk_alloc ?_ _)); exact BK106.out)) : gb106 ≠ gb120)); have n8_ := Aside0.mk ((by rw [hg]; exact Nat.ne_of_gt (blk_lt (g := gb106) (o := .cells #[.int .i64 t104, .int .i64 t105] 36 (0, 0)) (by (with_reducible repeat (first | refine blk_drewN ?_ _ | refine blk_drew ?_ | refine blk_alloc ?_ _)); exact BK106.out)) : gb120 ≠ gb106)); clear HO_3; clear HO117; clear BK106; clear HB; have HO_3 := n0_; have HO117 := n1_; have BK106 := n2_; have HB := n3_; have BK120 := n4_; have GW120 := n5_; have GE120 := n6_; have NB106_120 := n7_; have NB120_106 := n8_; clear n0_ n1_ n2_ n3_ n4_ n5_ n6_ n7_ n8_; clear hb hbox hg; have hnb55 := NB120_106.out; have hnc55 := NB106_120.out; have hcz56_0 : w54.cell? ⟨gb120, 0, none⟩ = some (.int .i64 0) := (blk_cell BK120.out 0).trans rfl; have hcz56_1 : w54.cell? ⟨gb120, 1, none⟩ = some (.int .i64 0) := (blk_cell BK120.out 1).trans rfl; have hfz56_0 := blk_frozen BK120.out 0; have hfz56_1 := blk_frozen BK120.out 1; have hcz57_0 : w54.cell? ⟨gb106, 0, none⟩ = some (.int .i64 t104) := (blk_cell BK106.out 0).trans rfl; have hcz57_1 : w54.cell? ⟨gb106, 1, none⟩ = some (.int .i64 t105) := (blk_cell BK106.out 1).trans rfl; have hfz57_0 := blk_frozen BK106.out 0; have hfz57_1 := blk_frozen BK106.out 1))
                            go_roundg k3
                            case measure => have := HK1.out; have := HK2.out; have := HK3.out; omega
                            case rel => exact ⟨(wrap64 (x9_3 + 1)), (by first | rfl | (simp; done) | (simp [*]; done)), H', ⟨by have := HK1.out; have := HK2.out; have := HK3.out; omega⟩, ⟨by (with_reducible repeat (first | apply Kd.R_alloc | apply Kd.R_drewN | apply Kd.R_drew)); exact Kd.R_mono (Kd.R_far (p := ⟨gb120, 1, none⟩) (Kd.R_far (p := ⟨gb120, 0, none⟩) (Kd.R_types HO_3.out BK120.out (by decide)) (fun _ hk => hk.2) (.int .i64 t118)) (fun _ hk => hk.2) (.int .i64 t119)) (fun _ hk => trivial)⟩, ⟨by (with_reducible repeat (first | refine blk_drewN ?_ _ | refine blk_drew ?_ | refine blk_alloc ?_ _)); refine blk_far ?_ NB106_120.out _; (with_reducible repeat (first | refine blk_drewN ?_ _ | refine blk_drew ?_ | refine blk_alloc ?_ _)); refine blk_far ?_ NB106_120.out _; (with_reducible repeat (first | refine blk_drewN ?_ _ | refine blk_drew ?_ | refine blk_alloc ?_ _)); exact BK106.out⟩, ⟨by repeat (first | (with_reducible first | exact HB.out | apply below_alloc | apply pw_below_drewN | apply below_drew1 | refine below_set ?_ GE106.out | refine below_set ?_ GE120.out) | exact HB.out)⟩⟩
                        · rw [if_neg c40] at H
                          have c40b0 : decide (x9_3 < (t101.length : Int)) = false := decide_eq_false c40
                          clear c40
                          by_cases c58 : t105 ≥ 1
                          · rw [if_pos c58] at H
                            have c58b0 : decide (1 ≤ t105) = true := decide_eq_true c58
                            clear c58
                            by_cases c59 : (wrap64 (t104 * t111)) = (wrap64 (x6_1 * t105))
                            · rw [if_pos c59] at H
                              have c59b0 : ((wrap64 (t104 * t111)) == (wrap64 (x6_1 * t105))) = true := beq_iff_eq.mpr c59
                              have c59b1 : ((wrap64 (t104 * t111)) != (wrap64 (x6_1 * t105))) = false := bne_eq_false_iff_eq.mpr c59
                              clear c59
                              replace H := Option.bind_eq_some_iff.mp H
                              obtain ⟨t114, A600, H⟩ := H
                              replace H : (some t114) = some r := H
                              have A60 := Aside0.mk A600
                              clear A600
                              obtain rfl := Option.some.inj H
                              have hcz61_0 : wr.cell? ⟨gb106, 0, none⟩ = some (.int .i64 t104) := (blk_cell BK106.out 0).trans rfl
                              have hcz61_1 : wr.cell? ⟨gb106, 1, none⟩ = some (.int .i64 t105) := (blk_cell BK106.out 1).trans rfl
                              have hfz61_0 := blk_frozen BK106.out 0
                              have hfz61_1 := blk_frozen BK106.out 1
                              go_wp2_with (first | (go_at_call 15; (with_reducible refine (laws_alive.calls  t114 _ A60.out).mono ?_); rintro e w62 ⟨rfl, hb⟩; have n0_ := Aside0.mk (Kd.R_below (by (with_reducible repeat (first | apply Kd.R_alloc | apply Kd.R_drewN | apply Kd.R_drew)); exact HO_3.out) hb); have n1_ := Aside0.mk (blk_below (g := gb106) (o := .cells #[.int .i64 t104, .int .i64 t105] 36 (0, 0)) (by (with_reducible repeat (first | refine blk_drewN ?_ _ | refine blk_drew ?_ | refine blk_alloc ?_ _)); exact BK106.out) hb); have n2_ := Aside0.mk (below_step (by repeat (first | (with_reducible first | exact HB.out | apply below_alloc | apply pw_below_drewN | apply below_drew1 | refine below_set ?_ GE106.out) | exact HB.out)) hb); clear HO_3; clear BK106; clear HB; have HO_3 := n0_; have BK106 := n1_; have HB := n2_; clear n0_ n1_ n2_; (try clear hb); (try clear hb2); (try clear hk); (try clear hi)))
                              go_ret
                              exact ⟨by first | rfl | (simp [errW_none, errW_some] <;> rfl) | (simp [*, errW_none, errW_some] <;> rfl), by repeat (first | (with_reducible first | exact HB.out | apply below_alloc | apply pw_below_drewN | apply below_drew1 | refine below_set ?_ GE106.out) | exact HB.out)⟩
                            · rw [if_neg c59] at H
                              have c59b0 : ((wrap64 (t104 * t111)) == (wrap64 (x6_1 * t105))) = false := beq_eq_false_iff_ne.mpr c59
                              have c59b1 : ((wrap64 (t104 * t111)) != (wrap64 (x6_1 * t105))) = true := bne_iff_ne.mpr c59
                              obtain rfl := Option.some.inj H
                              have hcz63_0 : wr.cell? ⟨gb106, 0, none⟩ = some (.int .i64 t104) := (blk_cell BK106.out 0).trans rfl
                              have hcz63_1 : wr.cell? ⟨gb106, 1, none⟩ = some (.int .i64 t105) := (blk_cell BK106.out 1).trans rfl
                              have hfz63_0 := blk_frozen BK106.out 0
                              have hfz63_1 := blk_frozen BK106.out 1
                              go_wp2
                              go_ret
                              exact ⟨by first | rfl | (simp [errW_none, errW_some] <;> rfl) | (simp [*, errW_none, errW_some] <;> rfl), by repeat (first | (with_reducible first | exact HB.out | apply below_alloc | apply pw_below_drewN | apply below_drew1 | refine below_set ?_ GE106.out) | exact HB.out)⟩
                          · rw [if_neg c58] at H
                            have c58b0 : decide (1 ≤ t105) = false := decide_eq_false c58
                            clear c58
                            obtain rfl := Option.some.inj H
                            have hcz64_0 : wr.cell? ⟨gb106, 0, none⟩ = some (.int .i64 t104) := (blk_cell BK106.out 0).trans rfl
                            have hcz64_1 : wr.cell? ⟨gb106, 1, none⟩ = some (.int .i64 t105) := (blk_cell BK106.out 1).trans rfl
                            have hfz64_0 := blk_frozen BK106.out 0
                            have hfz64_1 := blk_frozen BK106.out 1
                            go_wp2
                            go_ret
                            exact ⟨by first | rfl | (simp [errW_none, errW_some] <;> rfl) | (simp [*, errW_none, errW_some] <;> rfl), by repeat (first | (with_reducible first | exact HB.out | apply below_alloc | apply pw_below_drewN | apply below_drew1 | refine below_set ?_ GE106.out) | exact HB.out)⟩
      · replace c16 := Bool.eq_false_iff.mpr c16
        subst c16
        have H1 : (if (t104 == 0 && (t105 == 0)) = true then ((laws_alive.f).bind fun t110 => (some t110)) else (some false)) = some r := by rw [if_neg (show ¬ (false = true) by decide)] at H; exact H
        clear H
        have H := H1
        clear H1
        by_cases c65 : (t104 == 0 && (t105 == 0)) = true
        · rw [if_pos c65] at H
          have c65b0 : (t104 == 0 && (t105 == 0)) = true := c65
          (try (have c65b1 : decide (t104 = 0 && (t105 == 0)) = true := by simpa using c65))
          (try (have c65b2 : (t104 == 0 && (t105 == 0)) = true := by simpa using c65))
          clear c65
          replace H := Option.bind_eq_some_iff.mp H
          obtain ⟨t110, A660, H⟩ := H
          replace H : (some t110) = some r := H
          have A66 := Aside0.mk A660
          clear A660
          obtain rfl := Option.some.inj H
          go_enter Try.func8, Try.ntmps8
          try go_wp2_with (first | ((with_reducible refine gate_callee (f := 24) rfl ?_); refine goesL_ (some 15) rfl rfl Try.func24 (by kernel_rfl) rfl #[.slice A0 l0.length c0] rfl (by (try simp only [List.map_toArray, List.map_cons, List.map_nil]); first | done | rfl | (simp only [List.length_drop, List.length_take]; rfl)) ?_; (with_reducible refine (spec_DrawUtilization.calls k _ _ l0 t101 _ ?side1 ?side2 A3.out).mono ?_); (case side1 => repeat (first | exact HR0.out | (with_reducible refine Kd.C_alloc ?_ _) | (with_reducible refine Kd.C_drewN ?_ _) | (with_reducible refine Kd.C_drew ?_))); (case side2 => exact HC0.out); rintro e w67 ⟨v102, rfl, ho0, hb⟩; refine ⟨_, rfl, ?_⟩; have n0_ := Aside0.mk (Kd.R_lower ho0 (below_size (by repeat (first | (with_reducible first | exact HB.out | apply below_alloc | apply pw_below_drewN | apply below_drew1) | exact HB.out)))); have n1_ := Aside0.mk (below_step (by repeat (first | (with_reducible first | exact HB.out | apply below_alloc | apply pw_below_drewN | apply below_drew1) | exact HB.out)) hb); clear HB; have HO103 := n0_; have HB := n1_; clear n0_ n1_; (try clear hb); (try clear hb2); (try clear hk); (try clear hi); (try clear ho0); obtain ⟨Ao68, co68, eo68⟩ := Kd.R_slice HO103.out; subst eo68) | ((with_reducible refine gate_callee (f := 25) rfl ?_); refine goesL_ (some 17) rfl rfl Try.func25 (by kernel_rfl) rfl #[.slice Ao68 t101.length co68] rfl (by (try simp only [List.map_toArray, List.map_cons, List.map_nil]); first | done | rfl | (simp only [List.length_drop, List.length_take]; rfl)) ?_; (with_reducible refine (impl_Utilization.calls k _ _ t101 t104 t105 _ ?side1 ?side2 A4.out).mono ?_); (case side1 => repeat (first | exact (Kd.R_reads' HO103.out).2.2 | (with_reducible refine Kd.C_alloc ?_ _) | (with_reducible refine Kd.C_drewN ?_ _) | (with_reducible refine Kd.C_drew ?_))); (case side2 => exact (Kd.R_reads' HO103.out).2.1); rintro e w69 ⟨rfl, hb⟩; refine ⟨_, rfl, ?_⟩; have n0_ := Aside0.mk (Kd.R_below (by (with_reducible repeat (first | apply Kd.R_alloc | apply Kd.R_drewN | apply Kd.R_drew)); exact HO103.out) hb); have n1_ := Aside0.mk (below_step (by repeat (first | (with_reducible first | exact HB.out | apply below_alloc | apply pw_below_drewN | apply below_drew1) | exact HB.out)) hb); clear HO103; clear HB; have HO103 := n0_; have HB := n1_; clear n0_ n1_; (try clear hb); (try clear hb2); (try clear hk); (try clear hi)) | ((with_reducible refine gate_dst (N := 4) rfl ?_); refine box_event ?hg (N := 4) ?hd (cs := #[.int .i64 0, .int .i64 0]) (t := 36) ?hr ?_; (case hd => rfl); (case hg => rfl); (case hr => first | (go_simp; done) | (go_simp; rfl)); intro gb106 hg w70 hbox hb; have n0_ := Aside0.mk (Kd.R_below (by (with_reducible repeat (first | apply Kd.R_alloc | apply Kd.R_drewN | apply Kd.R_drew)); exact HO103.out) hb); have n1_ := Aside0.mk (below_step (by repeat (first | (with_reducible first | exact HB.out | apply below_alloc | apply pw_below_drewN | apply below_drew1) | exact HB.out)) hb); have n2_ := Aside0.mk (hbox); have n3_ := Aside0.mk ((by rw [hg]; exact (below_size (by repeat (first | (with_reducible first | exact HB.out | apply below_alloc | apply pw_below_drewN | apply below_drew1) | exact HB.out))) : w.heap.size ≤ gb106)); have n4_ := Aside0.mk ((by rw [hg]; exact (below_size (by repeat (first | (with_reducible first | exact HB.out | apply below_alloc | apply pw_below_drewN | apply below_drew1) | exact HB.out))) : w.heap.size ≤ gb106)); clear HO103; clear HB; have HO103 := n0_; have HB := n1_; have BK106 := n2_; have GW106 := n3_; have GE106 := n4_; clear n0_ n1_ n2_ n3_ n4_; clear hb hbox hg; have hcz71_0 : w70.cell? ⟨gb106, 0, none⟩ = some (.int .i64 0) := (blk_cell BK106.out 0).trans rfl; have hcz71_1 : w70.cell? ⟨gb106, 1, none⟩ = some (.int .i64 0) := (blk_cell BK106.out 1).trans rfl; have hfz71_0 := blk_frozen BK106.out 0; have hfz71_1 := blk_frozen BK106.out 1))
          have n0_ : Aside0 (Kd.R k29 29 ((w70.setCell ⟨gb106, 0, none⟩ (.int .i64 t104)).setCell ⟨gb106, 1, none⟩ (.int .i64 t105)) w.heap.size (fun _ => True) (.slice Ao68 t101.length co68) t101) := ⟨by (with_reducible repeat (first | apply Kd.R_alloc | apply Kd.R_drewN | apply Kd.R_drew)); exact Kd.R_mono (Kd.R_far (p := ⟨gb106, 1, none⟩) (Kd.R_far (p := ⟨gb106, 0, none⟩) (Kd.R_types HO103.out BK106.out (by decide)) (fun _ hk => hk.2) (.int .i64 t104)) (fun _ hk => hk.2) (.int .i64 t105)) (fun _ hk => trivial)⟩
          have n1_ : Aside0 (((w70.setCell ⟨gb106, 0, none⟩ (.int .i64 t104)).setCell ⟨gb106, 1, none⟩ (.int .i64 t105)).heap[gb106]? = some (.cells #[.int .i64 t104, .int .i64 t105] 36 (0, 0))) := ⟨by (with_reducible repeat (first | refine blk_drewN ?_ _ | refine blk_drew ?_ | refine blk_alloc ?_ _)); refine blk_put (cs := #[.int .i64 t104, .int .i64 0]) ?_ 1 _ rfl; (with_reducible repeat (first | refine blk_drewN ?_ _ | refine blk_drew ?_ | refine blk_alloc ?_ _)); refine blk_put (cs := #[.int .i64 0, .int .i64 0]) ?_ 0 _ rfl; (with_reducible repeat (first | refine blk_drewN ?_ _ | refine blk_drew ?_ | refine blk_alloc ?_ _)); exact BK106.out⟩
          have n2_ : Aside0 (Below w.heap.size w ((w70.setCell ⟨gb106, 0, none⟩ (.int .i64 t104)).setCell ⟨gb106, 1, none⟩ (.int .i64 t105))) := ⟨by repeat (first | (with_reducible first | exact HB.out | apply below_alloc | apply pw_below_drewN | apply below_drew1 | refine below_set ?_ GE106.out) | exact HB.out)⟩
          (try clear HO103)
          (try clear BK106)
          (try clear HB)
          generalize ((w70.setCell ⟨gb106, 0, none⟩ (.int .i64 t104)).setCell ⟨gb106, 1, none⟩ (.int .i64 t105)) = w72 at n0_ n1_ n2_ ⊢
          have HO103 := n0_
          have BK106 := n1_
          have HB := n2_
          clear n0_ n1_ n2_
          have n0_ := Aside0.mk (Kd.R_drew HO103.out)
          have n1_ := Aside0.mk (blk_drew BK106.out)
          have n2_ := Aside0.mk (below_drew1 HB.out)
          clear HO103
          clear BK106
          clear HB
          have HO103 := n0_
          have BK106 := n1_
          have HB := n2_
          clear n0_ n1_ n2_
          refine start_ (n := 4) (S := fun w' => w'.cell? ⟨gb106, 0, none⟩ = some (.int .i64 t104) ∧ w'.cell? ⟨gb106, 1, none⟩ = some (.int .i64 t105)) (ds := []) #[false, false, false, false] (by kernel_rfl) rfl rfl ⟨(blk_cell BK106.out 0).trans rfl, (blk_cell BK106.out 1).trans rfl⟩ (fun hHeld => ?_)
          generalize w72.drew = w73 at HO103 BK106 HB hHeld ⊢
          refine pure_ (i := 1) (N := some 19) (v := ?_) (a' := ?_) #[false, true, false, false] rfl rfl (by kernel_rfl) (fun _ _ _ h => h) (Or.inl ⟨by rfl, ?_⟩) ?_ ?_
          rotate_left
          · intro w'
            go_simp
            with_reducible rfl
          rotate_left
          · simp only [Act.put, List.setIfInBounds_toArray, List.set_cons_zero, List.set_cons_succ, i64_w, i32_w]
            rfl
          refine take_ (i := 0) (N := some 18) (v := ?_) (a' := ?_) #[true, true, false, false] rfl rfl (by kernel_rfl) (fun _ _ _ h => h) (Or.inl ⟨by rfl, ?_⟩) hHeld ?_ ?_
          rotate_left
          · rintro w' ⟨s0, s1⟩
            go_simp
            with_reducible rfl
          rotate_left
          · simp only [Act.put, List.setIfInBounds_toArray, List.set_cons_zero, List.set_cons_succ, i64_w, i32_w]
            rfl
          refine one_ (i := 2) (N := some 20) #[true, true, true, false] rfl rfl (by kernel_rfl) (by decide) (fun K hK => ?_)
          refine goes_ Try.func26 (by kernel_rfl) rfl #[.slice Ao68 t101.length co68] (by rfl) rfl rfl (by (try simp only [List.map_toArray, List.map_cons, List.map_nil]); first | done | rfl | (simp only [List.length_drop, List.length_take]; rfl)) ?_
          with_reducible refine (spec_Utilization.calls k _ _ t101 t107 t108 _ ?side1 ?side2 A5.out).mono ?_
          (case side1 => repeat (first | exact (Kd.R_reads' HO103.out).2.2 | (with_reducible refine Kd.C_alloc ?_ _) | (with_reducible refine Kd.C_drewN ?_ _) | (with_reducible refine Kd.C_drew ?_)))
          (case side2 => exact (Kd.R_reads' HO103.out).2.1)
          rintro e w74 ⟨rfl, hb⟩
          refine ⟨_, rfl, ?_⟩
          have n0_ := Aside0.mk (Kd.R_below (by (with_reducible repeat (first | apply Kd.R_alloc | apply Kd.R_drewN | apply Kd.R_drew)); exact HO103.out) hb)
          have n1_ := Aside0.mk (blk_below (g := gb106) (o := .cells #[.int .i64 t104, .int .i64 t105] 36 (0, 0)) (by (with_reducible repeat (first | refine blk_drewN ?_ _ | refine blk_drew ?_ | refine blk_alloc ?_ _)); exact BK106.out) hb)
          have n2_ := Aside0.mk (below_step (by repeat (first | (with_reducible first | exact HB.out | apply below_alloc | apply pw_below_drewN | apply below_drew1 | refine below_set ?_ GE106.out) | exact HB.out)) hb)
          clear HO103
          clear BK106
          clear HB
          have HO103 := n0_
          have BK106 := n1_
          have HB := n2_
          clear n0_ n1_ n2_
          (try clear hb)
          (try clear hb2)
          (try clear hk)
          (try clear hi)
          refine hK.out _ _ ⟨(blk_cell BK106.out 0).trans rfl, (blk_cell BK106.out 1).trans rfl⟩ (fun hHeld => ?_)
          clear hK K
          refine norm_ (a' := ?_) ?_ ?_
          rotate_left
          · show Act.put _ (some 20) _ = _
            simp only [Act.put, List.setIfInBounds_toArray, List.set_cons_zero, List.set_cons_succ, i64_w, i32_w]
            rfl
          refine pure_ (i := 3) (N := some 21) (v := ?_) (a' := ?_) #[true, true, true, true] rfl rfl (by kernel_rfl) (fun _ _ _ h => h) (Or.inl ⟨by rfl, ?_⟩) ?_ ?_
          rotate_left
          · intro w'
            go_simp
            with_reducible rfl
          rotate_left
          · simp only [Act.put, List.setIfInBounds_toArray, List.set_cons_zero, List.set_cons_succ, i64_w, i32_w]
            rfl
          refine done_ (by kernel_rfl) ?_
          try go_wp2_with (first | ((with_reducible refine gate_callee (f := 14) rfl ?_); refine goesL_ (some 23) rfl rfl Try.func14 (by kernel_rfl) rfl #[.slice Ao68 t101.length co68] rfl (by (try simp only [List.map_toArray, List.map_cons, List.map_nil]); first | done | rfl | (simp only [List.length_drop, List.length_take]; rfl)) ?_; (with_reducible refine (spec_SetValid.calls k _ _ t101 false _ ?side1 ?side2 A15.out).mono ?_); (case side1 => repeat (first | exact (Kd.R_reads' HO103.out).2.2 | (with_reducible refine Kd.C_alloc ?_ _) | (with_reducible refine Kd.C_drewN ?_ _) | (with_reducible refine Kd.C_drew ?_))); (case side2 => exact (Kd.R_reads' HO103.out).2.1); rintro e w75 ⟨rfl, hb⟩; refine ⟨_, rfl, ?_⟩; have n0_ := Aside0.mk (Kd.R_below (by (with_reducible repeat (first | apply Kd.R_alloc | apply Kd.R_drewN | apply Kd.R_drew)); exact HO103.out) hb); have n1_ := Aside0.mk (blk_below (g := gb106) (o := .cells #[.int .i64 t104, .int .i64 t105] 36 (0, 0)) (by (with_reducible repeat (first | refine blk_drewN ?_ _ | refine blk_drew ?_ | refine blk_alloc ?_ _)); exact BK106.out) hb); have n2_ := Aside0.mk (below_step (by repeat (first | (with_reducible first | exact HB.out | apply below_alloc | apply pw_below_drewN | apply below_drew1 | refine below_set ?_ GE106.out) | exact HB.out)) hb); clear HO103; clear BK106; clear HB; have HO103 := n0_; have BK106 := n1_; have HB := n2_; clear n0_ n1_ n2_; (try clear hb); (try clear hb2); (try clear hk); (try clear hi); have hcz76_0 : w75.cell? ⟨gb106, 0, none⟩ = some (.int .i64 t104) := (blk_cell BK106.out 0).trans rfl; have hcz76_1 : w75.cell? ⟨gb106, 1, none⟩ = some (.int .i64 t105) := (blk_cell BK106.out 1).trans rfl; have hfz76_0 := blk_frozen BK106.out 0; have hfz76_1 := blk_frozen BK106.out 1) | (go_at_call 15; (with_reducible refine (laws_alive.calls  t110 _ A66.out).mono ?_); rintro e w77 ⟨rfl, hb⟩; have n0_ := Aside0.mk (Kd.R_below (by (with_reducible repeat (first | apply Kd.R_alloc | apply Kd.R_drewN | apply Kd.R_drew)); exact HO103.out) hb); have n1_ := Aside0.mk (blk_below (g := gb106) (o := .cells #[.int .i64 t104, .int .i64 t105] 36 (0, 0)) (by (with_reducible repeat (first | refine blk_drewN ?_ _ | refine blk_drew ?_ | refine blk_alloc ?_ _)); exact BK106.out) hb); have n2_ := Aside0.mk (below_step (by repeat (first | (with_reducible first | exact HB.out | apply below_alloc | apply pw_below_drewN | apply below_drew1 | refine below_set ?_ GE106.out) | exact HB.out)) hb); clear HO103; clear BK106; clear HB; have HO103 := n0_; have BK106 := n1_; have HB := n2_; clear n0_ n1_ n2_; (try clear hb); (try clear hb2); (try clear hk); (try clear hi)))
          go_ret
          exact ⟨by first | rfl | (simp [errW_none, errW_some] <;> rfl) | (simp [*, errW_none, errW_some] <;> rfl), by repeat (first | (with_reducible first | exact HB.out | apply below_alloc | apply pw_below_drewN | apply below_drew1 | refine below_set ?_ GE106.out) | exact HB.out)⟩
        · rw [if_neg c65] at H
          have c65b0 : (t104 == 0 && (t105 == 0)) = false := by simpa using c65
          (try (have c65b1 : decide (t104 = 0 && (t105 == 0)) = false := by simpa using c65))
          (try (have c65b2 : (t104 == 0 && (t105 == 0)) = false := by simpa using c65))
          (try (have c65b3 : ¬ (t104 = 0 && (t105 == 0)) := by simpa using c65))
          clear c65
          obtain rfl := Option.some.inj H
          go_enter Try.func8, Try.ntmps8
          try go_wp2_with (first | ((with_reducible refine gate_callee (f := 24) rfl ?_); refine goesL_ (some 15) rfl rfl Try.func24 (by kernel_rfl) rfl #[.slice A0 l0.length c0] rfl (by (try simp only [List.map_toArray, List.map_cons, List.map_nil]); first | done | rfl | (simp only [List.length_drop, List.length_take]; rfl)) ?_; (with_reducible refine (spec_DrawUtilization.calls k _ _ l0 t101 _ ?side1 ?side2 A3.out).mono ?_); (case side1 => repeat (first | exact HR0.out | (with_reducible refine Kd.C_alloc ?_ _) | (with_reducible refine Kd.C_drewN ?_ _) | (with_reducible refine Kd.C_drew ?_))); (case side2 => exact HC0.out); rintro e w78 ⟨v102, rfl, ho0, hb⟩; refine ⟨_, rfl, ?_⟩; have n0_ := Aside0.mk (Kd.R_lower ho0 (below_size (by repeat (first | (with_reducible first | exact HB.out | apply below_alloc | apply pw_below_drewN | apply below_drew1) | exact HB.out)))); have n1_ := Aside0.mk (below_step (by repeat (first | (with_reducible first | exact HB.out | apply below_alloc | apply pw_below_drewN | apply below_drew1) | exact HB.out)) hb); clear HB; have HO103 := n0_; have HB := n1_; clear n0_ n1_; (try clear hb); (try clear hb2); (try clear hk); (try clear hi); (try clear ho0); obtain ⟨Ao79, co79, eo79⟩ := Kd.R_slice HO103.out; subst eo79) | ((with_reducible refine gate_callee (f := 25) rfl ?_); refine goesL_ (some 17) rfl rfl Try.func25 (by kernel_rfl) rfl #[.slice Ao79 t101.length co79] rfl (by (try simp only [List.map_toArray, List.map_cons, List.map_nil]); first | done | rfl | (simp only [List.length_drop, List.length_take]; rfl)) ?_; (with_reducible refine (impl_Utilization.calls k _ _ t101 t104 t105 _ ?side1 ?side2 A4.out).mono ?_); (case side1 => repeat (first | exact (Kd.R_reads' HO103.out).2.2 | (with_reducible refine Kd.C_alloc ?_ _) | (with_reducible refine Kd.C_drewN ?_ _) | (with_reducible refine Kd.C_drew ?_))); (case side2 => exact (Kd.R_reads' HO103.out).2.1); rintro e w80 ⟨rfl, hb⟩; refine ⟨_, rfl, ?_⟩; have n0_ := Aside0.mk (Kd.R_below (by (with_reducible repeat (first | apply Kd.R_alloc | apply Kd.R_drewN | apply Kd.R_drew)); exact HO103.out) hb); have n1_ := Aside0.mk (below_step (by repeat (first | (with_reducible first | exact HB.out | apply below_alloc | apply pw_below_drewN | apply below_drew1) | exact HB.out)) hb); clear HO103; clear HB; have HO103 := n0_; have HB := n1_; clear n0_ n1_; (try clear hb); (try clear hb2); (try clear hk); (try clear hi)) | ((with_reducible refine gate_dst (N := 4) rfl ?_); refine box_event ?hg (N := 4) ?hd (cs := #[.int .i64 0, .int .i64 0]) (t := 36) ?hr ?_; (case hd => rfl); (case hg => rfl); (case hr => first | (go_simp; done) | (go_simp; rfl)); intro gb106 hg w81 hbox hb; have n0_ := Aside0.mk (Kd.R_below (by (with_reducible repeat (first | apply Kd.R_alloc | apply Kd.R_drewN | apply Kd.R_drew)); exact HO103.out) hb); have n1_ := Aside0.mk (below_step (by repeat (first | (with_reducible first | exact HB.out | apply below_alloc | apply pw_below_drewN | apply below_drew1) | exact HB.out)) hb); have n2_ := Aside0.mk (hbox); have n3_ := Aside0.mk ((by rw [hg]; exact (below_size (by repeat (first | (with_reducible first | exact HB.out | apply below_alloc | apply pw_below_drewN | apply below_drew1) | exact HB.out))) : w.heap.size ≤ gb106)); have n4_ := Aside0.mk ((by rw [hg]; exact (below_size (by repeat (first | (with_reducible first | exact HB.out | apply below_alloc | apply pw_below_drewN | apply below_drew1) | exact HB.out))) : w.heap.size ≤ gb106)); clear HO103; clear HB; have HO103 := n0_; have HB := n1_; have BK106 := n2_; have GW106 := n3_; have GE106 := n4_; clear n0_ n1_ n2_ n3_ n4_; clear hb hbox hg; have hcz82_0 : w81.cell? ⟨gb106, 0, none⟩ = some (.int .i64 0) := (blk_cell BK106.out 0).trans rfl; have hcz82_1 : w81.cell? ⟨gb106, 1, none⟩ = some (.int .i64 0) := (blk_cell BK106.out 1).trans rfl; have hfz82_0 := blk_frozen BK106.out 0; have hfz82_1 := blk_frozen BK106.out 1))
          have n0_ : Aside0 (Kd.R k29 29 ((w81.setCell ⟨gb106, 0, none⟩ (.int .i64 t104)).setCell ⟨gb106, 1, none⟩ (.int .i64 t105)) w.heap.size (fun _ => True) (.slice Ao79 t101.length co79) t101) := ⟨by (with_reducible repeat (first | apply Kd.R_alloc | apply Kd.R_drewN | apply Kd.R_drew)); exact Kd.R_mono (Kd.R_far (p := ⟨gb106, 1, none⟩) (Kd.R_far (p := ⟨gb106, 0, none⟩) (Kd.R_types HO103.out BK106.out (by decide)) (fun _ hk => hk.2) (.int .i64 t104)) (fun _ hk => hk.2) (.int .i64 t105)) (fun _ hk => trivial)⟩
          have n1_ : Aside0 (((w81.setCell ⟨gb106, 0, none⟩ (.int .i64 t104)).setCell ⟨gb106, 1, none⟩ (.int .i64 t105)).heap[gb106]? = some (.cells #[.int .i64 t104, .int .i64 t105] 36 (0, 0))) := ⟨by (with_reducible repeat (first | refine blk_drewN ?_ _ | refine blk_drew ?_ | refine blk_alloc ?_ _)); refine blk_put (cs := #[.int .i64 t104, .int .i64 0]) ?_ 1 _ rfl; (with_reducible repeat (first | refine blk_drewN ?_ _ | refine blk_drew ?_ | refine blk_alloc ?_ _)); refine blk_put (cs := #[.int .i64 0, .int .i64 0]) ?_ 0 _ rfl; (with_reducible repeat (first | refine blk_drewN ?_ _ | refine blk_drew ?_ | refine blk_alloc ?_ _)); exact BK106.out⟩
          have n2_ : Aside0 (Below w.heap.size w ((w81.setCell ⟨gb106, 0, none⟩ (.int .i64 t104)).setCell ⟨gb106, 1, none⟩ (.int .i64 t105))) := ⟨by repeat (first | (with_reducible first | exact HB.out | apply below_alloc | apply pw_below_drewN | apply below_drew1 | refine below_set ?_ GE106.out) | exact HB.out)⟩
          (try clear HO103)
          (try clear BK106)
          (try clear HB)
          generalize ((w81.setCell ⟨gb106, 0, none⟩ (.int .i64 t104)).setCell ⟨gb106, 1, none⟩ (.int .i64 t105)) = w83 at n0_ n1_ n2_ ⊢
          have HO103 := n0_
          have BK106 := n1_
          have HB := n2_
          clear n0_ n1_ n2_
          have n0_ := Aside0.mk (Kd.R_drew HO103.out)
          have n1_ := Aside0.mk (blk_drew BK106.out)
          have n2_ := Aside0.mk (below_drew1 HB.out)
          clear HO103
          clear BK106
          clear HB
          have HO103 := n0_
          have BK106 := n1_
          have HB := n2_
          clear n0_ n1_ n2_
          refine start_ (n := 4) (S := fun w' => w'.cell? ⟨gb106, 0, none⟩ = some (.int .i64 t104) ∧ w'.cell? ⟨gb106, 1, none⟩ = some (.int .i64 t105)) (ds := []) #[false, false, false, false] (by kernel_rfl) rfl rfl ⟨(blk_cell BK106.out 0).trans rfl, (blk_cell BK106.out 1).trans rfl⟩ (fun hHeld => ?_)
          generalize w83.drew = w84 at HO103 BK106 HB hHeld ⊢
          refine pure_ (i := 1) (N := some 19) (v := ?_) (a' := ?_) #[false, true, false, false] rfl rfl (by kernel_rfl) (fun _ _ _ h => h) (Or.inl ⟨by rfl, ?_⟩) ?_ ?_
          rotate_left
          · intro w'
            go_simp
            with_reducible rfl
          rotate_left
          · simp only [Act.put, List.setIfInBounds_toArray, List.set_cons_zero, List.set_cons_succ, i64_w, i32_w]
            rfl
          refine take_ (i := 0) (N := some 18) (v := ?_) (a' := ?_) #[true, true, false, false] rfl rfl (by kernel_rfl) (fun _ _ _ h => h) (Or.inl ⟨by rfl, ?_⟩) hHeld ?_ ?_
          rotate_left
          · rintro w' ⟨s0, s1⟩
            go_simp
            with_reducible rfl
          rotate_left
          · simp only [Act.put, List.setIfInBounds_toArray, List.set_cons_zero, List.set_cons_succ, i64_w, i32_w]
            rfl
          refine one_ (i := 2) (N := some 20) #[true, true, true, false] rfl rfl (by kernel_rfl) (by decide) (fun K hK => ?_)
          refine goes_ Try.func26 (by kernel_rfl) rfl #[.slice Ao79 t101.length co79] (by rfl) rfl rfl (by (try simp only [List.map_toArray, List.map_cons, List.map_nil]); first | done | rfl | (simp only [List.length_drop, List.length_take]; rfl)) ?_
          with_reducible refine (spec_Utilization.calls k _ _ t101 t107 t108 _ ?side1 ?side2 A5.out).mono ?_
          (case side1 => repeat (first | exact (Kd.R_reads' HO103.out).2.2 | (with_reducible refine Kd.C_alloc ?_ _) | (with_reducible refine Kd.C_drewN ?_ _) | (with_reducible refine Kd.C_drew ?_)))
          (case side2 => exact (Kd.R_reads' HO103.out).2.1)
          rintro e w85 ⟨rfl, hb⟩
          refine ⟨_, rfl, ?_⟩
          have n0_ := Aside0.mk (Kd.R_below (by (with_reducible repeat (first | apply Kd.R_alloc | apply Kd.R_drewN | apply Kd.R_drew)); exact HO103.out) hb)
          have n1_ := Aside0.mk (blk_below (g := gb106) (o := .cells #[.int .i64 t104, .int .i64 t105] 36 (0, 0)) (by (with_reducible repeat (first | refine blk_drewN ?_ _ | refine blk_drew ?_ | refine blk_alloc ?_ _)); exact BK106.out) hb)
          have n2_ := Aside0.mk (below_step (by repeat (first | (with_reducible first | exact HB.out | apply below_alloc | apply pw_below_drewN | apply below_drew1 | refine below_set ?_ GE106.out) | exact HB.out)) hb)
          clear HO103
          clear BK106
          clear HB
          have HO103 := n0_
          have BK106 := n1_
          have HB := n2_
          clear n0_ n1_ n2_
          (try clear hb)
          (try clear hb2)
          (try clear hk)
          (try clear hi)
          refine hK.out _ _ ⟨(blk_cell BK106.out 0).trans rfl, (blk_cell BK106.out 1).trans rfl⟩ (fun hHeld => ?_)
          clear hK K
          refine norm_ (a' := ?_) ?_ ?_
          rotate_left
          · show Act.put _ (some 20) _ = _
            simp only [Act.put, List.setIfInBounds_toArray, List.set_cons_zero, List.set_cons_succ, i64_w, i32_w]
            rfl
          refine pure_ (i := 3) (N := some 21) (v := ?_) (a' := ?_) #[true, true, true, true] rfl rfl (by kernel_rfl) (fun _ _ _ h => h) (Or.inl ⟨by rfl, ?_⟩) ?_ ?_
          rotate_left
          · intro w'
            go_simp
            with_reducible rfl
          rotate_left
          · simp only [Act.put, List.setIfInBounds_toArray, List.set_cons_zero, List.set_cons_succ, i64_w, i32_w]
            rfl
          refine done_ (by kernel_rfl) ?_
          try go_wp2_with (first | ((with_reducible refine gate_callee (f := 14) rfl ?_); refine goesL_ (some 23) rfl rfl Try.func14 (by kernel_rfl) rfl #[.slice Ao79 t101.length co79] rfl (by (try simp only [List.map_toArray, List.map_cons, List.map_nil]); first | done | rfl | (simp only [List.length_drop, List.length_take]; rfl)) ?_; (with_reducible refine (spec_SetValid.calls k _ _ t101 false _ ?side1 ?side2 A15.out).mono ?_); (case side1 => repeat (first | exact (Kd.R_reads' HO103.out).2.2 | (with_reducible refine Kd.C_alloc ?_ _) | (with_reducible refine Kd.C_drewN ?_ _) | (with_reducible refine Kd.C_drew ?_))); (case side2 => exact (Kd.R_reads' HO103.out).2.1); rintro e w86 ⟨rfl, hb⟩; refine ⟨_, rfl, ?_⟩; have n0_ := Aside0.mk (Kd.R_below (by (with_reducible repeat (first | apply Kd.R_alloc | apply Kd.R_drewN | apply Kd.R_drew)); exact HO103.out) hb); have n1_ := Aside0.mk (blk_below (g := gb106) (o := .cells #[.int .i64 t104, .int .i64 t105] 36 (0, 0)) (by (with_reducible repeat (first | refine blk_drewN ?_ _ | refine blk_drew ?_ | refine blk_alloc ?_ _)); exact BK106.out) hb); have n2_ := Aside0.mk (below_step (by repeat (first | (with_reducible first | exact HB.out | apply below_alloc | apply pw_below_drewN | apply below_drew1 | refine below_set ?_ GE106.out) | exact HB.out)) hb); clear HO103; clear BK106; clear HB; have HO103 := n0_; have BK106 := n1_; have HB := n2_; clear n0_ n1_ n2_; (try clear hb); (try clear hb2); (try clear hk); (try clear hi); have hcz87_0 : w86.cell? ⟨gb106, 0, none⟩ = some (.int .i64 t104) := (blk_cell BK106.out 0).trans rfl; have hcz87_1 : w86.cell? ⟨gb106, 1, none⟩ = some (.int .i64 t105) := (blk_cell BK106.out 1).trans rfl; have hfz87_0 := blk_frozen BK106.out 0; have hfz87_1 := blk_frozen BK106.out 1))
          go_ret
          exact ⟨by first | rfl | (simp [errW_none, errW_some] <;> rfl) | (simp [*, errW_none, errW_some] <;> rfl), by repeat (first | (with_reducible first | exact HB.out | apply below_alloc | apply pw_below_drewN | apply below_drew1 | refine below_set ?_ GE106.out) | exact HB.out)⟩

/-- THE ONE PURE STATEMENT of laws_FnUtilization: yours. -/
def laws_FnUtilization.Pure : Prop := ∀ (l0 : List Int), l0.length ≤ maxLen → l0.length * 1 ≤ 140737488351232 → (∀ x ∈ l0, (Lit.int .u8 x).wf = true) → ∃ k, laws_FnUtilization.f k l0 = some true
theorem laws_FnUtilization.walk (P : laws_FnUtilization.Pure) (a0 : Option Addr) (len0 cap0 : Nat) (z0 : List Int) (w : World) (w0 : (a0 = none ∧ len0 = 0 ∧ cap0 = 0 ∧ z0 = []) ∨ ∃ x, a0 = some x ∧ len0 ≤ cap0 ∧ cap0 ≤ maxLen ∧ z0.length = cap0 ∧ (∀ i, i < z0.length → w.cell? (x.add i) = some (.int .u8 (z0.getD i 0))) ∧ ∀ n ∈ z0, (Lit.int .u8 n).wf = true) (y0 : len0 * 1 ≤ 140737488351232) :
    Calls Try.prog 8 #[.slice a0 len0 cap0] w fun e w' => e = .returned (.bool true) ∧ Below w.heap.size w w' := by
  obtain ⟨l0, rfl, hr0, hm0, hw0, hc0⟩ := ReadsInt.ofRowC w0
  obtain ⟨k, h⟩ := P l0 hm0 y0 hw0
  refine (laws_FnUtilization.calls k _ _ l0 true w (Kd.C_of_reads (d := (0 : Int)) (h1 := fun _ => rfl) hr0) hc0 h).mono ?_
  rintro e w' ⟨rfl, hd⟩
  exact ⟨rfl, hd⟩

end Go.Proofs.Ythpnfipkgfbbeaa.Q
