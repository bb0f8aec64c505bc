-- written by mp.py, a program of this session's, out of the kit's print program and the translation
import Derived.Test.YtpgheaoepaadlaaF0
import Derived.Test.YtpgheaoepaadlaaFEq41
import Derived.Test.YtpgheaoepaadlaaFA
import Derived.Test.YtpgheaoepaadlaaFspecXMixedValid
import Derived.Test.YtpgheaoepaadlaaFspecXDrawDeadlineScale
import Derived.Test.YtpgheaoepaadlaaFimplXDeadlineScale
import Derived.Test.YtpgheaoepaadlaaFspecXDeadlineScale
import Derived.Test.YtpgheaoepaadlaaFlawsXsums
namespace Go.Proofs.Ytpgheaoepaadlaa.Q
open Go.RowKit Go.Proofs.YtpgheaoepaadlaaW.PrintWords Go.Proofs.YtpgheaoepaadlaaW.PrintLast Go.Proofs.YtpgheaoepaadlaaW.PrintMore
attribute [local go_sem] max2_int min2_int max_two min_two max_three min_three max_four min_four   -- for this text's walks alone
set_option linter.unusedVariables false
set_option linter.unusedSimpArgs false

attribute [local go_sem high] eqA41
/-! ### laws_FnDeadlineScale: function 8 -/
mutual
def laws_FnDeadlineScale.j0 : Nat → List (S39) → Bool → Bool → Int → Int → Option (Bool)
  | 0, _, _, _, _, _ => none
  | k + 1, x3, x5, x34, x108000, x108001 => if x34 = true then (some false) else ((spec_MixedValid.f k x3).bind fun t112 => (if t112 = true then ((laws_sums.f k x3).bind fun bt114 => (if x5 = true then (if x108000 < 1 then (laws_FnDeadlineScale.j1 k bt114.1 bt114.2.1 bt114.2.2.1 bt114.2.2.2 true x108000 x108001) else (laws_FnDeadlineScale.j1 k bt114.1 bt114.2.1 bt114.2.2.1 bt114.2.2.2 (decide (x108000 > x108001)) x108000 x108001)) else (if (x108000 == 0 && (x108001 == 0)) = true then (some (decide ((wrap64 (bt114.1 + bt114.2.2.1)) > bt114.2.2.2))) else (some false)))) else (if x5 = true then (some false) else ((laws_alive.f).bind fun t113 => (some t113)))))
def laws_FnDeadlineScale.j1 : Nat → Int → Int → Int → Int → Bool → Int → Int → Option (Bool)
  | 0, _, _, _, _, _, _, _ => none
  | k + 1, x8, x9, x10, x11, x71, x108000, x108001 => if x71 = true then (some false) else (if (wrap64 (x8 + x10)) ≤ x11 then (some (x108000 == 1 && (x108001 == 1))) else (if (wrap64 (x108000 * (wrap64 (x11 - x8)))) = (wrap64 (x9 * x108001)) then (some (decide ((wrap64 ((wrap64 (x108000 * x8)) + (wrap64 (x10 * x108001)))) ≤ (wrap64 (x11 * x108001))))) else (some false)))
end
def laws_FnDeadlineScale.f (k : Nat) (l0 : List Int) : Option (Bool) := if (l0.length : Int) > 1048576 then (some true) else ((spec_DrawDeadlineScale.f k l0).bind fun t101 => ((impl_DeadlineScale.f k t101).bind fun bt104 => ((spec_DeadlineScale.f k t101).bind fun bt108 => (if (!(bt104.1 == bt108.1) || (!(bt104.2.1 == bt108.2.1))) = true then (laws_FnDeadlineScale.j0 k t101 bt104.2.2 true bt104.1 bt104.2.1) else (laws_FnDeadlineScale.j0 k t101 bt104.2.2 (bt104.2.2 != bt108.2.2) bt104.1 bt104.2.1)))))
theorem laws_FnDeadlineScale.mono_l : ∀ k, (∀ y0 y1 y2 y3 y4, LeO (laws_FnDeadlineScale.j0 k y0 y1 y2 y3 y4) (laws_FnDeadlineScale.j0 (k + 1) y0 y1 y2 y3 y4)) ∧ (∀ y0 y1 y2 y3 y4 y5 y6, LeO (laws_FnDeadlineScale.j1 k y0 y1 y2 y3 y4 y5 y6) (laws_FnDeadlineScale.j1 (k + 1) y0 y1 y2 y3 y4 y5 y6))
  | 0 => ⟨fun _ _ _ _ _ r h => by simp [laws_FnDeadlineScale.j0] at h, fun _ _ _ _ _ _ _ r h => by simp [laws_FnDeadlineScale.j1] at h⟩
  | k + 1 => by
    obtain ⟨ih0, ih1⟩ := laws_FnDeadlineScale.mono_l k
    refine ⟨?_, ?_⟩
    · intro y0 y1 y2 y3 y4
      unfold laws_FnDeadlineScale.j0
      repeat' first
      | (with_reducible exact ih0 _ _ _ _ _)
      | (with_reducible exact ih1 _ _ _ _ _ _ _)
      | (with_reducible exact impl_DeadlineScale.mono _ _)
      | (with_reducible exact laws_sums.mono _ _)
      | (with_reducible exact spec_DeadlineScale.mono _ _)
      | (with_reducible exact spec_DrawDeadlineScale.mono _ _)
      | (with_reducible exact spec_MixedValid.mono _ _)
      | (with_reducible exact LeO.refl _)
      | (with_reducible exact LeO.none _)
      | (with_reducible refine LeO.ite ?_ ?_)
      | (with_reducible refine LeO.bind ?_ (fun _ => ?_))
      | exact ih0 _ _ _ _ _
      | exact ih1 _ _ _ _ _ _ _
      | exact impl_DeadlineScale.mono _ _
      | exact laws_sums.mono _ _
      | exact spec_DeadlineScale.mono _ _
      | exact spec_DrawDeadlineScale.mono _ _
      | exact spec_MixedValid.mono _ _
      | exact LeO.none _
      | refine LeO.ite ?_ ?_
      | refine LeO.bind ?_ (fun _ => ?_)
    · intro y0 y1 y2 y3 y4 y5 y6
      unfold laws_FnDeadlineScale.j1
      repeat' first
      | (with_reducible exact ih0 _ _ _ _ _)
      | (with_reducible exact ih1 _ _ _ _ _ _ _)
      | (with_reducible exact impl_DeadlineScale.mono _ _)
      | (with_reducible exact laws_sums.mono _ _)
      | (with_reducible exact spec_DeadlineScale.mono _ _)
      | (with_reducible exact spec_DrawDeadlineScale.mono _ _)
      | (with_reducible exact spec_MixedValid.mono _ _)
      | (with_reducible exact LeO.refl _)
      | (with_reducible exact LeO.none _)
      | (with_reducible refine LeO.ite ?_ ?_)
      | (with_reducible refine LeO.bind ?_ (fun _ => ?_))
      | exact ih0 _ _ _ _ _
      | exact ih1 _ _ _ _ _ _ _
      | exact impl_DeadlineScale.mono _ _
      | exact laws_sums.mono _ _
      | exact spec_DeadlineScale.mono _ _
      | exact spec_DrawDeadlineScale.mono _ _
      | exact spec_MixedValid.mono _ _
      | exact LeO.none _
      | refine LeO.ite ?_ ?_
      | refine LeO.bind ?_ (fun _ => ?_)
theorem laws_FnDeadlineScale.mono : ∀ a0 k, LeO (laws_FnDeadlineScale.f k a0) (laws_FnDeadlineScale.f (k + 1) a0) := by
  intro a0 k
  obtain ⟨ih0, ih1⟩ := laws_FnDeadlineScale.mono_l k
  unfold laws_FnDeadlineScale.f
  repeat' first
      | (with_reducible exact ih0 _ _ _ _ _)
      | (with_reducible exact ih1 _ _ _ _ _ _ _)
      | (with_reducible exact impl_DeadlineScale.mono _ _)
      | (with_reducible exact laws_sums.mono _ _)
      | (with_reducible exact spec_DeadlineScale.mono _ _)
      | (with_reducible exact spec_DrawDeadlineScale.mono _ _)
      | (with_reducible exact spec_MixedValid.mono _ _)
      | (with_reducible exact LeO.refl _)
      | (with_reducible exact LeO.none _)
      | (with_reducible refine LeO.ite ?_ ?_)
      | (with_reducible refine LeO.bind ?_ (fun _ => ?_))
      | exact ih0 _ _ _ _ _
      | exact ih1 _ _ _ _ _ _ _
      | exact impl_DeadlineScale.mono _ _
      | exact laws_sums.mono _ _
      | exact spec_DeadlineScale.mono _ _
      | exact spec_DrawDeadlineScale.mono _ _
      | exact spec_MixedValid.mono _ _
      | exact LeO.none _
      | refine LeO.ite ?_ ?_
      | refine LeO.bind ?_ (fun _ => ?_)
set_option maxHeartbeats 8000000 in
set_option maxRecDepth 100000 in
theorem laws_FnDeadlineScale.calls (k : Nat) (A0 : Option Addr) (c0 : Nat) (l0 : List Int) (r : Bool) (w : World) (hr0 : Kd.C (Kd.int .u8) w A0 l0.length l0) (hc0 : l0.length ≤ c0) (h : laws_FnDeadlineScale.f k l0 = some r) :
    Calls Try.prog 8 #[.slice A0 l0.length c0] w fun e w' => e = .returned (.bool r) ∧ Below w.heap.size w w' := by
  have hu41 := Try.underlying41
  have HR0 := Aside0.mk hr0
  have HC0 := Aside0.mk hc0
  clear hr0 hc0
  have HB := Aside0.mk (Below.refl w.heap.size w)
  have H : (if (l0.length : Int) > 1048576 then (some true) else ((spec_DrawDeadlineScale.f k l0).bind fun t101 => ((impl_DeadlineScale.f k t101).bind fun bt104 => ((spec_DeadlineScale.f k t101).bind fun bt108 => (if (!(bt104.1 == bt108.1) || (!(bt104.2.1 == bt108.2.1))) = true then (laws_FnDeadlineScale.j0 k t101 bt104.2.2 true bt104.1 bt104.2.1) else (laws_FnDeadlineScale.j0 k t101 bt104.2.2 (bt104.2.2 != bt108.2.2) bt104.1 bt104.2.1)))))) = some r := h
  clear h
  by_cases c2 : (l0.length : Int) > 1048576
  · rw [if_pos c2] at H
    have c2b0 : decide (1048576 < (l0.length : Int)) = true := decide_eq_true c2
    have c2b1 : decide (1048576 < l0.length) = true := decide_eq_true (by omega)
    clear c2
    obtain rfl := Option.some.inj H
    go_enter Try.func8, Try.ntmps8
    go_wp2
    go_ret
    exact ⟨by first | rfl | (simp [errW_none, errW_some] <;> rfl) | (simp [*, errW_none, errW_some] <;> rfl), by repeat (first | (with_reducible first | exact HB.out | apply below_alloc | apply pw_below_drewN | apply below_drew1) | exact HB.out)⟩
  · rw [if_neg c2] at H
    have c2b0 : decide (1048576 < (l0.length : Int)) = false := decide_eq_false c2
    have c2b1 : decide (1048576 < l0.length) = false := decide_eq_false (by omega)
    clear c2
    replace H := Option.bind_eq_some_iff.mp H
    obtain ⟨t101, A30, H⟩ := H
    replace H : ((impl_DeadlineScale.f k t101).bind fun bt104 => ((spec_DeadlineScale.f k t101).bind fun bt108 => (if (!(bt104.1 == bt108.1) || (!(bt104.2.1 == bt108.2.1))) = true then (laws_FnDeadlineScale.j0 k t101 bt104.2.2 true bt104.1 bt104.2.1) else (laws_FnDeadlineScale.j0 k t101 bt104.2.2 (bt104.2.2 != bt108.2.2) bt104.1 bt104.2.1)))) = some r := H
    have A3 := Aside0.mk A30
    clear A30
    replace H := Option.bind_eq_some_iff.mp H
    obtain ⟨⟨t104, t105, t106⟩, A40, H⟩ := H
    replace H : ((spec_DeadlineScale.f k t101).bind fun bt108 => (if (!(t104 == bt108.1) || (!(t105 == bt108.2.1))) = true then (laws_FnDeadlineScale.j0 k t101 t106 true t104 t105) else (laws_FnDeadlineScale.j0 k t101 t106 (t106 != bt108.2.2) t104 t105))) = some r := H
    have A4 := Aside0.mk A40
    clear A40
    replace H := Option.bind_eq_some_iff.mp H
    obtain ⟨⟨t108, t109, t110⟩, A50, H⟩ := H
    replace H : (if (!(t104 == t108) || (!(t105 == t109))) = true then (laws_FnDeadlineScale.j0 k t101 t106 true t104 t105) else (laws_FnDeadlineScale.j0 k t101 t106 (t106 != t110) t104 t105)) = some r := H
    have A5 := Aside0.mk A50
    clear A50
    have HC6 := Aside0.mk H
    clear H
    go_enter Try.func8, Try.ntmps8
    go_upto_region 6 with (first | ((with_reducible refine gate_callee (f := 21) rfl ?_); refine goesL_ (some 16) rfl rfl Try.func21 (by kernel_rfl) rfl #[.slice A0 l0.length c0] rfl (by (try simp only [List.map_toArray, List.map_cons, List.map_nil]); first | done | rfl | (simp only [List.length_drop, List.length_take]; rfl)) ?_; (with_reducible refine (spec_DrawDeadlineScale.calls k _ _ l0 t101 _ ?side1 ?side2 A3.out).mono ?_); (case side1 => repeat (first | exact HR0.out | (with_reducible refine Kd.C_alloc ?_ _) | (with_reducible refine Kd.C_drewN ?_ _) | (with_reducible refine Kd.C_drew ?_))); (case side2 => exact HC0.out); rintro e w7 ⟨v102, rfl, ho0, hb⟩; refine ⟨_, rfl, ?_⟩; have n0_ := Aside0.mk (Kd.R_lower ho0 (below_size (by repeat (first | (with_reducible first | exact HB.out | apply below_alloc | apply pw_below_drewN | apply below_drew1) | exact HB.out)))); have n1_ := Aside0.mk (below_step (by repeat (first | (with_reducible first | exact HB.out | apply below_alloc | apply pw_below_drewN | apply below_drew1) | exact HB.out)) hb); clear HB; have HO103 := n0_; have HB := n1_; clear n0_ n1_; (try clear hb); (try clear hb2); (try clear hk); (try clear hi); (try clear ho0); obtain ⟨Ao8, co8, eo8⟩ := Kd.R_slice HO103.out; subst eo8) | ((with_reducible refine gate_callee (f := 22) rfl ?_); refine goesL_ (some 19) rfl rfl Try.func22 (by kernel_rfl) rfl #[.slice Ao8 t101.length co8] rfl (by (try simp only [List.map_toArray, List.map_cons, List.map_nil]); first | done | rfl | (simp only [List.length_drop, List.length_take]; rfl)) ?_; (with_reducible refine (impl_DeadlineScale.calls k _ _ t101 t104 t105 t106 _ ?side1 ?side2 A4.out).mono ?_); (case side1 => repeat (first | exact (Kd.R_reads' HO103.out).2.2 | (with_reducible refine Kd.C_alloc ?_ _) | (with_reducible refine Kd.C_drewN ?_ _) | (with_reducible refine Kd.C_drew ?_))); (case side2 => exact (Kd.R_reads' HO103.out).2.1); rintro e w9 ⟨rfl, hb⟩; refine ⟨_, rfl, ?_⟩; have n0_ := Aside0.mk (Kd.R_below (by (with_reducible repeat (first | apply Kd.R_alloc | apply Kd.R_drewN | apply Kd.R_drew)); exact HO103.out) hb); have n1_ := Aside0.mk (below_step (by repeat (first | (with_reducible first | exact HB.out | apply below_alloc | apply pw_below_drewN | apply below_drew1) | exact HB.out)) hb); clear HO103; clear HB; have HO103 := n0_; have HB := n1_; clear n0_ n1_; (try clear hb); (try clear hb2); (try clear hk); (try clear hi)) | ((with_reducible refine gate_dst (N := 4) rfl ?_); refine box_event ?hg (N := 4) ?hd (cs := #[.int .i64 0, .int .i64 0]) (t := 41) ?hr ?_; (case hd => rfl); (case hg => rfl); (case hr => first | (go_simp; done) | (go_simp; rfl)); intro gb107 hg w10 hbox hb; have n0_ := Aside0.mk (Kd.R_below (by (with_reducible repeat (first | apply Kd.R_alloc | apply Kd.R_drewN | apply Kd.R_drew)); exact HO103.out) hb); have n1_ := Aside0.mk (below_step (by repeat (first | (with_reducible first | exact HB.out | apply below_alloc | apply pw_below_drewN | apply below_drew1) | exact HB.out)) hb); have n2_ := Aside0.mk (hbox); have n3_ := Aside0.mk ((by rw [hg]; exact (below_size (by repeat (first | (with_reducible first | exact HB.out | apply below_alloc | apply pw_below_drewN | apply below_drew1) | exact HB.out))) : w.heap.size ≤ gb107)); have n4_ := Aside0.mk ((by rw [hg]; exact (below_size (by repeat (first | (with_reducible first | exact HB.out | apply below_alloc | apply pw_below_drewN | apply below_drew1) | exact HB.out))) : w.heap.size ≤ gb107)); clear HO103; clear HB; have HO103 := n0_; have HB := n1_; have BK107 := n2_; have GW107 := n3_; have GE107 := n4_; clear n0_ n1_ n2_ n3_ n4_; clear hb hbox hg; have hcz11_0 : w10.cell? ⟨gb107, 0, none⟩ = some (.int .i64 0) := (blk_cell BK107.out 0).trans rfl; have hcz11_1 : w10.cell? ⟨gb107, 1, none⟩ = some (.int .i64 0) := (blk_cell BK107.out 1).trans rfl; have hfz11_0 := blk_frozen BK107.out 0; have hfz11_1 := blk_frozen BK107.out 1) | ((with_reducible refine gate_callee (f := 23) rfl ?_); refine goesL_ (some 24) rfl rfl Try.func23 (by kernel_rfl) rfl #[.slice Ao8 t101.length co8] rfl (by (try simp only [List.map_toArray, List.map_cons, List.map_nil]); first | done | rfl | (simp only [List.length_drop, List.length_take]; rfl)) ?_; (with_reducible refine (spec_DeadlineScale.calls k _ _ t101 t108 t109 t110 _ ?side1 ?side2 A5.out).mono ?_); (case side1 => refine (Kd.R_reads' (e := 39) (base := w.heap.size) (ok := fun k_ => True) (n := t101.length) (c := co8) ?_).2.2; exact (by (with_reducible repeat (first | apply Kd.R_alloc | apply Kd.R_drewN | apply Kd.R_drew)); exact (Kd.R_mono (Kd.R_far (p := ⟨gb107, 1, none⟩) (Kd.R_far (p := ⟨gb107, 0, none⟩) (Kd.R_types HO103.out BK107.out (by decide)) (fun _ hk => hk.2) (.int .i64 t104)) (fun _ hk => hk.2) (.int .i64 t105)) (fun _ h_ => h_.1)))); (case side2 => exact (Kd.R_reads' HO103.out).2.1); rintro e w12 ⟨rfl, hb⟩; refine ⟨_, rfl, ?_⟩; have n0_ := Aside0.mk (Kd.R_below (by (with_reducible repeat (first | apply Kd.R_alloc | apply Kd.R_drewN | apply Kd.R_drew)); exact (Kd.R_mono (Kd.R_far (p := ⟨gb107, 1, none⟩) (Kd.R_far (p := ⟨gb107, 0, none⟩) (Kd.R_types HO103.out BK107.out (by decide)) (fun _ hk => hk.2) (.int .i64 t104)) (fun _ hk => hk.2) (.int .i64 t105)) (fun _ h_ => h_.1))) hb); have n1_ := Aside0.mk (blk_below (g := gb107) (o := .cells #[.int .i64 t104, .int .i64 t105] 41 (0, 0)) (by (with_reducible repeat (first | refine blk_drewN ?_ _ | refine blk_drew ?_ | refine blk_alloc ?_ _)); refine blk_put (cs := #[.int .i64 t104, .int .i64 0]) ?_ 1 _ rfl; (with_reducible repeat (first | refine blk_drewN ?_ _ | refine blk_drew ?_ | refine blk_alloc ?_ _)); refine blk_put (cs := #[.int .i64 0, .int .i64 0]) ?_ 0 _ rfl; (with_reducible repeat (first | refine blk_drewN ?_ _ | refine blk_drew ?_ | refine blk_alloc ?_ _)); exact BK107.out) hb); have n2_ := Aside0.mk (below_step (by repeat (first | (with_reducible first | exact HB.out | apply below_alloc | apply pw_below_drewN | apply below_drew1 | refine below_set ?_ GE107.out) | exact HB.out)) hb); clear HO103; clear BK107; clear HB; have HO103 := n0_; have BK107 := n1_; have HB := n2_; clear n0_ n1_ n2_; (try clear hb); (try clear hb2); (try clear hk); (try clear hi)) | ((with_reducible refine gate_dst (N := 6) rfl ?_); refine box_event ?hg (N := 6) ?hd (cs := #[.int .i64 0, .int .i64 0]) (t := 41) ?hr ?_; (case hd => rfl); (case hg => rfl); (case hr => first | (go_simp; done) | (go_simp; rfl)); intro gb111 hg w13 hbox hb; have n0_ := Aside0.mk (Kd.R_below (by (with_reducible repeat (first | apply Kd.R_alloc | apply Kd.R_drewN | apply Kd.R_drew)); exact HO103.out) hb); have n1_ := Aside0.mk (blk_below (g := gb107) (o := .cells #[.int .i64 t104, .int .i64 t105] 41 (0, 0)) (by (with_reducible repeat (first | refine blk_drewN ?_ _ | refine blk_drew ?_ | refine blk_alloc ?_ _)); exact BK107.out) hb); have n2_ := Aside0.mk (below_step (by repeat (first | (with_reducible first | exact HB.out | apply below_alloc | apply pw_below_drewN | apply below_drew1 | refine below_set ?_ GE107.out) | exact HB.out)) hb); have n3_ := Aside0.mk (hbox); have n4_ := Aside0.mk ((by rw [hg]; exact (below_size (by repeat (first | (with_reducible first | exact HB.out | apply below_alloc | apply pw_below_drewN | apply below_drew1 | refine below_set ?_ GE107.out) | exact HB.out))) : w.heap.size ≤ gb111)); have n5_ := Aside0.mk ((by rw [hg]; exact (below_size (by repeat (first | (with_reducible first | exact HB.out | apply below_alloc | apply pw_below_drewN | apply below_drew1 | refine below_set ?_ GE107.out) | exact HB.out))) : w.heap.size ≤ gb111)); have n6_ := Aside0.mk ((by rw [hg]; exact Nat.ne_of_lt (blk_lt (g := gb107) (o := .cells #[.int .i64 t104, .int .i64 t105] 41 (0, 0)) (by (with_reducible repeat (first | refine blk_drewN ?_ _ | refine blk_drew ?_ | refine blk_alloc ?_ _)); exact BK107.out)) : gb107 ≠ gb111)); have n7_ := Aside0.mk ((by rw [hg]; exact Nat.ne_of_gt (blk_lt (g := gb107) (o := .cells #[.int .i64 t104, .int .i64 t105] 41 (0, 0)) (by (with_reducible repeat (first | refine blk_drewN ?_ _ | refine blk_drew ?_ | refine blk_alloc ?_ _)); exact BK107.out)) : gb111 ≠ gb107)); clear HO103; clear BK107; clear HB; have HO103 := n0_; have BK107 := n1_; have HB := n2_; have BK111 := n3_; have GW111 := n4_; have GE111 := n5_; have NB107_111 := n6_; have NB111_107 := n7_; clear n0_ n1_ n2_ n3_ n4_ n5_ n6_ n7_; clear hb hbox hg; have hnb14 := NB111_107.out; have hnc14 := NB107_111.out; have hcz15_0 : w13.cell? ⟨gb111, 0, none⟩ = some (.int .i64 0) := (blk_cell BK111.out 0).trans rfl; have hcz15_1 : w13.cell? ⟨gb111, 1, none⟩ = some (.int .i64 0) := (blk_cell BK111.out 1).trans rfl; have hfz15_0 := blk_frozen BK111.out 0; have hfz15_1 := blk_frozen BK111.out 1))
    (try simp only [Act.put, List.setIfInBounds_toArray, List.set_cons_zero, List.set_cons_succ])
    go_cut [34] (fun v34 wc => ∃ (kq : Nat) (x34_5 : Bool), v34 = .bool x34_5 ∧ Aside0 (laws_FnDeadlineScale.j0 kq t101 t106 x34_5 t104 t105 = some r) ∧ Aside0 (kq ≤ k) ∧ Aside0 (Kd.R k39 39 wc w.heap.size (fun _ => True) (.slice Ao8 t101.length co8) t101) ∧ Aside0 (wc.heap[gb107]? = some (.cells #[.int .i64 t104, .int .i64 t105] 41 (0, 0))) ∧ Aside0 (wc.heap[gb111]? = some (.cells #[.int .i64 t108, .int .i64 t109] 41 (0, 0))) ∧ Aside0 (Below w.heap.size w wc))
    case first =>
      have H := HC6.out
      clear HC6
      by_cases c16 : (!(t104 == t108) || (!(t105 == t109))) = true
      · rw [if_pos c16] at H
        have c16b0 : (!(t104 == t108) || (!(t105 == t109))) = true := c16
        clear c16
        (first | rw [c16b0] | (simp only [i64_w, i32_w]; rw [c16b0]) | skip)
        have H' := Aside0.mk H
        clear H
        have hnb17 := NB107_111.out
        have hnc17 := NB111_107.out
        have hcz18_0 : w13.cell? ⟨gb107, 0, none⟩ = some (.int .i64 t104) := (blk_cell BK107.out 0).trans rfl
        have hcz18_1 : w13.cell? ⟨gb107, 1, none⟩ = some (.int .i64 t105) := (blk_cell BK107.out 1).trans rfl
        have hfz18_0 := blk_frozen BK107.out 0
        have hfz18_1 := blk_frozen BK107.out 1
        have hcz19_0 : w13.cell? ⟨gb111, 0, none⟩ = some (.int .i64 0) := (blk_cell BK111.out 0).trans rfl
        have hcz19_1 : w13.cell? ⟨gb111, 1, none⟩ = some (.int .i64 0) := (blk_cell BK111.out 1).trans rfl
        have hfz19_0 := blk_frozen BK111.out 0
        have hfz19_1 := blk_frozen BK111.out 1
        go_wp2
        go_meet
        case rel => exact ⟨_, (true), (by first | rfl | (simp; done) | (simp [*]; done)), H', ⟨by first | omega | exact Nat.le_refl _⟩, ⟨by (with_reducible repeat (first | apply Kd.R_alloc | apply Kd.R_drewN | apply Kd.R_drew)); exact Kd.R_mono (Kd.R_far (p := ⟨gb111, 1, none⟩) (Kd.R_far (p := ⟨gb111, 0, none⟩) (Kd.R_types HO103.out BK111.out (by decide)) (fun _ hk => hk.2) (.int .i64 t108)) (fun _ hk => hk.2) (.int .i64 t109)) (fun _ hk => trivial)⟩, ⟨by (with_reducible repeat (first | refine blk_drewN ?_ _ | refine blk_drew ?_ | refine blk_alloc ?_ _)); refine blk_far ?_ NB107_111.out _; (with_reducible repeat (first | refine blk_drewN ?_ _ | refine blk_drew ?_ | refine blk_alloc ?_ _)); refine blk_far ?_ NB107_111.out _; (with_reducible repeat (first | refine blk_drewN ?_ _ | refine blk_drew ?_ | refine blk_alloc ?_ _)); exact BK107.out⟩, ⟨by (with_reducible repeat (first | refine blk_drewN ?_ _ | refine blk_drew ?_ | refine blk_alloc ?_ _)); refine blk_put (cs := #[.int .i64 t108, .int .i64 0]) ?_ 1 _ rfl; (with_reducible repeat (first | refine blk_drewN ?_ _ | refine blk_drew ?_ | refine blk_alloc ?_ _)); refine blk_put (cs := #[.int .i64 0, .int .i64 0]) ?_ 0 _ rfl; (with_reducible repeat (first | refine blk_drewN ?_ _ | refine blk_drew ?_ | refine blk_alloc ?_ _)); exact BK111.out⟩, ⟨by repeat (first | (with_reducible first | exact HB.out | apply below_alloc | apply pw_below_drewN | apply below_drew1 | refine below_set ?_ GE107.out | refine below_set ?_ GE111.out) | exact HB.out)⟩⟩
      · rw [if_neg c16] at H
        have c16b0 : (!(t104 == t108) || (!(t105 == t109))) = false := by simpa using c16
        clear c16
        (first | rw [c16b0] | (simp only [i64_w, i32_w]; rw [c16b0]) | skip)
        have H' := Aside0.mk H
        clear H
        have hnb20 := NB107_111.out
        have hnc20 := NB111_107.out
        have hcz21_0 : w13.cell? ⟨gb107, 0, none⟩ = some (.int .i64 t104) := (blk_cell BK107.out 0).trans rfl
        have hcz21_1 : w13.cell? ⟨gb107, 1, none⟩ = some (.int .i64 t105) := (blk_cell BK107.out 1).trans rfl
        have hfz21_0 := blk_frozen BK107.out 0
        have hfz21_1 := blk_frozen BK107.out 1
        have hcz22_0 : w13.cell? ⟨gb111, 0, none⟩ = some (.int .i64 0) := (blk_cell BK111.out 0).trans rfl
        have hcz22_1 : w13.cell? ⟨gb111, 1, none⟩ = some (.int .i64 0) := (blk_cell BK111.out 1).trans rfl
        have hfz22_0 := blk_frozen BK111.out 0
        have hfz22_1 := blk_frozen BK111.out 1
        go_wp2
        go_meet
        case rel => exact ⟨_, ((t106 != t110)), (by first | rfl | (simp; done) | (simp [*]; done)), H', ⟨by first | omega | exact Nat.le_refl _⟩, ⟨by (with_reducible repeat (first | apply Kd.R_alloc | apply Kd.R_drewN | apply Kd.R_drew)); exact Kd.R_mono (Kd.R_far (p := ⟨gb111, 1, none⟩) (Kd.R_far (p := ⟨gb111, 0, none⟩) (Kd.R_types HO103.out BK111.out (by decide)) (fun _ hk => hk.2) (.int .i64 t108)) (fun _ hk => hk.2) (.int .i64 t109)) (fun _ hk => trivial)⟩, ⟨by (with_reducible repeat (first | refine blk_drewN ?_ _ | refine blk_drew ?_ | refine blk_alloc ?_ _)); refine blk_far ?_ NB107_111.out _; (with_reducible repeat (first | refine blk_drewN ?_ _ | refine blk_drew ?_ | refine blk_alloc ?_ _)); refine blk_far ?_ NB107_111.out _; (with_reducible repeat (first | refine blk_drewN ?_ _ | refine blk_drew ?_ | refine blk_alloc ?_ _)); exact BK107.out⟩, ⟨by (with_reducible repeat (first | refine blk_drewN ?_ _ | refine blk_drew ?_ | refine blk_alloc ?_ _)); refine blk_put (cs := #[.int .i64 t108, .int .i64 0]) ?_ 1 _ rfl; (with_reducible repeat (first | refine blk_drewN ?_ _ | refine blk_drew ?_ | refine blk_alloc ?_ _)); refine blk_put (cs := #[.int .i64 0, .int .i64 0]) ?_ 0 _ rfl; (with_reducible repeat (first | refine blk_drewN ?_ _ | refine blk_drew ?_ | refine blk_alloc ?_ _)); exact BK111.out⟩, ⟨by repeat (first | (with_reducible first | exact HB.out | apply below_alloc | apply pw_below_drewN | apply below_drew1 | refine below_set ?_ GE107.out | refine below_set ?_ GE111.out) | exact HB.out)⟩⟩
    case rest =>
      clear HC6
      try clear c1
      try clear c2
      try clear c2b0
      try clear c2b1
      try clear p2
      try clear c8
      try clear c14
      try clear c16
      try clear c16b0
      try clear c17
      try clear c20
      try clear c21
      try clear c22
      try clear hcz11_0
      try clear hcz11_1
      try clear hcz15_0
      try clear hcz15_1
      try clear hcz18_0
      try clear hcz18_1
      try clear hcz19_0
      try clear hcz19_1
      try clear hcz21_0
      try clear hcz21_1
      try clear hcz22_0
      try clear hcz22_1
      try clear hfz11_0
      try clear hfz11_1
      try clear hfz15_0
      try clear hfz15_1
      try clear hfz18_0
      try clear hfz18_1
      try clear hfz19_0
      try clear hfz19_1
      try clear hfz21_0
      try clear hfz21_1
      try clear hfz22_0
      try clear hfz22_1
      obtain ⟨kq, x34_5, rfl, HA, HJ5, HO_3, BK107, BK111, HB⟩ := hcut
      cases kq with
      | zero => exact absurd HA.out (by simp [laws_FnDeadlineScale.j0])
      | succ kj5 =>
        have H := HA.out
        clear HA
        simp only [laws_FnDeadlineScale.j0] at H
        by_cases c23 : x34_5 = true
        · subst c23
          have H1 : (some false) = some r := by rw [if_pos rfl] at H; exact H
          clear H
          have H := H1
          clear H1
          obtain rfl := Option.some.inj H
          go_wp2
          go_ret
          exact ⟨by first | rfl | (simp [errW_none, errW_some] <;> rfl) | (simp [*, errW_none, errW_some] <;> rfl), by repeat (first | (with_reducible first | exact HB.out | apply below_alloc | apply pw_below_drewN | apply below_drew1 | refine below_set ?_ GE107.out | refine below_set ?_ GE111.out) | exact HB.out)⟩
        · replace c23 := Bool.eq_false_iff.mpr c23
          subst c23
          have H1 : ((spec_MixedValid.f kj5 t101).bind fun t112 => (if t112 = true then ((laws_sums.f kj5 t101).bind fun bt114 => (if t106 = true then (if t104 < 1 then (laws_FnDeadlineScale.j1 kj5 bt114.1 bt114.2.1 bt114.2.2.1 bt114.2.2.2 true t104 t105) else (laws_FnDeadlineScale.j1 kj5 bt114.1 bt114.2.1 bt114.2.2.1 bt114.2.2.2 (decide (t104 > t105)) t104 t105)) else (if (t104 == 0 && (t105 == 0)) = true then (some (decide ((wrap64 (bt114.1 + bt114.2.2.1)) > bt114.2.2.2))) else (some false)))) else (if t106 = true then (some false) else ((laws_alive.f).bind fun t113 => (some t113))))) = some r := by rw [if_neg (show ¬ (false = true) by decide)] at H; exact H
          clear H
          have H := H1
          clear H1
          replace H := Option.bind_eq_some_iff.mp H
          obtain ⟨t112, A240, H⟩ := H
          replace H : (if t112 = true then ((laws_sums.f kj5 t101).bind fun bt114 => (if t106 = true then (if t104 < 1 then (laws_FnDeadlineScale.j1 kj5 bt114.1 bt114.2.1 bt114.2.2.1 bt114.2.2.2 true t104 t105) else (laws_FnDeadlineScale.j1 kj5 bt114.1 bt114.2.1 bt114.2.2.1 bt114.2.2.2 (decide (t104 > t105)) t104 t105)) else (if (t104 == 0 && (t105 == 0)) = true then (some (decide ((wrap64 (bt114.1 + bt114.2.2.1)) > bt114.2.2.2))) else (some false)))) else (if t106 = true then (some false) else ((laws_alive.f).bind fun t113 => (some t113)))) = some r := H
          have A24 := Aside0.mk A240
          clear A240
          by_cases c25 : t112 = true
          · subst c25
            have H1 : ((laws_sums.f kj5 t101).bind fun bt114 => (if t106 = true then (if t104 < 1 then (laws_FnDeadlineScale.j1 kj5 bt114.1 bt114.2.1 bt114.2.2.1 bt114.2.2.2 true t104 t105) else (laws_FnDeadlineScale.j1 kj5 bt114.1 bt114.2.1 bt114.2.2.1 bt114.2.2.2 (decide (t104 > t105)) t104 t105)) else (if (t104 == 0 && (t105 == 0)) = true then (some (decide ((wrap64 (bt114.1 + bt114.2.2.1)) > bt114.2.2.2))) else (some false)))) = some r := by rw [if_pos rfl] at H; exact H
            clear H
            have H := H1
            clear H1
            replace H := Option.bind_eq_some_iff.mp H
            obtain ⟨⟨t114, t115, t116, t117⟩, A260, H⟩ := H
            replace H : (if t106 = true then (if t104 < 1 then (laws_FnDeadlineScale.j1 kj5 t114 t115 t116 t117 true t104 t105) else (laws_FnDeadlineScale.j1 kj5 t114 t115 t116 t117 (decide (t104 > t105)) t104 t105)) else (if (t104 == 0 && (t105 == 0)) = true then (some (decide ((wrap64 (t114 + t116)) > t117))) else (some false))) = some r := H
            have A26 := Aside0.mk A260
            clear A260
            by_cases c27 : t106 = true
            · subst c27
              have H1 : (if t104 < 1 then (laws_FnDeadlineScale.j1 kj5 t114 t115 t116 t117 true t104 t105) else (laws_FnDeadlineScale.j1 kj5 t114 t115 t116 t117 (decide (t104 > t105)) t104 t105)) = some r := by rw [if_pos rfl] at H; exact H
              clear H
              have H := H1
              clear H1
              have HC28 := Aside0.mk H
              clear H
              go_upto_region 13 with (first | ((with_reducible refine gate_callee (f := 16) rfl ?_); refine goesL_ (some 36) rfl rfl Try.func16 (by kernel_rfl) rfl #[.slice Ao8 t101.length co8] rfl (by (try simp only [List.map_toArray, List.map_cons, List.map_nil]); first | done | rfl | (simp only [List.length_drop, List.length_take]; rfl)) ?_; (with_reducible refine (spec_MixedValid.calls kj5 _ _ t101 true _ ?side1 ?side2 A24.out).mono ?_); (case side1 => repeat (first | exact (Kd.R_reads' HO_3.out).2.2 | (with_reducible refine Kd.C_alloc ?_ _) | (with_reducible refine Kd.C_drewN ?_ _) | (with_reducible refine Kd.C_drew ?_))); (case side2 => exact (Kd.R_reads' HO_3.out).2.1); rintro e w29 ⟨rfl, hb⟩; refine ⟨_, rfl, ?_⟩; have n0_ := Aside0.mk (Kd.R_below (by (with_reducible repeat (first | apply Kd.R_alloc | apply Kd.R_drewN | apply Kd.R_drew)); exact HO_3.out) hb); have n1_ := Aside0.mk (blk_below (g := gb107) (o := .cells #[.int .i64 t104, .int .i64 t105] 41 (0, 0)) (by (with_reducible repeat (first | refine blk_drewN ?_ _ | refine blk_drew ?_ | refine blk_alloc ?_ _)); exact BK107.out) hb); have n2_ := Aside0.mk (blk_below (g := gb111) (o := .cells #[.int .i64 t108, .int .i64 t109] 41 (0, 0)) (by (with_reducible repeat (first | refine blk_drewN ?_ _ | refine blk_drew ?_ | refine blk_alloc ?_ _)); exact BK111.out) hb); have n3_ := Aside0.mk (below_step (by repeat (first | (with_reducible first | exact HB.out | apply below_alloc | apply pw_below_drewN | apply below_drew1 | refine below_set ?_ GE107.out | refine below_set ?_ GE111.out) | exact HB.out)) hb); clear HO_3; clear BK107; clear BK111; clear HB; have HO_3 := n0_; have BK107 := n1_; have BK111 := n2_; have HB := n3_; clear n0_ n1_ n2_ n3_; (try clear hb); (try clear hb2); (try clear hk); (try clear hi)) | ((with_reducible refine gate_callee (f := 25) rfl ?_); refine goesL_ (some 45) rfl rfl Try.func25 (by kernel_rfl) rfl #[.slice Ao8 t101.length co8] rfl (by (try simp only [List.map_toArray, List.map_cons, List.map_nil]); first | done | rfl | (simp only [List.length_drop, List.length_take]; rfl)) ?_; (with_reducible refine (laws_sums.calls kj5 _ _ t101 t114 t115 t116 t117 _ ?side1 ?side2 A26.out).mono ?_); (case side1 => repeat (first | exact (Kd.R_reads' HO_3.out).2.2 | (with_reducible refine Kd.C_alloc ?_ _) | (with_reducible refine Kd.C_drewN ?_ _) | (with_reducible refine Kd.C_drew ?_))); (case side2 => exact (Kd.R_reads' HO_3.out).2.1); rintro e w' ⟨rfl, ⟨nd, rfl⟩⟩; refine ⟨_, rfl, ?_⟩))
              (try simp only [Act.put, List.setIfInBounds_toArray, List.set_cons_zero, List.set_cons_succ])
              go_cut [71] (fun v71 wc => ∃ (kq : Nat) (x71_27 : Bool), v71 = .bool x71_27 ∧ Aside0 (laws_FnDeadlineScale.j1 kq t114 t115 t116 t117 x71_27 t104 t105 = some r) ∧ Aside0 (kq ≤ kj5) ∧ Aside0 (wc.heap[gb107]? = some (.cells #[.int .i64 t104, .int .i64 t105] 41 (0, 0))) ∧ Aside0 (wc.heap[gb111]? = some (.cells #[.int .i64 t108, .int .i64 t109] 41 (0, 0))) ∧ Aside0 (Below w.heap.size w wc))
              case first =>
                have H := HC28.out
                clear HC28
                by_cases c30 : t104 < 1
                · rw [if_pos c30] at H
                  have c30b0 : decide (t104 < 1) = true := decide_eq_true c30
                  clear c30
                  (first | rw [c30b0] | (simp only [i64_w, i32_w]; rw [c30b0]) | skip)
                  have H' := Aside0.mk H
                  clear H
                  have hnb31 := NB107_111.out
                  have hnc31 := NB111_107.out
                  have hcz32_0 : w29.cell? ⟨gb107, 0, none⟩ = some (.int .i64 t104) := (blk_cell BK107.out 0).trans rfl
                  have hcz32_1 : w29.cell? ⟨gb107, 1, none⟩ = some (.int .i64 t105) := (blk_cell BK107.out 1).trans rfl
                  have hfz32_0 := blk_frozen BK107.out 0
                  have hfz32_1 := blk_frozen BK107.out 1
                  go_wp2
                  go_meet
                  case rel => exact ⟨_, (true), (by first | rfl | (simp; done) | (simp [*]; done)), H', ⟨by have := HJ5.out; first | omega | exact Nat.le_refl _⟩, ⟨by (with_reducible repeat (first | refine blk_drewN ?_ _ | refine blk_drew ?_ | refine blk_alloc ?_ _)); exact BK107.out⟩, ⟨by (with_reducible repeat (first | refine blk_drewN ?_ _ | refine blk_drew ?_ | refine blk_alloc ?_ _)); exact BK111.out⟩, ⟨by repeat (first | (with_reducible first | exact HB.out | apply below_alloc | apply pw_below_drewN | apply below_drew1 | refine below_set ?_ GE107.out | refine below_set ?_ GE111.out) | exact HB.out)⟩⟩
                · rw [if_neg c30] at H
                  have c30b0 : decide (t104 < 1) = false := decide_eq_false c30
                  clear c30
                  (first | rw [c30b0] | (simp only [i64_w, i32_w]; rw [c30b0]) | skip)
                  have H' := Aside0.mk H
                  clear H
                  have hnb33 := NB107_111.out
                  have hnc33 := NB111_107.out
                  have hcz34_0 : w29.cell? ⟨gb107, 0, none⟩ = some (.int .i64 t104) := (blk_cell BK107.out 0).trans rfl
                  have hcz34_1 : w29.cell? ⟨gb107, 1, none⟩ = some (.int .i64 t105) := (blk_cell BK107.out 1).trans rfl
                  have hfz34_0 := blk_frozen BK107.out 0
                  have hfz34_1 := blk_frozen BK107.out 1
                  go_wp2
                  go_meet
                  case rel => exact ⟨_, (decide (t104 > t105)), (by first | rfl | (simp; done) | (simp [*]; done)), H', ⟨by have := HJ5.out; first | omega | exact Nat.le_refl _⟩, ⟨by (with_reducible repeat (first | refine blk_drewN ?_ _ | refine blk_drew ?_ | refine blk_alloc ?_ _)); exact BK107.out⟩, ⟨by (with_reducible repeat (first | refine blk_drewN ?_ _ | refine blk_drew ?_ | refine blk_alloc ?_ _)); exact BK111.out⟩, ⟨by repeat (first | (with_reducible first | exact HB.out | apply below_alloc | apply pw_below_drewN | apply below_drew1 | refine below_set ?_ GE107.out | refine below_set ?_ GE111.out) | exact HB.out)⟩⟩
              case rest =>
                clear HC28
                try clear c1
                try clear c2
                try clear c2b0
                try clear c2b1
                try clear p2
                try clear c3
                try clear p6
                try clear c8
                try clear c14
                try clear c16
                try clear c16b0
                try clear c17
                try clear c20
                try clear c21
                try clear c22
                try clear c23
                try clear c25
                try clear c27
                try clear c30
                try clear c30b0
                try clear c31
                try clear c33
                try clear hcz11_0
                try clear hcz11_1
                try clear hcz15_0
                try clear hcz15_1
                try clear hcz18_0
                try clear hcz18_1
                try clear hcz19_0
                try clear hcz19_1
                try clear hcz21_0
                try clear hcz21_1
                try clear hcz22_0
                try clear hcz22_1
                try clear hcz32_0
                try clear hcz32_1
                try clear hcz34_0
                try clear hcz34_1
                try clear hfz11_0
                try clear hfz11_1
                try clear hfz15_0
                try clear hfz15_1
                try clear hfz18_0
                try clear hfz18_1
                try clear hfz19_0
                try clear hfz19_1
                try clear hfz21_0
                try clear hfz21_1
                try clear hfz22_0
                try clear hfz22_1
                try clear hfz32_0
                try clear hfz32_1
                try clear hfz34_0
                try clear hfz34_1
                try clear p2
                obtain ⟨kq, x71_27, rfl, HA, HJ27, BK107, BK111, HB⟩ := hcut
                cases kq with
                | zero => exact absurd HA.out (by simp [laws_FnDeadlineScale.j1])
                | succ kj27 =>
                  have H := HA.out
                  clear HA
                  simp only [laws_FnDeadlineScale.j1] at H
                  by_cases c35 : x71_27 = true
                  · subst c35
                    have H1 : (some false) = some r := by rw [if_pos rfl] at H; exact H
                    clear H
                    have H := H1
                    clear H1
                    obtain rfl := Option.some.inj H
                    go_wp2
                    go_ret
                    exact ⟨by first | rfl | (simp [errW_none, errW_some] <;> rfl) | (simp [*, errW_none, errW_some] <;> rfl), by repeat (first | (with_reducible first | exact HB.out | apply below_alloc | apply pw_below_drewN | apply below_drew1 | refine below_set ?_ GE107.out | refine below_set ?_ GE111.out) | exact HB.out)⟩
                  · replace c35 := Bool.eq_false_iff.mpr c35
                    subst c35
                    have H1 : (if (wrap64 (t114 + t116)) ≤ t117 then (some (t104 == 1 && (t105 == 1))) else (if (wrap64 (t104 * (wrap64 (t117 - t114)))) = (wrap64 (t115 * t105)) then (some (decide ((wrap64 ((wrap64 (t104 * t114)) + (wrap64 (t116 * t105)))) ≤ (wrap64 (t117 * t105))))) else (some false))) = some r := by rw [if_neg (show ¬ (false = true) by decide)] at H; exact H
                    clear H
                    have H := H1
                    clear H1
                    by_cases c36 : (wrap64 (t114 + t116)) ≤ t117
                    · rw [if_pos c36] at H
                      have c36b0 : decide ((wrap64 (t114 + t116)) ≤ t117) = true := decide_eq_true c36
                      clear c36
                      obtain rfl := Option.some.inj H
                      have hnb37 := NB107_111.out
                      have hnc37 := NB111_107.out
                      have hcz38_0 : wc.cell? ⟨gb107, 0, none⟩ = some (.int .i64 t104) := (blk_cell BK107.out 0).trans rfl
                      have hcz38_1 : wc.cell? ⟨gb107, 1, none⟩ = some (.int .i64 t105) := (blk_cell BK107.out 1).trans rfl
                      have hfz38_0 := blk_frozen BK107.out 0
                      have hfz38_1 := blk_frozen BK107.out 1
                      go_wp2
                      go_ret
                      exact ⟨by first | rfl | (simp [errW_none, errW_some] <;> rfl) | (simp [*, errW_none, errW_some] <;> rfl), by repeat (first | (with_reducible first | exact HB.out | apply below_alloc | apply pw_below_drewN | apply below_drew1 | refine below_set ?_ GE107.out | refine below_set ?_ GE111.out) | exact HB.out)⟩
                    · rw [if_neg c36] at H
                      have c36b0 : decide ((wrap64 (t114 + t116)) ≤ t117) = false := decide_eq_false c36
                      clear c36
                      by_cases c39 : (wrap64 (t104 * (wrap64 (t117 - t114)))) = (wrap64 (t115 * t105))
                      · rw [if_pos c39] at H
                        have c39b0 : ((wrap64 (t104 * (wrap64 (t117 - t114)))) == (wrap64 (t115 * t105))) = true := beq_iff_eq.mpr c39
                        have c39b1 : ((wrap64 (t104 * (wrap64 (t117 - t114)))) != (wrap64 (t115 * t105))) = false := bne_eq_false_iff_eq.mpr c39
                        clear c39
                        obtain rfl := Option.some.inj H
                        have hnb40 := NB107_111.out
                        have hnc40 := NB111_107.out
                        have hcz41_0 : wc.cell? ⟨gb107, 0, none⟩ = some (.int .i64 t104) := (blk_cell BK107.out 0).trans rfl
                        have hcz41_1 : wc.cell? ⟨gb107, 1, none⟩ = some (.int .i64 t105) := (blk_cell BK107.out 1).trans rfl
                        have hfz41_0 := blk_frozen BK107.out 0
                        have hfz41_1 := blk_frozen BK107.out 1
                        go_wp2
                        go_ret
                        exact ⟨by first | rfl | (simp [errW_none, errW_some] <;> rfl) | (simp [*, errW_none, errW_some] <;> rfl), by repeat (first | (with_reducible first | exact HB.out | apply below_alloc | apply pw_below_drewN | apply below_drew1 | refine below_set ?_ GE107.out | refine below_set ?_ GE111.out) | exact HB.out)⟩
                      · rw [if_neg c39] at H
                        have c39b0 : ((wrap64 (t104 * (wrap64 (t117 - t114)))) == (wrap64 (t115 * t105))) = false := beq_eq_false_iff_ne.mpr c39
                        have c39b1 : ((wrap64 (t104 * (wrap64 (t117 - t114)))) != (wrap64 (t115 * t105))) = true := bne_iff_ne.mpr c39
                        obtain rfl := Option.some.inj H
                        have hnb42 := NB107_111.out
                        have hnc42 := NB111_107.out
                        have hcz43_0 : wc.cell? ⟨gb107, 0, none⟩ = some (.int .i64 t104) := (blk_cell BK107.out 0).trans rfl
                        have hcz43_1 : wc.cell? ⟨gb107, 1, none⟩ = some (.int .i64 t105) := (blk_cell BK107.out 1).trans rfl
                        have hfz43_0 := blk_frozen BK107.out 0
                        have hfz43_1 := blk_frozen BK107.out 1
                        go_wp2
                        go_ret
                        exact ⟨by first | rfl | (simp [errW_none, errW_some] <;> rfl) | (simp [*, errW_none, errW_some] <;> rfl), by repeat (first | (with_reducible first | exact HB.out | apply below_alloc | apply pw_below_drewN | apply below_drew1 | refine below_set ?_ GE107.out | refine below_set ?_ GE111.out) | exact HB.out)⟩
            · replace c27 := Bool.eq_false_iff.mpr c27
              subst c27
              have H1 : (if (t104 == 0 && (t105 == 0)) = true then (some (decide ((wrap64 (t114 + t116)) > t117))) else (some false)) = some r := by rw [if_neg (show ¬ (false = true) by decide)] at H; exact H
              clear H
              have H := H1
              clear H1
              by_cases c44 : (t104 == 0 && (t105 == 0)) = true
              · rw [if_pos c44] at H
                have c44b0 : (t104 == 0 && (t105 == 0)) = true := c44
                (try (have c44b1 : decide (t104 = 0 && (t105 == 0)) = true := by simpa using c44))
                (try (have c44b2 : (t104 == 0 && (t105 == 0)) = true := by simpa using c44))
                clear c44
                obtain rfl := Option.some.inj H
                go_wp2_with (first | ((with_reducible refine gate_callee (f := 16) rfl ?_); refine goesL_ (some 36) rfl rfl Try.func16 (by kernel_rfl) rfl #[.slice Ao8 t101.length co8] rfl (by (try simp only [List.map_toArray, List.map_cons, List.map_nil]); first | done | rfl | (simp only [List.length_drop, List.length_take]; rfl)) ?_; (with_reducible refine (spec_MixedValid.calls kj5 _ _ t101 true _ ?side1 ?side2 A24.out).mono ?_); (case side1 => repeat (first | exact (Kd.R_reads' HO_3.out).2.2 | (with_reducible refine Kd.C_alloc ?_ _) | (with_reducible refine Kd.C_drewN ?_ _) | (with_reducible refine Kd.C_drew ?_))); (case side2 => exact (Kd.R_reads' HO_3.out).2.1); rintro e w45 ⟨rfl, hb⟩; refine ⟨_, rfl, ?_⟩; have n0_ := Aside0.mk (Kd.R_below (by (with_reducible repeat (first | apply Kd.R_alloc | apply Kd.R_drewN | apply Kd.R_drew)); exact HO_3.out) hb); have n1_ := Aside0.mk (blk_below (g := gb107) (o := .cells #[.int .i64 t104, .int .i64 t105] 41 (0, 0)) (by (with_reducible repeat (first | refine blk_drewN ?_ _ | refine blk_drew ?_ | refine blk_alloc ?_ _)); exact BK107.out) hb); have n2_ := Aside0.mk (blk_below (g := gb111) (o := .cells #[.int .i64 t108, .int .i64 t109] 41 (0, 0)) (by (with_reducible repeat (first | refine blk_drewN ?_ _ | refine blk_drew ?_ | refine blk_alloc ?_ _)); exact BK111.out) hb); have n3_ := Aside0.mk (below_step (by repeat (first | (with_reducible first | exact HB.out | apply below_alloc | apply pw_below_drewN | apply below_drew1 | refine below_set ?_ GE107.out | refine below_set ?_ GE111.out) | exact HB.out)) hb); clear HO_3; clear BK107; clear BK111; clear HB; have HO_3 := n0_; have BK107 := n1_; have BK111 := n2_; have HB := n3_; clear n0_ n1_ n2_ n3_; (try clear hb); (try clear hb2); (try clear hk); (try clear hi)) | ((with_reducible refine gate_callee (f := 25) rfl ?_); refine goesL_ (some 45) rfl rfl Try.func25 (by kernel_rfl) rfl #[.slice Ao8 t101.length co8] rfl (by (try simp only [List.map_toArray, List.map_cons, List.map_nil]); first | done | rfl | (simp only [List.length_drop, List.length_take]; rfl)) ?_; (with_reducible refine (laws_sums.calls kj5 _ _ t101 t114 t115 t116 t117 _ ?side1 ?side2 A26.out).mono ?_); (case side1 => repeat (first | exact (Kd.R_reads' HO_3.out).2.2 | (with_reducible refine Kd.C_alloc ?_ _) | (with_reducible refine Kd.C_drewN ?_ _) | (with_reducible refine Kd.C_drew ?_))); (case side2 => exact (Kd.R_reads' HO_3.out).2.1); rintro e w' ⟨rfl, ⟨nd, rfl⟩⟩; refine ⟨_, rfl, ?_⟩; have hnb46 := NB107_111.out; have hnc46 := NB111_107.out; have hcz47_0 : w45.cell? ⟨gb107, 0, none⟩ = some (.int .i64 t104) := (blk_cell BK107.out 0).trans rfl; have hcz47_1 : w45.cell? ⟨gb107, 1, none⟩ = some (.int .i64 t105) := (blk_cell BK107.out 1).trans rfl; have hfz47_0 := blk_frozen BK107.out 0; have hfz47_1 := blk_frozen BK107.out 1))
                go_ret
                exact ⟨by first | rfl | (simp [errW_none, errW_some] <;> rfl) | (simp [*, errW_none, errW_some] <;> rfl), by repeat (first | (with_reducible first | exact HB.out | apply below_alloc | apply pw_below_drewN | apply below_drew1 | refine below_set ?_ GE107.out | refine below_set ?_ GE111.out) | exact HB.out)⟩
              · rw [if_neg c44] at H
                have c44b0 : (t104 == 0 && (t105 == 0)) = false := by simpa using c44
                (try (have c44b1 : decide (t104 = 0 && (t105 == 0)) = false := by simpa using c44))
                (try (have c44b2 : (t104 == 0 && (t105 == 0)) = false := by simpa using c44))
                (try (have c44b3 : ¬ (t104 = 0 && (t105 == 0)) := by simpa using c44))
                clear c44
                obtain rfl := Option.some.inj H
                go_wp2_with (first | ((with_reducible refine gate_callee (f := 16) rfl ?_); refine goesL_ (some 36) rfl rfl Try.func16 (by kernel_rfl) rfl #[.slice Ao8 t101.length co8] rfl (by (try simp only [List.map_toArray, List.map_cons, List.map_nil]); first | done | rfl | (simp only [List.length_drop, List.length_take]; rfl)) ?_; (with_reducible refine (spec_MixedValid.calls kj5 _ _ t101 true _ ?side1 ?side2 A24.out).mono ?_); (case side1 => repeat (first | exact (Kd.R_reads' HO_3.out).2.2 | (with_reducible refine Kd.C_alloc ?_ _) | (with_reducible refine Kd.C_drewN ?_ _) | (with_reducible refine Kd.C_drew ?_))); (case side2 => exact (Kd.R_reads' HO_3.out).2.1); rintro e w48 ⟨rfl, hb⟩; refine ⟨_, rfl, ?_⟩; have n0_ := Aside0.mk (Kd.R_below (by (with_reducible repeat (first | apply Kd.R_alloc | apply Kd.R_drewN | apply Kd.R_drew)); exact HO_3.out) hb); have n1_ := Aside0.mk (blk_below (g := gb107) (o := .cells #[.int .i64 t104, .int .i64 t105] 41 (0, 0)) (by (with_reducible repeat (first | refine blk_drewN ?_ _ | refine blk_drew ?_ | refine blk_alloc ?_ _)); exact BK107.out) hb); have n2_ := Aside0.mk (blk_below (g := gb111) (o := .cells #[.int .i64 t108, .int .i64 t109] 41 (0, 0)) (by (with_reducible repeat (first | refine blk_drewN ?_ _ | refine blk_drew ?_ | refine blk_alloc ?_ _)); exact BK111.out) hb); have n3_ := Aside0.mk (below_step (by repeat (first | (with_reducible first | exact HB.out | apply below_alloc | apply pw_below_drewN | apply below_drew1 | refine below_set ?_ GE107.out | refine below_set ?_ GE111.out) | exact HB.out)) hb); clear HO_3; clear BK107; clear BK111; clear HB; have HO_3 := n0_; have BK107 := n1_; have BK111 := n2_; have HB := n3_; clear n0_ n1_ n2_ n3_; (try clear hb); (try clear hb2); (try clear hk); (try clear hi)) | ((with_reducible refine gate_callee (f := 25) rfl ?_); refine goesL_ (some 45) rfl rfl Try.func25 (by kernel_rfl) rfl #[.slice Ao8 t101.length co8] rfl (by (try simp only [List.map_toArray, List.map_cons, List.map_nil]); first | done | rfl | (simp only [List.length_drop, List.length_take]; rfl)) ?_; (with_reducible refine (laws_sums.calls kj5 _ _ t101 t114 t115 t116 t117 _ ?side1 ?side2 A26.out).mono ?_); (case side1 => repeat (first | exact (Kd.R_reads' HO_3.out).2.2 | (with_reducible refine Kd.C_alloc ?_ _) | (with_reducible refine Kd.C_drewN ?_ _) | (with_reducible refine Kd.C_drew ?_))); (case side2 => exact (Kd.R_reads' HO_3.out).2.1); rintro e w' ⟨rfl, ⟨nd, rfl⟩⟩; refine ⟨_, rfl, ?_⟩; have hnb49 := NB107_111.out; have hnc49 := NB111_107.out; have hcz50_0 : w48.cell? ⟨gb107, 0, none⟩ = some (.int .i64 t104) := (blk_cell BK107.out 0).trans rfl; have hcz50_1 : w48.cell? ⟨gb107, 1, none⟩ = some (.int .i64 t105) := (blk_cell BK107.out 1).trans rfl; have hfz50_0 := blk_frozen BK107.out 0; have hfz50_1 := blk_frozen BK107.out 1))
                go_ret
                exact ⟨by first | rfl | (simp [errW_none, errW_some] <;> rfl) | (simp [*, errW_none, errW_some] <;> rfl), by repeat (first | (with_reducible first | exact HB.out | apply below_alloc | apply pw_below_drewN | apply below_drew1 | refine below_set ?_ GE107.out | refine below_set ?_ GE111.out) | exact HB.out)⟩
          · replace c25 := Bool.eq_false_iff.mpr c25
            subst c25
            have H1 : (if t106 = true then (some false) else ((laws_alive.f).bind fun t113 => (some t113))) = some r := by rw [if_neg (show ¬ (false = true) by decide)] at H; exact H
            clear H
            have H := H1
            clear H1
            by_cases c51 : t106 = true
            · subst c51
              have H1 : (some false) = some r := by rw [if_pos rfl] at H; exact H
              clear H
              have H := H1
              clear H1
              obtain rfl := Option.some.inj H
              go_wp2_with (first | ((with_reducible refine gate_callee (f := 16) rfl ?_); refine goesL_ (some 36) rfl rfl Try.func16 (by kernel_rfl) rfl #[.slice Ao8 t101.length co8] rfl (by (try simp only [List.map_toArray, List.map_cons, List.map_nil]); first | done | rfl | (simp only [List.length_drop, List.length_take]; rfl)) ?_; (with_reducible refine (spec_MixedValid.calls kj5 _ _ t101 false _ ?side1 ?side2 A24.out).mono ?_); (case side1 => repeat (first | exact (Kd.R_reads' HO_3.out).2.2 | (with_reducible refine Kd.C_alloc ?_ _) | (with_reducible refine Kd.C_drewN ?_ _) | (with_reducible refine Kd.C_drew ?_))); (case side2 => exact (Kd.R_reads' HO_3.out).2.1); rintro e w52 ⟨rfl, hb⟩; refine ⟨_, rfl, ?_⟩; have n0_ := Aside0.mk (Kd.R_below (by (with_reducible repeat (first | apply Kd.R_alloc | apply Kd.R_drewN | apply Kd.R_drew)); exact HO_3.out) hb); have n1_ := Aside0.mk (blk_below (g := gb107) (o := .cells #[.int .i64 t104, .int .i64 t105] 41 (0, 0)) (by (with_reducible repeat (first | refine blk_drewN ?_ _ | refine blk_drew ?_ | refine blk_alloc ?_ _)); exact BK107.out) hb); have n2_ := Aside0.mk (blk_below (g := gb111) (o := .cells #[.int .i64 t108, .int .i64 t109] 41 (0, 0)) (by (with_reducible repeat (first | refine blk_drewN ?_ _ | refine blk_drew ?_ | refine blk_alloc ?_ _)); exact BK111.out) hb); have n3_ := Aside0.mk (below_step (by repeat (first | (with_reducible first | exact HB.out | apply below_alloc | apply pw_below_drewN | apply below_drew1 | refine below_set ?_ GE107.out | refine below_set ?_ GE111.out) | exact HB.out)) hb); clear HO_3; clear BK107; clear BK111; clear HB; have HO_3 := n0_; have BK107 := n1_; have BK111 := n2_; have HB := n3_; clear n0_ n1_ n2_ n3_; (try clear hb); (try clear hb2); (try clear hk); (try clear hi)))
              go_ret
              exact ⟨by first | rfl | (simp [errW_none, errW_some] <;> rfl) | (simp [*, errW_none, errW_some] <;> rfl), by repeat (first | (with_reducible first | exact HB.out | apply below_alloc | apply pw_below_drewN | apply below_drew1 | refine below_set ?_ GE107.out | refine below_set ?_ GE111.out) | exact HB.out)⟩
            · replace c51 := Bool.eq_false_iff.mpr c51
              subst c51
              have H1 : ((laws_alive.f).bind fun t113 => (some t113)) = some r := by rw [if_neg (show ¬ (false = true) by decide)] at H; exact H
              clear H
              have H := H1
              clear H1
              replace H := Option.bind_eq_some_iff.mp H
              obtain ⟨t113, A530, H⟩ := H
              replace H : (some t113) = some r := H
              have A53 := Aside0.mk A530
              clear A530
              obtain rfl := Option.some.inj H
              go_wp2_with (first | ((with_reducible refine gate_callee (f := 16) rfl ?_); refine goesL_ (some 36) rfl rfl Try.func16 (by kernel_rfl) rfl #[.slice Ao8 t101.length co8] rfl (by (try simp only [List.map_toArray, List.map_cons, List.map_nil]); first | done | rfl | (simp only [List.length_drop, List.length_take]; rfl)) ?_; (with_reducible refine (spec_MixedValid.calls kj5 _ _ t101 false _ ?side1 ?side2 A24.out).mono ?_); (case side1 => repeat (first | exact (Kd.R_reads' HO_3.out).2.2 | (with_reducible refine Kd.C_alloc ?_ _) | (with_reducible refine Kd.C_drewN ?_ _) | (with_reducible refine Kd.C_drew ?_))); (case side2 => exact (Kd.R_reads' HO_3.out).2.1); rintro e w54 ⟨rfl, hb⟩; refine ⟨_, rfl, ?_⟩; have n0_ := Aside0.mk (Kd.R_below (by (with_reducible repeat (first | apply Kd.R_alloc | apply Kd.R_drewN | apply Kd.R_drew)); exact HO_3.out) hb); have n1_ := Aside0.mk (blk_below (g := gb107) (o := .cells #[.int .i64 t104, .int .i64 t105] 41 (0, 0)) (by (with_reducible repeat (first | refine blk_drewN ?_ _ | refine blk_drew ?_ | refine blk_alloc ?_ _)); exact BK107.out) hb); have n2_ := Aside0.mk (blk_below (g := gb111) (o := .cells #[.int .i64 t108, .int .i64 t109] 41 (0, 0)) (by (with_reducible repeat (first | refine blk_drewN ?_ _ | refine blk_drew ?_ | refine blk_alloc ?_ _)); exact BK111.out) hb); have n3_ := Aside0.mk (below_step (by repeat (first | (with_reducible first | exact HB.out | apply below_alloc | apply pw_below_drewN | apply below_drew1 | refine below_set ?_ GE107.out | refine below_set ?_ GE111.out) | exact HB.out)) hb); clear HO_3; clear BK107; clear BK111; clear HB; have HO_3 := n0_; have BK107 := n1_; have BK111 := n2_; have HB := n3_; clear n0_ n1_ n2_ n3_; (try clear hb); (try clear hb2); (try clear hk); (try clear hi)) | (go_at_call 14; (with_reducible refine (laws_alive.calls  t113 _ A53.out).mono ?_); rintro e w55 ⟨rfl, hb⟩; have n0_ := Aside0.mk (Kd.R_below (by (with_reducible repeat (first | apply Kd.R_alloc | apply Kd.R_drewN | apply Kd.R_drew)); exact HO_3.out) hb); have n1_ := Aside0.mk (blk_below (g := gb107) (o := .cells #[.int .i64 t104, .int .i64 t105] 41 (0, 0)) (by (with_reducible repeat (first | refine blk_drewN ?_ _ | refine blk_drew ?_ | refine blk_alloc ?_ _)); exact BK107.out) hb); have n2_ := Aside0.mk (blk_below (g := gb111) (o := .cells #[.int .i64 t108, .int .i64 t109] 41 (0, 0)) (by (with_reducible repeat (first | refine blk_drewN ?_ _ | refine blk_drew ?_ | refine blk_alloc ?_ _)); exact BK111.out) hb); have n3_ := Aside0.mk (below_step (by repeat (first | (with_reducible first | exact HB.out | apply below_alloc | apply pw_below_drewN | apply below_drew1 | refine below_set ?_ GE107.out | refine below_set ?_ GE111.out) | exact HB.out)) hb); clear HO_3; clear BK107; clear BK111; clear HB; have HO_3 := n0_; have BK107 := n1_; have BK111 := n2_; have HB := n3_; clear n0_ n1_ n2_ n3_; (try clear hb); (try clear hb2); (try clear hk); (try clear hi)))
              go_ret
              exact ⟨by first | rfl | (simp [errW_none, errW_some] <;> rfl) | (simp [*, errW_none, errW_some] <;> rfl), by repeat (first | (with_reducible first | exact HB.out | apply below_alloc | apply pw_below_drewN | apply below_drew1 | refine below_set ?_ GE107.out | refine below_set ?_ GE111.out) | exact HB.out)⟩

/-- THE ONE PURE STATEMENT of laws_FnDeadlineScale: yours. -/
def laws_FnDeadlineScale.Pure : Prop := ∀ (l0 : List Int), l0.length ≤ maxLen → l0.length * 1 ≤ 140737488351232 → (∀ x ∈ l0, (Lit.int .u8 x).wf = true) → ∃ k, laws_FnDeadlineScale.f k l0 = some true
theorem laws_FnDeadlineScale.walk (P : laws_FnDeadlineScale.Pure) (a0 : Option Addr) (len0 cap0 : Nat) (z0 : List Int) (w : World) (w0 : (a0 = none ∧ len0 = 0 ∧ cap0 = 0 ∧ z0 = []) ∨ ∃ x, a0 = some x ∧ len0 ≤ cap0 ∧ cap0 ≤ maxLen ∧ z0.length = cap0 ∧ (∀ i, i < z0.length → w.cell? (x.add i) = some (.int .u8 (z0.getD i 0))) ∧ ∀ n ∈ z0, (Lit.int .u8 n).wf = true) (y0 : len0 * 1 ≤ 140737488351232) :
    Calls Try.prog 8 #[.slice a0 len0 cap0] w fun e w' => e = .returned (.bool true) ∧ Below w.heap.size w w' := by
  obtain ⟨l0, rfl, hr0, hm0, hw0, hc0⟩ := ReadsInt.ofRowC w0
  obtain ⟨k, h⟩ := P l0 hm0 y0 hw0
  refine (laws_FnDeadlineScale.calls k _ _ l0 true w (Kd.C_of_reads (d := (0 : Int)) (h1 := fun _ => rfl) hr0) hc0 h).mono ?_
  rintro e w' ⟨rfl, hd⟩
  exact ⟨rfl, hd⟩

end Go.Proofs.Ytpgheaoepaadlaa.Q
