-- written by mp.py, a program of this session's, out of the kit's print program and the translation
import Derived.Test.YthajimgepjbjiaaF0
import Derived.Test.YthajimgepjbjiaaFimplXfeasible
import Derived.Test.YthajimgepjbjiaaFimplXisTask
import Derived.Test.YthajimgepjbjiaaFimplXchanged
namespace Go.Proofs.Ythajimgepjbjiaa.Q
open Go.RowKit Go.Proofs.YthajimgepjbjiaaW.PrintWords Go.Proofs.YthajimgepjbjiaaW.PrintLast Go.Proofs.YthajimgepjbjiaaW.PrintMore
attribute [local go_sem] max2_int min2_int max_two min_two max_three min_three max_four min_four   -- for this text's walks alone
set_option linter.unusedVariables false
set_option linter.unusedSimpArgs false

/-! ### impl_MinFeasibleDeadline: function 31 -/
def impl_MinFeasibleDeadline.l0 : Nat → List (S44) → Int → Int → Int → Int → Option (Int)
  | 0, _, _, _, _, _ => none
  | k + 1, x0, x1, x104000, x104001, x104002 => if x104001 ≤ x104002 then ((impl_changed.f x0 x1 x104000 x104001 x104002).bind fun t104 => ((impl_feasible.f k t104).bind fun t107 => (if t107 = true then (some x104001) else (impl_MinFeasibleDeadline.l0 k x0 x1 x104000 (wrap64 (x104001 + 1)) x104002)))) else (some 0)
def impl_MinFeasibleDeadline.f (k : Nat) (l0 : List (S44)) (a1 : Int) : Option (Int) := (impl_isTask.f l0 a1).bind fun t101 => (if t101 = true then (if 0 ≤ a1 then (if a1 < (l0.length : Int) then (impl_MinFeasibleDeadline.l0 k l0 a1 ((rd_T44 l0 a1).f0) ((rd_T44 l0 a1).f0) ((rd_T44 l0 a1).f2)) else (none)) else (none)) else (some (-1)))
theorem impl_MinFeasibleDeadline.mono_l : ∀ k, (∀ y0 y1 y2 y3 y4, LeO (impl_MinFeasibleDeadline.l0 k y0 y1 y2 y3 y4) (impl_MinFeasibleDeadline.l0 (k + 1) y0 y1 y2 y3 y4))
  | 0 => fun _ _ _ _ _ r h => by simp [impl_MinFeasibleDeadline.l0] at h
  | k + 1 => by
    have ih0 := impl_MinFeasibleDeadline.mono_l k
    · intro y0 y1 y2 y3 y4
      unfold impl_MinFeasibleDeadline.l0
      repeat' first
      | (with_reducible exact ih0 _ _ _ _ _)
      | (with_reducible exact impl_feasible.mono _ _)
      | (with_reducible exact LeO.refl _)
      | (with_reducible exact LeO.none _)
      | (with_reducible refine LeO.ite ?_ ?_)
      | (with_reducible refine LeO.bind ?_ (fun _ => ?_))
      | exact ih0 _ _ _ _ _
      | exact impl_feasible.mono _ _
      | exact LeO.none _
      | refine LeO.ite ?_ ?_
      | refine LeO.bind ?_ (fun _ => ?_)
theorem impl_MinFeasibleDeadline.mono : ∀ a0 a1 k, LeO (impl_MinFeasibleDeadline.f k a0 a1) (impl_MinFeasibleDeadline.f (k + 1) a0 a1) := by
  intro a0 a1 k
  have ih0 := impl_MinFeasibleDeadline.mono_l k
  unfold impl_MinFeasibleDeadline.f
  repeat' first
      | (with_reducible exact ih0 _ _ _ _ _)
      | (with_reducible exact impl_feasible.mono _ _)
      | (with_reducible exact LeO.refl _)
      | (with_reducible exact LeO.none _)
      | (with_reducible refine LeO.ite ?_ ?_)
      | (with_reducible refine LeO.bind ?_ (fun _ => ?_))
      | exact ih0 _ _ _ _ _
      | exact impl_feasible.mono _ _
      | exact LeO.none _
      | refine LeO.ite ?_ ?_
      | refine LeO.bind ?_ (fun _ => ?_)
set_option maxHeartbeats 8000000 in
set_option maxRecDepth 100000 in
theorem impl_MinFeasibleDeadline.calls (k : Nat) (A0 : Option Addr) (c0 : Nat) (l0 : List (S44)) (a1 : Int) (r : Int) (w : World) (hr0 : Kd.C k44 w A0 l0.length l0) (hc0 : l0.length ≤ c0) (h : impl_MinFeasibleDeadline.f k l0 a1 = some r) :
    Calls Try.prog 31 #[.slice A0 l0.length c0, .int .i64 a1] w fun e w' => e = .returned (.int .i64 r) ∧ Below w.heap.size w w' := by
  have hu44 := Try.underlying44
  have HR0 := Aside0.mk hr0
  have HC0 := Aside0.mk hc0
  clear hr0 hc0
  have HB := Aside0.mk (Below.refl w.heap.size w)
  have H : ((impl_isTask.f l0 a1).bind fun t101 => (if t101 = true then (if 0 ≤ a1 then (if a1 < (l0.length : Int) then (impl_MinFeasibleDeadline.l0 k l0 a1 ((rd_T44 l0 a1).f0) ((rd_T44 l0 a1).f0) ((rd_T44 l0 a1).f2)) else (none)) else (none)) else (some (-1)))) = some r := h
  clear h
  replace H := Option.bind_eq_some_iff.mp H
  obtain ⟨t101, A30, H⟩ := H
  replace H : (if t101 = true then (if 0 ≤ a1 then (if a1 < (l0.length : Int) then (impl_MinFeasibleDeadline.l0 k l0 a1 ((rd_T44 l0 a1).f0) ((rd_T44 l0 a1).f0) ((rd_T44 l0 a1).f2)) else (none)) else (none)) else (some (-1))) = some r := H
  have A3 := Aside0.mk A30
  clear A30
  by_cases c4 : t101 = true
  · subst c4
    have H1 : (if 0 ≤ a1 then (if a1 < (l0.length : Int) then (impl_MinFeasibleDeadline.l0 k l0 a1 ((rd_T44 l0 a1).f0) ((rd_T44 l0 a1).f0) ((rd_T44 l0 a1).f2)) else (none)) else (none)) = some r := by rw [if_pos rfl] at H; exact H
    clear H
    have H := H1
    clear H1
    by_cases c5 : 0 ≤ a1
    · rw [if_pos c5] at H
      have c5b0 : decide (0 ≤ a1) = true := decide_eq_true c5
      clear c5
      by_cases c6 : a1 < (l0.length : Int)
      · rw [if_pos c6] at H
        have c6b0 : decide (a1 < (l0.length : Int)) = true := decide_eq_true c6
        clear c6
        have H' := Aside0.mk H
        clear H
        go_enter Try.func31, Try.ntmps31
        go_wp2_with (first | ((with_reducible refine gate_callee (f := 56) rfl ?_); refine goesL_ (some 8) rfl rfl Try.func56 (by kernel_rfl) rfl #[.slice A0 l0.length c0, .int .i64 a1] rfl (by (try simp only [List.map_toArray, List.map_cons, List.map_nil]); first | done | rfl | (simp only [List.length_drop, List.length_take]; rfl)) ?_; (with_reducible refine (impl_isTask.calls _ _ l0 a1 true _ ?side1 ?side2 A3.out).mono ?_); (case side1 => repeat (first | exact HR0.out | (with_reducible refine Kd.C_alloc ?_ _) | (with_reducible refine Kd.C_drewN ?_ _) | (with_reducible refine Kd.C_drew ?_))); (case side2 => exact HC0.out); rintro e w7 ⟨rfl, hb⟩; refine ⟨_, rfl, ?_⟩; have n0_ := Aside0.mk (below_step (by repeat (first | (with_reducible first | exact HB.out | apply below_alloc | apply pw_below_drewN | apply below_drew1) | exact HB.out)) hb); clear HB; have HB := n0_; clear n0_; (try clear hb); (try clear hb2); (try clear hk); (try clear hi); have p102 : 0 ≤ (a1 : Int) := of_decide_eq_true (by first | (with_reducible assumption) | assumption); have q102 : a1 < (l0.length : Int) := of_decide_eq_true (by first | (with_reducible assumption) | assumption); obtain ⟨ad102, e102, hx102_0, hx102_1, hx102_2⟩ := at_T44 HR0.out a1 p102 q102; cases e102; replace hx102_0 := (HB.out.cell (World.block_lt_of_cell? w _ hx102_0)).trans hx102_0; replace hx102_1 := (HB.out.cell (World.block_lt_of_cell? w _ hx102_1)).trans hx102_1; replace hx102_2 := (HB.out.cell (World.block_lt_of_cell? w _ hx102_2)).trans hx102_2; replace p102 := eq_true p102; replace q102 := eq_true q102) | ((with_reducible refine gate_dst (N := 5) rfl ?_); refine box_event ?hg (N := 5) ?hd (cs := #[.int .i64 0, .int .i64 0, .int .i64 0]) (t := 44) ?hr ?_; (case hd => rfl); (case hg => rfl); (case hr => first | (go_simp; done) | (go_simp; rfl)); intro gb103 hg w8 hbox hb; have n0_ := Aside0.mk (below_step (by repeat (first | (with_reducible first | exact HB.out | apply below_alloc | apply pw_below_drewN | apply below_drew1) | exact HB.out)) hb); have n1_ := Aside0.mk (hbox); have n2_ := Aside0.mk ((by rw [hg]; exact (below_size (by repeat (first | (with_reducible first | exact HB.out | apply below_alloc | apply pw_below_drewN | apply below_drew1) | exact HB.out))) : w.heap.size ≤ gb103)); have n3_ := Aside0.mk ((by rw [hg]; exact (below_size (by repeat (first | (with_reducible first | exact HB.out | apply below_alloc | apply pw_below_drewN | apply below_drew1) | exact HB.out))) : w.heap.size ≤ gb103)); clear HB; have HB := n0_; have BK103 := n1_; have GW103 := n2_; have GE103 := n3_; clear n0_ n1_ n2_ n3_; clear hb hbox hg; have hcz9_0 : w8.cell? ⟨gb103, 0, none⟩ = some (.int .i64 0) := (blk_cell BK103.out 0).trans rfl; have hcz9_1 : w8.cell? ⟨gb103, 1, none⟩ = some (.int .i64 0) := (blk_cell BK103.out 1).trans rfl; have hcz9_2 : w8.cell? ⟨gb103, 2, none⟩ = some (.int .i64 0) := (blk_cell BK103.out 2).trans rfl; have hfz9_0 := blk_frozen BK103.out 0; have hfz9_1 := blk_frozen BK103.out 1; have hfz9_2 := blk_frozen BK103.out 2))
        go_loopg [] k (fun kq w' => ∃ (x104001_1 : Int), Aside0 (impl_MinFeasibleDeadline.l0 kq l0 a1 ((rd_T44 l0 a1).f0) x104001_1 ((rd_T44 l0 a1).f2) = some r) ∧ Aside0 (kq ≤ k) ∧ Aside0 (w'.heap[gb103]? = some (.cells #[.int .i64 ((rd_T44 l0 a1).f0), .int .i64 x104001_1, .int .i64 ((rd_T44 l0 a1).f2)] 44 (0, 0))) ∧ Aside0 (Below w.heap.size w w'))
        case atStart => exact ⟨((rd_T44 l0 a1).f0), H', ⟨Nat.le_refl _⟩, ⟨by (with_reducible repeat (first | refine blk_drewN ?_ _ | refine blk_drew ?_ | refine blk_alloc ?_ _)); refine blk_put (cs := #[.int .i64 ((rd_T44 l0 a1).f0), .int .i64 ((rd_T44 l0 a1).f1), .int .i64 ((rd_T44 l0 a1).f2)]) ?_ 1 _ rfl; (with_reducible repeat (first | refine blk_drewN ?_ _ | refine blk_drew ?_ | refine blk_alloc ?_ _)); refine blk_put (cs := #[.int .i64 ((rd_T44 l0 a1).f0), .int .i64 ((rd_T44 l0 a1).f1), .int .i64 0]) ?_ 2 _ rfl; (with_reducible repeat (first | refine blk_drewN ?_ _ | refine blk_drew ?_ | refine blk_alloc ?_ _)); refine blk_put (cs := #[.int .i64 ((rd_T44 l0 a1).f0), .int .i64 0, .int .i64 0]) ?_ 1 _ rfl; (with_reducible repeat (first | refine blk_drewN ?_ _ | refine blk_drew ?_ | refine blk_alloc ?_ _)); refine blk_put (cs := #[.int .i64 0, .int .i64 0, .int .i64 0]) ?_ 0 _ rfl; (with_reducible repeat (first | refine blk_drewN ?_ _ | refine blk_drew ?_ | refine blk_alloc ?_ _)); exact BK103.out⟩, ⟨by repeat (first | (with_reducible first | exact HB.out | apply below_alloc | apply pw_below_drewN | apply below_drew1 | refine below_set ?_ GE103.out) | exact HB.out)⟩⟩
        case round =>
          clear H'
          try clear p1
          try clear q1
          try clear hx1
          try clear p2
          try clear c3
          try clear c4
          try clear c5
          try clear c5b0
          try clear c6
          try clear c6b0
          try clear hcz9_0
          try clear hcz9_1
          try clear hcz9_2
          try clear hfz9_0
          try clear hfz9_1
          try clear hfz9_2
          try clear hx102_0
          try clear hx102_1
          try clear hx102_2
          try clear p102
          try clear q102
          obtain ⟨x104001_1, HA, HK1, BK103, HB⟩ := hrel
          cases gk with
          | zero => exact absurd HA.out (by simp [impl_MinFeasibleDeadline.l0])
          | succ k1 =>
            have H := HA.out
            clear HA
            simp only [impl_MinFeasibleDeadline.l0] at H
            by_cases c10 : x104001_1 ≤ ((rd_T44 l0 a1).f2)
            · rw [if_pos c10] at H
              have c10b0 : decide (x104001_1 ≤ ((rd_T44 l0 a1).f2)) = true := decide_eq_true c10
              clear c10
              replace H := Option.bind_eq_some_iff.mp H
              obtain ⟨t104, A110, H⟩ := H
              replace H : ((impl_feasible.f k1 t104).bind fun t107 => (if t107 = true then (some x104001_1) else (impl_MinFeasibleDeadline.l0 k1 l0 a1 ((rd_T44 l0 a1).f0) (wrap64 (x104001_1 + 1)) ((rd_T44 l0 a1).f2)))) = some r := H
              have A11 := Aside0.mk A110
              clear A110
              replace H := Option.bind_eq_some_iff.mp H
              obtain ⟨t107, A120, H⟩ := H
              replace H : (if t107 = true then (some x104001_1) else (impl_MinFeasibleDeadline.l0 k1 l0 a1 ((rd_T44 l0 a1).f0) (wrap64 (x104001_1 + 1)) ((rd_T44 l0 a1).f2))) = some r := H
              have A12 := Aside0.mk A120
              clear A120
              by_cases c13 : t107 = true
              · subst c13
                have H1 : (some x104001_1) = some r := by rw [if_pos rfl] at H; exact H
                clear H
                have H := H1
                clear H1
                obtain rfl := Option.some.inj H
                have hcz14_0 : wr.cell? ⟨gb103, 0, none⟩ = some (.int .i64 ((rd_T44 l0 a1).f0)) := (blk_cell BK103.out 0).trans rfl
                have hcz14_1 : wr.cell? ⟨gb103, 1, none⟩ = some (.int .i64 x104001_1) := (blk_cell BK103.out 1).trans rfl
                have hcz14_2 : wr.cell? ⟨gb103, 2, none⟩ = some (.int .i64 ((rd_T44 l0 a1).f2)) := (blk_cell BK103.out 2).trans rfl
                have hfz14_0 := blk_frozen BK103.out 0
                have hfz14_1 := blk_frozen BK103.out 1
                have hfz14_2 := blk_frozen BK103.out 2
                go_wp2_with (first | ((with_reducible refine gate_callee (f := 57) rfl ?_); refine goesL_ (some 29) rfl rfl Try.func57 (by kernel_rfl) rfl #[.slice (some ad102) l0.length c0, .int .i64 a1, .agg #[.int .i64 ((rd_T44 l0 a1).f0), .int .i64 x104001_1, .int .i64 ((rd_T44 l0 a1).f2)]] rfl (by (try simp only [List.map_toArray, List.map_cons, List.map_nil]); first | done | rfl | (simp only [List.length_drop, List.length_take]; rfl)) ?_; (with_reducible refine (impl_changed.calls _ _ l0 a1 ((rd_T44 l0 a1).f0) x104001_1 ((rd_T44 l0 a1).f2) t104 _ ?side1 ?side2 A11.out).mono ?_); (case side1 => repeat (first | exact (Kd.C_below HR0.out HB.out) | (with_reducible refine Kd.C_alloc ?_ _) | (with_reducible refine Kd.C_drewN ?_ _) | (with_reducible refine Kd.C_drew ?_))); (case side2 => exact HC0.out); rintro e w15 ⟨v105, rfl, ho0, hb⟩; refine ⟨_, rfl, ?_⟩; have n0_ := Aside0.mk (Kd.Q_lower (Kd.Q_newB ho0 (g := gb103) (o := .cells #[.int .i64 ((rd_T44 l0 a1).f0), .int .i64 x104001_1, .int .i64 ((rd_T44 l0 a1).f2)] 44 (0, 0)) (by (with_reducible repeat (first | refine blk_drewN ?_ _ | refine blk_drew ?_ | refine blk_alloc ?_ _)); exact BK103.out)) (below_size (by repeat (first | (with_reducible first | exact HB.out | apply below_alloc | apply pw_below_drewN | apply below_drew1 | refine below_set ?_ GE103.out) | exact HB.out)))); have n1_ := Aside0.mk (blk_below (g := gb103) (o := .cells #[.int .i64 ((rd_T44 l0 a1).f0), .int .i64 x104001_1, .int .i64 ((rd_T44 l0 a1).f2)] 44 (0, 0)) (by (with_reducible repeat (first | refine blk_drewN ?_ _ | refine blk_drew ?_ | refine blk_alloc ?_ _)); exact BK103.out) hb); have n2_ := Aside0.mk (below_step (by repeat (first | (with_reducible first | exact HB.out | apply below_alloc | apply pw_below_drewN | apply below_drew1 | refine below_set ?_ GE103.out) | exact HB.out)) hb); clear BK103; clear HB; have HO106 := n0_; have BK103 := n1_; have HB := n2_; clear n0_ n1_ n2_; (try clear hb); (try clear hb2); (try clear hk); (try clear hi); (try clear ho0); obtain ⟨Ao16, co16, eo16, _⟩ := Kd.Q_slice HO106.out; subst eo16) | ((with_reducible refine gate_callee (f := 53) rfl ?_); refine goesL_ (some 30) rfl rfl Try.func53 (by kernel_rfl) rfl #[.slice Ao16 t104.length co16] rfl (by (try simp only [List.map_toArray, List.map_cons, List.map_nil]); first | done | rfl | (simp only [List.length_drop, List.length_take]; rfl)) ?_; (with_reducible refine (impl_feasible.calls k1 _ _ t104 true _ ?side1 ?side2 A12.out).mono ?_); (case side1 => repeat (first | exact (Kd.Q_reads' HO106.out).2.2 | (with_reducible refine Kd.C_alloc ?_ _) | (with_reducible refine Kd.C_drewN ?_ _) | (with_reducible refine Kd.C_drew ?_))); (case side2 => exact (Kd.Q_reads' HO106.out).2.1); rintro e w17 ⟨rfl, hb⟩; refine ⟨_, rfl, ?_⟩; have n0_ := Aside0.mk (Kd.Q_below (by (with_reducible repeat (first | apply Kd.Q_alloc | apply Kd.Q_drewN | apply Kd.Q_drew)); exact HO106.out) hb); have n1_ := Aside0.mk (blk_below (g := gb103) (o := .cells #[.int .i64 ((rd_T44 l0 a1).f0), .int .i64 x104001_1, .int .i64 ((rd_T44 l0 a1).f2)] 44 (0, 0)) (by (with_reducible repeat (first | refine blk_drewN ?_ _ | refine blk_drew ?_ | refine blk_alloc ?_ _)); exact BK103.out) hb); have n2_ := Aside0.mk (below_step (by repeat (first | (with_reducible first | exact HB.out | apply below_alloc | apply pw_below_drewN | apply below_drew1 | refine below_set ?_ GE103.out) | exact HB.out)) hb); clear HO106; clear BK103; clear HB; have HO106 := n0_; have BK103 := n1_; have HB := n2_; clear n0_ n1_ n2_; (try clear hb); (try clear hb2); (try clear hk); (try clear hi); have hcz18_0 : w17.cell? ⟨gb103, 0, none⟩ = some (.int .i64 ((rd_T44 l0 a1).f0)) := (blk_cell BK103.out 0).trans rfl; have hcz18_1 : w17.cell? ⟨gb103, 1, none⟩ = some (.int .i64 x104001_1) := (blk_cell BK103.out 1).trans rfl; have hcz18_2 : w17.cell? ⟨gb103, 2, none⟩ = some (.int .i64 ((rd_T44 l0 a1).f2)) := (blk_cell BK103.out 2).trans rfl; have hfz18_0 := blk_frozen BK103.out 0; have hfz18_1 := blk_frozen BK103.out 1; have hfz18_2 := blk_frozen BK103.out 2))
                go_ret
                exact ⟨by first | rfl | (simp [errW_none, errW_some] <;> rfl) | (simp [*, errW_none, errW_some] <;> rfl), by repeat (first | (with_reducible first | exact HB.out | apply below_alloc | apply pw_below_drewN | apply below_drew1 | refine below_set ?_ GE103.out) | exact HB.out)⟩
              · replace c13 := Bool.eq_false_iff.mpr c13
                subst c13
                have H1 : (impl_MinFeasibleDeadline.l0 k1 l0 a1 ((rd_T44 l0 a1).f0) (wrap64 (x104001_1 + 1)) ((rd_T44 l0 a1).f2)) = some r := by rw [if_neg (show ¬ (false = true) by decide)] at H; exact H
                clear H
                have H := H1
                clear H1
                have H' := Aside0.mk H
                clear H
                have hcz19_0 : wr.cell? ⟨gb103, 0, none⟩ = some (.int .i64 ((rd_T44 l0 a1).f0)) := (blk_cell BK103.out 0).trans rfl
                have hcz19_1 : wr.cell? ⟨gb103, 1, none⟩ = some (.int .i64 x104001_1) := (blk_cell BK103.out 1).trans rfl
                have hcz19_2 : wr.cell? ⟨gb103, 2, none⟩ = some (.int .i64 ((rd_T44 l0 a1).f2)) := (blk_cell BK103.out 2).trans rfl
                have hfz19_0 := blk_frozen BK103.out 0
                have hfz19_1 := blk_frozen BK103.out 1
                have hfz19_2 := blk_frozen BK103.out 2
                go_wp2_with (first | ((with_reducible refine gate_callee (f := 57) rfl ?_); refine goesL_ (some 29) rfl rfl Try.func57 (by kernel_rfl) rfl #[.slice (some ad102) l0.length c0, .int .i64 a1, .agg #[.int .i64 ((rd_T44 l0 a1).f0), .int .i64 x104001_1, .int .i64 ((rd_T44 l0 a1).f2)]] rfl (by (try simp only [List.map_toArray, List.map_cons, List.map_nil]); first | done | rfl | (simp only [List.length_drop, List.length_take]; rfl)) ?_; (with_reducible refine (impl_changed.calls _ _ l0 a1 ((rd_T44 l0 a1).f0) x104001_1 ((rd_T44 l0 a1).f2) t104 _ ?side1 ?side2 A11.out).mono ?_); (case side1 => repeat (first | exact (Kd.C_below HR0.out HB.out) | (with_reducible refine Kd.C_alloc ?_ _) | (with_reducible refine Kd.C_drewN ?_ _) | (with_reducible refine Kd.C_drew ?_))); (case side2 => exact HC0.out); rintro e w20 ⟨v105, rfl, ho0, hb⟩; refine ⟨_, rfl, ?_⟩; have n0_ := Aside0.mk (Kd.Q_lower (Kd.Q_newB ho0 (g := gb103) (o := .cells #[.int .i64 ((rd_T44 l0 a1).f0), .int .i64 x104001_1, .int .i64 ((rd_T44 l0 a1).f2)] 44 (0, 0)) (by (with_reducible repeat (first | refine blk_drewN ?_ _ | refine blk_drew ?_ | refine blk_alloc ?_ _)); exact BK103.out)) (below_size (by repeat (first | (with_reducible first | exact HB.out | apply below_alloc | apply pw_below_drewN | apply below_drew1 | refine below_set ?_ GE103.out) | exact HB.out)))); have n1_ := Aside0.mk (blk_below (g := gb103) (o := .cells #[.int .i64 ((rd_T44 l0 a1).f0), .int .i64 x104001_1, .int .i64 ((rd_T44 l0 a1).f2)] 44 (0, 0)) (by (with_reducible repeat (first | refine blk_drewN ?_ _ | refine blk_drew ?_ | refine blk_alloc ?_ _)); exact BK103.out) hb); have n2_ := Aside0.mk (below_step (by repeat (first | (with_reducible first | exact HB.out | apply below_alloc | apply pw_below_drewN | apply below_drew1 | refine below_set ?_ GE103.out) | exact HB.out)) hb); clear BK103; clear HB; have HO106 := n0_; have BK103 := n1_; have HB := n2_; clear n0_ n1_ n2_; (try clear hb); (try clear hb2); (try clear hk); (try clear hi); (try clear ho0); obtain ⟨Ao21, co21, eo21, _⟩ := Kd.Q_slice HO106.out; subst eo21) | ((with_reducible refine gate_callee (f := 53) rfl ?_); refine goesL_ (some 30) rfl rfl Try.func53 (by kernel_rfl) rfl #[.slice Ao21 t104.length co21] rfl (by (try simp only [List.map_toArray, List.map_cons, List.map_nil]); first | done | rfl | (simp only [List.length_drop, List.length_take]; rfl)) ?_; (with_reducible refine (impl_feasible.calls k1 _ _ t104 false _ ?side1 ?side2 A12.out).mono ?_); (case side1 => repeat (first | exact (Kd.Q_reads' HO106.out).2.2 | (with_reducible refine Kd.C_alloc ?_ _) | (with_reducible refine Kd.C_drewN ?_ _) | (with_reducible refine Kd.C_drew ?_))); (case side2 => exact (Kd.Q_reads' HO106.out).2.1); rintro e w22 ⟨rfl, hb⟩; refine ⟨_, rfl, ?_⟩; have n0_ := Aside0.mk (Kd.Q_below (by (with_reducible repeat (first | apply Kd.Q_alloc | apply Kd.Q_drewN | apply Kd.Q_drew)); exact HO106.out) hb); have n1_ := Aside0.mk (blk_below (g := gb103) (o := .cells #[.int .i64 ((rd_T44 l0 a1).f0), .int .i64 x104001_1, .int .i64 ((rd_T44 l0 a1).f2)] 44 (0, 0)) (by (with_reducible repeat (first | refine blk_drewN ?_ _ | refine blk_drew ?_ | refine blk_alloc ?_ _)); exact BK103.out) hb); have n2_ := Aside0.mk (below_step (by repeat (first | (with_reducible first | exact HB.out | apply below_alloc | apply pw_below_drewN | apply below_drew1 | refine below_set ?_ GE103.out) | exact HB.out)) hb); clear HO106; clear BK103; clear HB; have HO106 := n0_; have BK103 := n1_; have HB := n2_; clear n0_ n1_ n2_; (try clear hb); (try clear hb2); (try clear hk); (try clear hi); have hcz23_0 : w22.cell? ⟨gb103, 0, none⟩ = some (.int .i64 ((rd_T44 l0 a1).f0)) := (blk_cell BK103.out 0).trans rfl; have hcz23_1 : w22.cell? ⟨gb103, 1, none⟩ = some (.int .i64 x104001_1) := (blk_cell BK103.out 1).trans rfl; have hcz23_2 : w22.cell? ⟨gb103, 2, none⟩ = some (.int .i64 ((rd_T44 l0 a1).f2)) := (blk_cell BK103.out 2).trans rfl; have hfz23_0 := blk_frozen BK103.out 0; have hfz23_1 := blk_frozen BK103.out 1; have hfz23_2 := blk_frozen BK103.out 2))
                go_roundg k1
                case measure => have := HK1.out; omega
                case rel => exact ⟨(wrap64 (x104001_1 + 1)), H', ⟨by have := HK1.out; omega⟩, ⟨by (with_reducible repeat (first | refine blk_drewN ?_ _ | refine blk_drew ?_ | refine blk_alloc ?_ _)); refine blk_put (cs := #[.int .i64 ((rd_T44 l0 a1).f0), .int .i64 x104001_1, .int .i64 ((rd_T44 l0 a1).f2)]) ?_ 1 _ rfl; (with_reducible repeat (first | refine blk_drewN ?_ _ | refine blk_drew ?_ | refine blk_alloc ?_ _)); exact BK103.out⟩, ⟨by repeat (first | (with_reducible first | exact HB.out | apply below_alloc | apply pw_below_drewN | apply below_drew1 | refine below_set ?_ GE103.out) | exact HB.out)⟩⟩
            · rw [if_neg c10] at H
              have c10b0 : decide (x104001_1 ≤ ((rd_T44 l0 a1).f2)) = false := decide_eq_false c10
              clear c10
              obtain rfl := Option.some.inj H
              have hcz24_0 : wr.cell? ⟨gb103, 0, none⟩ = some (.int .i64 ((rd_T44 l0 a1).f0)) := (blk_cell BK103.out 0).trans rfl
              have hcz24_1 : wr.cell? ⟨gb103, 1, none⟩ = some (.int .i64 x104001_1) := (blk_cell BK103.out 1).trans rfl
              have hcz24_2 : wr.cell? ⟨gb103, 2, none⟩ = some (.int .i64 ((rd_T44 l0 a1).f2)) := (blk_cell BK103.out 2).trans rfl
              have hfz24_0 := blk_frozen BK103.out 0
              have hfz24_1 := blk_frozen BK103.out 1
              have hfz24_2 := blk_frozen BK103.out 2
              go_wp2
              go_ret
              exact ⟨by first | rfl | (simp [errW_none, errW_some] <;> rfl) | (simp [*, errW_none, errW_some] <;> rfl), by repeat (first | (with_reducible first | exact HB.out | apply below_alloc | apply pw_below_drewN | apply below_drew1 | refine below_set ?_ GE103.out) | exact HB.out)⟩
      · rw [if_neg c6] at H
        exact absurd H (by simp)
    · rw [if_neg c5] at H
      exact absurd H (by simp)
  · replace c4 := Bool.eq_false_iff.mpr c4
    subst c4
    have H1 : (some (-1)) = some r := by rw [if_neg (show ¬ (false = true) by decide)] at H; exact H
    clear H
    have H := H1
    clear H1
    obtain rfl := Option.some.inj H
    go_enter Try.func31, Try.ntmps31
    go_wp2_with (first | ((with_reducible refine gate_callee (f := 56) rfl ?_); refine goesL_ (some 8) rfl rfl Try.func56 (by kernel_rfl) rfl #[.slice A0 l0.length c0, .int .i64 a1] rfl (by (try simp only [List.map_toArray, List.map_cons, List.map_nil]); first | done | rfl | (simp only [List.length_drop, List.length_take]; rfl)) ?_; (with_reducible refine (impl_isTask.calls _ _ l0 a1 false _ ?side1 ?side2 A3.out).mono ?_); (case side1 => repeat (first | exact HR0.out | (with_reducible refine Kd.C_alloc ?_ _) | (with_reducible refine Kd.C_drewN ?_ _) | (with_reducible refine Kd.C_drew ?_))); (case side2 => exact HC0.out); rintro e w25 ⟨rfl, hb⟩; refine ⟨_, rfl, ?_⟩; have n0_ := Aside0.mk (below_step (by repeat (first | (with_reducible first | exact HB.out | apply below_alloc | apply pw_below_drewN | apply below_drew1) | exact HB.out)) hb); clear HB; have HB := n0_; clear n0_; (try clear hb); (try clear hb2); (try clear hk); (try clear hi)))
    go_ret
    exact ⟨by first | rfl | (simp [errW_none, errW_some] <;> rfl) | (simp [*, errW_none, errW_some] <;> rfl), by repeat (first | (with_reducible first | exact HB.out | apply below_alloc | apply pw_below_drewN | apply below_drew1) | exact HB.out)⟩

end Go.Proofs.Ythajimgepjbjiaa.Q
