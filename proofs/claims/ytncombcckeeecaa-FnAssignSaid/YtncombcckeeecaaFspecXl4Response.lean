-- written by mp.py, a program of this session's, out of the kit's print program and the translation
import Derived.Test.YtncombcckeeecaaF0
namespace Go.Proofs.Ytncombcckeeecaa.Q
open Go.RowKit Go.Proofs.YtncombcckeeecaaW.PrintWords Go.Proofs.YtncombcckeeecaaW.PrintLast Go.Proofs.YtncombcckeeecaaW.PrintMore
attribute [local go_sem] max2_int min2_int max_two min_two max_three min_three max_four min_four   -- for this text's walks alone
set_option linter.unusedVariables false
set_option linter.unusedSimpArgs false

/-! ### spec_l4Response: function 55 -/
mutual
def spec_l4Response.l0 : Nat → List (S34) → List Int → Int → Int → Option (Int)
  | 0, _, _, _, _ => none
  | k + 1, x0, x1, x2, x7 => if 0 ≤ x2 then (if x2 < (x0.length : Int) then (if x7 ≤ ((rd_T34 x0 x2).f1) then (spec_l4Response.l1 k x0 x1 x2 x7 ((rd_T34 x0 x2).f0) 0) else (some (-1))) else (none)) else (none)
def spec_l4Response.l1 : Nat → List (S34) → List Int → Int → Int → Int → Int → Option (Int)
  | 0, _, _, _, _, _, _ => none
  | k + 1, x0, x1, x2, x7, x8, x9 => if x9 < (x1.length : Int) then (if 0 ≤ x9 then (if 0 ≤ (rd x1 x9) then (if (rd x1 x9) < (x0.length : Int) then (if ((rd_T34 x0 (rd x1 x9)).f2) = 0 then (none) else (spec_l4Response.l1 k x0 x1 x2 x7 (wrap64 (x8 + (wrap64 ((wrap64 (Int.tdiv (wrap64 ((wrap64 (x7 + ((rd_T34 x0 (rd x1 x9)).f2))) - 1)) ((rd_T34 x0 (rd x1 x9)).f2))) * ((rd_T34 x0 (rd x1 x9)).f0))))) (wrap64 (x9 + 1)))) else (none)) else (none)) else (none)) else (if x8 = x7 then (some x7) else (spec_l4Response.l0 k x0 x1 x2 x8))
end
def spec_l4Response.f (k : Nat) (l0 : List (S34)) (l1 : List Int) (a2 : Int) : Option (Int) := if 0 ≤ a2 then (if a2 < (l0.length : Int) then (spec_l4Response.l0 k l0 l1 a2 ((rd_T34 l0 a2).f0)) else (none)) else (none)
theorem spec_l4Response.mono_l : ∀ k, (∀ y0 y1 y2 y3, LeO (spec_l4Response.l0 k y0 y1 y2 y3) (spec_l4Response.l0 (k + 1) y0 y1 y2 y3)) ∧ (∀ y0 y1 y2 y3 y4 y5, LeO (spec_l4Response.l1 k y0 y1 y2 y3 y4 y5) (spec_l4Response.l1 (k + 1) y0 y1 y2 y3 y4 y5))
  | 0 => ⟨fun _ _ _ _ r h => by simp [spec_l4Response.l0] at h, fun _ _ _ _ _ _ r h => by simp [spec_l4Response.l1] at h⟩
  | k + 1 => by
    obtain ⟨ih0, ih1⟩ := spec_l4Response.mono_l k
    refine ⟨?_, ?_⟩
    · intro y0 y1 y2 y3
      unfold spec_l4Response.l0
      repeat' first
      | (with_reducible exact ih0 _ _ _ _)
      | (with_reducible exact ih1 _ _ _ _ _ _)
      | (with_reducible exact LeO.refl _)
      | (with_reducible exact LeO.none _)
      | (with_reducible refine LeO.ite ?_ ?_)
      | (with_reducible refine LeO.bind ?_ (fun _ => ?_))
      | exact ih0 _ _ _ _
      | exact ih1 _ _ _ _ _ _
      | exact LeO.none _
      | refine LeO.ite ?_ ?_
      | refine LeO.bind ?_ (fun _ => ?_)
    · intro y0 y1 y2 y3 y4 y5
      unfold spec_l4Response.l1
      repeat' first
      | (with_reducible exact ih0 _ _ _ _)
      | (with_reducible exact ih1 _ _ _ _ _ _)
      | (with_reducible exact LeO.refl _)
      | (with_reducible exact LeO.none _)
      | (with_reducible refine LeO.ite ?_ ?_)
      | (with_reducible refine LeO.bind ?_ (fun _ => ?_))
      | exact ih0 _ _ _ _
      | exact ih1 _ _ _ _ _ _
      | exact LeO.none _
      | refine LeO.ite ?_ ?_
      | refine LeO.bind ?_ (fun _ => ?_)
theorem spec_l4Response.mono : ∀ a0 a1 a2 k, LeO (spec_l4Response.f k a0 a1 a2) (spec_l4Response.f (k + 1) a0 a1 a2) := by
  intro a0 a1 a2 k
  obtain ⟨ih0, ih1⟩ := spec_l4Response.mono_l k
  unfold spec_l4Response.f
  repeat' first
      | (with_reducible exact ih0 _ _ _ _)
      | (with_reducible exact ih1 _ _ _ _ _ _)
      | (with_reducible exact LeO.refl _)
      | (with_reducible exact LeO.none _)
      | (with_reducible refine LeO.ite ?_ ?_)
      | (with_reducible refine LeO.bind ?_ (fun _ => ?_))
      | exact ih0 _ _ _ _
      | exact ih1 _ _ _ _ _ _
      | exact LeO.none _
      | refine LeO.ite ?_ ?_
      | refine LeO.bind ?_ (fun _ => ?_)
set_option maxHeartbeats 8000000 in
set_option maxRecDepth 100000 in
theorem spec_l4Response.calls (k : Nat) (A0 : Option Addr) (c0 : Nat) (l0 : List (S34)) (A1 : Option Addr) (c1 : Nat) (l1 : List Int) (a2 : Int) (r : Int) (w : World) (hr0 : Kd.C k34 w A0 l0.length l0) (hc0 : l0.length ≤ c0) (hr1 : Kd.C (Kd.int .i64) w A1 l1.length l1) (hc1 : l1.length ≤ c1) (h : spec_l4Response.f k l0 l1 a2 = some r) :
    Calls Try.prog 55 #[.slice A0 l0.length c0, .slice A1 l1.length c1, .int .i64 a2] w fun e w' => e = .returned (.int .i64 r) ∧ Below w.heap.size w w' := by
  (have hu34 := Try.underlying34); (have HR0 := Aside0.mk hr0); (have HC0 := Aside0.mk hc0); clear hr0 hc0; (have HR1 := Aside0.mk hr1); (have HC1 := Aside0.mk hc1); clear hr1 hc1; (have HB := Aside0.mk (Below.refl w.heap.size w)); (have H : (if 0 ≤ a2 then (if a2 < (l0.length : Int) then (spec_l4Response.l0 k l0 l1 a2 ((rd_T34 l0 a2).f0)) else (none)) else (none)) = some r := h); clear h; (by_cases c4 : 0 ≤ a2)
  · (rw [if_pos c4] at H); (have c4b0 : decide (0 ≤ a2) = true := decide_eq_true c4); clear c4; (by_cases c5 : a2 < (l0.length : Int))
    · (rw [if_pos c5] at H); (have c5b0 : decide (a2 < (l0.length : Int)) = true := decide_eq_true c5); clear c5; (have H' := Aside0.mk H); clear H; (have p101 : 0 ≤ (a2 : Int) := of_decide_eq_true (by first | (with_reducible assumption) | assumption)); (have q101 : a2 < (l0.length : Int) := of_decide_eq_true (by first | (with_reducible assumption) | assumption)); (obtain ⟨ad101, e101, hx101_0, hx101_1, hx101_2⟩ := at_T34 HR0.out a2 p101 q101); (cases e101); (replace p101 := eq_true p101); (replace q101 := eq_true q101); (go_enter Try.func55, Try.ntmps55); (go_wp2); (repeat (go_quiet (fail); try go_wp2)); (go_loopg [7] k (fun kq v7 w' => ∃ (x7_1 : Int), v7 = .int .i64 x7_1 ∧ Aside0 (spec_l4Response.l0 kq l0 l1 a2 x7_1 = some r) ∧ Aside0 (kq ≤ k) ∧ Aside0 (Below w.heap.size w w')))
      case atStart => exact ⟨((rd_T34 l0 a2).f0), (by first | rfl | (simp; done) | (simp [*]; done)), H', ⟨Nat.le_refl _⟩, ⟨bm HB.out⟩⟩
      case round =>
        clear H'; (try clear c1); (try clear p1); (try clear q1); (try clear hx1); (try clear p2); (try clear c4); (try clear c4b0); (try clear c5); (try clear c5b0); (try clear hx101_0); (try clear hx101_1); (try clear hx101_2); (try clear p101); (try clear q101); (obtain ⟨x7_1, rfl, HA, HK1, HB⟩ := hrel)
        cases gk with
        | zero => exact absurd HA.out (by simp [spec_l4Response.l0])
        | succ k1 =>
          (have H := HA.out); clear HA; (simp only [spec_l4Response.l0] at H); (by_cases c6 : 0 ≤ a2)
          · (rw [if_pos c6] at H); (have c6b0 : decide (0 ≤ a2) = true := decide_eq_true c6); clear c6; (by_cases c7 : a2 < (l0.length : Int))
            · (rw [if_pos c7] at H); (have c7b0 : decide (a2 < (l0.length : Int)) = true := decide_eq_true c7); clear c7; (by_cases c8 : x7_1 ≤ ((rd_T34 l0 a2).f1))
              · (rw [if_pos c8] at H); (have c8b0 : decide (x7_1 ≤ ((rd_T34 l0 a2).f1)) = true := decide_eq_true c8); clear c8; (have H' := Aside0.mk H); clear H; (have p102 : 0 ≤ (a2 : Int) := of_decide_eq_true (by first | (with_reducible assumption) | assumption)); (have q102 : a2 < (l0.length : Int) := of_decide_eq_true (by first | (with_reducible assumption) | assumption)); (obtain ⟨ad102, e102, hx102_0, hx102_1, hx102_2⟩ := at_T34 HR0.out a2 p102 q102); (obtain rfl : ad101 = ad102 := (by injection e102)); (replace hx102_0 := (HB.out.cell (World.block_lt_of_cell? w _ hx102_0)).trans hx102_0); (replace hx102_1 := (HB.out.cell (World.block_lt_of_cell? w _ hx102_1)).trans hx102_1); (replace hx102_2 := (HB.out.cell (World.block_lt_of_cell? w _ hx102_2)).trans hx102_2); (replace p102 := eq_true p102); (replace q102 := eq_true q102); (have p103 : 0 ≤ (a2 : Int) := of_decide_eq_true (by first | (with_reducible assumption) | assumption)); (have q103 : a2 < (l0.length : Int) := of_decide_eq_true (by first | (with_reducible assumption) | assumption)); (obtain ⟨ad103, e103, hx103_0, hx103_1, hx103_2⟩ := at_T34 HR0.out a2 p103 q103); (obtain rfl : ad101 = ad103 := (by injection e103)); (replace hx103_0 := (HB.out.cell (World.block_lt_of_cell? w _ hx103_0)).trans hx103_0); (replace hx103_1 := (HB.out.cell (World.block_lt_of_cell? w _ hx103_1)).trans hx103_1); (replace hx103_2 := (HB.out.cell (World.block_lt_of_cell? w _ hx103_2)).trans hx103_2); (replace p103 := eq_true p103); (replace q103 := eq_true q103); (go_wp2); (repeat (go_quiet (fail); try go_wp2)); (go_loopg [8, 9] k1 (fun kq v8 v9 w' => ∃ (x8_2 : Int) (x9_2 : Int), v8 = .int .i64 x8_2 ∧ v9 = .int .i64 x9_2 ∧ Aside0 (spec_l4Response.l1 kq l0 l1 a2 x7_1 x8_2 x9_2 = some r) ∧ Aside0 (kq ≤ k1) ∧ Aside0 (Below w.heap.size w w')))
                case atStart => exact ⟨((rd_T34 l0 a2).f0), (0), (by first | rfl | (simp; done) | (simp [*]; done)), (by first | rfl | (simp; done) | (simp [*]; done)), H', ⟨Nat.le_refl _⟩, ⟨bm HB.out⟩⟩
                case round =>
                  clear H'; (try clear c1); (try clear p1); (try clear q1); (try clear hx1); (try clear p2); (try clear c4); (try clear c4b0); (try clear c5); (try clear c5b0); (try clear c6); (try clear c6b0); (try clear c7); (try clear c7b0); (try clear c8); (try clear c8b0); (try clear hx101_0); (try clear hx101_1); (try clear hx101_2); (try clear hx102_0); (try clear hx102_1); (try clear hx102_2); (try clear hx103_0); (try clear hx103_1); (try clear hx103_2); (try clear p1); (try clear p101); (try clear p102); (try clear p103); (try clear p2); (try clear q1); (try clear q101); (try clear q102); (try clear q103); (obtain ⟨x8_2, x9_2, rfl, rfl, HA, HK2, HB⟩ := hrel)
                  cases gk with
                  | zero => exact absurd HA.out (by simp [spec_l4Response.l1])
                  | succ k2 =>
                    (have H := HA.out); clear HA; (simp only [spec_l4Response.l1] at H); (by_cases c9 : x9_2 < (l1.length : Int))
                    · (rw [if_pos c9] at H); (have c9b0 : decide (x9_2 < (l1.length : Int)) = true := decide_eq_true c9); clear c9; (by_cases c10 : 0 ≤ x9_2)
                      · (rw [if_pos c10] at H); (have c10b0 : decide (0 ≤ x9_2) = true := decide_eq_true c10); clear c10; (by_cases c11 : 0 ≤ (rd l1 x9_2))
                        · (rw [if_pos c11] at H); (have c11b0 : decide (0 ≤ (rd l1 x9_2)) = true := decide_eq_true c11); clear c11; (by_cases c12 : (rd l1 x9_2) < (l0.length : Int))
                          · ((rw [if_pos c12] at H); (have c12b0 : decide ((rd l1 x9_2) < (l0.length : Int)) = true := decide_eq_true c12); clear c12; (by_cases c13 : ((rd_T34 l0 (rd l1 x9_2)).f2) = 0)); (· (rw [if_pos c13] at H); (exact absurd H (by simp)))
                            · (rw [if_neg c13] at H); (have c13b0 : (((rd_T34 l0 (rd l1 x9_2)).f2) == 0) = false := beq_eq_false_iff_ne.mpr c13); (have c13b1 : (((rd_T34 l0 (rd l1 x9_2)).f2) != 0) = true := bne_iff_ne.mpr c13); (have H' := Aside0.mk H); clear H; (have p104 : 0 ≤ (x9_2 : Int) := of_decide_eq_true (by first | (with_reducible assumption) | assumption)); (have q104 : x9_2 < (l1.length : Int) := of_decide_eq_true (by first | (with_reducible assumption) | assumption)); (obtain ⟨ad104, e104, hx104_0⟩ := Kd.at_int HR1.out x9_2 p104 q104); (cases e104); (replace hx104_0 := (HB.out.cell (World.block_lt_of_cell? w _ hx104_0)).trans hx104_0); (replace p104 := eq_true p104); (replace q104 := eq_true q104); (have p105 : 0 ≤ ((rd l1 x9_2) : Int) := of_decide_eq_true (by first | (with_reducible assumption) | assumption)); (have q105 : (rd l1 x9_2) < (l0.length : Int) := of_decide_eq_true (by first | (with_reducible assumption) | assumption)); (obtain ⟨ad105, e105, hx105_0, hx105_1, hx105_2⟩ := at_T34 HR0.out (rd l1 x9_2) p105 q105); (obtain rfl : ad101 = ad105 := (by injection e105)); (replace hx105_0 := (HB.out.cell (World.block_lt_of_cell? w _ hx105_0)).trans hx105_0); (replace hx105_1 := (HB.out.cell (World.block_lt_of_cell? w _ hx105_1)).trans hx105_1); (replace hx105_2 := (HB.out.cell (World.block_lt_of_cell? w _ hx105_2)).trans hx105_2); (replace p105 := eq_true p105); (replace q105 := eq_true q105); (go_wp2_with (first | ((with_reducible refine gate_dst (N := 10) rfl ?_); refine box_event ?hg (N := 10) ?hd (cs := #[.int .i64 0, .int .i64 0, .int .i64 0]) (t := 34) ?hr ?_; (case hd => rfl); (case hg => rfl); (case hr => first | (go_simp; done) | (go_simp; rfl)); intro gb106 hg w14 hbox hb; have n0_ := Aside0.mk (below_step (bm HB.out) hb); have n1_ := Aside0.mk (hbox); have n2_ := Aside0.mk ((by rw [hg]; exact (below_size (bm HB.out)) : w.heap.size ≤ gb106)); have n3_ := Aside0.mk ((by rw [hg]; exact (below_size (bm HB.out)) : w.heap.size ≤ gb106)); clear HB; have HB := n0_; have BK106 := n1_; have GW106 := n2_; have GE106 := n3_; clear n0_ n1_ n2_ n3_; clear hb hbox hg; have hcz15_0 : w14.cell? ⟨gb106, 0, none⟩ = some (.int .i64 0) := (blk_cell BK106.out 0).trans rfl; have hcz15_1 : w14.cell? ⟨gb106, 1, none⟩ = some (.int .i64 0) := (blk_cell BK106.out 1).trans rfl; have hcz15_2 : w14.cell? ⟨gb106, 2, none⟩ = some (.int .i64 0) := (blk_cell BK106.out 2).trans rfl; have hfz15_0 := blk_frozen BK106.out 0; have hfz15_1 := blk_frozen BK106.out 1; have hfz15_2 := blk_frozen BK106.out 2))); (repeat (go_quiet (first | ((with_reducible refine gate_dst (N := 10) rfl ?_); refine box_event ?hg (N := 10) ?hd (cs := #[.int .i64 0, .int .i64 0, .int .i64 0]) (t := 34) ?hr ?_; (case hd => rfl); (case hg => rfl); (case hr => first | (go_simp; done) | (go_simp; rfl)); intro gb106 hg w14 hbox hb; have n0_ := Aside0.mk (below_step (bm HB.out) hb); have n1_ := Aside0.mk (hbox); have n2_ := Aside0.mk ((by rw [hg]; exact (below_size (bm HB.out)) : w.heap.size ≤ gb106)); have n3_ := Aside0.mk ((by rw [hg]; exact (below_size (bm HB.out)) : w.heap.size ≤ gb106)); clear HB; have HB := n0_; have BK106 := n1_; have GW106 := n2_; have GE106 := n3_; clear n0_ n1_ n2_ n3_; clear hb hbox hg; have hcz15_0 : w14.cell? ⟨gb106, 0, none⟩ = some (.int .i64 0) := (blk_cell BK106.out 0).trans rfl; have hcz15_1 : w14.cell? ⟨gb106, 1, none⟩ = some (.int .i64 0) := (blk_cell BK106.out 1).trans rfl; have hcz15_2 : w14.cell? ⟨gb106, 2, none⟩ = some (.int .i64 0) := (blk_cell BK106.out 2).trans rfl; have hfz15_0 := blk_frozen BK106.out 0; have hfz15_1 := blk_frozen BK106.out 1; have hfz15_2 := blk_frozen BK106.out 2)); try go_wp2_with (first | ((with_reducible refine gate_dst (N := 10) rfl ?_); refine box_event ?hg (N := 10) ?hd (cs := #[.int .i64 0, .int .i64 0, .int .i64 0]) (t := 34) ?hr ?_; (case hd => rfl); (case hg => rfl); (case hr => first | (go_simp; done) | (go_simp; rfl)); intro gb106 hg w14 hbox hb; have n0_ := Aside0.mk (below_step (bm HB.out) hb); have n1_ := Aside0.mk (hbox); have n2_ := Aside0.mk ((by rw [hg]; exact (below_size (bm HB.out)) : w.heap.size ≤ gb106)); have n3_ := Aside0.mk ((by rw [hg]; exact (below_size (bm HB.out)) : w.heap.size ≤ gb106)); clear HB; have HB := n0_; have BK106 := n1_; have GW106 := n2_; have GE106 := n3_; clear n0_ n1_ n2_ n3_; clear hb hbox hg; have hcz15_0 : w14.cell? ⟨gb106, 0, none⟩ = some (.int .i64 0) := (blk_cell BK106.out 0).trans rfl; have hcz15_1 : w14.cell? ⟨gb106, 1, none⟩ = some (.int .i64 0) := (blk_cell BK106.out 1).trans rfl; have hcz15_2 : w14.cell? ⟨gb106, 2, none⟩ = some (.int .i64 0) := (blk_cell BK106.out 2).trans rfl; have hfz15_0 := blk_frozen BK106.out 0; have hfz15_1 := blk_frozen BK106.out 1; have hfz15_2 := blk_frozen BK106.out 2)))); (go_roundg k2)
                              case measure => have := HK1.out; have := HK2.out; omega
                              case rel => exact ⟨(wrap64 (x8_2 + (wrap64 ((wrap64 (Int.tdiv (wrap64 ((wrap64 (x7_1 + ((rd_T34 l0 (rd l1 x9_2)).f2))) - 1)) ((rd_T34 l0 (rd l1 x9_2)).f2))) * ((rd_T34 l0 (rd l1 x9_2)).f0))))), (wrap64 (x9_2 + 1)), (by first | rfl | (simp; done) | (simp [*]; done)), (by first | rfl | (simp; done) | (simp [*]; done)), H', ⟨by have := HK1.out; have := HK2.out; omega⟩, ⟨bs HB.out GE106.out GE106.out GE106.out⟩⟩
                          · (rw [if_neg c12] at H); (exact absurd H (by simp))
                        · (rw [if_neg c11] at H); (exact absurd H (by simp))
                      · (rw [if_neg c10] at H); (exact absurd H (by simp))
                    · ((rw [if_neg c9] at H); (have c9b0 : decide (x9_2 < (l1.length : Int)) = false := decide_eq_false c9); clear c9; (by_cases c16 : x8_2 = x7_1)); (· (rw [if_pos c16] at H); (have c16b0 : (x8_2 == x7_1) = true := beq_iff_eq.mpr c16); (have c16b1 : (x8_2 != x7_1) = false := bne_eq_false_iff_eq.mpr c16); clear c16; (obtain rfl := Option.some.inj H); (go_wp2); (repeat (go_quiet (fail); try go_wp2)); (go_ret); (exact ⟨by first | rfl | (simp [errW_none, errW_some] <;> rfl) | (simp [*, errW_none, errW_some] <;> rfl), bm HB.out⟩))
                      · (rw [if_neg c16] at H); (have c16b0 : (x8_2 == x7_1) = false := beq_eq_false_iff_ne.mpr c16); (have c16b1 : (x8_2 != x7_1) = true := bne_iff_ne.mpr c16); (have H' := Aside0.mk H); clear H; (go_wp2); (repeat (go_quiet (fail); try go_wp2)); (go_roundg k2)
                        case measure => have := HK1.out; have := HK2.out; omega
                        case rel => exact ⟨(x8_2), (by first | rfl | (simp; done) | (simp [*]; done)), H', ⟨by have := HK1.out; have := HK2.out; omega⟩, ⟨bm HB.out⟩⟩
              · (rw [if_neg c8] at H); (have c8b0 : decide (x7_1 ≤ ((rd_T34 l0 a2).f1)) = false := decide_eq_false c8); clear c8; (obtain rfl := Option.some.inj H); (have p102 : 0 ≤ (a2 : Int) := of_decide_eq_true (by first | (with_reducible assumption) | assumption)); (have q102 : a2 < (l0.length : Int) := of_decide_eq_true (by first | (with_reducible assumption) | assumption)); (obtain ⟨ad102, e102, hx102_0, hx102_1, hx102_2⟩ := at_T34 HR0.out a2 p102 q102); (obtain rfl : ad101 = ad102 := (by injection e102)); (replace hx102_0 := (HB.out.cell (World.block_lt_of_cell? w _ hx102_0)).trans hx102_0); (replace hx102_1 := (HB.out.cell (World.block_lt_of_cell? w _ hx102_1)).trans hx102_1); (replace hx102_2 := (HB.out.cell (World.block_lt_of_cell? w _ hx102_2)).trans hx102_2); (replace p102 := eq_true p102); (replace q102 := eq_true q102); (go_wp2); (repeat (go_quiet (fail); try go_wp2)); (go_ret); (exact ⟨by first | rfl | (simp [errW_none, errW_some] <;> rfl) | (simp [*, errW_none, errW_some] <;> rfl), bm HB.out⟩)
            · (rw [if_neg c7] at H); (exact absurd H (by simp))
          · (rw [if_neg c6] at H); (exact absurd H (by simp))
    · (rw [if_neg c5] at H); (exact absurd H (by simp))
  · (rw [if_neg c4] at H); (exact absurd H (by simp))

end Go.Proofs.Ytncombcckeeecaa.Q
