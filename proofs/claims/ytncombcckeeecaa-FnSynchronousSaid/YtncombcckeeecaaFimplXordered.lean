-- written by mp.py, a program of this session's, out of the kit's print program and the translation
import Derived.Test.YtncombcckeeecaaF0
import Derived.Test.YtncombcckeeecaaFA
namespace Go.Proofs.Ytncombcckeeecaa.Q
open Go.RowKit Go.Proofs.YtncombcckeeecaaW.PrintWords Go.Proofs.YtncombcckeeecaaW.PrintLast Go.Proofs.YtncombcckeeecaaW.PrintMore
attribute [local go_sem] max2_int min2_int max_two min_two max_three min_three max_four min_four   -- for this text's walks alone
set_option linter.unusedVariables false
set_option linter.unusedSimpArgs false

/-! ### impl_ordered: function 69 -/
mutual
def impl_ordered.l0 (M : Int → Option Int) : Nat → List (S44) → Int → List (S44) → Int → Int → Option (Bool)
  | 0, _, _, _, _, _ => none
  | k + 1, x0, x1, x9, x10, x11 => if x11 < x10 then (if 0 ≤ x11 then (if x11 < (x9.length : Int) then ((impl_in.f ((rd_T44 x9 x11).f0) 0 (wrap64 (x1 - 1))).bind fun t103 => (if t103 = true then ((impl_in.f ((rd_T44 x9 x11).f1) 0 119).bind fun t104 => (if t104 = true then ((M ((rd_T44 x9 x11).f0)).bind fun t105 => ((impl_in.f ((rd_T44 x9 x11).f3) 1 t105).bind fun t106 => (impl_ordered.j1 M k x0 x1 x11 x9 x10 x11 (!t106) ((rd_T44 x9 x11).f0) ((rd_T44 x9 x11).f1) ((rd_T44 x9 x11).f2) ((rd_T44 x9 x11).f3)))) else (impl_ordered.j1 M k x0 x1 x11 x9 x10 x11 true ((rd_T44 x9 x11).f0) ((rd_T44 x9 x11).f1) ((rd_T44 x9 x11).f2) ((rd_T44 x9 x11).f3)))) else (impl_ordered.j1 M k x0 x1 x11 x9 x10 x11 true ((rd_T44 x9 x11).f0) ((rd_T44 x9 x11).f1) ((rd_T44 x9 x11).f2) ((rd_T44 x9 x11).f3)))) else (none)) else (none)) else (some (decide ((x0.length : Int) ≤ 60)))
def impl_ordered.j1 (M : Int → Option Int) : Nat → List (S44) → Int → Int → List (S44) → Int → Int → Bool → Int → Int → Int → Int → Option (Bool)
  | 0, _, _, _, _, _, _, _, _, _, _, _ => none
  | k + 1, x0, x1, x7, x9, x10, x11, x37, x103000, x103001, x103002, x103003 => if x37 = true then (some false) else (if x7 > 0 then (if 0 ≤ (wrap64 (x7 - 1)) then (if (wrap64 (x7 - 1)) < (x0.length : Int) then (if ((rd_T44 x0 (wrap64 (x7 - 1))).f1) > x103001 then (some false) else (if ((rd_T44 x0 (wrap64 (x7 - 1))).f1) = x103001 then (if ((rd_T44 x0 (wrap64 (x7 - 1))).f0) ≥ x103000 then (some false) else (impl_ordered.l0 M k x0 x1 x9 x10 (wrap64 (x11 + 1)))) else (impl_ordered.l0 M k x0 x1 x9 x10 (wrap64 (x11 + 1))))) else (none)) else (none)) else (impl_ordered.l0 M k x0 x1 x9 x10 (wrap64 (x11 + 1))))
end
def impl_ordered.f (M : Int → Option Int) (k : Nat) (l0 : List (S44)) (a1 : Int) (a2 : Int) : Option (Bool) := impl_ordered.l0 M k l0 a1 l0 (l0.length : Int) 0
theorem impl_ordered.mono_l (M : Int → Option Int) : ∀ k, (∀ y0 y1 y2 y3 y4, LeO (impl_ordered.l0 M k y0 y1 y2 y3 y4) (impl_ordered.l0 M (k + 1) y0 y1 y2 y3 y4)) ∧ (∀ y0 y1 y2 y3 y4 y5 y6 y7 y8 y9 y10, LeO (impl_ordered.j1 M k y0 y1 y2 y3 y4 y5 y6 y7 y8 y9 y10) (impl_ordered.j1 M (k + 1) y0 y1 y2 y3 y4 y5 y6 y7 y8 y9 y10))
  | 0 => ⟨fun _ _ _ _ _ r h => by simp [impl_ordered.l0] at h, fun _ _ _ _ _ _ _ _ _ _ _ r h => by simp [impl_ordered.j1] at h⟩
  | k + 1 => by
    obtain ⟨ih0, ih1⟩ := impl_ordered.mono_l M k
    refine ⟨?_, ?_⟩
    · intro y0 y1 y2 y3 y4
      unfold impl_ordered.l0
      repeat' first
      | (with_reducible exact ih0 _ _ _ _ _)
      | (with_reducible exact ih1 _ _ _ _ _ _ _ _ _ _ _)
      | (with_reducible exact LeO.refl _)
      | (with_reducible exact LeO.none _)
      | (with_reducible refine LeO.ite ?_ ?_)
      | (with_reducible refine LeO.bind ?_ (fun _ => ?_))
      | exact ih0 _ _ _ _ _
      | exact ih1 _ _ _ _ _ _ _ _ _ _ _
      | exact LeO.none _
      | refine LeO.ite ?_ ?_
      | refine LeO.bind ?_ (fun _ => ?_)
    · intro y0 y1 y2 y3 y4 y5 y6 y7 y8 y9 y10
      unfold impl_ordered.j1
      repeat' first
      | (with_reducible exact ih0 _ _ _ _ _)
      | (with_reducible exact ih1 _ _ _ _ _ _ _ _ _ _ _)
      | (with_reducible exact LeO.refl _)
      | (with_reducible exact LeO.none _)
      | (with_reducible refine LeO.ite ?_ ?_)
      | (with_reducible refine LeO.bind ?_ (fun _ => ?_))
      | exact ih0 _ _ _ _ _
      | exact ih1 _ _ _ _ _ _ _ _ _ _ _
      | exact LeO.none _
      | refine LeO.ite ?_ ?_
      | refine LeO.bind ?_ (fun _ => ?_)
theorem impl_ordered.mono (M : Int → Option Int) : ∀ a0 a1 a2 k, LeO (impl_ordered.f M k a0 a1 a2) (impl_ordered.f M (k + 1) a0 a1 a2) := by
  intro a0 a1 a2 k
  obtain ⟨ih0, ih1⟩ := impl_ordered.mono_l M k
  unfold impl_ordered.f
  repeat' first
      | (with_reducible exact ih0 _ _ _ _ _)
      | (with_reducible exact ih1 _ _ _ _ _ _ _ _ _ _ _)
      | (with_reducible exact LeO.refl _)
      | (with_reducible exact LeO.none _)
      | (with_reducible refine LeO.ite ?_ ?_)
      | (with_reducible refine LeO.bind ?_ (fun _ => ?_))
      | exact ih0 _ _ _ _ _
      | exact ih1 _ _ _ _ _ _ _ _ _ _ _
      | exact LeO.none _
      | refine LeO.ite ?_ ?_
      | refine LeO.bind ?_ (fun _ => ?_)
set_option maxHeartbeats 8000000 in
set_option maxRecDepth 100000 in
theorem impl_ordered.calls (M : Int → Option Int) (GM : Nat) (hGM : Enters Try.prog GM) (lbM : Array Value) (k : Nat) (A0 : Option Addr) (c0 : Nat) (l0 : List (S44)) (a1 : Int) (a2 : Int) (r : Bool) (w : World) (hr0 : Kd.C k44 w A0 l0.length l0) (hc0 : l0.length ≤ c0) (hM : ∀ (W : World) (t r : Int), impl_in.f t 0 (wrap64 (a1 - 1)) = some true → Below w.heap.size w W → M t = some r → Calls Try.prog GM (#[.int .i64 t] ++ lbM) W fun e w' => e = .returned (.int .i64 r) ∧ ∃ nd, w' = W.drewN nd) (h : impl_ordered.f M k l0 a1 a2 = some r) :
    Calls Try.prog 69 #[.slice A0 l0.length c0, .int .i64 a1, .func (.func GM) #[] lbM] w fun e w' => e = .returned (.bool r) ∧ Below w.heap.size w w' := by
  have eGM := hGM
  unfold Enters at eGM
  have HM_ := Aside0.mk hM
  clear hGM hM
  have hu44 := Try.underlying44
  have HR0 := Aside0.mk hr0
  have HC0 := Aside0.mk hc0
  clear hr0 hc0
  have HB := Aside0.mk (Below.refl w.heap.size w)
  have H : (impl_ordered.l0 M k l0 a1 l0 (l0.length : Int) 0) = some r := h
  clear h
  have H' := Aside0.mk H
  clear H
  go_enter Try.func69, Try.ntmps69
  go_wp2
  repeat (go_quiet (fail); try go_wp2)
  go_loopg [11] k (fun kq v11 w' => ∃ (x11_1 : Int), v11 = .int .i64 x11_1 ∧ Aside0 (impl_ordered.l0 M kq l0 a1 l0 (l0.length : Int) x11_1 = some r) ∧ Aside0 (kq ≤ k) ∧ Aside0 (Below w.heap.size w w'))
  case atStart => exact ⟨(0), (by first | rfl | (simp; done) | (simp [*]; done)), H', ⟨Nat.le_refl _⟩, ⟨by repeat (first | (with_reducible first | exact HB.out | apply below_alloc | apply pw_below_drewN | apply below_drew1) | exact HB.out)⟩⟩
  case round =>
    clear H'
    try clear p2
    obtain ⟨x11_1, rfl, HA, HK1, HB⟩ := hrel
    cases gk with
    | zero => exact absurd HA.out (by simp [impl_ordered.l0])
    | succ k1 =>
      have H := HA.out
      clear HA
      simp only [impl_ordered.l0] at H
      by_cases c4 : x11_1 < (l0.length : Int)
      · rw [if_pos c4] at H
        have c4b0 : decide (x11_1 < (l0.length : Int)) = true := decide_eq_true c4
        clear c4
        by_cases c5 : 0 ≤ x11_1
        · rw [if_pos c5] at H
          have c5b0 : decide (0 ≤ x11_1) = true := decide_eq_true c5
          clear c5
          by_cases c6 : x11_1 < (l0.length : Int)
          · rw [if_pos c6] at H
            have c6b0 : decide (x11_1 < (l0.length : Int)) = true := decide_eq_true c6
            clear c6
            have HC7 := Aside0.mk H
            clear H
            have p101 : 0 ≤ (x11_1 : Int) := of_decide_eq_true (by first | (with_reducible assumption) | assumption)
            have q101 : x11_1 < (l0.length : Int) := of_decide_eq_true (by first | (with_reducible assumption) | assumption)
            obtain ⟨ad101, e101, hx101_0, hx101_1, hx101_2, hx101_3⟩ := at_T44 HR0.out x11_1 p101 q101
            cases e101
            replace hx101_0 := (HB.out.cell (World.block_lt_of_cell? w _ hx101_0)).trans hx101_0
            replace hx101_1 := (HB.out.cell (World.block_lt_of_cell? w _ hx101_1)).trans hx101_1
            replace hx101_2 := (HB.out.cell (World.block_lt_of_cell? w _ hx101_2)).trans hx101_2
            replace hx101_3 := (HB.out.cell (World.block_lt_of_cell? w _ hx101_3)).trans hx101_3
            replace p101 := eq_true p101
            replace q101 := eq_true q101
            go_upto_region 4 with (first | ((with_reducible refine gate_dst (N := 8) rfl ?_); refine box_event ?hg (N := 8) ?hd (cs := #[.int .i64 0, .int .i64 0, .int .i64 0, .int .i64 0]) (t := 44) ?hr ?_; (case hd => rfl); (case hg => rfl); (case hr => first | (go_simp; done) | (go_simp; rfl)); intro gb102 hg w8 hbox hb; have n0_ := Aside0.mk (below_step (by repeat (first | (with_reducible first | exact HB.out | apply below_alloc | apply pw_below_drewN | apply below_drew1) | exact HB.out)) hb); have n1_ := Aside0.mk (hbox); have n2_ := Aside0.mk ((by rw [hg]; exact (below_size (by repeat (first | (with_reducible first | exact HB.out | apply below_alloc | apply pw_below_drewN | apply below_drew1) | exact HB.out))) : w.heap.size ≤ gb102)); have n3_ := Aside0.mk ((by rw [hg]; exact (below_size (by repeat (first | (with_reducible first | exact HB.out | apply below_alloc | apply pw_below_drewN | apply below_drew1) | exact HB.out))) : w.heap.size ≤ gb102)); clear HB; have HB := n0_; have BK102 := n1_; have GW102 := n2_; have GE102 := n3_; clear n0_ n1_ n2_ n3_; clear hb hbox hg; have hcz9_0 : w8.cell? ⟨gb102, 0, none⟩ = some (.int .i64 0) := (blk_cell BK102.out 0).trans rfl; have hcz9_1 : w8.cell? ⟨gb102, 1, none⟩ = some (.int .i64 0) := (blk_cell BK102.out 1).trans rfl; have hcz9_2 : w8.cell? ⟨gb102, 2, none⟩ = some (.int .i64 0) := (blk_cell BK102.out 2).trans rfl; have hcz9_3 : w8.cell? ⟨gb102, 3, none⟩ = some (.int .i64 0) := (blk_cell BK102.out 3).trans rfl; have hfz9_0 := blk_frozen BK102.out 0; have hfz9_1 := blk_frozen BK102.out 1; have hfz9_2 := blk_frozen BK102.out 2; have hfz9_3 := blk_frozen BK102.out 3))
            repeat (go_quiet (first | ((with_reducible refine gate_dst (N := 8) rfl ?_); refine box_event ?hg (N := 8) ?hd (cs := #[.int .i64 0, .int .i64 0, .int .i64 0, .int .i64 0]) (t := 44) ?hr ?_; (case hd => rfl); (case hg => rfl); (case hr => first | (go_simp; done) | (go_simp; rfl)); intro gb102 hg w8 hbox hb; have n0_ := Aside0.mk (below_step (by repeat (first | (with_reducible first | exact HB.out | apply below_alloc | apply pw_below_drewN | apply below_drew1) | exact HB.out)) hb); have n1_ := Aside0.mk (hbox); have n2_ := Aside0.mk ((by rw [hg]; exact (below_size (by repeat (first | (with_reducible first | exact HB.out | apply below_alloc | apply pw_below_drewN | apply below_drew1) | exact HB.out))) : w.heap.size ≤ gb102)); have n3_ := Aside0.mk ((by rw [hg]; exact (below_size (by repeat (first | (with_reducible first | exact HB.out | apply below_alloc | apply pw_below_drewN | apply below_drew1) | exact HB.out))) : w.heap.size ≤ gb102)); clear HB; have HB := n0_; have BK102 := n1_; have GW102 := n2_; have GE102 := n3_; clear n0_ n1_ n2_ n3_; clear hb hbox hg; have hcz9_0 : w8.cell? ⟨gb102, 0, none⟩ = some (.int .i64 0) := (blk_cell BK102.out 0).trans rfl; have hcz9_1 : w8.cell? ⟨gb102, 1, none⟩ = some (.int .i64 0) := (blk_cell BK102.out 1).trans rfl; have hcz9_2 : w8.cell? ⟨gb102, 2, none⟩ = some (.int .i64 0) := (blk_cell BK102.out 2).trans rfl; have hcz9_3 : w8.cell? ⟨gb102, 3, none⟩ = some (.int .i64 0) := (blk_cell BK102.out 3).trans rfl; have hfz9_0 := blk_frozen BK102.out 0; have hfz9_1 := blk_frozen BK102.out 1; have hfz9_2 := blk_frozen BK102.out 2; have hfz9_3 := blk_frozen BK102.out 3)); go_upto_region 4 with (first | ((with_reducible refine gate_dst (N := 8) rfl ?_); refine box_event ?hg (N := 8) ?hd (cs := #[.int .i64 0, .int .i64 0, .int .i64 0, .int .i64 0]) (t := 44) ?hr ?_; (case hd => rfl); (case hg => rfl); (case hr => first | (go_simp; done) | (go_simp; rfl)); intro gb102 hg w8 hbox hb; have n0_ := Aside0.mk (below_step (by repeat (first | (with_reducible first | exact HB.out | apply below_alloc | apply pw_below_drewN | apply below_drew1) | exact HB.out)) hb); have n1_ := Aside0.mk (hbox); have n2_ := Aside0.mk ((by rw [hg]; exact (below_size (by repeat (first | (with_reducible first | exact HB.out | apply below_alloc | apply pw_below_drewN | apply below_drew1) | exact HB.out))) : w.heap.size ≤ gb102)); have n3_ := Aside0.mk ((by rw [hg]; exact (below_size (by repeat (first | (with_reducible first | exact HB.out | apply below_alloc | apply pw_below_drewN | apply below_drew1) | exact HB.out))) : w.heap.size ≤ gb102)); clear HB; have HB := n0_; have BK102 := n1_; have GW102 := n2_; have GE102 := n3_; clear n0_ n1_ n2_ n3_; clear hb hbox hg; have hcz9_0 : w8.cell? ⟨gb102, 0, none⟩ = some (.int .i64 0) := (blk_cell BK102.out 0).trans rfl; have hcz9_1 : w8.cell? ⟨gb102, 1, none⟩ = some (.int .i64 0) := (blk_cell BK102.out 1).trans rfl; have hcz9_2 : w8.cell? ⟨gb102, 2, none⟩ = some (.int .i64 0) := (blk_cell BK102.out 2).trans rfl; have hcz9_3 : w8.cell? ⟨gb102, 3, none⟩ = some (.int .i64 0) := (blk_cell BK102.out 3).trans rfl; have hfz9_0 := blk_frozen BK102.out 0; have hfz9_1 := blk_frozen BK102.out 1; have hfz9_2 := blk_frozen BK102.out 2; have hfz9_3 := blk_frozen BK102.out 3)))
            (try simp only [Act.put, List.setIfInBounds_toArray, List.set_cons_zero, List.set_cons_succ])
            go_cut [37] (fun v37 wc => ∃ (kq : Nat) (x37_6 : Bool), v37 = .bool x37_6 ∧ Aside0 (impl_ordered.j1 M kq l0 a1 x11_1 l0 (l0.length : Int) x11_1 x37_6 ((rd_T44 l0 x11_1).f0) ((rd_T44 l0 x11_1).f1) ((rd_T44 l0 x11_1).f2) ((rd_T44 l0 x11_1).f3) = some r) ∧ Aside0 (kq ≤ k1) ∧ Aside0 (wc.heap[gb102]? = some (.cells #[.int .i64 ((rd_T44 l0 x11_1).f0), .int .i64 ((rd_T44 l0 x11_1).f1), .int .i64 ((rd_T44 l0 x11_1).f2), .int .i64 ((rd_T44 l0 x11_1).f3)] 44 (0, 0))) ∧ Aside0 (Below w.heap.size w wc))
            case first =>
              have H := HC7.out
              clear HC7
              replace H := Option.bind_eq_some_iff.mp H
              obtain ⟨t103, A100, H⟩ := H
              replace H : (if t103 = true then ((impl_in.f ((rd_T44 l0 x11_1).f1) 0 119).bind fun t104 => (if t104 = true then ((M ((rd_T44 l0 x11_1).f0)).bind fun t105 => ((impl_in.f ((rd_T44 l0 x11_1).f3) 1 t105).bind fun t106 => (impl_ordered.j1 M k1 l0 a1 x11_1 l0 (l0.length : Int) x11_1 (!t106) ((rd_T44 l0 x11_1).f0) ((rd_T44 l0 x11_1).f1) ((rd_T44 l0 x11_1).f2) ((rd_T44 l0 x11_1).f3)))) else (impl_ordered.j1 M k1 l0 a1 x11_1 l0 (l0.length : Int) x11_1 true ((rd_T44 l0 x11_1).f0) ((rd_T44 l0 x11_1).f1) ((rd_T44 l0 x11_1).f2) ((rd_T44 l0 x11_1).f3)))) else (impl_ordered.j1 M k1 l0 a1 x11_1 l0 (l0.length : Int) x11_1 true ((rd_T44 l0 x11_1).f0) ((rd_T44 l0 x11_1).f1) ((rd_T44 l0 x11_1).f2) ((rd_T44 l0 x11_1).f3))) = some r := H
              have A10 := Aside0.mk A100
              clear A100
              by_cases c11 : t103 = true
              · subst c11
                have H1 : ((impl_in.f ((rd_T44 l0 x11_1).f1) 0 119).bind fun t104 => (if t104 = true then ((M ((rd_T44 l0 x11_1).f0)).bind fun t105 => ((impl_in.f ((rd_T44 l0 x11_1).f3) 1 t105).bind fun t106 => (impl_ordered.j1 M k1 l0 a1 x11_1 l0 (l0.length : Int) x11_1 (!t106) ((rd_T44 l0 x11_1).f0) ((rd_T44 l0 x11_1).f1) ((rd_T44 l0 x11_1).f2) ((rd_T44 l0 x11_1).f3)))) else (impl_ordered.j1 M k1 l0 a1 x11_1 l0 (l0.length : Int) x11_1 true ((rd_T44 l0 x11_1).f0) ((rd_T44 l0 x11_1).f1) ((rd_T44 l0 x11_1).f2) ((rd_T44 l0 x11_1).f3)))) = some r := by rw [if_pos rfl] at H; exact H
                clear H
                have H := H1
                clear H1
                replace H := Option.bind_eq_some_iff.mp H
                obtain ⟨t104, A120, H⟩ := H
                replace H : (if t104 = true then ((M ((rd_T44 l0 x11_1).f0)).bind fun t105 => ((impl_in.f ((rd_T44 l0 x11_1).f3) 1 t105).bind fun t106 => (impl_ordered.j1 M k1 l0 a1 x11_1 l0 (l0.length : Int) x11_1 (!t106) ((rd_T44 l0 x11_1).f0) ((rd_T44 l0 x11_1).f1) ((rd_T44 l0 x11_1).f2) ((rd_T44 l0 x11_1).f3)))) else (impl_ordered.j1 M k1 l0 a1 x11_1 l0 (l0.length : Int) x11_1 true ((rd_T44 l0 x11_1).f0) ((rd_T44 l0 x11_1).f1) ((rd_T44 l0 x11_1).f2) ((rd_T44 l0 x11_1).f3))) = some r := H
                have A12 := Aside0.mk A120
                clear A120
                by_cases c13 : t104 = true
                · subst c13
                  have H1 : ((M ((rd_T44 l0 x11_1).f0)).bind fun t105 => ((impl_in.f ((rd_T44 l0 x11_1).f3) 1 t105).bind fun t106 => (impl_ordered.j1 M k1 l0 a1 x11_1 l0 (l0.length : Int) x11_1 (!t106) ((rd_T44 l0 x11_1).f0) ((rd_T44 l0 x11_1).f1) ((rd_T44 l0 x11_1).f2) ((rd_T44 l0 x11_1).f3)))) = some r := by rw [if_pos rfl] at H; exact H
                  clear H
                  have H := H1
                  clear H1
                  replace H := Option.bind_eq_some_iff.mp H
                  obtain ⟨t105, A140, H⟩ := H
                  replace H : ((impl_in.f ((rd_T44 l0 x11_1).f3) 1 t105).bind fun t106 => (impl_ordered.j1 M k1 l0 a1 x11_1 l0 (l0.length : Int) x11_1 (!t106) ((rd_T44 l0 x11_1).f0) ((rd_T44 l0 x11_1).f1) ((rd_T44 l0 x11_1).f2) ((rd_T44 l0 x11_1).f3))) = some r := H
                  have A14 := Aside0.mk A140
                  clear A140
                  replace H := Option.bind_eq_some_iff.mp H
                  obtain ⟨t106, A150, H⟩ := H
                  replace H : (impl_ordered.j1 M k1 l0 a1 x11_1 l0 (l0.length : Int) x11_1 (!t106) ((rd_T44 l0 x11_1).f0) ((rd_T44 l0 x11_1).f1) ((rd_T44 l0 x11_1).f2) ((rd_T44 l0 x11_1).f3)) = some r := H
                  have A15 := Aside0.mk A150
                  clear A150
                  have H' := Aside0.mk H
                  clear H
                  have hcz16_0 : w8.cell? ⟨gb102, 0, none⟩ = some (.int .i64 0) := (blk_cell BK102.out 0).trans rfl
                  have hcz16_1 : w8.cell? ⟨gb102, 1, none⟩ = some (.int .i64 0) := (blk_cell BK102.out 1).trans rfl
                  have hcz16_2 : w8.cell? ⟨gb102, 2, none⟩ = some (.int .i64 0) := (blk_cell BK102.out 2).trans rfl
                  have hcz16_3 : w8.cell? ⟨gb102, 3, none⟩ = some (.int .i64 0) := (blk_cell BK102.out 3).trans rfl
                  have hfz16_0 := blk_frozen BK102.out 0
                  have hfz16_1 := blk_frozen BK102.out 1
                  have hfz16_2 := blk_frozen BK102.out 2
                  have hfz16_3 := blk_frozen BK102.out 3
                  go_wp2_with (first | (go_at_call 48; (with_reducible refine (impl_in.calls ((rd_T44 l0 x11_1).f0) 0 (wrap64 (a1 - 1)) true _ A10.out).mono ?_); rintro e w' ⟨rfl, ⟨nd, rfl⟩⟩; (try first | exact ⟨rfl, _, World.drewN_drewN _ _ _⟩ | exact ⟨rfl, _, Eq.trans (World.drewN_drewN _ _ _) (congrArg (World.drewN _) (Nat.add_assoc _ _ _))⟩)) | (go_at_call 48; (with_reducible refine (impl_in.calls ((rd_T44 l0 x11_1).f1) 0 119 true _ A12.out).mono ?_); rintro e w' ⟨rfl, ⟨nd, rfl⟩⟩; (try first | exact ⟨rfl, _, World.drewN_drewN _ _ _⟩ | exact ⟨rfl, _, Eq.trans (World.drewN_drewN _ _ _) (congrArg (World.drewN _) (Nat.add_assoc _ _ _))⟩)) | (go_at_fn GM; (refine (HM_.out _ _ t105 (by first | exact A10.out | exact A12.out | exact A14.out | exact A15.out) (by repeat (first | (with_reducible first | exact HB.out | apply below_alloc | apply pw_below_drewN | apply below_drew1 | refine below_set ?_ GE102.out) | exact HB.out)) A14.out).mono ?_); rintro e w' ⟨rfl, ⟨nd, rfl⟩⟩; (try first | exact ⟨rfl, _, World.drewN_drewN _ _ _⟩ | exact ⟨rfl, _, Eq.trans (World.drewN_drewN _ _ _) (congrArg (World.drewN _) (Nat.add_assoc _ _ _))⟩)) | (go_at_call 48; (with_reducible refine (impl_in.calls ((rd_T44 l0 x11_1).f3) 1 t105 t106 _ A15.out).mono ?_); rintro e w' ⟨rfl, ⟨nd, rfl⟩⟩; (try first | exact ⟨rfl, _, World.drewN_drewN _ _ _⟩ | exact ⟨rfl, _, Eq.trans (World.drewN_drewN _ _ _) (congrArg (World.drewN _) (Nat.add_assoc _ _ _))⟩)))
                  repeat (go_quiet (first | (go_at_call 48; (with_reducible refine (impl_in.calls ((rd_T44 l0 x11_1).f0) 0 (wrap64 (a1 - 1)) true _ A10.out).mono ?_); rintro e w' ⟨rfl, ⟨nd, rfl⟩⟩; (try first | exact ⟨rfl, _, World.drewN_drewN _ _ _⟩ | exact ⟨rfl, _, Eq.trans (World.drewN_drewN _ _ _) (congrArg (World.drewN _) (Nat.add_assoc _ _ _))⟩)) | (go_at_call 48; (with_reducible refine (impl_in.calls ((rd_T44 l0 x11_1).f1) 0 119 true _ A12.out).mono ?_); rintro e w' ⟨rfl, ⟨nd, rfl⟩⟩; (try first | exact ⟨rfl, _, World.drewN_drewN _ _ _⟩ | exact ⟨rfl, _, Eq.trans (World.drewN_drewN _ _ _) (congrArg (World.drewN _) (Nat.add_assoc _ _ _))⟩)) | (go_at_fn GM; (refine (HM_.out _ _ t105 (by first | exact A10.out | exact A12.out | exact A14.out | exact A15.out) (by repeat (first | (with_reducible first | exact HB.out | apply below_alloc | apply pw_below_drewN | apply below_drew1 | refine below_set ?_ GE102.out) | exact HB.out)) A14.out).mono ?_); rintro e w' ⟨rfl, ⟨nd, rfl⟩⟩; (try first | exact ⟨rfl, _, World.drewN_drewN _ _ _⟩ | exact ⟨rfl, _, Eq.trans (World.drewN_drewN _ _ _) (congrArg (World.drewN _) (Nat.add_assoc _ _ _))⟩)) | (go_at_call 48; (with_reducible refine (impl_in.calls ((rd_T44 l0 x11_1).f3) 1 t105 t106 _ A15.out).mono ?_); rintro e w' ⟨rfl, ⟨nd, rfl⟩⟩; (try first | exact ⟨rfl, _, World.drewN_drewN _ _ _⟩ | exact ⟨rfl, _, Eq.trans (World.drewN_drewN _ _ _) (congrArg (World.drewN _) (Nat.add_assoc _ _ _))⟩))); try go_wp2_with (first | (go_at_call 48; (with_reducible refine (impl_in.calls ((rd_T44 l0 x11_1).f0) 0 (wrap64 (a1 - 1)) true _ A10.out).mono ?_); rintro e w' ⟨rfl, ⟨nd, rfl⟩⟩; (try first | exact ⟨rfl, _, World.drewN_drewN _ _ _⟩ | exact ⟨rfl, _, Eq.trans (World.drewN_drewN _ _ _) (congrArg (World.drewN _) (Nat.add_assoc _ _ _))⟩)) | (go_at_call 48; (with_reducible refine (impl_in.calls ((rd_T44 l0 x11_1).f1) 0 119 true _ A12.out).mono ?_); rintro e w' ⟨rfl, ⟨nd, rfl⟩⟩; (try first | exact ⟨rfl, _, World.drewN_drewN _ _ _⟩ | exact ⟨rfl, _, Eq.trans (World.drewN_drewN _ _ _) (congrArg (World.drewN _) (Nat.add_assoc _ _ _))⟩)) | (go_at_fn GM; (refine (HM_.out _ _ t105 (by first | exact A10.out | exact A12.out | exact A14.out | exact A15.out) (by repeat (first | (with_reducible first | exact HB.out | apply below_alloc | apply pw_below_drewN | apply below_drew1 | refine below_set ?_ GE102.out) | exact HB.out)) A14.out).mono ?_); rintro e w' ⟨rfl, ⟨nd, rfl⟩⟩; (try first | exact ⟨rfl, _, World.drewN_drewN _ _ _⟩ | exact ⟨rfl, _, Eq.trans (World.drewN_drewN _ _ _) (congrArg (World.drewN _) (Nat.add_assoc _ _ _))⟩)) | (go_at_call 48; (with_reducible refine (impl_in.calls ((rd_T44 l0 x11_1).f3) 1 t105 t106 _ A15.out).mono ?_); rintro e w' ⟨rfl, ⟨nd, rfl⟩⟩; (try first | exact ⟨rfl, _, World.drewN_drewN _ _ _⟩ | exact ⟨rfl, _, Eq.trans (World.drewN_drewN _ _ _) (congrArg (World.drewN _) (Nat.add_assoc _ _ _))⟩))))
                  go_meet
                  case rel => exact ⟨_, (!t106), (by first | rfl | (simp; done) | (simp [*]; done)), H', ⟨by have := HK1.out; first | omega | exact Nat.le_refl _⟩, ⟨by (with_reducible repeat (first | refine blk_drewN ?_ _ | refine blk_drew ?_ | refine blk_alloc ?_ _)); refine blk_put (cs := #[.int .i64 ((rd_T44 l0 x11_1).f0), .int .i64 ((rd_T44 l0 x11_1).f1), .int .i64 ((rd_T44 l0 x11_1).f2), .int .i64 0]) ?_ 3 _ rfl; (with_reducible repeat (first | refine blk_drewN ?_ _ | refine blk_drew ?_ | refine blk_alloc ?_ _)); refine blk_put (cs := #[.int .i64 ((rd_T44 l0 x11_1).f0), .int .i64 ((rd_T44 l0 x11_1).f1), .int .i64 0, .int .i64 0]) ?_ 2 _ rfl; (with_reducible repeat (first | refine blk_drewN ?_ _ | refine blk_drew ?_ | refine blk_alloc ?_ _)); refine blk_put (cs := #[.int .i64 ((rd_T44 l0 x11_1).f0), .int .i64 0, .int .i64 0, .int .i64 0]) ?_ 1 _ rfl; (with_reducible repeat (first | refine blk_drewN ?_ _ | refine blk_drew ?_ | refine blk_alloc ?_ _)); refine blk_put (cs := #[.int .i64 0, .int .i64 0, .int .i64 0, .int .i64 0]) ?_ 0 _ rfl; (with_reducible repeat (first | refine blk_drewN ?_ _ | refine blk_drew ?_ | refine blk_alloc ?_ _)); exact BK102.out⟩, ⟨by repeat (first | (with_reducible first | exact HB.out | apply below_alloc | apply pw_below_drewN | apply below_drew1 | refine below_set ?_ GE102.out) | exact HB.out)⟩⟩
                · replace c13 := Bool.eq_false_iff.mpr c13
                  subst c13
                  have H1 : (impl_ordered.j1 M k1 l0 a1 x11_1 l0 (l0.length : Int) x11_1 true ((rd_T44 l0 x11_1).f0) ((rd_T44 l0 x11_1).f1) ((rd_T44 l0 x11_1).f2) ((rd_T44 l0 x11_1).f3)) = some r := by rw [if_neg (show ¬ (false = true) by decide)] at H; exact H
                  clear H
                  have H := H1
                  clear H1
                  have H' := Aside0.mk H
                  clear H
                  have hcz17_0 : w8.cell? ⟨gb102, 0, none⟩ = some (.int .i64 0) := (blk_cell BK102.out 0).trans rfl
                  have hcz17_1 : w8.cell? ⟨gb102, 1, none⟩ = some (.int .i64 0) := (blk_cell BK102.out 1).trans rfl
                  have hcz17_2 : w8.cell? ⟨gb102, 2, none⟩ = some (.int .i64 0) := (blk_cell BK102.out 2).trans rfl
                  have hcz17_3 : w8.cell? ⟨gb102, 3, none⟩ = some (.int .i64 0) := (blk_cell BK102.out 3).trans rfl
                  have hfz17_0 := blk_frozen BK102.out 0
                  have hfz17_1 := blk_frozen BK102.out 1
                  have hfz17_2 := blk_frozen BK102.out 2
                  have hfz17_3 := blk_frozen BK102.out 3
                  go_wp2_with (first | (go_at_call 48; (with_reducible refine (impl_in.calls ((rd_T44 l0 x11_1).f0) 0 (wrap64 (a1 - 1)) true _ A10.out).mono ?_); rintro e w' ⟨rfl, ⟨nd, rfl⟩⟩; (try first | exact ⟨rfl, _, World.drewN_drewN _ _ _⟩ | exact ⟨rfl, _, Eq.trans (World.drewN_drewN _ _ _) (congrArg (World.drewN _) (Nat.add_assoc _ _ _))⟩)) | (go_at_call 48; (with_reducible refine (impl_in.calls ((rd_T44 l0 x11_1).f1) 0 119 false _ A12.out).mono ?_); rintro e w' ⟨rfl, ⟨nd, rfl⟩⟩; (try first | exact ⟨rfl, _, World.drewN_drewN _ _ _⟩ | exact ⟨rfl, _, Eq.trans (World.drewN_drewN _ _ _) (congrArg (World.drewN _) (Nat.add_assoc _ _ _))⟩)))
                  repeat (go_quiet (first | (go_at_call 48; (with_reducible refine (impl_in.calls ((rd_T44 l0 x11_1).f0) 0 (wrap64 (a1 - 1)) true _ A10.out).mono ?_); rintro e w' ⟨rfl, ⟨nd, rfl⟩⟩; (try first | exact ⟨rfl, _, World.drewN_drewN _ _ _⟩ | exact ⟨rfl, _, Eq.trans (World.drewN_drewN _ _ _) (congrArg (World.drewN _) (Nat.add_assoc _ _ _))⟩)) | (go_at_call 48; (with_reducible refine (impl_in.calls ((rd_T44 l0 x11_1).f1) 0 119 false _ A12.out).mono ?_); rintro e w' ⟨rfl, ⟨nd, rfl⟩⟩; (try first | exact ⟨rfl, _, World.drewN_drewN _ _ _⟩ | exact ⟨rfl, _, Eq.trans (World.drewN_drewN _ _ _) (congrArg (World.drewN _) (Nat.add_assoc _ _ _))⟩))); try go_wp2_with (first | (go_at_call 48; (with_reducible refine (impl_in.calls ((rd_T44 l0 x11_1).f0) 0 (wrap64 (a1 - 1)) true _ A10.out).mono ?_); rintro e w' ⟨rfl, ⟨nd, rfl⟩⟩; (try first | exact ⟨rfl, _, World.drewN_drewN _ _ _⟩ | exact ⟨rfl, _, Eq.trans (World.drewN_drewN _ _ _) (congrArg (World.drewN _) (Nat.add_assoc _ _ _))⟩)) | (go_at_call 48; (with_reducible refine (impl_in.calls ((rd_T44 l0 x11_1).f1) 0 119 false _ A12.out).mono ?_); rintro e w' ⟨rfl, ⟨nd, rfl⟩⟩; (try first | exact ⟨rfl, _, World.drewN_drewN _ _ _⟩ | exact ⟨rfl, _, Eq.trans (World.drewN_drewN _ _ _) (congrArg (World.drewN _) (Nat.add_assoc _ _ _))⟩))))
                  go_meet
                  case rel => exact ⟨_, (true), (by first | rfl | (simp; done) | (simp [*]; done)), H', ⟨by have := HK1.out; first | omega | exact Nat.le_refl _⟩, ⟨by (with_reducible repeat (first | refine blk_drewN ?_ _ | refine blk_drew ?_ | refine blk_alloc ?_ _)); refine blk_put (cs := #[.int .i64 ((rd_T44 l0 x11_1).f0), .int .i64 ((rd_T44 l0 x11_1).f1), .int .i64 ((rd_T44 l0 x11_1).f2), .int .i64 0]) ?_ 3 _ rfl; (with_reducible repeat (first | refine blk_drewN ?_ _ | refine blk_drew ?_ | refine blk_alloc ?_ _)); refine blk_put (cs := #[.int .i64 ((rd_T44 l0 x11_1).f0), .int .i64 ((rd_T44 l0 x11_1).f1), .int .i64 0, .int .i64 0]) ?_ 2 _ rfl; (with_reducible repeat (first | refine blk_drewN ?_ _ | refine blk_drew ?_ | refine blk_alloc ?_ _)); refine blk_put (cs := #[.int .i64 ((rd_T44 l0 x11_1).f0), .int .i64 0, .int .i64 0, .int .i64 0]) ?_ 1 _ rfl; (with_reducible repeat (first | refine blk_drewN ?_ _ | refine blk_drew ?_ | refine blk_alloc ?_ _)); refine blk_put (cs := #[.int .i64 0, .int .i64 0, .int .i64 0, .int .i64 0]) ?_ 0 _ rfl; (with_reducible repeat (first | refine blk_drewN ?_ _ | refine blk_drew ?_ | refine blk_alloc ?_ _)); exact BK102.out⟩, ⟨by repeat (first | (with_reducible first | exact HB.out | apply below_alloc | apply pw_below_drewN | apply below_drew1 | refine below_set ?_ GE102.out) | exact HB.out)⟩⟩
              · replace c11 := Bool.eq_false_iff.mpr c11
                subst c11
                have H1 : (impl_ordered.j1 M k1 l0 a1 x11_1 l0 (l0.length : Int) x11_1 true ((rd_T44 l0 x11_1).f0) ((rd_T44 l0 x11_1).f1) ((rd_T44 l0 x11_1).f2) ((rd_T44 l0 x11_1).f3)) = some r := by rw [if_neg (show ¬ (false = true) by decide)] at H; exact H
                clear H
                have H := H1
                clear H1
                have H' := Aside0.mk H
                clear H
                have hcz18_0 : w8.cell? ⟨gb102, 0, none⟩ = some (.int .i64 0) := (blk_cell BK102.out 0).trans rfl
                have hcz18_1 : w8.cell? ⟨gb102, 1, none⟩ = some (.int .i64 0) := (blk_cell BK102.out 1).trans rfl
                have hcz18_2 : w8.cell? ⟨gb102, 2, none⟩ = some (.int .i64 0) := (blk_cell BK102.out 2).trans rfl
                have hcz18_3 : w8.cell? ⟨gb102, 3, none⟩ = some (.int .i64 0) := (blk_cell BK102.out 3).trans rfl
                have hfz18_0 := blk_frozen BK102.out 0
                have hfz18_1 := blk_frozen BK102.out 1
                have hfz18_2 := blk_frozen BK102.out 2
                have hfz18_3 := blk_frozen BK102.out 3
                go_wp2_with (first | (go_at_call 48; (with_reducible refine (impl_in.calls ((rd_T44 l0 x11_1).f0) 0 (wrap64 (a1 - 1)) false _ A10.out).mono ?_); rintro e w' ⟨rfl, ⟨nd, rfl⟩⟩; (try first | exact ⟨rfl, _, World.drewN_drewN _ _ _⟩ | exact ⟨rfl, _, Eq.trans (World.drewN_drewN _ _ _) (congrArg (World.drewN _) (Nat.add_assoc _ _ _))⟩)))
                repeat (go_quiet (first | (go_at_call 48; (with_reducible refine (impl_in.calls ((rd_T44 l0 x11_1).f0) 0 (wrap64 (a1 - 1)) false _ A10.out).mono ?_); rintro e w' ⟨rfl, ⟨nd, rfl⟩⟩; (try first | exact ⟨rfl, _, World.drewN_drewN _ _ _⟩ | exact ⟨rfl, _, Eq.trans (World.drewN_drewN _ _ _) (congrArg (World.drewN _) (Nat.add_assoc _ _ _))⟩))); try go_wp2_with (first | (go_at_call 48; (with_reducible refine (impl_in.calls ((rd_T44 l0 x11_1).f0) 0 (wrap64 (a1 - 1)) false _ A10.out).mono ?_); rintro e w' ⟨rfl, ⟨nd, rfl⟩⟩; (try first | exact ⟨rfl, _, World.drewN_drewN _ _ _⟩ | exact ⟨rfl, _, Eq.trans (World.drewN_drewN _ _ _) (congrArg (World.drewN _) (Nat.add_assoc _ _ _))⟩))))
                go_meet
                case rel => exact ⟨_, (true), (by first | rfl | (simp; done) | (simp [*]; done)), H', ⟨by have := HK1.out; first | omega | exact Nat.le_refl _⟩, ⟨by (with_reducible repeat (first | refine blk_drewN ?_ _ | refine blk_drew ?_ | refine blk_alloc ?_ _)); refine blk_put (cs := #[.int .i64 ((rd_T44 l0 x11_1).f0), .int .i64 ((rd_T44 l0 x11_1).f1), .int .i64 ((rd_T44 l0 x11_1).f2), .int .i64 0]) ?_ 3 _ rfl; (with_reducible repeat (first | refine blk_drewN ?_ _ | refine blk_drew ?_ | refine blk_alloc ?_ _)); refine blk_put (cs := #[.int .i64 ((rd_T44 l0 x11_1).f0), .int .i64 ((rd_T44 l0 x11_1).f1), .int .i64 0, .int .i64 0]) ?_ 2 _ rfl; (with_reducible repeat (first | refine blk_drewN ?_ _ | refine blk_drew ?_ | refine blk_alloc ?_ _)); refine blk_put (cs := #[.int .i64 ((rd_T44 l0 x11_1).f0), .int .i64 0, .int .i64 0, .int .i64 0]) ?_ 1 _ rfl; (with_reducible repeat (first | refine blk_drewN ?_ _ | refine blk_drew ?_ | refine blk_alloc ?_ _)); refine blk_put (cs := #[.int .i64 0, .int .i64 0, .int .i64 0, .int .i64 0]) ?_ 0 _ rfl; (with_reducible repeat (first | refine blk_drewN ?_ _ | refine blk_drew ?_ | refine blk_alloc ?_ _)); exact BK102.out⟩, ⟨by repeat (first | (with_reducible first | exact HB.out | apply below_alloc | apply pw_below_drewN | apply below_drew1 | refine below_set ?_ GE102.out) | exact HB.out)⟩⟩
            case rest =>
              clear HC7
              try clear c1
              try clear p1
              try clear q1
              try clear hx1
              try clear p2
              try clear c4
              try clear c4b0
              try clear c5
              try clear c5b0
              try clear c6
              try clear c6b0
              try clear p6
              try clear p10
              try clear q10
              try clear hx10
              try clear c11
              try clear c13
              try clear hcz16_0
              try clear hcz16_1
              try clear hcz16_2
              try clear hcz16_3
              try clear hcz17_0
              try clear hcz17_1
              try clear hcz17_2
              try clear hcz17_3
              try clear hcz18_0
              try clear hcz18_1
              try clear hcz18_2
              try clear hcz18_3
              try clear hcz9_0
              try clear hcz9_1
              try clear hcz9_2
              try clear hcz9_3
              try clear hfz16_0
              try clear hfz16_1
              try clear hfz16_2
              try clear hfz16_3
              try clear hfz17_0
              try clear hfz17_1
              try clear hfz17_2
              try clear hfz17_3
              try clear hfz18_0
              try clear hfz18_1
              try clear hfz18_2
              try clear hfz18_3
              try clear hfz9_0
              try clear hfz9_1
              try clear hfz9_2
              try clear hfz9_3
              try clear hx101_0
              try clear hx101_1
              try clear hx101_2
              try clear hx101_3
              try clear p101
              try clear p2
              try clear q101
              obtain ⟨kq, x37_6, rfl, HA, HJ6, BK102, HB⟩ := hcut
              cases kq with
              | zero => exact absurd HA.out (by simp [impl_ordered.j1])
              | succ kj6 =>
                have H := HA.out
                clear HA
                simp only [impl_ordered.j1] at H
                by_cases c19 : x37_6 = true
                · subst c19
                  have H1 : (some false) = some r := by rw [if_pos rfl] at H; exact H
                  clear H
                  have H := H1
                  clear H1
                  obtain rfl := Option.some.inj H
                  go_wp2
                  repeat (go_quiet (fail); try go_wp2)
                  go_ret
                  exact ⟨by first | rfl | (simp [errW_none, errW_some] <;> rfl) | (simp [*, errW_none, errW_some] <;> rfl), by repeat (first | (with_reducible first | exact HB.out | apply below_alloc | apply pw_below_drewN | apply below_drew1 | refine below_set ?_ GE102.out) | exact HB.out)⟩
                · replace c19 := Bool.eq_false_iff.mpr c19
                  subst c19
                  have H1 : (if x11_1 > 0 then (if 0 ≤ (wrap64 (x11_1 - 1)) then (if (wrap64 (x11_1 - 1)) < (l0.length : Int) then (if ((rd_T44 l0 (wrap64 (x11_1 - 1))).f1) > ((rd_T44 l0 x11_1).f1) then (some false) else (if ((rd_T44 l0 (wrap64 (x11_1 - 1))).f1) = ((rd_T44 l0 x11_1).f1) then (if ((rd_T44 l0 (wrap64 (x11_1 - 1))).f0) ≥ ((rd_T44 l0 x11_1).f0) then (some false) else (impl_ordered.l0 M kj6 l0 a1 l0 (l0.length : Int) (wrap64 (x11_1 + 1)))) else (impl_ordered.l0 M kj6 l0 a1 l0 (l0.length : Int) (wrap64 (x11_1 + 1))))) else (none)) else (none)) else (impl_ordered.l0 M kj6 l0 a1 l0 (l0.length : Int) (wrap64 (x11_1 + 1)))) = some r := by rw [if_neg (show ¬ (false = true) by decide)] at H; exact H
                  clear H
                  have H := H1
                  clear H1
                  by_cases c20 : x11_1 > 0
                  · rw [if_pos c20] at H
                    have c20b0 : decide (0 < x11_1) = true := decide_eq_true c20
                    clear c20
                    obtain ⟨ji21, hji21⟩ : ∃ j_ : Int, (wrap64 (x11_1 - 1)) = j_ := ⟨_, rfl⟩
                    replace H : (if 0 ≤ (ji21) then (if (ji21) < (l0.length : Int) then (if ((rd_T44 l0 (ji21)).f1) > ((rd_T44 l0 x11_1).f1) then (some false) else (if ((rd_T44 l0 (ji21)).f1) = ((rd_T44 l0 x11_1).f1) then (if ((rd_T44 l0 (ji21)).f0) ≥ ((rd_T44 l0 x11_1).f0) then (some false) else (impl_ordered.l0 M kj6 l0 a1 l0 (l0.length : Int) (wrap64 (x11_1 + 1)))) else (impl_ordered.l0 M kj6 l0 a1 l0 (l0.length : Int) (wrap64 (x11_1 + 1))))) else (none)) else (none)) = some r := by first | (rw [hji21] at H; exact H) | (simp only [hji21] at H ⊢; exact H)
                    have hji21w : (IntKind.i64.wrap (x11_1 - 1)) = ji21 := (i64_w _).trans hji21
                    by_cases c22 : 0 ≤ (ji21)
                    · rw [if_pos c22] at H
                      have c22b0 : decide (0 ≤ (ji21)) = true := decide_eq_true c22
                      clear c22
                      by_cases c23 : (ji21) < (l0.length : Int)
                      · rw [if_pos c23] at H
                        have c23b0 : decide ((ji21) < (l0.length : Int)) = true := decide_eq_true c23
                        clear c23
                        by_cases c24 : ((rd_T44 l0 (ji21)).f1) > ((rd_T44 l0 x11_1).f1)
                        · rw [if_pos c24] at H
                          have c24b0 : decide (((rd_T44 l0 x11_1).f1) < ((rd_T44 l0 (ji21)).f1)) = true := decide_eq_true c24
                          clear c24
                          obtain rfl := Option.some.inj H
                          have p107 : 0 ≤ ((ji21) : Int) := of_decide_eq_true (by first | (with_reducible assumption) | assumption)
                          have q107 : (ji21) < (l0.length : Int) := of_decide_eq_true (by first | (with_reducible assumption) | assumption)
                          obtain ⟨ad107, e107, hx107_0, hx107_1, hx107_2, hx107_3⟩ := at_T44 HR0.out (ji21) p107 q107
                          obtain rfl : ad101 = ad107 := (by injection e107)
                          replace hx107_0 := (HB.out.cell (World.block_lt_of_cell? w _ hx107_0)).trans hx107_0
                          replace hx107_1 := (HB.out.cell (World.block_lt_of_cell? w _ hx107_1)).trans hx107_1
                          replace hx107_2 := (HB.out.cell (World.block_lt_of_cell? w _ hx107_2)).trans hx107_2
                          replace hx107_3 := (HB.out.cell (World.block_lt_of_cell? w _ hx107_3)).trans hx107_3
                          replace p107 := eq_true p107
                          replace q107 := eq_true q107
                          have hcz25_0 : wc.cell? ⟨gb102, 0, none⟩ = some (.int .i64 ((rd_T44 l0 x11_1).f0)) := (blk_cell BK102.out 0).trans rfl
                          have hcz25_1 : wc.cell? ⟨gb102, 1, none⟩ = some (.int .i64 ((rd_T44 l0 x11_1).f1)) := (blk_cell BK102.out 1).trans rfl
                          have hcz25_2 : wc.cell? ⟨gb102, 2, none⟩ = some (.int .i64 ((rd_T44 l0 x11_1).f2)) := (blk_cell BK102.out 2).trans rfl
                          have hcz25_3 : wc.cell? ⟨gb102, 3, none⟩ = some (.int .i64 ((rd_T44 l0 x11_1).f3)) := (blk_cell BK102.out 3).trans rfl
                          have hfz25_0 := blk_frozen BK102.out 0
                          have hfz25_1 := blk_frozen BK102.out 1
                          have hfz25_2 := blk_frozen BK102.out 2
                          have hfz25_3 := blk_frozen BK102.out 3
                          go_wp2
                          repeat (go_quiet (fail); try go_wp2)
                          go_ret
                          exact ⟨by first | rfl | (simp [errW_none, errW_some] <;> rfl) | (simp only [← hji21]; first | rfl | (simp [errW_none, errW_some] <;> rfl)) | (simp [*, errW_none, errW_some] <;> rfl), by repeat (first | (with_reducible first | exact HB.out | apply below_alloc | apply pw_below_drewN | apply below_drew1 | refine below_set ?_ GE102.out) | exact HB.out)⟩
                        · rw [if_neg c24] at H
                          have c24b0 : decide (((rd_T44 l0 x11_1).f1) < ((rd_T44 l0 (ji21)).f1)) = false := decide_eq_false c24
                          clear c24
                          by_cases c26 : ((rd_T44 l0 (ji21)).f1) = ((rd_T44 l0 x11_1).f1)
                          · rw [if_pos c26] at H
                            have c26b0 : (((rd_T44 l0 (ji21)).f1) == ((rd_T44 l0 x11_1).f1)) = true := beq_iff_eq.mpr c26
                            have c26b1 : (((rd_T44 l0 (ji21)).f1) != ((rd_T44 l0 x11_1).f1)) = false := bne_eq_false_iff_eq.mpr c26
                            clear c26
                            by_cases c27 : ((rd_T44 l0 (ji21)).f0) ≥ ((rd_T44 l0 x11_1).f0)
                            · rw [if_pos c27] at H
                              have c27b0 : decide (((rd_T44 l0 x11_1).f0) ≤ ((rd_T44 l0 (ji21)).f0)) = true := decide_eq_true c27
                              clear c27
                              obtain rfl := Option.some.inj H
                              have p107 : 0 ≤ ((ji21) : Int) := of_decide_eq_true (by first | (with_reducible assumption) | assumption)
                              have q107 : (ji21) < (l0.length : Int) := of_decide_eq_true (by first | (with_reducible assumption) | assumption)
                              obtain ⟨ad107, e107, hx107_0, hx107_1, hx107_2, hx107_3⟩ := at_T44 HR0.out (ji21) p107 q107
                              obtain rfl : ad101 = ad107 := (by injection e107)
                              replace hx107_0 := (HB.out.cell (World.block_lt_of_cell? w _ hx107_0)).trans hx107_0
                              replace hx107_1 := (HB.out.cell (World.block_lt_of_cell? w _ hx107_1)).trans hx107_1
                              replace hx107_2 := (HB.out.cell (World.block_lt_of_cell? w _ hx107_2)).trans hx107_2
                              replace hx107_3 := (HB.out.cell (World.block_lt_of_cell? w _ hx107_3)).trans hx107_3
                              replace p107 := eq_true p107
                              replace q107 := eq_true q107
                              have hcz28_0 : wc.cell? ⟨gb102, 0, none⟩ = some (.int .i64 ((rd_T44 l0 x11_1).f0)) := (blk_cell BK102.out 0).trans rfl
                              have hcz28_1 : wc.cell? ⟨gb102, 1, none⟩ = some (.int .i64 ((rd_T44 l0 x11_1).f1)) := (blk_cell BK102.out 1).trans rfl
                              have hcz28_2 : wc.cell? ⟨gb102, 2, none⟩ = some (.int .i64 ((rd_T44 l0 x11_1).f2)) := (blk_cell BK102.out 2).trans rfl
                              have hcz28_3 : wc.cell? ⟨gb102, 3, none⟩ = some (.int .i64 ((rd_T44 l0 x11_1).f3)) := (blk_cell BK102.out 3).trans rfl
                              have hfz28_0 := blk_frozen BK102.out 0
                              have hfz28_1 := blk_frozen BK102.out 1
                              have hfz28_2 := blk_frozen BK102.out 2
                              have hfz28_3 := blk_frozen BK102.out 3
                              have p108 : 0 ≤ ((ji21) : Int) := of_decide_eq_true (by first | (with_reducible assumption) | assumption)
                              have q108 : (ji21) < (l0.length : Int) := of_decide_eq_true (by first | (with_reducible assumption) | assumption)
                              obtain ⟨ad108, e108, hx108_0, hx108_1, hx108_2, hx108_3⟩ := at_T44 HR0.out (ji21) p108 q108
                              obtain rfl : ad101 = ad108 := (by injection e108)
                              replace hx108_0 := (HB.out.cell (World.block_lt_of_cell? w _ hx108_0)).trans hx108_0
                              replace hx108_1 := (HB.out.cell (World.block_lt_of_cell? w _ hx108_1)).trans hx108_1
                              replace hx108_2 := (HB.out.cell (World.block_lt_of_cell? w _ hx108_2)).trans hx108_2
                              replace hx108_3 := (HB.out.cell (World.block_lt_of_cell? w _ hx108_3)).trans hx108_3
                              replace p108 := eq_true p108
                              replace q108 := eq_true q108
                              have p109 : 0 ≤ ((ji21) : Int) := of_decide_eq_true (by first | (with_reducible assumption) | assumption)
                              have q109 : (ji21) < (l0.length : Int) := of_decide_eq_true (by first | (with_reducible assumption) | assumption)
                              obtain ⟨ad109, e109, hx109_0, hx109_1, hx109_2, hx109_3⟩ := at_T44 HR0.out (ji21) p109 q109
                              obtain rfl : ad101 = ad109 := (by injection e109)
                              replace hx109_0 := (HB.out.cell (World.block_lt_of_cell? w _ hx109_0)).trans hx109_0
                              replace hx109_1 := (HB.out.cell (World.block_lt_of_cell? w _ hx109_1)).trans hx109_1
                              replace hx109_2 := (HB.out.cell (World.block_lt_of_cell? w _ hx109_2)).trans hx109_2
                              replace hx109_3 := (HB.out.cell (World.block_lt_of_cell? w _ hx109_3)).trans hx109_3
                              replace p109 := eq_true p109
                              replace q109 := eq_true q109
                              go_wp2
                              repeat (go_quiet (fail); try go_wp2)
                              go_ret
                              exact ⟨by first | rfl | (simp [errW_none, errW_some] <;> rfl) | (simp only [← hji21]; first | rfl | (simp [errW_none, errW_some] <;> rfl)) | (simp [*, errW_none, errW_some] <;> rfl), by repeat (first | (with_reducible first | exact HB.out | apply below_alloc | apply pw_below_drewN | apply below_drew1 | refine below_set ?_ GE102.out) | exact HB.out)⟩
                            · rw [if_neg c27] at H
                              have c27b0 : decide (((rd_T44 l0 x11_1).f0) ≤ ((rd_T44 l0 (ji21)).f0)) = false := decide_eq_false c27
                              clear c27
                              have H' := Aside0.mk H
                              clear H
                              have p107 : 0 ≤ ((ji21) : Int) := of_decide_eq_true (by first | (with_reducible assumption) | assumption)
                              have q107 : (ji21) < (l0.length : Int) := of_decide_eq_true (by first | (with_reducible assumption) | assumption)
                              obtain ⟨ad107, e107, hx107_0, hx107_1, hx107_2, hx107_3⟩ := at_T44 HR0.out (ji21) p107 q107
                              obtain rfl : ad101 = ad107 := (by injection e107)
                              replace hx107_0 := (HB.out.cell (World.block_lt_of_cell? w _ hx107_0)).trans hx107_0
                              replace hx107_1 := (HB.out.cell (World.block_lt_of_cell? w _ hx107_1)).trans hx107_1
                              replace hx107_2 := (HB.out.cell (World.block_lt_of_cell? w _ hx107_2)).trans hx107_2
                              replace hx107_3 := (HB.out.cell (World.block_lt_of_cell? w _ hx107_3)).trans hx107_3
                              replace p107 := eq_true p107
                              replace q107 := eq_true q107
                              have hcz29_0 : wc.cell? ⟨gb102, 0, none⟩ = some (.int .i64 ((rd_T44 l0 x11_1).f0)) := (blk_cell BK102.out 0).trans rfl
                              have hcz29_1 : wc.cell? ⟨gb102, 1, none⟩ = some (.int .i64 ((rd_T44 l0 x11_1).f1)) := (blk_cell BK102.out 1).trans rfl
                              have hcz29_2 : wc.cell? ⟨gb102, 2, none⟩ = some (.int .i64 ((rd_T44 l0 x11_1).f2)) := (blk_cell BK102.out 2).trans rfl
                              have hcz29_3 : wc.cell? ⟨gb102, 3, none⟩ = some (.int .i64 ((rd_T44 l0 x11_1).f3)) := (blk_cell BK102.out 3).trans rfl
                              have hfz29_0 := blk_frozen BK102.out 0
                              have hfz29_1 := blk_frozen BK102.out 1
                              have hfz29_2 := blk_frozen BK102.out 2
                              have hfz29_3 := blk_frozen BK102.out 3
                              have p108 : 0 ≤ ((ji21) : Int) := of_decide_eq_true (by first | (with_reducible assumption) | assumption)
                              have q108 : (ji21) < (l0.length : Int) := of_decide_eq_true (by first | (with_reducible assumption) | assumption)
                              obtain ⟨ad108, e108, hx108_0, hx108_1, hx108_2, hx108_3⟩ := at_T44 HR0.out (ji21) p108 q108
                              obtain rfl : ad101 = ad108 := (by injection e108)
                              replace hx108_0 := (HB.out.cell (World.block_lt_of_cell? w _ hx108_0)).trans hx108_0
                              replace hx108_1 := (HB.out.cell (World.block_lt_of_cell? w _ hx108_1)).trans hx108_1
                              replace hx108_2 := (HB.out.cell (World.block_lt_of_cell? w _ hx108_2)).trans hx108_2
                              replace hx108_3 := (HB.out.cell (World.block_lt_of_cell? w _ hx108_3)).trans hx108_3
                              replace p108 := eq_true p108
                              replace q108 := eq_true q108
                              have p109 : 0 ≤ ((ji21) : Int) := of_decide_eq_true (by first | (with_reducible assumption) | assumption)
                              have q109 : (ji21) < (l0.length : Int) := of_decide_eq_true (by first | (with_reducible assumption) | assumption)
                              obtain ⟨ad109, e109, hx109_0, hx109_1, hx109_2, hx109_3⟩ := at_T44 HR0.out (ji21) p109 q109
                              obtain rfl : ad101 = ad109 := (by injection e109)
                              replace hx109_0 := (HB.out.cell (World.block_lt_of_cell? w _ hx109_0)).trans hx109_0
                              replace hx109_1 := (HB.out.cell (World.block_lt_of_cell? w _ hx109_1)).trans hx109_1
                              replace hx109_2 := (HB.out.cell (World.block_lt_of_cell? w _ hx109_2)).trans hx109_2
                              replace hx109_3 := (HB.out.cell (World.block_lt_of_cell? w _ hx109_3)).trans hx109_3
                              replace p109 := eq_true p109
                              replace q109 := eq_true q109
                              go_wp2
                              repeat (go_quiet (fail); try go_wp2)
                              go_roundg kj6
                              case measure => have := HK1.out; have := HJ6.out; omega
                              case rel => exact ⟨(wrap64 (x11_1 + 1)), (by first | rfl | (simp; done) | (simp [*]; done)), H', ⟨by have := HK1.out; have := HJ6.out; omega⟩, ⟨by repeat (first | (with_reducible first | exact HB.out | apply below_alloc | apply pw_below_drewN | apply below_drew1 | refine below_set ?_ GE102.out) | exact HB.out)⟩⟩
                          · rw [if_neg c26] at H
                            have c26b0 : (((rd_T44 l0 (ji21)).f1) == ((rd_T44 l0 x11_1).f1)) = false := beq_eq_false_iff_ne.mpr c26
                            have c26b1 : (((rd_T44 l0 (ji21)).f1) != ((rd_T44 l0 x11_1).f1)) = true := bne_iff_ne.mpr c26
                            have H' := Aside0.mk H
                            clear H
                            have p107 : 0 ≤ ((ji21) : Int) := of_decide_eq_true (by first | (with_reducible assumption) | assumption)
                            have q107 : (ji21) < (l0.length : Int) := of_decide_eq_true (by first | (with_reducible assumption) | assumption)
                            obtain ⟨ad107, e107, hx107_0, hx107_1, hx107_2, hx107_3⟩ := at_T44 HR0.out (ji21) p107 q107
                            obtain rfl : ad101 = ad107 := (by injection e107)
                            replace hx107_0 := (HB.out.cell (World.block_lt_of_cell? w _ hx107_0)).trans hx107_0
                            replace hx107_1 := (HB.out.cell (World.block_lt_of_cell? w _ hx107_1)).trans hx107_1
                            replace hx107_2 := (HB.out.cell (World.block_lt_of_cell? w _ hx107_2)).trans hx107_2
                            replace hx107_3 := (HB.out.cell (World.block_lt_of_cell? w _ hx107_3)).trans hx107_3
                            replace p107 := eq_true p107
                            replace q107 := eq_true q107
                            have hcz30_0 : wc.cell? ⟨gb102, 0, none⟩ = some (.int .i64 ((rd_T44 l0 x11_1).f0)) := (blk_cell BK102.out 0).trans rfl
                            have hcz30_1 : wc.cell? ⟨gb102, 1, none⟩ = some (.int .i64 ((rd_T44 l0 x11_1).f1)) := (blk_cell BK102.out 1).trans rfl
                            have hcz30_2 : wc.cell? ⟨gb102, 2, none⟩ = some (.int .i64 ((rd_T44 l0 x11_1).f2)) := (blk_cell BK102.out 2).trans rfl
                            have hcz30_3 : wc.cell? ⟨gb102, 3, none⟩ = some (.int .i64 ((rd_T44 l0 x11_1).f3)) := (blk_cell BK102.out 3).trans rfl
                            have hfz30_0 := blk_frozen BK102.out 0
                            have hfz30_1 := blk_frozen BK102.out 1
                            have hfz30_2 := blk_frozen BK102.out 2
                            have hfz30_3 := blk_frozen BK102.out 3
                            have p108 : 0 ≤ ((ji21) : Int) := of_decide_eq_true (by first | (with_reducible assumption) | assumption)
                            have q108 : (ji21) < (l0.length : Int) := of_decide_eq_true (by first | (with_reducible assumption) | assumption)
                            obtain ⟨ad108, e108, hx108_0, hx108_1, hx108_2, hx108_3⟩ := at_T44 HR0.out (ji21) p108 q108
                            obtain rfl : ad101 = ad108 := (by injection e108)
                            replace hx108_0 := (HB.out.cell (World.block_lt_of_cell? w _ hx108_0)).trans hx108_0
                            replace hx108_1 := (HB.out.cell (World.block_lt_of_cell? w _ hx108_1)).trans hx108_1
                            replace hx108_2 := (HB.out.cell (World.block_lt_of_cell? w _ hx108_2)).trans hx108_2
                            replace hx108_3 := (HB.out.cell (World.block_lt_of_cell? w _ hx108_3)).trans hx108_3
                            replace p108 := eq_true p108
                            replace q108 := eq_true q108
                            go_wp2
                            repeat (go_quiet (fail); try go_wp2)
                            go_roundg kj6
                            case measure => have := HK1.out; have := HJ6.out; omega
                            case rel => exact ⟨(wrap64 (x11_1 + 1)), (by first | rfl | (simp; done) | (simp [*]; done)), H', ⟨by have := HK1.out; have := HJ6.out; omega⟩, ⟨by repeat (first | (with_reducible first | exact HB.out | apply below_alloc | apply pw_below_drewN | apply below_drew1 | refine below_set ?_ GE102.out) | exact HB.out)⟩⟩
                      · rw [if_neg c23] at H
                        exact absurd H (by simp)
                    · rw [if_neg c22] at H
                      exact absurd H (by simp)
                  · rw [if_neg c20] at H
                    have c20b0 : decide (0 < x11_1) = false := decide_eq_false c20
                    clear c20
                    have H' := Aside0.mk H
                    clear H
                    go_wp2
                    repeat (go_quiet (fail); try go_wp2)
                    go_roundg kj6
                    case measure => have := HK1.out; have := HJ6.out; omega
                    case rel => exact ⟨(wrap64 (x11_1 + 1)), (by first | rfl | (simp; done) | (simp [*]; done)), H', ⟨by have := HK1.out; have := HJ6.out; omega⟩, ⟨by repeat (first | (with_reducible first | exact HB.out | apply below_alloc | apply pw_below_drewN | apply below_drew1 | refine below_set ?_ GE102.out) | exact HB.out)⟩⟩
          · rw [if_neg c6] at H
            exact absurd H (by simp)
        · rw [if_neg c5] at H
          exact absurd H (by simp)
      · rw [if_neg c4] at H
        have c4b0 : decide (x11_1 < (l0.length : Int)) = false := decide_eq_false c4
        clear c4
        obtain rfl := Option.some.inj H
        go_wp2
        repeat (go_quiet (fail); try go_wp2)
        go_ret
        exact ⟨by first | rfl | (simp [errW_none, errW_some] <;> rfl) | (simp [*, errW_none, errW_some] <;> rfl), by repeat (first | (with_reducible first | exact HB.out | apply below_alloc | apply pw_below_drewN | apply below_drew1) | exact HB.out)⟩

theorem in_true_ord {a b c : Int} (h : impl_in.f a b c = some true) : b ≤ a ∧ a ≤ c := by
  unfold impl_in.f at h
  by_cases h1 : a ≥ b
  · rw [if_pos h1] at h; exact ⟨h1, by simpa using h⟩
  · rw [if_neg h1] at h; exact absurd h (by simp)
theorem ordered_j1 {M : Int → Option Int} {k : Nat} {x0 : List S44} {x1 x7 : Int} {x9 : List S44} {x10 x11 : Int} {b : Bool} {a0 a1 a2 a3 : Int} (h : impl_ordered.j1 M k x0 x1 x7 x9 x10 x11 b a0 a1 a2 a3 = some true) : b = false ∧ ∃ k', k' < k ∧ impl_ordered.l0 M k' x0 x1 x9 x10 (wrap64 (x11 + 1)) = some true := by
  cases k with
  | zero => exact absurd h (by simp [impl_ordered.j1])
  | succ k =>
    simp only [impl_ordered.j1] at h
    by_cases hb : b = true
    · rw [if_pos hb] at h; exact absurd h (by simp)
    · rw [if_neg hb] at h
      refine ⟨by simpa using hb, k, Nat.lt_succ_self k, ?_⟩
      iterate 6 (all_goals (try split at h))
      all_goals first | exact h | exact absurd h (by simp)
theorem ordered_l0_sees {M : Int → Option Int} {l : List S44} {n : Int} (hl : l.length ≤ 9223372036854775807) : ∀ (k j : Nat), impl_ordered.l0 M k l n l (l.length : Int) (j : Int) = some true → l.length ≤ 60 ∧ ∀ i : Nat, j ≤ i → i < l.length → (0 ≤ (rd_T44 l (i : Int)).f0 ∧ (rd_T44 l (i : Int)).f0 ≤ wrap64 (n - 1)) ∧ (0 ≤ (rd_T44 l (i : Int)).f1 ∧ (rd_T44 l (i : Int)).f1 ≤ 119) := by
  intro k
  induction k using Nat.strongRecOn with
  | _ k ih =>
    intro j h
    cases k with
    | zero => exact absurd h (by simp [impl_ordered.l0])
    | succ k =>
      simp only [impl_ordered.l0] at h
      by_cases h1 : (j : Int) < (l.length : Int)
      · rw [if_pos h1, if_pos (by omega), if_pos h1] at h
        obtain ⟨t3, e3, h⟩ := Option.bind_eq_some_iff.mp h
        cases t3 with
        | false => rw [if_neg (by simp)] at h; exact absurd (ordered_j1 h).1 (by simp)
        | true =>
          rw [if_pos rfl] at h
          obtain ⟨t4, e4, h⟩ := Option.bind_eq_some_iff.mp h
          cases t4 with
          | false => rw [if_neg (by simp)] at h; exact absurd (ordered_j1 h).1 (by simp)
          | true =>
            rw [if_pos rfl] at h
            obtain ⟨t5, e5, h⟩ := Option.bind_eq_some_iff.mp h
            obtain ⟨t6, e6, h⟩ := Option.bind_eq_some_iff.mp h
            obtain ⟨_, k', hk', h'⟩ := ordered_j1 h
            have hw : wrap64 ((j : Int) + 1) = ((j + 1 : Nat) : Int) := by unfold wrap64; omega
            rw [hw] at h'
            obtain ⟨r1, r2⟩ := ih k' (by omega) (j + 1) h'
            refine ⟨r1, fun i hi hil => ?_⟩
            by_cases e : i = j
            · subst e; exact ⟨in_true_ord e3, in_true_ord e4⟩
            · exact r2 i (by omega) hil
      · rw [if_neg h1] at h
        have h2 : decide ((l.length : Int) ≤ 60) = true := Option.some.inj h
        have h3 := of_decide_eq_true h2
        exact ⟨by omega, fun i hi hil => by omega⟩

end Go.Proofs.Ytncombcckeeecaa.Q
