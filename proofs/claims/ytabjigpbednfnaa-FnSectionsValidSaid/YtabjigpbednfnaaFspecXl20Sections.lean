-- written by mp.py, a program of this session's, out of the kit's print program and the translation
import Derived.Test.YtabjigpbednfnaaF0
import Derived.Test.YtabjigpbednfnaaFA
namespace Go.Proofs.Ytabjigpbednfnaa.Q
open Go.RowKit Go.Proofs.YtabjigpbednfnaaW.PrintWords Go.Proofs.YtabjigpbednfnaaW.PrintLast Go.Proofs.YtabjigpbednfnaaW.PrintMore
attribute [local go_sem] max2_int min2_int max_two min_two max_three min_three max_four min_four   -- for this text's walks alone
set_option linter.unusedVariables false
set_option linter.unusedSimpArgs false

/-! ### spec_l20Sections: function 30 -/
mutual
def spec_l20Sections.l0 : Nat → List (S33) → Int → List (S31) → Int → List Int → Int → Option ((List (S31)) × Int)
  | 0, _, _, _, _, _, _ => none
  | k + 1, x1, x2, x7, x8, x1000, x1001 => if x8 < (x1.length : Int) then (if 0 ≤ x8 then (if ((rd_T33 x1 x8).f0) > 0 then ((spec_l20Rd_pick.f k x1000 x1001 3).bind fun bt106 => (spec_l20Sections.j1 k x1 x2 x7 x8 (decide (bt106.1 > 0)) x1000 bt106.2 0 0 0)) else (spec_l20Sections.j1 k x1 x2 x7 x8 false x1000 x1001 0 0 0)) else (none)) else ((spec_l20Rd_odd.f k x1000 x1001 x2).bind fun bt122 => (if bt122.1 = true then (if (x7.length : Int) = 0 then (spec_l20Sections.j2 k x7 true x1000 bt122.2) else ((spec_l20Rd_pick.f k x1000 bt122.2 3).bind fun bt124 => (spec_l20Sections.j2 k x7 (bt124.1 == 0) x1000 bt124.2))) else (some (x7, bt122.2))))
def spec_l20Sections.j1 : Nat → List (S33) → Int → List (S31) → Int → Bool → List Int → Int → Int → Int → Int → Option ((List (S31)) × Int)
  | 0, _, _, _, _, _, _, _, _, _, _ => none
  | k + 1, x1, x2, x7, x8, x28, x1000, x1001, x105000, x105001, x105002 => if x28 = true then (if 0 ≤ x8 then (if x8 < (x1.length : Int) then ((spec_l20Rd_pick.f k x1000 x1001 ((rd_T33 x1 x8).f0)).bind fun bt109 => ((spec_l20Rd_pick.f k x1000 bt109.2 (wrap64 ((wrap64 (((rd_T33 x1 x8).f0) - (wrap64 (1 + bt109.1)))) + 1))).bind fun bt112 => ((spec_l20Rd_pick.f k x1000 bt112.2 2).bind fun bt114 => (if x7.length < 5864062014805 then (spec_l20Sections.l0 k x1 x2 (x7 ++ [(⟨bt112.1, wrap64 (1 + bt109.1), bt114.1⟩ : S31)]) (wrap64 (x8 + 1)) x1000 bt114.2) else (none))))) else (none)) else (none)) else (if x7.length < 5864062014805 then (spec_l20Sections.l0 k x1 x2 (x7 ++ [(⟨x105000, x105001, x105002⟩ : S31)]) (wrap64 (x8 + 1)) x1000 x1001) else (none))
def spec_l20Sections.j2 : Nat → List (S31) → Bool → List Int → Int → Option ((List (S31)) × Int)
  | 0, _, _, _, _ => none
  | k + 1, x7, x67, x1000, x1001 => if x67 = true then (if x7.length < 5864062014805 then (some ((x7 ++ [(⟨0, 0, 0⟩ : S31)]), x1001)) else (none)) else ((spec_l20Rd_pick.f k x1000 x1001 (x7.length : Int)).bind fun bt129 => ((some (([(⟨1, 0, 0⟩ : S31), (⟨0, (-1), 0⟩ : S31), (⟨0, 1, 3⟩ : S31), (⟨0, 9, 0⟩ : S31), (⟨(-1), 1, 0⟩ : S31), (⟨8, 1, 0⟩ : S31)] : List (S31)) : List (S31))).bind fun y131 => ((spec_l20Rd_pick.f k x1000 bt129.2 6).bind fun bt134 => (if 0 ≤ bt134.1 then (if bt134.1 < (y131.length : Int) then (if 0 ≤ bt129.1 then (if bt129.1 < (x7.length : Int) then (some ((x7.set (bt129.1 : Int).toNat (⟨(rd_T31 y131 bt134.1).f0, (rd_T31 y131 bt134.1).f1, (rd_T31 y131 bt134.1).f2⟩ : S31)), bt134.2)) else (none)) else (none)) else (none)) else (none)))))
end
def spec_l20Sections.f (k : Nat) (s0_0 : List Int) (s0_1 : Int) (l1 : List (S33)) (a2 : Int) : Option ((List (S31)) × Int) := spec_l20Sections.l0 k l1 a2 (([] : List (S31))) 0 s0_0 s0_1
theorem spec_l20Sections.mono_l : ∀ k, (∀ y0 y1 y2 y3 y4 y5, LeO (spec_l20Sections.l0 k y0 y1 y2 y3 y4 y5) (spec_l20Sections.l0 (k + 1) y0 y1 y2 y3 y4 y5)) ∧ (∀ y0 y1 y2 y3 y4 y5 y6 y7 y8 y9, LeO (spec_l20Sections.j1 k y0 y1 y2 y3 y4 y5 y6 y7 y8 y9) (spec_l20Sections.j1 (k + 1) y0 y1 y2 y3 y4 y5 y6 y7 y8 y9)) ∧ (∀ y0 y1 y2 y3, LeO (spec_l20Sections.j2 k y0 y1 y2 y3) (spec_l20Sections.j2 (k + 1) y0 y1 y2 y3))
  | 0 => ⟨fun _ _ _ _ _ _ r h => by simp [spec_l20Sections.l0] at h, fun _ _ _ _ _ _ _ _ _ _ r h => by simp [spec_l20Sections.j1] at h, fun _ _ _ _ r h => by simp [spec_l20Sections.j2] at h⟩
  | k + 1 => by
    obtain ⟨ih0, ih1, ih2⟩ := spec_l20Sections.mono_l k
    refine ⟨?_, ?_, ?_⟩
    · intro y0 y1 y2 y3 y4 y5
      unfold spec_l20Sections.l0
      repeat' first
      | (with_reducible exact ih0 _ _ _ _ _ _)
      | (with_reducible exact ih1 _ _ _ _ _ _ _ _ _ _)
      | (with_reducible exact ih2 _ _ _ _)
      | (with_reducible exact spec_l20Rd_odd.mono _ _ _ _)
      | (with_reducible exact spec_l20Rd_pick.mono _ _ _ _)
      | (with_reducible exact LeO.refl _)
      | (with_reducible exact LeO.none _)
      | (with_reducible refine LeO.ite ?_ ?_)
      | (with_reducible refine LeO.bind ?_ (fun _ => ?_))
      | exact ih0 _ _ _ _ _ _
      | exact ih1 _ _ _ _ _ _ _ _ _ _
      | exact ih2 _ _ _ _
      | exact spec_l20Rd_odd.mono _ _ _ _
      | exact spec_l20Rd_pick.mono _ _ _ _
      | exact LeO.none _
      | refine LeO.ite ?_ ?_
      | refine LeO.bind ?_ (fun _ => ?_)
    · intro y0 y1 y2 y3 y4 y5 y6 y7 y8 y9
      unfold spec_l20Sections.j1
      repeat' first
      | (with_reducible exact ih0 _ _ _ _ _ _)
      | (with_reducible exact ih1 _ _ _ _ _ _ _ _ _ _)
      | (with_reducible exact ih2 _ _ _ _)
      | (with_reducible exact spec_l20Rd_odd.mono _ _ _ _)
      | (with_reducible exact spec_l20Rd_pick.mono _ _ _ _)
      | (with_reducible exact LeO.refl _)
      | (with_reducible exact LeO.none _)
      | (with_reducible refine LeO.ite ?_ ?_)
      | (with_reducible refine LeO.bind ?_ (fun _ => ?_))
      | exact ih0 _ _ _ _ _ _
      | exact ih1 _ _ _ _ _ _ _ _ _ _
      | exact ih2 _ _ _ _
      | exact spec_l20Rd_odd.mono _ _ _ _
      | exact spec_l20Rd_pick.mono _ _ _ _
      | exact LeO.none _
      | refine LeO.ite ?_ ?_
      | refine LeO.bind ?_ (fun _ => ?_)
    · intro y0 y1 y2 y3
      unfold spec_l20Sections.j2
      repeat' first
      | (with_reducible exact ih0 _ _ _ _ _ _)
      | (with_reducible exact ih1 _ _ _ _ _ _ _ _ _ _)
      | (with_reducible exact ih2 _ _ _ _)
      | (with_reducible exact spec_l20Rd_odd.mono _ _ _ _)
      | (with_reducible exact spec_l20Rd_pick.mono _ _ _ _)
      | (with_reducible exact LeO.refl _)
      | (with_reducible exact LeO.none _)
      | (with_reducible refine LeO.ite ?_ ?_)
      | (with_reducible refine LeO.bind ?_ (fun _ => ?_))
      | exact ih0 _ _ _ _ _ _
      | exact ih1 _ _ _ _ _ _ _ _ _ _
      | exact ih2 _ _ _ _
      | exact spec_l20Rd_odd.mono _ _ _ _
      | exact spec_l20Rd_pick.mono _ _ _ _
      | exact LeO.none _
      | refine LeO.ite ?_ ?_
      | refine LeO.bind ?_ (fun _ => ?_)
theorem spec_l20Sections.mono : ∀ a0 a1 a2 a3 k, LeO (spec_l20Sections.f k a0 a1 a2 a3) (spec_l20Sections.f (k + 1) a0 a1 a2 a3) := by
  intro a0 a1 a2 a3 k
  obtain ⟨ih0, ih1, ih2⟩ := spec_l20Sections.mono_l k
  unfold spec_l20Sections.f
  repeat' first
      | (with_reducible exact ih0 _ _ _ _ _ _)
      | (with_reducible exact ih1 _ _ _ _ _ _ _ _ _ _)
      | (with_reducible exact ih2 _ _ _ _)
      | (with_reducible exact spec_l20Rd_odd.mono _ _ _ _)
      | (with_reducible exact spec_l20Rd_pick.mono _ _ _ _)
      | (with_reducible exact LeO.refl _)
      | (with_reducible exact LeO.none _)
      | (with_reducible refine LeO.ite ?_ ?_)
      | (with_reducible refine LeO.bind ?_ (fun _ => ?_))
      | exact ih0 _ _ _ _ _ _
      | exact ih1 _ _ _ _ _ _ _ _ _ _
      | exact ih2 _ _ _ _
      | exact spec_l20Rd_odd.mono _ _ _ _
      | exact spec_l20Rd_pick.mono _ _ _ _
      | exact LeO.none _
      | refine LeO.ite ?_ ?_
      | refine LeO.bind ?_ (fun _ => ?_)
def spec_l20Sections.T8 : Bool × List (List Nat × List Nat) := (true, [([], []), ([], []), ([], []), ([1, 2], [1, 2]), ([3], [3]), ([4], [4]), ([], []), ([6], [6]), ([5, 7], [5, 7]), ([8], [8]), ([0, 9], [0, 9]), ([0, 1, 2, 3, 4, 5, 6, 7, 8, 9, 10], []), ([11, 10, 10, 0, 1, 2, 3, 4, 5, 6, 7, 8, 9, 10], [10, 11])])
def spec_l20Sections.B8 : List Nat := [0, 0, 0, 6, 14, 30, 0, 64, 254, 510, 1023, 2047, 4095]
theorem spec_l20Sections.tab8 : rtab .any (opsOf Try.f30 8) = spec_l20Sections.T8 := by kernel_rfl
theorem spec_l20Sections.bits8 : waitsOk spec_l20Sections.T8.2 spec_l20Sections.B8 = true := by kernel_rfl
set_option maxHeartbeats 8000000 in
set_option maxRecDepth 100000 in
theorem spec_l20Sections.calls (k : Nat) (g : Nat) (s0_0 : List Int) (s0_1 : Int) (A1 : Option Addr) (c1 : Nat) (l1 : List (S33)) (a2 : Int) (r1 : List (S31)) (r2 : Int) (w0 w : World) (hI : IsS64 w0 w g s0_0 s0_1) (hB : Below w0.heap.size w0 w) (hr1 : ∀ W_, KeepBut w W_ g none → Kd.C k33 W_ A1 l1.length l1) (hc1 : l1.length ≤ c1) (h : spec_l20Sections.f k s0_0 s0_1 l1 a2 = some (r1, r2)) :
    Calls Try.prog 30 #[.pointer (some ⟨g, 0, none⟩), .slice A1 l1.length c1, .int .i64 a2] w fun e w' => ∃ v0_ : Value, e = .returned (v0_) ∧ Kd.R k31 31 w' w.heap.size (fun _ => True) v0_ r1 ∧ IsS64 w0 w' g s0_0 r2 ∧ Below w0.heap.size w0 w' ∧ KeepBut w w' g none := by
  have hu31 := Try.underlying31
  have HR1 := Aside0.mk hr1
  have HC1 := Aside0.mk hc1
  clear hr1 hc1
  have HI0 := Aside0.mk hI
  have HK := Aside0.mk (KeepBut.refl w g none)
  have HL := Aside0.mk hB.size
  clear hI
  have HW0 := Aside0.mk hB.size
  have HB := Aside0.mk hB
  clear hB
  have H : (spec_l20Sections.l0 k l1 a2 (([] : List (S31))) 0 s0_0 s0_1) = some (r1, r2) := h
  clear h
  obtain ⟨y101, hy101⟩ : ∃ y_ : List (S31), y_ = (([] : List (S31))) := ⟨_, rfl⟩
  replace H : (spec_l20Sections.l0 k l1 a2 y101 0 s0_0 s0_1) = some (r1, r2) := by first | (rw [hy101]; with_reducible exact H) | (have H2_ := (Option.bind_some _ _).symm.trans H; rw [hy101]; with_reducible exact H2_) | (have H2_ := (Option.bind_some _ _).symm.trans H; with_reducible exact H2_) | with_reducible exact H | (rw [hy101]; exact H) | exact H
  have Ny101 := Aside0.mk hy101
  clear hy101
  have H' := Aside0.mk H
  clear H
  go_enter Try.func30, Try.ntmps30
  go_wp2_with (first | ((with_reducible refine gate_dst (N := 10) rfl ?_); refine Kd.R_lit k31 _ 31 ?hg (N := 10) ?hd (xs := ([] : List (S31))) (inner := []) (ok := fun _ => True) (okp := fun _ => True) ?hr ?hp (fun _ hk => hk) trivial (Below.refl _ _) (Nat.le_refl _) (by simp) ?_; (case hd => rfl); (case hg => rfl); (case hr => first | (go_simp; done) | (go_simp; rfl)); (case hp => exact (Reps.none _ _)); intro v102 w4 ho5 hb hg_ hnew_; clear hg_ hnew_; (first | rw [← Ny101.out] at ho5 | (simp only [Int.reduceToNat] at ho5; rw [← Ny101.out] at ho5)); have n0_ := Aside0.mk (Kd.R_lower ho5 (keep_size (w := w) (g := g) (row := none) (by repeat (first | (with_reducible first | exact HK.out | apply KeepBut.set_ | apply keep_drewN | apply keep_drew | apply keep_alloc) | exact HK.out)))); have n1_ := Aside0.mk (IsS64.below (by repeat (first | (with_reducible first | exact HI0.out | apply IsS64.alloc | apply IsS64.drewN | apply IsS64.drew | apply IsS64.set_1) | exact HI0.out)) hb); have n2_ := Aside0.mk (KeepBut.trans (by repeat (first | (with_reducible first | exact HK.out | apply KeepBut.set_ | apply keep_drewN | apply keep_drew | apply keep_alloc) | exact HK.out)) (KeepBut.of_below hb g none) (.inl rfl)); have n3_ := Aside0.mk (below_step (by repeat (first | (with_reducible first | exact HB.out | apply below_alloc | apply pw_below_drewN | apply below_drew1 | refine below_set ?_ (IsS64.ge HI0.out)) | exact HB.out)) hb); clear HI0; clear HK; clear HB; have HO103 := n0_; have HI0 := n1_; have HK := n2_; have HB := n3_; clear n0_ n1_ n2_ n3_; clear hb ho5))
  go_loopg [7, 8] k (fun kq v7 v8 w' => ∃ (x7_1 : List (S31)) (x8_1 : Int) (x1001_1 : Int), v8 = .int .i64 x8_1 ∧ Aside0 (spec_l20Sections.l0 kq l1 a2 x7_1 x8_1 s0_0 x1001_1 = some (r1, r2)) ∧ Aside0 (kq ≤ k) ∧ Aside0 (Kd.R k31 31 w' w.heap.size (fun _ => True) v7 x7_1) ∧ Aside0 (IsS64 w0 w' g s0_0 x1001_1) ∧ Aside0 (KeepBut w w' g none) ∧ Aside0 (Below w0.heap.size w0 w'))
  case atStart => exact ⟨(y101), (0), (s0_1), (by first | rfl | (simp; done) | (simp [*]; done)), H', ⟨Nat.le_refl _⟩, ⟨by (with_reducible repeat (first | apply Kd.R_alloc | apply Kd.R_drewN | apply Kd.R_drew)); exact HO103.out⟩, ⟨by repeat (first | (with_reducible first | exact HI0.out | apply IsS64.alloc | apply IsS64.drewN | apply IsS64.drew | apply IsS64.set_1) | exact HI0.out)⟩, ⟨by repeat (first | (with_reducible first | exact HK.out | apply KeepBut.set_ | apply keep_drewN | apply keep_drew | apply keep_alloc) | exact HK.out)⟩, ⟨by repeat (first | (with_reducible first | exact HB.out | apply below_alloc | apply pw_below_drewN | apply below_drew1 | refine below_set ?_ (IsS64.ge HI0.out)) | exact HB.out)⟩⟩
  case round =>
    clear H'
    try clear c1
    try clear p2
    try clear c3
    obtain ⟨x7_1, x8_1, x1001_1, rfl, HA, HK1, HO_7, HI0, HK, HB⟩ := hrel
    cases gk with
    | zero => exact absurd HA.out (by simp [spec_l20Sections.l0])
    | succ k1 =>
      have H := HA.out
      clear HA
      simp only [spec_l20Sections.l0] at H
      by_cases c6 : x8_1 < (l1.length : Int)
      · rw [if_pos c6] at H
        have c6b0 : decide (x8_1 < (l1.length : Int)) = true := decide_eq_true c6
        clear c6
        have HC7 := Aside0.mk H
        clear H
        go_upto_region 6 with (first | ((with_reducible refine gate_dst (N := 9) rfl ?_); refine box_event ?hg (N := 9) ?hd (cs := #[.int .i64 0, .int .i64 0, .int .i64 0]) (t := 31) ?hr ?_; (case hd => rfl); (case hg => rfl); (case hr => first | (go_simp; done) | (go_simp; rfl)); intro gb104 hg w8 hbox hb; have n0_ := Aside0.mk (Kd.R_below (Kd.R_elderB (by (with_reducible repeat (first | apply Kd.R_alloc | apply Kd.R_drewN | apply Kd.R_drew)); exact HO_7.out) gb104 (Nat.le_of_eq hg.symm)) hb); have n1_ := Aside0.mk (IsS64.below (by repeat (first | (with_reducible first | exact HI0.out | apply IsS64.alloc | apply IsS64.drewN | apply IsS64.drew | apply IsS64.set_1) | exact HI0.out)) hb); have n2_ := Aside0.mk (KeepBut.trans (by repeat (first | (with_reducible first | exact HK.out | apply KeepBut.set_ | apply keep_drewN | apply keep_drew | apply keep_alloc) | exact HK.out)) (KeepBut.of_below hb g none) (.inl rfl)); have n3_ := Aside0.mk (below_step (by repeat (first | (with_reducible first | exact HB.out | apply below_alloc | apply pw_below_drewN | apply below_drew1 | refine below_set ?_ (IsS64.ge HI0.out)) | exact HB.out)) hb); have n4_ := Aside0.mk (hbox); have n5_ := Aside0.mk ((by rw [hg]; exact (keep_size (w := w) (g := g) (row := none) (by repeat (first | (with_reducible first | exact HK.out | apply KeepBut.set_ | apply keep_drewN | apply keep_drew | apply keep_alloc) | exact HK.out))) : w.heap.size ≤ gb104)); have n6_ := Aside0.mk ((Nat.le_trans HW0.out (by rw [hg]; exact (keep_size (w := w) (g := g) (row := none) (by repeat (first | (with_reducible first | exact HK.out | apply KeepBut.set_ | apply keep_drewN | apply keep_drew | apply keep_alloc) | exact HK.out))) : w.heap.size ≤ gb104) : w0.heap.size ≤ gb104)); have n7_ := Aside0.mk ((by rw [hg]; exact Nat.ne_of_lt (IsS64.lt (show IsS64 w0 _ g s0_0 x1001_1 from by repeat (first | (with_reducible first | exact HI0.out | apply IsS64.alloc | apply IsS64.drewN | apply IsS64.drew | apply IsS64.set_1) | exact HI0.out))) : g ≠ gb104)); have n8_ := Aside0.mk ((by rw [hg]; exact Nat.ne_of_gt (IsS64.lt (show IsS64 w0 _ g s0_0 x1001_1 from by repeat (first | (with_reducible first | exact HI0.out | apply IsS64.alloc | apply IsS64.drewN | apply IsS64.drew | apply IsS64.set_1) | exact HI0.out))) : gb104 ≠ g)); clear HO_7; clear HI0; clear HK; clear HB; have HO_7 := n0_; have HI0 := n1_; have HK := n2_; have HB := n3_; have BK104 := n4_; have GW104 := n5_; have GE104 := n6_; have NB0_104 := n7_; have NB104_0 := n8_; clear n0_ n1_ n2_ n3_ n4_ n5_ n6_ n7_ n8_; clear hb hbox hg; have hnb9 := NB104_0.out; have hnc9 := NB0_104.out; have hcz10_0 : w8.cell? ⟨gb104, 0, none⟩ = some (.int .i64 0) := (blk_cell BK104.out 0).trans rfl; have hcz10_1 : w8.cell? ⟨gb104, 1, none⟩ = some (.int .i64 0) := (blk_cell BK104.out 1).trans rfl; have hcz10_2 : w8.cell? ⟨gb104, 2, none⟩ = some (.int .i64 0) := (blk_cell BK104.out 2).trans rfl; have hfz10_0 := blk_frozen BK104.out 0; have hfz10_1 := blk_frozen BK104.out 1; have hfz10_2 := blk_frozen BK104.out 2))
        (try simp only [Act.put, List.setIfInBounds_toArray, List.set_cons_zero, List.set_cons_succ])
        go_cut [28] (fun v28 wc => ∃ (kq : Nat) (x28_6 : Bool) (x1001_6 : Int), v28 = .bool x28_6 ∧ Aside0 (spec_l20Sections.j1 kq l1 a2 x7_1 x8_1 x28_6 s0_0 x1001_6 0 0 0 = some (r1, r2)) ∧ Aside0 (kq ≤ k1) ∧ Aside0 (Kd.R k31 31 wc w.heap.size (fun k_ => k_ ≠ gb104) u7 x7_1) ∧ Aside0 (wc.heap[gb104]? = some (.cells #[.int .i64 0, .int .i64 0, .int .i64 0] 31 (0, 0))) ∧ Aside0 (IsS64 w0 wc g s0_0 x1001_6) ∧ Aside0 (KeepBut w wc g none) ∧ Aside0 (Below w0.heap.size w0 wc))
        case first =>
          have H := HC7.out
          clear HC7
          by_cases c11 : 0 ≤ x8_1
          · rw [if_pos c11] at H
            have c11b0 : decide (0 ≤ x8_1) = true := decide_eq_true c11
            clear c11
            (first | rw [c11b0] | (simp only [i64_w, i32_w]; rw [c11b0]) | skip)
            by_cases c12 : ((rd_T33 l1 x8_1).f0) > 0
            · rw [if_pos c12] at H
              have c12b0 : decide (0 < ((rd_T33 l1 x8_1).f0)) = true := decide_eq_true c12
              clear c12
              replace H := Option.bind_eq_some_iff.mp H
              obtain ⟨⟨t106, t107⟩, A130, H⟩ := H
              replace H : (spec_l20Sections.j1 k1 l1 a2 x7_1 x8_1 (decide (t106 > 0)) s0_0 t107 0 0 0) = some (r1, r2) := H
              have A13 := Aside0.mk A130
              clear A130
              have H' := Aside0.mk H
              clear H
              have p105 : 0 ≤ (x8_1 : Int) := of_decide_eq_true (by first | (with_reducible assumption) | assumption)
              have q105 : x8_1 < (l1.length : Int) := of_decide_eq_true (by first | (with_reducible assumption) | assumption)
              obtain ⟨ad105, e105, hx105_0, hx105_1, hx105_2⟩ := at_T33 (Kd.C_foot_now HR1.out (show KeepBut w (((w8.setCell ⟨gb104, 0, none⟩ (.int .i64 0)).setCell ⟨gb104, 1, none⟩ (.int .i64 0)).setCell ⟨gb104, 2, none⟩ (.int .i64 0)) g none from by repeat (first | (with_reducible first | exact HK.out | apply KeepBut.set_ | apply keep_drewN | apply keep_drew | apply keep_alloc | refine keep_far ?_ GW104.out _) | exact HK.out))) x8_1 p105 q105
              cases e105
              replace p105 := eq_true p105
              replace q105 := eq_true q105
              go_wp2_with (first | (go_at_call 38; (with_reducible refine (spec_l20Rd_pick.calls k1 g s0_0 x1001_1 3 t106 t107 w0 _ ?side1 ?side2 A13.out).mono ?_); (case side1 => repeat (first | (with_reducible first | exact HI0.out | apply IsS64.alloc | apply IsS64.drewN | apply IsS64.drew | apply IsS64.set_1 | refine IsS64.far ?_ NB0_104.out _) | exact HI0.out)); (case side2 => repeat (first | (with_reducible first | exact HB.out | apply below_alloc | apply pw_below_drewN | apply below_drew1 | refine below_set ?_ (IsS64.ge HI0.out) | refine below_set ?_ GE104.out) | exact HB.out)); rintro e w14 ⟨rfl, hi, hb, hk⟩; have n0_ := Aside0.mk (Kd.R_mono (Kd.R_keep (IsS64.apart (show IsS64 w0 _ g s0_0 x1001_1 from by repeat (first | (with_reducible first | exact HI0.out | apply IsS64.alloc | apply IsS64.drewN | apply IsS64.drew | apply IsS64.set_1 | refine IsS64.far ?_ NB0_104.out _) | exact HI0.out)) (by (with_reducible repeat (first | apply Kd.R_alloc | apply Kd.R_drewN | apply Kd.R_drew)); exact (Kd.R_mono (Kd.R_far (p := ⟨gb104, 2, none⟩) (Kd.R_far (p := ⟨gb104, 1, none⟩) (Kd.R_far (p := ⟨gb104, 0, none⟩) (Kd.R_mono HO_7.out (fun k_ hk => (⟨hk, hk.2⟩ : _ ∧ k_ ≠ gb104))) (fun _ hk => hk.2) (.int .i64 0)) (fun _ hk => hk.2) (.int .i64 0)) (fun _ hk => hk.2) (.int .i64 0)) (fun _ h_ => h_.1))) (by decide)) hk (fun _ h => h.2)) (fun _ h => h.1)); have n1_ := Aside0.mk (KeepBut.blk hk (g' := gb104) (o := .cells #[.int .i64 0, .int .i64 0, .int .i64 0] 31 (0, 0)) (by (with_reducible repeat (first | refine blk_drewN ?_ _ | refine blk_drew ?_ | refine blk_alloc ?_ _)); refine blk_put (cs := #[.int .i64 0, .int .i64 0, .int .i64 0]) ?_ 2 _ rfl; (with_reducible repeat (first | refine blk_drewN ?_ _ | refine blk_drew ?_ | refine blk_alloc ?_ _)); refine blk_put (cs := #[.int .i64 0, .int .i64 0, .int .i64 0]) ?_ 1 _ rfl; (with_reducible repeat (first | refine blk_drewN ?_ _ | refine blk_drew ?_ | refine blk_alloc ?_ _)); refine blk_put (cs := #[.int .i64 0, .int .i64 0, .int .i64 0]) ?_ 0 _ rfl; (with_reducible repeat (first | refine blk_drewN ?_ _ | refine blk_drew ?_ | refine blk_alloc ?_ _)); exact BK104.out) NB104_0.out (by simp)); have n2_ := Aside0.mk (KeepBut.trans (by repeat (first | (with_reducible first | exact HK.out | apply KeepBut.set_ | apply keep_drewN | apply keep_drew | apply keep_alloc | refine keep_far ?_ GW104.out _) | exact HK.out)) hk (.inl rfl)); have n3_ := Aside0.mk (hb); have n4_ := Aside0.mk (hi); clear HO_7; clear BK104; clear HK; clear HB; clear HI0; have HO_7 := n0_; have BK104 := n1_; have HK := n2_; have HB := n3_; have HI0 := n4_; clear n0_ n1_ n2_ n3_ n4_; (try clear hb); (try clear hb2); (try clear hk); (try clear hi)))
              go_meet
              case rel => exact ⟨_, (decide (t106 > 0)), (t107), (by first | rfl | (simp; done) | (simp [*]; done)), H', ⟨by have := HK1.out; first | omega | exact Nat.le_refl _⟩, ⟨by (with_reducible repeat (first | apply Kd.R_alloc | apply Kd.R_drewN | apply Kd.R_drew)); exact Kd.R_mono HO_7.out (fun _ hk => hk.2)⟩, ⟨by (with_reducible repeat (first | refine blk_drewN ?_ _ | refine blk_drew ?_ | refine blk_alloc ?_ _)); exact BK104.out⟩, ⟨by repeat (first | (with_reducible first | exact HI0.out | apply IsS64.alloc | apply IsS64.drewN | apply IsS64.drew | apply IsS64.set_1 | refine IsS64.far ?_ NB0_104.out _) | exact HI0.out)⟩, ⟨by repeat (first | (with_reducible first | exact HK.out | apply KeepBut.set_ | apply keep_drewN | apply keep_drew | apply keep_alloc | refine keep_far ?_ GW104.out _) | exact HK.out)⟩, ⟨by repeat (first | (with_reducible first | exact HB.out | apply below_alloc | apply pw_below_drewN | apply below_drew1 | refine below_set ?_ (IsS64.ge HI0.out) | refine below_set ?_ GE104.out) | exact HB.out)⟩⟩
            · rw [if_neg c12] at H
              have c12b0 : decide (0 < ((rd_T33 l1 x8_1).f0)) = false := decide_eq_false c12
              clear c12
              have H' := Aside0.mk H
              clear H
              have p105 : 0 ≤ (x8_1 : Int) := of_decide_eq_true (by first | (with_reducible assumption) | assumption)
              have q105 : x8_1 < (l1.length : Int) := of_decide_eq_true (by first | (with_reducible assumption) | assumption)
              obtain ⟨ad105, e105, hx105_0, hx105_1, hx105_2⟩ := at_T33 (Kd.C_foot_now HR1.out (show KeepBut w (((w8.setCell ⟨gb104, 0, none⟩ (.int .i64 0)).setCell ⟨gb104, 1, none⟩ (.int .i64 0)).setCell ⟨gb104, 2, none⟩ (.int .i64 0)) g none from by repeat (first | (with_reducible first | exact HK.out | apply KeepBut.set_ | apply keep_drewN | apply keep_drew | apply keep_alloc | refine keep_far ?_ GW104.out _) | exact HK.out))) x8_1 p105 q105
              cases e105
              replace p105 := eq_true p105
              replace q105 := eq_true q105
              go_wp2
              go_meet
              case rel => exact ⟨_, (false), (x1001_1), (by first | rfl | (simp; done) | (simp [*]; done)), H', ⟨by have := HK1.out; first | omega | exact Nat.le_refl _⟩, ⟨by (with_reducible repeat (first | apply Kd.R_alloc | apply Kd.R_drewN | apply Kd.R_drew)); exact Kd.R_mono (Kd.R_far (p := ⟨gb104, 2, none⟩) (Kd.R_far (p := ⟨gb104, 1, none⟩) (Kd.R_far (p := ⟨gb104, 0, none⟩) (Kd.R_mono HO_7.out (fun k_ hk => (⟨hk, hk.2⟩ : _ ∧ k_ ≠ gb104))) (fun _ hk => hk.2) (.int .i64 0)) (fun _ hk => hk.2) (.int .i64 0)) (fun _ hk => hk.2) (.int .i64 0)) (fun _ hk => hk.1.2)⟩, ⟨by (with_reducible repeat (first | refine blk_drewN ?_ _ | refine blk_drew ?_ | refine blk_alloc ?_ _)); refine blk_put (cs := #[.int .i64 0, .int .i64 0, .int .i64 0]) ?_ 2 _ rfl; (with_reducible repeat (first | refine blk_drewN ?_ _ | refine blk_drew ?_ | refine blk_alloc ?_ _)); refine blk_put (cs := #[.int .i64 0, .int .i64 0, .int .i64 0]) ?_ 1 _ rfl; (with_reducible repeat (first | refine blk_drewN ?_ _ | refine blk_drew ?_ | refine blk_alloc ?_ _)); refine blk_put (cs := #[.int .i64 0, .int .i64 0, .int .i64 0]) ?_ 0 _ rfl; (with_reducible repeat (first | refine blk_drewN ?_ _ | refine blk_drew ?_ | refine blk_alloc ?_ _)); exact BK104.out⟩, ⟨by repeat (first | (with_reducible first | exact HI0.out | apply IsS64.alloc | apply IsS64.drewN | apply IsS64.drew | apply IsS64.set_1 | refine IsS64.far ?_ NB0_104.out _) | exact HI0.out)⟩, ⟨by repeat (first | (with_reducible first | exact HK.out | apply KeepBut.set_ | apply keep_drewN | apply keep_drew | apply keep_alloc | refine keep_far ?_ GW104.out _) | exact HK.out)⟩, ⟨by repeat (first | (with_reducible first | exact HB.out | apply below_alloc | apply pw_below_drewN | apply below_drew1 | refine below_set ?_ (IsS64.ge HI0.out) | refine below_set ?_ GE104.out) | exact HB.out)⟩⟩
          · rw [if_neg c11] at H
            exact absurd H (by simp)
        case rest =>
          clear HC7
          try clear c1
          try clear p1
          try clear q1
          try clear hx1
          try clear p2
          try clear c3
          try clear c6
          try clear c6b0
          try clear c9
          try clear p10
          try clear q10
          try clear hx10
          try clear c11
          try clear c11b0
          try clear c12
          try clear c12b0
          try clear hcz10_0
          try clear hcz10_1
          try clear hcz10_2
          try clear hfz10_0
          try clear hfz10_1
          try clear hfz10_2
          try clear hx105_0
          try clear hx105_1
          try clear hx105_2
          try clear p105
          try clear p2
          try clear q105
          obtain ⟨kq, x28_6, x1001_6, rfl, HA, HJ6, HO_7, BK104, HI0, HK, HB⟩ := hcut
          cases kq with
          | zero => exact absurd HA.out (by simp [spec_l20Sections.j1])
          | succ kj6 =>
            have H := HA.out
            clear HA
            simp only [spec_l20Sections.j1] at H
            by_cases c15 : x28_6 = true
            · subst c15
              have H1 : (if 0 ≤ x8_1 then (if x8_1 < (l1.length : Int) then ((spec_l20Rd_pick.f kj6 s0_0 x1001_6 ((rd_T33 l1 x8_1).f0)).bind fun bt109 => ((spec_l20Rd_pick.f kj6 s0_0 bt109.2 (wrap64 ((wrap64 (((rd_T33 l1 x8_1).f0) - (wrap64 (1 + bt109.1)))) + 1))).bind fun bt112 => ((spec_l20Rd_pick.f kj6 s0_0 bt112.2 2).bind fun bt114 => (if x7_1.length < 5864062014805 then (spec_l20Sections.l0 kj6 l1 a2 (x7_1 ++ [(⟨bt112.1, wrap64 (1 + bt109.1), bt114.1⟩ : S31)]) (wrap64 (x8_1 + 1)) s0_0 bt114.2) else (none))))) else (none)) else (none)) = some (r1, r2) := by rw [if_pos rfl] at H; exact H
              clear H
              have H := H1
              clear H1
              by_cases c16 : 0 ≤ x8_1
              · rw [if_pos c16] at H
                have c16b0 : decide (0 ≤ x8_1) = true := decide_eq_true c16
                clear c16
                by_cases c17 : x8_1 < (l1.length : Int)
                · rw [if_pos c17] at H
                  have c17b0 : decide (x8_1 < (l1.length : Int)) = true := decide_eq_true c17
                  clear c17
                  replace H := Option.bind_eq_some_iff.mp H
                  obtain ⟨⟨t109, t110⟩, A180, H⟩ := H
                  replace H : ((spec_l20Rd_pick.f kj6 s0_0 t110 (wrap64 ((wrap64 (((rd_T33 l1 x8_1).f0) - (wrap64 (1 + t109)))) + 1))).bind fun bt112 => ((spec_l20Rd_pick.f kj6 s0_0 bt112.2 2).bind fun bt114 => (if x7_1.length < 5864062014805 then (spec_l20Sections.l0 kj6 l1 a2 (x7_1 ++ [(⟨bt112.1, wrap64 (1 + t109), bt114.1⟩ : S31)]) (wrap64 (x8_1 + 1)) s0_0 bt114.2) else (none)))) = some (r1, r2) := H
                  have A18 := Aside0.mk A180
                  clear A180
                  replace H := Option.bind_eq_some_iff.mp H
                  obtain ⟨⟨t112, t113⟩, A190, H⟩ := H
                  replace H : ((spec_l20Rd_pick.f kj6 s0_0 t113 2).bind fun bt114 => (if x7_1.length < 5864062014805 then (spec_l20Sections.l0 kj6 l1 a2 (x7_1 ++ [(⟨t112, wrap64 (1 + t109), bt114.1⟩ : S31)]) (wrap64 (x8_1 + 1)) s0_0 bt114.2) else (none))) = some (r1, r2) := H
                  have A19 := Aside0.mk A190
                  clear A190
                  replace H := Option.bind_eq_some_iff.mp H
                  obtain ⟨⟨t114, t115⟩, A200, H⟩ := H
                  replace H : (if x7_1.length < 5864062014805 then (spec_l20Sections.l0 kj6 l1 a2 (x7_1 ++ [(⟨t112, wrap64 (1 + t109), t114⟩ : S31)]) (wrap64 (x8_1 + 1)) s0_0 t115) else (none)) = some (r1, r2) := H
                  have A20 := Aside0.mk A200
                  clear A200
                  by_cases c21 : x7_1.length < 5864062014805
                  · rw [if_pos c21] at H
                    have LMc21 := Aside0.mk c21
                    clear c21
                    obtain ⟨y116, hy116⟩ : ∃ y_ : List (S31), y_ = (x7_1 ++ [(⟨t112, wrap64 (1 + t109), t114⟩ : S31)]) := ⟨_, rfl⟩
                    replace H : (spec_l20Sections.l0 kj6 l1 a2 y116 (wrap64 (x8_1 + 1)) s0_0 t115) = some (r1, r2) := by first | (rw [hy116]; with_reducible exact H) | (have H2_ := (Option.bind_some _ _).symm.trans H; rw [hy116]; with_reducible exact H2_) | (have H2_ := (Option.bind_some _ _).symm.trans H; with_reducible exact H2_) | with_reducible exact H | (rw [hy116]; exact H) | exact H
                    have Ny116 := Aside0.mk hy116
                    clear hy116
                    have H' := Aside0.mk H
                    clear H
                    have p108 : 0 ≤ (x8_1 : Int) := of_decide_eq_true (by first | (with_reducible assumption) | assumption)
                    have q108 : x8_1 < (l1.length : Int) := of_decide_eq_true (by first | (with_reducible assumption) | assumption)
                    obtain ⟨ad108, e108, hx108_0, hx108_1, hx108_2⟩ := at_T33 (Kd.C_foot_now HR1.out HK.out) x8_1 p108 q108
                    cases e108
                    replace p108 := eq_true p108
                    replace q108 := eq_true q108
                    try go_wp2_with (first | ((with_reducible refine gate_callee (f := 38) rfl ?_); refine goesL_ (some 35) rfl rfl Try.func38 (by kernel_rfl) rfl #[.pointer (some ⟨g, 0, none⟩), .int .i64 ((rd_T33 l1 x8_1).f0)] rfl (by (try simp only [List.map_toArray, List.map_cons, List.map_nil]); first | done | rfl | (simp only [List.length_drop, List.length_take]; rfl)) ?_; (with_reducible refine (spec_l20Rd_pick.calls kj6 g s0_0 x1001_6 ((rd_T33 l1 x8_1).f0) t109 t110 w0 _ ?side1 ?side2 A18.out).mono ?_); (case side1 => repeat (first | (with_reducible first | exact HI0.out | apply IsS64.alloc | apply IsS64.drewN | apply IsS64.drew | apply IsS64.set_1 | refine IsS64.far ?_ NB0_104.out _) | exact HI0.out)); (case side2 => repeat (first | (with_reducible first | exact HB.out | apply below_alloc | apply pw_below_drewN | apply below_drew1 | refine below_set ?_ (IsS64.ge HI0.out) | refine below_set ?_ GE104.out) | exact HB.out)); rintro e w22 ⟨rfl, hi, hb, hk⟩; refine ⟨_, rfl, ?_⟩; have n0_ := Aside0.mk (Kd.R_mono (Kd.R_keep (IsS64.apart (show IsS64 w0 _ g s0_0 x1001_6 from by repeat (first | (with_reducible first | exact HI0.out | apply IsS64.alloc | apply IsS64.drewN | apply IsS64.drew | apply IsS64.set_1 | refine IsS64.far ?_ NB0_104.out _) | exact HI0.out)) (by (with_reducible repeat (first | apply Kd.R_alloc | apply Kd.R_drewN | apply Kd.R_drew)); exact HO_7.out) (by decide)) hk (fun _ h => h.2)) (fun _ h => h.1)); have n1_ := Aside0.mk (KeepBut.blk hk (g' := gb104) (o := .cells #[.int .i64 0, .int .i64 0, .int .i64 0] 31 (0, 0)) (by (with_reducible repeat (first | refine blk_drewN ?_ _ | refine blk_drew ?_ | refine blk_alloc ?_ _)); exact BK104.out) NB104_0.out (by simp)); have n2_ := Aside0.mk (KeepBut.trans (by repeat (first | (with_reducible first | exact HK.out | apply KeepBut.set_ | apply keep_drewN | apply keep_drew | apply keep_alloc | refine keep_far ?_ GW104.out _) | exact HK.out)) hk (.inl rfl)); have n3_ := Aside0.mk (hb); have n4_ := Aside0.mk (hi); clear HO_7; clear BK104; clear HK; clear HB; clear HI0; have HO_7 := n0_; have BK104 := n1_; have HK := n2_; have HB := n3_; have HI0 := n4_; clear n0_ n1_ n2_ n3_ n4_; (try clear hb); (try clear hb2); (try clear hk); (try clear hi); have hnb23 := NB104_0.out; have hnc23 := NB0_104.out; have hcz24_0 : w22.cell? ⟨gb104, 0, none⟩ = some (.int .i64 0) := (blk_cell BK104.out 0).trans rfl; have hcz24_1 : w22.cell? ⟨gb104, 1, none⟩ = some (.int .i64 0) := (blk_cell BK104.out 1).trans rfl; have hcz24_2 : w22.cell? ⟨gb104, 2, none⟩ = some (.int .i64 0) := (blk_cell BK104.out 2).trans rfl; have hfz24_0 := blk_frozen BK104.out 0; have hfz24_1 := blk_frozen BK104.out 1; have hfz24_2 := blk_frozen BK104.out 2))
                    have n0_ : Aside0 (Kd.R k31 31 (w22.setCell ⟨gb104, 1, none⟩ (.int .i64 (wrap64 (1 + t109)))) w.heap.size (fun k_ => k_ ≠ gb104) u7 x7_1) := ⟨by (with_reducible repeat (first | apply Kd.R_alloc | apply Kd.R_drewN | apply Kd.R_drew)); exact Kd.R_mono (Kd.R_far (p := ⟨gb104, 1, none⟩) (Kd.R_mono HO_7.out (fun k_ hk => (⟨hk, hk⟩ : _ ∧ k_ ≠ gb104))) (fun _ hk => hk.2) (.int .i64 (wrap64 (1 + t109)))) (fun _ hk => hk.1)⟩
                    have n1_ : Aside0 ((w22.setCell ⟨gb104, 1, none⟩ (.int .i64 (wrap64 (1 + t109)))).heap[gb104]? = some (.cells #[.int .i64 0, .int .i64 (wrap64 (1 + t109)), .int .i64 0] 31 (0, 0))) := ⟨by (with_reducible repeat (first | refine blk_drewN ?_ _ | refine blk_drew ?_ | refine blk_alloc ?_ _)); refine blk_put (cs := #[.int .i64 0, .int .i64 0, .int .i64 0]) ?_ 1 _ rfl; (with_reducible repeat (first | refine blk_drewN ?_ _ | refine blk_drew ?_ | refine blk_alloc ?_ _)); exact BK104.out⟩
                    have n2_ : Aside0 (IsS64 w0 (w22.setCell ⟨gb104, 1, none⟩ (.int .i64 (wrap64 (1 + t109)))) g s0_0 t110) := ⟨by repeat (first | (with_reducible first | exact HI0.out | apply IsS64.alloc | apply IsS64.drewN | apply IsS64.drew | apply IsS64.set_1 | refine IsS64.far ?_ NB0_104.out _) | exact HI0.out)⟩
                    have n3_ : Aside0 (KeepBut w (w22.setCell ⟨gb104, 1, none⟩ (.int .i64 (wrap64 (1 + t109)))) g none) := ⟨by repeat (first | (with_reducible first | exact HK.out | apply KeepBut.set_ | apply keep_drewN | apply keep_drew | apply keep_alloc | refine keep_far ?_ GW104.out _) | exact HK.out)⟩
                    have n4_ : Aside0 (Below w0.heap.size w0 (w22.setCell ⟨gb104, 1, none⟩ (.int .i64 (wrap64 (1 + t109))))) := ⟨by repeat (first | (with_reducible first | exact HB.out | apply below_alloc | apply pw_below_drewN | apply below_drew1 | refine below_set ?_ (IsS64.ge HI0.out) | refine below_set ?_ GE104.out) | exact HB.out)⟩
                    (try clear HO_7)
                    (try clear BK104)
                    (try clear HI0)
                    (try clear HK)
                    (try clear HB)
                    generalize (w22.setCell ⟨gb104, 1, none⟩ (.int .i64 (wrap64 (1 + t109)))) = w25 at n0_ n1_ n2_ n3_ n4_ ⊢
                    have HO_7 := n0_
                    have BK104 := n1_
                    have HI0 := n2_
                    have HK := n3_
                    have HB := n4_
                    clear n0_ n1_ n2_ n3_ n4_
                    have n0_ := Aside0.mk (Kd.R_drew HO_7.out)
                    have n1_ := Aside0.mk (blk_drew BK104.out)
                    have n2_ := Aside0.mk (IsS64.drew HI0.out)
                    have n3_ := Aside0.mk (keep_drew HK.out)
                    have n4_ := Aside0.mk (below_drew1 HB.out)
                    clear HO_7
                    clear BK104
                    clear HI0
                    clear HK
                    clear HB
                    have HO_7 := n0_
                    have BK104 := n1_
                    have HI0 := n2_
                    have HK := n3_
                    have HB := n4_
                    clear n0_ n1_ n2_ n3_ n4_
                    have p111 : 0 ≤ (x8_1 : Int) := of_decide_eq_true (by first | (with_reducible assumption) | assumption)
                    have q111 : x8_1 < (l1.length : Int) := of_decide_eq_true (by first | (with_reducible assumption) | assumption)
                    obtain ⟨ad111, e111, hx111_0, hx111_1, hx111_2⟩ := at_T33 (Kd.C_foot_now HR1.out HK.out) x8_1 p111 q111
                    have hw111_2 := hx111_2
                    have hw111_1 := hx111_1
                    have hw111_0 := hx111_0
                    obtain rfl : ad108 = ad111 := (by injection e111)
                    have hne111_2 := (show (⟨(ad108.add ((x8_1).toNat * 3)).block, (ad108.add ((x8_1).toNat * 3)).off + 2, none⟩ : Addr).block ≠ g from by first | (rw [add_block]; exact Kd.foot_ne HR1.out (by omega) (by decide)) | (show (Addr.add _ _).block ≠ _; rw [add_block]; exact Kd.foot_ne HR1.out (by omega) (by decide)) | exact Kd.foot_ne HR1.out (by omega) (by decide) | (dsimp only; exact Kd.foot_ne HR1.out (by omega) (by decide)))
                    have hlt111_2 := (Kd.foot_lt HR1.out (by omega) (by decide))
                    have hne111_1 := (show (⟨(ad108.add ((x8_1).toNat * 3)).block, (ad108.add ((x8_1).toNat * 3)).off + 1, none⟩ : Addr).block ≠ g from by first | (rw [add_block]; exact Kd.foot_ne HR1.out (by omega) (by decide)) | (show (Addr.add _ _).block ≠ _; rw [add_block]; exact Kd.foot_ne HR1.out (by omega) (by decide)) | exact Kd.foot_ne HR1.out (by omega) (by decide) | (dsimp only; exact Kd.foot_ne HR1.out (by omega) (by decide)))
                    have hlt111_1 := (Kd.foot_lt HR1.out (by omega) (by decide))
                    have hne111_0 := (show ((ad108.add ((x8_1).toNat * 3)) : Addr).block ≠ g from by first | (rw [add_block]; exact Kd.foot_ne HR1.out (by omega) (by decide)) | (show (Addr.add _ _).block ≠ _; rw [add_block]; exact Kd.foot_ne HR1.out (by omega) (by decide)) | exact Kd.foot_ne HR1.out (by omega) (by decide) | (dsimp only; exact Kd.foot_ne HR1.out (by omega) (by decide)))
                    have hlt111_0 := (Kd.foot_lt HR1.out (by omega) (by decide))
                    replace p111 := eq_true p111
                    replace q111 := eq_true q111
                    refine start_ (n := 13) (S := fun w' => w'.cell? ⟨gb104, 0, none⟩ = some (.int .i64 0) ∧ w'.cell? ⟨gb104, 1, none⟩ = some (.int .i64 (wrap64 (1 + t109))) ∧ w'.cell? ⟨gb104, 2, none⟩ = some (.int .i64 0) ∧ w'.cell? (ad108.add ((x8_1).toNat * 3)) = some (.int .i64 ((rd_T33 l1 x8_1).f0)) ∧ w'.cell? ⟨(ad108.add ((x8_1).toNat * 3)).block, (ad108.add ((x8_1).toNat * 3)).off + 1, none⟩ = some (.int .i64 ((rd_T33 l1 x8_1).f1)) ∧ w'.cell? ⟨(ad108.add ((x8_1).toNat * 3)).block, (ad108.add ((x8_1).toNat * 3)).off + 2, none⟩ = some (.int .i64 ((rd_T33 l1 x8_1).f2))) (ds := [12]) #[false, false, false, false, false, false, false, false, false, false, false, false, false] (by kernel_rfl) rfl rfl ⟨(blk_cell BK104.out 0).trans rfl, (blk_cell BK104.out 1).trans rfl, (blk_cell BK104.out 2).trans rfl, hx111_0, hx111_1, hx111_2⟩ (fun hHeld => ?_); refine with_tabW spec_l20Sections.tab8 spec_l20Sections.bits8 (fun HT_ HW_ => ?_)
                    generalize w25.drew = w26 at HO_7 BK104 HI0 HK HB hx111_0 hx111_1 hx111_2 hHeld ⊢
                    refine pure_ (i := 0) (N := some 38) (v := ?_) (a' := ?_) #[true, false, false, false, false, false, false, false, false, false, false, false, false] rfl rfl (any_of HT_.out (by kernel_rfl)) (fun _ _ _ h => h) (Or.inl ⟨by rfl, ?_⟩) ?_ ?_
                    rotate_left
                    · intro w'
                      go_simp
                      with_reducible rfl
                    rotate_left
                    · simp only [Act.put, List.setIfInBounds_toArray, List.set_cons_zero, List.set_cons_succ, i64_w, i32_w]
                      rfl
                    refine pure_ (i := 1) (N := some 39) (v := ?_) (a' := ?_) #[true, true, false, false, false, false, false, false, false, false, false, false, false] rfl rfl (any_of HT_.out (by kernel_rfl)) (fun _ _ _ h => h) (Or.inl ⟨by rfl, ?_⟩) ?_ ?_
                    rotate_left
                    · intro w'
                      go_simp
                      with_reducible rfl
                    rotate_left
                    · simp only [Act.put, List.setIfInBounds_toArray, List.set_cons_zero, List.set_cons_succ, i64_w, i32_w]
                      rfl
                    refine pure_ (i := 2) (N := some 40) (v := ?_) (a' := ?_) #[true, true, true, false, false, false, false, false, false, false, false, false, false] rfl rfl (any_of HT_.out (by kernel_rfl)) (fun _ _ _ h => h) (Or.inl ⟨by rfl, ?_⟩) ?_ ?_
                    rotate_left
                    · intro w'
                      go_simp
                      with_reducible rfl
                    rotate_left
                    · simp only [Act.put, List.setIfInBounds_toArray, List.set_cons_zero, List.set_cons_succ, i64_w, i32_w]
                      rfl
                    refine pure_ (i := 3) (N := some 41) (v := ?_) (a' := ?_) #[true, true, true, true, false, false, false, false, false, false, false, false, false] rfl rfl (any_of HT_.out (by kernel_rfl)) (fun _ _ _ h => h) (Or.inl ⟨by rfl, ?_⟩) ?_ ?_
                    rotate_left
                    · intro w'
                      go_simp
                      with_reducible rfl
                    rotate_left
                    · simp only [Act.put, List.setIfInBounds_toArray, List.set_cons_zero, List.set_cons_succ, i64_w, i32_w]
                      rfl
                    refine pure_ (i := 4) (N := some 42) (v := ?_) (a' := ?_) #[true, true, true, true, true, false, false, false, false, false, false, false, false] rfl rfl (any_of HT_.out (by kernel_rfl)) (fun _ _ _ h => h) (Or.inl ⟨by rfl, ?_⟩) ?_ ?_
                    rotate_left
                    · intro w'
                      go_simp
                      with_reducible rfl
                    rotate_left
                    · simp only [Act.put, List.setIfInBounds_toArray, List.set_cons_zero, List.set_cons_succ, i64_w, i32_w]
                      rfl
                    refine pure_ (i := 6) (N := some 44) (v := ?_) (a' := ?_) #[true, true, true, true, true, false, true, false, false, false, false, false, false] rfl rfl (any_of HT_.out (by kernel_rfl)) (fun _ _ _ h => h) (Or.inl ⟨by rfl, ?_⟩) ?_ ?_
                    rotate_left
                    · intro w'
                      go_simp
                      with_reducible rfl
                    rotate_left
                    · simp only [Act.put, List.setIfInBounds_toArray, List.set_cons_zero, List.set_cons_succ, i64_w, i32_w]
                      rfl
                    refine take_ (i := 5) (N := some 43) (v := ?_) (a' := ?_) #[true, true, true, true, true, true, true, false, false, false, false, false, false] rfl rfl (take_ofW HT_.out HW_.out (by kernel_rfl)) (fun _ _ _ h => h) (Or.inl ⟨by rfl, ?_⟩) hHeld ?_ ?_
                    rotate_left
                    · rintro w' ⟨s0, s1, s2, s3, s4, s5⟩
                      go_simp
                      with_reducible rfl
                    rotate_left
                    · simp only [Act.put, List.setIfInBounds_toArray, List.set_cons_zero, List.set_cons_succ, i64_w, i32_w]
                      rfl
                    refine take_ (i := 7) (N := some 45) (v := ?_) (a' := ?_) #[true, true, true, true, true, true, true, true, false, false, false, false, false] rfl rfl (take_ofW HT_.out HW_.out (by kernel_rfl)) (fun _ _ _ h => h) (Or.inl ⟨by rfl, ?_⟩) hHeld ?_ ?_
                    rotate_left
                    · rintro w' ⟨s0, s1, s2, s3, s4, s5⟩
                      go_simp
                      with_reducible rfl
                    rotate_left
                    · simp only [Act.put, List.setIfInBounds_toArray, List.set_cons_zero, List.set_cons_succ, i64_w, i32_w]
                      rfl
                    refine pure_ (i := 8) (N := some 46) (v := ?_) (a' := ?_) #[true, true, true, true, true, true, true, true, true, false, false, false, false] rfl rfl (any_of HT_.out (by kernel_rfl)) (fun _ _ _ h => h) (Or.inl ⟨by rfl, ?_⟩) ?_ ?_
                    rotate_left
                    · intro w'
                      go_simp
                      with_reducible rfl
                    rotate_left
                    · simp only [Act.put, List.setIfInBounds_toArray, List.set_cons_zero, List.set_cons_succ, i64_w, i32_w]
                      rfl
                    refine pure_ (i := 9) (N := some 47) (v := ?_) (a' := ?_) #[true, true, true, true, true, true, true, true, true, true, false, false, false] rfl rfl (any_of HT_.out (by kernel_rfl)) (fun _ _ _ h => h) (Or.inl ⟨by rfl, ?_⟩) ?_ ?_
                    rotate_left
                    · intro w'
                      go_simp
                      with_reducible rfl
                    rotate_left
                    · simp only [Act.put, List.setIfInBounds_toArray, List.set_cons_zero, List.set_cons_succ, i64_w, i32_w]
                      rfl
                    refine one_ (i := 10) (N := some 48) #[true, true, true, true, true, true, true, true, true, true, true, false, false] rfl rfl (one_of HT_.out (by kernel_rfl)) (by decide) (fun K hK => ?_)
                    refine goes_ Try.func38 (by kernel_rfl) rfl #[.pointer (some ⟨g, 0, none⟩), .int .i64 (wrap64 ((wrap64 (((rd_T33 l1 x8_1).f0) - (wrap64 (1 + t109)))) + 1))] (by rfl) rfl rfl (by (try simp only [List.map_toArray, List.map_cons, List.map_nil]); first | done | rfl | (simp only [List.length_drop, List.length_take]; rfl)) ?_
                    with_reducible refine (spec_l20Rd_pick.calls kj6 g s0_0 t110 (wrap64 ((wrap64 (((rd_T33 l1 x8_1).f0) - (wrap64 (1 + t109)))) + 1)) t112 t113 w0 _ ?side1 ?side2 A19.out).mono ?_
                    (case side1 => repeat (first | (with_reducible first | exact HI0.out | apply IsS64.alloc | apply IsS64.drewN | apply IsS64.drew | apply IsS64.set_1 | refine IsS64.far ?_ NB0_104.out _) | exact HI0.out))
                    (case side2 => repeat (first | (with_reducible first | exact HB.out | apply below_alloc | apply pw_below_drewN | apply below_drew1 | refine below_set ?_ (IsS64.ge HI0.out) | refine below_set ?_ GE104.out) | exact HB.out))
                    rintro e w27 ⟨rfl, hi, hb, hk⟩
                    have HS3_ := keep_cell hk (hHeld.2.2.2.1) (by first | (rw [add_block]; exact hne111_0) | (show (Addr.add _ _).block ≠ _; rw [add_block]; exact hne111_0) | exact hne111_0)
                    have HS4_ := keep_cell hk (hHeld.2.2.2.2.1) (by first | (rw [add_block]; exact hne111_1) | (show (Addr.add _ _).block ≠ _; rw [add_block]; exact hne111_1) | exact hne111_1)
                    have HS5_ := keep_cell hk (hHeld.2.2.2.2.2) (by first | (rw [add_block]; exact hne111_2) | (show (Addr.add _ _).block ≠ _; rw [add_block]; exact hne111_2) | exact hne111_2)
                    refine ⟨_, rfl, ?_⟩
                    have n0_ := Aside0.mk (Kd.R_mono (Kd.R_keep (IsS64.apart (show IsS64 w0 _ g s0_0 t110 from by repeat (first | (with_reducible first | exact HI0.out | apply IsS64.alloc | apply IsS64.drewN | apply IsS64.drew | apply IsS64.set_1 | refine IsS64.far ?_ NB0_104.out _) | exact HI0.out)) (by (with_reducible repeat (first | apply Kd.R_alloc | apply Kd.R_drewN | apply Kd.R_drew)); exact HO_7.out) (by decide)) hk (fun _ h => h.2)) (fun _ h => h.1))
                    have n1_ := Aside0.mk (KeepBut.blk hk (g' := gb104) (o := .cells #[.int .i64 0, .int .i64 (wrap64 (1 + t109)), .int .i64 0] 31 (0, 0)) (by (with_reducible repeat (first | refine blk_drewN ?_ _ | refine blk_drew ?_ | refine blk_alloc ?_ _)); exact BK104.out) NB104_0.out (by simp))
                    have n2_ := Aside0.mk (KeepBut.trans (by repeat (first | (with_reducible first | exact HK.out | apply KeepBut.set_ | apply keep_drewN | apply keep_drew | apply keep_alloc | refine keep_far ?_ GW104.out _) | exact HK.out)) hk (.inl rfl))
                    have n3_ := Aside0.mk (hb)
                    have n4_ := Aside0.mk (hi)
                    clear HO_7
                    clear BK104
                    clear HK
                    clear HB
                    clear HI0
                    have HO_7 := n0_
                    have BK104 := n1_
                    have HK := n2_
                    have HB := n3_
                    have HI0 := n4_
                    clear n0_ n1_ n2_ n3_ n4_
                    (try clear hb)
                    (try clear hb2)
                    (try clear hk)
                    (try clear hi)
                    refine hK.out _ _ ⟨(blk_cell BK104.out 0).trans rfl, (blk_cell BK104.out 1).trans rfl, (blk_cell BK104.out 2).trans rfl, HS3_, HS4_, HS5_⟩ (fun hHeld => ?_)
                    clear hK K
                    refine norm_ (a' := ?_) ?_ ?_
                    rotate_left
                    · show Act.put _ (some 48) _ = _
                      simp only [Act.put, List.setIfInBounds_toArray, List.set_cons_zero, List.set_cons_succ, i64_w, i32_w]
                      rfl
                    refine pure_ (i := 11) (N := some 49) (v := ?_) (a' := ?_) #[true, true, true, true, true, true, true, true, true, true, true, true, false] rfl rfl (any_of HT_.out (by kernel_rfl)) (fun _ _ _ h => h) (Or.inl ⟨by rfl, ?_⟩) ?_ ?_
                    rotate_left
                    · intro w'
                      go_simp
                      with_reducible rfl
                    rotate_left
                    · simp only [Act.put, List.setIfInBounds_toArray, List.set_cons_zero, List.set_cons_succ, i64_w, i32_w]
                      rfl
                    refine last_ (i := 12) (N := none) #[true, true, true, true, true, true, true, true, true, true, true, true, true] rfl rfl (one_of HT_.out (by kernel_rfl)) (by decide) (fun K hK => ?_)
                    have hs28 : w27.cell? ⟨gb104, 0, none⟩ = some (.int .i64 0) := (blk_cell BK104.out 0).trans rfl
                    have hfs28 := blk_frozen BK104.out 0
                    refine skip_ (w1 := ?_) (by rfl) rfl ?_ ?_
                    rotate_left
                    · go_simp
                      rfl
                    refine hK.out _ _ ?_
                    clear hK K
                    refine done_ (done_of HT_.out (by kernel_rfl)) ?_
                    try go_wp2_with (first | ((with_reducible refine gate_callee (f := 38) rfl ?_); refine goesL_ (some 51) rfl rfl Try.func38 (by kernel_rfl) rfl #[.pointer (some ⟨g, 0, none⟩), .int .i64 2] rfl (by (try simp only [List.map_toArray, List.map_cons, List.map_nil]); first | done | rfl | (simp only [List.length_drop, List.length_take]; rfl)) ?_; (with_reducible refine (spec_l20Rd_pick.calls kj6 g s0_0 t113 2 t114 t115 w0 _ ?side1 ?side2 A20.out).mono ?_); (case side1 => repeat (first | (with_reducible first | exact HI0.out | apply IsS64.alloc | apply IsS64.drewN | apply IsS64.drew | apply IsS64.set_1 | refine IsS64.far ?_ NB0_104.out _) | exact HI0.out)); (case side2 => repeat (first | (with_reducible first | exact HB.out | apply below_alloc | apply pw_below_drewN | apply below_drew1 | refine below_set ?_ (IsS64.ge HI0.out) | refine below_set ?_ GE104.out) | exact HB.out)); rintro e w29 ⟨rfl, hi, hb, hk⟩; refine ⟨_, rfl, ?_⟩; have n0_ := Aside0.mk (Kd.R_mono (Kd.R_keep (IsS64.apart (show IsS64 w0 _ g s0_0 t113 from by repeat (first | (with_reducible first | exact HI0.out | apply IsS64.alloc | apply IsS64.drewN | apply IsS64.drew | apply IsS64.set_1 | refine IsS64.far ?_ NB0_104.out _) | exact HI0.out)) (by (with_reducible repeat (first | apply Kd.R_alloc | apply Kd.R_drewN | apply Kd.R_drew)); exact (Kd.R_mono (Kd.R_far (p := ⟨gb104, 0, none⟩) (Kd.R_mono HO_7.out (fun k_ hk => (⟨hk, hk⟩ : _ ∧ k_ ≠ gb104))) (fun _ hk => hk.2) (.int .i64 t112)) (fun _ h_ => h_.1))) (by decide)) hk (fun _ h => h.2)) (fun _ h => h.1)); have n1_ := Aside0.mk (KeepBut.blk hk (g' := gb104) (o := .cells #[.int .i64 t112, .int .i64 (wrap64 (1 + t109)), .int .i64 0] 31 (0, 0)) (by (with_reducible repeat (first | refine blk_drewN ?_ _ | refine blk_drew ?_ | refine blk_alloc ?_ _)); refine blk_put (cs := #[.int .i64 0, .int .i64 (wrap64 (1 + t109)), .int .i64 0]) ?_ 0 _ rfl; (with_reducible repeat (first | refine blk_drewN ?_ _ | refine blk_drew ?_ | refine blk_alloc ?_ _)); exact BK104.out) NB104_0.out (by simp)); have n2_ := Aside0.mk (KeepBut.trans (by repeat (first | (with_reducible first | exact HK.out | apply KeepBut.set_ | apply keep_drewN | apply keep_drew | apply keep_alloc | refine keep_far ?_ GW104.out _) | exact HK.out)) hk (.inl rfl)); have n3_ := Aside0.mk (hb); have n4_ := Aside0.mk (hi); clear HO_7; clear BK104; clear HK; clear HB; clear HI0; have HO_7 := n0_; have BK104 := n1_; have HK := n2_; have HB := n3_; have HI0 := n4_; clear n0_ n1_ n2_ n3_ n4_; (try clear hb); (try clear hb2); (try clear hk); (try clear hi); have hcz30_0 : w29.cell? ⟨gb104, 0, none⟩ = some (.int .i64 t112) := (blk_cell BK104.out 0).trans rfl; have hcz30_1 : w29.cell? ⟨gb104, 1, none⟩ = some (.int .i64 (wrap64 (1 + t109))) := (blk_cell BK104.out 1).trans rfl; have hcz30_2 : w29.cell? ⟨gb104, 2, none⟩ = some (.int .i64 0) := (blk_cell BK104.out 2).trans rfl; have hfz30_0 := blk_frozen BK104.out 0; have hfz30_1 := blk_frozen BK104.out 1; have hfz30_2 := blk_frozen BK104.out 2) | ((with_reducible refine gate_builtin (b := .append) (xs := #[.tmp 53, .tmp 55]) rfl ?_); at_builtin; refine Kd.R_append k31 w.heap.size rfl (.tmp 53) (.tmp 55) 24 31 (.agg #[(.int .i64 0), (.int .i64 0), (.int .i64 0)]) 24 rfl Try.underlying24 info31 rfl (by decide) (by omega) u7 x7_1 (⟨t112, wrap64 (1 + t109), t114⟩ : S31) [.int .i64 t112, .int .i64 (wrap64 (1 + t109)), .int .i64 t114] (fun k_ => k_ ≠ gb104) (fun _ => False) rfl (by first | (go_simp; done) | (go_simp; rfl)) ?aP (fun _ hk => hk.elim) ?aF ?aO (Below.refl _ _) ?aS ?aL ?_; (case aP => exact k31_mkM _ _ _ (⟨t112, wrap64 (1 + t109), t114⟩ : S31)); (case aF => exact (fun k_ hk => Kd.freshB (g := gb104) (o := .cells #[.int .i64 t112, .int .i64 (wrap64 (1 + t109)), .int .i64 t114] 31 (0, 0)) (by (with_reducible repeat (first | refine blk_drewN ?_ _ | refine blk_drew ?_ | refine blk_alloc ?_ _)); refine blk_put (cs := #[.int .i64 t112, .int .i64 (wrap64 (1 + t109)), .int .i64 0]) ?_ 2 _ rfl; (with_reducible repeat (first | refine blk_drewN ?_ _ | refine blk_drew ?_ | refine blk_alloc ?_ _)); exact BK104.out) k_ hk)); (case aO => exact (by (with_reducible repeat (first | apply Kd.R_alloc | apply Kd.R_drewN | apply Kd.R_drew)); exact Kd.R_mono (Kd.R_far (p := ⟨gb104, 2, none⟩) (Kd.R_mono HO_7.out (fun k_ hk => (⟨hk, hk⟩ : _ ∧ k_ ≠ gb104))) (fun _ hk => hk.2) (.int .i64 t114)) (fun _ hk => hk.1))); (case aS => exact (keep_size (w := w) (g := g) (row := none) (by repeat (first | (with_reducible first | exact HK.out | apply KeepBut.set_ | apply keep_drewN | apply keep_drew | apply keep_alloc | refine keep_far ?_ GW104.out _) | exact HK.out)))); (case aL => have := LMc21.out; omega); intro v117 w31 ho hb hg hat; rw [← Ny116.out] at ho; have n0_ := Aside0.mk (blk_grown (g := gb104) (o := .cells #[.int .i64 t112, .int .i64 (wrap64 (1 + t109)), .int .i64 t114] 31 (0, 0)) (by (with_reducible repeat (first | refine blk_drewN ?_ _ | refine blk_drew ?_ | refine blk_alloc ?_ _)); refine blk_put (cs := #[.int .i64 t112, .int .i64 (wrap64 (1 + t109)), .int .i64 0]) ?_ 2 _ rfl; (with_reducible repeat (first | refine blk_drewN ?_ _ | refine blk_drew ?_ | refine blk_alloc ?_ _)); exact BK104.out) hg (Kd.R_away HO_7.out (fun _ hk => hk))); have n1_ := Aside0.mk ((by first | exact IsS64.grown (IsS64.far HI0.out NB0_104.out _) hg (IsS64.own_ne HI0.out HO_7.out (by decide)) | exact IsS64.grown (by repeat (first | (with_reducible first | exact HI0.out | apply IsS64.alloc | apply IsS64.drewN | apply IsS64.drew | apply IsS64.set_1 | refine IsS64.far ?_ NB0_104.out _) | exact HI0.out)) hg (IsS64.own_ne HI0.out HO_7.out (by decide)))); have n2_ := Aside0.mk (below_weaken (by repeat (first | (with_reducible first | exact HB.out | apply below_alloc | apply pw_below_drewN | apply below_drew1 | refine below_set ?_ (IsS64.ge HI0.out) | refine below_set ?_ GE104.out) | exact HB.out)) HL.out hb); have n3_ := Aside0.mk (KeepBut.trans (by repeat (first | (with_reducible first | exact HK.out | apply KeepBut.set_ | apply keep_drewN | apply keep_drew | apply keep_alloc | refine keep_far ?_ GW104.out _) | exact HK.out)) (KeepBut.of_grown hg g) (Kd.R_base2 HO_7.out)); have n4_ := Aside0.mk (ho); clear BK104; clear HI0; clear HB; clear HK; clear HO_7; have BK104 := n0_; have HI0 := n1_; have HB := n2_; have HK := n3_; have HO118 := n4_; clear n0_ n1_ n2_ n3_ n4_; clear ho hb hg hat))
                    go_roundg kj6
                    case measure => have := HK1.out; have := HJ6.out; omega
                    case rel => exact ⟨(y116), (wrap64 (x8_1 + 1)), (t115), (by first | rfl | (simp; done) | (simp [*]; done)), H', ⟨by have := HK1.out; have := HJ6.out; omega⟩, ⟨by (with_reducible repeat (first | apply Kd.R_alloc | apply Kd.R_drewN | apply Kd.R_drew)); exact Kd.R_mono HO118.out (fun _ hk => trivial)⟩, ⟨by repeat (first | (with_reducible first | exact HI0.out | apply IsS64.alloc | apply IsS64.drewN | apply IsS64.drew | apply IsS64.set_1 | refine IsS64.far ?_ NB0_104.out _) | exact HI0.out)⟩, ⟨by repeat (first | (with_reducible first | exact HK.out | apply KeepBut.set_ | apply keep_drewN | apply keep_drew | apply keep_alloc | refine keep_far ?_ GW104.out _) | exact HK.out)⟩, ⟨by repeat (first | (with_reducible first | exact HB.out | apply below_alloc | apply pw_below_drewN | apply below_drew1 | refine below_set ?_ (IsS64.ge HI0.out) | refine below_set ?_ GE104.out) | exact HB.out)⟩⟩
                  · rw [if_neg c21] at H
                    exact absurd H (by simp)
                · rw [if_neg c17] at H
                  exact absurd H (by simp)
              · rw [if_neg c16] at H
                exact absurd H (by simp)
            · replace c15 := Bool.eq_false_iff.mpr c15
              subst c15
              have H1 : (if x7_1.length < 5864062014805 then (spec_l20Sections.l0 kj6 l1 a2 (x7_1 ++ [(⟨0, 0, 0⟩ : S31)]) (wrap64 (x8_1 + 1)) s0_0 x1001_6) else (none)) = some (r1, r2) := by rw [if_neg (show ¬ (false = true) by decide)] at H; exact H
              clear H
              have H := H1
              clear H1
              by_cases c32 : x7_1.length < 5864062014805
              · rw [if_pos c32] at H
                have LMc32 := Aside0.mk c32
                clear c32
                obtain ⟨y119, hy119⟩ : ∃ y_ : List (S31), y_ = (x7_1 ++ [(⟨0, 0, 0⟩ : S31)]) := ⟨_, rfl⟩
                replace H : (spec_l20Sections.l0 kj6 l1 a2 y119 (wrap64 (x8_1 + 1)) s0_0 x1001_6) = some (r1, r2) := by first | (rw [hy119]; with_reducible exact H) | (have H2_ := (Option.bind_some _ _).symm.trans H; rw [hy119]; with_reducible exact H2_) | (have H2_ := (Option.bind_some _ _).symm.trans H; with_reducible exact H2_) | with_reducible exact H | (rw [hy119]; exact H) | exact H
                have Ny119 := Aside0.mk hy119
                clear hy119
                have H' := Aside0.mk H
                clear H
                have hnb33 := NB104_0.out
                have hnc33 := NB0_104.out
                have hcz34_0 : wc.cell? ⟨gb104, 0, none⟩ = some (.int .i64 0) := (blk_cell BK104.out 0).trans rfl
                have hcz34_1 : wc.cell? ⟨gb104, 1, none⟩ = some (.int .i64 0) := (blk_cell BK104.out 1).trans rfl
                have hcz34_2 : wc.cell? ⟨gb104, 2, none⟩ = some (.int .i64 0) := (blk_cell BK104.out 2).trans rfl
                have hfz34_0 := blk_frozen BK104.out 0
                have hfz34_1 := blk_frozen BK104.out 1
                have hfz34_2 := blk_frozen BK104.out 2
                go_wp2_with (first | ((with_reducible refine gate_builtin (b := .append) (xs := #[.tmp 53, .tmp 55]) rfl ?_); at_builtin; refine Kd.R_append k31 w.heap.size rfl (.tmp 53) (.tmp 55) 24 31 (.agg #[(.int .i64 0), (.int .i64 0), (.int .i64 0)]) 24 rfl Try.underlying24 info31 rfl (by decide) (by omega) u7 x7_1 (⟨0, 0, 0⟩ : S31) [.int .i64 0, .int .i64 0, .int .i64 0] (fun k_ => k_ ≠ gb104) (fun _ => False) rfl rfl ?aP (fun _ hk => hk.elim) ?aF ?aO (Below.refl _ _) ?aS ?aL ?_; (case aP => exact k31_mkM _ _ _ (⟨0, 0, 0⟩ : S31)); (case aF => exact (fun k_ hk => Kd.freshB (g := gb104) (o := .cells #[.int .i64 0, .int .i64 0, .int .i64 0] 31 (0, 0)) (by (with_reducible repeat (first | refine blk_drewN ?_ _ | refine blk_drew ?_ | refine blk_alloc ?_ _)); exact BK104.out) k_ hk)); (case aO => exact (by (with_reducible repeat (first | apply Kd.R_alloc | apply Kd.R_drewN | apply Kd.R_drew)); exact HO_7.out)); (case aS => exact (keep_size (w := w) (g := g) (row := none) (by repeat (first | (with_reducible first | exact HK.out | apply KeepBut.set_ | apply keep_drewN | apply keep_drew | apply keep_alloc | refine keep_far ?_ GW104.out _) | exact HK.out)))); (case aL => have := LMc32.out; omega); intro v120 w35 ho hb hg hat; rw [← Ny119.out] at ho; have n0_ := Aside0.mk (blk_grown (g := gb104) (o := .cells #[.int .i64 0, .int .i64 0, .int .i64 0] 31 (0, 0)) (by (with_reducible repeat (first | refine blk_drewN ?_ _ | refine blk_drew ?_ | refine blk_alloc ?_ _)); exact BK104.out) hg (Kd.R_away HO_7.out (fun _ hk => hk))); have n1_ := Aside0.mk ((by first | exact IsS64.grown (IsS64.far HI0.out NB0_104.out _) hg (IsS64.own_ne HI0.out HO_7.out (by decide)) | exact IsS64.grown (by repeat (first | (with_reducible first | exact HI0.out | apply IsS64.alloc | apply IsS64.drewN | apply IsS64.drew | apply IsS64.set_1 | refine IsS64.far ?_ NB0_104.out _) | exact HI0.out)) hg (IsS64.own_ne HI0.out HO_7.out (by decide)))); have n2_ := Aside0.mk (below_weaken (by repeat (first | (with_reducible first | exact HB.out | apply below_alloc | apply pw_below_drewN | apply below_drew1 | refine below_set ?_ (IsS64.ge HI0.out) | refine below_set ?_ GE104.out) | exact HB.out)) HL.out hb); have n3_ := Aside0.mk (KeepBut.trans (by repeat (first | (with_reducible first | exact HK.out | apply KeepBut.set_ | apply keep_drewN | apply keep_drew | apply keep_alloc | refine keep_far ?_ GW104.out _) | exact HK.out)) (KeepBut.of_grown hg g) (Kd.R_base2 HO_7.out)); have n4_ := Aside0.mk (ho); clear BK104; clear HI0; clear HB; clear HK; clear HO_7; have BK104 := n0_; have HI0 := n1_; have HB := n2_; have HK := n3_; have HO121 := n4_; clear n0_ n1_ n2_ n3_ n4_; clear ho hb hg hat))
                go_roundg kj6
                case measure => have := HK1.out; have := HJ6.out; omega
                case rel => exact ⟨(y119), (wrap64 (x8_1 + 1)), (x1001_6), (by first | rfl | (simp; done) | (simp [*]; done)), H', ⟨by have := HK1.out; have := HJ6.out; omega⟩, ⟨by (with_reducible repeat (first | apply Kd.R_alloc | apply Kd.R_drewN | apply Kd.R_drew)); exact Kd.R_mono HO121.out (fun _ hk => trivial)⟩, ⟨by repeat (first | (with_reducible first | exact HI0.out | apply IsS64.alloc | apply IsS64.drewN | apply IsS64.drew | apply IsS64.set_1 | refine IsS64.far ?_ NB0_104.out _) | exact HI0.out)⟩, ⟨by repeat (first | (with_reducible first | exact HK.out | apply KeepBut.set_ | apply keep_drewN | apply keep_drew | apply keep_alloc | refine keep_far ?_ GW104.out _) | exact HK.out)⟩, ⟨by repeat (first | (with_reducible first | exact HB.out | apply below_alloc | apply pw_below_drewN | apply below_drew1 | refine below_set ?_ (IsS64.ge HI0.out) | refine below_set ?_ GE104.out) | exact HB.out)⟩⟩
              · rw [if_neg c32] at H
                exact absurd H (by simp)
      · rw [if_neg c6] at H
        have c6b0 : decide (x8_1 < (l1.length : Int)) = false := decide_eq_false c6
        clear c6
        replace H := Option.bind_eq_some_iff.mp H
        obtain ⟨⟨t122, t123⟩, A360, H⟩ := H
        replace H : (if t122 = true then (if (x7_1.length : Int) = 0 then (spec_l20Sections.j2 k1 x7_1 true s0_0 t123) else ((spec_l20Rd_pick.f k1 s0_0 t123 3).bind fun bt124 => (spec_l20Sections.j2 k1 x7_1 (bt124.1 == 0) s0_0 bt124.2))) else (some (x7_1, t123))) = some (r1, r2) := H
        have A36 := Aside0.mk A360
        clear A360
        by_cases c37 : t122 = true
        · subst c37
          have H1 : (if (x7_1.length : Int) = 0 then (spec_l20Sections.j2 k1 x7_1 true s0_0 t123) else ((spec_l20Rd_pick.f k1 s0_0 t123 3).bind fun bt124 => (spec_l20Sections.j2 k1 x7_1 (bt124.1 == 0) s0_0 bt124.2))) = some (r1, r2) := by rw [if_pos rfl] at H; exact H
          clear H
          have H := H1
          clear H1
          have HC38 := Aside0.mk H
          clear H
          go_upto_region 12 with (first | ((with_reducible refine gate_callee (f := 53) rfl ?_); refine goesL_ (some 59) rfl rfl Try.func53 (by kernel_rfl) rfl #[.pointer (some ⟨g, 0, none⟩), .int .i64 a2] rfl (by (try simp only [List.map_toArray, List.map_cons, List.map_nil]); first | done | rfl | (simp only [List.length_drop, List.length_take]; rfl)) ?_; (with_reducible refine (spec_l20Rd_odd.calls k1 g s0_0 x1001_1 a2 true t123 w0 _ ?side1 ?side2 A36.out).mono ?_); (case side1 => repeat (first | (with_reducible first | exact HI0.out | apply IsS64.alloc | apply IsS64.drewN | apply IsS64.drew | apply IsS64.set_1) | exact HI0.out)); (case side2 => repeat (first | (with_reducible first | exact HB.out | apply below_alloc | apply pw_below_drewN | apply below_drew1 | refine below_set ?_ (IsS64.ge HI0.out)) | exact HB.out)); rintro e w39 ⟨rfl, hi, hb, hk⟩; refine ⟨_, rfl, ?_⟩; have n0_ := Aside0.mk (Kd.R_mono (Kd.R_keep (IsS64.apart (show IsS64 w0 _ g s0_0 x1001_1 from by repeat (first | (with_reducible first | exact HI0.out | apply IsS64.alloc | apply IsS64.drewN | apply IsS64.drew | apply IsS64.set_1) | exact HI0.out)) (by (with_reducible repeat (first | apply Kd.R_alloc | apply Kd.R_drewN | apply Kd.R_drew)); exact HO_7.out) (by decide)) hk (fun _ h => h.2)) (fun _ h => h.1)); have n1_ := Aside0.mk (KeepBut.trans (by repeat (first | (with_reducible first | exact HK.out | apply KeepBut.set_ | apply keep_drewN | apply keep_drew | apply keep_alloc) | exact HK.out)) hk (.inl rfl)); have n2_ := Aside0.mk (hb); have n3_ := Aside0.mk (hi); clear HO_7; clear HK; clear HB; clear HI0; have HO_7 := n0_; have HK := n1_; have HB := n2_; have HI0 := n3_; clear n0_ n1_ n2_ n3_; (try clear hb); (try clear hb2); (try clear hk); (try clear hi)))
          (try simp only [Act.put, List.setIfInBounds_toArray, List.set_cons_zero, List.set_cons_succ])
          go_cut [67] (fun v67 wc => ∃ (kq : Nat) (x67_37 : Bool) (x1001_37 : Int), v67 = .bool x67_37 ∧ Aside0 (spec_l20Sections.j2 kq x7_1 x67_37 s0_0 x1001_37 = some (r1, r2)) ∧ Aside0 (kq ≤ k1) ∧ Aside0 (Kd.R k31 31 wc w.heap.size (fun _ => True) u7 x7_1) ∧ Aside0 (IsS64 w0 wc g s0_0 x1001_37) ∧ Aside0 (KeepBut w wc g none) ∧ Aside0 (Below w0.heap.size w0 wc))
          case first =>
            have H := HC38.out
            clear HC38
            by_cases c40 : (x7_1.length : Int) = 0
            · rw [if_pos c40] at H
              have c40b0 : ((x7_1.length : Int) == 0) = true := beq_iff_eq.mpr c40
              have c40b1 : ((x7_1.length : Int) != 0) = false := bne_eq_false_iff_eq.mpr c40
              clear c40
              (first | rw [c40b0] | (simp only [i64_w, i32_w]; rw [c40b0]) | skip)
              have H' := Aside0.mk H
              clear H
              obtain ⟨Ao41, co41, eo41⟩ := Kd.R_slice HO_7.out
              subst eo41
              go_wp2
              go_meet
              case rel => exact ⟨_, (true), (t123), (by first | rfl | (simp; done) | (simp [*]; done)), H', ⟨by have := HK1.out; first | omega | exact Nat.le_refl _⟩, ⟨by (with_reducible repeat (first | apply Kd.R_alloc | apply Kd.R_drewN | apply Kd.R_drew)); exact HO_7.out⟩, ⟨by repeat (first | (with_reducible first | exact HI0.out | apply IsS64.alloc | apply IsS64.drewN | apply IsS64.drew | apply IsS64.set_1) | exact HI0.out)⟩, ⟨by repeat (first | (with_reducible first | exact HK.out | apply KeepBut.set_ | apply keep_drewN | apply keep_drew | apply keep_alloc) | exact HK.out)⟩, ⟨by repeat (first | (with_reducible first | exact HB.out | apply below_alloc | apply pw_below_drewN | apply below_drew1 | refine below_set ?_ (IsS64.ge HI0.out)) | exact HB.out)⟩⟩
            · rw [if_neg c40] at H
              have c40b0 : ((x7_1.length : Int) == 0) = false := beq_eq_false_iff_ne.mpr c40
              have c40b1 : ((x7_1.length : Int) != 0) = true := bne_iff_ne.mpr c40
              have c40b2 : ¬ (x7_1 = []) := fun h_ => c40 (by rw [h_]; rfl)
              (first | rw [c40b0] | (simp only [i64_w, i32_w]; rw [c40b0]) | skip)
              replace H := Option.bind_eq_some_iff.mp H
              obtain ⟨⟨t124, t125⟩, A420, H⟩ := H
              replace H : (spec_l20Sections.j2 k1 x7_1 (t124 == 0) s0_0 t125) = some (r1, r2) := H
              have A42 := Aside0.mk A420
              clear A420
              have H' := Aside0.mk H
              clear H
              obtain ⟨Ao43, co43, eo43⟩ := Kd.R_slice HO_7.out
              subst eo43
              go_wp2_with (first | (go_at_call 38; (with_reducible refine (spec_l20Rd_pick.calls k1 g s0_0 t123 3 t124 t125 w0 _ ?side1 ?side2 A42.out).mono ?_); (case side1 => repeat (first | (with_reducible first | exact HI0.out | apply IsS64.alloc | apply IsS64.drewN | apply IsS64.drew | apply IsS64.set_1) | exact HI0.out)); (case side2 => repeat (first | (with_reducible first | exact HB.out | apply below_alloc | apply pw_below_drewN | apply below_drew1 | refine below_set ?_ (IsS64.ge HI0.out)) | exact HB.out)); rintro e w44 ⟨rfl, hi, hb, hk⟩; have n0_ := Aside0.mk (Kd.R_mono (Kd.R_keep (IsS64.apart (show IsS64 w0 _ g s0_0 t123 from by repeat (first | (with_reducible first | exact HI0.out | apply IsS64.alloc | apply IsS64.drewN | apply IsS64.drew | apply IsS64.set_1) | exact HI0.out)) (by (with_reducible repeat (first | apply Kd.R_alloc | apply Kd.R_drewN | apply Kd.R_drew)); exact HO_7.out) (by decide)) hk (fun _ h => h.2)) (fun _ h => h.1)); have n1_ := Aside0.mk (KeepBut.trans (by repeat (first | (with_reducible first | exact HK.out | apply KeepBut.set_ | apply keep_drewN | apply keep_drew | apply keep_alloc) | exact HK.out)) hk (.inl rfl)); have n2_ := Aside0.mk (hb); have n3_ := Aside0.mk (hi); clear HO_7; clear HK; clear HB; clear HI0; have HO_7 := n0_; have HK := n1_; have HB := n2_; have HI0 := n3_; clear n0_ n1_ n2_ n3_; (try clear hb); (try clear hb2); (try clear hk); (try clear hi)))
              go_meet
              case rel => exact ⟨_, ((t124 == 0)), (t125), (by first | rfl | (simp; done) | (simp [*]; done)), H', ⟨by have := HK1.out; first | omega | exact Nat.le_refl _⟩, ⟨by (with_reducible repeat (first | apply Kd.R_alloc | apply Kd.R_drewN | apply Kd.R_drew)); exact HO_7.out⟩, ⟨by repeat (first | (with_reducible first | exact HI0.out | apply IsS64.alloc | apply IsS64.drewN | apply IsS64.drew | apply IsS64.set_1) | exact HI0.out)⟩, ⟨by repeat (first | (with_reducible first | exact HK.out | apply KeepBut.set_ | apply keep_drewN | apply keep_drew | apply keep_alloc) | exact HK.out)⟩, ⟨by repeat (first | (with_reducible first | exact HB.out | apply below_alloc | apply pw_below_drewN | apply below_drew1 | refine below_set ?_ (IsS64.ge HI0.out)) | exact HB.out)⟩⟩
          case rest =>
            clear HC38
            try clear c1
            try clear p1
            try clear q1
            try clear hx1
            try clear c2
            try clear p2
            try clear c3
            try clear c4
            try clear c5
            try clear c6
            try clear c6b0
            try clear p6
            try clear c9
            try clear p10
            try clear q10
            try clear hx10
            try clear c11
            try clear c11b0
            try clear p11
            try clear q11
            try clear hx11
            try clear c12
            try clear c12b0
            try clear c15
            try clear c16
            try clear c16b0
            try clear c17
            try clear c17b0
            try clear c21
            try clear c23
            try clear c30
            try clear c32
            try clear c33
            try clear c37
            try clear c38
            try clear c40
            try clear c40b0
            try clear c40b1
            try clear c40b2
            try clear hcz10_0
            try clear hcz10_1
            try clear hcz10_2
            try clear hcz24_0
            try clear hcz24_1
            try clear hcz24_2
            try clear hcz30_0
            try clear hcz30_1
            try clear hcz30_2
            try clear hcz34_0
            try clear hcz34_1
            try clear hcz34_2
            try clear hfz10_0
            try clear hfz10_1
            try clear hfz10_2
            try clear hfz24_0
            try clear hfz24_1
            try clear hfz24_2
            try clear hfz30_0
            try clear hfz30_1
            try clear hfz30_2
            try clear hfz34_0
            try clear hfz34_1
            try clear hfz34_2
            try clear hx105_0
            try clear hx105_1
            try clear hx105_2
            try clear hx108_0
            try clear hx108_1
            try clear hx108_2
            try clear hx111_0
            try clear hx111_1
            try clear hx111_2
            try clear p1
            try clear p10
            try clear p105
            try clear p108
            try clear p111
            try clear p2
            try clear q1
            try clear q10
            try clear q105
            try clear q108
            try clear q111
            obtain ⟨kq, x67_37, x1001_37, rfl, HA, HJ37, HO_7, HI0, HK, HB⟩ := hcut
            cases kq with
            | zero => exact absurd HA.out (by simp [spec_l20Sections.j2])
            | succ kj37 =>
              have H := HA.out
              clear HA
              simp only [spec_l20Sections.j2] at H
              by_cases c45 : x67_37 = true
              · subst c45
                have H1 : (if x7_1.length < 5864062014805 then (some ((x7_1 ++ [(⟨0, 0, 0⟩ : S31)]), x1001_37)) else (none)) = some (r1, r2) := by rw [if_pos rfl] at H; exact H
                clear H
                have H := H1
                clear H1
                by_cases c46 : x7_1.length < 5864062014805
                · rw [if_pos c46] at H
                  have LMc46 := Aside0.mk c46
                  clear c46
                  obtain ⟨y126, hy126⟩ : ∃ y_ : List (S31), y_ = (x7_1 ++ [(⟨0, 0, 0⟩ : S31)]) := ⟨_, rfl⟩
                  replace H : (some (y126, x1001_37)) = some (r1, r2) := by first | (rw [hy126]; with_reducible exact H) | (have H2_ := (Option.bind_some _ _).symm.trans H; rw [hy126]; with_reducible exact H2_) | (have H2_ := (Option.bind_some _ _).symm.trans H; with_reducible exact H2_) | with_reducible exact H | (rw [hy126]; exact H) | exact H
                  have Ny126 := Aside0.mk hy126
                  clear hy126
                  simp only [Option.some.injEq, Prod.mk.injEq] at H
                  obtain ⟨rfl, rfl⟩ := H
                  go_wp2_with (first | ((with_reducible refine gate_builtin (b := .append) (xs := #[.tmp 68, .tmp 70]) rfl ?_); at_builtin; refine Kd.R_append k31 w.heap.size rfl (.tmp 68) (.tmp 70) 24 31 (.agg #[(.int .i64 0), (.int .i64 0), (.int .i64 0)]) 24 rfl Try.underlying24 info31 rfl (by decide) (by omega) u7 x7_1 (⟨0, 0, 0⟩ : S31) [.int .i64 0, .int .i64 0, .int .i64 0] (fun _ => True) (fun _ => False) rfl rfl ?aP (fun _ hk => hk.elim) ?aF ?aO (Below.refl _ _) ?aS ?aL ?_; (case aP => exact k31_mkM _ _ _ (⟨0, 0, 0⟩ : S31)); (case aF => exact (fun _ _ => trivial)); (case aO => exact (by (with_reducible repeat (first | apply Kd.R_alloc | apply Kd.R_drewN | apply Kd.R_drew)); exact HO_7.out)); (case aS => exact (keep_size (w := w) (g := g) (row := none) (by repeat (first | (with_reducible first | exact HK.out | apply KeepBut.set_ | apply keep_drewN | apply keep_drew | apply keep_alloc) | exact HK.out)))); (case aL => have := LMc46.out; omega); intro v127 w47 ho hb hg hat; rw [← Ny126.out] at ho; have n0_ := Aside0.mk (IsS64.grown (by repeat (first | (with_reducible first | exact HI0.out | apply IsS64.alloc | apply IsS64.drewN | apply IsS64.drew | apply IsS64.set_1) | exact HI0.out)) hg (IsS64.own_ne HI0.out HO_7.out (by decide))); have n1_ := Aside0.mk (below_weaken (by repeat (first | (with_reducible first | exact HB.out | apply below_alloc | apply pw_below_drewN | apply below_drew1 | refine below_set ?_ (IsS64.ge HI0.out)) | exact HB.out)) HL.out hb); have n2_ := Aside0.mk (KeepBut.trans (by repeat (first | (with_reducible first | exact HK.out | apply KeepBut.set_ | apply keep_drewN | apply keep_drew | apply keep_alloc) | exact HK.out)) (KeepBut.of_grown hg g) (Kd.R_base2 HO_7.out)); have n3_ := Aside0.mk (ho); clear HI0; clear HB; clear HK; clear HO_7; have HI0 := n0_; have HB := n1_; have HK := n2_; have HO128 := n3_; clear n0_ n1_ n2_ n3_; clear ho hb hg hat))
                  go_ret
                  exact ⟨_, by first | rfl | (simp [errW_none, errW_some] <;> rfl) | (simp [*, errW_none, errW_some] <;> rfl), by (with_reducible repeat (first | apply Kd.R_alloc | apply Kd.R_drewN | apply Kd.R_drew)); exact HO128.out, by repeat (first | (with_reducible first | exact HI0.out | apply IsS64.alloc | apply IsS64.drewN | apply IsS64.drew | apply IsS64.set_1) | exact HI0.out), by repeat (first | (with_reducible first | exact HB.out | apply below_alloc | apply pw_below_drewN | apply below_drew1 | refine below_set ?_ (IsS64.ge HI0.out)) | exact HB.out), by repeat (first | (with_reducible first | exact HK.out | apply KeepBut.set_ | apply keep_drewN | apply keep_drew | apply keep_alloc) | exact HK.out)⟩
                · rw [if_neg c46] at H
                  exact absurd H (by simp)
              · replace c45 := Bool.eq_false_iff.mpr c45
                subst c45
                have H1 : ((spec_l20Rd_pick.f kj37 s0_0 x1001_37 (x7_1.length : Int)).bind fun bt129 => ((some (([(⟨1, 0, 0⟩ : S31), (⟨0, (-1), 0⟩ : S31), (⟨0, 1, 3⟩ : S31), (⟨0, 9, 0⟩ : S31), (⟨(-1), 1, 0⟩ : S31), (⟨8, 1, 0⟩ : S31)] : List (S31)) : List (S31))).bind fun y131 => ((spec_l20Rd_pick.f kj37 s0_0 bt129.2 6).bind fun bt134 => (if 0 ≤ bt134.1 then (if bt134.1 < (y131.length : Int) then (if 0 ≤ bt129.1 then (if bt129.1 < (x7_1.length : Int) then (some ((x7_1.set (bt129.1 : Int).toNat (⟨(rd_T31 y131 bt134.1).f0, (rd_T31 y131 bt134.1).f1, (rd_T31 y131 bt134.1).f2⟩ : S31)), bt134.2)) else (none)) else (none)) else (none)) else (none))))) = some (r1, r2) := by rw [if_neg (show ¬ (false = true) by decide)] at H; exact H
                clear H
                have H := H1
                clear H1
                replace H := Option.bind_eq_some_iff.mp H
                obtain ⟨⟨t129, t130⟩, A480, H⟩ := H
                replace H : ((some (([(⟨1, 0, 0⟩ : S31), (⟨0, (-1), 0⟩ : S31), (⟨0, 1, 3⟩ : S31), (⟨0, 9, 0⟩ : S31), (⟨(-1), 1, 0⟩ : S31), (⟨8, 1, 0⟩ : S31)] : List (S31)) : List (S31))).bind fun y131 => ((spec_l20Rd_pick.f kj37 s0_0 t130 6).bind fun bt134 => (if 0 ≤ bt134.1 then (if bt134.1 < (y131.length : Int) then (if 0 ≤ t129 then (if t129 < (x7_1.length : Int) then (some ((x7_1.set (t129 : Int).toNat (⟨(rd_T31 y131 bt134.1).f0, (rd_T31 y131 bt134.1).f1, (rd_T31 y131 bt134.1).f2⟩ : S31)), bt134.2)) else (none)) else (none)) else (none)) else (none)))) = some (r1, r2) := H
                have A48 := Aside0.mk A480
                clear A480
                obtain ⟨y131, hy131⟩ : ∃ y_ : List (S31), y_ = (([(⟨1, 0, 0⟩ : S31), (⟨0, (-1), 0⟩ : S31), (⟨0, 1, 3⟩ : S31), (⟨0, 9, 0⟩ : S31), (⟨(-1), 1, 0⟩ : S31), (⟨8, 1, 0⟩ : S31)] : List (S31))) := ⟨_, rfl⟩
                replace H : ((spec_l20Rd_pick.f kj37 s0_0 t130 6).bind fun bt134 => (if 0 ≤ bt134.1 then (if bt134.1 < (y131.length : Int) then (if 0 ≤ t129 then (if t129 < (x7_1.length : Int) then (some ((x7_1.set (t129 : Int).toNat (⟨(rd_T31 y131 bt134.1).f0, (rd_T31 y131 bt134.1).f1, (rd_T31 y131 bt134.1).f2⟩ : S31)), bt134.2)) else (none)) else (none)) else (none)) else (none))) = some (r1, r2) := by first | (rw [hy131]; with_reducible exact H) | (have H2_ := (Option.bind_some _ _).symm.trans H; rw [hy131]; with_reducible exact H2_) | (have H2_ := (Option.bind_some _ _).symm.trans H; with_reducible exact H2_) | with_reducible exact H | (rw [hy131]; exact H) | exact H
                have Ny131 := Aside0.mk hy131
                clear hy131
                replace H := Option.bind_eq_some_iff.mp H
                obtain ⟨⟨t134, t135⟩, A490, H⟩ := H
                replace H : (if 0 ≤ t134 then (if t134 < (y131.length : Int) then (if 0 ≤ t129 then (if t129 < (x7_1.length : Int) then (some ((x7_1.set (t129 : Int).toNat (⟨(rd_T31 y131 t134).f0, (rd_T31 y131 t134).f1, (rd_T31 y131 t134).f2⟩ : S31)), t135)) else (none)) else (none)) else (none)) else (none)) = some (r1, r2) := H
                have A49 := Aside0.mk A490
                clear A490
                by_cases c50 : 0 ≤ t134
                · rw [if_pos c50] at H
                  have c50b0 : decide (0 ≤ t134) = true := decide_eq_true c50
                  clear c50
                  by_cases c51 : t134 < (y131.length : Int)
                  · rw [if_pos c51] at H
                    have c51b0 : decide (t134 < (y131.length : Int)) = true := decide_eq_true c51
                    clear c51
                    by_cases c52 : 0 ≤ t129
                    · rw [if_pos c52] at H
                      have c52b0 : decide (0 ≤ t129) = true := decide_eq_true c52
                      clear c52
                      by_cases c53 : t129 < (x7_1.length : Int)
                      · rw [if_pos c53] at H
                        have c53b0 : decide (t129 < (x7_1.length : Int)) = true := decide_eq_true c53
                        clear c53
                        obtain ⟨y137, hy137⟩ : ∃ y_ : List (S31), y_ = (x7_1.set (t129 : Int).toNat (⟨(rd_T31 y131 t134).f0, (rd_T31 y131 t134).f1, (rd_T31 y131 t134).f2⟩ : S31)) := ⟨_, rfl⟩
                        replace H : (some (y137, t135)) = some (r1, r2) := by first | (rw [hy137]; with_reducible exact H) | (have H2_ := (Option.bind_some _ _).symm.trans H; rw [hy137]; with_reducible exact H2_) | (have H2_ := (Option.bind_some _ _).symm.trans H; with_reducible exact H2_) | with_reducible exact H | (rw [hy137]; exact H) | exact H
                        have Ny137 := Aside0.mk hy137
                        clear hy137
                        simp only [Option.some.injEq, Prod.mk.injEq] at H
                        obtain ⟨rfl, rfl⟩ := H
                        obtain ⟨Ao55, co55, eo55⟩ := Kd.R_slice HO_7.out
                        subst eo55
                        go_wp2_with (first | ((with_reducible refine gate_callee (f := 38) rfl ?_); refine goesL_ (some 76) rfl rfl Try.func38 (by kernel_rfl) rfl #[.pointer (some ⟨g, 0, none⟩), .int .i64 (x7_1.length : Int)] rfl (by (try simp only [List.map_toArray, List.map_cons, List.map_nil]); first | done | rfl | (simp only [List.length_drop, List.length_take]; rfl)) ?_; (with_reducible refine (spec_l20Rd_pick.calls kj37 g s0_0 x1001_37 (x7_1.length : Int) t129 t130 w0 _ ?side1 ?side2 A48.out).mono ?_); (case side1 => repeat (first | (with_reducible first | exact HI0.out | apply IsS64.alloc | apply IsS64.drewN | apply IsS64.drew | apply IsS64.set_1) | exact HI0.out)); (case side2 => repeat (first | (with_reducible first | exact HB.out | apply below_alloc | apply pw_below_drewN | apply below_drew1 | refine below_set ?_ (IsS64.ge HI0.out)) | exact HB.out)); rintro e w56 ⟨rfl, hi, hb, hk⟩; refine ⟨_, rfl, ?_⟩; have n0_ := Aside0.mk (Kd.R_mono (Kd.R_keep (IsS64.apart (show IsS64 w0 _ g s0_0 x1001_37 from by repeat (first | (with_reducible first | exact HI0.out | apply IsS64.alloc | apply IsS64.drewN | apply IsS64.drew | apply IsS64.set_1) | exact HI0.out)) (by (with_reducible repeat (first | apply Kd.R_alloc | apply Kd.R_drewN | apply Kd.R_drew)); exact HO_7.out) (by decide)) hk (fun _ h => h.2)) (fun _ h => h.1)); have n1_ := Aside0.mk (KeepBut.trans (by repeat (first | (with_reducible first | exact HK.out | apply KeepBut.set_ | apply keep_drewN | apply keep_drew | apply keep_alloc) | exact HK.out)) hk (.inl rfl)); have n2_ := Aside0.mk (hb); have n3_ := Aside0.mk (hi); clear HO_7; clear HK; clear HB; clear HI0; have HO_7 := n0_; have HK := n1_; have HB := n2_; have HI0 := n3_; clear n0_ n1_ n2_ n3_; (try clear hb); (try clear hb2); (try clear hk); (try clear hi)) | ((with_reducible refine gate_dst (N := 83) rfl ?_); refine Kd.R_lit k31 _ 31 ?hg (N := 83) ?hd (xs := ([(⟨1, 0, 0⟩ : S31), (⟨0, (-1), 0⟩ : S31), (⟨0, 1, 3⟩ : S31), (⟨0, 9, 0⟩ : S31), (⟨(-1), 1, 0⟩ : S31), (⟨8, 1, 0⟩ : S31)] : List (S31))) (inner := [.int .i64 1, .int .i64 0, .int .i64 0, .int .i64 0, .int .i64 (-1), .int .i64 0, .int .i64 0, .int .i64 1, .int .i64 3, .int .i64 0, .int .i64 9, .int .i64 0, .int .i64 (-1), .int .i64 1, .int .i64 0, .int .i64 8, .int .i64 1, .int .i64 0]) (ok := fun _ => True) (okp := fun _ => True) ?hr ?hp (fun _ hk => hk) trivial (Below.refl _ _) (Nat.le_refl _) (by simp) ?_; (case hd => rfl); (case hg => rfl); (case hr => first | (go_simp; done) | (go_simp; rfl)); (case hp => exact (Reps.c3 (show Kd.M k31 _ _ _ (⟨1, 0, 0⟩ : S31) [.int .i64 1, .int .i64 0, .int .i64 0] from (k31_mkM _ _ _ (⟨1, 0, 0⟩ : S31) )) (Reps.c3 (show Kd.M k31 _ _ _ (⟨0, (-1), 0⟩ : S31) [.int .i64 0, .int .i64 (-1), .int .i64 0] from (k31_mkM _ _ _ (⟨0, (-1), 0⟩ : S31) )) (Reps.c3 (show Kd.M k31 _ _ _ (⟨0, 1, 3⟩ : S31) [.int .i64 0, .int .i64 1, .int .i64 3] from (k31_mkM _ _ _ (⟨0, 1, 3⟩ : S31) )) (Reps.c3 (show Kd.M k31 _ _ _ (⟨0, 9, 0⟩ : S31) [.int .i64 0, .int .i64 9, .int .i64 0] from (k31_mkM _ _ _ (⟨0, 9, 0⟩ : S31) )) (Reps.c3 (show Kd.M k31 _ _ _ (⟨(-1), 1, 0⟩ : S31) [.int .i64 (-1), .int .i64 1, .int .i64 0] from (k31_mkM _ _ _ (⟨(-1), 1, 0⟩ : S31) )) (Reps.c3 (show Kd.M k31 _ _ _ (⟨8, 1, 0⟩ : S31) [.int .i64 8, .int .i64 1, .int .i64 0] from (k31_mkM _ _ _ (⟨8, 1, 0⟩ : S31) )) (Reps.none _ _)))))))); intro v132 w57 ho58 hb hg_ hnew_; clear hg_ hnew_; (first | rw [← Ny131.out] at ho58 | (simp only [Int.reduceToNat] at ho58; rw [← Ny131.out] at ho58)); have n0_ := Aside0.mk (Kd.R_elder' (by (with_reducible repeat (first | apply Kd.R_alloc | apply Kd.R_drewN | apply Kd.R_drew)); exact HO_7.out) (Kd.R_base ho58) hb); have n1_ := Aside0.mk (Kd.R_lower (Kd.R_new' ho58 (Kd.R_lt (by (with_reducible repeat (first | apply Kd.R_alloc | apply Kd.R_drewN | apply Kd.R_drew)); exact HO_7.out))) (keep_size (w := w) (g := g) (row := none) (by repeat (first | (with_reducible first | exact HK.out | apply KeepBut.set_ | apply keep_drewN | apply keep_drew | apply keep_alloc) | exact HK.out)))); have n2_ := Aside0.mk (IsS64.below (by repeat (first | (with_reducible first | exact HI0.out | apply IsS64.alloc | apply IsS64.drewN | apply IsS64.drew | apply IsS64.set_1) | exact HI0.out)) hb); have n3_ := Aside0.mk (KeepBut.trans (by repeat (first | (with_reducible first | exact HK.out | apply KeepBut.set_ | apply keep_drewN | apply keep_drew | apply keep_alloc) | exact HK.out)) (KeepBut.of_below hb g none) (.inl rfl)); have n4_ := Aside0.mk (below_step (by repeat (first | (with_reducible first | exact HB.out | apply below_alloc | apply pw_below_drewN | apply below_drew1 | refine below_set ?_ (IsS64.ge HI0.out)) | exact HB.out)) hb); clear HO_7; clear HI0; clear HK; clear HB; have HO_7 := n0_; have HO133 := n1_; have HI0 := n2_; have HK := n3_; have HB := n4_; clear n0_ n1_ n2_ n3_ n4_; clear hb ho58) | ((with_reducible refine gate_callee (f := 38) rfl ?_); refine goesL_ (some 85) rfl rfl Try.func38 (by kernel_rfl) rfl #[.pointer (some ⟨g, 0, none⟩), .int .i64 6] rfl (by (try simp only [List.map_toArray, List.map_cons, List.map_nil]); first | done | rfl | (simp only [List.length_drop, List.length_take]; rfl)) ?_; (with_reducible refine (spec_l20Rd_pick.calls kj37 g s0_0 t130 6 t134 t135 w0 _ ?side1 ?side2 A49.out).mono ?_); (case side1 => repeat (first | (with_reducible first | exact HI0.out | apply IsS64.alloc | apply IsS64.drewN | apply IsS64.drew | apply IsS64.set_1) | exact HI0.out)); (case side2 => repeat (first | (with_reducible first | exact HB.out | apply below_alloc | apply pw_below_drewN | apply below_drew1 | refine below_set ?_ (IsS64.ge HI0.out)) | exact HB.out)); rintro e w59 ⟨rfl, hi, hb, hk⟩; refine ⟨_, rfl, ?_⟩; have n0_ := Aside0.mk (Kd.R_mono (Kd.R_keep (IsS64.apart (show IsS64 w0 _ g s0_0 t130 from by repeat (first | (with_reducible first | exact HI0.out | apply IsS64.alloc | apply IsS64.drewN | apply IsS64.drew | apply IsS64.set_1) | exact HI0.out)) (by (with_reducible repeat (first | apply Kd.R_alloc | apply Kd.R_drewN | apply Kd.R_drew)); exact HO_7.out) (by decide)) hk (fun _ h => h.2)) (fun _ h => h.1)); have n1_ := Aside0.mk (Kd.R_mono (Kd.R_keep (IsS64.apart (show IsS64 w0 _ g s0_0 t130 from by repeat (first | (with_reducible first | exact HI0.out | apply IsS64.alloc | apply IsS64.drewN | apply IsS64.drew | apply IsS64.set_1) | exact HI0.out)) (by (with_reducible repeat (first | apply Kd.R_alloc | apply Kd.R_drewN | apply Kd.R_drew)); exact HO133.out) (by decide)) hk (fun _ h => h.2)) (fun _ h => h.1)); have n2_ := Aside0.mk (KeepBut.trans (by repeat (first | (with_reducible first | exact HK.out | apply KeepBut.set_ | apply keep_drewN | apply keep_drew | apply keep_alloc) | exact HK.out)) hk (.inl rfl)); have n3_ := Aside0.mk (hb); have n4_ := Aside0.mk (hi); clear HO_7; clear HO133; clear HK; clear HB; clear HI0; have HO_7 := n0_; have HO133 := n1_; have HK := n2_; have HB := n3_; have HI0 := n4_; clear n0_ n1_ n2_ n3_ n4_; (try clear hb); (try clear hb2); (try clear hk); (try clear hi); obtain ⟨Ao60, co60, eo60⟩ := Kd.R_slice HO133.out; subst eo60; have p136 : 0 ≤ (t134 : Int) := of_decide_eq_true (by first | (with_reducible assumption) | assumption); have q136 : t134 < (y131.length : Int) := of_decide_eq_true (by first | (with_reducible assumption) | assumption); obtain ⟨ad136, e136, hx136_0, hx136_1, hx136_2⟩ := at_T31 (Kd.R_reads' HO133.out).2.2 t134 p136 q136; cases e136; replace p136 := eq_true p136; replace q136 := eq_true q136; have p54 : 0 ≤ (t129 : Int) := of_decide_eq_true (by first | (with_reducible assumption) | assumption); have q54 : (t129 : Int) < ((x7_1.length : Int) : Int) := of_decide_eq_true (by first | (with_reducible assumption) | assumption); obtain ⟨go54, co54, eo54, gb54, gl54, cl54, HG54⟩ := Kd.R_form HO_7.out (by omega); (first | cases eo54 | (injection eo54 with ea_ en_ ec_; (first | subst ea_ | (injection ea_ with ea_; subst ea_)); subst ec_; clear en_)); have GB54 := Aside0.mk gb54; have GG54 := Aside0.mk HG54; clear gb54 gl54 HG54; obtain ⟨ce54, hcl54, hM54, hcc54, hfr54⟩ := Kd.R_elem HO_7.out z31 (t129 : Int) p54 q54; obtain rfl := k31_openM hM54; have hx54_0 : w59.cell? ⟨go54, (t129 : Int).toNat * 3, none⟩ = some (.int .i64 ((rd_T31 x7_1 t129).f0)) := hcc54 0 _ rfl; have hx54_1 : w59.cell? ⟨go54, (t129 : Int).toNat * 3 + 1, none⟩ = some (.int .i64 ((rd_T31 x7_1 t129).f1)) := hcc54 1 _ rfl; have hx54_2 : w59.cell? ⟨go54, (t129 : Int).toNat * 3 + 2, none⟩ = some (.int .i64 ((rd_T31 x7_1 t129).f2)) := hcc54 2 _ rfl; have hf54_0 : w59.frozen? ⟨go54, (t129 : Int).toNat * 3, none⟩ = false := hfr54 0; have hf54_1 : w59.frozen? ⟨go54, (t129 : Int).toNat * 3 + 1, none⟩ = false := hfr54 1; have hf54_2 : w59.frozen? ⟨go54, (t129 : Int).toNat * 3 + 2, none⟩ = false := hfr54 2; clear hcl54 hcc54 hfr54 hM54; replace p54 := eq_true p54; replace q54 := eq_true q54; have n_ := Aside0.mk (Kd.R_mono (ok' := (fun k_ => some k_ ≠ (.slice (some ad136) y131.length co60 : Value).ownBlock)) HO_7.out (fun k_ hk => hk.2)); clear HO_7; have HO_7 := n_; clear n_; have HX61 := Aside0.mk (show Kd.R k31 31 w59 w.heap.size (fun k_ => some k_ ≠ (.slice (some ad136) y131.length co60 : Value).ownBlock) (.slice (some ⟨go54, 0, none⟩) x7_1.length co55) x7_1 from (by (with_reducible repeat (first | apply Kd.R_alloc | apply Kd.R_drewN | apply Kd.R_drew)); exact HO_7.out)); obtain ⟨ce61, hcl61, hM61, hcc61, hfr61⟩ := Kd.R_elem HX61.out z31 (t129 : Int) (of_decide_eq_true (by first | (with_reducible assumption) | assumption)) (by have h_ : (t129 : Int) < ((x7_1.length : Int) : Int) := of_decide_eq_true (by first | (with_reducible assumption) | assumption); first | exact h_ | (have e_ := (Kd.R_reads' HO_7.out).1; omega) | simpa using h_); obtain rfl := k31_openM hM61; have HP61 := Kd.R_seg HX61.out (t129 : Int) (of_decide_eq_true (by first | (with_reducible assumption) | assumption)) (by have h_ : (t129 : Int) < ((x7_1.length : Int) : Int) := of_decide_eq_true (by first | (with_reducible assumption) | assumption); first | exact h_ | (have e_ := (Kd.R_reads' HO_7.out).1; omega) | simpa using h_) (seg := [.int .i64 ((rd_T31 y131 t134).f0), .int .i64 ((rd_T31 y131 t134).f1), .int .i64 ((rd_T31 y131 t134).f2)]) (j := 0) hcl61 hcc61 (show 3 ≤ 3 from by decide) (x' := (⟨(rd_T31 y131 t134).f0, (rd_T31 y131 t134).f1, (rd_T31 y131 t134).f2⟩ : S31)) (k31_mkM _ _ _ (⟨(rd_T31 y131 t134).f0, (rd_T31 y131 t134).f1, (rd_T31 y131 t134).f2⟩ : S31) ) (fun _ hk => hk); have hx61_0 := hcc61 0 _ rfl; (try simp only [show (k31).sz = 3 from rfl, Nat.mul_one, Nat.add_zero] at hx61_0); have hf61_0 := hfr61 0; (try simp only [show (k31).sz = 3 from rfl, Nat.mul_one, Nat.add_zero] at hf61_0); have hx61_1 := hcc61 1 _ rfl; (try simp only [show (k31).sz = 3 from rfl, Nat.mul_one, Nat.add_zero] at hx61_1); have hf61_1 := hfr61 1; (try simp only [show (k31).sz = 3 from rfl, Nat.mul_one, Nat.add_zero] at hf61_1); have hx61_2 := hcc61 2 _ rfl; (try simp only [show (k31).sz = 3 from rfl, Nat.mul_one, Nat.add_zero] at hx61_2); have hf61_2 := hfr61 2; (try simp only [show (k31).sz = 3 from rfl, Nat.mul_one, Nat.add_zero] at hf61_2); clear hcl61 hcc61 hfr61 hM61) | ((with_reducible refine gate_store (t := 31) (p := 88) rfl ?_); refine store_event (t := 31) (p := 88) (v := ?vo_w62) (w1 := (((w59.setCell ⟨go54, (t129 : Int).toNat * 3, none⟩ (.int .i64 ((rd_T31 y131 t134).f0))).setCell ⟨go54, (t129 : Int).toNat * 3 + 1, none⟩ (.int .i64 ((rd_T31 y131 t134).f1))).setCell ⟨go54, (t129 : Int).toNat * 3 + 2, none⟩ (.int .i64 ((rd_T31 y131 t134).f2)))) ?hg ?ho ?hn ?hr ?_; (case ho => rfl); (case hg => rfl); (case hn => rfl); (case hr => first | (go_simp; done) | (go_simp; rfl)); intro w62 hw; have hg : w59.grownBy w62 (some go54) := (by rw [hw]; exact HP61.2); have hp_ : Kd.R k31 31 w62 w.heap.size (fun k_ => some k_ ≠ (.slice (some ad136) y131.length co60 : Value).ownBlock) (.slice (some ⟨go54, 0, none⟩) x7_1.length co55) y137 := (by rw [hw, Ny137.out]; exact HP61.1); clear HP61; have n0_ := Aside0.mk (hp_); have n1_ := Aside0.mk (IsS64.grown (by repeat (first | (with_reducible first | exact HI0.out | apply IsS64.alloc | apply IsS64.drewN | apply IsS64.drew | apply IsS64.set_1) | exact HI0.out)) hg (IsS64.own_ne HI0.out HO_7.out (by decide))); have n2_ := Aside0.mk (Kd.R_after (v := (.slice (some ⟨go54, 0, none⟩) x7_1.length co55)) (v1 := (.slice (some ⟨go54, 0, none⟩) x7_1.length co55)) (ok := (fun _ => True)) (by (with_reducible repeat (first | apply Kd.R_alloc | apply Kd.R_drewN | apply Kd.R_drew)); exact HO133.out) hg (.inl rfl)); have n3_ := Aside0.mk ((by rw [hw]; exact below_set (below_set (below_set (HB.out) (Nat.le_trans HL.out GB54.out)) (Nat.le_trans HL.out GB54.out)) (Nat.le_trans HL.out GB54.out) : Below w0.heap.size w0 w62)); have n4_ := Aside0.mk (KeepBut.trans (by repeat (first | (with_reducible first | exact HK.out | apply KeepBut.set_ | apply keep_drewN | apply keep_drew | apply keep_alloc) | exact HK.out)) (KeepBut.of_grown hg g) (Kd.R_base2 HO_7.out)); clear HO_7; clear HI0; clear HO133; clear HB; clear HK; have HO_7 := n0_; have HI0 := n1_; have HO133 := n2_; have HB := n3_; have HK := n4_; clear n0_ n1_ n2_ n3_ n4_; clear hg hw hp_))
                        go_ret
                        exact ⟨_, by first | rfl | (simp [errW_none, errW_some] <;> rfl) | (simp [*, errW_none, errW_some] <;> rfl), by (with_reducible repeat (first | apply Kd.R_alloc | apply Kd.R_drewN | apply Kd.R_drew)); exact Kd.R_mono HO_7.out (fun _ hk => trivial), by repeat (first | (with_reducible first | exact HI0.out | apply IsS64.alloc | apply IsS64.drewN | apply IsS64.drew | apply IsS64.set_1) | exact HI0.out), by repeat (first | (with_reducible first | exact HB.out | apply below_alloc | apply pw_below_drewN | apply below_drew1 | refine below_set ?_ (IsS64.ge HI0.out)) | exact HB.out), by repeat (first | (with_reducible first | exact HK.out | apply KeepBut.set_ | apply keep_drewN | apply keep_drew | apply keep_alloc) | exact HK.out)⟩
                      · rw [if_neg c53] at H
                        exact absurd H (by simp)
                    · rw [if_neg c52] at H
                      exact absurd H (by simp)
                  · rw [if_neg c51] at H
                    exact absurd H (by simp)
                · rw [if_neg c50] at H
                  exact absurd H (by simp)
        · replace c37 := Bool.eq_false_iff.mpr c37
          subst c37
          have H1 : (some (x7_1, t123)) = some (r1, r2) := by rw [if_neg (show ¬ (false = true) by decide)] at H; exact H
          clear H
          have H := H1
          clear H1
          simp only [Option.some.injEq, Prod.mk.injEq] at H
          obtain ⟨rfl, rfl⟩ := H
          go_wp2_with (first | ((with_reducible refine gate_callee (f := 53) rfl ?_); refine goesL_ (some 59) rfl rfl Try.func53 (by kernel_rfl) rfl #[.pointer (some ⟨g, 0, none⟩), .int .i64 a2] rfl (by (try simp only [List.map_toArray, List.map_cons, List.map_nil]); first | done | rfl | (simp only [List.length_drop, List.length_take]; rfl)) ?_; (with_reducible refine (spec_l20Rd_odd.calls k1 g s0_0 x1001_1 a2 false t123 w0 _ ?side1 ?side2 A36.out).mono ?_); (case side1 => repeat (first | (with_reducible first | exact HI0.out | apply IsS64.alloc | apply IsS64.drewN | apply IsS64.drew | apply IsS64.set_1) | exact HI0.out)); (case side2 => repeat (first | (with_reducible first | exact HB.out | apply below_alloc | apply pw_below_drewN | apply below_drew1 | refine below_set ?_ (IsS64.ge HI0.out)) | exact HB.out)); rintro e w63 ⟨rfl, hi, hb, hk⟩; refine ⟨_, rfl, ?_⟩; have n0_ := Aside0.mk (Kd.R_mono (Kd.R_keep (IsS64.apart (show IsS64 w0 _ g s0_0 x1001_1 from by repeat (first | (with_reducible first | exact HI0.out | apply IsS64.alloc | apply IsS64.drewN | apply IsS64.drew | apply IsS64.set_1) | exact HI0.out)) (by (with_reducible repeat (first | apply Kd.R_alloc | apply Kd.R_drewN | apply Kd.R_drew)); exact HO_7.out) (by decide)) hk (fun _ h => h.2)) (fun _ h => h.1)); have n1_ := Aside0.mk (KeepBut.trans (by repeat (first | (with_reducible first | exact HK.out | apply KeepBut.set_ | apply keep_drewN | apply keep_drew | apply keep_alloc) | exact HK.out)) hk (.inl rfl)); have n2_ := Aside0.mk (hb); have n3_ := Aside0.mk (hi); clear HO_7; clear HK; clear HB; clear HI0; have HO_7 := n0_; have HK := n1_; have HB := n2_; have HI0 := n3_; clear n0_ n1_ n2_ n3_; (try clear hb); (try clear hb2); (try clear hk); (try clear hi)))
          go_ret
          exact ⟨_, by first | rfl | (simp [errW_none, errW_some] <;> rfl) | (simp [*, errW_none, errW_some] <;> rfl), by (with_reducible repeat (first | apply Kd.R_alloc | apply Kd.R_drewN | apply Kd.R_drew)); exact HO_7.out, by repeat (first | (with_reducible first | exact HI0.out | apply IsS64.alloc | apply IsS64.drewN | apply IsS64.drew | apply IsS64.set_1) | exact HI0.out), by repeat (first | (with_reducible first | exact HB.out | apply below_alloc | apply pw_below_drewN | apply below_drew1 | refine below_set ?_ (IsS64.ge HI0.out)) | exact HB.out), by repeat (first | (with_reducible first | exact HK.out | apply KeepBut.set_ | apply keep_drewN | apply keep_drew | apply keep_alloc) | exact HK.out)⟩

end Go.Proofs.Ytabjigpbednfnaa.Q
