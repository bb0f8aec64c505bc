-- written by mp.py, a program of this session's, out of the kit's print program and the translation
import Derived.Test.YtabjigpbednfnaaF0
import Derived.Test.YtabjigpbednfnaaFspecXl6Ceiling
namespace Go.Proofs.Ytabjigpbednfnaa.Q
open Go.RowKit Go.Proofs.YtabjigpbednfnaaW.PrintWords Go.Proofs.YtabjigpbednfnaaW.PrintLast Go.Proofs.YtabjigpbednfnaaW.PrintMore
attribute [local go_sem] max2_int min2_int max_two min_two max_three min_three max_four min_four   -- for this text's walks alone
set_option linter.unusedVariables false
set_option linter.unusedSimpArgs false

/-! ### spec_l6Block: function 40 -/
def spec_l6Block.l0 : Nat → List (S33) → List (S31) → Int → Int → Int → Option (Int)
  | 0, _, _, _, _, _ => none
  | k + 1, x0, x1, x2, x7, x8 => if x8 < (x0.length : Int) then (if 0 ≤ x8 then (if ((rd_T33 x0 x8).f1) > x2 then (if x8 < (x1.length : Int) then (if ((rd_T31 x1 x8).f1) > 0 then ((spec_l6Ceiling.f k x0 x1 ((rd_T31 x1 x8).f2)).bind fun t104 => (if t104 ≤ x2 then (spec_l6Block.l0 k x0 x1 x2 (mx x7 ((rd_T31 x1 x8).f1)) (wrap64 (x8 + 1))) else (spec_l6Block.l0 k x0 x1 x2 x7 (wrap64 (x8 + 1))))) else (spec_l6Block.l0 k x0 x1 x2 x7 (wrap64 (x8 + 1)))) else (none)) else (spec_l6Block.l0 k x0 x1 x2 x7 (wrap64 (x8 + 1)))) else (none)) else (some x7)
def spec_l6Block.f (k : Nat) (l0 : List (S33)) (l1 : List (S31)) (a2 : Int) : Option (Int) := spec_l6Block.l0 k l0 l1 a2 0 0
theorem spec_l6Block.mono_l : ∀ k, (∀ y0 y1 y2 y3 y4, LeO (spec_l6Block.l0 k y0 y1 y2 y3 y4) (spec_l6Block.l0 (k + 1) y0 y1 y2 y3 y4))
  | 0 => fun _ _ _ _ _ r h => by simp [spec_l6Block.l0] at h
  | k + 1 => by
    have ih0 := spec_l6Block.mono_l k
    · intro y0 y1 y2 y3 y4
      unfold spec_l6Block.l0
      repeat' first
      | (with_reducible exact ih0 _ _ _ _ _)
      | (with_reducible exact spec_l6Ceiling.mono _ _ _ _)
      | (with_reducible exact LeO.refl _)
      | (with_reducible exact LeO.none _)
      | (with_reducible refine LeO.ite ?_ ?_)
      | (with_reducible refine LeO.bind ?_ (fun _ => ?_))
      | exact ih0 _ _ _ _ _
      | exact spec_l6Ceiling.mono _ _ _ _
      | exact LeO.none _
      | refine LeO.ite ?_ ?_
      | refine LeO.bind ?_ (fun _ => ?_)
theorem spec_l6Block.mono : ∀ a0 a1 a2 k, LeO (spec_l6Block.f k a0 a1 a2) (spec_l6Block.f (k + 1) a0 a1 a2) := by
  intro a0 a1 a2 k
  have ih0 := spec_l6Block.mono_l k
  unfold spec_l6Block.f
  repeat' first
      | (with_reducible exact ih0 _ _ _ _ _)
      | (with_reducible exact spec_l6Ceiling.mono _ _ _ _)
      | (with_reducible exact LeO.refl _)
      | (with_reducible exact LeO.none _)
      | (with_reducible refine LeO.ite ?_ ?_)
      | (with_reducible refine LeO.bind ?_ (fun _ => ?_))
      | exact ih0 _ _ _ _ _
      | exact spec_l6Ceiling.mono _ _ _ _
      | exact LeO.none _
      | refine LeO.ite ?_ ?_
      | refine LeO.bind ?_ (fun _ => ?_)
set_option maxHeartbeats 8000000 in
set_option maxRecDepth 100000 in
theorem spec_l6Block.calls (k : Nat) (A0 : Option Addr) (c0 : Nat) (l0 : List (S33)) (A1 : Option Addr) (c1 : Nat) (l1 : List (S31)) (a2 : Int) (r : Int) (w : World) (hr0 : Kd.C k33 w A0 l0.length l0) (hc0 : l0.length ≤ c0) (hr1 : Kd.C k31 w A1 l1.length l1) (hc1 : l1.length ≤ c1) (h : spec_l6Block.f k l0 l1 a2 = some r) :
    Calls Try.prog 40 #[.slice A0 l0.length c0, .slice A1 l1.length c1, .int .i64 a2] w fun e w' => e = .returned (.int .i64 r) ∧ Below w.heap.size w w' := by
  (have HR0 := Aside0.mk hr0); (have HC0 := Aside0.mk hc0); clear hr0 hc0; (have HR1 := Aside0.mk hr1); (have HC1 := Aside0.mk hc1); clear hr1 hc1; (have HB := Aside0.mk (Below.refl w.heap.size w)); (have H : (spec_l6Block.l0 k l0 l1 a2 0 0) = some r := h); clear h; (have H' := Aside0.mk H); clear H; (go_enter Try.func40, Try.ntmps40); (go_wp2); (go_loopg [7, 8] k (fun kq v7 v8 w' => ∃ (x7_1 : Int) (x8_1 : Int), v7 = .int .i64 x7_1 ∧ v8 = .int .i64 x8_1 ∧ Aside0 (spec_l6Block.l0 kq l0 l1 a2 x7_1 x8_1 = some r) ∧ Aside0 (kq ≤ k) ∧ Aside0 (Below w.heap.size w w')))
  case atStart => exact ⟨(0), (0), (by first | rfl | (simp; done) | (simp [*]; done)), (by first | rfl | (simp; done) | (simp [*]; done)), H', ⟨Nat.le_refl _⟩, ⟨bm HB.out⟩⟩
  case round =>
    clear H'; (try clear c1); (try clear p2); (obtain ⟨x7_1, x8_1, rfl, rfl, HA, HK1, HB⟩ := hrel)
    cases gk with
    | zero => exact absurd HA.out (by simp [spec_l6Block.l0])
    | succ k1 =>
      (have H := HA.out); clear HA; (simp only [spec_l6Block.l0] at H); (by_cases c4 : x8_1 < (l0.length : Int))
      · (rw [if_pos c4] at H); (have c4b0 : decide (x8_1 < (l0.length : Int)) = true := decide_eq_true c4); clear c4; (by_cases c5 : 0 ≤ x8_1)
        · (rw [if_pos c5] at H); (have c5b0 : decide (0 ≤ x8_1) = true := decide_eq_true c5); clear c5; (by_cases c6 : ((rd_T33 l0 x8_1).f1) > a2)
          · (rw [if_pos c6] at H); (have c6b0 : decide (a2 < ((rd_T33 l0 x8_1).f1)) = true := decide_eq_true c6); clear c6; (by_cases c7 : x8_1 < (l1.length : Int))
            · (rw [if_pos c7] at H); (have c7b0 : decide (x8_1 < (l1.length : Int)) = true := decide_eq_true c7); clear c7; (by_cases c8 : ((rd_T31 l1 x8_1).f1) > 0)
              · (rw [if_pos c8] at H); (have c8b0 : decide (0 < ((rd_T31 l1 x8_1).f1)) = true := decide_eq_true c8); clear c8; (replace H := Option.bind_eq_some_iff.mp H); (obtain ⟨t104, A90, H⟩ := H); (replace H : (if t104 ≤ a2 then (spec_l6Block.l0 k1 l0 l1 a2 (mx x7_1 ((rd_T31 l1 x8_1).f1)) (wrap64 (x8_1 + 1))) else (spec_l6Block.l0 k1 l0 l1 a2 x7_1 (wrap64 (x8_1 + 1)))) = some r := H); (have A9 := Aside0.mk A90); clear A90; (by_cases c10 : t104 ≤ a2)
                · (rw [if_pos c10] at H); (have c10b0 : decide (t104 ≤ a2) = true := decide_eq_true c10); clear c10; (obtain ⟨ji11, hji11⟩ : ∃ j_ : Int, (mx x7_1 ((rd_T31 l1 x8_1).f1)) = j_ := ⟨_, rfl⟩); (replace H : (spec_l6Block.l0 k1 l0 l1 a2 ji11 (wrap64 (x8_1 + 1))) = some r := by first | (rw [hji11] at H; exact H) | (simp only [hji11] at H ⊢; exact H)); (try rw [hji11] at A9); (have hji11_ : (if x7_1 < ((rd_T31 l1 x8_1).f1) then ((rd_T31 l1 x8_1).f1) else x7_1) = ji11 := hji11); (have H' := Aside0.mk H); clear H; (have p101 : 0 ≤ (x8_1 : Int) := of_decide_eq_true (by first | (with_reducible assumption) | assumption)); (have q101 : x8_1 < (l0.length : Int) := of_decide_eq_true (by first | (with_reducible assumption) | assumption)); (obtain ⟨ad101, e101, hx101_0, hx101_1, hx101_2⟩ := at_T33 HR0.out x8_1 p101 q101); (cases e101); (replace hx101_0 := (HB.out.cell (World.block_lt_of_cell? w _ hx101_0)).trans hx101_0); (replace hx101_1 := (HB.out.cell (World.block_lt_of_cell? w _ hx101_1)).trans hx101_1); (replace hx101_2 := (HB.out.cell (World.block_lt_of_cell? w _ hx101_2)).trans hx101_2); (replace p101 := eq_true p101); (replace q101 := eq_true q101); (have p102 : 0 ≤ (x8_1 : Int) := of_decide_eq_true (by first | (with_reducible assumption) | assumption)); (have q102 : x8_1 < (l1.length : Int) := of_decide_eq_true (by first | (with_reducible assumption) | assumption)); (obtain ⟨ad102, e102, hx102_0, hx102_1, hx102_2⟩ := at_T31 HR1.out x8_1 p102 q102); (cases e102); (replace hx102_0 := (HB.out.cell (World.block_lt_of_cell? w _ hx102_0)).trans hx102_0); (replace hx102_1 := (HB.out.cell (World.block_lt_of_cell? w _ hx102_1)).trans hx102_1); (replace hx102_2 := (HB.out.cell (World.block_lt_of_cell? w _ hx102_2)).trans hx102_2); (replace p102 := eq_true p102); (replace q102 := eq_true q102); (have p103 : 0 ≤ (x8_1 : Int) := of_decide_eq_true (by first | (with_reducible assumption) | assumption)); (have q103 : x8_1 < (l1.length : Int) := of_decide_eq_true (by first | (with_reducible assumption) | assumption)); (obtain ⟨ad103, e103, hx103_0, hx103_1, hx103_2⟩ := at_T31 HR1.out x8_1 p103 q103); (obtain rfl : ad102 = ad103 := (by injection e103)); (replace hx103_0 := (HB.out.cell (World.block_lt_of_cell? w _ hx103_0)).trans hx103_0); (replace hx103_1 := (HB.out.cell (World.block_lt_of_cell? w _ hx103_1)).trans hx103_1); (replace hx103_2 := (HB.out.cell (World.block_lt_of_cell? w _ hx103_2)).trans hx103_2); (replace p103 := eq_true p103); (replace q103 := eq_true q103); (go_wp2_with (first | (go_at_call 37; (with_reducible refine (spec_l6Ceiling.calls k1 _ _ l0 _ _ l1 ((rd_T31 l1 x8_1).f2) t104 _ ?side1 ?side2 ?side3 ?side4 A9.out).mono ?_); (case side1 => exact cm ((Kd.C_below HR0.out HB.out))); (case side2 => exact HC0.out); (case side3 => exact cm ((Kd.C_below HR1.out HB.out))); (case side4 => exact HC1.out); rintro e w12 ⟨rfl, hb⟩; have n0_ := Aside0.mk (below_step (bm HB.out) hb); clear HB; have HB := n0_; clear n0_; (try clear hb); (try clear hb2); (try clear hk); (try clear hi); have p105 : 0 ≤ (x8_1 : Int) := of_decide_eq_true (by first | (with_reducible assumption) | assumption); have q105 : x8_1 < (l1.length : Int) := of_decide_eq_true (by first | (with_reducible assumption) | assumption); obtain ⟨ad105, e105, hx105_0, hx105_1, hx105_2⟩ := at_T31 HR1.out x8_1 p105 q105; obtain rfl : ad102 = ad105 := (by injection e105); replace hx105_0 := (HB.out.cell (World.block_lt_of_cell? w _ hx105_0)).trans hx105_0; replace hx105_1 := (HB.out.cell (World.block_lt_of_cell? w _ hx105_1)).trans hx105_1; replace hx105_2 := (HB.out.cell (World.block_lt_of_cell? w _ hx105_2)).trans hx105_2; replace p105 := eq_true p105; replace q105 := eq_true q105))); (go_roundg k1)
                  case measure => have := HK1.out; omega
                  case rel => exact ⟨(ji11), (wrap64 (x8_1 + 1)), (by first | rfl | (simp; done) | (simp only [← hji11] <;> (first | rfl | simp)) | (simp [*]; done)), (by first | rfl | (simp; done) | (simp [*]; done)), H', ⟨by have := HK1.out; omega⟩, ⟨bm HB.out⟩⟩
                · (rw [if_neg c10] at H); (have c10b0 : decide (t104 ≤ a2) = false := decide_eq_false c10); clear c10; (have H' := Aside0.mk H); clear H; (have p101 : 0 ≤ (x8_1 : Int) := of_decide_eq_true (by first | (with_reducible assumption) | assumption)); (have q101 : x8_1 < (l0.length : Int) := of_decide_eq_true (by first | (with_reducible assumption) | assumption)); (obtain ⟨ad101, e101, hx101_0, hx101_1, hx101_2⟩ := at_T33 HR0.out x8_1 p101 q101); (cases e101); (replace hx101_0 := (HB.out.cell (World.block_lt_of_cell? w _ hx101_0)).trans hx101_0); (replace hx101_1 := (HB.out.cell (World.block_lt_of_cell? w _ hx101_1)).trans hx101_1); (replace hx101_2 := (HB.out.cell (World.block_lt_of_cell? w _ hx101_2)).trans hx101_2); (replace p101 := eq_true p101); (replace q101 := eq_true q101); (have p102 : 0 ≤ (x8_1 : Int) := of_decide_eq_true (by first | (with_reducible assumption) | assumption)); (have q102 : x8_1 < (l1.length : Int) := of_decide_eq_true (by first | (with_reducible assumption) | assumption)); (obtain ⟨ad102, e102, hx102_0, hx102_1, hx102_2⟩ := at_T31 HR1.out x8_1 p102 q102); (cases e102); (replace hx102_0 := (HB.out.cell (World.block_lt_of_cell? w _ hx102_0)).trans hx102_0); (replace hx102_1 := (HB.out.cell (World.block_lt_of_cell? w _ hx102_1)).trans hx102_1); (replace hx102_2 := (HB.out.cell (World.block_lt_of_cell? w _ hx102_2)).trans hx102_2); (replace p102 := eq_true p102); (replace q102 := eq_true q102); (have p103 : 0 ≤ (x8_1 : Int) := of_decide_eq_true (by first | (with_reducible assumption) | assumption)); (have q103 : x8_1 < (l1.length : Int) := of_decide_eq_true (by first | (with_reducible assumption) | assumption)); (obtain ⟨ad103, e103, hx103_0, hx103_1, hx103_2⟩ := at_T31 HR1.out x8_1 p103 q103); (obtain rfl : ad102 = ad103 := (by injection e103)); (replace hx103_0 := (HB.out.cell (World.block_lt_of_cell? w _ hx103_0)).trans hx103_0); (replace hx103_1 := (HB.out.cell (World.block_lt_of_cell? w _ hx103_1)).trans hx103_1); (replace hx103_2 := (HB.out.cell (World.block_lt_of_cell? w _ hx103_2)).trans hx103_2); (replace p103 := eq_true p103); (replace q103 := eq_true q103); (go_wp2_with (first | (go_at_call 37; (with_reducible refine (spec_l6Ceiling.calls k1 _ _ l0 _ _ l1 ((rd_T31 l1 x8_1).f2) t104 _ ?side1 ?side2 ?side3 ?side4 A9.out).mono ?_); (case side1 => exact cm ((Kd.C_below HR0.out HB.out))); (case side2 => exact HC0.out); (case side3 => exact cm ((Kd.C_below HR1.out HB.out))); (case side4 => exact HC1.out); rintro e w13 ⟨rfl, hb⟩; have n0_ := Aside0.mk (below_step (bm HB.out) hb); clear HB; have HB := n0_; clear n0_; (try clear hb); (try clear hb2); (try clear hk); (try clear hi)))); (go_roundg k1)
                  case measure => have := HK1.out; omega
                  case rel => exact ⟨(x7_1), (wrap64 (x8_1 + 1)), (by first | rfl | (simp; done) | (simp [*]; done)), (by first | rfl | (simp; done) | (simp [*]; done)), H', ⟨by have := HK1.out; omega⟩, ⟨bm HB.out⟩⟩
              · (rw [if_neg c8] at H); (have c8b0 : decide (0 < ((rd_T31 l1 x8_1).f1)) = false := decide_eq_false c8); clear c8; (have H' := Aside0.mk H); clear H; (have p101 : 0 ≤ (x8_1 : Int) := of_decide_eq_true (by first | (with_reducible assumption) | assumption)); (have q101 : x8_1 < (l0.length : Int) := of_decide_eq_true (by first | (with_reducible assumption) | assumption)); (obtain ⟨ad101, e101, hx101_0, hx101_1, hx101_2⟩ := at_T33 HR0.out x8_1 p101 q101); (cases e101); (replace hx101_0 := (HB.out.cell (World.block_lt_of_cell? w _ hx101_0)).trans hx101_0); (replace hx101_1 := (HB.out.cell (World.block_lt_of_cell? w _ hx101_1)).trans hx101_1); (replace hx101_2 := (HB.out.cell (World.block_lt_of_cell? w _ hx101_2)).trans hx101_2); (replace p101 := eq_true p101); (replace q101 := eq_true q101); (have p102 : 0 ≤ (x8_1 : Int) := of_decide_eq_true (by first | (with_reducible assumption) | assumption)); (have q102 : x8_1 < (l1.length : Int) := of_decide_eq_true (by first | (with_reducible assumption) | assumption)); (obtain ⟨ad102, e102, hx102_0, hx102_1, hx102_2⟩ := at_T31 HR1.out x8_1 p102 q102); (cases e102); (replace hx102_0 := (HB.out.cell (World.block_lt_of_cell? w _ hx102_0)).trans hx102_0); (replace hx102_1 := (HB.out.cell (World.block_lt_of_cell? w _ hx102_1)).trans hx102_1); (replace hx102_2 := (HB.out.cell (World.block_lt_of_cell? w _ hx102_2)).trans hx102_2); (replace p102 := eq_true p102); (replace q102 := eq_true q102); (go_wp2); (go_roundg k1)
                case measure => have := HK1.out; omega
                case rel => exact ⟨(x7_1), (wrap64 (x8_1 + 1)), (by first | rfl | (simp; done) | (simp [*]; done)), (by first | rfl | (simp; done) | (simp [*]; done)), H', ⟨by have := HK1.out; omega⟩, ⟨bm HB.out⟩⟩
            · (rw [if_neg c7] at H); (exact absurd H (by simp))
          · (rw [if_neg c6] at H); (have c6b0 : decide (a2 < ((rd_T33 l0 x8_1).f1)) = false := decide_eq_false c6); clear c6; (have H' := Aside0.mk H); clear H; (have p101 : 0 ≤ (x8_1 : Int) := of_decide_eq_true (by first | (with_reducible assumption) | assumption)); (have q101 : x8_1 < (l0.length : Int) := of_decide_eq_true (by first | (with_reducible assumption) | assumption)); (obtain ⟨ad101, e101, hx101_0, hx101_1, hx101_2⟩ := at_T33 HR0.out x8_1 p101 q101); (cases e101); (replace hx101_0 := (HB.out.cell (World.block_lt_of_cell? w _ hx101_0)).trans hx101_0); (replace hx101_1 := (HB.out.cell (World.block_lt_of_cell? w _ hx101_1)).trans hx101_1); (replace hx101_2 := (HB.out.cell (World.block_lt_of_cell? w _ hx101_2)).trans hx101_2); (replace p101 := eq_true p101); (replace q101 := eq_true q101); (go_wp2); (go_roundg k1)
            case measure => have := HK1.out; omega
            case rel => exact ⟨(x7_1), (wrap64 (x8_1 + 1)), (by first | rfl | (simp; done) | (simp [*]; done)), (by first | rfl | (simp; done) | (simp [*]; done)), H', ⟨by have := HK1.out; omega⟩, ⟨bm HB.out⟩⟩
        · (rw [if_neg c5] at H); (exact absurd H (by simp))
      · (rw [if_neg c4] at H); (have c4b0 : decide (x8_1 < (l0.length : Int)) = false := decide_eq_false c4); clear c4; (obtain rfl := Option.some.inj H); (go_wp2); (go_ret); (exact ⟨by first | rfl | (simp [errW_none, errW_some] <;> rfl) | (simp [*, errW_none, errW_some] <;> rfl), bm HB.out⟩)

end Go.Proofs.Ytabjigpbednfnaa.Q
