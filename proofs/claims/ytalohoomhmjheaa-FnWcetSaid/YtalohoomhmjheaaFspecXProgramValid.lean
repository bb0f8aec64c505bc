-- written by mp.py, a program of this session's, out of the kit's print program and the translation
import Derived.Test.YtalohoomhmjheaaF0
import Derived.Test.YtalohoomhmjheaaFA
import Derived.Test.YtalohoomhmjheaaFspecXl8Node
import Derived.Test.YtalohoomhmjheaaFspecXl8Costs
namespace Go.Proofs.Ytalohoomhmjheaa.Q
open Go.RowKit Go.Proofs.YtalohoomhmjheaaW.PrintWords Go.Proofs.YtalohoomhmjheaaW.PrintLast Go.Proofs.YtalohoomhmjheaaW.PrintMore
attribute [local go_sem] max2_int min2_int max_two min_two max_three min_three max_four min_four   -- for this text's walks alone
set_option linter.unusedVariables false
set_option linter.unusedSimpArgs false

/-! ### spec_ProgramValid: function 9 -/
def spec_ProgramValid.l0 : Nat → List (S28) → Int → Option (Bool)
  | 0, _, _ => none
  | k + 1, x0, x3 => if x3 < (x0.length : Int) then (if 0 ≤ x3 then ((spec_l8Node.f ((rd_T28 x0 x3).f0) ((rd_T28 x0 x3).f1) ((rd_T28 x0 x3).f2) ((rd_T28 x0 x3).f3) ((rd_T28 x0 x3).f4) x3).bind fun t103 => (if t103 = true then (spec_ProgramValid.l0 k x0 (wrap64 (x3 + 1))) else (some false))) else (none)) else ((spec_l8Costs.f k x0 true).bind fun t104 => (if 0 ≤ (wrap64 ((x0.length : Int) - 1)) then (if (wrap64 ((x0.length : Int) - 1)) < (t104.length : Int) then (some (decide ((rd t104 (wrap64 ((x0.length : Int) - 1))) ≤ 600))) else (none)) else (none)))
def spec_ProgramValid.f (k : Nat) (l0 : List (S28)) : Option (Bool) := (spec_l1In.f (l0.length : Int) 1 12).bind fun t101 => (if t101 = true then (spec_ProgramValid.l0 k l0 0) else (some false))
theorem spec_ProgramValid.mono_l : ∀ k, (∀ y0 y1, LeO (spec_ProgramValid.l0 k y0 y1) (spec_ProgramValid.l0 (k + 1) y0 y1))
  | 0 => fun _ _ r h => by simp [spec_ProgramValid.l0] at h
  | k + 1 => by
    have ih0 := spec_ProgramValid.mono_l k
    · intro y0 y1
      unfold spec_ProgramValid.l0
      repeat' first
      | (with_reducible exact ih0 _ _)
      | (with_reducible exact spec_l8Costs.mono _ _ _)
      | (with_reducible exact LeO.refl _)
      | (with_reducible exact LeO.none _)
      | (with_reducible refine LeO.ite ?_ ?_)
      | (with_reducible refine LeO.bind ?_ (fun _ => ?_))
      | exact ih0 _ _
      | exact spec_l8Costs.mono _ _ _
      | exact LeO.none _
      | refine LeO.ite ?_ ?_
      | refine LeO.bind ?_ (fun _ => ?_)
theorem spec_ProgramValid.mono : ∀ a0 k, LeO (spec_ProgramValid.f k a0) (spec_ProgramValid.f (k + 1) a0) := by
  intro a0 k
  have ih0 := spec_ProgramValid.mono_l k
  unfold spec_ProgramValid.f
  repeat' first
      | (with_reducible exact ih0 _ _)
      | (with_reducible exact spec_l8Costs.mono _ _ _)
      | (with_reducible exact LeO.refl _)
      | (with_reducible exact LeO.none _)
      | (with_reducible refine LeO.ite ?_ ?_)
      | (with_reducible refine LeO.bind ?_ (fun _ => ?_))
      | exact ih0 _ _
      | exact spec_l8Costs.mono _ _ _
      | exact LeO.none _
      | refine LeO.ite ?_ ?_
      | refine LeO.bind ?_ (fun _ => ?_)
set_option maxHeartbeats 8000000 in
set_option maxRecDepth 100000 in
theorem spec_ProgramValid.calls (k : Nat) (A0 : Option Addr) (c0 : Nat) (l0 : List (S28)) (r : Bool) (w : World) (hr0 : Kd.C k28 w A0 l0.length l0) (hc0 : l0.length ≤ c0) (h : spec_ProgramValid.f k l0 = some r) :
    Calls Try.prog 9 #[.slice A0 l0.length c0] w fun e w' => e = .returned (.bool r) ∧ Below w.heap.size w w' := by
  (have hu28 := Try.underlying28); (have HR0 := Aside0.mk hr0); (have HC0 := Aside0.mk hc0); clear hr0 hc0; (have HB := Aside0.mk (Below.refl w.heap.size w)); (have H : ((spec_l1In.f (l0.length : Int) 1 12).bind fun t101 => (if t101 = true then (spec_ProgramValid.l0 k l0 0) else (some false))) = some r := h); clear h; (replace H := Option.bind_eq_some_iff.mp H); (obtain ⟨t101, A20, H⟩ := H); (replace H : (if t101 = true then (spec_ProgramValid.l0 k l0 0) else (some false)) = some r := H); (have A2 := Aside0.mk A20); clear A20; (by_cases c3 : t101 = true)
  · (subst c3); (have H1 : (spec_ProgramValid.l0 k l0 0) = some r := by rw [if_pos rfl] at H; exact H); clear H; (have H := H1); clear H1; (have H' := Aside0.mk H); clear H; (go_enter Try.func9, Try.ntmps9); (go_wp2_with (first | ((with_reducible refine gate_callee (f := 23) rfl ?_); refine goesL_ (some 6) rfl rfl Try.func23 (by kernel_rfl) rfl #[.int .i64 (l0.length : Int), .int .i64 1, .int .i64 12] rfl (by (try simp only [List.map_toArray, List.map_cons, List.map_nil]); first | done | rfl | (simp only [List.length_drop, List.length_take]; rfl)) ?_; (with_reducible refine (spec_l1In.calls (l0.length : Int) 1 12 true _ A2.out).mono ?_); rintro e w' ⟨rfl, ⟨nd, rfl⟩⟩; refine ⟨_, rfl, ?_⟩))); (go_loopg [3] k (fun kq v3 w' => ∃ (x3_1 : Int), v3 = .int .i64 x3_1 ∧ Aside0 (spec_ProgramValid.l0 kq l0 x3_1 = some r) ∧ Aside0 (kq ≤ k) ∧ Aside0 (Below w.heap.size w w')))
    case atStart => exact ⟨(0), (by first | rfl | (simp; done) | (simp [*]; done)), H', ⟨Nat.le_refl _⟩, ⟨bm HB.out⟩⟩
    case round =>
      clear H'; (try clear c2); (try clear p2); (try clear c3); (obtain ⟨x3_1, rfl, HA, HK1, HB⟩ := hrel)
      cases gk with
      | zero => exact absurd HA.out (by simp [spec_ProgramValid.l0])
      | succ k1 =>
        (have H := HA.out); clear HA; (simp only [spec_ProgramValid.l0] at H); (by_cases c4 : x3_1 < (l0.length : Int))
        · (rw [if_pos c4] at H); (have c4b0 : decide (x3_1 < (l0.length : Int)) = true := decide_eq_true c4); clear c4; (by_cases c5 : 0 ≤ x3_1)
          · (rw [if_pos c5] at H); (have c5b0 : decide (0 ≤ x3_1) = true := decide_eq_true c5); clear c5; (replace H := Option.bind_eq_some_iff.mp H); (obtain ⟨t103, A60, H⟩ := H); (replace H : (if t103 = true then (spec_ProgramValid.l0 k1 l0 (wrap64 (x3_1 + 1))) else (some false)) = some r := H); (have A6 := Aside0.mk A60); clear A60; (by_cases c7 : t103 = true)
            · (subst c7); (have H1 : (spec_ProgramValid.l0 k1 l0 (wrap64 (x3_1 + 1))) = some r := by rw [if_pos rfl] at H; exact H); clear H; (have H := H1); clear H1; (have H' := Aside0.mk H); clear H; (have p102 : 0 ≤ (x3_1 : Int) := of_decide_eq_true (by first | (with_reducible assumption) | assumption)); (have q102 : x3_1 < (l0.length : Int) := of_decide_eq_true (by first | (with_reducible assumption) | assumption)); (obtain ⟨ad102, e102, hx102_0, hx102_1, hx102_2, hx102_3, hx102_4⟩ := at_T28 HR0.out x3_1 p102 q102); (cases e102); (replace hx102_0 := (HB.out.cell (World.block_lt_of_cell? w _ hx102_0)).trans hx102_0); (replace hx102_1 := (HB.out.cell (World.block_lt_of_cell? w _ hx102_1)).trans hx102_1); (replace hx102_2 := (HB.out.cell (World.block_lt_of_cell? w _ hx102_2)).trans hx102_2); (replace hx102_3 := (HB.out.cell (World.block_lt_of_cell? w _ hx102_3)).trans hx102_3); (replace hx102_4 := (HB.out.cell (World.block_lt_of_cell? w _ hx102_4)).trans hx102_4); (replace p102 := eq_true p102); (replace q102 := eq_true q102); (go_wp2_with (first | ((with_reducible refine gate_callee (f := 24) rfl ?_); refine goesL_ (some 19) rfl rfl Try.func24 (by kernel_rfl) rfl #[.agg #[.int .i64 ((rd_T28 l0 x3_1).f0), .int .i64 ((rd_T28 l0 x3_1).f1), .int .i64 ((rd_T28 l0 x3_1).f2), .int .i64 ((rd_T28 l0 x3_1).f3), .int .i64 ((rd_T28 l0 x3_1).f4)], .int .i64 x3_1] rfl (by (try simp only [List.map_toArray, List.map_cons, List.map_nil]); first | done | rfl | (simp only [List.length_drop, List.length_take]; rfl)) ?_; (with_reducible refine (spec_l8Node.calls ((rd_T28 l0 x3_1).f0) ((rd_T28 l0 x3_1).f1) ((rd_T28 l0 x3_1).f2) ((rd_T28 l0 x3_1).f3) ((rd_T28 l0 x3_1).f4) x3_1 true _ A6.out).mono ?_); rintro e w8 ⟨rfl, hb⟩; refine ⟨_, rfl, ?_⟩; have n0_ := Aside0.mk (below_step (bm HB.out) hb); clear HB; have HB := n0_; clear n0_; (try clear hb); (try clear hb2); (try clear hk); (try clear hi)))); (go_roundg k1)
              case measure => have := HK1.out; omega
              case rel => exact ⟨(wrap64 (x3_1 + 1)), (by first | rfl | (simp; done) | (simp [*]; done)), H', ⟨by have := HK1.out; omega⟩, ⟨bm HB.out⟩⟩
            · (replace c7 := Bool.eq_false_iff.mpr c7); (subst c7); (have H1 : (some false) = some r := by rw [if_neg (show ¬ (false = true) by decide)] at H; exact H); clear H; (have H := H1); clear H1; (obtain rfl := Option.some.inj H); (have p102 : 0 ≤ (x3_1 : Int) := of_decide_eq_true (by first | (with_reducible assumption) | assumption)); (have q102 : x3_1 < (l0.length : Int) := of_decide_eq_true (by first | (with_reducible assumption) | assumption)); (obtain ⟨ad102, e102, hx102_0, hx102_1, hx102_2, hx102_3, hx102_4⟩ := at_T28 HR0.out x3_1 p102 q102); (cases e102); (replace hx102_0 := (HB.out.cell (World.block_lt_of_cell? w _ hx102_0)).trans hx102_0); (replace hx102_1 := (HB.out.cell (World.block_lt_of_cell? w _ hx102_1)).trans hx102_1); (replace hx102_2 := (HB.out.cell (World.block_lt_of_cell? w _ hx102_2)).trans hx102_2); (replace hx102_3 := (HB.out.cell (World.block_lt_of_cell? w _ hx102_3)).trans hx102_3); (replace hx102_4 := (HB.out.cell (World.block_lt_of_cell? w _ hx102_4)).trans hx102_4); (replace p102 := eq_true p102); (replace q102 := eq_true q102); (go_wp2_with (first | ((with_reducible refine gate_callee (f := 24) rfl ?_); refine goesL_ (some 19) rfl rfl Try.func24 (by kernel_rfl) rfl #[.agg #[.int .i64 ((rd_T28 l0 x3_1).f0), .int .i64 ((rd_T28 l0 x3_1).f1), .int .i64 ((rd_T28 l0 x3_1).f2), .int .i64 ((rd_T28 l0 x3_1).f3), .int .i64 ((rd_T28 l0 x3_1).f4)], .int .i64 x3_1] rfl (by (try simp only [List.map_toArray, List.map_cons, List.map_nil]); first | done | rfl | (simp only [List.length_drop, List.length_take]; rfl)) ?_; (with_reducible refine (spec_l8Node.calls ((rd_T28 l0 x3_1).f0) ((rd_T28 l0 x3_1).f1) ((rd_T28 l0 x3_1).f2) ((rd_T28 l0 x3_1).f3) ((rd_T28 l0 x3_1).f4) x3_1 false _ A6.out).mono ?_); rintro e w9 ⟨rfl, hb⟩; refine ⟨_, rfl, ?_⟩; have n0_ := Aside0.mk (below_step (bm HB.out) hb); clear HB; have HB := n0_; clear n0_; (try clear hb); (try clear hb2); (try clear hk); (try clear hi)))); (go_ret); (exact ⟨by first | rfl | (simp [errW_none, errW_some] <;> rfl) | (simp [*, errW_none, errW_some] <;> rfl), bm HB.out⟩)
          · (rw [if_neg c5] at H); (exact absurd H (by simp))
        · (rw [if_neg c4] at H); (have c4b0 : decide (x3_1 < (l0.length : Int)) = false := decide_eq_false c4); clear c4; (replace H := Option.bind_eq_some_iff.mp H); (obtain ⟨t104, A100, H⟩ := H); (replace H : (if 0 ≤ (wrap64 ((l0.length : Int) - 1)) then (if (wrap64 ((l0.length : Int) - 1)) < (t104.length : Int) then (some (decide ((rd t104 (wrap64 ((l0.length : Int) - 1))) ≤ 600))) else (none)) else (none)) = some r := H); (have A10 := Aside0.mk A100); clear A100; (obtain ⟨ji11, hji11⟩ : ∃ j_ : Int, (wrap64 ((l0.length : Int) - 1)) = j_ := ⟨_, rfl⟩); (replace H : (if 0 ≤ (ji11) then (if (ji11) < (t104.length : Int) then (some (decide ((rd t104 (ji11)) ≤ 600))) else (none)) else (none)) = some r := by first | (rw [hji11] at H; exact H) | (simp only [hji11] at H ⊢; exact H)); (try rw [hji11] at A10); (have hji11w : (IntKind.i64.wrap ((l0.length : Int) - 1)) = ji11 := (i64_w _).trans hji11); (by_cases c12 : 0 ≤ (ji11))
          · ((rw [if_pos c12] at H); (have c12b0 : decide (0 ≤ (ji11)) = true := decide_eq_true c12); clear c12; (by_cases c13 : (ji11) < (t104.length : Int))); (· (rw [if_pos c13] at H); (have c13b0 : decide ((ji11) < (t104.length : Int)) = true := decide_eq_true c13); clear c13; (obtain rfl := Option.some.inj H); (go_wp2_with (first | ((with_reducible refine gate_callee (f := 25) rfl ?_); refine goesL_ (some 22) rfl rfl Try.func25 (by kernel_rfl) rfl #[.slice A0 l0.length c0, .bool true] rfl (by (try simp only [List.map_toArray, List.map_cons, List.map_nil]); first | done | rfl | (simp only [List.length_drop, List.length_take]; rfl)) ?_; (with_reducible refine (spec_l8Costs.calls k1 _ _ l0 true t104 _ ?side1 ?side2 A10.out).mono ?_); (case side1 => exact cm ((Kd.C_below HR0.out HB.out))); (case side2 => exact HC0.out); rintro e w14 ⟨v105, rfl, ho0, hb⟩; refine ⟨_, rfl, ?_⟩; have n0_ := Aside0.mk (Kd.R_lower ho0 (below_size (bm HB.out))); have n1_ := Aside0.mk (below_step (bm HB.out) hb); clear HB; have HO106 := n0_; have HB := n1_; clear n0_ n1_; (try clear hb); (try clear hb2); (try clear hk); (try clear hi); (try clear ho0); obtain ⟨Ao15, co15, eo15⟩ := Kd.R_slice HO106.out; subst eo15; have p107 : 0 ≤ ((ji11) : Int) := of_decide_eq_true (by first | (with_reducible assumption) | assumption); have q107 : (ji11) < (t104.length : Int) := of_decide_eq_true (by first | (with_reducible assumption) | assumption); obtain ⟨ad107, e107, hx107_0⟩ := Kd.at_int (Kd.R_reads' HO106.out).2.2 (ji11) p107 q107; cases e107; replace p107 := eq_true p107; replace q107 := eq_true q107))); (go_ret); (exact ⟨by first | rfl | (simp [errW_none, errW_some] <;> rfl) | (simp only [← hji11]; first | rfl | (simp [errW_none, errW_some] <;> rfl)) | (simp [*, errW_none, errW_some] <;> rfl), bm HB.out⟩)); (· (rw [if_neg c13] at H); (exact absurd H (by simp)))
          · (rw [if_neg c12] at H); (exact absurd H (by simp))
  · (replace c3 := Bool.eq_false_iff.mpr c3); (subst c3); (have H1 : (some false) = some r := by rw [if_neg (show ¬ (false = true) by decide)] at H; exact H); clear H; (have H := H1); clear H1; (obtain rfl := Option.some.inj H); (go_enter Try.func9, Try.ntmps9); (go_wp2_with (first | ((with_reducible refine gate_callee (f := 23) rfl ?_); refine goesL_ (some 6) rfl rfl Try.func23 (by kernel_rfl) rfl #[.int .i64 (l0.length : Int), .int .i64 1, .int .i64 12] rfl (by (try simp only [List.map_toArray, List.map_cons, List.map_nil]); first | done | rfl | (simp only [List.length_drop, List.length_take]; rfl)) ?_; (with_reducible refine (spec_l1In.calls (l0.length : Int) 1 12 false _ A2.out).mono ?_); rintro e w' ⟨rfl, ⟨nd, rfl⟩⟩; refine ⟨_, rfl, ?_⟩))); (go_ret); (exact ⟨by first | rfl | (simp [errW_none, errW_some] <;> rfl) | (simp [*, errW_none, errW_some] <;> rfl), bm HB.out⟩)

end Go.Proofs.Ytalohoomhmjheaa.Q
