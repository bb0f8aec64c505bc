-- written by mp.py, a program of this session's, out of the kit's print program and the translation
import Derived.Test.YtabjigpbednfnaaF0
import Derived.Test.YtabjigpbednfnaaFspecXSectionsValid
import Derived.Test.YtabjigpbednfnaaFspecXl6Block
import Derived.Test.YtabjigpbednfnaaFspecXl1Hyper
import Derived.Test.YtabjigpbednfnaaFspecXl2Demand
namespace Go.Proofs.Ytabjigpbednfnaa.Q
open Go.RowKit Go.Proofs.YtabjigpbednfnaaW.PrintWords Go.Proofs.YtabjigpbednfnaaW.PrintLast Go.Proofs.YtabjigpbednfnaaW.PrintMore
attribute [local go_sem] max2_int min2_int max_two min_two max_three min_three max_four min_four   -- for this text's walks alone
set_option linter.unusedVariables false
set_option linter.unusedSimpArgs false

/-! ### spec_ResourcesFeasible: function 22 -/
def spec_ResourcesFeasible.l0 : Nat → List (S33) → List (S31) → Int → Int → Option (Bool)
  | 0, _, _, _, _ => none
  | k + 1, x0, x1, x5, x6 => if x6 ≤ x5 then ((spec_l2Demand.f k x0 x6).bind fun t103 => ((spec_l6Block.f k x0 x1 x6).bind fun t104 => (if (wrap64 (t103 + t104)) > x6 then (some false) else (spec_ResourcesFeasible.l0 k x0 x1 x5 (wrap64 (x6 + 1)))))) else (some true)
def spec_ResourcesFeasible.f (k : Nat) (l0 : List (S33)) (l1 : List (S31)) : Option (Bool) := (spec_SectionsValid.f k l0 l1).bind fun t101 => (if t101 = true then ((spec_l1Hyper.f k l0).bind fun t102 => (spec_ResourcesFeasible.l0 k l0 l1 t102 1)) else (some false))
theorem spec_ResourcesFeasible.mono_l : ∀ k, (∀ y0 y1 y2 y3, LeO (spec_ResourcesFeasible.l0 k y0 y1 y2 y3) (spec_ResourcesFeasible.l0 (k + 1) y0 y1 y2 y3))
  | 0 => fun _ _ _ _ r h => by simp [spec_ResourcesFeasible.l0] at h
  | k + 1 => by
    have ih0 := spec_ResourcesFeasible.mono_l k
    · intro y0 y1 y2 y3
      unfold spec_ResourcesFeasible.l0
      repeat' first
      | (with_reducible exact ih0 _ _ _ _)
      | (with_reducible exact spec_SectionsValid.mono _ _ _)
      | (with_reducible exact spec_l1Hyper.mono _ _)
      | (with_reducible exact spec_l2Demand.mono _ _ _)
      | (with_reducible exact spec_l6Block.mono _ _ _ _)
      | (with_reducible exact LeO.refl _)
      | (with_reducible exact LeO.none _)
      | (with_reducible refine LeO.ite ?_ ?_)
      | (with_reducible refine LeO.bind ?_ (fun _ => ?_))
      | exact ih0 _ _ _ _
      | exact spec_SectionsValid.mono _ _ _
      | exact spec_l1Hyper.mono _ _
      | exact spec_l2Demand.mono _ _ _
      | exact spec_l6Block.mono _ _ _ _
      | exact LeO.none _
      | refine LeO.ite ?_ ?_
      | refine LeO.bind ?_ (fun _ => ?_)
theorem spec_ResourcesFeasible.mono : ∀ a0 a1 k, LeO (spec_ResourcesFeasible.f k a0 a1) (spec_ResourcesFeasible.f (k + 1) a0 a1) := by
  intro a0 a1 k
  have ih0 := spec_ResourcesFeasible.mono_l k
  unfold spec_ResourcesFeasible.f
  repeat' first
      | (with_reducible exact ih0 _ _ _ _)
      | (with_reducible exact spec_SectionsValid.mono _ _ _)
      | (with_reducible exact spec_l1Hyper.mono _ _)
      | (with_reducible exact spec_l2Demand.mono _ _ _)
      | (with_reducible exact spec_l6Block.mono _ _ _ _)
      | (with_reducible exact LeO.refl _)
      | (with_reducible exact LeO.none _)
      | (with_reducible refine LeO.ite ?_ ?_)
      | (with_reducible refine LeO.bind ?_ (fun _ => ?_))
      | exact ih0 _ _ _ _
      | exact spec_SectionsValid.mono _ _ _
      | exact spec_l1Hyper.mono _ _
      | exact spec_l2Demand.mono _ _ _
      | exact spec_l6Block.mono _ _ _ _
      | exact LeO.none _
      | refine LeO.ite ?_ ?_
      | refine LeO.bind ?_ (fun _ => ?_)
set_option maxHeartbeats 8000000 in
set_option maxRecDepth 100000 in
theorem spec_ResourcesFeasible.calls (k : Nat) (A0 : Option Addr) (c0 : Nat) (l0 : List (S33)) (A1 : Option Addr) (c1 : Nat) (l1 : List (S31)) (r : Bool) (w : World) (hr0 : Kd.C k33 w A0 l0.length l0) (hc0 : l0.length ≤ c0) (hr1 : Kd.C k31 w A1 l1.length l1) (hc1 : l1.length ≤ c1) (h : spec_ResourcesFeasible.f k l0 l1 = some r) :
    Calls Try.prog 22 #[.slice A0 l0.length c0, .slice A1 l1.length c1] w fun e w' => e = .returned (.bool r) ∧ Below w.heap.size w w' := by
  (have HR0 := Aside0.mk hr0); (have HC0 := Aside0.mk hc0); clear hr0 hc0; (have HR1 := Aside0.mk hr1); (have HC1 := Aside0.mk hc1); clear hr1 hc1; (have HB := Aside0.mk (Below.refl w.heap.size w)); (have H : ((spec_SectionsValid.f k l0 l1).bind fun t101 => (if t101 = true then ((spec_l1Hyper.f k l0).bind fun t102 => (spec_ResourcesFeasible.l0 k l0 l1 t102 1)) else (some false))) = some r := h); clear h; (replace H := Option.bind_eq_some_iff.mp H); (obtain ⟨t101, A30, H⟩ := H); (replace H : (if t101 = true then ((spec_l1Hyper.f k l0).bind fun t102 => (spec_ResourcesFeasible.l0 k l0 l1 t102 1)) else (some false)) = some r := H); (have A3 := Aside0.mk A30); clear A30; (by_cases c4 : t101 = true)
  · (subst c4); (have H1 : ((spec_l1Hyper.f k l0).bind fun t102 => (spec_ResourcesFeasible.l0 k l0 l1 t102 1)) = some r := by rw [if_pos rfl] at H; exact H); clear H; (have H := H1); clear H1; (replace H := Option.bind_eq_some_iff.mp H); (obtain ⟨t102, A50, H⟩ := H); (replace H : (spec_ResourcesFeasible.l0 k l0 l1 t102 1) = some r := H); (have A5 := Aside0.mk A50); clear A50; (have H' := Aside0.mk H); clear H; (go_enter Try.func22, Try.ntmps22); (go_wp2_with (first | ((with_reducible refine gate_callee (f := 10) rfl ?_); refine goesL_ (some 9) rfl rfl Try.func10 (by kernel_rfl) rfl #[.slice A0 l0.length c0, .slice A1 l1.length c1] rfl (by (try simp only [List.map_toArray, List.map_cons, List.map_nil]); first | done | rfl | (simp only [List.length_drop, List.length_take]; rfl)) ?_; (with_reducible refine (spec_SectionsValid.calls k _ _ l0 _ _ l1 true _ ?side1 ?side2 ?side3 ?side4 A3.out).mono ?_); (case side1 => exact cm (HR0.out)); (case side2 => exact HC0.out); (case side3 => exact cm (HR1.out)); (case side4 => exact HC1.out); rintro e w6 ⟨rfl, hb⟩; refine ⟨_, rfl, ?_⟩; have n0_ := Aside0.mk (below_step (bm HB.out) hb); clear HB; have HB := n0_; clear n0_; (try clear hb); (try clear hb2); (try clear hk); (try clear hi)) | ((with_reducible refine gate_callee (f := 43) rfl ?_); refine goesL_ (some 12) rfl rfl Try.func43 (by kernel_rfl) rfl #[.slice A0 l0.length c0] rfl (by (try simp only [List.map_toArray, List.map_cons, List.map_nil]); first | done | rfl | (simp only [List.length_drop, List.length_take]; rfl)) ?_; (with_reducible refine (spec_l1Hyper.calls k _ _ l0 t102 _ ?side1 ?side2 A5.out).mono ?_); (case side1 => exact cm ((Kd.C_below HR0.out HB.out))); (case side2 => exact HC0.out); rintro e w' ⟨rfl, ⟨nd, rfl⟩⟩; refine ⟨_, rfl, ?_⟩))); (go_loopg [6] k (fun kq v6 w' => ∃ (x6_1 : Int), v6 = .int .i64 x6_1 ∧ Aside0 (spec_ResourcesFeasible.l0 kq l0 l1 t102 x6_1 = some r) ∧ Aside0 (kq ≤ k) ∧ Aside0 (Below w.heap.size w w')))
    case atStart => exact ⟨(1), (by first | rfl | (simp; done) | (simp [*]; done)), H', ⟨Nat.le_refl _⟩, ⟨bm HB.out⟩⟩
    case round =>
      clear H'; (try clear c1); (try clear c2); (try clear p2); (try clear c4); (obtain ⟨x6_1, rfl, HA, HK1, HB⟩ := hrel)
      cases gk with
      | zero => exact absurd HA.out (by simp [spec_ResourcesFeasible.l0])
      | succ k1 =>
        (have H := HA.out); clear HA; (simp only [spec_ResourcesFeasible.l0] at H); (by_cases c7 : x6_1 ≤ t102)
        · ((rw [if_pos c7] at H); (have c7b0 : decide (x6_1 ≤ t102) = true := decide_eq_true c7); clear c7; (replace H := Option.bind_eq_some_iff.mp H); (obtain ⟨t103, A80, H⟩ := H); (replace H : ((spec_l6Block.f k1 l0 l1 x6_1).bind fun t104 => (if (wrap64 (t103 + t104)) > x6_1 then (some false) else (spec_ResourcesFeasible.l0 k1 l0 l1 t102 (wrap64 (x6_1 + 1))))) = some r := H); (have A8 := Aside0.mk A80); clear A80; (replace H := Option.bind_eq_some_iff.mp H); (obtain ⟨t104, A90, H⟩ := H); (replace H : (if (wrap64 (t103 + t104)) > x6_1 then (some false) else (spec_ResourcesFeasible.l0 k1 l0 l1 t102 (wrap64 (x6_1 + 1)))) = some r := H); (have A9 := Aside0.mk A90); clear A90; (by_cases c10 : (wrap64 (t103 + t104)) > x6_1)); (· (rw [if_pos c10] at H); (have c10b0 : decide (x6_1 < (wrap64 (t103 + t104))) = true := decide_eq_true c10); clear c10; (obtain rfl := Option.some.inj H); (go_wp2_with (first | ((with_reducible refine gate_callee (f := 44) rfl ?_); refine goesL_ (some 20) rfl rfl Try.func44 (by kernel_rfl) rfl #[.slice A0 l0.length c0, .int .i64 x6_1] rfl (by (try simp only [List.map_toArray, List.map_cons, List.map_nil]); first | done | rfl | (simp only [List.length_drop, List.length_take]; rfl)) ?_; (with_reducible refine (spec_l2Demand.calls k1 _ _ l0 x6_1 t103 _ ?side1 ?side2 A8.out).mono ?_); (case side1 => exact cm ((Kd.C_below HR0.out HB.out))); (case side2 => exact HC0.out); rintro e w' ⟨rfl, ⟨nd, rfl⟩⟩; refine ⟨_, rfl, ?_⟩) | ((with_reducible refine gate_callee (f := 40) rfl ?_); refine goesL_ (some 24) rfl rfl Try.func40 (by kernel_rfl) rfl #[.slice A0 l0.length c0, .slice A1 l1.length c1, .int .i64 x6_1] rfl (by (try simp only [List.map_toArray, List.map_cons, List.map_nil]); first | done | rfl | (simp only [List.length_drop, List.length_take]; rfl)) ?_; (with_reducible refine (spec_l6Block.calls k1 _ _ l0 _ _ l1 x6_1 t104 _ ?side1 ?side2 ?side3 ?side4 A9.out).mono ?_); (case side1 => repeat (first | exact (Kd.C_below HR0.out (bm HB.out)) | (with_reducible refine Kd.C_alloc ?_ _) | (with_reducible refine Kd.C_drewN ?_ _) | (with_reducible refine Kd.C_drew ?_))); (case side2 => exact HC0.out); (case side3 => repeat (first | exact (Kd.C_below HR1.out (bm HB.out)) | (with_reducible refine Kd.C_alloc ?_ _) | (with_reducible refine Kd.C_drewN ?_ _) | (with_reducible refine Kd.C_drew ?_))); (case side4 => exact HC1.out); rintro e w11 ⟨rfl, hb⟩; refine ⟨_, rfl, ?_⟩; have n0_ := Aside0.mk (below_step (bm HB.out) hb); clear HB; have HB := n0_; clear n0_; (try clear hb); (try clear hb2); (try clear hk); (try clear hi)))); (go_ret); (exact ⟨by first | rfl | (simp [errW_none, errW_some] <;> rfl) | (simp [*, errW_none, errW_some] <;> rfl), bm HB.out⟩))
          · (rw [if_neg c10] at H); (have c10b0 : decide (x6_1 < (wrap64 (t103 + t104))) = false := decide_eq_false c10); clear c10; (have H' := Aside0.mk H); clear H; (go_wp2_with (first | ((with_reducible refine gate_callee (f := 44) rfl ?_); refine goesL_ (some 20) rfl rfl Try.func44 (by kernel_rfl) rfl #[.slice A0 l0.length c0, .int .i64 x6_1] rfl (by (try simp only [List.map_toArray, List.map_cons, List.map_nil]); first | done | rfl | (simp only [List.length_drop, List.length_take]; rfl)) ?_; (with_reducible refine (spec_l2Demand.calls k1 _ _ l0 x6_1 t103 _ ?side1 ?side2 A8.out).mono ?_); (case side1 => exact cm ((Kd.C_below HR0.out HB.out))); (case side2 => exact HC0.out); rintro e w' ⟨rfl, ⟨nd, rfl⟩⟩; refine ⟨_, rfl, ?_⟩) | ((with_reducible refine gate_callee (f := 40) rfl ?_); refine goesL_ (some 24) rfl rfl Try.func40 (by kernel_rfl) rfl #[.slice A0 l0.length c0, .slice A1 l1.length c1, .int .i64 x6_1] rfl (by (try simp only [List.map_toArray, List.map_cons, List.map_nil]); first | done | rfl | (simp only [List.length_drop, List.length_take]; rfl)) ?_; (with_reducible refine (spec_l6Block.calls k1 _ _ l0 _ _ l1 x6_1 t104 _ ?side1 ?side2 ?side3 ?side4 A9.out).mono ?_); (case side1 => repeat (first | exact (Kd.C_below HR0.out (bm HB.out)) | (with_reducible refine Kd.C_alloc ?_ _) | (with_reducible refine Kd.C_drewN ?_ _) | (with_reducible refine Kd.C_drew ?_))); (case side2 => exact HC0.out); (case side3 => repeat (first | exact (Kd.C_below HR1.out (bm HB.out)) | (with_reducible refine Kd.C_alloc ?_ _) | (with_reducible refine Kd.C_drewN ?_ _) | (with_reducible refine Kd.C_drew ?_))); (case side4 => exact HC1.out); rintro e w12 ⟨rfl, hb⟩; refine ⟨_, rfl, ?_⟩; have n0_ := Aside0.mk (below_step (bm HB.out) hb); clear HB; have HB := n0_; clear n0_; (try clear hb); (try clear hb2); (try clear hk); (try clear hi)))); (go_roundg k1)
            case measure => have := HK1.out; omega
            case rel => exact ⟨(wrap64 (x6_1 + 1)), (by first | rfl | (simp; done) | (simp [*]; done)), H', ⟨by have := HK1.out; omega⟩, ⟨bm HB.out⟩⟩
        · (rw [if_neg c7] at H); (have c7b0 : decide (x6_1 ≤ t102) = false := decide_eq_false c7); clear c7; (obtain rfl := Option.some.inj H); (go_wp2); (go_ret); (exact ⟨by first | rfl | (simp [errW_none, errW_some] <;> rfl) | (simp [*, errW_none, errW_some] <;> rfl), bm HB.out⟩)
  · (replace c4 := Bool.eq_false_iff.mpr c4); (subst c4); (have H1 : (some false) = some r := by rw [if_neg (show ¬ (false = true) by decide)] at H; exact H); clear H; (have H := H1); clear H1; (obtain rfl := Option.some.inj H); (go_enter Try.func22, Try.ntmps22); (go_wp2_with (first | ((with_reducible refine gate_callee (f := 10) rfl ?_); refine goesL_ (some 9) rfl rfl Try.func10 (by kernel_rfl) rfl #[.slice A0 l0.length c0, .slice A1 l1.length c1] rfl (by (try simp only [List.map_toArray, List.map_cons, List.map_nil]); first | done | rfl | (simp only [List.length_drop, List.length_take]; rfl)) ?_; (with_reducible refine (spec_SectionsValid.calls k _ _ l0 _ _ l1 false _ ?side1 ?side2 ?side3 ?side4 A3.out).mono ?_); (case side1 => exact cm (HR0.out)); (case side2 => exact HC0.out); (case side3 => exact cm (HR1.out)); (case side4 => exact HC1.out); rintro e w13 ⟨rfl, hb⟩; refine ⟨_, rfl, ?_⟩; have n0_ := Aside0.mk (below_step (bm HB.out) hb); clear HB; have HB := n0_; clear n0_; (try clear hb); (try clear hb2); (try clear hk); (try clear hi)))); (go_ret); (exact ⟨by first | rfl | (simp [errW_none, errW_some] <;> rfl) | (simp [*, errW_none, errW_some] <;> rfl), bm HB.out⟩)

end Go.Proofs.Ytabjigpbednfnaa.Q
