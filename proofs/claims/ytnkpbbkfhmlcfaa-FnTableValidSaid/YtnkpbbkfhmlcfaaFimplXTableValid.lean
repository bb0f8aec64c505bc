-- written by mp.py, a program of this session's, out of the kit's print program and the translation
import Derived.Test.YtnkpbbkfhmlcfaaF0
import Derived.Test.YtnkpbbkfhmlcfaaFA
import Derived.Test.YtnkpbbkfhmlcfaaFimplXSetValid
import Derived.Test.YtnkpbbkfhmlcfaaFimplXhyper
namespace Go.Proofs.Ytnkpbbkfhmlcfaa.Q
open Go.RowKit Go.Proofs.YtnkpbbkfhmlcfaaW.PrintWords Go.Proofs.YtnkpbbkfhmlcfaaW.PrintLast Go.Proofs.YtnkpbbkfhmlcfaaW.PrintMore
attribute [local go_sem] max2_int min2_int max_two min_two max_three min_three max_four min_four   -- for this text's walks alone
set_option linter.unusedVariables false
set_option linter.unusedSimpArgs false

/-! ### impl_TableValid: function 16 -/
mutual
def impl_TableValid.j0 : Nat → List (S42) → List Int → Bool → Option (Bool)
  | 0, _, _, _ => none
  | k + 1, x0, x1, x28 => if x28 = true then (some false) else (impl_TableValid.l0 k x0 x1 x1 (x1.length : Int) 0)
def impl_TableValid.l0 : Nat → List (S42) → List Int → List Int → Int → Int → Option (Bool)
  | 0, _, _, _, _, _ => none
  | k + 1, x0, x1, x29, x30, x31 => if x31 < x30 then (if 0 ≤ x31 then (if x31 < (x29.length : Int) then ((impl_in.f (rd x29 x31) (-1) (wrap64 ((x0.length : Int) - 1))).bind fun t104 => (if t104 = true then (impl_TableValid.l0 k x0 x1 x29 x30 (wrap64 (x31 + 1))) else (some false))) else (none)) else (none)) else (impl_TableValid.l1 k x1 x0 (x0.length : Int) 0)
def impl_TableValid.l1 : Nat → List Int → List (S42) → Int → Int → Option (Bool)
  | 0, _, _, _, _ => none
  | k + 1, x1, x42, x43, x44 => if x44 < x43 then (if 0 ≤ x44 then (if x44 < (x42.length : Int) then (impl_TableValid.l2 k x1 x44 0 x42 x43 x44 ((rd_T42 x42 x44).f0) ((rd_T42 x42 x44).f1) ((rd_T42 x42 x44).f2)) else (none)) else (none)) else (some true)
def impl_TableValid.l2 : Nat → List Int → Int → Int → List (S42) → Int → Int → Int → Int → Int → Option (Bool)
  | 0, _, _, _, _, _, _, _, _, _ => none
  | k + 1, x1, x7, x9, x42, x43, x44, x107000, x107001, x107002 => if x9 < (x1.length : Int) then (if 0 ≤ x9 then (if x9 ≤ (wrap64 (x9 + x107002)) then (if (wrap64 (x9 + x107002)) ≤ (x1.length : Int) then (impl_TableValid.l3 k x1 x7 x9 0 0 x42 x43 x44 ((x1.take ((wrap64 (x9 + x107002)) : Int).toNat).drop (x9 : Int).toNat) (((x1.take ((wrap64 (x9 + x107002)) : Int).toNat).drop (x9 : Int).toNat).length : Int) 0 x107000 x107001 x107002) else (none)) else (none)) else (none)) else (impl_TableValid.l1 k x1 x42 x43 (wrap64 (x44 + 1)))
def impl_TableValid.l3 : Nat → List Int → Int → Int → Int → Int → List (S42) → Int → Int → List Int → Int → Int → Int → Int → Int → Option (Bool)
  | 0, _, _, _, _, _, _, _, _, _, _, _, _, _, _ => none
  | k + 1, x1, x7, x9, x10, x11, x42, x43, x44, x63, x64, x65, x107000, x107001, x107002 => if x65 < x64 then (if 0 ≤ x65 then (if x65 < (x63.length : Int) then (if (rd x63 x65) = x7 then (impl_TableValid.j5 k x1 x7 x9 x10 x11 (rd x63 x65) x42 x43 x44 x63 x64 x65 (decide (x65 < x107001)) x107000 x107001 x107002) else (impl_TableValid.j5 k x1 x7 x9 x10 x11 (rd x63 x65) x42 x43 x44 x63 x64 x65 false x107000 x107001 x107002)) else (none)) else (none)) else (if x10 = x107000 then (if x11 = 0 then (impl_TableValid.l2 k x1 x7 (wrap64 (x9 + x107002)) x42 x43 x44 x107000 x107001 x107002) else (some false)) else (some false))
def impl_TableValid.j5 : Nat → List Int → Int → Int → Int → Int → Int → List (S42) → Int → Int → List Int → Int → Int → Bool → Int → Int → Int → Option (Bool)
  | 0, _, _, _, _, _, _, _, _, _, _, _, _, _, _, _, _ => none
  | k + 1, x1, x7, x9, x10, x11, x13, x42, x43, x44, x63, x64, x65, x70, x107000, x107001, x107002 => if x70 = true then (impl_TableValid.l3 k x1 x7 x9 (wrap64 (x10 + 1)) x11 x42 x43 x44 x63 x64 (wrap64 (x65 + 1)) x107000 x107001 x107002) else (if x13 = x7 then (impl_TableValid.l3 k x1 x7 x9 x10 (wrap64 (x11 + 1)) x42 x43 x44 x63 x64 (wrap64 (x65 + 1)) x107000 x107001 x107002) else (impl_TableValid.l3 k x1 x7 x9 x10 x11 x42 x43 x44 x63 x64 (wrap64 (x65 + 1)) x107000 x107001 x107002))
end
def impl_TableValid.f (k : Nat) (l0 : List (S42)) (l1 : List Int) : Option (Bool) := (impl_SetValid.f l0).bind fun t101 => (if t101 = true then ((impl_hyper.f k l0).bind fun t102 => (if (l1.length : Int) = t102 then (impl_TableValid.j0 k l0 l1 (decide ((l1.length : Int) > 720))) else (impl_TableValid.j0 k l0 l1 true))) else (impl_TableValid.j0 k l0 l1 true))
theorem impl_TableValid.mono_l : ∀ k, (∀ y0 y1 y2, LeO (impl_TableValid.j0 k y0 y1 y2) (impl_TableValid.j0 (k + 1) y0 y1 y2)) ∧ (∀ y0 y1 y2 y3 y4, LeO (impl_TableValid.l0 k y0 y1 y2 y3 y4) (impl_TableValid.l0 (k + 1) y0 y1 y2 y3 y4)) ∧ (∀ y0 y1 y2 y3, LeO (impl_TableValid.l1 k y0 y1 y2 y3) (impl_TableValid.l1 (k + 1) y0 y1 y2 y3)) ∧ (∀ y0 y1 y2 y3 y4 y5 y6 y7 y8, LeO (impl_TableValid.l2 k y0 y1 y2 y3 y4 y5 y6 y7 y8) (impl_TableValid.l2 (k + 1) y0 y1 y2 y3 y4 y5 y6 y7 y8)) ∧ (∀ y0 y1 y2 y3 y4 y5 y6 y7 y8 y9 y10 y11 y12 y13, LeO (impl_TableValid.l3 k y0 y1 y2 y3 y4 y5 y6 y7 y8 y9 y10 y11 y12 y13) (impl_TableValid.l3 (k + 1) y0 y1 y2 y3 y4 y5 y6 y7 y8 y9 y10 y11 y12 y13)) ∧ (∀ y0 y1 y2 y3 y4 y5 y6 y7 y8 y9 y10 y11 y12 y13 y14 y15, LeO (impl_TableValid.j5 k y0 y1 y2 y3 y4 y5 y6 y7 y8 y9 y10 y11 y12 y13 y14 y15) (impl_TableValid.j5 (k + 1) y0 y1 y2 y3 y4 y5 y6 y7 y8 y9 y10 y11 y12 y13 y14 y15))
  | 0 => ⟨fun _ _ _ r h => by simp [impl_TableValid.j0] at h, fun _ _ _ _ _ r h => by simp [impl_TableValid.l0] at h, fun _ _ _ _ r h => by simp [impl_TableValid.l1] at h, fun _ _ _ _ _ _ _ _ _ r h => by simp [impl_TableValid.l2] at h, fun _ _ _ _ _ _ _ _ _ _ _ _ _ _ r h => by simp [impl_TableValid.l3] at h, fun _ _ _ _ _ _ _ _ _ _ _ _ _ _ _ _ r h => by simp [impl_TableValid.j5] at h⟩
  | k + 1 => by
    obtain ⟨ih0, ih1, ih2, ih3, ih4, ih5⟩ := impl_TableValid.mono_l k
    refine ⟨?_, ?_, ?_, ?_, ?_, ?_⟩
    · intro y0 y1 y2
      unfold impl_TableValid.j0
      repeat' first
      | (with_reducible exact ih0 _ _ _)
      | (with_reducible exact ih1 _ _ _ _ _)
      | (with_reducible exact ih2 _ _ _ _)
      | (with_reducible exact ih3 _ _ _ _ _ _ _ _ _)
      | (with_reducible exact ih4 _ _ _ _ _ _ _ _ _ _ _ _ _ _)
      | (with_reducible exact ih5 _ _ _ _ _ _ _ _ _ _ _ _ _ _ _ _)
      | (with_reducible exact impl_hyper.mono _ _)
      | (with_reducible exact LeO.refl _)
      | (with_reducible exact LeO.none _)
      | (with_reducible refine LeO.ite ?_ ?_)
      | (with_reducible refine LeO.bind ?_ (fun _ => ?_))
      | exact ih0 _ _ _
      | exact ih1 _ _ _ _ _
      | exact ih2 _ _ _ _
      | exact ih3 _ _ _ _ _ _ _ _ _
      | exact ih4 _ _ _ _ _ _ _ _ _ _ _ _ _ _
      | exact ih5 _ _ _ _ _ _ _ _ _ _ _ _ _ _ _ _
      | exact impl_hyper.mono _ _
      | exact LeO.none _
      | refine LeO.ite ?_ ?_
      | refine LeO.bind ?_ (fun _ => ?_)
    · intro y0 y1 y2 y3 y4
      unfold impl_TableValid.l0
      repeat' first
      | (with_reducible exact ih0 _ _ _)
      | (with_reducible exact ih1 _ _ _ _ _)
      | (with_reducible exact ih2 _ _ _ _)
      | (with_reducible exact ih3 _ _ _ _ _ _ _ _ _)
      | (with_reducible exact ih4 _ _ _ _ _ _ _ _ _ _ _ _ _ _)
      | (with_reducible exact ih5 _ _ _ _ _ _ _ _ _ _ _ _ _ _ _ _)
      | (with_reducible exact impl_hyper.mono _ _)
      | (with_reducible exact LeO.refl _)
      | (with_reducible exact LeO.none _)
      | (with_reducible refine LeO.ite ?_ ?_)
      | (with_reducible refine LeO.bind ?_ (fun _ => ?_))
      | exact ih0 _ _ _
      | exact ih1 _ _ _ _ _
      | exact ih2 _ _ _ _
      | exact ih3 _ _ _ _ _ _ _ _ _
      | exact ih4 _ _ _ _ _ _ _ _ _ _ _ _ _ _
      | exact ih5 _ _ _ _ _ _ _ _ _ _ _ _ _ _ _ _
      | exact impl_hyper.mono _ _
      | exact LeO.none _
      | refine LeO.ite ?_ ?_
      | refine LeO.bind ?_ (fun _ => ?_)
    · intro y0 y1 y2 y3
      unfold impl_TableValid.l1
      repeat' first
      | (with_reducible exact ih0 _ _ _)
      | (with_reducible exact ih1 _ _ _ _ _)
      | (with_reducible exact ih2 _ _ _ _)
      | (with_reducible exact ih3 _ _ _ _ _ _ _ _ _)
      | (with_reducible exact ih4 _ _ _ _ _ _ _ _ _ _ _ _ _ _)
      | (with_reducible exact ih5 _ _ _ _ _ _ _ _ _ _ _ _ _ _ _ _)
      | (with_reducible exact impl_hyper.mono _ _)
      | (with_reducible exact LeO.refl _)
      | (with_reducible exact LeO.none _)
      | (with_reducible refine LeO.ite ?_ ?_)
      | (with_reducible refine LeO.bind ?_ (fun _ => ?_))
      | exact ih0 _ _ _
      | exact ih1 _ _ _ _ _
      | exact ih2 _ _ _ _
      | exact ih3 _ _ _ _ _ _ _ _ _
      | exact ih4 _ _ _ _ _ _ _ _ _ _ _ _ _ _
      | exact ih5 _ _ _ _ _ _ _ _ _ _ _ _ _ _ _ _
      | exact impl_hyper.mono _ _
      | exact LeO.none _
      | refine LeO.ite ?_ ?_
      | refine LeO.bind ?_ (fun _ => ?_)
    · intro y0 y1 y2 y3 y4 y5 y6 y7 y8
      unfold impl_TableValid.l2
      repeat' first
      | (with_reducible exact ih0 _ _ _)
      | (with_reducible exact ih1 _ _ _ _ _)
      | (with_reducible exact ih2 _ _ _ _)
      | (with_reducible exact ih3 _ _ _ _ _ _ _ _ _)
      | (with_reducible exact ih4 _ _ _ _ _ _ _ _ _ _ _ _ _ _)
      | (with_reducible exact ih5 _ _ _ _ _ _ _ _ _ _ _ _ _ _ _ _)
      | (with_reducible exact impl_hyper.mono _ _)
      | (with_reducible exact LeO.refl _)
      | (with_reducible exact LeO.none _)
      | (with_reducible refine LeO.ite ?_ ?_)
      | (with_reducible refine LeO.bind ?_ (fun _ => ?_))
      | exact ih0 _ _ _
      | exact ih1 _ _ _ _ _
      | exact ih2 _ _ _ _
      | exact ih3 _ _ _ _ _ _ _ _ _
      | exact ih4 _ _ _ _ _ _ _ _ _ _ _ _ _ _
      | exact ih5 _ _ _ _ _ _ _ _ _ _ _ _ _ _ _ _
      | exact impl_hyper.mono _ _
      | exact LeO.none _
      | refine LeO.ite ?_ ?_
      | refine LeO.bind ?_ (fun _ => ?_)
    · intro y0 y1 y2 y3 y4 y5 y6 y7 y8 y9 y10 y11 y12 y13
      unfold impl_TableValid.l3
      repeat' first
      | (with_reducible exact ih0 _ _ _)
      | (with_reducible exact ih1 _ _ _ _ _)
      | (with_reducible exact ih2 _ _ _ _)
      | (with_reducible exact ih3 _ _ _ _ _ _ _ _ _)
      | (with_reducible exact ih4 _ _ _ _ _ _ _ _ _ _ _ _ _ _)
      | (with_reducible exact ih5 _ _ _ _ _ _ _ _ _ _ _ _ _ _ _ _)
      | (with_reducible exact impl_hyper.mono _ _)
      | (with_reducible exact LeO.refl _)
      | (with_reducible exact LeO.none _)
      | (with_reducible refine LeO.ite ?_ ?_)
      | (with_reducible refine LeO.bind ?_ (fun _ => ?_))
      | exact ih0 _ _ _
      | exact ih1 _ _ _ _ _
      | exact ih2 _ _ _ _
      | exact ih3 _ _ _ _ _ _ _ _ _
      | exact ih4 _ _ _ _ _ _ _ _ _ _ _ _ _ _
      | exact ih5 _ _ _ _ _ _ _ _ _ _ _ _ _ _ _ _
      | exact impl_hyper.mono _ _
      | exact LeO.none _
      | refine LeO.ite ?_ ?_
      | refine LeO.bind ?_ (fun _ => ?_)
    · intro y0 y1 y2 y3 y4 y5 y6 y7 y8 y9 y10 y11 y12 y13 y14 y15
      unfold impl_TableValid.j5
      repeat' first
      | (with_reducible exact ih0 _ _ _)
      | (with_reducible exact ih1 _ _ _ _ _)
      | (with_reducible exact ih2 _ _ _ _)
      | (with_reducible exact ih3 _ _ _ _ _ _ _ _ _)
      | (with_reducible exact ih4 _ _ _ _ _ _ _ _ _ _ _ _ _ _)
      | (with_reducible exact ih5 _ _ _ _ _ _ _ _ _ _ _ _ _ _ _ _)
      | (with_reducible exact impl_hyper.mono _ _)
      | (with_reducible exact LeO.refl _)
      | (with_reducible exact LeO.none _)
      | (with_reducible refine LeO.ite ?_ ?_)
      | (with_reducible refine LeO.bind ?_ (fun _ => ?_))
      | exact ih0 _ _ _
      | exact ih1 _ _ _ _ _
      | exact ih2 _ _ _ _
      | exact ih3 _ _ _ _ _ _ _ _ _
      | exact ih4 _ _ _ _ _ _ _ _ _ _ _ _ _ _
      | exact ih5 _ _ _ _ _ _ _ _ _ _ _ _ _ _ _ _
      | exact impl_hyper.mono _ _
      | exact LeO.none _
      | refine LeO.ite ?_ ?_
      | refine LeO.bind ?_ (fun _ => ?_)
theorem impl_TableValid.mono : ∀ a0 a1 k, LeO (impl_TableValid.f k a0 a1) (impl_TableValid.f (k + 1) a0 a1) := by
  intro a0 a1 k
  obtain ⟨ih0, ih1, ih2, ih3, ih4, ih5⟩ := impl_TableValid.mono_l k
  unfold impl_TableValid.f
  repeat' first
      | (with_reducible exact ih0 _ _ _)
      | (with_reducible exact ih1 _ _ _ _ _)
      | (with_reducible exact ih2 _ _ _ _)
      | (with_reducible exact ih3 _ _ _ _ _ _ _ _ _)
      | (with_reducible exact ih4 _ _ _ _ _ _ _ _ _ _ _ _ _ _)
      | (with_reducible exact ih5 _ _ _ _ _ _ _ _ _ _ _ _ _ _ _ _)
      | (with_reducible exact impl_hyper.mono _ _)
      | (with_reducible exact LeO.refl _)
      | (with_reducible exact LeO.none _)
      | (with_reducible refine LeO.ite ?_ ?_)
      | (with_reducible refine LeO.bind ?_ (fun _ => ?_))
      | exact ih0 _ _ _
      | exact ih1 _ _ _ _ _
      | exact ih2 _ _ _ _
      | exact ih3 _ _ _ _ _ _ _ _ _
      | exact ih4 _ _ _ _ _ _ _ _ _ _ _ _ _ _
      | exact ih5 _ _ _ _ _ _ _ _ _ _ _ _ _ _ _ _
      | exact impl_hyper.mono _ _
      | exact LeO.none _
      | refine LeO.ite ?_ ?_
      | refine LeO.bind ?_ (fun _ => ?_)
set_option maxHeartbeats 8000000 in
set_option maxRecDepth 100000 in
theorem impl_TableValid.calls (k : Nat) (A0 : Option Addr) (c0 : Nat) (l0 : List (S42)) (A1 : Option Addr) (c1 : Nat) (l1 : List Int) (r : Bool) (w : World) (hr0 : Kd.C k42 w A0 l0.length l0) (hc0 : l0.length ≤ c0) (hr1 : Kd.C (Kd.int .i64) w A1 l1.length l1) (hc1 : l1.length ≤ c1) (h : impl_TableValid.f k l0 l1 = some r) :
    Calls Try.prog 16 #[.slice A0 l0.length c0, .slice A1 l1.length c1] w fun e w' => e = .returned (.bool r) ∧ Below w.heap.size w w' := by
  (have hu42 := Try.underlying42); (have HR0 := Aside0.mk hr0); (have HC0 := Aside0.mk hc0); clear hr0 hc0; (have HR1 := Aside0.mk hr1); (have HC1 := Aside0.mk hc1); clear hr1 hc1; (have HB := Aside0.mk (Below.refl w.heap.size w)); (have H : ((impl_SetValid.f l0).bind fun t101 => (if t101 = true then ((impl_hyper.f k l0).bind fun t102 => (if (l1.length : Int) = t102 then (impl_TableValid.j0 k l0 l1 (decide ((l1.length : Int) > 720))) else (impl_TableValid.j0 k l0 l1 true))) else (impl_TableValid.j0 k l0 l1 true))) = some r := h); clear h; (have HC3 := Aside0.mk H); clear H; (go_enter Try.func16, Try.ntmps16); (go_upto_region 1 with (fail)); (go_cut [28] (fun v28 wc => ∃ (kq : Nat) (x28_2 : Bool), v28 = .bool x28_2 ∧ Aside0 (impl_TableValid.j0 kq l0 l1 x28_2 = some r) ∧ Aside0 (kq ≤ k) ∧ Aside0 (Below w.heap.size w wc)))
  case first =>
    (have H := HC3.out); clear HC3; (replace H := Option.bind_eq_some_iff.mp H); (obtain ⟨t101, A40, H⟩ := H); (replace H : (if t101 = true then ((impl_hyper.f k l0).bind fun t102 => (if (l1.length : Int) = t102 then (impl_TableValid.j0 k l0 l1 (decide ((l1.length : Int) > 720))) else (impl_TableValid.j0 k l0 l1 true))) else (impl_TableValid.j0 k l0 l1 true)) = some r := H); (have A4 := Aside0.mk A40); clear A40; (by_cases c5 : t101 = true)
    · (subst c5); (have H1 : ((impl_hyper.f k l0).bind fun t102 => (if (l1.length : Int) = t102 then (impl_TableValid.j0 k l0 l1 (decide ((l1.length : Int) > 720))) else (impl_TableValid.j0 k l0 l1 true))) = some r := by rw [if_pos rfl] at H; exact H); clear H; (have H := H1); clear H1; (replace H := Option.bind_eq_some_iff.mp H); (obtain ⟨t102, A60, H⟩ := H); (replace H : (if (l1.length : Int) = t102 then (impl_TableValid.j0 k l0 l1 (decide ((l1.length : Int) > 720))) else (impl_TableValid.j0 k l0 l1 true)) = some r := H); (have A6 := Aside0.mk A60); clear A60; (by_cases c7 : (l1.length : Int) = t102)
      · (rw [if_pos c7] at H); (have c7b0 : ((l1.length : Int) == t102) = true := beq_iff_eq.mpr c7); (have c7b1 : ((l1.length : Int) != t102) = false := bne_eq_false_iff_eq.mpr c7); clear c7; ((first | rw [c7b0] | (simp only [i64_w, i32_w]; rw [c7b0]) | skip)); (have H' := Aside0.mk H); clear H; (go_wp2_with (first | ((with_reducible refine gate_callee (f := 42) rfl ?_); refine goesL_ (some 15) rfl rfl Try.func42 (by kernel_rfl) rfl #[.slice A0 l0.length c0] rfl (by (try simp only [List.map_toArray, List.map_cons, List.map_nil]); first | done | rfl | (simp only [List.length_drop, List.length_take]; rfl)) ?_; (with_reducible refine (impl_SetValid.calls _ _ l0 true _ ?side1 ?side2 A4.out).mono ?_); (case side1 => repeat (first | exact (Kd.C_below HR0.out HB.out) | (with_reducible refine Kd.C_alloc ?_ _) | (with_reducible refine Kd.C_drewN ?_ _) | (with_reducible refine Kd.C_drew ?_))); (case side2 => exact HC0.out); rintro e w8 ⟨rfl, hb⟩; refine ⟨_, rfl, ?_⟩; have n0_ := Aside0.mk (below_step (by repeat (first | (with_reducible first | exact HB.out | apply below_alloc | apply pw_below_drewN | apply below_drew1) | exact HB.out)) hb); clear HB; have HB := n0_; clear n0_; (try clear hb); (try clear hb2); (try clear hk); (try clear hi)) | (go_at_call 43; (with_reducible refine (impl_hyper.calls k _ _ l0 t102 _ ?side1 ?side2 A6.out).mono ?_); (case side1 => repeat (first | exact (Kd.C_below HR0.out HB.out) | (with_reducible refine Kd.C_alloc ?_ _) | (with_reducible refine Kd.C_drewN ?_ _) | (with_reducible refine Kd.C_drew ?_))); (case side2 => exact HC0.out); rintro e w9 ⟨rfl, hb⟩; have n0_ := Aside0.mk (below_step (by repeat (first | (with_reducible first | exact HB.out | apply below_alloc | apply pw_below_drewN | apply below_drew1) | exact HB.out)) hb); clear HB; have HB := n0_; clear n0_; (try clear hb); (try clear hb2); (try clear hk); (try clear hi)))); (go_meet)
        case rel => exact ⟨_, (decide ((l1.length : Int) > 720)), (by first | rfl | (simp; done) | (simp [*]; done)), H', ⟨by first | omega | exact Nat.le_refl _⟩, ⟨by repeat (first | (with_reducible first | exact HB.out | apply below_alloc | apply pw_below_drewN | apply below_drew1) | exact HB.out)⟩⟩
      · (rw [if_neg c7] at H); (have c7b0 : ((l1.length : Int) == t102) = false := beq_eq_false_iff_ne.mpr c7); (have c7b1 : ((l1.length : Int) != t102) = true := bne_iff_ne.mpr c7); ((first | rw [c7b0] | (simp only [i64_w, i32_w]; rw [c7b0]) | skip)); (have H' := Aside0.mk H); clear H; (go_wp2_with (first | ((with_reducible refine gate_callee (f := 42) rfl ?_); refine goesL_ (some 15) rfl rfl Try.func42 (by kernel_rfl) rfl #[.slice A0 l0.length c0] rfl (by (try simp only [List.map_toArray, List.map_cons, List.map_nil]); first | done | rfl | (simp only [List.length_drop, List.length_take]; rfl)) ?_; (with_reducible refine (impl_SetValid.calls _ _ l0 true _ ?side1 ?side2 A4.out).mono ?_); (case side1 => repeat (first | exact (Kd.C_below HR0.out HB.out) | (with_reducible refine Kd.C_alloc ?_ _) | (with_reducible refine Kd.C_drewN ?_ _) | (with_reducible refine Kd.C_drew ?_))); (case side2 => exact HC0.out); rintro e w10 ⟨rfl, hb⟩; refine ⟨_, rfl, ?_⟩; have n0_ := Aside0.mk (below_step (by repeat (first | (with_reducible first | exact HB.out | apply below_alloc | apply pw_below_drewN | apply below_drew1) | exact HB.out)) hb); clear HB; have HB := n0_; clear n0_; (try clear hb); (try clear hb2); (try clear hk); (try clear hi)) | (go_at_call 43; (with_reducible refine (impl_hyper.calls k _ _ l0 t102 _ ?side1 ?side2 A6.out).mono ?_); (case side1 => repeat (first | exact (Kd.C_below HR0.out HB.out) | (with_reducible refine Kd.C_alloc ?_ _) | (with_reducible refine Kd.C_drewN ?_ _) | (with_reducible refine Kd.C_drew ?_))); (case side2 => exact HC0.out); rintro e w11 ⟨rfl, hb⟩; have n0_ := Aside0.mk (below_step (by repeat (first | (with_reducible first | exact HB.out | apply below_alloc | apply pw_below_drewN | apply below_drew1) | exact HB.out)) hb); clear HB; have HB := n0_; clear n0_; (try clear hb); (try clear hb2); (try clear hk); (try clear hi)))); (go_meet)
        case rel => exact ⟨_, (true), (by first | rfl | (simp; done) | (simp [*]; done)), H', ⟨by first | omega | exact Nat.le_refl _⟩, ⟨by repeat (first | (with_reducible first | exact HB.out | apply below_alloc | apply pw_below_drewN | apply below_drew1) | exact HB.out)⟩⟩
    · (replace c5 := Bool.eq_false_iff.mpr c5); (subst c5); (have H1 : (impl_TableValid.j0 k l0 l1 true) = some r := by rw [if_neg (show ¬ (false = true) by decide)] at H; exact H); clear H; (have H := H1); clear H1; (have H' := Aside0.mk H); clear H; (go_wp2_with (first | ((with_reducible refine gate_callee (f := 42) rfl ?_); refine goesL_ (some 15) rfl rfl Try.func42 (by kernel_rfl) rfl #[.slice A0 l0.length c0] rfl (by (try simp only [List.map_toArray, List.map_cons, List.map_nil]); first | done | rfl | (simp only [List.length_drop, List.length_take]; rfl)) ?_; (with_reducible refine (impl_SetValid.calls _ _ l0 false _ ?side1 ?side2 A4.out).mono ?_); (case side1 => repeat (first | exact (Kd.C_below HR0.out HB.out) | (with_reducible refine Kd.C_alloc ?_ _) | (with_reducible refine Kd.C_drewN ?_ _) | (with_reducible refine Kd.C_drew ?_))); (case side2 => exact HC0.out); rintro e w12 ⟨rfl, hb⟩; refine ⟨_, rfl, ?_⟩; have n0_ := Aside0.mk (below_step (by repeat (first | (with_reducible first | exact HB.out | apply below_alloc | apply pw_below_drewN | apply below_drew1) | exact HB.out)) hb); clear HB; have HB := n0_; clear n0_; (try clear hb); (try clear hb2); (try clear hk); (try clear hi)))); (go_meet)
      case rel => exact ⟨_, (true), (by first | rfl | (simp; done) | (simp [*]; done)), H', ⟨by first | omega | exact Nat.le_refl _⟩, ⟨by repeat (first | (with_reducible first | exact HB.out | apply below_alloc | apply pw_below_drewN | apply below_drew1) | exact HB.out)⟩⟩
  case rest =>
    clear HC3; (try clear c1); (try clear p2); (try clear c4); (try clear c5); (try clear c7); (try clear c7b0); (try clear c7b1); (obtain ⟨kq, x28_2, rfl, HA, HJ2, HB⟩ := hcut)
    cases kq with
    | zero => exact absurd HA.out (by simp [impl_TableValid.j0])
    | succ kj2 =>
      ((have H := HA.out); clear HA; (simp only [impl_TableValid.j0] at H); (by_cases c13 : x28_2 = true)); (· (subst c13); (have H1 : (some false) = some r := by rw [if_pos rfl] at H; exact H); clear H; (have H := H1); clear H1; (obtain rfl := Option.some.inj H); (go_wp2); (go_ret); (exact ⟨by first | rfl | (simp [errW_none, errW_some] <;> rfl) | (simp [*, errW_none, errW_some] <;> rfl), by repeat (first | (with_reducible first | exact HB.out | apply below_alloc | apply pw_below_drewN | apply below_drew1) | exact HB.out)⟩))
      · (replace c13 := Bool.eq_false_iff.mpr c13); (subst c13); (have H1 : (impl_TableValid.l0 kj2 l0 l1 l1 (l1.length : Int) 0) = some r := by rw [if_neg (show ¬ (false = true) by decide)] at H; exact H); clear H; (have H := H1); clear H1; (have H' := Aside0.mk H); clear H; (go_wp2); (go_loopg [31] kj2 (fun kq v31 w' => ∃ (x31_2 : Int), v31 = .int .i64 x31_2 ∧ Aside0 (impl_TableValid.l0 kq l0 l1 l1 (l1.length : Int) x31_2 = some r) ∧ Aside0 (kq ≤ kj2) ∧ Aside0 (Below w.heap.size w w')))
        case atStart => exact ⟨(0), (by first | rfl | (simp; done) | (simp [*]; done)), H', ⟨Nat.le_refl _⟩, ⟨by repeat (first | (with_reducible first | exact HB.out | apply below_alloc | apply pw_below_drewN | apply below_drew1) | exact HB.out)⟩⟩
        case round =>
          clear H'; (try clear c1); (try clear p2); (try clear c4); (try clear c5); (try clear c7); (try clear c7b0); (try clear c7b1); (try clear c13); (try clear p2); (obtain ⟨x31_2, rfl, HA, HK2, HB⟩ := hrel)
          cases gk with
          | zero => exact absurd HA.out (by simp [impl_TableValid.l0])
          | succ k2 =>
            (have H := HA.out); clear HA; (simp only [impl_TableValid.l0] at H); (by_cases c14 : x31_2 < (l1.length : Int))
            · (rw [if_pos c14] at H); (have c14b0 : decide (x31_2 < (l1.length : Int)) = true := decide_eq_true c14); clear c14; (by_cases c15 : 0 ≤ x31_2)
              · (rw [if_pos c15] at H); (have c15b0 : decide (0 ≤ x31_2) = true := decide_eq_true c15); clear c15; (by_cases c16 : x31_2 < (l1.length : Int))
                · (rw [if_pos c16] at H); (have c16b0 : decide (x31_2 < (l1.length : Int)) = true := decide_eq_true c16); clear c16; (replace H := Option.bind_eq_some_iff.mp H); (obtain ⟨t104, A170, H⟩ := H); (replace H : (if t104 = true then (impl_TableValid.l0 k2 l0 l1 l1 (l1.length : Int) (wrap64 (x31_2 + 1))) else (some false)) = some r := H); (have A17 := Aside0.mk A170); clear A170; (by_cases c18 : t104 = true)
                  · (subst c18); (have H1 : (impl_TableValid.l0 k2 l0 l1 l1 (l1.length : Int) (wrap64 (x31_2 + 1))) = some r := by rw [if_pos rfl] at H; exact H); clear H; (have H := H1); clear H1; (have H' := Aside0.mk H); clear H; (have p103 : 0 ≤ (x31_2 : Int) := of_decide_eq_true (by first | (with_reducible assumption) | assumption)); (have q103 : x31_2 < (l1.length : Int) := of_decide_eq_true (by first | (with_reducible assumption) | assumption)); (obtain ⟨ad103, e103, hx103_0⟩ := Kd.at_int HR1.out x31_2 p103 q103); (cases e103); (replace hx103_0 := (HB.out.cell (World.block_lt_of_cell? w _ hx103_0)).trans hx103_0); (replace p103 := eq_true p103); (replace q103 := eq_true q103); (go_wp2_with (first | ((with_reducible refine gate_callee (f := 44) rfl ?_); refine goesL_ (some 39) rfl rfl Try.func44 (by kernel_rfl) rfl #[.int .i64 (rd l1 x31_2), .int .i64 (-1), .int .i64 (wrap64 ((l0.length : Int) - 1))] rfl (by (try simp only [List.map_toArray, List.map_cons, List.map_nil]); first | done | rfl | (simp only [List.length_drop, List.length_take]; rfl)) ?_; (with_reducible refine (impl_in.calls (rd l1 x31_2) (-1) (wrap64 ((l0.length : Int) - 1)) true _ A17.out).mono ?_); rintro e w' ⟨rfl, ⟨nd, rfl⟩⟩; refine ⟨_, rfl, ?_⟩))); (go_roundg k2)
                    case measure => have := HJ2.out; have := HK2.out; omega
                    case rel => exact ⟨(wrap64 (x31_2 + 1)), (by first | rfl | (simp; done) | (simp [*]; done)), H', ⟨by have := HJ2.out; have := HK2.out; omega⟩, ⟨by repeat (first | (with_reducible first | exact HB.out | apply below_alloc | apply pw_below_drewN | apply below_drew1) | exact HB.out)⟩⟩
                  · (replace c18 := Bool.eq_false_iff.mpr c18); (subst c18); (have H1 : (some false) = some r := by rw [if_neg (show ¬ (false = true) by decide)] at H; exact H); clear H; (have H := H1); clear H1; (obtain rfl := Option.some.inj H); (have p103 : 0 ≤ (x31_2 : Int) := of_decide_eq_true (by first | (with_reducible assumption) | assumption)); (have q103 : x31_2 < (l1.length : Int) := of_decide_eq_true (by first | (with_reducible assumption) | assumption)); (obtain ⟨ad103, e103, hx103_0⟩ := Kd.at_int HR1.out x31_2 p103 q103); (cases e103); (replace hx103_0 := (HB.out.cell (World.block_lt_of_cell? w _ hx103_0)).trans hx103_0); (replace p103 := eq_true p103); (replace q103 := eq_true q103); (go_wp2_with (first | ((with_reducible refine gate_callee (f := 44) rfl ?_); refine goesL_ (some 39) rfl rfl Try.func44 (by kernel_rfl) rfl #[.int .i64 (rd l1 x31_2), .int .i64 (-1), .int .i64 (wrap64 ((l0.length : Int) - 1))] rfl (by (try simp only [List.map_toArray, List.map_cons, List.map_nil]); first | done | rfl | (simp only [List.length_drop, List.length_take]; rfl)) ?_; (with_reducible refine (impl_in.calls (rd l1 x31_2) (-1) (wrap64 ((l0.length : Int) - 1)) false _ A17.out).mono ?_); rintro e w' ⟨rfl, ⟨nd, rfl⟩⟩; refine ⟨_, rfl, ?_⟩))); (go_ret); (exact ⟨by first | rfl | (simp [errW_none, errW_some] <;> rfl) | (simp [*, errW_none, errW_some] <;> rfl), by repeat (first | (with_reducible first | exact HB.out | apply below_alloc | apply pw_below_drewN | apply below_drew1) | exact HB.out)⟩)
                · (rw [if_neg c16] at H); (exact absurd H (by simp))
              · (rw [if_neg c15] at H); (exact absurd H (by simp))
            · (rw [if_neg c14] at H); (have c14b0 : decide (x31_2 < (l1.length : Int)) = false := decide_eq_false c14); clear c14; (have H' := Aside0.mk H); clear H; (go_wp2); (go_loopg [44] k2 (fun kq v44 w' => ∃ (x44_3 : Int), v44 = .int .i64 x44_3 ∧ Aside0 (impl_TableValid.l1 kq l1 l0 (l0.length : Int) x44_3 = some r) ∧ Aside0 (kq ≤ k2) ∧ Aside0 (Below w.heap.size w w')))
              case atStart => exact ⟨(0), (by first | rfl | (simp; done) | (simp [*]; done)), H', ⟨Nat.le_refl _⟩, ⟨by repeat (first | (with_reducible first | exact HB.out | apply below_alloc | apply pw_below_drewN | apply below_drew1) | exact HB.out)⟩⟩
              case round =>
                clear H'; (try clear c1); (try clear p1); (try clear q1); (try clear hx1); (try clear p2); (try clear c4); (try clear c5); (try clear p6); (try clear c7); (try clear c7b0); (try clear c7b1); (try clear p10); (try clear q10); (try clear hx10); (try clear c13); (try clear c14); (try clear c14b0); (try clear c15); (try clear c15b0); (try clear c16); (try clear c16b0); (try clear c18); (try clear hx103_0); (try clear p103); (try clear p2); (try clear q103); (obtain ⟨x44_3, rfl, HA, HK3, HB⟩ := hrel)
                cases gk with
                | zero => exact absurd HA.out (by simp [impl_TableValid.l1])
                | succ k3 =>
                  (have H := HA.out); clear HA; (simp only [impl_TableValid.l1] at H); (by_cases c19 : x44_3 < (l0.length : Int))
                  · (rw [if_pos c19] at H); (have c19b0 : decide (x44_3 < (l0.length : Int)) = true := decide_eq_true c19); clear c19; (by_cases c20 : 0 ≤ x44_3)
                    · (rw [if_pos c20] at H); (have c20b0 : decide (0 ≤ x44_3) = true := decide_eq_true c20); clear c20; (by_cases c21 : x44_3 < (l0.length : Int))
                      · (rw [if_pos c21] at H); (have c21b0 : decide (x44_3 < (l0.length : Int)) = true := decide_eq_true c21); clear c21; (have H' := Aside0.mk H); clear H; (have p105 : 0 ≤ (x44_3 : Int) := of_decide_eq_true (by first | (with_reducible assumption) | assumption)); (have q105 : x44_3 < (l0.length : Int) := of_decide_eq_true (by first | (with_reducible assumption) | assumption)); (obtain ⟨ad105, e105, hx105_0, hx105_1, hx105_2⟩ := at_T42 HR0.out x44_3 p105 q105); (cases e105); (replace hx105_0 := (HB.out.cell (World.block_lt_of_cell? w _ hx105_0)).trans hx105_0); (replace hx105_1 := (HB.out.cell (World.block_lt_of_cell? w _ hx105_1)).trans hx105_1); (replace hx105_2 := (HB.out.cell (World.block_lt_of_cell? w _ hx105_2)).trans hx105_2); (replace p105 := eq_true p105); (replace q105 := eq_true q105); (go_wp2_with (first | ((with_reducible refine gate_dst (N := 8) rfl ?_); (try (refine gate_guard (by rfl) ?_; dsimp only)); refine box_event ?hg (N := 8) ?hd (cs := #[.int .i64 0, .int .i64 0, .int .i64 0]) (t := 42) ?hr ?_; (case hd => rfl); (case hg => rfl); (case hr => first | (go_simp; done) | (go_simp; rfl)); intro gb106 hg w22 hbox hb; have n0_ := Aside0.mk (below_step (by repeat (first | (with_reducible first | exact HB.out | apply below_alloc | apply pw_below_drewN | apply below_drew1) | exact HB.out)) hb); have n1_ := Aside0.mk (hbox); have n2_ := Aside0.mk ((by rw [hg]; exact (below_size (by repeat (first | (with_reducible first | exact HB.out | apply below_alloc | apply pw_below_drewN | apply below_drew1) | exact HB.out))) : w.heap.size ≤ gb106)); have n3_ := Aside0.mk ((by rw [hg]; exact (below_size (by repeat (first | (with_reducible first | exact HB.out | apply below_alloc | apply pw_below_drewN | apply below_drew1) | exact HB.out))) : w.heap.size ≤ gb106)); clear HB; have HB := n0_; have BK106 := n1_; have GW106 := n2_; have GE106 := n3_; clear n0_ n1_ n2_ n3_; clear hb hbox hg; have hcz23_0 : w22.cell? ⟨gb106, 0, none⟩ = some (.int .i64 0) := (blk_cell BK106.out 0).trans rfl; have hcz23_1 : w22.cell? ⟨gb106, 1, none⟩ = some (.int .i64 0) := (blk_cell BK106.out 1).trans rfl; have hcz23_2 : w22.cell? ⟨gb106, 2, none⟩ = some (.int .i64 0) := (blk_cell BK106.out 2).trans rfl; have hfz23_0 := blk_frozen BK106.out 0; have hfz23_1 := blk_frozen BK106.out 1; have hfz23_2 := blk_frozen BK106.out 2))); (go_loopg [9] k3 (fun kq v9 w' => ∃ (x9_4 : Int), v9 = .int .i64 x9_4 ∧ Aside0 (impl_TableValid.l2 kq l1 x44_3 x9_4 l0 (l0.length : Int) x44_3 ((rd_T42 l0 x44_3).f0) ((rd_T42 l0 x44_3).f1) ((rd_T42 l0 x44_3).f2) = some r) ∧ Aside0 (kq ≤ k3) ∧ Aside0 (w'.heap[gb106]? = some (.cells #[.int .i64 ((rd_T42 l0 x44_3).f0), .int .i64 ((rd_T42 l0 x44_3).f1), .int .i64 ((rd_T42 l0 x44_3).f2)] 42 (0, 0))) ∧ Aside0 (Below w.heap.size w w')))
                        case atStart => exact ⟨(0), (by first | rfl | (simp; done) | (simp [*]; done)), H', ⟨Nat.le_refl _⟩, ⟨by (with_reducible repeat (first | refine blk_drewN ?_ _ | refine blk_drew ?_ | refine blk_alloc ?_ _)); refine blk_put (cs := #[.int .i64 ((rd_T42 l0 x44_3).f0), .int .i64 ((rd_T42 l0 x44_3).f1), .int .i64 0]) ?_ 2 _ rfl; (with_reducible repeat (first | refine blk_drewN ?_ _ | refine blk_drew ?_ | refine blk_alloc ?_ _)); refine blk_put (cs := #[.int .i64 ((rd_T42 l0 x44_3).f0), .int .i64 0, .int .i64 0]) ?_ 1 _ rfl; (with_reducible repeat (first | refine blk_drewN ?_ _ | refine blk_drew ?_ | refine blk_alloc ?_ _)); refine blk_put (cs := #[.int .i64 0, .int .i64 0, .int .i64 0]) ?_ 0 _ rfl; (with_reducible repeat (first | refine blk_drewN ?_ _ | refine blk_drew ?_ | refine blk_alloc ?_ _)); exact BK106.out⟩, ⟨by repeat (first | (with_reducible first | exact HB.out | apply below_alloc | apply pw_below_drewN | apply below_drew1 | refine below_set ?_ GE106.out) | exact HB.out)⟩⟩
                        case round =>
                          clear H'; (try clear c1); (try clear p1); (try clear q1); (try clear hx1); (try clear c2); (try clear p2); (try clear c4); (try clear c5); (try clear p6); (try clear c7); (try clear c7b0); (try clear c7b1); (try clear p10); (try clear q10); (try clear hx10); (try clear c13); (try clear c14); (try clear c14b0); (try clear c15); (try clear c15b0); (try clear c16); (try clear c16b0); (try clear c18); (try clear c19); (try clear c19b0); (try clear c20); (try clear c20b0); (try clear c21); (try clear c21b0); (try clear hcz23_0); (try clear hcz23_1); (try clear hcz23_2); (try clear hfz23_0); (try clear hfz23_1); (try clear hfz23_2); (try clear hx103_0); (try clear hx105_0); (try clear hx105_1); (try clear hx105_2); (try clear p1); (try clear p10); (try clear p103); (try clear p105); (try clear p2); (try clear p6); (try clear q1); (try clear q10); (try clear q103); (try clear q105); (obtain ⟨x9_4, rfl, HA, HK4, BK106, HB⟩ := hrel)
                          cases gk with
                          | zero => exact absurd HA.out (by simp [impl_TableValid.l2])
                          | succ k4 =>
                            (have H := HA.out); clear HA; (simp only [impl_TableValid.l2] at H); (by_cases c24 : x9_4 < (l1.length : Int))
                            · (rw [if_pos c24] at H); (have c24b0 : decide (x9_4 < (l1.length : Int)) = true := decide_eq_true c24); clear c24; (by_cases c25 : 0 ≤ x9_4)
                              · (rw [if_pos c25] at H); (have c25b0 := eq_true c25); (have c25b1 : decide (0 ≤ x9_4) = true := decide_eq_true c25); clear c25; (by_cases c26 : x9_4 ≤ (wrap64 (x9_4 + ((rd_T42 l0 x44_3).f2))))
                                · (rw [if_pos c26] at H); (have c26b0 := eq_true c26); (have c26b1 : decide (x9_4 ≤ (wrap64 (x9_4 + ((rd_T42 l0 x44_3).f2)))) = true := decide_eq_true c26); (by_cases c27 : (wrap64 (x9_4 + ((rd_T42 l0 x44_3).f2))) ≤ (l1.length : Int))
                                  · (rw [if_pos c27] at H); (have c27b0 := eq_true c27); (have c27b1 : decide ((wrap64 (x9_4 + ((rd_T42 l0 x44_3).f2))) ≤ (l1.length : Int)) = true := decide_eq_true c27); (have H' := Aside0.mk H); clear H; (have hcz28_0 : wr.cell? ⟨gb106, 0, none⟩ = some (.int .i64 ((rd_T42 l0 x44_3).f0)) := (blk_cell BK106.out 0).trans rfl); (have hcz28_1 : wr.cell? ⟨gb106, 1, none⟩ = some (.int .i64 ((rd_T42 l0 x44_3).f1)) := (blk_cell BK106.out 1).trans rfl); (have hcz28_2 : wr.cell? ⟨gb106, 2, none⟩ = some (.int .i64 ((rd_T42 l0 x44_3).f2)) := (blk_cell BK106.out 2).trans rfl); (have hfz28_0 := blk_frozen BK106.out 0); (have hfz28_1 := blk_frozen BK106.out 1); (have hfz28_2 := blk_frozen BK106.out 2); (obtain ⟨i029, hi029, _, hsz29, _⟩ := info_parts info3); (obtain ⟨A29, hcut29, hA29, hC29⟩ := print_mid_of (P := Try.prog) (Value.int .i64) 0 24 3 .i64 .i64 Try.underlying24 hi029 hsz29 A1 c1 l1 x9_4 (wrap64 (x9_4 + ((rd_T42 l0 x44_3).f2))) (of_decide_eq_true (by first | (with_reducible assumption) | assumption)) (by first | omega | exact of_decide_eq_true (by first | (with_reducible assumption) | assumption)) (of_decide_eq_true (by first | (with_reducible assumption) | assumption)) HC1.out); (obtain ⟨Y29, hY29⟩ : ∃ y_ : List Int, ((l1.take ((wrap64 (x9_4 + ((rd_T42 l0 x44_3).f2))) : Int).toNat).drop (x9_4 : Int).toNat) = y_ := ⟨_, rfl⟩); (rw [hY29] at hcut29 hA29 hC29 H'); clear hY29; (have HR107 := Aside0.mk (Kd.C_of_reads (h1 := fun _ => rfl) (hA29 _ (Kd.reads_of_C HR1.out)))); (have HC107 := Aside0.mk hC29); clear hA29 hC29 hi029 hsz29; (go_wp2); (go_loopg [10, 11, 65] k4 (fun kq v10 v11 v65 w' => ∃ (x10_5 : Int) (x11_5 : Int) (x65_5 : Int), v10 = .int .i64 x10_5 ∧ v11 = .int .i64 x11_5 ∧ v65 = .int .i64 x65_5 ∧ Aside0 (impl_TableValid.l3 kq l1 x44_3 x9_4 x10_5 x11_5 l0 (l0.length : Int) x44_3 Y29 (Y29.length : Int) x65_5 ((rd_T42 l0 x44_3).f0) ((rd_T42 l0 x44_3).f1) ((rd_T42 l0 x44_3).f2) = some r) ∧ Aside0 (kq ≤ k4) ∧ Aside0 (w'.heap[gb106]? = some (.cells #[.int .i64 ((rd_T42 l0 x44_3).f0), .int .i64 ((rd_T42 l0 x44_3).f1), .int .i64 ((rd_T42 l0 x44_3).f2)] 42 (0, 0))) ∧ Aside0 (Below w.heap.size w w')))
                                    case atStart => exact ⟨(0), (0), (0), (by first | rfl | (simp; done) | (simp [*]; done)), (by first | rfl | (simp; done) | (simp [*]; done)), (by first | rfl | (simp; done) | (simp [*]; done)), H', ⟨Nat.le_refl _⟩, ⟨by (with_reducible repeat (first | refine blk_drewN ?_ _ | refine blk_drew ?_ | refine blk_alloc ?_ _)); exact BK106.out⟩, ⟨by repeat (first | (with_reducible first | exact HB.out | apply below_alloc | apply pw_below_drewN | apply below_drew1 | refine below_set ?_ GE106.out) | exact HB.out)⟩⟩
                                    case round =>
                                      clear H'; (try clear c1); (try clear p1); (try clear q1); (try clear hx1); (try clear c2); (try clear p2); (try clear c4); (try clear c5); (try clear p6); (try clear c7); (try clear c7b0); (try clear c7b1); (try clear p10); (try clear q10); (try clear hx10); (try clear c13); (try clear c14); (try clear c14b0); (try clear c15); (try clear c15b0); (try clear c16); (try clear c16b0); (try clear c18); (try clear c19); (try clear c19b0); (try clear c20); (try clear c20b0); (try clear c21); (try clear c21b0); (try clear c24); (try clear c24b0); (try clear c25); (try clear c25b0); (try clear c25b1); (try clear c26); (try clear c26b0); (try clear c26b1); (try clear c27); (try clear c27b0); (try clear c27b1); (try clear hcz23_0); (try clear hcz23_1); (try clear hcz23_2); (try clear hcz28_0); (try clear hcz28_1); (try clear hcz28_2); (try clear hfz23_0); (try clear hfz23_1); (try clear hfz23_2); (try clear hfz28_0); (try clear hfz28_1); (try clear hfz28_2); (try clear hx103_0); (try clear hx105_0); (try clear hx105_1); (try clear hx105_2); (try clear p1); (try clear p10); (try clear p103); (try clear p105); (try clear p2); (try clear p6); (try clear q1); (try clear q10); (try clear q103); (try clear q105); (obtain ⟨x10_5, x11_5, x65_5, rfl, rfl, rfl, HA, HK5, BK106, HB⟩ := hrel)
                                      cases gk with
                                      | zero => exact absurd HA.out (by simp [impl_TableValid.l3])
                                      | succ k5 =>
                                        (have H := HA.out); clear HA; (simp only [impl_TableValid.l3] at H); (by_cases c30 : x65_5 < (Y29.length : Int))
                                        · (rw [if_pos c30] at H); (have c30b0 : decide (x65_5 < (Y29.length : Int)) = true := decide_eq_true c30); clear c30; (by_cases c31 : 0 ≤ x65_5)
                                          · (rw [if_pos c31] at H); (have c31b0 : decide (0 ≤ x65_5) = true := decide_eq_true c31); clear c31; (by_cases c32 : x65_5 < (Y29.length : Int))
                                            · (rw [if_pos c32] at H); (have c32b0 : decide (x65_5 < (Y29.length : Int)) = true := decide_eq_true c32); clear c32; (have HC33 := Aside0.mk H); clear H; (have p108 : 0 ≤ (x65_5 : Int) := of_decide_eq_true (by first | (with_reducible assumption) | assumption)); (have q108 : x65_5 < (Y29.length : Int) := of_decide_eq_true (by first | (with_reducible assumption) | assumption)); (obtain ⟨ad108, e108, hx108_0⟩ := Kd.at_int HR107.out x65_5 p108 q108); (cases e108); (replace hx108_0 := (HB.out.cell (World.block_lt_of_cell? w _ hx108_0)).trans hx108_0); (replace p108 := eq_true p108); (replace q108 := eq_true q108); (go_upto_region 19 with (fail)); (go_cut [70] (fun v70 wc => ∃ (kq : Nat) (x70_32 : Bool), v70 = .bool x70_32 ∧ Aside0 (impl_TableValid.j5 kq l1 x44_3 x9_4 x10_5 x11_5 (rd Y29 x65_5) l0 (l0.length : Int) x44_3 Y29 (Y29.length : Int) x65_5 x70_32 ((rd_T42 l0 x44_3).f0) ((rd_T42 l0 x44_3).f1) ((rd_T42 l0 x44_3).f2) = some r) ∧ Aside0 (kq ≤ k5) ∧ Aside0 (wc.heap[gb106]? = some (.cells #[.int .i64 ((rd_T42 l0 x44_3).f0), .int .i64 ((rd_T42 l0 x44_3).f1), .int .i64 ((rd_T42 l0 x44_3).f2)] 42 (0, 0))) ∧ Aside0 (Below w.heap.size w wc)))
                                              case first =>
                                                (have H := HC33.out); clear HC33; (by_cases c34 : (rd Y29 x65_5) = x44_3)
                                                · (rw [if_pos c34] at H); (have c34b0 : ((rd Y29 x65_5) == x44_3) = true := beq_iff_eq.mpr c34); (have c34b1 : ((rd Y29 x65_5) != x44_3) = false := bne_eq_false_iff_eq.mpr c34); clear c34; ((first | rw [c34b0] | (simp only [i64_w, i32_w]; rw [c34b0]) | skip)); (have H' := Aside0.mk H); clear H; (have hcz35_0 : wr.cell? ⟨gb106, 0, none⟩ = some (.int .i64 ((rd_T42 l0 x44_3).f0)) := (blk_cell BK106.out 0).trans rfl); (have hcz35_1 : wr.cell? ⟨gb106, 1, none⟩ = some (.int .i64 ((rd_T42 l0 x44_3).f1)) := (blk_cell BK106.out 1).trans rfl); (have hcz35_2 : wr.cell? ⟨gb106, 2, none⟩ = some (.int .i64 ((rd_T42 l0 x44_3).f2)) := (blk_cell BK106.out 2).trans rfl); (have hfz35_0 := blk_frozen BK106.out 0); (have hfz35_1 := blk_frozen BK106.out 1); (have hfz35_2 := blk_frozen BK106.out 2); (go_wp2); (go_meet)
                                                  case rel => exact ⟨_, (decide (x65_5 < ((rd_T42 l0 x44_3).f1))), (by first | rfl | (simp; done) | (simp [*]; done)), H', ⟨by have := HJ2.out; have := HK2.out; have := HK3.out; have := HK4.out; have := HK5.out; first | omega | exact Nat.le_refl _⟩, ⟨by (with_reducible repeat (first | refine blk_drewN ?_ _ | refine blk_drew ?_ | refine blk_alloc ?_ _)); exact BK106.out⟩, ⟨by repeat (first | (with_reducible first | exact HB.out | apply below_alloc | apply pw_below_drewN | apply below_drew1 | refine below_set ?_ GE106.out) | exact HB.out)⟩⟩
                                                · (rw [if_neg c34] at H); (have c34b0 : ((rd Y29 x65_5) == x44_3) = false := beq_eq_false_iff_ne.mpr c34); (have c34b1 : ((rd Y29 x65_5) != x44_3) = true := bne_iff_ne.mpr c34); ((first | rw [c34b0] | (simp only [i64_w, i32_w]; rw [c34b0]) | skip)); (have H' := Aside0.mk H); clear H; (go_wp2); (go_meet)
                                                  case rel => exact ⟨_, (false), (by first | rfl | (simp; done) | (simp [*]; done)), H', ⟨by have := HJ2.out; have := HK2.out; have := HK3.out; have := HK4.out; have := HK5.out; first | omega | exact Nat.le_refl _⟩, ⟨by (with_reducible repeat (first | refine blk_drewN ?_ _ | refine blk_drew ?_ | refine blk_alloc ?_ _)); exact BK106.out⟩, ⟨by repeat (first | (with_reducible first | exact HB.out | apply below_alloc | apply pw_below_drewN | apply below_drew1 | refine below_set ?_ GE106.out) | exact HB.out)⟩⟩
                                              case rest =>
                                                clear HC33; (try clear c1); (try clear p1); (try clear q1); (try clear hx1); (try clear c2); (try clear p2); (try clear c3); (try clear c4); (try clear c5); (try clear p6); (try clear c7); (try clear c7b0); (try clear c7b1); (try clear p10); (try clear q10); (try clear hx10); (try clear c13); (try clear c14); (try clear c14b0); (try clear c15); (try clear c15b0); (try clear c16); (try clear c16b0); (try clear c18); (try clear c19); (try clear c19b0); (try clear c20); (try clear c20b0); (try clear c21); (try clear c21b0); (try clear c24); (try clear c24b0); (try clear c25); (try clear c25b0); (try clear c25b1); (try clear c26); (try clear c26b0); (try clear c26b1); (try clear c27); (try clear c27b0); (try clear c27b1); (try clear c30); (try clear c30b0); (try clear c31); (try clear c31b0); (try clear c32); (try clear c32b0); (try clear c34); (try clear c34b0); (try clear c34b1); (try clear hcz23_0); (try clear hcz23_1); (try clear hcz23_2); (try clear hcz28_0); (try clear hcz28_1); (try clear hcz28_2); (try clear hcz35_0); (try clear hcz35_1); (try clear hcz35_2); (try clear hfz23_0); (try clear hfz23_1); (try clear hfz23_2); (try clear hfz28_0); (try clear hfz28_1); (try clear hfz28_2); (try clear hfz35_0); (try clear hfz35_1); (try clear hfz35_2); (try clear hx103_0); (try clear hx105_0); (try clear hx105_1); (try clear hx105_2); (try clear hx108_0); (try clear p1); (try clear p10); (try clear p103); (try clear p105); (try clear p108); (try clear p2); (try clear p6); (try clear q1); (try clear q10); (try clear q103); (try clear q105); (try clear q108); (obtain ⟨kq, x70_32, rfl, HA, HJ32, BK106, HB⟩ := hcut)
                                                cases kq with
                                                | zero => exact absurd HA.out (by simp [impl_TableValid.j5])
                                                | succ kj32 =>
                                                  (have H := HA.out); clear HA; (simp only [impl_TableValid.j5] at H); (by_cases c36 : x70_32 = true)
                                                  · (subst c36); (have H1 : (impl_TableValid.l3 kj32 l1 x44_3 x9_4 (wrap64 (x10_5 + 1)) x11_5 l0 (l0.length : Int) x44_3 Y29 (Y29.length : Int) (wrap64 (x65_5 + 1)) ((rd_T42 l0 x44_3).f0) ((rd_T42 l0 x44_3).f1) ((rd_T42 l0 x44_3).f2)) = some r := by rw [if_pos rfl] at H; exact H); clear H; (have H := H1); clear H1; (have H' := Aside0.mk H); clear H; (go_wp2); (go_roundg kj32)
                                                    case measure => have := HJ2.out; have := HK2.out; have := HK3.out; have := HK4.out; have := HK5.out; have := HJ32.out; omega
                                                    case rel => exact ⟨(wrap64 (x10_5 + 1)), (x11_5), (wrap64 (x65_5 + 1)), (by first | rfl | (simp; done) | (simp [*]; done)), (by first | rfl | (simp; done) | (simp [*]; done)), (by first | rfl | (simp; done) | (simp [*]; done)), H', ⟨by have := HJ2.out; have := HK2.out; have := HK3.out; have := HK4.out; have := HK5.out; have := HJ32.out; omega⟩, ⟨by (with_reducible repeat (first | refine blk_drewN ?_ _ | refine blk_drew ?_ | refine blk_alloc ?_ _)); exact BK106.out⟩, ⟨by repeat (first | (with_reducible first | exact HB.out | apply below_alloc | apply pw_below_drewN | apply below_drew1 | refine below_set ?_ GE106.out) | exact HB.out)⟩⟩
                                                  · (replace c36 := Bool.eq_false_iff.mpr c36); (subst c36); (have H1 : (if (rd Y29 x65_5) = x44_3 then (impl_TableValid.l3 kj32 l1 x44_3 x9_4 x10_5 (wrap64 (x11_5 + 1)) l0 (l0.length : Int) x44_3 Y29 (Y29.length : Int) (wrap64 (x65_5 + 1)) ((rd_T42 l0 x44_3).f0) ((rd_T42 l0 x44_3).f1) ((rd_T42 l0 x44_3).f2)) else (impl_TableValid.l3 kj32 l1 x44_3 x9_4 x10_5 x11_5 l0 (l0.length : Int) x44_3 Y29 (Y29.length : Int) (wrap64 (x65_5 + 1)) ((rd_T42 l0 x44_3).f0) ((rd_T42 l0 x44_3).f1) ((rd_T42 l0 x44_3).f2))) = some r := by rw [if_neg (show ¬ (false = true) by decide)] at H; exact H); clear H; (have H := H1); clear H1; (by_cases c37 : (rd Y29 x65_5) = x44_3)
                                                    · (rw [if_pos c37] at H); (have c37b0 : ((rd Y29 x65_5) == x44_3) = true := beq_iff_eq.mpr c37); (have c37b1 : ((rd Y29 x65_5) != x44_3) = false := bne_eq_false_iff_eq.mpr c37); clear c37; (have H' := Aside0.mk H); clear H; (go_wp2); (go_roundg kj32)
                                                      case measure => have := HJ2.out; have := HK2.out; have := HK3.out; have := HK4.out; have := HK5.out; have := HJ32.out; omega
                                                      case rel => exact ⟨(x10_5), (wrap64 (x11_5 + 1)), (wrap64 (x65_5 + 1)), (by first | rfl | (simp; done) | (simp [*]; done)), (by first | rfl | (simp; done) | (simp [*]; done)), (by first | rfl | (simp; done) | (simp [*]; done)), H', ⟨by have := HJ2.out; have := HK2.out; have := HK3.out; have := HK4.out; have := HK5.out; have := HJ32.out; omega⟩, ⟨by (with_reducible repeat (first | refine blk_drewN ?_ _ | refine blk_drew ?_ | refine blk_alloc ?_ _)); exact BK106.out⟩, ⟨by repeat (first | (with_reducible first | exact HB.out | apply below_alloc | apply pw_below_drewN | apply below_drew1 | refine below_set ?_ GE106.out) | exact HB.out)⟩⟩
                                                    · (rw [if_neg c37] at H); (have c37b0 : ((rd Y29 x65_5) == x44_3) = false := beq_eq_false_iff_ne.mpr c37); (have c37b1 : ((rd Y29 x65_5) != x44_3) = true := bne_iff_ne.mpr c37); (have H' := Aside0.mk H); clear H; (go_wp2); (go_roundg kj32)
                                                      case measure => have := HJ2.out; have := HK2.out; have := HK3.out; have := HK4.out; have := HK5.out; have := HJ32.out; omega
                                                      case rel => exact ⟨(x10_5), (x11_5), (wrap64 (x65_5 + 1)), (by first | rfl | (simp; done) | (simp [*]; done)), (by first | rfl | (simp; done) | (simp [*]; done)), (by first | rfl | (simp; done) | (simp [*]; done)), H', ⟨by have := HJ2.out; have := HK2.out; have := HK3.out; have := HK4.out; have := HK5.out; have := HJ32.out; omega⟩, ⟨by (with_reducible repeat (first | refine blk_drewN ?_ _ | refine blk_drew ?_ | refine blk_alloc ?_ _)); exact BK106.out⟩, ⟨by repeat (first | (with_reducible first | exact HB.out | apply below_alloc | apply pw_below_drewN | apply below_drew1 | refine below_set ?_ GE106.out) | exact HB.out)⟩⟩
                                            · (rw [if_neg c32] at H); (exact absurd H (by simp))
                                          · (rw [if_neg c31] at H); (exact absurd H (by simp))
                                        · (rw [if_neg c30] at H); (have c30b0 : decide (x65_5 < (Y29.length : Int)) = false := decide_eq_false c30); clear c30; (by_cases c38 : x10_5 = ((rd_T42 l0 x44_3).f0))
                                          · (rw [if_pos c38] at H); (have c38b0 : (x10_5 == ((rd_T42 l0 x44_3).f0)) = true := beq_iff_eq.mpr c38); (have c38b1 : (x10_5 != ((rd_T42 l0 x44_3).f0)) = false := bne_eq_false_iff_eq.mpr c38); clear c38; (by_cases c39 : x11_5 = 0)
                                            · (rw [if_pos c39] at H); (have c39b0 : (x11_5 == 0) = true := beq_iff_eq.mpr c39); (have c39b1 : (x11_5 != 0) = false := bne_eq_false_iff_eq.mpr c39); clear c39; (have H' := Aside0.mk H); clear H; (have hcz40_0 : wr.cell? ⟨gb106, 0, none⟩ = some (.int .i64 ((rd_T42 l0 x44_3).f0)) := (blk_cell BK106.out 0).trans rfl); (have hcz40_1 : wr.cell? ⟨gb106, 1, none⟩ = some (.int .i64 ((rd_T42 l0 x44_3).f1)) := (blk_cell BK106.out 1).trans rfl); (have hcz40_2 : wr.cell? ⟨gb106, 2, none⟩ = some (.int .i64 ((rd_T42 l0 x44_3).f2)) := (blk_cell BK106.out 2).trans rfl); (have hfz40_0 := blk_frozen BK106.out 0); (have hfz40_1 := blk_frozen BK106.out 1); (have hfz40_2 := blk_frozen BK106.out 2); (go_wp2); (go_roundg k5)
                                              case measure => have := HJ2.out; have := HK2.out; have := HK3.out; have := HK4.out; have := HK5.out; omega
                                              case rel => exact ⟨(wrap64 (x9_4 + ((rd_T42 l0 x44_3).f2))), (by first | rfl | (simp; done) | (simp [*]; done)), H', ⟨by have := HJ2.out; have := HK2.out; have := HK3.out; have := HK4.out; have := HK5.out; omega⟩, ⟨by (with_reducible repeat (first | refine blk_drewN ?_ _ | refine blk_drew ?_ | refine blk_alloc ?_ _)); exact BK106.out⟩, ⟨by repeat (first | (with_reducible first | exact HB.out | apply below_alloc | apply pw_below_drewN | apply below_drew1 | refine below_set ?_ GE106.out) | exact HB.out)⟩⟩
                                            · (rw [if_neg c39] at H); (have c39b0 : (x11_5 == 0) = false := beq_eq_false_iff_ne.mpr c39); (have c39b1 : (x11_5 != 0) = true := bne_iff_ne.mpr c39); (obtain rfl := Option.some.inj H); (have hcz41_0 : wr.cell? ⟨gb106, 0, none⟩ = some (.int .i64 ((rd_T42 l0 x44_3).f0)) := (blk_cell BK106.out 0).trans rfl); (have hcz41_1 : wr.cell? ⟨gb106, 1, none⟩ = some (.int .i64 ((rd_T42 l0 x44_3).f1)) := (blk_cell BK106.out 1).trans rfl); (have hcz41_2 : wr.cell? ⟨gb106, 2, none⟩ = some (.int .i64 ((rd_T42 l0 x44_3).f2)) := (blk_cell BK106.out 2).trans rfl); (have hfz41_0 := blk_frozen BK106.out 0); (have hfz41_1 := blk_frozen BK106.out 1); (have hfz41_2 := blk_frozen BK106.out 2); (go_wp2); (go_ret); (exact ⟨by first | rfl | (simp [errW_none, errW_some] <;> rfl) | (simp [*, errW_none, errW_some] <;> rfl), by repeat (first | (with_reducible first | exact HB.out | apply below_alloc | apply pw_below_drewN | apply below_drew1 | refine below_set ?_ GE106.out) | exact HB.out)⟩)
                                          · (rw [if_neg c38] at H); (have c38b0 : (x10_5 == ((rd_T42 l0 x44_3).f0)) = false := beq_eq_false_iff_ne.mpr c38); (have c38b1 : (x10_5 != ((rd_T42 l0 x44_3).f0)) = true := bne_iff_ne.mpr c38); (obtain rfl := Option.some.inj H); (have hcz42_0 : wr.cell? ⟨gb106, 0, none⟩ = some (.int .i64 ((rd_T42 l0 x44_3).f0)) := (blk_cell BK106.out 0).trans rfl); (have hcz42_1 : wr.cell? ⟨gb106, 1, none⟩ = some (.int .i64 ((rd_T42 l0 x44_3).f1)) := (blk_cell BK106.out 1).trans rfl); (have hcz42_2 : wr.cell? ⟨gb106, 2, none⟩ = some (.int .i64 ((rd_T42 l0 x44_3).f2)) := (blk_cell BK106.out 2).trans rfl); (have hfz42_0 := blk_frozen BK106.out 0); (have hfz42_1 := blk_frozen BK106.out 1); (have hfz42_2 := blk_frozen BK106.out 2); (go_wp2); (go_ret); (exact ⟨by first | rfl | (simp [errW_none, errW_some] <;> rfl) | (simp [*, errW_none, errW_some] <;> rfl), by repeat (first | (with_reducible first | exact HB.out | apply below_alloc | apply pw_below_drewN | apply below_drew1 | refine below_set ?_ GE106.out) | exact HB.out)⟩)
                                  · (rw [if_neg c27] at H); (exact absurd H (by simp))
                                · (rw [if_neg c26] at H); (exact absurd H (by simp))
                              · (rw [if_neg c25] at H); (exact absurd H (by simp))
                            · (rw [if_neg c24] at H); (have c24b0 : decide (x9_4 < (l1.length : Int)) = false := decide_eq_false c24); clear c24; (have H' := Aside0.mk H); clear H; (go_wp2); (go_roundg k4)
                              case measure => have := HJ2.out; have := HK2.out; have := HK3.out; have := HK4.out; omega
                              case rel => exact ⟨(wrap64 (x44_3 + 1)), (by first | rfl | (simp; done) | (simp [*]; done)), H', ⟨by have := HJ2.out; have := HK2.out; have := HK3.out; have := HK4.out; omega⟩, ⟨by repeat (first | (with_reducible first | exact HB.out | apply below_alloc | apply pw_below_drewN | apply below_drew1 | refine below_set ?_ GE106.out) | exact HB.out)⟩⟩
                      · (rw [if_neg c21] at H); (exact absurd H (by simp))
                    · (rw [if_neg c20] at H); (exact absurd H (by simp))
                  · (rw [if_neg c19] at H); (have c19b0 : decide (x44_3 < (l0.length : Int)) = false := decide_eq_false c19); clear c19; (obtain rfl := Option.some.inj H); (go_wp2); (go_ret); (exact ⟨by first | rfl | (simp [errW_none, errW_some] <;> rfl) | (simp [*, errW_none, errW_some] <;> rfl), by repeat (first | (with_reducible first | exact HB.out | apply below_alloc | apply pw_below_drewN | apply below_drew1) | exact HB.out)⟩)

end Go.Proofs.Ytnkpbbkfhmlcfaa.Q
