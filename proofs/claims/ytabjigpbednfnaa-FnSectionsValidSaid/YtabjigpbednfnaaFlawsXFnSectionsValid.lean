-- written by mp.py, a program of this session's, out of the kit's print program and the translation
import Derived.Test.YtabjigpbednfnaaF0
import Derived.Test.YtabjigpbednfnaaFspecXDrawSectionsValid
import Derived.Test.YtabjigpbednfnaaFimplXSectionsValid
import Derived.Test.YtabjigpbednfnaaFspecXSetValid
import Derived.Test.YtabjigpbednfnaaFspecXSectionsValid
import Derived.Test.YtabjigpbednfnaaFA
namespace Go.Proofs.Ytabjigpbednfnaa.Q
open Go.RowKit Go.Proofs.YtabjigpbednfnaaW.PrintWords Go.Proofs.YtabjigpbednfnaaW.PrintLast Go.Proofs.YtabjigpbednfnaaW.PrintMore
attribute [local go_sem] max2_int min2_int max_two min_two max_three min_three max_four min_four   -- for this text's walks alone
set_option linter.unusedVariables false
set_option linter.unusedSimpArgs false

/-! ### laws_FnSectionsValid: function 3 -/
mutual
def laws_FnSectionsValid.j0 : Nat → List (S33) → List (S31) → Bool → Bool → Option (Bool)
  | 0, _, _, _, _ => none
  | k + 1, x3, x4, x5, x34 => if x34 = true then (some false) else (if x5 = true then (laws_FnSectionsValid.l0 k x3 x4 0) else ((laws_alive.f).bind fun t114 => (some t114)))
def laws_FnSectionsValid.l0 : Nat → List (S33) → List (S31) → Int → Option (Bool)
  | 0, _, _, _ => none
  | k + 1, x3, x4, x6 => if x6 < (x4.length : Int) then (if 0 ≤ x6 then (if ((rd_T31 x4 x6).f1) = 0 then (laws_FnSectionsValid.l0 k x3 x4 (wrap64 (x6 + 1))) else ((some (([] : List (S31)) : List (S31))).bind fun y116 => (if y116.length + x4.length < 5864062014805 then ((some (y116 ++ x4 : List (S31))).bind fun y119 => (if x6 < (y119.length : Int) then ((some (y119.set (x6 : Int).toNat (⟨(rd_T31 y119 x6).f0, wrap64 (((rd_T31 x4 x6).f1) - 1), (rd_T31 y119 x6).f2⟩ : S31) : List (S31))).bind fun y123 => (if ((rd_T31 y123 x6).f1) = 0 then (laws_FnSectionsValid.j2 k x3 x4 x6 (y123.set (x6 : Int).toNat (⟨0, 0, 0⟩ : S31))) else (laws_FnSectionsValid.j2 k x3 x4 x6 y123))) else (none))) else (none)))) else (none)) else (some true)
def laws_FnSectionsValid.j2 : Nat → List (S33) → List (S31) → Int → List (S31) → Option (Bool)
  | 0, _, _, _, _ => none
  | k + 1, x3, x4, x6, x7 => (some (([] : List (S31)) : List (S31))).bind fun y126 => (if y126.length + x4.length < 5864062014805 then ((some (y126 ++ x4 : List (S31))).bind fun y129 => (if 0 ≤ x6 then (if x6 < (x3.length : Int) then (if x6 < (x4.length : Int) then (if x6 < (y129.length : Int) then ((impl_SectionsValid.f k x3 x7).bind fun t135 => (if t135 = true then ((impl_SectionsValid.f k x3 (y129.set (x6 : Int).toNat (⟨(rd_T31 y129 x6).f0, wrap64 ((wrap64 (((rd_T33 x3 x6).f0) - ((rd_T31 x4 x6).f0))) + 1), (rd_T31 y129 x6).f2⟩ : S31))).bind fun t136 => (if t136 = true then (some false) else (laws_FnSectionsValid.l0 k x3 x4 (wrap64 (x6 + 1))))) else (some false))) else (none)) else (none)) else (none)) else (none))) else (none))
end
def laws_FnSectionsValid.f (k : Nat) (l0 : List Int) : Option (Bool) := if (l0.length : Int) > 1048576 then (some true) else ((spec_DrawSectionsValid.f k l0).bind fun bt101 => ((impl_SectionsValid.f k bt101.1 bt101.2).bind fun t107 => ((spec_SectionsValid.f k bt101.1 bt101.2).bind fun t108 => (if (t107 != t108) = true then (laws_FnSectionsValid.j0 k bt101.1 bt101.2 t107 true) else (if 0 ≤ (bt101.1.length : Int) then (if ((bt101.1.length : Int) : Int).toNat ≤ 11728124029610 then ((impl_SectionsValid.f k bt101.1 (List.replicate ((bt101.1.length : Int) : Int).toNat z31)).bind fun t112 => ((spec_SetValid.f k bt101.1).bind fun t113 => (laws_FnSectionsValid.j0 k bt101.1 bt101.2 t107 (t112 != t113)))) else (none)) else (none))))))
theorem laws_FnSectionsValid.mono_l : ∀ k, (∀ y0 y1 y2 y3, LeO (laws_FnSectionsValid.j0 k y0 y1 y2 y3) (laws_FnSectionsValid.j0 (k + 1) y0 y1 y2 y3)) ∧ (∀ y0 y1 y2, LeO (laws_FnSectionsValid.l0 k y0 y1 y2) (laws_FnSectionsValid.l0 (k + 1) y0 y1 y2)) ∧ (∀ y0 y1 y2 y3, LeO (laws_FnSectionsValid.j2 k y0 y1 y2 y3) (laws_FnSectionsValid.j2 (k + 1) y0 y1 y2 y3))
  | 0 => ⟨fun _ _ _ _ r h => by simp [laws_FnSectionsValid.j0] at h, fun _ _ _ r h => by simp [laws_FnSectionsValid.l0] at h, fun _ _ _ _ r h => by simp [laws_FnSectionsValid.j2] at h⟩
  | k + 1 => by
    obtain ⟨ih0, ih1, ih2⟩ := laws_FnSectionsValid.mono_l k
    refine ⟨?_, ?_, ?_⟩
    · intro y0 y1 y2 y3
      unfold laws_FnSectionsValid.j0
      repeat' first
      | (with_reducible exact ih0 _ _ _ _)
      | (with_reducible exact ih1 _ _ _)
      | (with_reducible exact ih2 _ _ _ _)
      | (with_reducible exact impl_SectionsValid.mono _ _ _)
      | (with_reducible exact spec_DrawSectionsValid.mono _ _)
      | (with_reducible exact spec_SectionsValid.mono _ _ _)
      | (with_reducible exact spec_SetValid.mono _ _)
      | (with_reducible exact LeO.refl _)
      | (with_reducible exact LeO.none _)
      | (with_reducible refine LeO.ite ?_ ?_)
      | (with_reducible refine LeO.bind ?_ (fun _ => ?_))
      | exact ih0 _ _ _ _
      | exact ih1 _ _ _
      | exact ih2 _ _ _ _
      | exact impl_SectionsValid.mono _ _ _
      | exact spec_DrawSectionsValid.mono _ _
      | exact spec_SectionsValid.mono _ _ _
      | exact spec_SetValid.mono _ _
      | exact LeO.none _
      | refine LeO.ite ?_ ?_
      | refine LeO.bind ?_ (fun _ => ?_)
    · intro y0 y1 y2
      unfold laws_FnSectionsValid.l0
      repeat' first
      | (with_reducible exact ih0 _ _ _ _)
      | (with_reducible exact ih1 _ _ _)
      | (with_reducible exact ih2 _ _ _ _)
      | (with_reducible exact impl_SectionsValid.mono _ _ _)
      | (with_reducible exact spec_DrawSectionsValid.mono _ _)
      | (with_reducible exact spec_SectionsValid.mono _ _ _)
      | (with_reducible exact spec_SetValid.mono _ _)
      | (with_reducible exact LeO.refl _)
      | (with_reducible exact LeO.none _)
      | (with_reducible refine LeO.ite ?_ ?_)
      | (with_reducible refine LeO.bind ?_ (fun _ => ?_))
      | exact ih0 _ _ _ _
      | exact ih1 _ _ _
      | exact ih2 _ _ _ _
      | exact impl_SectionsValid.mono _ _ _
      | exact spec_DrawSectionsValid.mono _ _
      | exact spec_SectionsValid.mono _ _ _
      | exact spec_SetValid.mono _ _
      | exact LeO.none _
      | refine LeO.ite ?_ ?_
      | refine LeO.bind ?_ (fun _ => ?_)
    · intro y0 y1 y2 y3
      unfold laws_FnSectionsValid.j2
      repeat' first
      | (with_reducible exact ih0 _ _ _ _)
      | (with_reducible exact ih1 _ _ _)
      | (with_reducible exact ih2 _ _ _ _)
      | (with_reducible exact impl_SectionsValid.mono _ _ _)
      | (with_reducible exact spec_DrawSectionsValid.mono _ _)
      | (with_reducible exact spec_SectionsValid.mono _ _ _)
      | (with_reducible exact spec_SetValid.mono _ _)
      | (with_reducible exact LeO.refl _)
      | (with_reducible exact LeO.none _)
      | (with_reducible refine LeO.ite ?_ ?_)
      | (with_reducible refine LeO.bind ?_ (fun _ => ?_))
      | exact ih0 _ _ _ _
      | exact ih1 _ _ _
      | exact ih2 _ _ _ _
      | exact impl_SectionsValid.mono _ _ _
      | exact spec_DrawSectionsValid.mono _ _
      | exact spec_SectionsValid.mono _ _ _
      | exact spec_SetValid.mono _ _
      | exact LeO.none _
      | refine LeO.ite ?_ ?_
      | refine LeO.bind ?_ (fun _ => ?_)
theorem laws_FnSectionsValid.mono : ∀ a0 k, LeO (laws_FnSectionsValid.f k a0) (laws_FnSectionsValid.f (k + 1) a0) := by
  intro a0 k
  obtain ⟨ih0, ih1, ih2⟩ := laws_FnSectionsValid.mono_l k
  unfold laws_FnSectionsValid.f
  repeat' first
      | (with_reducible exact ih0 _ _ _ _)
      | (with_reducible exact ih1 _ _ _)
      | (with_reducible exact ih2 _ _ _ _)
      | (with_reducible exact impl_SectionsValid.mono _ _ _)
      | (with_reducible exact spec_DrawSectionsValid.mono _ _)
      | (with_reducible exact spec_SectionsValid.mono _ _ _)
      | (with_reducible exact spec_SetValid.mono _ _)
      | (with_reducible exact LeO.refl _)
      | (with_reducible exact LeO.none _)
      | (with_reducible refine LeO.ite ?_ ?_)
      | (with_reducible refine LeO.bind ?_ (fun _ => ?_))
      | exact ih0 _ _ _ _
      | exact ih1 _ _ _
      | exact ih2 _ _ _ _
      | exact impl_SectionsValid.mono _ _ _
      | exact spec_DrawSectionsValid.mono _ _
      | exact spec_SectionsValid.mono _ _ _
      | exact spec_SetValid.mono _ _
      | exact LeO.none _
      | refine LeO.ite ?_ ?_
      | refine LeO.bind ?_ (fun _ => ?_)
def laws_FnSectionsValid.T18 : Bool × List (List Nat × List Nat) := (true, [([], []), ([], []), ([], []), ([], []), ([2, 3], [2, 3]), ([4], [4]), ([5], [5]), ([], []), ([], []), ([7, 8], [7, 8]), ([9], [9]), ([10], [10]), ([6, 11], [6, 11]), ([12], [12]), ([0, 1, 0, 1, 2, 3, 4, 5, 6, 7, 8, 9, 10, 11, 12, 13], [0, 1]), ([14, 0, 1, 2, 3, 4, 5, 6, 7, 8, 9, 10, 11, 12, 13], [14]), ([15, 13, 0, 1, 2, 3, 4, 5, 6, 7, 8, 9, 10, 11, 12, 13], [13, 15])])
def laws_FnSectionsValid.B18 : List Nat := [0, 0, 0, 0, 12, 28, 60, 0, 0, 384, 896, 1920, 4092, 8188, 16383, 32767, 65535]
theorem laws_FnSectionsValid.tab18 : rtab .any (opsOf Try.f3 18) = laws_FnSectionsValid.T18 := by kernel_rfl
theorem laws_FnSectionsValid.bits18 : waitsOk laws_FnSectionsValid.T18.2 laws_FnSectionsValid.B18 = true := by kernel_rfl
set_option maxHeartbeats 8000000 in
set_option maxRecDepth 100000 in
theorem laws_FnSectionsValid.calls (k : Nat) (A0 : Option Addr) (c0 : Nat) (l0 : List Int) (r : Bool) (w : World) (hr0 : Kd.C (Kd.int .u8) w A0 l0.length l0) (hc0 : l0.length ≤ c0) (h : laws_FnSectionsValid.f k l0 = some r) :
    Calls Try.prog 3 #[.slice A0 l0.length c0] w fun e w' => e = .returned (.bool r) ∧ Below w.heap.size w w' := by
  have hu31 := Try.underlying31
  have HR0 := Aside0.mk hr0
  have HC0 := Aside0.mk hc0
  clear hr0 hc0
  have HB := Aside0.mk (Below.refl w.heap.size w)
  have H : (if (l0.length : Int) > 1048576 then (some true) else ((spec_DrawSectionsValid.f k l0).bind fun bt101 => ((impl_SectionsValid.f k bt101.1 bt101.2).bind fun t107 => ((spec_SectionsValid.f k bt101.1 bt101.2).bind fun t108 => (if (t107 != t108) = true then (laws_FnSectionsValid.j0 k bt101.1 bt101.2 t107 true) else (if 0 ≤ (bt101.1.length : Int) then (if ((bt101.1.length : Int) : Int).toNat ≤ 11728124029610 then ((impl_SectionsValid.f k bt101.1 (List.replicate ((bt101.1.length : Int) : Int).toNat z31)).bind fun t112 => ((spec_SetValid.f k bt101.1).bind fun t113 => (laws_FnSectionsValid.j0 k bt101.1 bt101.2 t107 (t112 != t113)))) else (none)) else (none))))))) = some r := h
  clear h
  by_cases c2 : (l0.length : Int) > 1048576
  · rw [if_pos c2] at H
    have c2b0 : decide (1048576 < (l0.length : Int)) = true := decide_eq_true c2
    have c2b1 : decide (1048576 < l0.length) = true := decide_eq_true (by omega)
    clear c2
    obtain rfl := Option.some.inj H
    go_enter Try.func3, Try.ntmps3
    go_wp2
    go_ret
    exact ⟨by first | rfl | (simp [errW_none, errW_some] <;> rfl) | (simp [*, errW_none, errW_some] <;> rfl), by repeat (first | (with_reducible first | exact HB.out | apply below_alloc | apply pw_below_drewN | apply below_drew1) | exact HB.out)⟩
  · rw [if_neg c2] at H
    have c2b0 : decide (1048576 < (l0.length : Int)) = false := decide_eq_false c2
    have c2b1 : decide (1048576 < l0.length) = false := decide_eq_false (by omega)
    clear c2
    replace H := Option.bind_eq_some_iff.mp H
    obtain ⟨⟨t101, t102⟩, A30, H⟩ := H
    replace H : ((impl_SectionsValid.f k t101 t102).bind fun t107 => ((spec_SectionsValid.f k t101 t102).bind fun t108 => (if (t107 != t108) = true then (laws_FnSectionsValid.j0 k t101 t102 t107 true) else (if 0 ≤ (t101.length : Int) then (if ((t101.length : Int) : Int).toNat ≤ 11728124029610 then ((impl_SectionsValid.f k t101 (List.replicate ((t101.length : Int) : Int).toNat z31)).bind fun t112 => ((spec_SetValid.f k t101).bind fun t113 => (laws_FnSectionsValid.j0 k t101 t102 t107 (t112 != t113)))) else (none)) else (none))))) = some r := H
    have A3 := Aside0.mk A30
    clear A30
    replace H := Option.bind_eq_some_iff.mp H
    obtain ⟨t107, A40, H⟩ := H
    replace H : ((spec_SectionsValid.f k t101 t102).bind fun t108 => (if (t107 != t108) = true then (laws_FnSectionsValid.j0 k t101 t102 t107 true) else (if 0 ≤ (t101.length : Int) then (if ((t101.length : Int) : Int).toNat ≤ 11728124029610 then ((impl_SectionsValid.f k t101 (List.replicate ((t101.length : Int) : Int).toNat z31)).bind fun t112 => ((spec_SetValid.f k t101).bind fun t113 => (laws_FnSectionsValid.j0 k t101 t102 t107 (t112 != t113)))) else (none)) else (none)))) = some r := H
    have A4 := Aside0.mk A40
    clear A40
    have HC5 := Aside0.mk H
    clear H
    go_enter Try.func3, Try.ntmps3
    go_upto_region 5 with (first | ((with_reducible refine gate_callee (f := 8) rfl ?_); refine goesL_ (some 14) rfl rfl Try.func8 (by kernel_rfl) rfl #[.slice A0 l0.length c0] rfl (by (try simp only [List.map_toArray, List.map_cons, List.map_nil]); first | done | rfl | (simp only [List.length_drop, List.length_take]; rfl)) ?_; (with_reducible refine (spec_DrawSectionsValid.calls k _ _ l0 t101 t102 _ ?side1 ?side2 A3.out).mono ?_); (case side1 => repeat (first | exact HR0.out | (with_reducible refine Kd.C_alloc ?_ _) | (with_reducible refine Kd.C_drewN ?_ _) | (with_reducible refine Kd.C_drew ?_))); (case side2 => exact HC0.out); rintro e w6 ⟨v103, v105, rfl, ho0, ho1, hb⟩; refine ⟨_, rfl, ?_⟩; have n0_ := Aside0.mk (Kd.R_lower ho0 (below_size (by repeat (first | (with_reducible first | exact HB.out | apply below_alloc | apply pw_below_drewN | apply below_drew1) | exact HB.out)))); have n1_ := Aside0.mk (Kd.R_lower ho1 (below_size (by repeat (first | (with_reducible first | exact HB.out | apply below_alloc | apply pw_below_drewN | apply below_drew1) | exact HB.out)))); have n2_ := Aside0.mk (below_step (by repeat (first | (with_reducible first | exact HB.out | apply below_alloc | apply pw_below_drewN | apply below_drew1) | exact HB.out)) hb); clear HB; have HO104 := n0_; have HO106 := n1_; have HB := n2_; clear n0_ n1_ n2_; (try clear hb); (try clear hb2); (try clear hk); (try clear hi); (try clear ho0); (try clear ho1); obtain ⟨Ao7, co7, eo7⟩ := Kd.R_slice HO104.out; subst eo7; obtain ⟨Ao8, co8, eo8⟩ := Kd.R_slice HO106.out; subst eo8) | ((with_reducible refine gate_callee (f := 9) rfl ?_); refine goesL_ (some 19) rfl rfl Try.func9 (by kernel_rfl) rfl #[.slice Ao7 t101.length co7, .slice Ao8 t102.length co8] rfl (by (try simp only [List.map_toArray, List.map_cons, List.map_nil]); first | done | rfl | (simp only [List.length_drop, List.length_take]; rfl)) ?_; (with_reducible refine (impl_SectionsValid.calls k _ _ t101 _ _ t102 t107 _ ?side1 ?side2 ?side3 ?side4 A4.out).mono ?_); (case side1 => repeat (first | exact (Kd.R_reads' HO104.out).2.2 | (with_reducible refine Kd.C_alloc ?_ _) | (with_reducible refine Kd.C_drewN ?_ _) | (with_reducible refine Kd.C_drew ?_))); (case side2 => exact (Kd.R_reads' HO104.out).2.1); (case side3 => repeat (first | exact (Kd.R_reads' HO106.out).2.2 | (with_reducible refine Kd.C_alloc ?_ _) | (with_reducible refine Kd.C_drewN ?_ _) | (with_reducible refine Kd.C_drew ?_))); (case side4 => exact (Kd.R_reads' HO106.out).2.1); rintro e w9 ⟨rfl, hb⟩; refine ⟨_, rfl, ?_⟩; have n0_ := Aside0.mk (Kd.R_below (by (with_reducible repeat (first | apply Kd.R_alloc | apply Kd.R_drewN | apply Kd.R_drew)); exact HO104.out) hb); have n1_ := Aside0.mk (Kd.R_below (by (with_reducible repeat (first | apply Kd.R_alloc | apply Kd.R_drewN | apply Kd.R_drew)); exact HO106.out) hb); have n2_ := Aside0.mk (below_step (by repeat (first | (with_reducible first | exact HB.out | apply below_alloc | apply pw_below_drewN | apply below_drew1) | exact HB.out)) hb); clear HO104; clear HO106; clear HB; have HO104 := n0_; have HO106 := n1_; have HB := n2_; clear n0_ n1_ n2_; (try clear hb); (try clear hb2); (try clear hk); (try clear hi)))
    (try simp only [Act.put, List.setIfInBounds_toArray, List.set_cons_zero, List.set_cons_succ])
    go_cut [34] (fun v34 wc => ∃ (kq : Nat) (x34_4 : Bool), v34 = .bool x34_4 ∧ Aside0 (laws_FnSectionsValid.j0 kq t101 t102 t107 x34_4 = some r) ∧ Aside0 (kq ≤ k) ∧ Aside0 (Kd.R k33 33 wc w.heap.size (fun _ => True) (.slice Ao7 t101.length co7) t101) ∧ Aside0 (Kd.R k31 31 wc w.heap.size (fun _ => True) (.slice Ao8 t102.length co8) t102) ∧ Aside0 (Below w.heap.size w wc))
    case first =>
      have H := HC5.out
      clear HC5
      replace H := Option.bind_eq_some_iff.mp H
      obtain ⟨t108, A100, H⟩ := H
      replace H : (if (t107 != t108) = true then (laws_FnSectionsValid.j0 k t101 t102 t107 true) else (if 0 ≤ (t101.length : Int) then (if ((t101.length : Int) : Int).toNat ≤ 11728124029610 then ((impl_SectionsValid.f k t101 (List.replicate ((t101.length : Int) : Int).toNat z31)).bind fun t112 => ((spec_SetValid.f k t101).bind fun t113 => (laws_FnSectionsValid.j0 k t101 t102 t107 (t112 != t113)))) else (none)) else (none))) = some r := H
      have A10 := Aside0.mk A100
      clear A100
      by_cases c11 : (t107 != t108) = true
      · rw [if_pos c11] at H
        have c11b0 : (t107 != t108) = true := c11
        (try (have c11b1 : decide (t107 = t108) = false := by simpa using c11))
        (try (have c11b2 : (t107 == t108) = false := by simpa using c11))
        (try (have c11b3 : ¬ (t107 = t108) := by simpa using c11))
        clear c11
        (first | rw [c11b0] | (simp only [i64_w, i32_w]; rw [c11b0]) | skip)
        have H' := Aside0.mk H
        clear H
        go_wp2_with (first | ((with_reducible refine gate_callee (f := 10) rfl ?_); refine goesL_ (some 23) rfl rfl Try.func10 (by kernel_rfl) rfl #[.slice Ao7 t101.length co7, .slice Ao8 t102.length co8] rfl (by (try simp only [List.map_toArray, List.map_cons, List.map_nil]); first | done | rfl | (simp only [List.length_drop, List.length_take]; rfl)) ?_; (with_reducible refine (spec_SectionsValid.calls k _ _ t101 _ _ t102 t108 _ ?side1 ?side2 ?side3 ?side4 A10.out).mono ?_); (case side1 => repeat (first | exact (Kd.R_reads' HO104.out).2.2 | (with_reducible refine Kd.C_alloc ?_ _) | (with_reducible refine Kd.C_drewN ?_ _) | (with_reducible refine Kd.C_drew ?_))); (case side2 => exact (Kd.R_reads' HO104.out).2.1); (case side3 => repeat (first | exact (Kd.R_reads' HO106.out).2.2 | (with_reducible refine Kd.C_alloc ?_ _) | (with_reducible refine Kd.C_drewN ?_ _) | (with_reducible refine Kd.C_drew ?_))); (case side4 => exact (Kd.R_reads' HO106.out).2.1); rintro e w12 ⟨rfl, hb⟩; refine ⟨_, rfl, ?_⟩; have n0_ := Aside0.mk (Kd.R_below (by (with_reducible repeat (first | apply Kd.R_alloc | apply Kd.R_drewN | apply Kd.R_drew)); exact HO104.out) hb); have n1_ := Aside0.mk (Kd.R_below (by (with_reducible repeat (first | apply Kd.R_alloc | apply Kd.R_drewN | apply Kd.R_drew)); exact HO106.out) hb); have n2_ := Aside0.mk (below_step (by repeat (first | (with_reducible first | exact HB.out | apply below_alloc | apply pw_below_drewN | apply below_drew1) | exact HB.out)) hb); clear HO104; clear HO106; clear HB; have HO104 := n0_; have HO106 := n1_; have HB := n2_; clear n0_ n1_ n2_; (try clear hb); (try clear hb2); (try clear hk); (try clear hi)))
        go_meet
        case rel => exact ⟨_, (true), (by first | rfl | (simp; done) | (simp [*]; done)), H', ⟨by first | omega | exact Nat.le_refl _⟩, ⟨by (with_reducible repeat (first | apply Kd.R_alloc | apply Kd.R_drewN | apply Kd.R_drew)); exact HO104.out⟩, ⟨by (with_reducible repeat (first | apply Kd.R_alloc | apply Kd.R_drewN | apply Kd.R_drew)); exact HO106.out⟩, ⟨by repeat (first | (with_reducible first | exact HB.out | apply below_alloc | apply pw_below_drewN | apply below_drew1) | exact HB.out)⟩⟩
      · rw [if_neg c11] at H
        have c11b0 : (t107 != t108) = false := by simpa using c11
        (try (have c11b1 : decide (t107 = t108) = true := by simpa using c11))
        (try (have c11b2 : (t107 == t108) = true := by simpa using c11))
        clear c11
        (first | rw [c11b0] | (simp only [i64_w, i32_w]; rw [c11b0]) | skip)
        by_cases c13 : 0 ≤ (t101.length : Int)
        · rw [if_pos c13] at H
          have c13b0 := eq_true c13
          have c13b1 : decide (0 ≤ (t101.length : Int)) = true := decide_eq_true c13
          clear c13
          by_cases c14 : ((t101.length : Int) : Int).toNat ≤ 11728124029610
          · rw [if_pos c14] at H
            have c14b0 := eq_true c14
            have c14b1 : decide (((t101.length : Int) : Int).toNat ≤ 11728124029610) = true := decide_eq_true c14
            clear c14
            obtain ⟨y109, hy109⟩ : ∃ y_ : List (S31), y_ = (List.replicate ((t101.length : Int) : Int).toNat z31) := ⟨_, rfl⟩
            replace H : ((impl_SectionsValid.f k t101 y109).bind fun t112 => ((spec_SetValid.f k t101).bind fun t113 => (laws_FnSectionsValid.j0 k t101 t102 t107 (t112 != t113)))) = some r := by first | (rw [hy109]; with_reducible exact H) | (have H2_ := (Option.bind_some _ _).symm.trans H; rw [hy109]; with_reducible exact H2_) | (have H2_ := (Option.bind_some _ _).symm.trans H; with_reducible exact H2_) | with_reducible exact H | (rw [hy109]; exact H) | exact H
            have Ny109 := Aside0.mk hy109
            clear hy109
            replace H := Option.bind_eq_some_iff.mp H
            obtain ⟨t112, A150, H⟩ := H
            replace H : ((spec_SetValid.f k t101).bind fun t113 => (laws_FnSectionsValid.j0 k t101 t102 t107 (t112 != t113))) = some r := H
            have A15 := Aside0.mk A150
            clear A150
            replace H := Option.bind_eq_some_iff.mp H
            obtain ⟨t113, A160, H⟩ := H
            replace H : (laws_FnSectionsValid.j0 k t101 t102 t107 (t112 != t113)) = some r := H
            have A16 := Aside0.mk A160
            clear A160
            have H' := Aside0.mk H
            clear H
            go_wp2_with (first | ((with_reducible refine gate_callee (f := 10) rfl ?_); refine goesL_ (some 23) rfl rfl Try.func10 (by kernel_rfl) rfl #[.slice Ao7 t101.length co7, .slice Ao8 t102.length co8] rfl (by (try simp only [List.map_toArray, List.map_cons, List.map_nil]); first | done | rfl | (simp only [List.length_drop, List.length_take]; rfl)) ?_; (with_reducible refine (spec_SectionsValid.calls k _ _ t101 _ _ t102 t108 _ ?side1 ?side2 ?side3 ?side4 A10.out).mono ?_); (case side1 => repeat (first | exact (Kd.R_reads' HO104.out).2.2 | (with_reducible refine Kd.C_alloc ?_ _) | (with_reducible refine Kd.C_drewN ?_ _) | (with_reducible refine Kd.C_drew ?_))); (case side2 => exact (Kd.R_reads' HO104.out).2.1); (case side3 => repeat (first | exact (Kd.R_reads' HO106.out).2.2 | (with_reducible refine Kd.C_alloc ?_ _) | (with_reducible refine Kd.C_drewN ?_ _) | (with_reducible refine Kd.C_drew ?_))); (case side4 => exact (Kd.R_reads' HO106.out).2.1); rintro e w17 ⟨rfl, hb⟩; refine ⟨_, rfl, ?_⟩; have n0_ := Aside0.mk (Kd.R_below (by (with_reducible repeat (first | apply Kd.R_alloc | apply Kd.R_drewN | apply Kd.R_drew)); exact HO104.out) hb); have n1_ := Aside0.mk (Kd.R_below (by (with_reducible repeat (first | apply Kd.R_alloc | apply Kd.R_drewN | apply Kd.R_drew)); exact HO106.out) hb); have n2_ := Aside0.mk (below_step (by repeat (first | (with_reducible first | exact HB.out | apply below_alloc | apply pw_below_drewN | apply below_drew1) | exact HB.out)) hb); clear HO104; clear HO106; clear HB; have HO104 := n0_; have HO106 := n1_; have HB := n2_; clear n0_ n1_ n2_; (try clear hb); (try clear hb2); (try clear hk); (try clear hi)) | ((with_reducible refine gate_dst (N := 29) rfl ?_); (try (refine gate_guard (by rfl) ?_; dsimp only)); refine Kd.R_make k31 _ 31 rfl (N := 29) rfl 24 _ _ rfl (t101.length : Int) rfl rfl Try.underlying24 (.agg #[(.int .i64 0), (.int .i64 0), (.int .i64 0)]) 24 info31 rfl (by decide) (by omega) z31 (ok := fun _ => True) (okp := fun _ => True) (k31_mkM _ _ _ z31 ) (fun _ hk => hk) trivial (of_decide_eq_true (by first | (with_reducible assumption) | assumption)) (Nat.le_trans (Nat.mul_le_mul_right _ (of_decide_eq_true (by first | (with_reducible assumption) | assumption) : (t101.length : Int).toNat ≤ 11728124029610)) (by omega)) (Below.refl _ _) (Nat.le_refl _) ?_; intro v110 w18 ho19 hb hg_ hnew_; clear hg_ hnew_; (first | rw [← Ny109.out] at ho19 | (simp only [Int.reduceToNat] at ho19; rw [← Ny109.out] at ho19)); have n0_ := Aside0.mk (Kd.R_below (by (with_reducible repeat (first | apply Kd.R_alloc | apply Kd.R_drewN | apply Kd.R_drew)); exact HO104.out) hb); have n1_ := Aside0.mk (Kd.R_elder' (by (with_reducible repeat (first | apply Kd.R_alloc | apply Kd.R_drewN | apply Kd.R_drew)); exact HO106.out) (Kd.R_base ho19) hb); have n2_ := Aside0.mk (Kd.R_lower (Kd.R_new' ho19 (Kd.R_lt (by (with_reducible repeat (first | apply Kd.R_alloc | apply Kd.R_drewN | apply Kd.R_drew)); exact HO106.out))) (below_size (by repeat (first | (with_reducible first | exact HB.out | apply below_alloc | apply pw_below_drewN | apply below_drew1) | exact HB.out)))); have n3_ := Aside0.mk (below_step (by repeat (first | (with_reducible first | exact HB.out | apply below_alloc | apply pw_below_drewN | apply below_drew1) | exact HB.out)) hb); clear HO104; clear HO106; clear HB; have HO104 := n0_; have HO106 := n1_; have HO111 := n2_; have HB := n3_; clear n0_ n1_ n2_ n3_; clear hb ho19; obtain ⟨Ao20, co20, eo20⟩ := Kd.R_slice HO111.out; subst eo20) | (go_at_call 9; (with_reducible refine (impl_SectionsValid.calls k _ _ t101 _ _ y109 t112 _ ?side1 ?side2 ?side3 ?side4 A15.out).mono ?_); (case side1 => repeat (first | exact (Kd.R_reads' HO104.out).2.2 | (with_reducible refine Kd.C_alloc ?_ _) | (with_reducible refine Kd.C_drewN ?_ _) | (with_reducible refine Kd.C_drew ?_))); (case side2 => exact (Kd.R_reads' HO104.out).2.1); (case side3 => repeat (first | exact (Kd.R_reads' HO111.out).2.2 | (with_reducible refine Kd.C_alloc ?_ _) | (with_reducible refine Kd.C_drewN ?_ _) | (with_reducible refine Kd.C_drew ?_))); (case side4 => exact (Kd.R_reads' HO111.out).2.1); rintro e w21 ⟨rfl, hb⟩; have n0_ := Aside0.mk (Kd.R_below (by (with_reducible repeat (first | apply Kd.R_alloc | apply Kd.R_drewN | apply Kd.R_drew)); exact HO104.out) hb); have n1_ := Aside0.mk (Kd.R_below (by (with_reducible repeat (first | apply Kd.R_alloc | apply Kd.R_drewN | apply Kd.R_drew)); exact HO106.out) hb); have n2_ := Aside0.mk (Kd.R_below (by (with_reducible repeat (first | apply Kd.R_alloc | apply Kd.R_drewN | apply Kd.R_drew)); exact HO111.out) hb); have n3_ := Aside0.mk (below_step (by repeat (first | (with_reducible first | exact HB.out | apply below_alloc | apply pw_below_drewN | apply below_drew1) | exact HB.out)) hb); clear HO104; clear HO106; clear HO111; clear HB; have HO104 := n0_; have HO106 := n1_; have HO111 := n2_; have HB := n3_; clear n0_ n1_ n2_ n3_; (try clear hb); (try clear hb2); (try clear hk); (try clear hi)) | (go_at_call 11; (with_reducible refine (spec_SetValid.calls k _ _ t101 t113 _ ?side1 ?side2 A16.out).mono ?_); (case side1 => repeat (first | exact (Kd.R_reads' HO104.out).2.2 | (with_reducible refine Kd.C_alloc ?_ _) | (with_reducible refine Kd.C_drewN ?_ _) | (with_reducible refine Kd.C_drew ?_))); (case side2 => exact (Kd.R_reads' HO104.out).2.1); rintro e w22 ⟨rfl, hb⟩; have n0_ := Aside0.mk (Kd.R_below (by (with_reducible repeat (first | apply Kd.R_alloc | apply Kd.R_drewN | apply Kd.R_drew)); exact HO104.out) hb); have n1_ := Aside0.mk (Kd.R_below (by (with_reducible repeat (first | apply Kd.R_alloc | apply Kd.R_drewN | apply Kd.R_drew)); exact HO106.out) hb); have n2_ := Aside0.mk (Kd.R_below (by (with_reducible repeat (first | apply Kd.R_alloc | apply Kd.R_drewN | apply Kd.R_drew)); exact HO111.out) hb); have n3_ := Aside0.mk (below_step (by repeat (first | (with_reducible first | exact HB.out | apply below_alloc | apply pw_below_drewN | apply below_drew1) | exact HB.out)) hb); clear HO104; clear HO106; clear HO111; clear HB; have HO104 := n0_; have HO106 := n1_; have HO111 := n2_; have HB := n3_; clear n0_ n1_ n2_ n3_; (try clear hb); (try clear hb2); (try clear hk); (try clear hi)))
            go_meet
            case rel => exact ⟨_, ((t112 != t113)), (by first | rfl | (simp; done) | (simp [*]; done)), H', ⟨by first | omega | exact Nat.le_refl _⟩, ⟨by (with_reducible repeat (first | apply Kd.R_alloc | apply Kd.R_drewN | apply Kd.R_drew)); exact HO104.out⟩, ⟨by (with_reducible repeat (first | apply Kd.R_alloc | apply Kd.R_drewN | apply Kd.R_drew)); exact Kd.R_mono HO106.out (fun _ hk => trivial)⟩, ⟨by repeat (first | (with_reducible first | exact HB.out | apply below_alloc | apply pw_below_drewN | apply below_drew1) | exact HB.out)⟩⟩
          · rw [if_neg c14] at H
            exact absurd H (by simp)
        · rw [if_neg c13] at H
          exact absurd H (by simp)
    case rest =>
      clear HC5
      try clear c1
      try clear c2
      try clear c2b0
      try clear c2b1
      try clear p2
      try clear c3
      try clear c8
      try clear c9
      try clear c10
      try clear c11
      try clear c11b0
      try clear c11b1
      try clear c11b2
      try clear c13
      try clear c13b0
      try clear c13b1
      try clear c14
      try clear c14b0
      try clear c14b1
      obtain ⟨kq, x34_4, rfl, HA, HJ4, HO_3, HO_4, HB⟩ := hcut
      cases kq with
      | zero => exact absurd HA.out (by simp [laws_FnSectionsValid.j0])
      | succ kj4 =>
        have H := HA.out
        clear HA
        simp only [laws_FnSectionsValid.j0] at H
        by_cases c23 : x34_4 = true
        · subst c23
          have H1 : (some false) = some r := by rw [if_pos rfl] at H; exact H
          clear H
          have H := H1
          clear H1
          obtain rfl := Option.some.inj H
          go_wp2
          go_ret
          exact ⟨by first | rfl | (simp [errW_none, errW_some] <;> rfl) | (simp [*, errW_none, errW_some] <;> rfl), by repeat (first | (with_reducible first | exact HB.out | apply below_alloc | apply pw_below_drewN | apply below_drew1) | exact HB.out)⟩
        · replace c23 := Bool.eq_false_iff.mpr c23
          subst c23
          have H1 : (if t107 = true then (laws_FnSectionsValid.l0 kj4 t101 t102 0) else ((laws_alive.f).bind fun t114 => (some t114))) = some r := by rw [if_neg (show ¬ (false = true) by decide)] at H; exact H
          clear H
          have H := H1
          clear H1
          by_cases c24 : t107 = true
          · subst c24
            have H1 : (laws_FnSectionsValid.l0 kj4 t101 t102 0) = some r := by rw [if_pos rfl] at H; exact H
            clear H
            have H := H1
            clear H1
            have H' := Aside0.mk H
            clear H
            go_wp2
            go_loopg [6] kj4 (fun kq v6 w' => ∃ (x4_2 : List (S31)) (x6_2 : Int), v6 = .int .i64 x6_2 ∧ Aside0 (laws_FnSectionsValid.l0 kq t101 x4_2 x6_2 = some r) ∧ Aside0 (kq ≤ kj4) ∧ Aside0 (Kd.R k33 33 w' w.heap.size (fun _ => True) (.slice Ao7 t101.length co7) t101) ∧ Aside0 (Kd.R k31 31 w' w.heap.size (fun _ => True) (.slice Ao8 t102.length co8) x4_2) ∧ Aside0 (Below w.heap.size w w'))
            case atStart => exact ⟨(t102), (0), (by first | rfl | (simp; done) | (simp [*]; done)), H', ⟨Nat.le_refl _⟩, ⟨by (with_reducible repeat (first | apply Kd.R_alloc | apply Kd.R_drewN | apply Kd.R_drew)); exact HO_3.out⟩, ⟨by (with_reducible repeat (first | apply Kd.R_alloc | apply Kd.R_drewN | apply Kd.R_drew)); exact HO_4.out⟩, ⟨by repeat (first | (with_reducible first | exact HB.out | apply below_alloc | apply pw_below_drewN | apply below_drew1) | exact HB.out)⟩⟩
            case round =>
              clear H'
              try clear c1
              try clear c2
              try clear c2b0
              try clear c2b1
              try clear p2
              try clear c3
              try clear c8
              try clear c9
              try clear c10
              try clear c11
              try clear c11b0
              try clear c11b1
              try clear c11b2
              try clear c13
              try clear c13b0
              try clear c13b1
              try clear c14
              try clear c14b0
              try clear c14b1
              try clear c23
              try clear c24
              try clear p2
              obtain ⟨x4_2, x6_2, rfl, HA, HK2, HO_3, HO_4, HB⟩ := hrel
              have hl4_2 := (Kd.R_reads' HO_4.out).1
              rw [hl4_2] at HO_4
              (try simp only [hl4_2])
              (try simp only [hl4_2] at HO_3)
              cases gk with
              | zero => exact absurd HA.out (by simp [laws_FnSectionsValid.l0])
              | succ k2 =>
                have H := HA.out
                clear HA
                simp only [laws_FnSectionsValid.l0] at H
                by_cases c25 : x6_2 < (x4_2.length : Int)
                · rw [if_pos c25] at H
                  have c25b0 : decide (x6_2 < (x4_2.length : Int)) = true := decide_eq_true c25
                  clear c25
                  by_cases c26 : 0 ≤ x6_2
                  · rw [if_pos c26] at H
                    have c26b0 : decide (0 ≤ x6_2) = true := decide_eq_true c26
                    clear c26
                    by_cases c27 : ((rd_T31 x4_2 x6_2).f1) = 0
                    · rw [if_pos c27] at H
                      have c27b0 : (((rd_T31 x4_2 x6_2).f1) == 0) = true := beq_iff_eq.mpr c27
                      have c27b1 : (((rd_T31 x4_2 x6_2).f1) != 0) = false := bne_eq_false_iff_eq.mpr c27
                      clear c27
                      have H' := Aside0.mk H
                      clear H
                      have p115 : 0 ≤ (x6_2 : Int) := of_decide_eq_true (by first | (with_reducible assumption) | assumption)
                      have q115 : x6_2 < (x4_2.length : Int) := of_decide_eq_true (by first | (with_reducible assumption) | assumption)
                      obtain ⟨ad115, e115, hx115_0, hx115_1, hx115_2⟩ := at_T31 (Kd.R_reads' HO_4.out).2.2 x6_2 p115 q115
                      cases e115
                      replace p115 := eq_true p115
                      replace q115 := eq_true q115
                      go_wp2
                      (try simp only [← hl4_2])
                      go_roundg k2
                      case measure => have := HJ4.out; have := HK2.out; omega
                      case rel => exact ⟨(x4_2), (wrap64 (x6_2 + 1)), (by first | rfl | (simp; done) | (simp [*]; done)), H', ⟨by have := HJ4.out; have := HK2.out; omega⟩, ⟨by (try simp only [hl4_2]); (with_reducible repeat (first | apply Kd.R_alloc | apply Kd.R_drewN | apply Kd.R_drew)); exact HO_3.out⟩, ⟨by (try simp only [hl4_2]); (with_reducible repeat (first | apply Kd.R_alloc | apply Kd.R_drewN | apply Kd.R_drew)); exact HO_4.out⟩, ⟨by repeat (first | (with_reducible first | exact HB.out | apply below_alloc | apply pw_below_drewN | apply below_drew1) | exact HB.out)⟩⟩
                    · rw [if_neg c27] at H
                      have c27b0 : (((rd_T31 x4_2 x6_2).f1) == 0) = false := beq_eq_false_iff_ne.mpr c27
                      have c27b1 : (((rd_T31 x4_2 x6_2).f1) != 0) = true := bne_iff_ne.mpr c27
                      obtain ⟨y116, hy116⟩ : ∃ y_ : List (S31), y_ = (([] : List (S31))) := ⟨_, rfl⟩
                      replace H : (if y116.length + x4_2.length < 5864062014805 then ((some (y116 ++ x4_2 : List (S31))).bind fun y119 => (if x6_2 < (y119.length : Int) then ((some (y119.set (x6_2 : Int).toNat (⟨(rd_T31 y119 x6_2).f0, wrap64 (((rd_T31 x4_2 x6_2).f1) - 1), (rd_T31 y119 x6_2).f2⟩ : S31) : List (S31))).bind fun y123 => (if ((rd_T31 y123 x6_2).f1) = 0 then (laws_FnSectionsValid.j2 k2 t101 x4_2 x6_2 (y123.set (x6_2 : Int).toNat (⟨0, 0, 0⟩ : S31))) else (laws_FnSectionsValid.j2 k2 t101 x4_2 x6_2 y123))) else (none))) else (none)) = some r := by first | (rw [hy116]; with_reducible exact H) | (have H2_ := (Option.bind_some _ _).symm.trans H; rw [hy116]; with_reducible exact H2_) | (have H2_ := (Option.bind_some _ _).symm.trans H; with_reducible exact H2_) | with_reducible exact H | (rw [hy116]; exact H) | exact H
                      have Ny116 := Aside0.mk hy116
                      clear hy116
                      by_cases c28 : y116.length + x4_2.length < 5864062014805
                      · rw [if_pos c28] at H
                        have LMc28 := Aside0.mk c28
                        clear c28
                        obtain ⟨y119, hy119⟩ : ∃ y_ : List (S31), y_ = (y116 ++ x4_2) := ⟨_, rfl⟩
                        replace H : (if x6_2 < (y119.length : Int) then ((some (y119.set (x6_2 : Int).toNat (⟨(rd_T31 y119 x6_2).f0, wrap64 (((rd_T31 x4_2 x6_2).f1) - 1), (rd_T31 y119 x6_2).f2⟩ : S31) : List (S31))).bind fun y123 => (if ((rd_T31 y123 x6_2).f1) = 0 then (laws_FnSectionsValid.j2 k2 t101 x4_2 x6_2 (y123.set (x6_2 : Int).toNat (⟨0, 0, 0⟩ : S31))) else (laws_FnSectionsValid.j2 k2 t101 x4_2 x6_2 y123))) else (none)) = some r := by first | (rw [hy119]; with_reducible exact H) | (have H2_ := (Option.bind_some _ _).symm.trans H; rw [hy119]; with_reducible exact H2_) | (have H2_ := (Option.bind_some _ _).symm.trans H; with_reducible exact H2_) | with_reducible exact H | (rw [hy119]; exact H) | exact H
                        have Ny119 := Aside0.mk hy119
                        clear hy119
                        by_cases c29 : x6_2 < (y119.length : Int)
                        · rw [if_pos c29] at H
                          have c29b0 : decide (x6_2 < (y119.length : Int)) = true := decide_eq_true c29
                          clear c29
                          obtain ⟨y123, hy123⟩ : ∃ y_ : List (S31), y_ = (y119.set (x6_2 : Int).toNat (⟨(rd_T31 y119 x6_2).f0, wrap64 (((rd_T31 x4_2 x6_2).f1) - 1), (rd_T31 y119 x6_2).f2⟩ : S31)) := ⟨_, rfl⟩
                          replace H : (if ((rd_T31 y123 x6_2).f1) = 0 then (laws_FnSectionsValid.j2 k2 t101 x4_2 x6_2 (y123.set (x6_2 : Int).toNat (⟨0, 0, 0⟩ : S31))) else (laws_FnSectionsValid.j2 k2 t101 x4_2 x6_2 y123)) = some r := by first | (rw [hy123]; with_reducible exact H) | (have H2_ := (Option.bind_some _ _).symm.trans H; rw [hy123]; with_reducible exact H2_) | (have H2_ := (Option.bind_some _ _).symm.trans H; with_reducible exact H2_) | with_reducible exact H | (rw [hy123]; exact H) | exact H
                          have Ny123 := Aside0.mk hy123
                          clear hy123
                          have HC31 := Aside0.mk H
                          clear H
                          have p115 : 0 ≤ (x6_2 : Int) := of_decide_eq_true (by first | (with_reducible assumption) | assumption)
                          have q115 : x6_2 < (x4_2.length : Int) := of_decide_eq_true (by first | (with_reducible assumption) | assumption)
                          obtain ⟨ad115, e115, hx115_0, hx115_1, hx115_2⟩ := at_T31 (Kd.R_reads' HO_4.out).2.2 x6_2 p115 q115
                          cases e115
                          replace p115 := eq_true p115
                          replace q115 := eq_true q115
                          go_upto_if 68 with (first | ((with_reducible refine gate_dst (N := 50) rfl ?_); (try (refine gate_guard (by rfl) ?_; dsimp only)); refine Kd.R_lit k31 _ 31 ?hg (N := 50) ?hd (xs := ([] : List (S31))) (inner := []) (ok := fun _ => True) (okp := fun _ => True) ?hr ?hp (fun _ hk => hk) trivial (Below.refl _ _) (Nat.le_refl _) (by simp) ?_; (case hd => rfl); (case hg => rfl); (case hr => first | (go_simp; done) | (go_simp; rfl)); (case hp => exact (Reps.none _ _)); intro v117 w32 ho33 hb hg_ hnew_; clear hg_ hnew_; (first | rw [← Ny116.out] at ho33 | (simp only [Int.reduceToNat] at ho33; rw [← Ny116.out] at ho33)); have n0_ := Aside0.mk (Kd.R_below (by (with_reducible repeat (first | apply Kd.R_alloc | apply Kd.R_drewN | apply Kd.R_drew)); exact HO_3.out) hb); have n1_ := Aside0.mk (Kd.R_elder' (by (with_reducible repeat (first | apply Kd.R_alloc | apply Kd.R_drewN | apply Kd.R_drew)); exact HO_4.out) (Kd.R_base ho33) hb); have n2_ := Aside0.mk (Kd.R_lower (Kd.R_new' ho33 (Kd.R_lt (by (with_reducible repeat (first | apply Kd.R_alloc | apply Kd.R_drewN | apply Kd.R_drew)); exact HO_4.out))) (below_size (by repeat (first | (with_reducible first | exact HB.out | apply below_alloc | apply pw_below_drewN | apply below_drew1) | exact HB.out)))); have n3_ := Aside0.mk (below_step (by repeat (first | (with_reducible first | exact HB.out | apply below_alloc | apply pw_below_drewN | apply below_drew1) | exact HB.out)) hb); clear HO_3; clear HO_4; clear HB; have HO_3 := n0_; have HO_4 := n1_; have HO118 := n2_; have HB := n3_; clear n0_ n1_ n2_ n3_; clear hb ho33) | ((with_reducible refine gate_builtin (b := .append) (xs := #[.tmp 50, .tmp 51]) rfl ?_); (try (refine gate_guard (by rfl) ?_; dsimp only)); at_builtin; refine Kd.R_append_rows k31 (w0 := w) w.heap.size rfl (.tmp 50) (.tmp 51) 24 31 (.agg #[(.int .i64 0), (.int .i64 0), (.int .i64 0)]) 24 rfl Try.underlying24 info31 rfl (by decide) (by omega) v117 y116 x4_2 _ _ _ (fun k_ => some k_ ≠ (.slice (some ad115) x4_2.length co8 : Value).ownBlock) (fun _ => False) rfl rfl ?aO ?aR (fun _ _ h => h) (fun _ h => h.elim) ?aF ?aB ?aS ?aL ?_; (case aR => repeat (first | exact (Kd.R_reads' HO_4.out).2.2 | (with_reducible refine Kd.C_alloc ?_ _) | (with_reducible refine Kd.C_drewN ?_ _) | (with_reducible refine Kd.C_drew ?_))); (case aB => exact (by repeat (first | (with_reducible first | exact HB.out | apply below_alloc | apply pw_below_drewN | apply below_drew1) | exact HB.out))); (case aF => exact (fun k_ hk => Kd.fresh' (Kd.R_lt (by (with_reducible repeat (first | apply Kd.R_alloc | apply Kd.R_drewN | apply Kd.R_drew)); exact HO_4.out)) k_ hk)); (case aO => exact (by (with_reducible repeat (first | apply Kd.R_alloc | apply Kd.R_drewN | apply Kd.R_drew)); exact Kd.R_mono HO118.out (fun _ hk => hk.2))); (case aS => exact (below_size (by repeat (first | (with_reducible first | exact HB.out | apply below_alloc | apply pw_below_drewN | apply below_drew1) | exact HB.out)))); (case aL => have := LMc28.out; omega); intro v120 w34 ho hb hg hat; rw [← Ny119.out] at ho; have n0_ := Aside0.mk (Kd.R_over' (by (with_reducible repeat (first | apply Kd.R_alloc | apply Kd.R_drewN | apply Kd.R_drew)); exact HO_3.out) (Kd.R_typed (by (with_reducible repeat (first | apply Kd.R_alloc | apply Kd.R_drewN | apply Kd.R_drew)); exact HO118.out)) (by decide) hg); have n1_ := Aside0.mk (Kd.R_after (ok := (fun _ => True)) (by (with_reducible repeat (first | apply Kd.R_alloc | apply Kd.R_drewN | apply Kd.R_drew)); exact HO_4.out) hg hat); have n2_ := Aside0.mk (hb); have n3_ := Aside0.mk (ho); clear HO_3; clear HO_4; clear HB; clear HO118; have HO_3 := n0_; have HO_4 := n1_; have HB := n2_; have HO121 := n3_; clear n0_ n1_ n2_ n3_; clear ho hb hg hat; have p122 : 0 ≤ (x6_2 : Int) := of_decide_eq_true (by first | (with_reducible assumption) | assumption); have q122 : x6_2 < (x4_2.length : Int) := of_decide_eq_true (by first | (with_reducible assumption) | assumption); obtain ⟨ad122, e122, hx122_0, hx122_1, hx122_2⟩ := at_T31 (Kd.R_reads' HO_4.out).2.2 x6_2 p122 q122; obtain rfl : ad115 = ad122 := (by injection e122); replace p122 := eq_true p122; replace q122 := eq_true q122; have p30 : 0 ≤ (x6_2 : Int) := of_decide_eq_true (by first | (with_reducible assumption) | assumption); have q30 : (x6_2 : Int) < ((y119.length : Int) : Int) := of_decide_eq_true (by first | (with_reducible assumption) | assumption); obtain ⟨go30, co30, eo30, gb30, gl30, cl30, HG30⟩ := Kd.R_form HO121.out (by omega); (first | cases eo30 | (injection eo30 with ea_ en_ ec_; (first | subst ea_ | (injection ea_ with ea_; subst ea_)); subst ec_; clear en_)); have GB30 := Aside0.mk gb30; have GG30 := Aside0.mk HG30; clear gb30 gl30 HG30; obtain ⟨ce30, hcl30, hM30, hcc30, hfr30⟩ := Kd.R_elem HO121.out z31 (x6_2 : Int) p30 q30; obtain rfl := k31_openM hM30; have hx30_0 : w34.cell? ⟨go30, (x6_2 : Int).toNat * 3, none⟩ = some (.int .i64 ((rd_T31 y119 x6_2).f0)) := hcc30 0 _ rfl; have hx30_1 : w34.cell? ⟨go30, (x6_2 : Int).toNat * 3 + 1, none⟩ = some (.int .i64 ((rd_T31 y119 x6_2).f1)) := hcc30 1 _ rfl; have hx30_2 : w34.cell? ⟨go30, (x6_2 : Int).toNat * 3 + 2, none⟩ = some (.int .i64 ((rd_T31 y119 x6_2).f2)) := hcc30 2 _ rfl; have hf30_0 : w34.frozen? ⟨go30, (x6_2 : Int).toNat * 3, none⟩ = false := hfr30 0; have hf30_1 : w34.frozen? ⟨go30, (x6_2 : Int).toNat * 3 + 1, none⟩ = false := hfr30 1; have hf30_2 : w34.frozen? ⟨go30, (x6_2 : Int).toNat * 3 + 2, none⟩ = false := hfr30 2; clear hcl30 hcc30 hfr30 hM30; replace p30 := eq_true p30; replace q30 := eq_true q30; have HX35 := Aside0.mk (show Kd.R k31 31 w34 w.heap.size (fun k_ => some k_ ≠ (.slice (some ad115) x4_2.length co8 : Value).ownBlock) (.slice (some ⟨go30, 0, none⟩) y119.length co30) y119 from (by (with_reducible repeat (first | apply Kd.R_alloc | apply Kd.R_drewN | apply Kd.R_drew)); exact HO121.out)); obtain ⟨ce35, hcl35, hM35, hcc35, hfr35⟩ := Kd.R_elem HX35.out z31 (x6_2 : Int) (of_decide_eq_true (by first | (with_reducible assumption) | assumption)) (by have h_ : (x6_2 : Int) < ((y119.length : Int) : Int) := of_decide_eq_true (by first | (with_reducible assumption) | assumption); first | exact h_ | (have e_ := (Kd.R_reads' HO121.out).1; omega) | simpa using h_); obtain rfl := k31_openM hM35; have HP35 := Kd.R_seg HX35.out (x6_2 : Int) (of_decide_eq_true (by first | (with_reducible assumption) | assumption)) (by have h_ : (x6_2 : Int) < ((y119.length : Int) : Int) := of_decide_eq_true (by first | (with_reducible assumption) | assumption); first | exact h_ | (have e_ := (Kd.R_reads' HO121.out).1; omega) | simpa using h_) (seg := [.int .i64 (wrap64 (((rd_T31 x4_2 x6_2).f1) - 1))]) (j := 1) hcl35 hcc35 (show 2 ≤ 3 from by decide) (x' := (⟨(rd_T31 y119 x6_2).f0, wrap64 (((rd_T31 x4_2 x6_2).f1) - 1), (rd_T31 y119 x6_2).f2⟩ : S31)) (k31_mkM _ _ _ (⟨(rd_T31 y119 x6_2).f0, wrap64 (((rd_T31 x4_2 x6_2).f1) - 1), (rd_T31 y119 x6_2).f2⟩ : S31) ) (fun _ hk => hk); have hx35_1 := hcc35 1 _ rfl; (try simp only [show (k31).sz = 3 from rfl, Nat.mul_one, Nat.add_zero] at hx35_1); have hf35_1 := hfr35 1; (try simp only [show (k31).sz = 3 from rfl, Nat.mul_one, Nat.add_zero] at hf35_1); clear hcl35 hcc35 hfr35 hM35) | ((with_reducible refine gate_store (t := 3) (p := 62) rfl ?_); refine store_event (t := 3) (p := 62) (v := ?vo_w36) (w1 := (w34.setCell ⟨go30, (x6_2 : Int).toNat * 3 + 1, none⟩ (.int .i64 (wrap64 (((rd_T31 x4_2 x6_2).f1) - 1))))) ?hg ?ho ?hn ?hr ?_; (case ho => rfl); (case hg => rfl); (case hn => rfl); (case hr => first | (go_simp; done) | (go_simp; rfl)); intro w36 hw; have hg : w34.grownBy w36 (some go30) := (by rw [hw]; exact HP35.2); have hp_ : Kd.R k31 31 w36 w.heap.size (fun k_ => some k_ ≠ (.slice (some ad115) x4_2.length co8 : Value).ownBlock) (.slice (some ⟨go30, 0, none⟩) y119.length co30) y123 := (by rw [hw, Ny123.out]; exact HP35.1); clear HP35; have n0_ := Aside0.mk (Kd.R_over' (v := (.slice (some ⟨go30, 0, none⟩) y119.length co30)) (by (with_reducible repeat (first | apply Kd.R_alloc | apply Kd.R_drewN | apply Kd.R_drew)); exact HO_3.out) (Kd.R_typed HO121.out) (by decide) hg); have n1_ := Aside0.mk (Kd.R_after (v := (.slice (some ⟨go30, 0, none⟩) y119.length co30)) (v1 := (.slice (some ⟨go30, 0, none⟩) y119.length co30)) (ok := (fun _ => True)) (by (with_reducible repeat (first | apply Kd.R_alloc | apply Kd.R_drewN | apply Kd.R_drew)); exact HO_4.out) hg (.inl rfl)); have n2_ := Aside0.mk (hp_); have n3_ := Aside0.mk ((by rw [hw]; exact below_set (HB.out) GB30.out : Below w.heap.size w w36)); clear HO_3; clear HO_4; clear HO121; clear HB; have HO_3 := n0_; have HO_4 := n1_; have HO121 := n2_; have HB := n3_; clear n0_ n1_ n2_ n3_; clear hg hw hp_; have p124 : 0 ≤ (x6_2 : Int) := of_decide_eq_true (by first | (with_reducible assumption) | assumption); have q124 : x6_2 < (y123.length : Int) := (by have h_ : (x6_2 : Int) < ((y119.length : Int) : Int) := of_decide_eq_true (by first | (with_reducible assumption) | assumption); first | (have e_ := (Kd.R_reads' HO121.out).1; omega) | simpa only [Ny123.out, List.length_set] using h_); have ql124 : ((x6_2 : Int) < ((y119.length : Int) : Int)) = True := eq_true (of_decide_eq_true (by first | (with_reducible assumption) | assumption)); obtain ⟨ad124, e124, hx124_0, hx124_1, hx124_2⟩ := at_T31 (Kd.R_reads' HO121.out).2.2 x6_2 p124 q124; obtain rfl : (⟨go30, 0, none⟩ : Addr) = ad124 := (by injection e124); (first | simp only [add_plain] at hx124_0 | simp only [add_at] at hx124_0 | simp only [Addr.add, Nat.zero_add] at hx124_0 | skip); (first | simp only [add_plain] at hx124_1 | simp only [add_at] at hx124_1 | simp only [Addr.add, Nat.zero_add] at hx124_1 | skip); (first | simp only [add_plain] at hx124_2 | simp only [add_at] at hx124_2 | simp only [Addr.add, Nat.zero_add] at hx124_2 | skip); replace p124 := eq_true p124; replace q124 := eq_true q124))
                          (try simp only [Act.put, List.setIfInBounds_toArray, List.set_cons_zero, List.set_cons_succ])
                          go_cut [] (fun wc => ∃ (kq : Nat) (x7_30 : List (S31)), Aside0 (laws_FnSectionsValid.j2 kq t101 x4_2 x6_2 x7_30 = some r) ∧ Aside0 (kq ≤ k2) ∧ Aside0 (Kd.R k33 33 wc w.heap.size (fun _ => True) (.slice Ao7 t101.length co7) t101) ∧ Aside0 (Kd.R k31 31 wc w.heap.size (fun k_ => some k_ ≠ ((.slice (some ⟨go30, 0, none⟩) y119.length co30) : Value).ownBlock) (.slice (some ad115) x4_2.length co8) x4_2) ∧ Aside0 (Kd.R k31 31 wc w.heap.size (fun k_ => some k_ ≠ ((.slice (some ad115) x4_2.length co8) : Value).ownBlock) (.slice (some ⟨go30, 0, none⟩) y119.length co30) x7_30) ∧ Aside0 (Below w.heap.size w wc))
                          case first =>
                            have H := HC31.out
                            clear HC31
                            by_cases c37 : ((rd_T31 y123 x6_2).f1) = 0
                            · rw [if_pos c37] at H
                              have c37b0 : (((rd_T31 y123 x6_2).f1) == 0) = true := beq_iff_eq.mpr c37
                              have c37b1 : (((rd_T31 y123 x6_2).f1) != 0) = false := bne_eq_false_iff_eq.mpr c37
                              clear c37
                              (first | rw [c37b0] | (simp only [i64_w, i32_w]; rw [c37b0]) | skip)
                              obtain ⟨y125, hy125⟩ : ∃ y_ : List (S31), y_ = (y123.set (x6_2 : Int).toNat (⟨0, 0, 0⟩ : S31)) := ⟨_, rfl⟩
                              replace H : (laws_FnSectionsValid.j2 k2 t101 x4_2 x6_2 y125) = some r := by first | (rw [hy125]; with_reducible exact H) | (have H2_ := (Option.bind_some _ _).symm.trans H; rw [hy125]; with_reducible exact H2_) | (have H2_ := (Option.bind_some _ _).symm.trans H; with_reducible exact H2_) | with_reducible exact H | (rw [hy125]; exact H) | exact H
                              have Ny125 := Aside0.mk hy125
                              clear hy125
                              have H' := Aside0.mk H
                              clear H
                              have p38 : 0 ≤ (x6_2 : Int) := of_decide_eq_true (by first | (with_reducible assumption) | assumption)
                              have q38 : (x6_2 : Int) < ((y119.length : Int) : Int) := of_decide_eq_true (by first | (with_reducible assumption) | assumption)
                              obtain ⟨ce38, hcl38, hM38, hcc38, hfr38⟩ := Kd.R_elem HO121.out z31 (x6_2 : Int) p38 q38
                              obtain rfl := k31_openM hM38
                              have hx38_0 : w36.cell? ⟨go30, (x6_2 : Int).toNat * 3, none⟩ = some (.int .i64 ((rd_T31 y123 x6_2).f0)) := hcc38 0 _ rfl
                              have hx38_1 : w36.cell? ⟨go30, (x6_2 : Int).toNat * 3 + 1, none⟩ = some (.int .i64 ((rd_T31 y123 x6_2).f1)) := hcc38 1 _ rfl
                              have hx38_2 : w36.cell? ⟨go30, (x6_2 : Int).toNat * 3 + 2, none⟩ = some (.int .i64 ((rd_T31 y123 x6_2).f2)) := hcc38 2 _ rfl
                              have hf38_0 : w36.frozen? ⟨go30, (x6_2 : Int).toNat * 3, none⟩ = false := hfr38 0
                              have hf38_1 : w36.frozen? ⟨go30, (x6_2 : Int).toNat * 3 + 1, none⟩ = false := hfr38 1
                              have hf38_2 : w36.frozen? ⟨go30, (x6_2 : Int).toNat * 3 + 2, none⟩ = false := hfr38 2
                              clear hcl38 hcc38 hfr38 hM38
                              replace p38 := eq_true p38
                              replace q38 := eq_true q38
                              have HX39 := Aside0.mk (show Kd.R k31 31 w36 w.heap.size (fun k_ => some k_ ≠ (.slice (some ad115) x4_2.length co8 : Value).ownBlock) (.slice (some ⟨go30, 0, none⟩) y119.length co30) y123 from (by (with_reducible repeat (first | apply Kd.R_alloc | apply Kd.R_drewN | apply Kd.R_drew)); exact HO121.out))
                              obtain ⟨ce39, hcl39, hM39, hcc39, hfr39⟩ := Kd.R_elem HX39.out z31 (x6_2 : Int) (of_decide_eq_true (by first | (with_reducible assumption) | assumption)) (by have h_ : (x6_2 : Int) < ((y119.length : Int) : Int) := of_decide_eq_true (by first | (with_reducible assumption) | assumption); first | exact h_ | (have e_ := (Kd.R_reads' HO121.out).1; omega) | simpa using h_)
                              obtain rfl := k31_openM hM39
                              have HP39 := Kd.R_seg HX39.out (x6_2 : Int) (of_decide_eq_true (by first | (with_reducible assumption) | assumption)) (by have h_ : (x6_2 : Int) < ((y119.length : Int) : Int) := of_decide_eq_true (by first | (with_reducible assumption) | assumption); first | exact h_ | (have e_ := (Kd.R_reads' HO121.out).1; omega) | simpa using h_) (seg := [.int .i64 0, .int .i64 0, .int .i64 0]) (j := 0) hcl39 hcc39 (show 3 ≤ 3 from by decide) (x' := (⟨0, 0, 0⟩ : S31)) (k31_mkM _ _ _ (⟨0, 0, 0⟩ : S31) ) (fun _ hk => hk)
                              have hx39_0 := hcc39 0 _ rfl
                              (try simp only [show (k31).sz = 3 from rfl, Nat.mul_one, Nat.add_zero] at hx39_0)
                              have hf39_0 := hfr39 0
                              (try simp only [show (k31).sz = 3 from rfl, Nat.mul_one, Nat.add_zero] at hf39_0)
                              have hx39_1 := hcc39 1 _ rfl
                              (try simp only [show (k31).sz = 3 from rfl, Nat.mul_one, Nat.add_zero] at hx39_1)
                              have hf39_1 := hfr39 1
                              (try simp only [show (k31).sz = 3 from rfl, Nat.mul_one, Nat.add_zero] at hf39_1)
                              have hx39_2 := hcc39 2 _ rfl
                              (try simp only [show (k31).sz = 3 from rfl, Nat.mul_one, Nat.add_zero] at hx39_2)
                              have hf39_2 := hfr39 2
                              (try simp only [show (k31).sz = 3 from rfl, Nat.mul_one, Nat.add_zero] at hf39_2)
                              clear hcl39 hcc39 hfr39 hM39
                              go_wp2_with (first | ((with_reducible refine gate_store (t := 31) (p := 72) rfl ?_); refine store_event (t := 31) (p := 72) (v := ?vo_w40) (w1 := (((w36.setCell ⟨go30, (x6_2 : Int).toNat * 3, none⟩ (.int .i64 0)).setCell ⟨go30, (x6_2 : Int).toNat * 3 + 1, none⟩ (.int .i64 0)).setCell ⟨go30, (x6_2 : Int).toNat * 3 + 2, none⟩ (.int .i64 0))) ?hg ?ho ?hn ?hr ?_; (case ho => rfl); (case hg => rfl); (case hn => rfl); (case hr => first | (go_simp; done) | (go_simp; rfl)); intro w40 hw; have hg : w36.grownBy w40 (some go30) := (by rw [hw]; exact HP39.2); have hp_ : Kd.R k31 31 w40 w.heap.size (fun k_ => some k_ ≠ (.slice (some ad115) x4_2.length co8 : Value).ownBlock) (.slice (some ⟨go30, 0, none⟩) y119.length co30) y125 := (by rw [hw, Ny125.out]; exact HP39.1); clear HP39; have n0_ := Aside0.mk (Kd.R_over' (v := (.slice (some ⟨go30, 0, none⟩) y119.length co30)) (by (with_reducible repeat (first | apply Kd.R_alloc | apply Kd.R_drewN | apply Kd.R_drew)); exact HO_3.out) (Kd.R_typed HO121.out) (by decide) hg); have n1_ := Aside0.mk (Kd.R_after (v := (.slice (some ⟨go30, 0, none⟩) y119.length co30)) (v1 := (.slice (some ⟨go30, 0, none⟩) y119.length co30)) (ok := (fun _ => True)) (by (with_reducible repeat (first | apply Kd.R_alloc | apply Kd.R_drewN | apply Kd.R_drew)); exact HO_4.out) hg (.inl rfl)); have n2_ := Aside0.mk (hp_); have n3_ := Aside0.mk ((by rw [hw]; exact below_set (below_set (below_set (HB.out) GB30.out) GB30.out) GB30.out : Below w.heap.size w w40)); clear HO_3; clear HO_4; clear HO121; clear HB; have HO_3 := n0_; have HO_4 := n1_; have HO121 := n2_; have HB := n3_; clear n0_ n1_ n2_ n3_; clear hg hw hp_))
                              go_meet
                              case rel => exact ⟨_, (y125), H', ⟨by have := HJ4.out; have := HK2.out; first | omega | exact Nat.le_refl _⟩, ⟨by (try simp only [hl4_2]); (with_reducible repeat (first | apply Kd.R_alloc | apply Kd.R_drewN | apply Kd.R_drew)); exact HO_3.out⟩, ⟨by (try simp only [hl4_2]); (with_reducible repeat (first | apply Kd.R_alloc | apply Kd.R_drewN | apply Kd.R_drew)); exact Kd.R_mono HO_4.out (fun _ hk => hk.2)⟩, ⟨by (try simp only [hl4_2]); (with_reducible repeat (first | apply Kd.R_alloc | apply Kd.R_drewN | apply Kd.R_drew)); exact HO121.out⟩, ⟨by repeat (first | (with_reducible first | exact HB.out | apply below_alloc | apply pw_below_drewN | apply below_drew1) | exact HB.out)⟩⟩
                            · rw [if_neg c37] at H
                              have c37b0 : (((rd_T31 y123 x6_2).f1) == 0) = false := beq_eq_false_iff_ne.mpr c37
                              have c37b1 : (((rd_T31 y123 x6_2).f1) != 0) = true := bne_iff_ne.mpr c37
                              (first | rw [c37b0] | (simp only [i64_w, i32_w]; rw [c37b0]) | skip)
                              have H' := Aside0.mk H
                              clear H
                              go_wp2
                              go_meet
                              case rel => exact ⟨_, (y123), H', ⟨by have := HJ4.out; have := HK2.out; first | omega | exact Nat.le_refl _⟩, ⟨by (try simp only [hl4_2]); (with_reducible repeat (first | apply Kd.R_alloc | apply Kd.R_drewN | apply Kd.R_drew)); exact HO_3.out⟩, ⟨by (try simp only [hl4_2]); (with_reducible repeat (first | apply Kd.R_alloc | apply Kd.R_drewN | apply Kd.R_drew)); exact Kd.R_mono HO_4.out (fun _ hk => hk.2)⟩, ⟨by (try simp only [hl4_2]); (with_reducible repeat (first | apply Kd.R_alloc | apply Kd.R_drewN | apply Kd.R_drew)); exact HO121.out⟩, ⟨by repeat (first | (with_reducible first | exact HB.out | apply below_alloc | apply pw_below_drewN | apply below_drew1) | exact HB.out)⟩⟩
                          case rest =>
                            clear HC31
                            try clear c1
                            try clear p1
                            try clear q1
                            try clear hx1
                            try clear c2
                            try clear c2b0
                            try clear c2b1
                            try clear p2
                            try clear c3
                            try clear p3
                            try clear q3
                            try clear hx3
                            try clear hf3
                            try clear p6
                            try clear c8
                            try clear c9
                            try clear c10
                            try clear c11
                            try clear c11b0
                            try clear c11b1
                            try clear c11b2
                            try clear p11
                            try clear q11
                            try clear hx11
                            try clear p12
                            try clear q12
                            try clear hx12
                            try clear c13
                            try clear c13b0
                            try clear c13b1
                            try clear c14
                            try clear c14b0
                            try clear c14b1
                            try clear c23
                            try clear c24
                            try clear c25
                            try clear c25b0
                            try clear c26
                            try clear c26b0
                            try clear c27
                            try clear c27b0
                            try clear c27b1
                            try clear c28
                            try clear c29
                            try clear c29b0
                            try clear c30
                            try clear p30
                            try clear q30
                            try clear hx30
                            try clear hf30
                            try clear c35
                            try clear hx35
                            try clear hf35
                            try clear c37
                            try clear c37b0
                            try clear c37b1
                            try clear c38
                            try clear p38
                            try clear q38
                            try clear hx38
                            try clear hf38
                            try clear c39
                            try clear hx39
                            try clear hf39
                            try clear hx115_0
                            try clear hx115_1
                            try clear hx115_2
                            try clear hx122_0
                            try clear hx122_1
                            try clear hx122_2
                            try clear hx124_0
                            try clear hx124_1
                            try clear hx124_2
                            try clear hx30_0
                            try clear hx30_1
                            try clear hx30_2
                            try clear hx35_1
                            try clear hx38_0
                            try clear hx38_1
                            try clear hx38_2
                            try clear hx39_0
                            try clear hx39_1
                            try clear hx39_2
                            try clear p115
                            try clear p122
                            try clear p124
                            try clear p2
                            try clear p30
                            try clear p38
                            try clear q115
                            try clear q122
                            try clear q124
                            try clear q30
                            try clear q38
                            obtain ⟨kq, x7_30, HA, HJ30, HO_3, HO_4, HO_7, HB⟩ := hcut
                            have hl7_30 := (Kd.R_reads' HO_7.out).1
                            rw [hl7_30] at HO_7
                            (try simp only [hl7_30])
                            (try simp only [hl7_30] at HO_3)
                            (try simp only [hl7_30] at HO_4)
                            cases kq with
                            | zero => exact absurd HA.out (by simp [laws_FnSectionsValid.j2])
                            | succ kj30 =>
                              have H := HA.out
                              clear HA
                              simp only [laws_FnSectionsValid.j2] at H
                              obtain ⟨y126, hy126⟩ : ∃ y_ : List (S31), y_ = (([] : List (S31))) := ⟨_, rfl⟩
                              replace H : (if y126.length + x4_2.length < 5864062014805 then ((some (y126 ++ x4_2 : List (S31))).bind fun y129 => (if 0 ≤ x6_2 then (if x6_2 < (t101.length : Int) then (if x6_2 < (x4_2.length : Int) then (if x6_2 < (y129.length : Int) then ((impl_SectionsValid.f kj30 t101 x7_30).bind fun t135 => (if t135 = true then ((impl_SectionsValid.f kj30 t101 (y129.set (x6_2 : Int).toNat (⟨(rd_T31 y129 x6_2).f0, wrap64 ((wrap64 (((rd_T33 t101 x6_2).f0) - ((rd_T31 x4_2 x6_2).f0))) + 1), (rd_T31 y129 x6_2).f2⟩ : S31))).bind fun t136 => (if t136 = true then (some false) else (laws_FnSectionsValid.l0 kj30 t101 x4_2 (wrap64 (x6_2 + 1))))) else (some false))) else (none)) else (none)) else (none)) else (none))) else (none)) = some r := by first | (rw [hy126]; with_reducible exact H) | (have H2_ := (Option.bind_some _ _).symm.trans H; rw [hy126]; with_reducible exact H2_) | (have H2_ := (Option.bind_some _ _).symm.trans H; with_reducible exact H2_) | with_reducible exact H | (rw [hy126]; exact H) | exact H
                              have Ny126 := Aside0.mk hy126
                              clear hy126
                              by_cases c41 : y126.length + x4_2.length < 5864062014805
                              · rw [if_pos c41] at H
                                have LMc41 := Aside0.mk c41
                                clear c41
                                obtain ⟨y129, hy129⟩ : ∃ y_ : List (S31), y_ = (y126 ++ x4_2) := ⟨_, rfl⟩
                                replace H : (if 0 ≤ x6_2 then (if x6_2 < (t101.length : Int) then (if x6_2 < (x4_2.length : Int) then (if x6_2 < (y129.length : Int) then ((impl_SectionsValid.f kj30 t101 x7_30).bind fun t135 => (if t135 = true then ((impl_SectionsValid.f kj30 t101 (y129.set (x6_2 : Int).toNat (⟨(rd_T31 y129 x6_2).f0, wrap64 ((wrap64 (((rd_T33 t101 x6_2).f0) - ((rd_T31 x4_2 x6_2).f0))) + 1), (rd_T31 y129 x6_2).f2⟩ : S31))).bind fun t136 => (if t136 = true then (some false) else (laws_FnSectionsValid.l0 kj30 t101 x4_2 (wrap64 (x6_2 + 1))))) else (some false))) else (none)) else (none)) else (none)) else (none)) = some r := by first | (rw [hy129]; with_reducible exact H) | (have H2_ := (Option.bind_some _ _).symm.trans H; rw [hy129]; with_reducible exact H2_) | (have H2_ := (Option.bind_some _ _).symm.trans H; with_reducible exact H2_) | with_reducible exact H | (rw [hy129]; exact H) | exact H
                                have Ny129 := Aside0.mk hy129
                                clear hy129
                                by_cases c42 : 0 ≤ x6_2
                                · rw [if_pos c42] at H
                                  have c42b0 : decide (0 ≤ x6_2) = true := decide_eq_true c42
                                  clear c42
                                  by_cases c43 : x6_2 < (t101.length : Int)
                                  · rw [if_pos c43] at H
                                    have c43b0 : decide (x6_2 < (t101.length : Int)) = true := decide_eq_true c43
                                    clear c43
                                    by_cases c44 : x6_2 < (x4_2.length : Int)
                                    · rw [if_pos c44] at H
                                      have c44b0 : decide (x6_2 < (x4_2.length : Int)) = true := decide_eq_true c44
                                      clear c44
                                      by_cases c45 : x6_2 < (y129.length : Int)
                                      · rw [if_pos c45] at H
                                        have c45b0 : decide (x6_2 < (y129.length : Int)) = true := decide_eq_true c45
                                        clear c45
                                        obtain ⟨y134, hy134⟩ : ∃ y_ : List (S31), y_ = (y129.set (x6_2 : Int).toNat (⟨(rd_T31 y129 x6_2).f0, wrap64 ((wrap64 (((rd_T33 t101 x6_2).f0) - ((rd_T31 x4_2 x6_2).f0))) + 1), (rd_T31 y129 x6_2).f2⟩ : S31)) := ⟨_, rfl⟩
                                        replace H : ((impl_SectionsValid.f kj30 t101 x7_30).bind fun t135 => (if t135 = true then ((impl_SectionsValid.f kj30 t101 y134).bind fun t136 => (if t136 = true then (some false) else (laws_FnSectionsValid.l0 kj30 t101 x4_2 (wrap64 (x6_2 + 1))))) else (some false))) = some r := by first | (rw [hy134]; with_reducible exact H) | (have H2_ := (Option.bind_some _ _).symm.trans H; rw [hy134]; with_reducible exact H2_) | (have H2_ := (Option.bind_some _ _).symm.trans H; with_reducible exact H2_) | with_reducible exact H | (rw [hy134]; exact H) | exact H
                                        have Ny134 := Aside0.mk hy134
                                        clear hy134
                                        replace H := Option.bind_eq_some_iff.mp H
                                        obtain ⟨t135, A470, H⟩ := H
                                        replace H : (if t135 = true then ((impl_SectionsValid.f kj30 t101 y134).bind fun t136 => (if t136 = true then (some false) else (laws_FnSectionsValid.l0 kj30 t101 x4_2 (wrap64 (x6_2 + 1))))) else (some false)) = some r := H
                                        have A47 := Aside0.mk A470
                                        clear A470
                                        by_cases c48 : t135 = true
                                        · subst c48
                                          have H1 : ((impl_SectionsValid.f kj30 t101 y134).bind fun t136 => (if t136 = true then (some false) else (laws_FnSectionsValid.l0 kj30 t101 x4_2 (wrap64 (x6_2 + 1))))) = some r := by rw [if_pos rfl] at H; exact H
                                          clear H
                                          have H := H1
                                          clear H1
                                          replace H := Option.bind_eq_some_iff.mp H
                                          obtain ⟨t136, A490, H⟩ := H
                                          replace H : (if t136 = true then (some false) else (laws_FnSectionsValid.l0 kj30 t101 x4_2 (wrap64 (x6_2 + 1)))) = some r := H
                                          have A49 := Aside0.mk A490
                                          clear A490
                                          by_cases c50 : t136 = true
                                          · subst c50
                                            have H1 : (some false) = some r := by rw [if_pos rfl] at H; exact H
                                            clear H
                                            have H := H1
                                            clear H1
                                            obtain rfl := Option.some.inj H
                                            try go_wp2_with (first | ((with_reducible refine gate_dst (N := 73) rfl ?_); (try (refine gate_guard (by rfl) ?_; dsimp only)); refine Kd.R_lit k31 _ 31 ?hg (N := 73) ?hd (xs := ([] : List (S31))) (inner := []) (ok := fun _ => True) (okp := fun _ => True) ?hr ?hp (fun _ hk => hk) trivial (Below.refl _ _) (Nat.le_refl _) (by simp) ?_; (case hd => rfl); (case hg => rfl); (case hr => first | (go_simp; done) | (go_simp; rfl)); (case hp => exact (Reps.none _ _)); intro v127 w51 ho52 hb hg_ hnew_; clear hg_ hnew_; (first | rw [← Ny126.out] at ho52 | (simp only [Int.reduceToNat] at ho52; rw [← Ny126.out] at ho52)); have n0_ := Aside0.mk (Kd.R_below (by (with_reducible repeat (first | apply Kd.R_alloc | apply Kd.R_drewN | apply Kd.R_drew)); exact HO_3.out) hb); have n1_ := Aside0.mk (Kd.R_elder' (by (with_reducible repeat (first | apply Kd.R_alloc | apply Kd.R_drewN | apply Kd.R_drew)); exact HO_4.out) (Kd.R_base ho52) hb); have n2_ := Aside0.mk (Kd.R_elder' (by (with_reducible repeat (first | apply Kd.R_alloc | apply Kd.R_drewN | apply Kd.R_drew)); exact HO_7.out) (Kd.R_base ho52) hb); have n3_ := Aside0.mk (Kd.R_lower (Kd.R_new' (Kd.R_new' ho52 (Kd.R_lt (by (with_reducible repeat (first | apply Kd.R_alloc | apply Kd.R_drewN | apply Kd.R_drew)); exact HO_4.out))) (Kd.R_lt (by (with_reducible repeat (first | apply Kd.R_alloc | apply Kd.R_drewN | apply Kd.R_drew)); exact HO_7.out))) (below_size (by repeat (first | (with_reducible first | exact HB.out | apply below_alloc | apply pw_below_drewN | apply below_drew1) | exact HB.out)))); have n4_ := Aside0.mk (below_step (by repeat (first | (with_reducible first | exact HB.out | apply below_alloc | apply pw_below_drewN | apply below_drew1) | exact HB.out)) hb); clear HO_3; clear HO_4; clear HO_7; clear HB; have HO_3 := n0_; have HO_4 := n1_; have HO_7 := n2_; have HO128 := n3_; have HB := n4_; clear n0_ n1_ n2_ n3_ n4_; clear hb ho52) | ((with_reducible refine gate_builtin (b := .append) (xs := #[.tmp 73, .tmp 74]) rfl ?_); (try (refine gate_guard (by rfl) ?_; dsimp only)); at_builtin; refine Kd.R_append_rows k31 (w0 := w) w.heap.size rfl (.tmp 73) (.tmp 74) 24 31 (.agg #[(.int .i64 0), (.int .i64 0), (.int .i64 0)]) 24 rfl Try.underlying24 info31 rfl (by decide) (by omega) v127 y126 x4_2 _ _ _ (fun k_ => some k_ ≠ (.slice (some ad115) x4_2.length co8 : Value).ownBlock ∧ some k_ ≠ (.slice (some ⟨go30, 0, none⟩) x7_30.length co30 : Value).ownBlock) (fun _ => False) rfl rfl ?aO ?aR (fun _ _ h => h) (fun _ h => h.elim) ?aF ?aB ?aS ?aL ?_; (case aR => repeat (first | exact (Kd.R_reads' HO_4.out).2.2 | (with_reducible refine Kd.C_alloc ?_ _) | (with_reducible refine Kd.C_drewN ?_ _) | (with_reducible refine Kd.C_drew ?_))); (case aB => exact (by repeat (first | (with_reducible first | exact HB.out | apply below_alloc | apply pw_below_drewN | apply below_drew1) | exact HB.out))); (case aF => exact (fun k_ hk => ⟨Kd.fresh' (Kd.R_lt (by (with_reducible repeat (first | apply Kd.R_alloc | apply Kd.R_drewN | apply Kd.R_drew)); exact HO_4.out)) k_ hk, Kd.fresh' (Kd.R_lt (by (with_reducible repeat (first | apply Kd.R_alloc | apply Kd.R_drewN | apply Kd.R_drew)); exact HO_7.out)) k_ hk⟩)); (case aO => exact (by (with_reducible repeat (first | apply Kd.R_alloc | apply Kd.R_drewN | apply Kd.R_drew)); exact Kd.R_mono HO128.out (fun _ hk => ⟨hk.1.2, hk.2⟩))); (case aS => exact (below_size (by repeat (first | (with_reducible first | exact HB.out | apply below_alloc | apply pw_below_drewN | apply below_drew1) | exact HB.out)))); (case aL => have := LMc41.out; omega); intro v130 w53 ho hb hg hat; rw [← Ny129.out] at ho; have n0_ := Aside0.mk (Kd.R_over' (by (with_reducible repeat (first | apply Kd.R_alloc | apply Kd.R_drewN | apply Kd.R_drew)); exact HO_3.out) (Kd.R_typed (by (with_reducible repeat (first | apply Kd.R_alloc | apply Kd.R_drewN | apply Kd.R_drew)); exact HO128.out)) (by decide) hg); have n1_ := Aside0.mk (Kd.R_after (ok := (fun k_ => some k_ ≠ (.slice (some ⟨go30, 0, none⟩) x7_30.length co30 : Value).ownBlock)) (by (with_reducible repeat (first | apply Kd.R_alloc | apply Kd.R_drewN | apply Kd.R_drew)); exact HO_4.out) hg hat); have n2_ := Aside0.mk (Kd.R_after (ok := (fun k_ => some k_ ≠ (.slice (some ad115) x4_2.length co8 : Value).ownBlock)) (by (with_reducible repeat (first | apply Kd.R_alloc | apply Kd.R_drewN | apply Kd.R_drew)); exact HO_7.out) hg hat); have n3_ := Aside0.mk (hb); have n4_ := Aside0.mk (ho); clear HO_3; clear HO_4; clear HO_7; clear HB; clear HO128; have HO_3 := n0_; have HO_4 := n1_; have HO_7 := n2_; have HB := n3_; have HO131 := n4_; clear n0_ n1_ n2_ n3_ n4_; clear ho hb hg hat))
                                            have n0_ := Aside0.mk (Kd.R_drew HO_3.out)
                                            have n1_ := Aside0.mk (Kd.R_drew HO_4.out)
                                            have n2_ := Aside0.mk (Kd.R_drew HO_7.out)
                                            have n3_ := Aside0.mk (Kd.R_drew HO131.out)
                                            have n4_ := Aside0.mk (below_drew1 HB.out)
                                            clear HO_3
                                            clear HO_4
                                            clear HO_7
                                            clear HO131
                                            clear HB
                                            have HO_3 := n0_
                                            have HO_4 := n1_
                                            have HO_7 := n2_
                                            have HO131 := n3_
                                            have HB := n4_
                                            clear n0_ n1_ n2_ n3_ n4_
                                            have p132 : 0 ≤ (x6_2 : Int) := of_decide_eq_true (by first | (with_reducible assumption) | assumption)
                                            have q132 : x6_2 < (t101.length : Int) := of_decide_eq_true (by first | (with_reducible assumption) | assumption)
                                            obtain ⟨ad132, e132, hx132_0, hx132_1, hx132_2⟩ := at_T33 (Kd.R_reads' HO_3.out).2.2 x6_2 p132 q132
                                            cases e132
                                            replace p132 := eq_true p132
                                            replace q132 := eq_true q132
                                            have p133 : 0 ≤ (x6_2 : Int) := of_decide_eq_true (by first | (with_reducible assumption) | assumption)
                                            have q133 : x6_2 < (x4_2.length : Int) := of_decide_eq_true (by first | (with_reducible assumption) | assumption)
                                            obtain ⟨ad133, e133, hx133_0, hx133_1, hx133_2⟩ := at_T31 (Kd.R_reads' HO_4.out).2.2 x6_2 p133 q133
                                            obtain rfl : ad115 = ad133 := (by injection e133)
                                            replace p133 := eq_true p133
                                            replace q133 := eq_true q133
                                            have p46 : 0 ≤ (x6_2 : Int) := of_decide_eq_true (by first | (with_reducible assumption) | assumption)
                                            have q46 : (x6_2 : Int) < ((y129.length : Int) : Int) := of_decide_eq_true (by first | (with_reducible assumption) | assumption)
                                            obtain ⟨go46, co46, eo46, gb46, gl46, cl46, HG46⟩ := Kd.R_form HO131.out (by omega)
                                            (first | cases eo46 | (injection eo46 with ea_ en_ ec_; (first | subst ea_ | (injection ea_ with ea_; subst ea_)); subst ec_; clear en_))
                                            have GB46 := Aside0.mk gb46
                                            have GG46 := Aside0.mk HG46
                                            clear gb46 gl46 HG46
                                            obtain ⟨ce46, hcl46, hM46, hcc46, hfr46⟩ := Kd.R_elem HO131.out z31 (x6_2 : Int) p46 q46
                                            obtain rfl := k31_openM hM46
                                            have hx46_0 : World.cell? _ ⟨go46, (x6_2 : Int).toNat * 3, none⟩ = some (.int .i64 ((rd_T31 y129 x6_2).f0)) := hcc46 0 _ rfl
                                            have hx46_1 : World.cell? _ ⟨go46, (x6_2 : Int).toNat * 3 + 1, none⟩ = some (.int .i64 ((rd_T31 y129 x6_2).f1)) := hcc46 1 _ rfl
                                            have hx46_2 : World.cell? _ ⟨go46, (x6_2 : Int).toNat * 3 + 2, none⟩ = some (.int .i64 ((rd_T31 y129 x6_2).f2)) := hcc46 2 _ rfl
                                            have hf46_0 : World.frozen? _ ⟨go46, (x6_2 : Int).toNat * 3, none⟩ = false := hfr46 0
                                            have hf46_1 : World.frozen? _ ⟨go46, (x6_2 : Int).toNat * 3 + 1, none⟩ = false := hfr46 1
                                            have hf46_2 : World.frozen? _ ⟨go46, (x6_2 : Int).toNat * 3 + 2, none⟩ = false := hfr46 2
                                            clear hcl46 hcc46 hfr46 hM46
                                            replace p46 := eq_true p46
                                            replace q46 := eq_true q46
                                            obtain ⟨ce55, hcl55, hM55, hcc55, hfr55⟩ := Kd.R_elem HO131.out z31 (x6_2 : Int) (of_decide_eq_true (by first | (with_reducible assumption) | assumption)) (by have h_ : (x6_2 : Int) < ((y129.length : Int) : Int) := of_decide_eq_true (by first | (with_reducible assumption) | assumption); first | exact h_ | (have e_ := (Kd.R_reads' HO131.out).1; omega) | simpa using h_)
                                            obtain rfl := k31_openM hM55
                                            have HP55 := (Kd.R_seg HO131.out (x6_2 : Int) (of_decide_eq_true (by first | (with_reducible assumption) | assumption)) (by have h_ : (x6_2 : Int) < ((y129.length : Int) : Int) := of_decide_eq_true (by first | (with_reducible assumption) | assumption); first | exact h_ | (have e_ := (Kd.R_reads' HO131.out).1; omega) | simpa using h_) (seg := [.int .i64 (wrap64 ((wrap64 (((rd_T33 t101 x6_2).f0) - ((rd_T31 x4_2 x6_2).f0))) + 1))]) (j := 1) hcl55 hcc55 (show 2 ≤ 3 from by decide) (x' := (⟨(rd_T31 y129 x6_2).f0, wrap64 ((wrap64 (((rd_T33 t101 x6_2).f0) - ((rd_T31 x4_2 x6_2).f0))) + 1), (rd_T31 y129 x6_2).f2⟩ : S31)) (k31_mkM _ _ _ (⟨(rd_T31 y129 x6_2).f0, wrap64 ((wrap64 (((rd_T33 t101 x6_2).f0) - ((rd_T31 x4_2 x6_2).f0))) + 1), (rd_T31 y129 x6_2).f2⟩ : S31) ) (fun _ hk => hk)).1
                                            rw [← Ny134.out] at HP55
                                            have HQ55 := Aside0.mk HP55
                                            clear hcl55 hcc55 hfr55 hM55 HP55
                                            refine start_ (n := 17) (S := fun w' => w'.cell? (ad132.add ((x6_2).toNat * 3)) = some (.int .i64 ((rd_T33 t101 x6_2).f0)) ∧ w'.cell? ⟨(ad132.add ((x6_2).toNat * 3)).block, (ad132.add ((x6_2).toNat * 3)).off + 1, none⟩ = some (.int .i64 ((rd_T33 t101 x6_2).f1)) ∧ w'.cell? ⟨(ad132.add ((x6_2).toNat * 3)).block, (ad132.add ((x6_2).toNat * 3)).off + 2, none⟩ = some (.int .i64 ((rd_T33 t101 x6_2).f2)) ∧ w'.cell? (ad115.add ((x6_2).toNat * 3)) = some (.int .i64 ((rd_T31 x4_2 x6_2).f0)) ∧ w'.cell? ⟨(ad115.add ((x6_2).toNat * 3)).block, (ad115.add ((x6_2).toNat * 3)).off + 1, none⟩ = some (.int .i64 ((rd_T31 x4_2 x6_2).f1)) ∧ w'.cell? ⟨(ad115.add ((x6_2).toNat * 3)).block, (ad115.add ((x6_2).toNat * 3)).off + 2, none⟩ = some (.int .i64 ((rd_T31 x4_2 x6_2).f2))) (ds := [16]) #[false, false, false, false, false, false, false, false, false, false, false, false, false, false, false, false, false] (by kernel_rfl) rfl rfl ⟨hx132_0, hx132_1, hx132_2, hx133_0, hx133_1, hx133_2⟩ (fun hHeld => ?_); refine with_tabW laws_FnSectionsValid.tab18 laws_FnSectionsValid.bits18 (fun HT_ HW_ => ?_)
                                            generalize w53.drew = w54 at HO_3 HO_4 HO_7 HO131 HB GG46 HQ55 hf46_0 hf46_1 hf46_2 hx132_0 hx132_1 hx132_2 hx133_0 hx133_1 hx133_2 hx46_0 hx46_1 hx46_2 hHeld ⊢
                                            refine pure_ (i := 0) (N := some 76) (v := ?_) (a' := ?_) #[true, false, false, false, false, false, false, false, false, false, false, false, false, false, false, false, false] rfl rfl (any_of HT_.out (by kernel_rfl)) (fun _ _ _ h => h) (Or.inl ⟨by rfl, ?_⟩) ?_ ?_
                                            rotate_left
                                            · intro w'
                                              go_simp
                                              with_reducible rfl
                                            rotate_left
                                            · simp only [Act.put, List.setIfInBounds_toArray, List.set_cons_zero, List.set_cons_succ, i64_w, i32_w]
                                              rfl
                                            refine pure_ (i := 1) (N := some 77) (v := ?_) (a' := ?_) #[true, true, false, false, false, false, false, false, false, false, false, false, false, false, false, false, false] rfl rfl (any_of HT_.out (by kernel_rfl)) (fun _ _ _ h => h) (Or.inl ⟨by rfl, ?_⟩) ?_ ?_
                                            rotate_left
                                            · intro w'
                                              go_simp
                                              with_reducible rfl
                                            rotate_left
                                            · simp only [Act.put, List.setIfInBounds_toArray, List.set_cons_zero, List.set_cons_succ, i64_w, i32_w]
                                              rfl
                                            refine pure_ (i := 2) (N := some 78) (v := ?_) (a' := ?_) #[true, true, true, false, false, false, false, false, false, false, false, false, false, false, false, false, false] rfl rfl (any_of HT_.out (by kernel_rfl)) (fun _ _ _ h => h) (Or.inl ⟨by rfl, ?_⟩) ?_ ?_
                                            rotate_left
                                            · intro w'
                                              go_simp
                                              with_reducible rfl
                                            rotate_left
                                            · simp only [Act.put, List.setIfInBounds_toArray, List.set_cons_zero, List.set_cons_succ, i64_w, i32_w]
                                              rfl
                                            refine pure_ (i := 3) (N := some 79) (v := ?_) (a' := ?_) #[true, true, true, true, false, false, false, false, false, false, false, false, false, false, false, false, false] rfl rfl (any_of HT_.out (by kernel_rfl)) (fun _ _ _ h => h) (Or.inl ⟨by rfl, ?_⟩) ?_ ?_
                                            rotate_left
                                            · intro w'
                                              go_simp
                                              with_reducible rfl
                                            rotate_left
                                            · simp only [Act.put, List.setIfInBounds_toArray, List.set_cons_zero, List.set_cons_succ, i64_w, i32_w]
                                              rfl
                                            refine pure_ (i := 4) (N := some 80) (v := ?_) (a' := ?_) #[true, true, true, true, true, false, false, false, false, false, false, false, false, false, false, false, false] rfl rfl (any_of HT_.out (by kernel_rfl)) (fun _ _ _ h => h) (Or.inl ⟨by rfl, ?_⟩) ?_ ?_
                                            rotate_left
                                            · intro w'
                                              go_simp
                                              with_reducible rfl
                                            rotate_left
                                            · simp only [Act.put, List.setIfInBounds_toArray, List.set_cons_zero, List.set_cons_succ, i64_w, i32_w]
                                              rfl
                                            refine pure_ (i := 5) (N := some 81) (v := ?_) (a' := ?_) #[true, true, true, true, true, true, false, false, false, false, false, false, false, false, false, false, false] rfl rfl (any_of HT_.out (by kernel_rfl)) (fun _ _ _ h => h) (Or.inl ⟨by rfl, ?_⟩) ?_ ?_
                                            rotate_left
                                            · intro w'
                                              go_simp
                                              with_reducible rfl
                                            rotate_left
                                            · simp only [Act.put, List.setIfInBounds_toArray, List.set_cons_zero, List.set_cons_succ, i64_w, i32_w]
                                              rfl
                                            refine pure_ (i := 7) (N := some 83) (v := ?_) (a' := ?_) #[true, true, true, true, true, true, false, true, false, false, false, false, false, false, false, false, false] rfl rfl (any_of HT_.out (by kernel_rfl)) (fun _ _ _ h => h) (Or.inl ⟨by rfl, ?_⟩) ?_ ?_
                                            rotate_left
                                            · intro w'
                                              go_simp
                                              with_reducible rfl
                                            rotate_left
                                            · simp only [Act.put, List.setIfInBounds_toArray, List.set_cons_zero, List.set_cons_succ, i64_w, i32_w]
                                              rfl
                                            refine pure_ (i := 8) (N := some 84) (v := ?_) (a' := ?_) #[true, true, true, true, true, true, false, true, true, false, false, false, false, false, false, false, false] rfl rfl (any_of HT_.out (by kernel_rfl)) (fun _ _ _ h => h) (Or.inl ⟨by rfl, ?_⟩) ?_ ?_
                                            rotate_left
                                            · intro w'
                                              go_simp
                                              with_reducible rfl
                                            rotate_left
                                            · simp only [Act.put, List.setIfInBounds_toArray, List.set_cons_zero, List.set_cons_succ, i64_w, i32_w]
                                              rfl
                                            refine pure_ (i := 9) (N := some 85) (v := ?_) (a' := ?_) #[true, true, true, true, true, true, false, true, true, true, false, false, false, false, false, false, false] rfl rfl (any_of HT_.out (by kernel_rfl)) (fun _ _ _ h => h) (Or.inl ⟨by rfl, ?_⟩) ?_ ?_
                                            rotate_left
                                            · intro w'
                                              go_simp
                                              with_reducible rfl
                                            rotate_left
                                            · simp only [Act.put, List.setIfInBounds_toArray, List.set_cons_zero, List.set_cons_succ, i64_w, i32_w]
                                              rfl
                                            refine pure_ (i := 10) (N := some 86) (v := ?_) (a' := ?_) #[true, true, true, true, true, true, false, true, true, true, true, false, false, false, false, false, false] rfl rfl (any_of HT_.out (by kernel_rfl)) (fun _ _ _ h => h) (Or.inl ⟨by rfl, ?_⟩) ?_ ?_
                                            rotate_left
                                            · intro w'
                                              go_simp
                                              with_reducible rfl
                                            rotate_left
                                            · simp only [Act.put, List.setIfInBounds_toArray, List.set_cons_zero, List.set_cons_succ, i64_w, i32_w]
                                              rfl
                                            refine take_ (i := 6) (N := some 82) (v := ?_) (a' := ?_) #[true, true, true, true, true, true, true, true, true, true, true, false, false, false, false, false, false] rfl rfl (take_ofW HT_.out HW_.out (by kernel_rfl)) (fun _ _ _ h => h) (Or.inl ⟨by rfl, ?_⟩) hHeld ?_ ?_
                                            rotate_left
                                            · rintro w' ⟨s0, s1, s2, s3, s4, s5⟩
                                              go_simp
                                              with_reducible rfl
                                            rotate_left
                                            · simp only [Act.put, List.setIfInBounds_toArray, List.set_cons_zero, List.set_cons_succ, i64_w, i32_w]
                                              rfl
                                            refine take_ (i := 11) (N := some 87) (v := ?_) (a' := ?_) #[true, true, true, true, true, true, true, true, true, true, true, true, false, false, false, false, false] rfl rfl (take_ofW HT_.out HW_.out (by kernel_rfl)) (fun _ _ _ h => h) (Or.inl ⟨by rfl, ?_⟩) hHeld ?_ ?_
                                            rotate_left
                                            · rintro w' ⟨s0, s1, s2, s3, s4, s5⟩
                                              go_simp
                                              with_reducible rfl
                                            rotate_left
                                            · simp only [Act.put, List.setIfInBounds_toArray, List.set_cons_zero, List.set_cons_succ, i64_w, i32_w]
                                              rfl
                                            refine pure_ (i := 12) (N := some 88) (v := ?_) (a' := ?_) #[true, true, true, true, true, true, true, true, true, true, true, true, true, false, false, false, false] rfl rfl (any_of HT_.out (by kernel_rfl)) (fun _ _ _ h => h) (Or.inl ⟨by rfl, ?_⟩) ?_ ?_
                                            rotate_left
                                            · intro w'
                                              go_simp
                                              with_reducible rfl
                                            rotate_left
                                            · simp only [Act.put, List.setIfInBounds_toArray, List.set_cons_zero, List.set_cons_succ, i64_w, i32_w]
                                              rfl
                                            refine pure_ (i := 13) (N := some 89) (v := ?_) (a' := ?_) #[true, true, true, true, true, true, true, true, true, true, true, true, true, true, false, false, false] rfl rfl (any_of HT_.out (by kernel_rfl)) (fun _ _ _ h => h) (Or.inl ⟨by rfl, ?_⟩) ?_ ?_
                                            rotate_left
                                            · intro w'
                                              go_simp
                                              with_reducible rfl
                                            rotate_left
                                            · simp only [Act.put, List.setIfInBounds_toArray, List.set_cons_zero, List.set_cons_succ, i64_w, i32_w]
                                              rfl
                                            refine pure_ (i := 14) (N := some 90) (v := ?_) (a' := ?_) #[true, true, true, true, true, true, true, true, true, true, true, true, true, true, true, false, false] rfl rfl (any_of HT_.out (by kernel_rfl)) (fun _ _ _ h => h) (Or.inl ⟨by rfl, ?_⟩) ?_ ?_
                                            rotate_left
                                            · intro w'
                                              go_simp
                                              with_reducible rfl
                                            rotate_left
                                            · simp only [Act.put, List.setIfInBounds_toArray, List.set_cons_zero, List.set_cons_succ, i64_w, i32_w]
                                              rfl
                                            refine pure_ (i := 15) (N := some 91) (v := ?_) (a' := ?_) #[true, true, true, true, true, true, true, true, true, true, true, true, true, true, true, true, false] rfl rfl (any_of HT_.out (by kernel_rfl)) (fun _ _ _ h => h) (Or.inl ⟨by rfl, ?_⟩) ?_ ?_
                                            rotate_left
                                            · intro w'
                                              go_simp
                                              with_reducible rfl
                                            rotate_left
                                            · simp only [Act.put, List.setIfInBounds_toArray, List.set_cons_zero, List.set_cons_succ, i64_w, i32_w]
                                              rfl
                                            refine last_ (i := 16) (N := none) #[true, true, true, true, true, true, true, true, true, true, true, true, true, true, true, true, true] rfl rfl (one_of HT_.out (by kernel_rfl)) (by decide) (fun K hK => ?_)
                                            refine skip_ (w1 := ?_) (by rfl) rfl ?_ ?_
                                            rotate_left
                                            · go_simp
                                              rfl
                                            refine hK.out _ _ ?_
                                            clear hK K
                                            refine done_ (done_of HT_.out (by kernel_rfl)) ?_
                                            try go_wp2_with (first | ((with_reducible refine gate_callee (f := 9) rfl ?_); refine goesL_ (some 94) rfl rfl Try.func9 (by kernel_rfl) rfl #[.slice (some ad132) t101.length co7, .slice (some ⟨go30, 0, none⟩) x7_30.length co30] rfl (by (try simp only [List.map_toArray, List.map_cons, List.map_nil]); first | done | rfl | (simp only [List.length_drop, List.length_take]; rfl)) ?_; (with_reducible refine (impl_SectionsValid.calls kj30 _ _ t101 _ _ x7_30 true _ ?side1 ?side2 ?side3 ?side4 A47.out).mono ?_); (case side1 => refine (Kd.R_reads' (e := 33) (base := w.heap.size) (ok := fun k_ => True) (n := t101.length) (c := co7) ?_).2.2; exact (by (with_reducible repeat (first | apply Kd.R_alloc | apply Kd.R_drewN | apply Kd.R_drew)); exact (Kd.R_mono (Kd.R_far (p := ⟨go46, (x6_2 : Int).toNat * 3 + 1, none⟩) (Kd.R_types HO_3.out GG46.out (by decide)) (fun _ hk => hk.2) (.int .i64 (wrap64 ((wrap64 (((rd_T33 t101 x6_2).f0) - ((rd_T31 x4_2 x6_2).f0))) + 1)))) (fun _ h_ => h_.1)))); (case side2 => exact (Kd.R_reads' HO_3.out).2.1); (case side3 => refine (Kd.R_reads' (e := 31) (base := w.heap.size) (ok := fun k_ => (some k_ ≠ (.slice (some ad115) x4_2.length co8 : Value).ownBlock ∧ some k_ ≠ (.slice (some ⟨go46, 0, none⟩) y129.length co46 : Value).ownBlock)) (n := x7_30.length) (c := co30) ?_).2.2; exact (by (with_reducible repeat (first | apply Kd.R_alloc | apply Kd.R_drewN | apply Kd.R_drew)); exact (Kd.R_mono (Kd.R_far (p := ⟨go46, (x6_2 : Int).toNat * 3 + 1, none⟩) (Kd.R_mono HO_7.out (fun k_ hk => (⟨hk, fun e_ => hk.2 (by rw [e_]; rfl)⟩ : _ ∧ k_ ≠ go46))) (fun _ hk => hk.2) (.int .i64 (wrap64 ((wrap64 (((rd_T33 t101 x6_2).f0) - ((rd_T31 x4_2 x6_2).f0))) + 1)))) (fun _ h_ => h_.1)))); (case side4 => exact (Kd.R_reads' HO_7.out).2.1); rintro e w56 ⟨rfl, hb⟩; refine ⟨_, rfl, ?_⟩; have n0_ := Aside0.mk (Kd.R_below (by (with_reducible repeat (first | apply Kd.R_alloc | apply Kd.R_drewN | apply Kd.R_drew)); exact (Kd.R_mono (Kd.R_far (p := ⟨go46, (x6_2 : Int).toNat * 3 + 1, none⟩) (Kd.R_types HO_3.out GG46.out (by decide)) (fun _ hk => hk.2) (.int .i64 (wrap64 ((wrap64 (((rd_T33 t101 x6_2).f0) - ((rd_T31 x4_2 x6_2).f0))) + 1)))) (fun _ h_ => h_.1))) hb); have n1_ := Aside0.mk (Kd.R_below (by (with_reducible repeat (first | apply Kd.R_alloc | apply Kd.R_drewN | apply Kd.R_drew)); exact (Kd.R_mono (Kd.R_far (p := ⟨go46, (x6_2 : Int).toNat * 3 + 1, none⟩) (Kd.R_mono HO_4.out (fun k_ hk => (⟨hk, fun e_ => hk.2 (by rw [e_]; rfl)⟩ : _ ∧ k_ ≠ go46))) (fun _ hk => hk.2) (.int .i64 (wrap64 ((wrap64 (((rd_T33 t101 x6_2).f0) - ((rd_T31 x4_2 x6_2).f0))) + 1)))) (fun _ h_ => h_.1))) hb); have n2_ := Aside0.mk (Kd.R_below (by (with_reducible repeat (first | apply Kd.R_alloc | apply Kd.R_drewN | apply Kd.R_drew)); exact (Kd.R_mono (Kd.R_far (p := ⟨go46, (x6_2 : Int).toNat * 3 + 1, none⟩) (Kd.R_mono HO_7.out (fun k_ hk => (⟨hk, fun e_ => hk.2 (by rw [e_]; rfl)⟩ : _ ∧ k_ ≠ go46))) (fun _ hk => hk.2) (.int .i64 (wrap64 ((wrap64 (((rd_T33 t101 x6_2).f0) - ((rd_T31 x4_2 x6_2).f0))) + 1)))) (fun _ h_ => h_.1))) hb); have n3_ := Aside0.mk (Kd.R_below (by (with_reducible repeat (first | apply Kd.R_alloc | apply Kd.R_drewN | apply Kd.R_drew)); exact HQ55.out) hb); have n4_ := Aside0.mk (below_step (by repeat (first | (with_reducible first | exact HB.out | apply below_alloc | apply pw_below_drewN | apply below_drew1 | refine below_set ?_ GB46.out) | exact HB.out)) hb); clear HO_3; clear HO_4; clear HO_7; clear HO131; clear HB; have HO_3 := n0_; have HO_4 := n1_; have HO_7 := n2_; have HO131 := n3_; have HB := n4_; clear n0_ n1_ n2_ n3_ n4_; (try clear hb); (try clear hb2); (try clear hk); (try clear hi)) | (go_at_call 9; refine calls_of_args (args' := #[.slice (some ad132) t101.length co7, .slice (some ⟨go46, 0, none⟩) y134.length co46]) (by first | (rw [show y134.length = y129.length from (Kd.R_reads' HO131.out).1.symm] <;> rfl) | rfl) ?_; (with_reducible refine (impl_SectionsValid.calls kj30 _ _ t101 _ _ y134 true _ ?side1 ?side2 ?side3 ?side4 A49.out).mono ?_); (case side1 => repeat (first | exact (Kd.R_reads' HO_3.out).2.2 | (with_reducible refine Kd.C_alloc ?_ _) | (with_reducible refine Kd.C_drewN ?_ _) | (with_reducible refine Kd.C_drew ?_))); (case side2 => exact (Kd.R_reads' HO_3.out).2.1); (case side3 => repeat (first | exact (Kd.R_reads' HO131.out).2.2 | (with_reducible refine Kd.C_alloc ?_ _) | (with_reducible refine Kd.C_drewN ?_ _) | (with_reducible refine Kd.C_drew ?_))); (case side4 => rw [show y134.length = y129.length from (Kd.R_reads' HO131.out).1.symm]; exact (Kd.R_reads' HO131.out).2.1); rintro e w57 ⟨rfl, hb⟩; have n0_ := Aside0.mk (Kd.R_below (by (with_reducible repeat (first | apply Kd.R_alloc | apply Kd.R_drewN | apply Kd.R_drew)); exact HO_3.out) hb); have n1_ := Aside0.mk (Kd.R_below (by (with_reducible repeat (first | apply Kd.R_alloc | apply Kd.R_drewN | apply Kd.R_drew)); exact HO_4.out) hb); have n2_ := Aside0.mk (Kd.R_below (by (with_reducible repeat (first | apply Kd.R_alloc | apply Kd.R_drewN | apply Kd.R_drew)); exact HO_7.out) hb); have n3_ := Aside0.mk (Kd.R_below (by (with_reducible repeat (first | apply Kd.R_alloc | apply Kd.R_drewN | apply Kd.R_drew)); exact HO131.out) hb); have n4_ := Aside0.mk (below_step (by repeat (first | (with_reducible first | exact HB.out | apply below_alloc | apply pw_below_drewN | apply below_drew1) | exact HB.out)) hb); clear HO_3; clear HO_4; clear HO_7; clear HO131; clear HB; have HO_3 := n0_; have HO_4 := n1_; have HO_7 := n2_; have HO131 := n3_; have HB := n4_; clear n0_ n1_ n2_ n3_ n4_; (try clear hb); (try clear hb2); (try clear hk); (try clear hi)))
                                            go_ret
                                            exact ⟨by first | rfl | (simp [errW_none, errW_some] <;> rfl) | (simp [*, errW_none, errW_some] <;> rfl), by repeat (first | (with_reducible first | exact HB.out | apply below_alloc | apply pw_below_drewN | apply below_drew1) | exact HB.out)⟩
                                          · replace c50 := Bool.eq_false_iff.mpr c50
                                            subst c50
                                            have H1 : (laws_FnSectionsValid.l0 kj30 t101 x4_2 (wrap64 (x6_2 + 1))) = some r := by rw [if_neg (show ¬ (false = true) by decide)] at H; exact H
                                            clear H
                                            have H := H1
                                            clear H1
                                            have H' := Aside0.mk H
                                            clear H
                                            try go_wp2_with (first | ((with_reducible refine gate_dst (N := 73) rfl ?_); (try (refine gate_guard (by rfl) ?_; dsimp only)); refine Kd.R_lit k31 _ 31 ?hg (N := 73) ?hd (xs := ([] : List (S31))) (inner := []) (ok := fun _ => True) (okp := fun _ => True) ?hr ?hp (fun _ hk => hk) trivial (Below.refl _ _) (Nat.le_refl _) (by simp) ?_; (case hd => rfl); (case hg => rfl); (case hr => first | (go_simp; done) | (go_simp; rfl)); (case hp => exact (Reps.none _ _)); intro v127 w58 ho59 hb hg_ hnew_; clear hg_ hnew_; (first | rw [← Ny126.out] at ho59 | (simp only [Int.reduceToNat] at ho59; rw [← Ny126.out] at ho59)); have n0_ := Aside0.mk (Kd.R_below (by (with_reducible repeat (first | apply Kd.R_alloc | apply Kd.R_drewN | apply Kd.R_drew)); exact HO_3.out) hb); have n1_ := Aside0.mk (Kd.R_elder' (by (with_reducible repeat (first | apply Kd.R_alloc | apply Kd.R_drewN | apply Kd.R_drew)); exact HO_4.out) (Kd.R_base ho59) hb); have n2_ := Aside0.mk (Kd.R_elder' (by (with_reducible repeat (first | apply Kd.R_alloc | apply Kd.R_drewN | apply Kd.R_drew)); exact HO_7.out) (Kd.R_base ho59) hb); have n3_ := Aside0.mk (Kd.R_lower (Kd.R_new' (Kd.R_new' ho59 (Kd.R_lt (by (with_reducible repeat (first | apply Kd.R_alloc | apply Kd.R_drewN | apply Kd.R_drew)); exact HO_4.out))) (Kd.R_lt (by (with_reducible repeat (first | apply Kd.R_alloc | apply Kd.R_drewN | apply Kd.R_drew)); exact HO_7.out))) (below_size (by repeat (first | (with_reducible first | exact HB.out | apply below_alloc | apply pw_below_drewN | apply below_drew1) | exact HB.out)))); have n4_ := Aside0.mk (below_step (by repeat (first | (with_reducible first | exact HB.out | apply below_alloc | apply pw_below_drewN | apply below_drew1) | exact HB.out)) hb); clear HO_3; clear HO_4; clear HO_7; clear HB; have HO_3 := n0_; have HO_4 := n1_; have HO_7 := n2_; have HO128 := n3_; have HB := n4_; clear n0_ n1_ n2_ n3_ n4_; clear hb ho59) | ((with_reducible refine gate_builtin (b := .append) (xs := #[.tmp 73, .tmp 74]) rfl ?_); (try (refine gate_guard (by rfl) ?_; dsimp only)); at_builtin; refine Kd.R_append_rows k31 (w0 := w) w.heap.size rfl (.tmp 73) (.tmp 74) 24 31 (.agg #[(.int .i64 0), (.int .i64 0), (.int .i64 0)]) 24 rfl Try.underlying24 info31 rfl (by decide) (by omega) v127 y126 x4_2 _ _ _ (fun k_ => some k_ ≠ (.slice (some ad115) x4_2.length co8 : Value).ownBlock ∧ some k_ ≠ (.slice (some ⟨go30, 0, none⟩) x7_30.length co30 : Value).ownBlock) (fun _ => False) rfl rfl ?aO ?aR (fun _ _ h => h) (fun _ h => h.elim) ?aF ?aB ?aS ?aL ?_; (case aR => repeat (first | exact (Kd.R_reads' HO_4.out).2.2 | (with_reducible refine Kd.C_alloc ?_ _) | (with_reducible refine Kd.C_drewN ?_ _) | (with_reducible refine Kd.C_drew ?_))); (case aB => exact (by repeat (first | (with_reducible first | exact HB.out | apply below_alloc | apply pw_below_drewN | apply below_drew1) | exact HB.out))); (case aF => exact (fun k_ hk => ⟨Kd.fresh' (Kd.R_lt (by (with_reducible repeat (first | apply Kd.R_alloc | apply Kd.R_drewN | apply Kd.R_drew)); exact HO_4.out)) k_ hk, Kd.fresh' (Kd.R_lt (by (with_reducible repeat (first | apply Kd.R_alloc | apply Kd.R_drewN | apply Kd.R_drew)); exact HO_7.out)) k_ hk⟩)); (case aO => exact (by (with_reducible repeat (first | apply Kd.R_alloc | apply Kd.R_drewN | apply Kd.R_drew)); exact Kd.R_mono HO128.out (fun _ hk => ⟨hk.1.2, hk.2⟩))); (case aS => exact (below_size (by repeat (first | (with_reducible first | exact HB.out | apply below_alloc | apply pw_below_drewN | apply below_drew1) | exact HB.out)))); (case aL => have := LMc41.out; omega); intro v130 w60 ho hb hg hat; rw [← Ny129.out] at ho; have n0_ := Aside0.mk (Kd.R_over' (by (with_reducible repeat (first | apply Kd.R_alloc | apply Kd.R_drewN | apply Kd.R_drew)); exact HO_3.out) (Kd.R_typed (by (with_reducible repeat (first | apply Kd.R_alloc | apply Kd.R_drewN | apply Kd.R_drew)); exact HO128.out)) (by decide) hg); have n1_ := Aside0.mk (Kd.R_after (ok := (fun k_ => some k_ ≠ (.slice (some ⟨go30, 0, none⟩) x7_30.length co30 : Value).ownBlock)) (by (with_reducible repeat (first | apply Kd.R_alloc | apply Kd.R_drewN | apply Kd.R_drew)); exact HO_4.out) hg hat); have n2_ := Aside0.mk (Kd.R_after (ok := (fun k_ => some k_ ≠ (.slice (some ad115) x4_2.length co8 : Value).ownBlock)) (by (with_reducible repeat (first | apply Kd.R_alloc | apply Kd.R_drewN | apply Kd.R_drew)); exact HO_7.out) hg hat); have n3_ := Aside0.mk (hb); have n4_ := Aside0.mk (ho); clear HO_3; clear HO_4; clear HO_7; clear HB; clear HO128; have HO_3 := n0_; have HO_4 := n1_; have HO_7 := n2_; have HB := n3_; have HO131 := n4_; clear n0_ n1_ n2_ n3_ n4_; clear ho hb hg hat))
                                            have n0_ := Aside0.mk (Kd.R_drew HO_3.out)
                                            have n1_ := Aside0.mk (Kd.R_drew HO_4.out)
                                            have n2_ := Aside0.mk (Kd.R_drew HO_7.out)
                                            have n3_ := Aside0.mk (Kd.R_drew HO131.out)
                                            have n4_ := Aside0.mk (below_drew1 HB.out)
                                            clear HO_3
                                            clear HO_4
                                            clear HO_7
                                            clear HO131
                                            clear HB
                                            have HO_3 := n0_
                                            have HO_4 := n1_
                                            have HO_7 := n2_
                                            have HO131 := n3_
                                            have HB := n4_
                                            clear n0_ n1_ n2_ n3_ n4_
                                            have p132 : 0 ≤ (x6_2 : Int) := of_decide_eq_true (by first | (with_reducible assumption) | assumption)
                                            have q132 : x6_2 < (t101.length : Int) := of_decide_eq_true (by first | (with_reducible assumption) | assumption)
                                            obtain ⟨ad132, e132, hx132_0, hx132_1, hx132_2⟩ := at_T33 (Kd.R_reads' HO_3.out).2.2 x6_2 p132 q132
                                            cases e132
                                            replace p132 := eq_true p132
                                            replace q132 := eq_true q132
                                            have p133 : 0 ≤ (x6_2 : Int) := of_decide_eq_true (by first | (with_reducible assumption) | assumption)
                                            have q133 : x6_2 < (x4_2.length : Int) := of_decide_eq_true (by first | (with_reducible assumption) | assumption)
                                            obtain ⟨ad133, e133, hx133_0, hx133_1, hx133_2⟩ := at_T31 (Kd.R_reads' HO_4.out).2.2 x6_2 p133 q133
                                            obtain rfl : ad115 = ad133 := (by injection e133)
                                            replace p133 := eq_true p133
                                            replace q133 := eq_true q133
                                            have p46 : 0 ≤ (x6_2 : Int) := of_decide_eq_true (by first | (with_reducible assumption) | assumption)
                                            have q46 : (x6_2 : Int) < ((y129.length : Int) : Int) := of_decide_eq_true (by first | (with_reducible assumption) | assumption)
                                            obtain ⟨go46, co46, eo46, gb46, gl46, cl46, HG46⟩ := Kd.R_form HO131.out (by omega)
                                            (first | cases eo46 | (injection eo46 with ea_ en_ ec_; (first | subst ea_ | (injection ea_ with ea_; subst ea_)); subst ec_; clear en_))
                                            have GB46 := Aside0.mk gb46
                                            have GG46 := Aside0.mk HG46
                                            clear gb46 gl46 HG46
                                            obtain ⟨ce46, hcl46, hM46, hcc46, hfr46⟩ := Kd.R_elem HO131.out z31 (x6_2 : Int) p46 q46
                                            obtain rfl := k31_openM hM46
                                            have hx46_0 : World.cell? _ ⟨go46, (x6_2 : Int).toNat * 3, none⟩ = some (.int .i64 ((rd_T31 y129 x6_2).f0)) := hcc46 0 _ rfl
                                            have hx46_1 : World.cell? _ ⟨go46, (x6_2 : Int).toNat * 3 + 1, none⟩ = some (.int .i64 ((rd_T31 y129 x6_2).f1)) := hcc46 1 _ rfl
                                            have hx46_2 : World.cell? _ ⟨go46, (x6_2 : Int).toNat * 3 + 2, none⟩ = some (.int .i64 ((rd_T31 y129 x6_2).f2)) := hcc46 2 _ rfl
                                            have hf46_0 : World.frozen? _ ⟨go46, (x6_2 : Int).toNat * 3, none⟩ = false := hfr46 0
                                            have hf46_1 : World.frozen? _ ⟨go46, (x6_2 : Int).toNat * 3 + 1, none⟩ = false := hfr46 1
                                            have hf46_2 : World.frozen? _ ⟨go46, (x6_2 : Int).toNat * 3 + 2, none⟩ = false := hfr46 2
                                            clear hcl46 hcc46 hfr46 hM46
                                            replace p46 := eq_true p46
                                            replace q46 := eq_true q46
                                            obtain ⟨ce62, hcl62, hM62, hcc62, hfr62⟩ := Kd.R_elem HO131.out z31 (x6_2 : Int) (of_decide_eq_true (by first | (with_reducible assumption) | assumption)) (by have h_ : (x6_2 : Int) < ((y129.length : Int) : Int) := of_decide_eq_true (by first | (with_reducible assumption) | assumption); first | exact h_ | (have e_ := (Kd.R_reads' HO131.out).1; omega) | simpa using h_)
                                            obtain rfl := k31_openM hM62
                                            have HP62 := (Kd.R_seg HO131.out (x6_2 : Int) (of_decide_eq_true (by first | (with_reducible assumption) | assumption)) (by have h_ : (x6_2 : Int) < ((y129.length : Int) : Int) := of_decide_eq_true (by first | (with_reducible assumption) | assumption); first | exact h_ | (have e_ := (Kd.R_reads' HO131.out).1; omega) | simpa using h_) (seg := [.int .i64 (wrap64 ((wrap64 (((rd_T33 t101 x6_2).f0) - ((rd_T31 x4_2 x6_2).f0))) + 1))]) (j := 1) hcl62 hcc62 (show 2 ≤ 3 from by decide) (x' := (⟨(rd_T31 y129 x6_2).f0, wrap64 ((wrap64 (((rd_T33 t101 x6_2).f0) - ((rd_T31 x4_2 x6_2).f0))) + 1), (rd_T31 y129 x6_2).f2⟩ : S31)) (k31_mkM _ _ _ (⟨(rd_T31 y129 x6_2).f0, wrap64 ((wrap64 (((rd_T33 t101 x6_2).f0) - ((rd_T31 x4_2 x6_2).f0))) + 1), (rd_T31 y129 x6_2).f2⟩ : S31) ) (fun _ hk => hk)).1
                                            rw [← Ny134.out] at HP62
                                            have HQ62 := Aside0.mk HP62
                                            clear hcl62 hcc62 hfr62 hM62 HP62
                                            refine start_ (n := 17) (S := fun w' => w'.cell? (ad132.add ((x6_2).toNat * 3)) = some (.int .i64 ((rd_T33 t101 x6_2).f0)) ∧ w'.cell? ⟨(ad132.add ((x6_2).toNat * 3)).block, (ad132.add ((x6_2).toNat * 3)).off + 1, none⟩ = some (.int .i64 ((rd_T33 t101 x6_2).f1)) ∧ w'.cell? ⟨(ad132.add ((x6_2).toNat * 3)).block, (ad132.add ((x6_2).toNat * 3)).off + 2, none⟩ = some (.int .i64 ((rd_T33 t101 x6_2).f2)) ∧ w'.cell? (ad115.add ((x6_2).toNat * 3)) = some (.int .i64 ((rd_T31 x4_2 x6_2).f0)) ∧ w'.cell? ⟨(ad115.add ((x6_2).toNat * 3)).block, (ad115.add ((x6_2).toNat * 3)).off + 1, none⟩ = some (.int .i64 ((rd_T31 x4_2 x6_2).f1)) ∧ w'.cell? ⟨(ad115.add ((x6_2).toNat * 3)).block, (ad115.add ((x6_2).toNat * 3)).off + 2, none⟩ = some (.int .i64 ((rd_T31 x4_2 x6_2).f2))) (ds := [16]) #[false, false, false, false, false, false, false, false, false, false, false, false, false, false, false, false, false] (by kernel_rfl) rfl rfl ⟨hx132_0, hx132_1, hx132_2, hx133_0, hx133_1, hx133_2⟩ (fun hHeld => ?_); refine with_tabW laws_FnSectionsValid.tab18 laws_FnSectionsValid.bits18 (fun HT_ HW_ => ?_)
                                            generalize w60.drew = w61 at HO_3 HO_4 HO_7 HO131 HB GG46 HQ62 hf46_0 hf46_1 hf46_2 hx132_0 hx132_1 hx132_2 hx133_0 hx133_1 hx133_2 hx46_0 hx46_1 hx46_2 hHeld ⊢
                                            refine pure_ (i := 0) (N := some 76) (v := ?_) (a' := ?_) #[true, false, false, false, false, false, false, false, false, false, false, false, false, false, false, false, false] rfl rfl (any_of HT_.out (by kernel_rfl)) (fun _ _ _ h => h) (Or.inl ⟨by rfl, ?_⟩) ?_ ?_
                                            rotate_left
                                            · intro w'
                                              go_simp
                                              with_reducible rfl
                                            rotate_left
                                            · simp only [Act.put, List.setIfInBounds_toArray, List.set_cons_zero, List.set_cons_succ, i64_w, i32_w]
                                              rfl
                                            refine pure_ (i := 1) (N := some 77) (v := ?_) (a' := ?_) #[true, true, false, false, false, false, false, false, false, false, false, false, false, false, false, false, false] rfl rfl (any_of HT_.out (by kernel_rfl)) (fun _ _ _ h => h) (Or.inl ⟨by rfl, ?_⟩) ?_ ?_
                                            rotate_left
                                            · intro w'
                                              go_simp
                                              with_reducible rfl
                                            rotate_left
                                            · simp only [Act.put, List.setIfInBounds_toArray, List.set_cons_zero, List.set_cons_succ, i64_w, i32_w]
                                              rfl
                                            refine pure_ (i := 2) (N := some 78) (v := ?_) (a' := ?_) #[true, true, true, false, false, false, false, false, false, false, false, false, false, false, false, false, false] rfl rfl (any_of HT_.out (by kernel_rfl)) (fun _ _ _ h => h) (Or.inl ⟨by rfl, ?_⟩) ?_ ?_
                                            rotate_left
                                            · intro w'
                                              go_simp
                                              with_reducible rfl
                                            rotate_left
                                            · simp only [Act.put, List.setIfInBounds_toArray, List.set_cons_zero, List.set_cons_succ, i64_w, i32_w]
                                              rfl
                                            refine pure_ (i := 3) (N := some 79) (v := ?_) (a' := ?_) #[true, true, true, true, false, false, false, false, false, false, false, false, false, false, false, false, false] rfl rfl (any_of HT_.out (by kernel_rfl)) (fun _ _ _ h => h) (Or.inl ⟨by rfl, ?_⟩) ?_ ?_
                                            rotate_left
                                            · intro w'
                                              go_simp
                                              with_reducible rfl
                                            rotate_left
                                            · simp only [Act.put, List.setIfInBounds_toArray, List.set_cons_zero, List.set_cons_succ, i64_w, i32_w]
                                              rfl
                                            refine pure_ (i := 4) (N := some 80) (v := ?_) (a' := ?_) #[true, true, true, true, true, false, false, false, false, false, false, false, false, false, false, false, false] rfl rfl (any_of HT_.out (by kernel_rfl)) (fun _ _ _ h => h) (Or.inl ⟨by rfl, ?_⟩) ?_ ?_
                                            rotate_left
                                            · intro w'
                                              go_simp
                                              with_reducible rfl
                                            rotate_left
                                            · simp only [Act.put, List.setIfInBounds_toArray, List.set_cons_zero, List.set_cons_succ, i64_w, i32_w]
                                              rfl
                                            refine pure_ (i := 5) (N := some 81) (v := ?_) (a' := ?_) #[true, true, true, true, true, true, false, false, false, false, false, false, false, false, false, false, false] rfl rfl (any_of HT_.out (by kernel_rfl)) (fun _ _ _ h => h) (Or.inl ⟨by rfl, ?_⟩) ?_ ?_
                                            rotate_left
                                            · intro w'
                                              go_simp
                                              with_reducible rfl
                                            rotate_left
                                            · simp only [Act.put, List.setIfInBounds_toArray, List.set_cons_zero, List.set_cons_succ, i64_w, i32_w]
                                              rfl
                                            refine pure_ (i := 7) (N := some 83) (v := ?_) (a' := ?_) #[true, true, true, true, true, true, false, true, false, false, false, false, false, false, false, false, false] rfl rfl (any_of HT_.out (by kernel_rfl)) (fun _ _ _ h => h) (Or.inl ⟨by rfl, ?_⟩) ?_ ?_
                                            rotate_left
                                            · intro w'
                                              go_simp
                                              with_reducible rfl
                                            rotate_left
                                            · simp only [Act.put, List.setIfInBounds_toArray, List.set_cons_zero, List.set_cons_succ, i64_w, i32_w]
                                              rfl
                                            refine pure_ (i := 8) (N := some 84) (v := ?_) (a' := ?_) #[true, true, true, true, true, true, false, true, true, false, false, false, false, false, false, false, false] rfl rfl (any_of HT_.out (by kernel_rfl)) (fun _ _ _ h => h) (Or.inl ⟨by rfl, ?_⟩) ?_ ?_
                                            rotate_left
                                            · intro w'
                                              go_simp
                                              with_reducible rfl
                                            rotate_left
                                            · simp only [Act.put, List.setIfInBounds_toArray, List.set_cons_zero, List.set_cons_succ, i64_w, i32_w]
                                              rfl
                                            refine pure_ (i := 9) (N := some 85) (v := ?_) (a' := ?_) #[true, true, true, true, true, true, false, true, true, true, false, false, false, false, false, false, false] rfl rfl (any_of HT_.out (by kernel_rfl)) (fun _ _ _ h => h) (Or.inl ⟨by rfl, ?_⟩) ?_ ?_
                                            rotate_left
                                            · intro w'
                                              go_simp
                                              with_reducible rfl
                                            rotate_left
                                            · simp only [Act.put, List.setIfInBounds_toArray, List.set_cons_zero, List.set_cons_succ, i64_w, i32_w]
                                              rfl
                                            refine pure_ (i := 10) (N := some 86) (v := ?_) (a' := ?_) #[true, true, true, true, true, true, false, true, true, true, true, false, false, false, false, false, false] rfl rfl (any_of HT_.out (by kernel_rfl)) (fun _ _ _ h => h) (Or.inl ⟨by rfl, ?_⟩) ?_ ?_
                                            rotate_left
                                            · intro w'
                                              go_simp
                                              with_reducible rfl
                                            rotate_left
                                            · simp only [Act.put, List.setIfInBounds_toArray, List.set_cons_zero, List.set_cons_succ, i64_w, i32_w]
                                              rfl
                                            refine take_ (i := 6) (N := some 82) (v := ?_) (a' := ?_) #[true, true, true, true, true, true, true, true, true, true, true, false, false, false, false, false, false] rfl rfl (take_ofW HT_.out HW_.out (by kernel_rfl)) (fun _ _ _ h => h) (Or.inl ⟨by rfl, ?_⟩) hHeld ?_ ?_
                                            rotate_left
                                            · rintro w' ⟨s0, s1, s2, s3, s4, s5⟩
                                              go_simp
                                              with_reducible rfl
                                            rotate_left
                                            · simp only [Act.put, List.setIfInBounds_toArray, List.set_cons_zero, List.set_cons_succ, i64_w, i32_w]
                                              rfl
                                            refine take_ (i := 11) (N := some 87) (v := ?_) (a' := ?_) #[true, true, true, true, true, true, true, true, true, true, true, true, false, false, false, false, false] rfl rfl (take_ofW HT_.out HW_.out (by kernel_rfl)) (fun _ _ _ h => h) (Or.inl ⟨by rfl, ?_⟩) hHeld ?_ ?_
                                            rotate_left
                                            · rintro w' ⟨s0, s1, s2, s3, s4, s5⟩
                                              go_simp
                                              with_reducible rfl
                                            rotate_left
                                            · simp only [Act.put, List.setIfInBounds_toArray, List.set_cons_zero, List.set_cons_succ, i64_w, i32_w]
                                              rfl
                                            refine pure_ (i := 12) (N := some 88) (v := ?_) (a' := ?_) #[true, true, true, true, true, true, true, true, true, true, true, true, true, false, false, false, false] rfl rfl (any_of HT_.out (by kernel_rfl)) (fun _ _ _ h => h) (Or.inl ⟨by rfl, ?_⟩) ?_ ?_
                                            rotate_left
                                            · intro w'
                                              go_simp
                                              with_reducible rfl
                                            rotate_left
                                            · simp only [Act.put, List.setIfInBounds_toArray, List.set_cons_zero, List.set_cons_succ, i64_w, i32_w]
                                              rfl
                                            refine pure_ (i := 13) (N := some 89) (v := ?_) (a' := ?_) #[true, true, true, true, true, true, true, true, true, true, true, true, true, true, false, false, false] rfl rfl (any_of HT_.out (by kernel_rfl)) (fun _ _ _ h => h) (Or.inl ⟨by rfl, ?_⟩) ?_ ?_
                                            rotate_left
                                            · intro w'
                                              go_simp
                                              with_reducible rfl
                                            rotate_left
                                            · simp only [Act.put, List.setIfInBounds_toArray, List.set_cons_zero, List.set_cons_succ, i64_w, i32_w]
                                              rfl
                                            refine pure_ (i := 14) (N := some 90) (v := ?_) (a' := ?_) #[true, true, true, true, true, true, true, true, true, true, true, true, true, true, true, false, false] rfl rfl (any_of HT_.out (by kernel_rfl)) (fun _ _ _ h => h) (Or.inl ⟨by rfl, ?_⟩) ?_ ?_
                                            rotate_left
                                            · intro w'
                                              go_simp
                                              with_reducible rfl
                                            rotate_left
                                            · simp only [Act.put, List.setIfInBounds_toArray, List.set_cons_zero, List.set_cons_succ, i64_w, i32_w]
                                              rfl
                                            refine pure_ (i := 15) (N := some 91) (v := ?_) (a' := ?_) #[true, true, true, true, true, true, true, true, true, true, true, true, true, true, true, true, false] rfl rfl (any_of HT_.out (by kernel_rfl)) (fun _ _ _ h => h) (Or.inl ⟨by rfl, ?_⟩) ?_ ?_
                                            rotate_left
                                            · intro w'
                                              go_simp
                                              with_reducible rfl
                                            rotate_left
                                            · simp only [Act.put, List.setIfInBounds_toArray, List.set_cons_zero, List.set_cons_succ, i64_w, i32_w]
                                              rfl
                                            refine last_ (i := 16) (N := none) #[true, true, true, true, true, true, true, true, true, true, true, true, true, true, true, true, true] rfl rfl (one_of HT_.out (by kernel_rfl)) (by decide) (fun K hK => ?_)
                                            refine skip_ (w1 := ?_) (by rfl) rfl ?_ ?_
                                            rotate_left
                                            · go_simp
                                              rfl
                                            refine hK.out _ _ ?_
                                            clear hK K
                                            refine done_ (done_of HT_.out (by kernel_rfl)) ?_
                                            try go_wp2_with (first | ((with_reducible refine gate_callee (f := 9) rfl ?_); refine goesL_ (some 94) rfl rfl Try.func9 (by kernel_rfl) rfl #[.slice (some ad132) t101.length co7, .slice (some ⟨go30, 0, none⟩) x7_30.length co30] rfl (by (try simp only [List.map_toArray, List.map_cons, List.map_nil]); first | done | rfl | (simp only [List.length_drop, List.length_take]; rfl)) ?_; (with_reducible refine (impl_SectionsValid.calls kj30 _ _ t101 _ _ x7_30 true _ ?side1 ?side2 ?side3 ?side4 A47.out).mono ?_); (case side1 => refine (Kd.R_reads' (e := 33) (base := w.heap.size) (ok := fun k_ => True) (n := t101.length) (c := co7) ?_).2.2; exact (by (with_reducible repeat (first | apply Kd.R_alloc | apply Kd.R_drewN | apply Kd.R_drew)); exact (Kd.R_mono (Kd.R_far (p := ⟨go46, (x6_2 : Int).toNat * 3 + 1, none⟩) (Kd.R_types HO_3.out GG46.out (by decide)) (fun _ hk => hk.2) (.int .i64 (wrap64 ((wrap64 (((rd_T33 t101 x6_2).f0) - ((rd_T31 x4_2 x6_2).f0))) + 1)))) (fun _ h_ => h_.1)))); (case side2 => exact (Kd.R_reads' HO_3.out).2.1); (case side3 => refine (Kd.R_reads' (e := 31) (base := w.heap.size) (ok := fun k_ => (some k_ ≠ (.slice (some ad115) x4_2.length co8 : Value).ownBlock ∧ some k_ ≠ (.slice (some ⟨go46, 0, none⟩) y129.length co46 : Value).ownBlock)) (n := x7_30.length) (c := co30) ?_).2.2; exact (by (with_reducible repeat (first | apply Kd.R_alloc | apply Kd.R_drewN | apply Kd.R_drew)); exact (Kd.R_mono (Kd.R_far (p := ⟨go46, (x6_2 : Int).toNat * 3 + 1, none⟩) (Kd.R_mono HO_7.out (fun k_ hk => (⟨hk, fun e_ => hk.2 (by rw [e_]; rfl)⟩ : _ ∧ k_ ≠ go46))) (fun _ hk => hk.2) (.int .i64 (wrap64 ((wrap64 (((rd_T33 t101 x6_2).f0) - ((rd_T31 x4_2 x6_2).f0))) + 1)))) (fun _ h_ => h_.1)))); (case side4 => exact (Kd.R_reads' HO_7.out).2.1); rintro e w63 ⟨rfl, hb⟩; refine ⟨_, rfl, ?_⟩; have n0_ := Aside0.mk (Kd.R_below (by (with_reducible repeat (first | apply Kd.R_alloc | apply Kd.R_drewN | apply Kd.R_drew)); exact (Kd.R_mono (Kd.R_far (p := ⟨go46, (x6_2 : Int).toNat * 3 + 1, none⟩) (Kd.R_types HO_3.out GG46.out (by decide)) (fun _ hk => hk.2) (.int .i64 (wrap64 ((wrap64 (((rd_T33 t101 x6_2).f0) - ((rd_T31 x4_2 x6_2).f0))) + 1)))) (fun _ h_ => h_.1))) hb); have n1_ := Aside0.mk (Kd.R_below (by (with_reducible repeat (first | apply Kd.R_alloc | apply Kd.R_drewN | apply Kd.R_drew)); exact (Kd.R_mono (Kd.R_far (p := ⟨go46, (x6_2 : Int).toNat * 3 + 1, none⟩) (Kd.R_mono HO_4.out (fun k_ hk => (⟨hk, fun e_ => hk.2 (by rw [e_]; rfl)⟩ : _ ∧ k_ ≠ go46))) (fun _ hk => hk.2) (.int .i64 (wrap64 ((wrap64 (((rd_T33 t101 x6_2).f0) - ((rd_T31 x4_2 x6_2).f0))) + 1)))) (fun _ h_ => h_.1))) hb); have n2_ := Aside0.mk (Kd.R_below (by (with_reducible repeat (first | apply Kd.R_alloc | apply Kd.R_drewN | apply Kd.R_drew)); exact (Kd.R_mono (Kd.R_far (p := ⟨go46, (x6_2 : Int).toNat * 3 + 1, none⟩) (Kd.R_mono HO_7.out (fun k_ hk => (⟨hk, fun e_ => hk.2 (by rw [e_]; rfl)⟩ : _ ∧ k_ ≠ go46))) (fun _ hk => hk.2) (.int .i64 (wrap64 ((wrap64 (((rd_T33 t101 x6_2).f0) - ((rd_T31 x4_2 x6_2).f0))) + 1)))) (fun _ h_ => h_.1))) hb); have n3_ := Aside0.mk (Kd.R_below (by (with_reducible repeat (first | apply Kd.R_alloc | apply Kd.R_drewN | apply Kd.R_drew)); exact HQ62.out) hb); have n4_ := Aside0.mk (below_step (by repeat (first | (with_reducible first | exact HB.out | apply below_alloc | apply pw_below_drewN | apply below_drew1 | refine below_set ?_ GB46.out) | exact HB.out)) hb); clear HO_3; clear HO_4; clear HO_7; clear HO131; clear HB; have HO_3 := n0_; have HO_4 := n1_; have HO_7 := n2_; have HO131 := n3_; have HB := n4_; clear n0_ n1_ n2_ n3_ n4_; (try clear hb); (try clear hb2); (try clear hk); (try clear hi)) | (go_at_call 9; refine calls_of_args (args' := #[.slice (some ad132) t101.length co7, .slice (some ⟨go46, 0, none⟩) y134.length co46]) (by first | (rw [show y134.length = y129.length from (Kd.R_reads' HO131.out).1.symm] <;> rfl) | rfl) ?_; (with_reducible refine (impl_SectionsValid.calls kj30 _ _ t101 _ _ y134 false _ ?side1 ?side2 ?side3 ?side4 A49.out).mono ?_); (case side1 => repeat (first | exact (Kd.R_reads' HO_3.out).2.2 | (with_reducible refine Kd.C_alloc ?_ _) | (with_reducible refine Kd.C_drewN ?_ _) | (with_reducible refine Kd.C_drew ?_))); (case side2 => exact (Kd.R_reads' HO_3.out).2.1); (case side3 => repeat (first | exact (Kd.R_reads' HO131.out).2.2 | (with_reducible refine Kd.C_alloc ?_ _) | (with_reducible refine Kd.C_drewN ?_ _) | (with_reducible refine Kd.C_drew ?_))); (case side4 => rw [show y134.length = y129.length from (Kd.R_reads' HO131.out).1.symm]; exact (Kd.R_reads' HO131.out).2.1); rintro e w64 ⟨rfl, hb⟩; have n0_ := Aside0.mk (Kd.R_below (by (with_reducible repeat (first | apply Kd.R_alloc | apply Kd.R_drewN | apply Kd.R_drew)); exact HO_3.out) hb); have n1_ := Aside0.mk (Kd.R_below (by (with_reducible repeat (first | apply Kd.R_alloc | apply Kd.R_drewN | apply Kd.R_drew)); exact HO_4.out) hb); have n2_ := Aside0.mk (Kd.R_below (by (with_reducible repeat (first | apply Kd.R_alloc | apply Kd.R_drewN | apply Kd.R_drew)); exact HO_7.out) hb); have n3_ := Aside0.mk (Kd.R_below (by (with_reducible repeat (first | apply Kd.R_alloc | apply Kd.R_drewN | apply Kd.R_drew)); exact HO131.out) hb); have n4_ := Aside0.mk (below_step (by repeat (first | (with_reducible first | exact HB.out | apply below_alloc | apply pw_below_drewN | apply below_drew1) | exact HB.out)) hb); clear HO_3; clear HO_4; clear HO_7; clear HO131; clear HB; have HO_3 := n0_; have HO_4 := n1_; have HO_7 := n2_; have HO131 := n3_; have HB := n4_; clear n0_ n1_ n2_ n3_ n4_; (try clear hb); (try clear hb2); (try clear hk); (try clear hi)))
                                            (try simp only [← hl4_2, ← hl7_30])
                                            go_roundg kj30
                                            case measure => have := HJ4.out; have := HK2.out; have := HJ30.out; omega
                                            case rel => exact ⟨(x4_2), (wrap64 (x6_2 + 1)), (by first | rfl | (simp; done) | (simp [*]; done)), H', ⟨by have := HJ4.out; have := HK2.out; have := HJ30.out; omega⟩, ⟨by (try simp only [hl4_2]); (try simp only [hl7_30]); (with_reducible repeat (first | apply Kd.R_alloc | apply Kd.R_drewN | apply Kd.R_drew)); exact HO_3.out⟩, ⟨by (try simp only [hl4_2]); (try simp only [hl7_30]); (with_reducible repeat (first | apply Kd.R_alloc | apply Kd.R_drewN | apply Kd.R_drew)); exact Kd.R_mono HO_4.out (fun _ hk => trivial)⟩, ⟨by repeat (first | (with_reducible first | exact HB.out | apply below_alloc | apply pw_below_drewN | apply below_drew1) | exact HB.out)⟩⟩
                                        · replace c48 := Bool.eq_false_iff.mpr c48
                                          subst c48
                                          have H1 : (some false) = some r := by rw [if_neg (show ¬ (false = true) by decide)] at H; exact H
                                          clear H
                                          have H := H1
                                          clear H1
                                          obtain rfl := Option.some.inj H
                                          try go_wp2_with (first | ((with_reducible refine gate_dst (N := 73) rfl ?_); (try (refine gate_guard (by rfl) ?_; dsimp only)); refine Kd.R_lit k31 _ 31 ?hg (N := 73) ?hd (xs := ([] : List (S31))) (inner := []) (ok := fun _ => True) (okp := fun _ => True) ?hr ?hp (fun _ hk => hk) trivial (Below.refl _ _) (Nat.le_refl _) (by simp) ?_; (case hd => rfl); (case hg => rfl); (case hr => first | (go_simp; done) | (go_simp; rfl)); (case hp => exact (Reps.none _ _)); intro v127 w65 ho66 hb hg_ hnew_; clear hg_ hnew_; (first | rw [← Ny126.out] at ho66 | (simp only [Int.reduceToNat] at ho66; rw [← Ny126.out] at ho66)); have n0_ := Aside0.mk (Kd.R_below (by (with_reducible repeat (first | apply Kd.R_alloc | apply Kd.R_drewN | apply Kd.R_drew)); exact HO_3.out) hb); have n1_ := Aside0.mk (Kd.R_elder' (by (with_reducible repeat (first | apply Kd.R_alloc | apply Kd.R_drewN | apply Kd.R_drew)); exact HO_4.out) (Kd.R_base ho66) hb); have n2_ := Aside0.mk (Kd.R_elder' (by (with_reducible repeat (first | apply Kd.R_alloc | apply Kd.R_drewN | apply Kd.R_drew)); exact HO_7.out) (Kd.R_base ho66) hb); have n3_ := Aside0.mk (Kd.R_lower (Kd.R_new' (Kd.R_new' ho66 (Kd.R_lt (by (with_reducible repeat (first | apply Kd.R_alloc | apply Kd.R_drewN | apply Kd.R_drew)); exact HO_4.out))) (Kd.R_lt (by (with_reducible repeat (first | apply Kd.R_alloc | apply Kd.R_drewN | apply Kd.R_drew)); exact HO_7.out))) (below_size (by repeat (first | (with_reducible first | exact HB.out | apply below_alloc | apply pw_below_drewN | apply below_drew1) | exact HB.out)))); have n4_ := Aside0.mk (below_step (by repeat (first | (with_reducible first | exact HB.out | apply below_alloc | apply pw_below_drewN | apply below_drew1) | exact HB.out)) hb); clear HO_3; clear HO_4; clear HO_7; clear HB; have HO_3 := n0_; have HO_4 := n1_; have HO_7 := n2_; have HO128 := n3_; have HB := n4_; clear n0_ n1_ n2_ n3_ n4_; clear hb ho66) | ((with_reducible refine gate_builtin (b := .append) (xs := #[.tmp 73, .tmp 74]) rfl ?_); (try (refine gate_guard (by rfl) ?_; dsimp only)); at_builtin; refine Kd.R_append_rows k31 (w0 := w) w.heap.size rfl (.tmp 73) (.tmp 74) 24 31 (.agg #[(.int .i64 0), (.int .i64 0), (.int .i64 0)]) 24 rfl Try.underlying24 info31 rfl (by decide) (by omega) v127 y126 x4_2 _ _ _ (fun k_ => some k_ ≠ (.slice (some ad115) x4_2.length co8 : Value).ownBlock ∧ some k_ ≠ (.slice (some ⟨go30, 0, none⟩) x7_30.length co30 : Value).ownBlock) (fun _ => False) rfl rfl ?aO ?aR (fun _ _ h => h) (fun _ h => h.elim) ?aF ?aB ?aS ?aL ?_; (case aR => repeat (first | exact (Kd.R_reads' HO_4.out).2.2 | (with_reducible refine Kd.C_alloc ?_ _) | (with_reducible refine Kd.C_drewN ?_ _) | (with_reducible refine Kd.C_drew ?_))); (case aB => exact (by repeat (first | (with_reducible first | exact HB.out | apply below_alloc | apply pw_below_drewN | apply below_drew1) | exact HB.out))); (case aF => exact (fun k_ hk => ⟨Kd.fresh' (Kd.R_lt (by (with_reducible repeat (first | apply Kd.R_alloc | apply Kd.R_drewN | apply Kd.R_drew)); exact HO_4.out)) k_ hk, Kd.fresh' (Kd.R_lt (by (with_reducible repeat (first | apply Kd.R_alloc | apply Kd.R_drewN | apply Kd.R_drew)); exact HO_7.out)) k_ hk⟩)); (case aO => exact (by (with_reducible repeat (first | apply Kd.R_alloc | apply Kd.R_drewN | apply Kd.R_drew)); exact Kd.R_mono HO128.out (fun _ hk => ⟨hk.1.2, hk.2⟩))); (case aS => exact (below_size (by repeat (first | (with_reducible first | exact HB.out | apply below_alloc | apply pw_below_drewN | apply below_drew1) | exact HB.out)))); (case aL => have := LMc41.out; omega); intro v130 w67 ho hb hg hat; rw [← Ny129.out] at ho; have n0_ := Aside0.mk (Kd.R_over' (by (with_reducible repeat (first | apply Kd.R_alloc | apply Kd.R_drewN | apply Kd.R_drew)); exact HO_3.out) (Kd.R_typed (by (with_reducible repeat (first | apply Kd.R_alloc | apply Kd.R_drewN | apply Kd.R_drew)); exact HO128.out)) (by decide) hg); have n1_ := Aside0.mk (Kd.R_after (ok := (fun k_ => some k_ ≠ (.slice (some ⟨go30, 0, none⟩) x7_30.length co30 : Value).ownBlock)) (by (with_reducible repeat (first | apply Kd.R_alloc | apply Kd.R_drewN | apply Kd.R_drew)); exact HO_4.out) hg hat); have n2_ := Aside0.mk (Kd.R_after (ok := (fun k_ => some k_ ≠ (.slice (some ad115) x4_2.length co8 : Value).ownBlock)) (by (with_reducible repeat (first | apply Kd.R_alloc | apply Kd.R_drewN | apply Kd.R_drew)); exact HO_7.out) hg hat); have n3_ := Aside0.mk (hb); have n4_ := Aside0.mk (ho); clear HO_3; clear HO_4; clear HO_7; clear HB; clear HO128; have HO_3 := n0_; have HO_4 := n1_; have HO_7 := n2_; have HB := n3_; have HO131 := n4_; clear n0_ n1_ n2_ n3_ n4_; clear ho hb hg hat))
                                          have n0_ := Aside0.mk (Kd.R_drew HO_3.out)
                                          have n1_ := Aside0.mk (Kd.R_drew HO_4.out)
                                          have n2_ := Aside0.mk (Kd.R_drew HO_7.out)
                                          have n3_ := Aside0.mk (Kd.R_drew HO131.out)
                                          have n4_ := Aside0.mk (below_drew1 HB.out)
                                          clear HO_3
                                          clear HO_4
                                          clear HO_7
                                          clear HO131
                                          clear HB
                                          have HO_3 := n0_
                                          have HO_4 := n1_
                                          have HO_7 := n2_
                                          have HO131 := n3_
                                          have HB := n4_
                                          clear n0_ n1_ n2_ n3_ n4_
                                          have p132 : 0 ≤ (x6_2 : Int) := of_decide_eq_true (by first | (with_reducible assumption) | assumption)
                                          have q132 : x6_2 < (t101.length : Int) := of_decide_eq_true (by first | (with_reducible assumption) | assumption)
                                          obtain ⟨ad132, e132, hx132_0, hx132_1, hx132_2⟩ := at_T33 (Kd.R_reads' HO_3.out).2.2 x6_2 p132 q132
                                          cases e132
                                          replace p132 := eq_true p132
                                          replace q132 := eq_true q132
                                          have p133 : 0 ≤ (x6_2 : Int) := of_decide_eq_true (by first | (with_reducible assumption) | assumption)
                                          have q133 : x6_2 < (x4_2.length : Int) := of_decide_eq_true (by first | (with_reducible assumption) | assumption)
                                          obtain ⟨ad133, e133, hx133_0, hx133_1, hx133_2⟩ := at_T31 (Kd.R_reads' HO_4.out).2.2 x6_2 p133 q133
                                          obtain rfl : ad115 = ad133 := (by injection e133)
                                          replace p133 := eq_true p133
                                          replace q133 := eq_true q133
                                          have p46 : 0 ≤ (x6_2 : Int) := of_decide_eq_true (by first | (with_reducible assumption) | assumption)
                                          have q46 : (x6_2 : Int) < ((y129.length : Int) : Int) := of_decide_eq_true (by first | (with_reducible assumption) | assumption)
                                          obtain ⟨go46, co46, eo46, gb46, gl46, cl46, HG46⟩ := Kd.R_form HO131.out (by omega)
                                          (first | cases eo46 | (injection eo46 with ea_ en_ ec_; (first | subst ea_ | (injection ea_ with ea_; subst ea_)); subst ec_; clear en_))
                                          have GB46 := Aside0.mk gb46
                                          have GG46 := Aside0.mk HG46
                                          clear gb46 gl46 HG46
                                          obtain ⟨ce46, hcl46, hM46, hcc46, hfr46⟩ := Kd.R_elem HO131.out z31 (x6_2 : Int) p46 q46
                                          obtain rfl := k31_openM hM46
                                          have hx46_0 : World.cell? _ ⟨go46, (x6_2 : Int).toNat * 3, none⟩ = some (.int .i64 ((rd_T31 y129 x6_2).f0)) := hcc46 0 _ rfl
                                          have hx46_1 : World.cell? _ ⟨go46, (x6_2 : Int).toNat * 3 + 1, none⟩ = some (.int .i64 ((rd_T31 y129 x6_2).f1)) := hcc46 1 _ rfl
                                          have hx46_2 : World.cell? _ ⟨go46, (x6_2 : Int).toNat * 3 + 2, none⟩ = some (.int .i64 ((rd_T31 y129 x6_2).f2)) := hcc46 2 _ rfl
                                          have hf46_0 : World.frozen? _ ⟨go46, (x6_2 : Int).toNat * 3, none⟩ = false := hfr46 0
                                          have hf46_1 : World.frozen? _ ⟨go46, (x6_2 : Int).toNat * 3 + 1, none⟩ = false := hfr46 1
                                          have hf46_2 : World.frozen? _ ⟨go46, (x6_2 : Int).toNat * 3 + 2, none⟩ = false := hfr46 2
                                          clear hcl46 hcc46 hfr46 hM46
                                          replace p46 := eq_true p46
                                          replace q46 := eq_true q46
                                          obtain ⟨ce69, hcl69, hM69, hcc69, hfr69⟩ := Kd.R_elem HO131.out z31 (x6_2 : Int) (of_decide_eq_true (by first | (with_reducible assumption) | assumption)) (by have h_ : (x6_2 : Int) < ((y129.length : Int) : Int) := of_decide_eq_true (by first | (with_reducible assumption) | assumption); first | exact h_ | (have e_ := (Kd.R_reads' HO131.out).1; omega) | simpa using h_)
                                          obtain rfl := k31_openM hM69
                                          have HP69 := (Kd.R_seg HO131.out (x6_2 : Int) (of_decide_eq_true (by first | (with_reducible assumption) | assumption)) (by have h_ : (x6_2 : Int) < ((y129.length : Int) : Int) := of_decide_eq_true (by first | (with_reducible assumption) | assumption); first | exact h_ | (have e_ := (Kd.R_reads' HO131.out).1; omega) | simpa using h_) (seg := [.int .i64 (wrap64 ((wrap64 (((rd_T33 t101 x6_2).f0) - ((rd_T31 x4_2 x6_2).f0))) + 1))]) (j := 1) hcl69 hcc69 (show 2 ≤ 3 from by decide) (x' := (⟨(rd_T31 y129 x6_2).f0, wrap64 ((wrap64 (((rd_T33 t101 x6_2).f0) - ((rd_T31 x4_2 x6_2).f0))) + 1), (rd_T31 y129 x6_2).f2⟩ : S31)) (k31_mkM _ _ _ (⟨(rd_T31 y129 x6_2).f0, wrap64 ((wrap64 (((rd_T33 t101 x6_2).f0) - ((rd_T31 x4_2 x6_2).f0))) + 1), (rd_T31 y129 x6_2).f2⟩ : S31) ) (fun _ hk => hk)).1
                                          rw [← Ny134.out] at HP69
                                          have HQ69 := Aside0.mk HP69
                                          clear hcl69 hcc69 hfr69 hM69 HP69
                                          refine start_ (n := 17) (S := fun w' => w'.cell? (ad132.add ((x6_2).toNat * 3)) = some (.int .i64 ((rd_T33 t101 x6_2).f0)) ∧ w'.cell? ⟨(ad132.add ((x6_2).toNat * 3)).block, (ad132.add ((x6_2).toNat * 3)).off + 1, none⟩ = some (.int .i64 ((rd_T33 t101 x6_2).f1)) ∧ w'.cell? ⟨(ad132.add ((x6_2).toNat * 3)).block, (ad132.add ((x6_2).toNat * 3)).off + 2, none⟩ = some (.int .i64 ((rd_T33 t101 x6_2).f2)) ∧ w'.cell? (ad115.add ((x6_2).toNat * 3)) = some (.int .i64 ((rd_T31 x4_2 x6_2).f0)) ∧ w'.cell? ⟨(ad115.add ((x6_2).toNat * 3)).block, (ad115.add ((x6_2).toNat * 3)).off + 1, none⟩ = some (.int .i64 ((rd_T31 x4_2 x6_2).f1)) ∧ w'.cell? ⟨(ad115.add ((x6_2).toNat * 3)).block, (ad115.add ((x6_2).toNat * 3)).off + 2, none⟩ = some (.int .i64 ((rd_T31 x4_2 x6_2).f2))) (ds := [16]) #[false, false, false, false, false, false, false, false, false, false, false, false, false, false, false, false, false] (by kernel_rfl) rfl rfl ⟨hx132_0, hx132_1, hx132_2, hx133_0, hx133_1, hx133_2⟩ (fun hHeld => ?_); refine with_tabW laws_FnSectionsValid.tab18 laws_FnSectionsValid.bits18 (fun HT_ HW_ => ?_)
                                          generalize w67.drew = w68 at HO_3 HO_4 HO_7 HO131 HB GG46 HQ69 hf46_0 hf46_1 hf46_2 hx132_0 hx132_1 hx132_2 hx133_0 hx133_1 hx133_2 hx46_0 hx46_1 hx46_2 hHeld ⊢
                                          refine pure_ (i := 0) (N := some 76) (v := ?_) (a' := ?_) #[true, false, false, false, false, false, false, false, false, false, false, false, false, false, false, false, false] rfl rfl (any_of HT_.out (by kernel_rfl)) (fun _ _ _ h => h) (Or.inl ⟨by rfl, ?_⟩) ?_ ?_
                                          rotate_left
                                          · intro w'
                                            go_simp
                                            with_reducible rfl
                                          rotate_left
                                          · simp only [Act.put, List.setIfInBounds_toArray, List.set_cons_zero, List.set_cons_succ, i64_w, i32_w]
                                            rfl
                                          refine pure_ (i := 1) (N := some 77) (v := ?_) (a' := ?_) #[true, true, false, false, false, false, false, false, false, false, false, false, false, false, false, false, false] rfl rfl (any_of HT_.out (by kernel_rfl)) (fun _ _ _ h => h) (Or.inl ⟨by rfl, ?_⟩) ?_ ?_
                                          rotate_left
                                          · intro w'
                                            go_simp
                                            with_reducible rfl
                                          rotate_left
                                          · simp only [Act.put, List.setIfInBounds_toArray, List.set_cons_zero, List.set_cons_succ, i64_w, i32_w]
                                            rfl
                                          refine pure_ (i := 2) (N := some 78) (v := ?_) (a' := ?_) #[true, true, true, false, false, false, false, false, false, false, false, false, false, false, false, false, false] rfl rfl (any_of HT_.out (by kernel_rfl)) (fun _ _ _ h => h) (Or.inl ⟨by rfl, ?_⟩) ?_ ?_
                                          rotate_left
                                          · intro w'
                                            go_simp
                                            with_reducible rfl
                                          rotate_left
                                          · simp only [Act.put, List.setIfInBounds_toArray, List.set_cons_zero, List.set_cons_succ, i64_w, i32_w]
                                            rfl
                                          refine pure_ (i := 3) (N := some 79) (v := ?_) (a' := ?_) #[true, true, true, true, false, false, false, false, false, false, false, false, false, false, false, false, false] rfl rfl (any_of HT_.out (by kernel_rfl)) (fun _ _ _ h => h) (Or.inl ⟨by rfl, ?_⟩) ?_ ?_
                                          rotate_left
                                          · intro w'
                                            go_simp
                                            with_reducible rfl
                                          rotate_left
                                          · simp only [Act.put, List.setIfInBounds_toArray, List.set_cons_zero, List.set_cons_succ, i64_w, i32_w]
                                            rfl
                                          refine pure_ (i := 4) (N := some 80) (v := ?_) (a' := ?_) #[true, true, true, true, true, false, false, false, false, false, false, false, false, false, false, false, false] rfl rfl (any_of HT_.out (by kernel_rfl)) (fun _ _ _ h => h) (Or.inl ⟨by rfl, ?_⟩) ?_ ?_
                                          rotate_left
                                          · intro w'
                                            go_simp
                                            with_reducible rfl
                                          rotate_left
                                          · simp only [Act.put, List.setIfInBounds_toArray, List.set_cons_zero, List.set_cons_succ, i64_w, i32_w]
                                            rfl
                                          refine pure_ (i := 5) (N := some 81) (v := ?_) (a' := ?_) #[true, true, true, true, true, true, false, false, false, false, false, false, false, false, false, false, false] rfl rfl (any_of HT_.out (by kernel_rfl)) (fun _ _ _ h => h) (Or.inl ⟨by rfl, ?_⟩) ?_ ?_
                                          rotate_left
                                          · intro w'
                                            go_simp
                                            with_reducible rfl
                                          rotate_left
                                          · simp only [Act.put, List.setIfInBounds_toArray, List.set_cons_zero, List.set_cons_succ, i64_w, i32_w]
                                            rfl
                                          refine pure_ (i := 7) (N := some 83) (v := ?_) (a' := ?_) #[true, true, true, true, true, true, false, true, false, false, false, false, false, false, false, false, false] rfl rfl (any_of HT_.out (by kernel_rfl)) (fun _ _ _ h => h) (Or.inl ⟨by rfl, ?_⟩) ?_ ?_
                                          rotate_left
                                          · intro w'
                                            go_simp
                                            with_reducible rfl
                                          rotate_left
                                          · simp only [Act.put, List.setIfInBounds_toArray, List.set_cons_zero, List.set_cons_succ, i64_w, i32_w]
                                            rfl
                                          refine pure_ (i := 8) (N := some 84) (v := ?_) (a' := ?_) #[true, true, true, true, true, true, false, true, true, false, false, false, false, false, false, false, false] rfl rfl (any_of HT_.out (by kernel_rfl)) (fun _ _ _ h => h) (Or.inl ⟨by rfl, ?_⟩) ?_ ?_
                                          rotate_left
                                          · intro w'
                                            go_simp
                                            with_reducible rfl
                                          rotate_left
                                          · simp only [Act.put, List.setIfInBounds_toArray, List.set_cons_zero, List.set_cons_succ, i64_w, i32_w]
                                            rfl
                                          refine pure_ (i := 9) (N := some 85) (v := ?_) (a' := ?_) #[true, true, true, true, true, true, false, true, true, true, false, false, false, false, false, false, false] rfl rfl (any_of HT_.out (by kernel_rfl)) (fun _ _ _ h => h) (Or.inl ⟨by rfl, ?_⟩) ?_ ?_
                                          rotate_left
                                          · intro w'
                                            go_simp
                                            with_reducible rfl
                                          rotate_left
                                          · simp only [Act.put, List.setIfInBounds_toArray, List.set_cons_zero, List.set_cons_succ, i64_w, i32_w]
                                            rfl
                                          refine pure_ (i := 10) (N := some 86) (v := ?_) (a' := ?_) #[true, true, true, true, true, true, false, true, true, true, true, false, false, false, false, false, false] rfl rfl (any_of HT_.out (by kernel_rfl)) (fun _ _ _ h => h) (Or.inl ⟨by rfl, ?_⟩) ?_ ?_
                                          rotate_left
                                          · intro w'
                                            go_simp
                                            with_reducible rfl
                                          rotate_left
                                          · simp only [Act.put, List.setIfInBounds_toArray, List.set_cons_zero, List.set_cons_succ, i64_w, i32_w]
                                            rfl
                                          refine take_ (i := 6) (N := some 82) (v := ?_) (a' := ?_) #[true, true, true, true, true, true, true, true, true, true, true, false, false, false, false, false, false] rfl rfl (take_ofW HT_.out HW_.out (by kernel_rfl)) (fun _ _ _ h => h) (Or.inl ⟨by rfl, ?_⟩) hHeld ?_ ?_
                                          rotate_left
                                          · rintro w' ⟨s0, s1, s2, s3, s4, s5⟩
                                            go_simp
                                            with_reducible rfl
                                          rotate_left
                                          · simp only [Act.put, List.setIfInBounds_toArray, List.set_cons_zero, List.set_cons_succ, i64_w, i32_w]
                                            rfl
                                          refine take_ (i := 11) (N := some 87) (v := ?_) (a' := ?_) #[true, true, true, true, true, true, true, true, true, true, true, true, false, false, false, false, false] rfl rfl (take_ofW HT_.out HW_.out (by kernel_rfl)) (fun _ _ _ h => h) (Or.inl ⟨by rfl, ?_⟩) hHeld ?_ ?_
                                          rotate_left
                                          · rintro w' ⟨s0, s1, s2, s3, s4, s5⟩
                                            go_simp
                                            with_reducible rfl
                                          rotate_left
                                          · simp only [Act.put, List.setIfInBounds_toArray, List.set_cons_zero, List.set_cons_succ, i64_w, i32_w]
                                            rfl
                                          refine pure_ (i := 12) (N := some 88) (v := ?_) (a' := ?_) #[true, true, true, true, true, true, true, true, true, true, true, true, true, false, false, false, false] rfl rfl (any_of HT_.out (by kernel_rfl)) (fun _ _ _ h => h) (Or.inl ⟨by rfl, ?_⟩) ?_ ?_
                                          rotate_left
                                          · intro w'
                                            go_simp
                                            with_reducible rfl
                                          rotate_left
                                          · simp only [Act.put, List.setIfInBounds_toArray, List.set_cons_zero, List.set_cons_succ, i64_w, i32_w]
                                            rfl
                                          refine pure_ (i := 13) (N := some 89) (v := ?_) (a' := ?_) #[true, true, true, true, true, true, true, true, true, true, true, true, true, true, false, false, false] rfl rfl (any_of HT_.out (by kernel_rfl)) (fun _ _ _ h => h) (Or.inl ⟨by rfl, ?_⟩) ?_ ?_
                                          rotate_left
                                          · intro w'
                                            go_simp
                                            with_reducible rfl
                                          rotate_left
                                          · simp only [Act.put, List.setIfInBounds_toArray, List.set_cons_zero, List.set_cons_succ, i64_w, i32_w]
                                            rfl
                                          refine pure_ (i := 14) (N := some 90) (v := ?_) (a' := ?_) #[true, true, true, true, true, true, true, true, true, true, true, true, true, true, true, false, false] rfl rfl (any_of HT_.out (by kernel_rfl)) (fun _ _ _ h => h) (Or.inl ⟨by rfl, ?_⟩) ?_ ?_
                                          rotate_left
                                          · intro w'
                                            go_simp
                                            with_reducible rfl
                                          rotate_left
                                          · simp only [Act.put, List.setIfInBounds_toArray, List.set_cons_zero, List.set_cons_succ, i64_w, i32_w]
                                            rfl
                                          refine pure_ (i := 15) (N := some 91) (v := ?_) (a' := ?_) #[true, true, true, true, true, true, true, true, true, true, true, true, true, true, true, true, false] rfl rfl (any_of HT_.out (by kernel_rfl)) (fun _ _ _ h => h) (Or.inl ⟨by rfl, ?_⟩) ?_ ?_
                                          rotate_left
                                          · intro w'
                                            go_simp
                                            with_reducible rfl
                                          rotate_left
                                          · simp only [Act.put, List.setIfInBounds_toArray, List.set_cons_zero, List.set_cons_succ, i64_w, i32_w]
                                            rfl
                                          refine last_ (i := 16) (N := none) #[true, true, true, true, true, true, true, true, true, true, true, true, true, true, true, true, true] rfl rfl (one_of HT_.out (by kernel_rfl)) (by decide) (fun K hK => ?_)
                                          refine skip_ (w1 := ?_) (by rfl) rfl ?_ ?_
                                          rotate_left
                                          · go_simp
                                            rfl
                                          refine hK.out _ _ ?_
                                          clear hK K
                                          refine done_ (done_of HT_.out (by kernel_rfl)) ?_
                                          try go_wp2_with (first | ((with_reducible refine gate_callee (f := 9) rfl ?_); refine goesL_ (some 94) rfl rfl Try.func9 (by kernel_rfl) rfl #[.slice (some ad132) t101.length co7, .slice (some ⟨go30, 0, none⟩) x7_30.length co30] rfl (by (try simp only [List.map_toArray, List.map_cons, List.map_nil]); first | done | rfl | (simp only [List.length_drop, List.length_take]; rfl)) ?_; (with_reducible refine (impl_SectionsValid.calls kj30 _ _ t101 _ _ x7_30 false _ ?side1 ?side2 ?side3 ?side4 A47.out).mono ?_); (case side1 => refine (Kd.R_reads' (e := 33) (base := w.heap.size) (ok := fun k_ => True) (n := t101.length) (c := co7) ?_).2.2; exact (by (with_reducible repeat (first | apply Kd.R_alloc | apply Kd.R_drewN | apply Kd.R_drew)); exact (Kd.R_mono (Kd.R_far (p := ⟨go46, (x6_2 : Int).toNat * 3 + 1, none⟩) (Kd.R_types HO_3.out GG46.out (by decide)) (fun _ hk => hk.2) (.int .i64 (wrap64 ((wrap64 (((rd_T33 t101 x6_2).f0) - ((rd_T31 x4_2 x6_2).f0))) + 1)))) (fun _ h_ => h_.1)))); (case side2 => exact (Kd.R_reads' HO_3.out).2.1); (case side3 => refine (Kd.R_reads' (e := 31) (base := w.heap.size) (ok := fun k_ => (some k_ ≠ (.slice (some ad115) x4_2.length co8 : Value).ownBlock ∧ some k_ ≠ (.slice (some ⟨go46, 0, none⟩) y129.length co46 : Value).ownBlock)) (n := x7_30.length) (c := co30) ?_).2.2; exact (by (with_reducible repeat (first | apply Kd.R_alloc | apply Kd.R_drewN | apply Kd.R_drew)); exact (Kd.R_mono (Kd.R_far (p := ⟨go46, (x6_2 : Int).toNat * 3 + 1, none⟩) (Kd.R_mono HO_7.out (fun k_ hk => (⟨hk, fun e_ => hk.2 (by rw [e_]; rfl)⟩ : _ ∧ k_ ≠ go46))) (fun _ hk => hk.2) (.int .i64 (wrap64 ((wrap64 (((rd_T33 t101 x6_2).f0) - ((rd_T31 x4_2 x6_2).f0))) + 1)))) (fun _ h_ => h_.1)))); (case side4 => exact (Kd.R_reads' HO_7.out).2.1); rintro e w70 ⟨rfl, hb⟩; refine ⟨_, rfl, ?_⟩; have n0_ := Aside0.mk (Kd.R_below (by (with_reducible repeat (first | apply Kd.R_alloc | apply Kd.R_drewN | apply Kd.R_drew)); exact (Kd.R_mono (Kd.R_far (p := ⟨go46, (x6_2 : Int).toNat * 3 + 1, none⟩) (Kd.R_types HO_3.out GG46.out (by decide)) (fun _ hk => hk.2) (.int .i64 (wrap64 ((wrap64 (((rd_T33 t101 x6_2).f0) - ((rd_T31 x4_2 x6_2).f0))) + 1)))) (fun _ h_ => h_.1))) hb); have n1_ := Aside0.mk (Kd.R_below (by (with_reducible repeat (first | apply Kd.R_alloc | apply Kd.R_drewN | apply Kd.R_drew)); exact (Kd.R_mono (Kd.R_far (p := ⟨go46, (x6_2 : Int).toNat * 3 + 1, none⟩) (Kd.R_mono HO_4.out (fun k_ hk => (⟨hk, fun e_ => hk.2 (by rw [e_]; rfl)⟩ : _ ∧ k_ ≠ go46))) (fun _ hk => hk.2) (.int .i64 (wrap64 ((wrap64 (((rd_T33 t101 x6_2).f0) - ((rd_T31 x4_2 x6_2).f0))) + 1)))) (fun _ h_ => h_.1))) hb); have n2_ := Aside0.mk (Kd.R_below (by (with_reducible repeat (first | apply Kd.R_alloc | apply Kd.R_drewN | apply Kd.R_drew)); exact (Kd.R_mono (Kd.R_far (p := ⟨go46, (x6_2 : Int).toNat * 3 + 1, none⟩) (Kd.R_mono HO_7.out (fun k_ hk => (⟨hk, fun e_ => hk.2 (by rw [e_]; rfl)⟩ : _ ∧ k_ ≠ go46))) (fun _ hk => hk.2) (.int .i64 (wrap64 ((wrap64 (((rd_T33 t101 x6_2).f0) - ((rd_T31 x4_2 x6_2).f0))) + 1)))) (fun _ h_ => h_.1))) hb); have n3_ := Aside0.mk (Kd.R_below (by (with_reducible repeat (first | apply Kd.R_alloc | apply Kd.R_drewN | apply Kd.R_drew)); exact HQ69.out) hb); have n4_ := Aside0.mk (below_step (by repeat (first | (with_reducible first | exact HB.out | apply below_alloc | apply pw_below_drewN | apply below_drew1 | refine below_set ?_ GB46.out) | exact HB.out)) hb); clear HO_3; clear HO_4; clear HO_7; clear HO131; clear HB; have HO_3 := n0_; have HO_4 := n1_; have HO_7 := n2_; have HO131 := n3_; have HB := n4_; clear n0_ n1_ n2_ n3_ n4_; (try clear hb); (try clear hb2); (try clear hk); (try clear hi)))
                                          go_ret
                                          exact ⟨by first | rfl | (simp [errW_none, errW_some] <;> rfl) | (simp [*, errW_none, errW_some] <;> rfl), by repeat (first | (with_reducible first | exact HB.out | apply below_alloc | apply pw_below_drewN | apply below_drew1) | exact HB.out)⟩
                                      · rw [if_neg c45] at H
                                        exact absurd H (by simp)
                                    · rw [if_neg c44] at H
                                      exact absurd H (by simp)
                                  · rw [if_neg c43] at H
                                    exact absurd H (by simp)
                                · rw [if_neg c42] at H
                                  exact absurd H (by simp)
                              · rw [if_neg c41] at H
                                exact absurd H (by simp)
                        · rw [if_neg c29] at H
                          exact absurd H (by simp)
                      · rw [if_neg c28] at H
                        exact absurd H (by simp)
                  · rw [if_neg c26] at H
                    exact absurd H (by simp)
                · rw [if_neg c25] at H
                  have c25b0 : decide (x6_2 < (x4_2.length : Int)) = false := decide_eq_false c25
                  clear c25
                  obtain rfl := Option.some.inj H
                  go_wp2
                  go_ret
                  exact ⟨by first | rfl | (simp [errW_none, errW_some] <;> rfl) | (simp [*, errW_none, errW_some] <;> rfl), by repeat (first | (with_reducible first | exact HB.out | apply below_alloc | apply pw_below_drewN | apply below_drew1) | exact HB.out)⟩
          · replace c24 := Bool.eq_false_iff.mpr c24
            subst c24
            have H1 : ((laws_alive.f).bind fun t114 => (some t114)) = some r := by rw [if_neg (show ¬ (false = true) by decide)] at H; exact H
            clear H
            have H := H1
            clear H1
            replace H := Option.bind_eq_some_iff.mp H
            obtain ⟨t114, A710, H⟩ := H
            replace H : (some t114) = some r := H
            have A71 := Aside0.mk A710
            clear A710
            obtain rfl := Option.some.inj H
            go_wp2_with (first | ((with_reducible refine gate_callee (f := 12) rfl ?_); refine goesL_ (some 37) rfl rfl Try.func12 (by kernel_rfl) rfl #[] rfl (by (try simp only [List.map_toArray, List.map_cons, List.map_nil]); first | done | rfl | (simp only [List.length_drop, List.length_take]; rfl)) ?_; (with_reducible refine (laws_alive.calls  t114 _ A71.out).mono ?_); rintro e w72 ⟨rfl, hb⟩; refine ⟨_, rfl, ?_⟩; have n0_ := Aside0.mk (Kd.R_below (by (with_reducible repeat (first | apply Kd.R_alloc | apply Kd.R_drewN | apply Kd.R_drew)); exact HO_3.out) hb); have n1_ := Aside0.mk (Kd.R_below (by (with_reducible repeat (first | apply Kd.R_alloc | apply Kd.R_drewN | apply Kd.R_drew)); exact HO_4.out) hb); have n2_ := Aside0.mk (below_step (by repeat (first | (with_reducible first | exact HB.out | apply below_alloc | apply pw_below_drewN | apply below_drew1) | exact HB.out)) hb); clear HO_3; clear HO_4; clear HB; have HO_3 := n0_; have HO_4 := n1_; have HB := n2_; clear n0_ n1_ n2_; (try clear hb); (try clear hb2); (try clear hk); (try clear hi)))
            go_ret
            exact ⟨by first | rfl | (simp [errW_none, errW_some] <;> rfl) | (simp [*, errW_none, errW_some] <;> rfl), by repeat (first | (with_reducible first | exact HB.out | apply below_alloc | apply pw_below_drewN | apply below_drew1) | exact HB.out)⟩

/-- THE ONE PURE STATEMENT of laws_FnSectionsValid: yours. -/
def laws_FnSectionsValid.Pure : Prop := ∀ (l0 : List Int), l0.length ≤ maxLen → l0.length * 1 ≤ 140737488351232 → (∀ x ∈ l0, (Lit.int .u8 x).wf = true) → ∃ k, laws_FnSectionsValid.f k l0 = some true
theorem laws_FnSectionsValid.walk (P : laws_FnSectionsValid.Pure) (a0 : Option Addr) (len0 cap0 : Nat) (z0 : List Int) (w : World) (w0 : (a0 = none ∧ len0 = 0 ∧ cap0 = 0 ∧ z0 = []) ∨ ∃ x, a0 = some x ∧ len0 ≤ cap0 ∧ cap0 ≤ maxLen ∧ z0.length = cap0 ∧ (∀ i, i < z0.length → w.cell? (x.add i) = some (.int .u8 (z0.getD i 0))) ∧ ∀ n ∈ z0, (Lit.int .u8 n).wf = true) (y0 : len0 * 1 ≤ 140737488351232) :
    Calls Try.prog 3 #[.slice a0 len0 cap0] w fun e w' => e = .returned (.bool true) ∧ Below w.heap.size w w' := by
  obtain ⟨l0, rfl, hr0, hm0, hw0, hc0⟩ := ReadsInt.ofRowC w0
  obtain ⟨k, h⟩ := P l0 hm0 y0 hw0
  refine (laws_FnSectionsValid.calls k _ _ l0 true w (Kd.C_of_reads (d := (0 : Int)) (h1 := fun _ => rfl) hr0) hc0 h).mono ?_
  rintro e w' ⟨rfl, hd⟩
  exact ⟨rfl, hd⟩

end Go.Proofs.Ytabjigpbednfnaa.Q
