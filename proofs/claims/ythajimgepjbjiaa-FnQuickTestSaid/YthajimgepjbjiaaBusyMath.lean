import Derived.Test.YthajimgepjbjiaaBusy
set_option linter.unusedSimpArgs false
set_option linter.unusedVariables false
namespace Go.Proofs.Ythajimgepjbjiaa.Pu
open Go.RowKit Go.Proofs.Ythajimgepjbjiaa.Q Go.Proofs.YthajimgepjbjiaaW.PrintWords Go.Proofs.YthajimgepjbjiaaW.PrintLast

/-- What is due in t is released in w or due in what is left. -/
theorem dterm_split {x : Tk} (h : TkOk x) {w t : Int} (hw : 0 ≤ w) (ht : w ≤ t) : dterm t x ≤ wterm w x + dterm (t - w) x := by
  have hb := wterm_bd h hw
  have hd := dterm_bd h (t - w) (by omega)
  unfold TkOk at h
  by_cases hD : x.f1 ≤ t
  · -- c: how many are released in w
    have c0 : 0 ≤ (w + x.f2 - 1) / x.f2 := Int.ediv_nonneg (by omega) (by omega)
    have c1 : w ≤ (w + x.f2 - 1) / x.f2 * x.f2 := by
      have := Int.lt_ediv_add_one_mul_self (w + x.f2 - 1) (show 0 < x.f2 by omega)
      rw [Int.add_mul] at this
      omega
    have q0 : 0 ≤ (t - x.f1) / x.f2 := Int.ediv_nonneg (by omega) (by omega)
    have q1 : (t - x.f1) / x.f2 * x.f2 ≤ t - x.f1 := Int.ediv_mul_le _ (by omega)
    have e1 : dterm t x = ((t - x.f1) / x.f2 + 1) * x.f0 := by unfold dterm; rw [if_pos hD]
    have e2 : wterm w x = (w + x.f2 - 1) / x.f2 * x.f0 := rfl
    by_cases hN : (t - x.f1) / x.f2 + 1 ≤ (w + x.f2 - 1) / x.f2
    · have := Int.mul_le_mul_of_nonneg_right hN (show 0 ≤ x.f0 by omega)
      omega
    · have a1 : (w + x.f2 - 1) / x.f2 * x.f2 ≤ (t - x.f1) / x.f2 * x.f2 := Int.mul_le_mul_of_nonneg_right (by omega) (by omega)
      have a2 : x.f1 ≤ t - w := by omega
      have e3 : dterm (t - w) x = ((t - w - x.f1) / x.f2 + 1) * x.f0 := by unfold dterm; rw [if_pos a2]
      have a3 : (t - x.f1 + x.f2 * (-((w + x.f2 - 1) / x.f2))) / x.f2 ≤ (t - w - x.f1) / x.f2 := by
        refine Int.ediv_le_ediv (by omega) ?_
        rw [Int.mul_neg, Int.mul_comm x.f2]; omega
      rw [Int.add_mul_ediv_left _ _ (by omega)] at a3
      have a4 : ((t - x.f1) / x.f2 + 1) * x.f0 ≤ ((w + x.f2 - 1) / x.f2 + ((t - w - x.f1) / x.f2 + 1)) * x.f0 := Int.mul_le_mul_of_nonneg_right (by omega) (by omega)
      rw [Int.add_mul ((w + x.f2 - 1) / x.f2)] at a4
      omega
  · have e1 : dterm t x = 0 := by unfold dterm; rw [if_neg hD]
    omega
theorem dem_split {l : List Tk} (h : Ok l) {w t : Int} (hw : 0 ≤ w) (ht : w ≤ t) : dem l t ≤ work l w + dem l (t - w) := by
  unfold dem work
  rw [← sumT_add]
  exact sumT_mono l fun x hx => dterm_split (h.all x hx) hw ht
/-- The first overload lies within the busy period. -/
theorem fov_busy {l : List Tk} (h : Ok l) {w : Int} (hw : IsB l w) : fov l ≤ w := by
  rcases fov_spec l with ⟨e, _⟩ | ⟨h1, h2, h3, h4⟩
  · have := hw.lo
    omega
  · rcases Int.lt_or_le w (fov l) with hlt | hle
    · have a := dem_split h (w := w) (t := fov l) (by have := hw.lo; omega) (by omega)
      have b := h4 (fov l - w) (by omega) (by have := hw.lo; omega)
      rw [hw.fix] at a
      omega
    · exact hle
/-- A set is feasible where it is up to the busy period. -/
theorem edf_busy {l : List Tk} (h : Ok l) {w : Int} (hw : IsB l w) (hs : ∀ s, 1 ≤ s → s ≤ w → dem l s ≤ s) : edf l = true := by
  rw [edf_iff]
  refine ⟨h, ?_⟩
  rw [← fov_neg_iff]
  rcases fov_spec l with ⟨e, _⟩ | ⟨h1, h2, h3, h4⟩
  · omega
  · have a := fov_busy h hw
    have b := hs _ h1 a
    omega

end Go.Proofs.Ythajimgepjbjiaa.Pu
