import Derived.Test.YtoocccfhmpmopaaDemDef
import Derived.Test.YtoocccfhmpmopaaWoDef
set_option linter.unusedSimpArgs false
set_option linter.unusedVariables false
namespace Go.Proofs.Ytoocccfhmpmopaa.Pu
open Go.RowKit Go.Proofs.Ytoocccfhmpmopaa.Q Go.Proofs.YtoocccfhmpmopaaW.PrintWords Go.Proofs.YtoocccfhmpmopaaW.PrintLast

theorem dterm_zero {x : Tk} (h : TkOk x) {t : Int} (ht : t < x.f1) : dterm t x = 0 := by
  unfold dterm; rw [if_neg (by omega)]
theorem dterm_mono {x : Tk} (h : TkOk x) {t t' : Int} (ht : t ≤ t') : dterm t x ≤ dterm t' x := by
  unfold TkOk at h
  unfold dterm
  by_cases h1 : x.f1 ≤ t
  · rw [if_pos h1, if_pos (by omega)]
    have : (t - x.f1) / x.f2 ≤ (t' - x.f1) / x.f2 := Int.ediv_le_ediv (by omega) (by omega)
    exact Int.mul_le_mul_of_nonneg_right (by omega) (by omega)
  · rw [if_neg h1]
    by_cases h2 : x.f1 ≤ t'
    · rw [if_pos h2]
      have q0 : 0 ≤ (t' - x.f1) / x.f2 := Int.ediv_nonneg (by omega) (by omega)
      exact Int.mul_nonneg (by omega) (by omega)
    · rw [if_neg h2]; omega
theorem dem_zero {l : List Tk} (h : Ok l) {t : Int} (ht : t ≤ 0) : dem l t = 0 := by
  unfold dem
  rw [sumT_congr (h := fun _ => 0) l (fun x hx => dterm_zero (h.all x hx) (by have := h.all x hx; omega))]
  clear h
  induction l with
  | nil => rfl
  | cons a r ih => simp only [sumT]; omega
theorem dem_mono {l : List Tk} (h : Ok l) {t t' : Int} (ht : t ≤ t') : dem l t ≤ dem l t' := by
  unfold dem; exact sumT_mono l fun x hx => dterm_mono (h.all x hx) ht
theorem dterm_hyper {x : Tk} (hx : TkOk x) {h : Int} (hh : 1 ≤ h) (hd : x.f2 ∣ h) : dterm h x = lterm h x := by
  unfold TkOk at hx
  obtain ⟨q, rfl⟩ := hd
  have hq : 1 ≤ q := by
    rcases Int.lt_or_le q 1 with h0 | h0
    · have : x.f2 * q ≤ 0 := Int.mul_nonpos_of_nonneg_of_nonpos (by omega) (by omega)
      omega
    · exact h0
  have hle : x.f2 * 1 ≤ x.f2 * q := Int.mul_le_mul_of_nonneg_left hq (by omega)
  unfold dterm lterm
  rw [if_pos (by omega), show x.f2 * q - x.f1 = (x.f2 - x.f1) + x.f2 * (q - 1) from by rw [Int.mul_sub]; omega, Int.add_mul_ediv_left _ _ (by omega), Int.ediv_eq_zero_of_lt (by omega) (by omega), Int.mul_ediv_cancel_left _ (by omega)]
  congr 1; omega
theorem dem_hyper {l : List Tk} (h : Ok l) : dem l (hyp l) = ld l := by
  unfold dem ld
  exact sumT_congr l fun x hx => dterm_hyper (h.all x hx) (hyp_bd h).1 (hyp_dvd_mem h x hx)
theorem dem_wo {l : List Tk} (h : Ok l) {j : Nat} (hj : j < l.length) {t : Int} (ht : 0 ≤ t) : dem (wo l j) t ≤ dem l t := by
  unfold dem wo
  rw [sumT_erase _ l j hj]
  have := (dterm_bd (h.all _ (List.getElem_mem hj)) t ht).1
  omega
/-- How many more jobs of a task are due by t, from a deadline d on. -/
def rem (t d P C : Int) : Int := if d ≤ t then ((t - d) / P + 1) * C else 0
theorem rem_step {t d P C : Int} (hP : 1 ≤ P) (h : d ≤ t) : rem t d P C = C + rem t (d + P) P C := by
  unfold rem
  rw [if_pos h]
  by_cases h2 : d + P ≤ t
  · rw [if_pos h2, show t - d = (t - (d + P)) + P * 1 from by omega, Int.add_mul_ediv_left _ _ (by omega), Int.add_mul, Int.add_mul]
    omega
  · rw [if_neg h2, Int.ediv_eq_zero_of_lt (by omega) (by omega)]
    omega
theorem rem_end {t d P C : Int} (h : t < d) : rem t d P C = 0 := by unfold rem; rw [if_neg (by omega)]
theorem rem_dterm (t : Int) (x : Tk) : rem t x.f1 x.f2 x.f0 = dterm t x := rfl
def demO (l : List Tk) (t : Int) : Int := if setOk l = true then (if 0 ≤ t ∧ t ≤ hyp l then dem l t else -1) else -1
theorem demO_in {l : List Tk} (h : Ok l) {t : Int} (h0 : 0 ≤ t) (h1 : t ≤ hyp l) : demO l t = dem l t := by
  unfold demO; rw [if_pos ((setOk_iff _).mpr h), if_pos ⟨h0, h1⟩]

end Go.Proofs.Ytoocccfhmpmopaa.Pu
