import Derived.Test.YtoocccfhmpmopaaDemMath
set_option linter.unusedSimpArgs false
set_option linter.unusedVariables false
namespace Go.Proofs.Ytoocccfhmpmopaa.Pu
open Go.RowKit Go.Proofs.Ytoocccfhmpmopaa.Q Go.Proofs.YtoocccfhmpmopaaW.PrintWords Go.Proofs.YtoocccfhmpmopaaW.PrintLast

/-- The last deadline of a task ahead of t. -/
def lastT (t : Int) (x : Tk) : Int := (t - 1 - x.f1) / x.f2 * x.f2 + x.f1
def lastF (t : Int) : Int → List Tk → Int
  | acc, [] => acc
  | acc, x :: r => lastF t (if x.f1 < t then mx acc (lastT t x) else acc) r
def lastD (l : List Tk) (t : Int) : Int := lastF t 0 l
theorem lastT_bd {x : Tk} (h : TkOk x) {t : Int} (ht : x.f1 < t) : x.f1 ≤ lastT t x ∧ lastT t x < t := by
  unfold TkOk at h
  unfold lastT
  have q0 : 0 ≤ (t - 1 - x.f1) / x.f2 := Int.ediv_nonneg (by omega) (by omega)
  have q1 := Int.ediv_mul_le (t - 1 - x.f1) (b := x.f2) (by omega)
  have q2 : 0 ≤ (t - 1 - x.f1) / x.f2 * x.f2 := Int.mul_nonneg q0 (by omega)
  omega
theorem lastF_spec (t : Int) : ∀ (l : List Tk) (acc : Int), acc ≤ lastF t acc l ∧ (∀ x ∈ l, x.f1 < t → lastT t x ≤ lastF t acc l) ∧ (lastF t acc l = acc ∨ ∃ x ∈ l, x.f1 < t ∧ lastF t acc l = lastT t x)
  | [], acc => ⟨by simp [lastF], by simp, .inl rfl⟩
  | x :: r, acc => by
    simp only [lastF]
    by_cases hx : x.f1 < t
    · rw [if_pos hx]
      obtain ⟨h1, h2, h3⟩ := lastF_spec t r (mx acc (lastT t x))
      have m := mx_bd acc (lastT t x)
      refine ⟨by omega, fun y hy hy2 => ?_, ?_⟩
      · rw [List.mem_cons] at hy
        rcases hy with rfl | hy
        · omega
        · exact h2 y hy hy2
      · rcases h3 with h3 | ⟨y, hy, hy2, h3⟩
        · rcases m.2.2 with m | m
          · exact .inl (by omega)
          · exact .inr ⟨x, by simp, hx, by omega⟩
        · exact .inr ⟨y, by simp [hy], hy2, h3⟩
    · rw [if_neg hx]
      obtain ⟨h1, h2, h3⟩ := lastF_spec t r acc
      refine ⟨h1, fun y hy hy2 => ?_, ?_⟩
      · rw [List.mem_cons] at hy
        rcases hy with rfl | hy
        · omega
        · exact h2 y hy hy2
      · rcases h3 with h3 | ⟨y, hy, hy2, h3⟩
        · exact .inl h3
        · exact .inr ⟨y, by simp [hy], hy2, h3⟩
theorem lastD_bd {l : List Tk} (hok : Ok l) (t : Int) (ht : 0 ≤ t) : 0 ≤ lastD l t ∧ (lastD l t < t ∨ t = 0 ∧ lastD l t = 0) := by
  obtain ⟨h1, h2, h3⟩ := lastF_spec t l 0
  unfold lastD
  refine ⟨h1, ?_⟩
  rcases h3 with h3 | ⟨x, hx, hx2, h3⟩
  · omega
  · have := lastT_bd (hok.all x hx) hx2
    omega
/-- No deadline lies strictly between the last one and t. -/
theorem lastD_max {l : List Tk} (hok : Ok l) (t : Int) {x : Tk} (hx : x ∈ l) {a : Int} (h1 : x.f1 ≤ a) (h2 : (a - x.f1) % x.f2 = 0) (h3 : a < t) : a ≤ lastD l t := by
  have hv := hok.all x hx
  have hle := (lastF_spec t l 0).2.1 x hx (by omega)
  have hq := Int.emod_add_mul_ediv (a - x.f1) x.f2
  have hm : (a - x.f1) / x.f2 ≤ (t - 1 - x.f1) / x.f2 := Int.ediv_le_ediv (by omega) (by omega)
  have hm2 : (a - x.f1) / x.f2 * x.f2 ≤ (t - 1 - x.f1) / x.f2 * x.f2 := Int.mul_le_mul_of_nonneg_right hm (by omega)
  rw [Int.mul_comm x.f2] at hq
  unfold lastD
  unfold lastT at hle
  omega
/-- It is 0 or a deadline. -/
theorem lastD_due {l : List Tk} (hok : Ok l) (t : Int) : lastD l t = 0 ∨ ∃ x ∈ l, x.f1 ≤ lastD l t ∧ (lastD l t - x.f1) % x.f2 = 0 := by
  rcases (lastF_spec t l 0).2.2 with h | ⟨x, hx, hx2, h⟩
  · exact .inl h
  · refine .inr ⟨x, hx, ?_⟩
    have hv := hok.all x hx
    have hb := lastT_bd hv hx2
    unfold lastD
    rw [h]
    refine ⟨hb.1, ?_⟩
    unfold lastT
    rw [show (t - 1 - x.f1) / x.f2 * x.f2 + x.f1 - x.f1 = (t - 1 - x.f1) / x.f2 * x.f2 from by omega, Int.mul_emod_left]

end Go.Proofs.Ytoocccfhmpmopaa.Pu
