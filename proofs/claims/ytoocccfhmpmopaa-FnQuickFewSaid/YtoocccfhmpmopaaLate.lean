import Derived.Test.YtoocccfhmpmopaaSetMath
set_option linter.unusedSimpArgs false
set_option linter.unusedVariables false
namespace Go.Proofs.Ytoocccfhmpmopaa.Pu
open Go.RowKit Go.Proofs.Ytoocccfhmpmopaa.Q Go.Proofs.YtoocccfhmpmopaaW.PrintWords Go.Proofs.YtoocccfhmpmopaaW.PrintLast

/-! ### implicit deadlines -/
/-- A task with an implicit deadline. -/
def late (t : Tk) : Tk := ⟨t.f0, t.f2, t.f2⟩
/-- The first j tasks are late already. -/
def lateTo (l : List Tk) (j : Nat) : List Tk := (l.take j).map late ++ l.drop j
theorem lateTo_zero (l : List Tk) : lateTo l 0 = l := by simp [lateTo]
theorem lateTo_all (l : List Tk) : lateTo l l.length = l.map late := by simp [lateTo]
theorem lateTo_len (l : List Tk) (j : Nat) : (lateTo l j).length = l.length := by
  unfold lateTo; rw [List.length_append, List.length_map, List.length_take, List.length_drop]; omega
theorem lateTo_get (l : List Tk) {j : Nat} (hj : j < l.length) : rd_T35 (lateTo l j) (j : Int) = rd_T35 l (j : Int) := by
  have h1 := rdT_get (lateTo l j) j (by rw [lateTo_len]; omega)
  have h2 := rdT_get l j hj
  simp only [rdT] at h1 h2 ⊢
  rw [h1, h2]
  unfold lateTo
  rw [List.getElem_append_right (by rw [List.length_map, List.length_take]; omega), List.getElem_drop]
  congr 1
  rw [List.length_map, List.length_take]; omega
theorem lateTo_set (l : List Tk) {j : Nat} (hj : j < l.length) : (lateTo l j).set j (late (rd_T35 l (j : Int))) = lateTo l (j + 1) := by
  unfold lateTo
  rw [drop_rd l j hj, List.set_append_right _ _ (by rw [List.length_map, List.length_take]; omega), List.length_map, List.length_take, show j - min j l.length = 0 from by omega, List.set_cons_zero, List.take_succ_eq_append_getElem hj, List.map_append, ← rdT_get l j hj]
  simp
theorem late_imp {l : List Tk} : ∀ t ∈ l.map late, t.f1 = t.f2 := by
  intro t ht
  rw [List.mem_map] at ht
  obtain ⟨x, _, rfl⟩ := ht
  rfl
theorem late_TkOk {x : Tk} (h : TkOk x) : TkOk (late x) := by unfold TkOk late at *; dsimp only; omega
theorem Ok.late {l : List Tk} (h : Ok l) : Ok (l.map Pu.late) :=
  ⟨by rw [List.length_map]; exact h.len, fun t ht => by
    rw [List.mem_map] at ht
    obtain ⟨x, hx, rfl⟩ := ht
    exact late_TkOk (h.all x hx)⟩
theorem hyp_late (l : List Tk) : hyp (l.map late) = hyp l := hyp_map (by rw [List.map_map]; rfl)
theorem ld_late (l : List Tk) : ld (l.map late) = ld l := by
  unfold ld
  rw [hyp_late, sumT_map]
  rfl
theorem dterm_imp {x : Tk} (h : TkOk x) (he : x.f1 = x.f2) (t : Int) (ht : 0 ≤ t) : dterm t x = t / x.f2 * x.f0 := by
  unfold TkOk at h
  unfold dterm
  rw [he]
  by_cases h1 : x.f2 ≤ t
  · rw [if_pos h1]
    congr 1
    have : t / x.f2 = ((t - x.f2) + x.f2 * 1) / x.f2 := by congr 1; omega
    rw [this, Int.add_mul_ediv_left _ _ (by omega)]
  · rw [if_neg h1, Int.ediv_eq_zero_of_lt (by omega) (by omega)]; omega
/-- With implicit deadlines the demand is at most the utilization's share. -/
theorem dem_imp_le {l : List Tk} (hok : Ok l) (he : ∀ t ∈ l, t.f1 = t.f2) (s : Int) (hs : 0 ≤ s) : hyp l * dem l s ≤ s * ld l := by
  unfold dem ld
  rw [Int.mul_comm, ← sumT_mul, Int.mul_comm s, ← sumT_mul]
  refine sumT_mono l fun x hx => ?_
  have h := hok.all x hx
  rw [dterm_imp h (he x hx) s hs]
  unfold lterm
  obtain ⟨q, hq⟩ := hyp_dvd_mem hok x hx
  have hb := hyp_bd hok
  rw [hq, Int.mul_ediv_cancel_left _ (by omega)]
  have hq0 : 0 ≤ q := by
    rcases Int.lt_or_le q 0 with h0 | h0
    · have : x.f2 * q < 0 := Int.mul_neg_of_pos_of_neg (by omega) h0
      omega
    · exact h0
  have h1 := Int.ediv_mul_le s (b := x.f2) (by omega)
  have h2 : s / x.f2 * x.f2 * (q * x.f0) ≤ s * (q * x.f0) := Int.mul_le_mul_of_nonneg_right h1 (Int.mul_nonneg hq0 (by omega))
  have e1 : s / x.f2 * x.f0 * (x.f2 * q) = s / x.f2 * x.f2 * (q * x.f0) := by ac_rfl
  have e2 : q * x.f0 * s = s * (q * x.f0) := by ac_rfl
  rw [e1, e2]; exact h2
theorem edf_imp {l : List Tk} (hok : Ok l) (he : ∀ t ∈ l, t.f1 = t.f2) : edf l = decide (ld l ≤ hyp l) := by
  have hb := hyp_bd hok
  rw [Bool.eq_iff_iff, edf_iff, decide_eq_true_eq]
  constructor
  · intro h
    have := h.2 (hyp l) hb.1 (by omega)
    rw [dem_hyper hok] at this
    exact this
  · intro h
    refine ⟨hok, fun s h1 h2 => ?_⟩
    have h3 := dem_imp_le hok he s (by omega)
    have h4 : s * ld l ≤ s * hyp l := Int.mul_le_mul_of_nonneg_left h (by omega)
    have h5 : hyp l * dem l s ≤ hyp l * s := by rw [Int.mul_comm (hyp l) s]; omega
    exact Int.le_of_mul_le_mul_left h5 (by omega)
/-- A feasible set has utilization at most 1. -/
theorem edf_util {l : List Tk} (h : edf l = true) : ld l ≤ hyp l := by
  rw [edf_iff] at h
  have hb := hyp_bd h.1
  have := h.2 (hyp l) hb.1 (by omega)
  rw [dem_hyper h.1] at this
  exact this

end Go.Proofs.Ytoocccfhmpmopaa.Pu
