import Derived.Test.YtoocccfhmpmopaaOverDef
set_option linter.unusedSimpArgs false
set_option linter.unusedVariables false
namespace Go.Proofs.Ytoocccfhmpmopaa.Pu
open Go.RowKit Go.Proofs.Ytoocccfhmpmopaa.Q Go.Proofs.YtoocccfhmpmopaaW.PrintWords Go.Proofs.YtoocccfhmpmopaaW.PrintLast

/-! ### one task is turned -/
theorem hypF_map : ∀ (l : List Tk) (h : Nat), hypF h l = (l.map fun t => t.f2.toNat).foldl Nat.lcm h
  | [], h => rfl
  | t :: r, h => by simp only [hypF, List.map_cons, List.foldl_cons]; exact hypF_map r _
theorem hyp_map {l l' : List Tk} (h : l.map (fun t => t.f2) = l'.map fun t => t.f2) : hyp l = hyp l' := by
  have h2 : l.map (fun t => t.f2.toNat) = l'.map fun t => t.f2.toNat := by
    have := congrArg (List.map Int.toNat) h
    rw [List.map_map, List.map_map] at this
    exact this
  unfold hyp hypN
  rw [hypF_map, hypF_map, h2]
theorem hyp_set {l : List Tk} {j : Nat} (hj : j < l.length) {x : Tk} (hx : x.f2 = l[j].f2) : hyp (l.set j x) = hyp l := by
  refine hyp_map ?_
  rw [List.map_set, hx]
  have : (l.map fun t => t.f2)[j]'(by rw [List.length_map]; exact hj) = l[j].f2 := List.getElem_map ..
  rw [← this, List.set_getElem_self]
theorem Ok.set {l : List Tk} (h : Ok l) {j : Nat} {x : Tk} (hx : TkOk x) : Ok (l.set j x) :=
  ⟨by rw [List.length_set]; exact h.len, fun t ht => by
    rcases List.mem_or_eq_of_mem_set ht with ht | rfl
    · exact h.all t ht
    · exact hx⟩
theorem dem_set {l : List Tk} {j : Nat} (hj : j < l.length) (x : Tk) (t : Int) : dem (l.set j x) t = dem l t - dterm t l[j] + dterm t x := by
  unfold dem; exact sumT_set _ l j x hj
/-- A task that asks for no more: feasible, still. -/
theorem edf_set {l : List Tk} (h : edf l = true) {j : Nat} (hj : j < l.length) {x : Tk} (hx : TkOk x) (h2 : x.f2 = l[j].f2) (hle : ∀ t, 0 ≤ t → dterm t x ≤ dterm t l[j]) : edf (l.set j x) = true := by
  rw [edf_iff] at h ⊢
  refine ⟨h.1.set hx, fun s h1 h3 => ?_⟩
  rw [hyp_set hj h2] at h3
  have := h.2 s h1 h3
  have := hle s (by omega)
  rw [dem_set hj]; omega
theorem edf_wo {l : List Tk} (h : edf l = true) {j : Nat} (hj : j < l.length) : edf (wo l j) = true := by
  rw [edf_iff] at h ⊢
  have hok := h.1
  have hwo := hok.wo hj
  have hb := hyp_bd hok
  have hbw := hyp_bd hwo
  have hd : hyp (wo l j) ∣ hyp l := hyp_min hwo _ (by omega) (fun t ht => hyp_dvd_mem hok t (wo_mem ht))
  have hle := Int.le_of_dvd (by omega) hd
  refine ⟨hwo, fun s h1 h3 => ?_⟩
  have := h.2 s h1 (by omega)
  have := dem_wo hok hj (t := s) (by omega)
  omega
theorem dterm_cost {x y : Tk} (hx : TkOk x) (h0 : y.f0 ≤ x.f0) (h1 : y.f1 = x.f1) (h2 : y.f2 = x.f2) (t : Int) (ht : 0 ≤ t) : dterm t y ≤ dterm t x := by
  unfold TkOk at hx
  unfold dterm
  rw [h1, h2]
  by_cases h : x.f1 ≤ t
  · rw [if_pos h, if_pos h]
    have q0 : 0 ≤ (t - x.f1) / x.f2 := Int.ediv_nonneg (by omega) (by omega)
    exact Int.mul_le_mul_of_nonneg_left h0 (by omega)
  · rw [if_neg h, if_neg h]; omega
theorem dterm_dead {x y : Tk} (hx : TkOk x) (h0 : y.f0 = x.f0) (h1 : x.f1 ≤ y.f1) (h2 : y.f2 = x.f2) (t : Int) (ht : 0 ≤ t) : dterm t y ≤ dterm t x := by
  unfold TkOk at hx
  unfold dterm
  rw [h0, h2]
  by_cases h : y.f1 ≤ t
  · rw [if_pos h, if_pos (by omega)]
    have q0 : (t - y.f1) / x.f2 ≤ (t - x.f1) / x.f2 := Int.ediv_le_ediv (by omega) (by omega)
    exact Int.mul_le_mul_of_nonneg_right (by omega) (by omega)
  · rw [if_neg h]
    split
    · have q0 : 0 ≤ (t - x.f1) / x.f2 := Int.ediv_nonneg (by omega) (by omega)
      exact Int.mul_nonneg (by omega) (by omega)
    · omega
theorem edf_nil : edf [] = true := by
  rw [edf_iff]
  refine ⟨⟨by simp, by simp⟩, fun s h1 h2 => ?_⟩
  unfold dem sumT; omega

end Go.Proofs.Ytoocccfhmpmopaa.Pu
