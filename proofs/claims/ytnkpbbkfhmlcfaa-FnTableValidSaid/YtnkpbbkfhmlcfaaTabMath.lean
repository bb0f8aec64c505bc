import Derived.Test.YtnkpbbkfhmlcfaaTabDef
import Derived.Test.YtnkpbbkfhmlcfaaPB
set_option linter.unusedSimpArgs false
set_option linter.unusedVariables false
namespace Go.Proofs.Ytnkpbbkfhmlcfaa.Pu
open Go.RowKit Go.Proofs.Ytnkpbbkfhmlcfaa.Q Go.Proofs.YtnkpbbkfhmlcfaaW.PrintWords Go.Proofs.YtnkpbbkfhmlcfaaW.PrintLast

/-- The sum of f over the d numbers from j on. -/
def sumF (f : Int → Int) : Nat → Int → Int
  | 0, _ => 0
  | d + 1, j => f j + sumF f d (j + 1)
theorem sumF_le {f g : Int → Int} : ∀ (d : Nat) (j : Int), (∀ i, j ≤ i → i < j + d → f i ≤ g i) → sumF f d j ≤ sumF g d j
  | 0, _, _ => by simp [sumF]
  | d + 1, j, h => by
    have h1 := h j (by omega) (by omega)
    have h2 := sumF_le d (j + 1) (fun i a b => h i (by omega) (by omega))
    simp only [sumF]; omega
theorem sumF_congr {f g : Int → Int} : ∀ (d : Nat) (j : Int), (∀ i, j ≤ i → i < j + d → f i = g i) → sumF f d j = sumF g d j
  | 0, _, _ => rfl
  | d + 1, j, h => by
    have h1 := h j (by omega) (by omega)
    have h2 := sumF_congr d (j + 1) (fun i a b => h i (by omega) (by omega))
    simp only [sumF]; omega
theorem sumF_add (f g : Int → Int) : ∀ (d : Nat) (j : Int), sumF (fun i => f i + g i) d j = sumF f d j + sumF g d j
  | 0, _ => rfl
  | d + 1, j => by simp only [sumF, sumF_add f g d (j + 1)]; omega
theorem sumF_ind (x : Int) : ∀ (d : Nat) (j : Int), sumF (fun i => if x = i then 1 else 0) d j = if j ≤ x ∧ x < j + d then 1 else 0
  | 0, j => by rw [if_neg (by omega)]; rfl
  | d + 1, j => by
    simp only [sumF, sumF_ind x d (j + 1)]
    by_cases h : x = j
    · rw [if_pos h, if_neg (by omega), if_pos (by omega)]; rfl
    · rw [if_neg h]
      by_cases h2 : j ≤ x ∧ x < j + ((d + 1 : Nat) : Int)
      · rw [if_pos h2, if_pos (by omega)]; rfl
      · rw [if_neg h2, if_neg (by omega)]; rfl
theorem sumF_zero : ∀ (d : Nat) (j : Int), sumF (fun _ => 0) d j = 0
  | 0, _ => rfl
  | d + 1, j => by simp only [sumF, sumF_zero d (j + 1)]; rfl
theorem sumT_F (g : Tk → Int) (l : List Tk) : ∀ (d j : Nat), j + d = l.length → sumT g (l.drop j) = sumF (fun i => g (rd_T42 l i)) d (j : Int)
  | 0, j, h => by rw [List.drop_of_length_le (by omega)]; rfl
  | d + 1, j, h => by
    have ih := sumT_F g l d (j + 1) (by omega)
    rw [List.drop_eq_getElem_cons (show j < l.length by omega), ← rdT_get l j (by omega)]
    simp only [sumT, sumF]
    rw [ih, show ((j + 1 : Nat) : Int) = (j : Int) + 1 from by omega]
theorem rd_mem' (tb : List Int) (t : Int) (h0 : 0 ≤ t) (h1 : t < tb.length) : rd tb t ∈ tb := by
  obtain ⟨j, rfl⟩ := Int.eq_ofNat_of_zero_le h0
  rw [rd_getT tb j (by omega)]; exact List.getElem_mem _
/-- At each time there is at most one task. -/
theorem cnt_le (tb : List Int) (n : Nat) : ∀ (s : Nat) (t : Int), sumF (fun i => cntR tb i s t) n 0 ≤ s
  | 0, t => by simp only [cntR]; rw [sumF_zero]; simp
  | s + 1, t => by
    have ih := cnt_le tb n s (t + 1)
    have e : sumF (fun i => cntR tb i (s + 1) t) n 0 = sumF (fun i => if rd tb t = i then 1 else 0) n 0 + sumF (fun i => cntR tb i s (t + 1)) n 0 := by
      rw [← sumF_add]; rfl
    rw [e, sumF_ind]
    split <;> omega
theorem cnt_all (tb : List Int) (n : Nat) (hall : ∀ x ∈ tb, -1 ≤ x ∧ x ≤ (n : Int) - 1) : ∀ (s : Nat) (t : Int), 0 ≤ t → t + s ≤ tb.length → cntR tb (-1) s t + sumF (fun i => cntR tb i s t) n 0 = s
  | 0, t, _, _ => by simp only [cntR]; rw [sumF_zero]; simp
  | s + 1, t, h0, h1 => by
    have ih := cnt_all tb n hall s (t + 1) (by omega) (by omega)
    have e : sumF (fun i => cntR tb i (s + 1) t) n 0 = sumF (fun i => if rd tb t = i then 1 else 0) n 0 + sumF (fun i => cntR tb i s (t + 1)) n 0 := by
      rw [← sumF_add]; rfl
    have hm := hall _ (rd_mem' tb t h0 (by omega))
    rw [e, sumF_ind]
    simp only [cntR]
    by_cases hx : rd tb t = -1
    · rw [if_pos hx, if_neg (by omega)]; omega
    · rw [if_neg hx, if_pos (by omega)]; omega
theorem wOk_per {tb : List Int} {i r D T C : Int} (hD : 0 ≤ D) (hT : D ≤ T) (h : wOk tb i r D T C = true) : cntR tb i D.toNat r = C ∧ cntR tb i T.toNat r = C := by
  unfold wOk at h
  rw [Bool.and_eq_true] at h
  have h1 := of_decide_eq_true h.1
  have h2 := of_decide_eq_true h.2
  refine ⟨h1, ?_⟩
  rw [show T.toNat = D.toNat + (T - D).toNat from by omega, cntR_add, h1, show r + (D.toNat : Int) = r + D from by omega, h2]; omega
theorem per_part {tb : List Int} {i D T C : Int} (hD : 0 ≤ D) (hT : D ≤ T) : ∀ (n : Nat) (r : Int), perOk tb i D T C n r = true → ∀ m : Nat, m < n → cntR tb i (m * T.toNat + D.toNat) r = ((m : Int) + 1) * C
  | 0, r, _, m, hm => by omega
  | n + 1, r, h, m, hm => by
    simp only [perOk, Bool.and_eq_true] at h
    obtain ⟨w1, w2⟩ := wOk_per hD hT h.1
    cases m with
    | zero => rw [Nat.zero_mul, Nat.zero_add, w1]; simp
    | succ m =>
      have ih := per_part hD hT n (r + T) h.2 m (by omega)
      rw [show (m + 1) * T.toNat + D.toNat = T.toNat + (m * T.toNat + D.toNat) from by rw [Nat.add_mul]; omega, cntR_add, w2, show r + (T.toNat : Int) = r + T from by omega, ih, show (((m + 1 : Nat) : Int) + 1) * C = C + ((m : Int) + 1) * C from by rw [show (((m + 1 : Nat) : Int) + 1) = 1 + ((m : Int) + 1) from by omega, Int.add_mul]; omega]
theorem per_all {tb : List Int} {i D T C : Int} (hD : 0 ≤ D) (hT : D ≤ T) : ∀ (n : Nat) (r : Int), perOk tb i D T C n r = true → cntR tb i (n * T.toNat) r = (n : Int) * C
  | 0, r, _ => by simp [cntR]
  | n + 1, r, h => by
    simp only [perOk, Bool.and_eq_true] at h
    obtain ⟨w1, w2⟩ := wOk_per hD hT h.1
    have ih := per_all hD hT n (r + T) h.2
    rw [show (n + 1) * T.toNat = T.toNat + n * T.toNat from by rw [Nat.add_mul]; omega, cntR_add, w2, show r + (T.toNat : Int) = r + T from by omega, ih, show ((n + 1 : Nat) : Int) * C = C + (n : Int) * C from by rw [Int.natCast_add, Int.add_mul]; omega]
theorem tsOk_at {tb : List Int} {l : List Tk} : ∀ (d j : Nat), j + d = l.length → tsOk tb (l.drop j) (j : Int) = true → ∀ i : Nat, j ≤ i → i < l.length → perOk tb (i : Int) (rd_T42 l (i : Int)).f1 (rd_T42 l (i : Int)).f2 (rd_T42 l (i : Int)).f0 ((tb.length : Int) / (rd_T42 l (i : Int)).f2).toNat 0 = true
  | 0, j, h, _, i, h1, h2 => by omega
  | d + 1, j, h, ht, i, h1, h2 => by
    rw [tsOk_drop tb l j (by omega), Bool.and_eq_true] at ht
    by_cases e : i = j
    · subst e; exact ht.1
    · exact tsOk_at d (j + 1) (by omega) ht.2 i (by omega) h2
/-- What a correct table is. -/
structure Tv (l : List Tk) (tb : List Int) : Prop where
  ok : Ok l
  len : (tb.length : Int) = hyp l
  max : tb.length ≤ 720
  ent : ∀ x ∈ tb, -1 ≤ x ∧ x ≤ (l.length : Int) - 1
  per : ∀ i : Nat, i < l.length → perOk tb (i : Int) (rd_T42 l (i : Int)).f1 (rd_T42 l (i : Int)).f2 (rd_T42 l (i : Int)).f0 ((tb.length : Int) / (rd_T42 l (i : Int)).f2).toNat 0 = true
theorem Tv.mk' {l : List Tk} {tb : List Int} (h : tvO l tb = true) : Tv l tb := by
  unfold tvO at h
  simp only [Bool.and_eq_true, decide_eq_true_iff, List.all_eq_true, entOk] at h
  obtain ⟨h1, ⟨h2, h3⟩, h4, h5⟩ := h
  exact ⟨(setOk_iff l).mp h1, h2, by omega, h4, fun i hi => tsOk_at l.length 0 (by omega) h5 i (by omega) hi⟩
theorem Tv.cnt {l : List Tk} {tb : List Int} (h : Tv l tb) {i : Nat} (hi : i < l.length) : cntR tb (i : Int) tb.length 0 = lterm (hyp l) (rd_T42 l (i : Int)) := by
  have hx := ok_rdT h.ok hi
  unfold TkOk at hx
  have hp := periods h.ok hi h.len
  have hb := hyp_bd h.ok
  have hq : 0 ≤ (tb.length : Int) / (rd_T42 l (i : Int)).f2 := Int.ediv_nonneg (by omega) (by omega)
  have := per_all (by omega) (by omega) _ 0 (h.per i hi)
  have e : ((tb.length : Int) / (rd_T42 l (i : Int)).f2).toNat * ((rd_T42 l (i : Int)).f2).toNat = tb.length := by
    have : (((((tb.length : Int) / (rd_T42 l (i : Int)).f2).toNat * ((rd_T42 l (i : Int)).f2).toNat : Nat)) : Int) = (tb.length : Int) := by
      rw [Int.natCast_mul, Int.toNat_of_nonneg (show 0 ≤ (rd_T42 l (i : Int)).f2 by omega)]; exact hp
    omega
  rw [e] at this
  rw [this, Int.toNat_of_nonneg hq]
  unfold lterm; rw [h.len]
theorem Tv.part {l : List Tk} {tb : List Int} (h : Tv l tb) {i : Nat} (hi : i < l.length) {s : Int} (h0 : 0 ≤ s) (h1 : s ≤ hyp l) : dterm s (rd_T42 l (i : Int)) ≤ cntR tb (i : Int) s.toNat 0 := by
  have hx := ok_rdT h.ok hi
  unfold TkOk at hx
  have hp := periods h.ok hi h.len
  unfold dterm
  split
  · rename_i hs
    have hd := Int.mul_ediv_add_emod (s - (rd_T42 l (i : Int)).f1) (rd_T42 l (i : Int)).f2
    have hr := Int.emod_nonneg (s - (rd_T42 l (i : Int)).f1) (show (rd_T42 l (i : Int)).f2 ≠ 0 by omega)
    have q0 : 0 ≤ (s - (rd_T42 l (i : Int)).f1) / (rd_T42 l (i : Int)).f2 := Int.ediv_nonneg (by omega) (by omega)
    have hpos : 0 < (rd_T42 l (i : Int)).f2 := by omega
    have D0 : 1 ≤ (rd_T42 l (i : Int)).f1 := by omega
    have DT : (rd_T42 l (i : Int)).f1 ≤ (rd_T42 l (i : Int)).f2 := by omega
    have hper := h.per i hi
    have hlen := h.len
    generalize (s - (rd_T42 l (i : Int)).f1) / (rd_T42 l (i : Int)).f2 = q at *
    generalize ((tb.length : Int) / (rd_T42 l (i : Int)).f2).toNat = n at *
    generalize (s - (rd_T42 l (i : Int)).f1) % (rd_T42 l (i : Int)).f2 = w at *
    generalize (rd_T42 l (i : Int)).f2 = T at *
    generalize (rd_T42 l (i : Int)).f1 = D at *
    generalize (rd_T42 l (i : Int)).f0 = C at *
    obtain ⟨m, rfl⟩ := Int.eq_ofNat_of_zero_le q0
    have hmn : m < n := by
      refine Nat.lt_of_not_le (fun hle => ?_)
      have : (n : Int) * T ≤ (m : Int) * T := Int.mul_le_mul_of_nonneg_right (by omega) (by omega)
      rw [Int.mul_comm] at hd
      omega
    have hc := per_part (by omega) DT n 0 hper m hmn
    have hsz : m * T.toNat + D.toNat ≤ s.toNat := by
      have : ((m * T.toNat + D.toNat : Nat) : Int) ≤ s := by
        rw [Int.natCast_add, Int.natCast_mul, Int.toNat_of_nonneg (show 0 ≤ T by omega), Int.toNat_of_nonneg (show 0 ≤ D by omega)]
        rw [Int.mul_comm] at hd
        omega
      omega
    rw [show s.toNat = (m * T.toNat + D.toNat) + (s.toNat - (m * T.toNat + D.toNat)) from by omega, cntR_add, hc]
    have := (cntR_bd tb (i : Int) (s.toNat - (m * T.toNat + D.toNat)) (0 + ((m * T.toNat + D.toNat : Nat) : Int))).1
    omega
  · exact (cntR_bd tb (i : Int) s.toNat 0).1
theorem Tv.edf {l : List Tk} {tb : List Int} (h : Tv l tb) : edf l = true := by
  rw [edf_iff]
  refine ⟨h.ok, fun s h1 h2 => ?_⟩
  unfold dem
  have e := sumT_F (dterm s) l l.length 0 (by omega)
  rw [List.drop_zero] at e
  rw [e]
  have a := sumF_le (f := fun i => dterm s (rd_T42 l i)) (g := fun i => cntR tb i s.toNat 0) l.length 0 (fun i a b => by
    obtain ⟨j, rfl⟩ := Int.eq_ofNat_of_zero_le a
    exact h.part (by omega) (by omega) h2)
  have b := cnt_le tb l.length s.toNat 0
  have : ((0 : Nat) : Int) = 0 := rfl
  rw [this]
  omega
/-- The idle ticks. -/
theorem Tv.idle {l : List Tk} {tb : List Int} (h : Tv l tb) : cntR tb (-1) tb.length 0 = hyp l - ld l := by
  have a := cnt_all tb l.length h.ent tb.length 0 (by omega) (by omega)
  have e := sumT_F (lterm (hyp l)) l l.length 0 (by omega)
  rw [List.drop_zero] at e
  have b := sumF_congr (f := fun i => cntR tb i tb.length 0) (g := fun i => lterm (hyp l) (rd_T42 l i)) l.length 0 (fun i a b => by
    obtain ⟨j, rfl⟩ := Int.eq_ofNat_of_zero_le a
    exact h.cnt (by omega))
  have hl := h.len
  unfold ld
  rw [e, show ((0 : Nat) : Int) = 0 from rfl]
  omega

end Go.Proofs.Ytnkpbbkfhmlcfaa.Pu
