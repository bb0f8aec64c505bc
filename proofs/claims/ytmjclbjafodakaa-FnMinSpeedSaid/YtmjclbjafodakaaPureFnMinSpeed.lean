/- The statement FnMinSpeed of the given program holds for every input: for every code of at most 2^20 bytes (and for longer ones at once) the law returns true. No further condition. -/
import Derived.Test.YtmjclbjafodakaaSpecMs
import Derived.Test.YtmjclbjafodakaaImplEdf
import Derived.Test.YtmjclbjafodakaaImplHyp
import Derived.Test.YtmjclbjafodakaaImplDemand
import Derived.Test.YtmjclbjafodakaaFlawsXFnMinSpeed
set_option linter.unusedSimpArgs false
set_option linter.unusedVariables false
namespace Go.Proofs.Ytmjclbjafodakaa.Pure
open Go.RowKit Go.Proofs.Ytmjclbjafodakaa.Q Go.Proofs.Ytmjclbjafodakaa.Pu Go.Proofs.YtmjclbjafodakaaW.PrintWords Go.Proofs.YtmjclbjafodakaaW.PrintLast

theorem ms_edf {l : List Tk} (hok : Ok l) : edf l = decide ((msO l).1 ≤ (msO l).2) := by
  have hs := ms_spec hok
  rw [Bool.eq_iff_iff, edf_iff, decide_eq_true_eq]
  constructor
  · rintro ⟨_, h⟩
    rcases hs.is hok with e | ⟨t, h1, h2, h3⟩
    · have := hs.d0; omega
    · have a := h t h1 h2
      have b : dem l t * (msO l).2 ≤ t * (msO l).2 := Int.mul_le_mul_of_nonneg_right a (by have := hs.d0; omega)
      rw [h3, Int.mul_comm t] at b
      exact Int.le_of_mul_le_mul_right b (by omega)
  · intro h
    refine ⟨hok, fun t h1 h2 => ?_⟩
    have a := hs.all hok t h1 h2
    have b : (msO l).1 * t ≤ (msO l).2 * t := Int.mul_le_mul_of_nonneg_right h (by omega)
    rw [Int.mul_comm (msO l).2] at b
    exact Int.le_of_mul_le_mul_right (Int.le_trans a b) (by have := hs.d0; omega)
theorem ms_util {l : List Tk} (hok : Ok l) : (utO l).1 * (msO l).2 ≤ (msO l).1 * (utO l).2 := by
  have hs := ms_spec hok
  have hb := hyp_bd hok
  obtain ⟨g, hg, e1, e2⟩ := (ut_spec hok).g
  have a := hs.all hok (hyp l) hb.1 (by omega)
  rw [dem_hyper hok, e1, e2] at a
  have a1 : g * (utO l).1 * (msO l).2 = g * ((utO l).1 * (msO l).2) := by ac_rfl
  have a2 : (msO l).1 * (g * (utO l).2) = g * ((msO l).1 * (utO l).2) := by ac_rfl
  rw [a1, a2] at a
  exact Int.le_of_mul_le_mul_left a (by omega)

theorem fm_loop (l : List Tk) (hok : Ok l) (h : Int) (hh : h = hyp l ∨ h = 1500) (hle : h ≤ hyp l) : ∀ (m : Nat) (t : Int) (k : Nat) (f : Bool), t + m = h + 1 → 1 ≤ t → 300100 + m ≤ k →
    (f = true ∨ h = 1500 ∨ ∃ s, t ≤ s ∧ s ≤ h ∧ dem l s * (msO l).2 = (msO l).1 * s) → laws_FnMinSpeed.l0 k l f h t (msO l).1 (msO l).2 (utO l).1 (utO l).2 = some true := by
  have hs := ms_spec hok
  have hb := hyp_bd hok
  have hu := ut_spec hok
  have hd1 := hs.d1
  have hn1 := hs.n1
  have hn0 := hs.n0
  have hd0 := hs.d0
  intro m
  induction m with
  | zero =>
    intro t k f ht h1 hk hf
    obtain ⟨k, rfl⟩ : ∃ m, k = m + 1 := ⟨k - 1, by omega⟩
    have b1 : 0 ≤ (utO l).1 * (msO l).2 ∧ (utO l).1 * (msO l).2 ≤ 10000000 * 300000 := ⟨Int.mul_nonneg hu.n0 (by omega), Int.mul_le_mul (by have := hu.n1; have := ld_bd hok; omega) (by omega) (by omega) (by omega)⟩
    have b2 : 0 ≤ (msO l).1 * (utO l).2 ∧ (msO l).1 * (utO l).2 ≤ 10000000 * 300000 := ⟨Int.mul_nonneg hn0 (by have := hu.d0; omega), Int.mul_le_mul hn1 (by have := hu.d1; omega) (by have := hu.d0; omega) (by omega)⟩
    have hedf := ms_edf hok
    have huu := ms_util hok
    rw [laws_FnMinSpeed.l0]
    rw [if_neg (by omega), implEdf_eq l k (by omega)]
    simp only [Option.bind_some]
    rw [hedf, w64 (n := (utO l).1 * (msO l).2) (by omega) (by omega), w64 (n := (msO l).1 * (utO l).2) (by omega) (by omega)]
    by_cases c : f = true
    · rw [if_pos c, if_pos (by simp), if_pos huu, decide_eq_true hd0]
    · rw [if_neg c]
      have h15 : h = 1500 := by
        rcases hf with hf | hf | ⟨s, q1, q2, _⟩
        · exact absurd hf c
        · exact hf
        · omega
      rw [if_pos h15, if_pos (by simp), if_pos huu, decide_eq_true hd0]
  | succ m ih =>
    intro t k f ht h1 hk hf
    obtain ⟨k, rfl⟩ : ∃ m, k = m + 1 := ⟨k - 1, by omega⟩
    have db := dem_bd hok t (by omega)
    have b1 : 0 ≤ dem l t * (msO l).2 ∧ dem l t * (msO l).2 ≤ 10000000 * 300000 := ⟨Int.mul_nonneg db.1 (by omega), Int.mul_le_mul (by omega) (by omega) (by omega) (by omega)⟩
    have b2 : 0 ≤ (msO l).1 * t ∧ (msO l).1 * t ≤ 10000000 * 300000 := ⟨Int.mul_nonneg hn0 (by omega), Int.mul_le_mul hn1 (by omega) (by omega) (by omega)⟩
    have hall := hs.all hok t h1 (by omega)
    rw [laws_FnMinSpeed.l0]
    rw [if_pos (by omega), implDemand_eq l t k (by omega), demO_in hok (by omega) (by omega)]
    simp only [Option.bind_some]
    rw [w64 (n := dem l t * (msO l).2) (by omega) (by omega), w64 (n := (msO l).1 * t) (by omega) (by omega), w64 (n := t + 1) (by omega) (by omega)]
    by_cases c : f = true
    · rw [if_pos c, if_neg (by omega)]
      exact ih (t + 1) k true (by omega) (by omega) (by omega) (.inl rfl)
    · rw [if_neg c, if_neg (by omega)]
      refine ih (t + 1) k _ (by omega) (by omega) (by omega) ?_
      rcases hf with hf | hf | ⟨s, q1, q2, q3⟩
      · exact absurd hf c
      · exact .inr (.inl hf)
      · by_cases e : s = t
        · left; rw [← e, q3]; exact beq_self_eq_true _
        · exact .inr (.inr ⟨s, by omega, q2, q3⟩)

theorem FnMinSpeed : laws_FnMinSpeed.Pure := by
  intro l0 _ _ h8
  obtain ⟨K, hK⟩ : ∃ K, 100000000 ≤ K := ⟨_, Nat.le_refl _⟩
  refine ⟨K, ?_⟩
  unfold laws_FnMinSpeed.f
  by_cases hlong : (l0.length : Int) > 1048576
  · rw [if_pos hlong]
  rw [if_neg hlong]
  obtain ⟨b, hb, ho⟩ := open_ev l0 h8
  obtain ⟨l, q, hl, _, _, hs⟩ := set_ev b hb 0 9 (by omega) (by omega)
  have hlen := hl.len
  unfold spec_DrawMinSpeed.f
  rw [ho]
  simp only [Option.bind_some]
  rw [hs K (by omega)]
  simp only [Option.bind_some]
  rw [implMs_eq l K (by omega), specMs_eq l (by omega) K (by omega), specSet_eq l (by omega) K (by omega)]
  simp only [Option.bind_some]
  rw [if_neg (by simp)]
  by_cases h : setOk l = true
  · have hok := Ok.mk' h
    have hb := hyp_bd hok
    have hms := ms_spec hok
    rw [if_pos h, implUtil_eq l K (by omega), implHyp_eq l K (by omega)]
    simp only [Option.bind_some]
    unfold hypO
    rw [if_pos h]
    have hm := mn_bd (hyp l) 1500
    obtain ⟨m, hm'⟩ := Int.eq_ofNat_of_zero_le (show 0 ≤ mn (hyp l) 1500 from by omega)
    refine fm_loop l hok _ hm.2.2 hm.1 m 1 K _ (by omega) (by omega) (by omega) ?_
    rcases hm.2.2 with e | e
    · right; right
      rcases hms.is hok with z | ⟨t, h1, h2, h3⟩
      · refine ⟨1, by omega, by omega, ?_⟩
        have a := hms.all hok 1 (by omega) (by omega)
        have b := (dem_bd hok 1 (by omega)).1
        rw [z] at a ⊢
        have c : 0 ≤ dem l 1 * (msO l).2 := Int.mul_nonneg b (by have := hms.d0; omega)
        omega
      · exact ⟨t, h1, by omega, h3⟩
    · exact .inr (.inl e)
  · rw [if_neg h, alive_eq]
    unfold msO
    rw [if_neg h]
    rfl

end Go.Proofs.Ytmjclbjafodakaa.Pure
