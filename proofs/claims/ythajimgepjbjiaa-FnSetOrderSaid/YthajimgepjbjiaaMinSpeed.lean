import Derived.Test.YthajimgepjbjiaaUtil
import Derived.Test.YthajimgepjbjiaaPB
import Derived.Test.YthajimgepjbjiaaImplDem
import Derived.Test.YthajimgepjbjiaaSpecDem
import Derived.Test.YthajimgepjbjiaaFimplXMinSpeed
set_option linter.unusedSimpArgs false
set_option linter.unusedVariables false
namespace Go.Proofs.Ythajimgepjbjiaa.Pu
open Go.RowKit Go.Proofs.Ythajimgepjbjiaa.Q Go.Proofs.YthajimgepjbjiaaW.PrintWords Go.Proofs.YthajimgepjbjiaaW.PrintLast

/-- The greatest of some fractions dem t / t, from a fraction n / d on. -/
def msF (l : List Tk) : Nat → Int → Int → Int → Int × Int
  | 0, _, n, d => (n, d)
  | m + 1, t, n, d => if dem l t * d > n * t then msF l m (t + 1) (dem l t) t else msF l m (t + 1) n d
structure MsSpec (l : List Tk) (m : Nat) (t n d : Int) (r : Int × Int) : Prop where
  n0 : 0 ≤ r.1
  d1 : 1 ≤ r.2
  up : n * r.2 ≤ r.1 * d
  all : ∀ s, t ≤ s → s < t + m → dem l s * r.2 ≤ r.1 * s
  is : r = (n, d) ∨ ∃ s, t ≤ s ∧ s < t + m ∧ r.1 = dem l s ∧ r.2 = s
theorem msF_spec (l : List Tk) (hok : Ok l) : ∀ (m : Nat) (t n d : Int), 1 ≤ t → 0 ≤ n → 1 ≤ d → MsSpec l m t n d (msF l m t n d)
  | 0, t, n, d, ht, hn, hd => ⟨hn, hd, Int.le_refl _, fun s h1 h2 => by omega, .inl rfl⟩
  | m + 1, t, n, d, ht, hn, hd => by
    simp only [msF]
    have hb := dem_bd hok t (by omega)
    by_cases h : dem l t * d > n * t
    · rw [if_pos h]
      have ih := msF_spec l hok m (t + 1) (dem l t) t (by omega) hb.1 ht
      generalize msF l m (t + 1) (dem l t) t = r at ih
      obtain ⟨n0, d1, up, all, is⟩ := ih
      refine ⟨n0, d1, ?_, fun s h1 h2 => ?_, ?_⟩
      · have a1 : n * t * r.2 ≤ dem l t * d * r.2 := Int.mul_le_mul_of_nonneg_right (by omega) (by omega)
        have a2 : dem l t * r.2 * d ≤ r.1 * t * d := Int.mul_le_mul_of_nonneg_right up (by omega)
        have e1 : n * t * r.2 = n * r.2 * t := by ac_rfl
        have e2 : dem l t * d * r.2 = dem l t * r.2 * d := by ac_rfl
        have e3 : r.1 * t * d = r.1 * d * t := by ac_rfl
        exact Int.le_of_mul_le_mul_right (by omega) (show 0 < t from by omega)
      · by_cases hs : s = t
        · rw [hs]; exact up
        · exact all s (by omega) (by omega)
      · rcases is with is | ⟨s, h1, h2, h3⟩
        · exact .inr ⟨t, by omega, by omega, by rw [is], by rw [is]⟩
        · exact .inr ⟨s, by omega, by omega, h3⟩
    · rw [if_neg h]
      have ih := msF_spec l hok m (t + 1) n d (by omega) hn hd
      generalize msF l m (t + 1) n d = r at ih
      obtain ⟨n0, d1, up, all, is⟩ := ih
      refine ⟨n0, d1, up, fun s h1 h2 => ?_, ?_⟩
      · by_cases hs : s = t
        · rw [hs]
          have a1 : dem l t * d * r.2 ≤ n * t * r.2 := Int.mul_le_mul_of_nonneg_right (by omega) (by omega)
          have a2 : n * r.2 * t ≤ r.1 * d * t := Int.mul_le_mul_of_nonneg_right up (by omega)
          have e1 : n * t * r.2 = n * r.2 * t := by ac_rfl
          have e2 : dem l t * d * r.2 = dem l t * r.2 * d := by ac_rfl
          have e3 : r.1 * d * t = r.1 * t * d := by ac_rfl
          exact Int.le_of_mul_le_mul_right (by omega) (show 0 < d from by omega)
        · exact all s (by omega) (by omega)
      · rcases is with is | ⟨s, h1, h2, h3⟩
        · exact .inl is
        · exact .inr ⟨s, by omega, by omega, h3⟩
/-- The minimum speed, not yet in lowest terms. -/
def msR (l : List Tk) : Int × Int := msF l (hypN l) 1 0 1
def msO (l : List Tk) : Int × Int := if setOk l = true then redI (msR l).1 (msR l).2 else (0, 0)
theorem msR_spec (l : List Tk) (hok : Ok l) : MsSpec l (hypN l) 1 0 1 (msR l) := msF_spec l hok _ 1 0 1 (by omega) (by omega) (by omega)
theorem msR_bd (l : List Tk) (hok : Ok l) : (0 ≤ (msR l).1 ∧ (msR l).1 ≤ 10000000) ∧ (1 ≤ (msR l).2 ∧ (msR l).2 ≤ hyp l) := by
  have h := msR_spec l hok
  have hb := hyp_bd hok
  refine ⟨⟨h.n0, ?_⟩, h.d1, ?_⟩
  · rcases h.is with e | ⟨s, h1, h2, h3, _⟩
    · rw [e]; omega
    · have := dem_bd hok s (by omega)
      unfold hyp at hb
      omega
  · rcases h.is with e | ⟨s, h1, h2, _, h3⟩
    · rw [e]; omega
    · unfold hyp; omega

theorem implMs_loop (l : List Tk) (hok : Ok l) : ∀ (m : Nat) (k : Nat) (t n d : Int), t + m = hyp l + 1 → 1 ≤ t → (0 ≤ n ∧ n ≤ 10000000) → (1 ≤ d ∧ d ≤ 300000) → 1000000 + m ≤ k →
    impl_MinSpeed.l0 k l t n d = some (redI (msF l m t n d).1 (msF l m t n d).2) := by
  have hb := hyp_bd hok
  intro m
  induction m with
  | zero =>
    intro k t n d ht h1 hn hd hk
    obtain ⟨k, rfl⟩ : ∃ m, k = m + 1 := ⟨k - 1, by omega⟩
    rw [impl_MinSpeed.l0]
    rw [implHyper_eq l hok k (by omega)]
    simp only [Option.bind_some]
    rw [if_neg (by omega), implRed_eq n d hn.1 hd.1 (by omega) (by omega) k (by omega)]
    rfl
  | succ m ih =>
    intro k t n d ht h1 hn hd hk
    obtain ⟨k, rfl⟩ : ∃ m, k = m + 1 := ⟨k - 1, by omega⟩
    have db := dem_bd hok t (by omega)
    have b1 : 0 ≤ dem l t * d ∧ dem l t * d ≤ 10000000 * 300000 := ⟨Int.mul_nonneg db.1 (by omega), Int.mul_le_mul (by omega) (by omega) (by omega) (by omega)⟩
    have b2 : 0 ≤ n * t ∧ n * t ≤ 10000000 * 300000 := ⟨Int.mul_nonneg (by omega) (by omega), Int.mul_le_mul (by omega) (by omega) (by omega) (by omega)⟩
    rw [impl_MinSpeed.l0]
    rw [implHyper_eq l hok k (by omega)]
    simp only [Option.bind_some]
    rw [if_pos (by omega), implDem_eq l hok t (by omega) (by omega) k (by omega)]
    simp only [Option.bind_some, msF]
    rw [w64 (n := dem l t * d) (by omega) (by omega), w64 (n := n * t) (by omega) (by omega), w64 (n := t + 1) (by omega) (by omega)]
    by_cases hc : dem l t * d > n * t
    · rw [if_pos hc, if_pos hc]
      exact ih k (t + 1) _ _ (by omega) (by omega) (by omega) (by omega) (by omega)
    · rw [if_neg hc, if_neg hc]
      exact ih k (t + 1) _ _ (by omega) (by omega) (by omega) (by omega) (by omega)
theorem implMs_eq (l : List Tk) (k : Nat) (hk : 1300000 ≤ k) : impl_MinSpeed.f k l = some (msO l) := by
  unfold impl_MinSpeed.f msO
  rw [implSet_eq]
  simp only [Option.bind_some]
  by_cases h : setOk l = true
  · have hok := Ok.mk' h
    have hb := hyp_bd hok
    rw [if_pos h, if_pos h]
    exact implMs_loop l hok (hypN l) k 1 0 1 (by unfold hyp; omega) (by omega) (by omega) (by omega) (by unfold hyp at hb; omega)
  · rw [if_neg h, if_neg h]
/-- What a valid set's minimum speed is. -/
structure Ms (l : List Tk) (s : Int × Int) : Prop where
  g : ∃ g, 1 ≤ g ∧ (msR l).1 = g * s.1 ∧ (msR l).2 = g * s.2
  n0 : 0 ≤ s.1
  n1 : s.1 ≤ 10000000
  d0 : 1 ≤ s.2
  d1 : s.2 ≤ hyp l
theorem ms_spec {l : List Tk} (hok : Ok l) : Ms l (msO l) := by
  obtain ⟨⟨n0, n1⟩, d0, d1⟩ := msR_bd l hok
  obtain ⟨h1, h2, h3, h4, h5, h6, h7, h8⟩ := gcdI_spec (msR l).1 (msR l).2 n0 d0
  unfold msO
  rw [if_pos ((setOk_iff _).mpr hok)]
  exact ⟨⟨gcdI (msR l).1 (msR l).2, h1, h2, h3⟩, h4, by show (msR l).1 / _ ≤ _; omega, h6, by show (msR l).2 / _ ≤ _; omega⟩
/-- The minimum speed is at least every share. -/
theorem Ms.all {l : List Tk} (hok : Ok l) {s : Int × Int} (h : Ms l s) (t : Int) (h1 : 1 ≤ t) (h2 : t ≤ hyp l) : dem l t * s.2 ≤ s.1 * t := by
  obtain ⟨g, hg, e1, e2⟩ := h.g
  have := (msR_spec l hok).all t h1 (by unfold hyp at h2; omega)
  rw [e1, e2] at this
  have a1 : dem l t * (g * s.2) = g * (dem l t * s.2) := by ac_rfl
  have a2 : g * s.1 * t = g * (s.1 * t) := by ac_rfl
  rw [a1, a2] at this
  exact Int.le_of_mul_le_mul_left this (by omega)
/-- It is 0 or a share. -/
theorem Ms.is {l : List Tk} (hok : Ok l) {s : Int × Int} (h : Ms l s) : s.1 = 0 ∨ ∃ t, 1 ≤ t ∧ t ≤ hyp l ∧ dem l t * s.2 = s.1 * t := by
  obtain ⟨g, hg, e1, e2⟩ := h.g
  rcases (msR_spec l hok).is with e | ⟨t, h1, h2, h3, h4⟩
  · left
    have h0 : (msR l).1 = 0 := by rw [e]
    rw [h0] at e1
    rcases Int.mul_eq_zero.mp e1.symm with h | h
    · omega
    · exact h
  · right
    refine ⟨t, h1, by unfold hyp; omega, ?_⟩
    rw [← h3, ← h4, e1, e2]
    ac_rfl

end Go.Proofs.Ythajimgepjbjiaa.Pu
