import Derived.Test.YtmjclbjafodakaaMinSpeed
import Derived.Test.YtmjclbjafodakaaFspecXMinSpeed
set_option linter.unusedSimpArgs false
set_option linter.unusedVariables false
namespace Go.Proofs.Ytmjclbjafodakaa.Pu
open Go.RowKit Go.Proofs.Ytmjclbjafodakaa.Q Go.Proofs.YtmjclbjafodakaaW.PrintWords Go.Proofs.YtmjclbjafodakaaW.PrintLast

theorem specMs_loop (l : List Tk) (hok : Ok l) : ∀ (m : Nat) (k : Nat) (t n d : Int), t + m = hyp l + 1 → 1 ≤ t → (0 ≤ n ∧ n ≤ 10000000) → (1 ≤ d ∧ d ≤ 300000) → 20000000 + m ≤ k →
    spec_MinSpeed.l0 k l n d (hyp l) t = some (redI (msF l m t n d).1 (msF l m t n d).2) := by
  have hb := hyp_bd hok
  intro m
  induction m with
  | zero =>
    intro k t n d ht h1 hn hd hk
    obtain ⟨k, rfl⟩ : ∃ m, k = m + 1 := ⟨k - 1, by omega⟩
    have h := gcdI_spec n d hn.1 hd.1
    rw [spec_MinSpeed.l0]
    rw [if_neg (by omega), specGcdI d n (by omega) hn.1 k (by omega), gcdI_comm]
    simp only [Option.bind_some]
    rw [if_neg (by omega), tdiv_pos hn.1, tdiv_pos (by omega), w64 (n := n / gcdI n d) (by omega) (by omega), w64 (n := d / gcdI n d) (by omega) (by omega)]
    rfl
  | succ m ih =>
    intro k t n d ht h1 hn hd hk
    obtain ⟨k, rfl⟩ : ∃ m, k = m + 1 := ⟨k - 1, by omega⟩
    have db := dem_bd hok t (by omega)
    have b1 : 0 ≤ dem l t * d ∧ dem l t * d ≤ 10000000 * 300000 := ⟨Int.mul_nonneg db.1 (by omega), Int.mul_le_mul (by omega) (by omega) (by omega) (by omega)⟩
    have b2 : 0 ≤ n * t ∧ n * t ≤ 10000000 * 300000 := ⟨Int.mul_nonneg (by omega) (by omega), Int.mul_le_mul (by omega) (by omega) (by omega) (by omega)⟩
    rw [spec_MinSpeed.l0]
    rw [if_pos (by omega), specDem_eq l hok t (by omega) (by omega) k (by omega)]
    simp only [Option.bind_some, msF]
    rw [w64 (n := dem l t * d) (by omega) (by omega), w64 (n := n * t) (by omega) (by omega), w64 (n := t + 1) (by omega) (by omega)]
    by_cases hc : dem l t * d > n * t
    · rw [if_pos hc, if_pos hc]
      exact ih k (t + 1) _ _ (by omega) (by omega) (by omega) (by omega) (by omega)
    · rw [if_neg hc, if_neg hc]
      exact ih k (t + 1) _ _ (by omega) (by omega) (by omega) (by omega) (by omega)
theorem specMs_eq (l : List Tk) (hl : l.length ≤ 1000) (k : Nat) (hk : 21000000 ≤ k) : spec_MinSpeed.f k l = some (msO l) := by
  unfold spec_MinSpeed.f msO
  rw [specSet_eq l (by omega) k (by omega)]
  simp only [Option.bind_some]
  by_cases h : setOk l = true
  · have hok := Ok.mk' h
    have hb := hyp_bd hok
    rw [if_pos h, if_pos h, specHyper_eq l hok k (by omega)]
    simp only [Option.bind_some]
    exact specMs_loop l hok (hypN l) k 1 0 1 (by unfold hyp; omega) (by omega) (by omega) (by omega) (by unfold hyp at hb; omega)
  · rw [if_neg h, if_neg h]

end Go.Proofs.Ytmjclbjafodakaa.Pu
