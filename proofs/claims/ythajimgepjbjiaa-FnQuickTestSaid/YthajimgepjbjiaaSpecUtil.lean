import Derived.Test.YthajimgepjbjiaaUtil
import Derived.Test.YthajimgepjbjiaaFspecXUtilization
set_option linter.unusedSimpArgs false
set_option linter.unusedVariables false
namespace Go.Proofs.Ythajimgepjbjiaa.Pu
open Go.RowKit Go.Proofs.Ythajimgepjbjiaa.Q Go.Proofs.YthajimgepjbjiaaW.PrintWords Go.Proofs.YthajimgepjbjiaaW.PrintLast

theorem specUtil_loop (l : List Tk) (hok : Ok l) : ∀ (d j k : Nat) (acc : Int), j + d = l.length → 10000000 + d < k → 0 ≤ acc → acc ≤ (j : Int) * 8000000 → acc + sumT (lterm (hyp l)) (l.drop j) = ld l →
    spec_Utilization.l0 k l (hyp l) acc (j : Int) = some (redI (ld l) (hyp l)) := by
  have hlen := hok.len
  have hb := hyp_bd hok
  have hl := ld_bd hok
  intro d
  induction d with
  | zero =>
    intro j k acc hj hk h0 hacc hsum
    obtain ⟨k, rfl⟩ : ∃ m, k = m + 1 := ⟨k - 1, by omega⟩
    rw [List.drop_eq_nil_of_le (by omega)] at hsum
    simp only [sumT] at hsum
    have h := gcdI_spec (ld l) (hyp l) hl.1 hb.1
    rw [spec_Utilization.l0]
    rw [if_neg (by omega), show acc = ld l from by omega, specGcdI _ _ (by omega) (by omega) k (by omega), gcdI_comm]
    simp only [Option.bind_some]
    rw [if_neg (by omega), tdiv_pos (by omega), tdiv_pos (by omega), w64 (n := ld l / _) (by omega) (by omega), w64 (n := hyp l / _) (by omega) (by omega)]
    rfl
  | succ d ih =>
    intro j k acc hj hk h0 hacc hsum
    obtain ⟨k, rfl⟩ : ∃ m, k = m + 1 := ⟨k - 1, by omega⟩
    have hr := hok.rd j (by omega)
    have hbt := lterm_bd (x := rdT l (j : Int)) hr (hyp l) (by omega)
    have en : ((j : Int) + 1) = ((j + 1 : Nat) : Int) := by omega
    have q0 : 0 ≤ hyp l / (rdT l (j : Int)).f2 := Int.ediv_nonneg (by omega) (by omega)
    have q1 : hyp l / (rdT l (j : Int)).f2 ≤ hyp l := Int.ediv_le_self _ (by omega)
    rw [drop_rd l j (by omega)] at hsum
    simp only [sumT] at hsum
    rw [spec_Utilization.l0]
    rw [if_pos (by omega), if_pos (by omega)]
    have hlt : lterm (hyp l) (rdT l (j : Int)) = hyp l / (rdT l (j : Int)).f2 * (rdT l (j : Int)).f0 := rfl
    rw [hlt] at hbt hsum
    simp only [rdT] at hbt q0 q1 hr hsum ⊢
    rw [if_neg (by omega), tdiv_pos (by omega)]
    rw [w64 (n := hyp l / (rd_T44 l (j : Int)).f2) (by omega) (by omega), Int.mul_comm (rd_T44 l (j : Int)).f0]
    generalize hyp l / (rd_T44 l (j : Int)).f2 * (rd_T44 l (j : Int)).f0 = y at hbt hsum ⊢
    rw [w64 (n := y) (by omega) (by omega), w64 (n := acc + y) (by omega) (by omega), w64 (n := (j : Int) + 1) (by omega) (by omega), en]
    exact ih (j + 1) k (acc + y) (by omega) (by omega) (by omega) (by omega) (by omega)
theorem specUtil_eq (l : List Tk) (hl : l.length ≤ 1000) (k : Nat) (hk : 10001000 ≤ k) : spec_Utilization.f k l = some (utO l) := by
  unfold spec_Utilization.f utO
  rw [specSet_eq l (by omega) k (by omega)]
  simp only [Option.bind_some]
  by_cases h : setOk l = true
  · have hok := Ok.mk' h
    have := hok.len
    rw [if_pos h, if_pos h, specHyper_eq l hok k (by omega)]
    simp only [Option.bind_some]
    exact specUtil_loop l hok l.length 0 k 0 (by omega) (by omega) (by omega) (by omega) (by simp [ld])
  · rw [if_neg h, if_neg h]

end Go.Proofs.Ythajimgepjbjiaa.Pu
