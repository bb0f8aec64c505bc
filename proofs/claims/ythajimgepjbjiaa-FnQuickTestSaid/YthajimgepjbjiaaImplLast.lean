import Derived.Test.YthajimgepjbjiaaPB
import Derived.Test.YthajimgepjbjiaaFimplXlastDeadline
set_option linter.unusedSimpArgs false
set_option linter.unusedVariables false
namespace Go.Proofs.Ythajimgepjbjiaa.Pu
open Go.RowKit Go.Proofs.Ythajimgepjbjiaa.Q Go.Proofs.YthajimgepjbjiaaW.PrintWords Go.Proofs.YthajimgepjbjiaaW.PrintLast

theorem implLast_loop (l : List Tk) (hok : Ok l) (t : Int) (ht0 : 0 ≤ t) (ht : t ≤ 1000000) : ∀ (d j k : Nat) (acc : Int), j + d = l.length → d < k → 0 ≤ acc → acc ≤ 1000000 →
    impl_lastDeadline.l0 k t acc l (l.length : Int) (j : Int) = some (lastF t acc (l.drop j)) := by
  have hlen := hok.len
  intro d
  induction d with
  | zero =>
    intro j k acc hj hk h0 hh
    obtain ⟨k, rfl⟩ : ∃ m, k = m + 1 := ⟨k - 1, by omega⟩
    rw [impl_lastDeadline.l0]
    rw [if_neg (by omega), List.drop_eq_nil_of_le (by omega)]
    rfl
  | succ d ih =>
    intro j k acc hj hk h0 hh
    obtain ⟨k, rfl⟩ : ∃ m, k = m + 1 := ⟨k - 1, by omega⟩
    have hr := hok.rd j (by omega)
    have en : ((j : Int) + 1) = ((j + 1 : Nat) : Int) := by omega
    rw [impl_lastDeadline.l0]
    rw [if_pos (by omega), if_pos (by omega), if_pos (by omega), drop_rd l j (by omega), w64 (n := (j : Int) + 1) (by omega) (by omega), en]
    simp only [lastF]
    by_cases hx : (rdT l (j : Int)).f1 < t
    · have hb := lastT_bd (x := rdT l (j : Int)) hr hx
      have hm := mx_bd acc (lastT t (rdT l (j : Int)))
      rw [if_pos hx]
      unfold lastT at hb hm ⊢
      simp only [rdT] at hb hm hr hx ⊢
      have q0 : 0 ≤ (t - 1 - (rd_T44 l (j : Int)).f1) / (rd_T44 l (j : Int)).f2 := Int.ediv_nonneg (by omega) (by omega)
      have q1 : (t - 1 - (rd_T44 l (j : Int)).f1) / (rd_T44 l (j : Int)).f2 ≤ t - 1 - (rd_T44 l (j : Int)).f1 := Int.ediv_le_self _ (by omega)
      rw [if_neg (by omega), w64 (n := t - 1) (by omega) (by omega), w64 (n := t - 1 - (rd_T44 l (j : Int)).f1) (by omega) (by omega), tdiv_pos (by omega)]
      generalize (t - 1 - (rd_T44 l (j : Int)).f1) / (rd_T44 l (j : Int)).f2 = q at hb hm q0 q1 ⊢
      rw [w64 (n := q) (by omega) (by omega)]
      generalize q * (rd_T44 l (j : Int)).f2 = y at hb hm ⊢
      rw [w64 (n := y) (by omega) (by omega), w64 (n := y + (rd_T44 l (j : Int)).f1) (by omega) (by omega), if_pos hx]
      exact ih (j + 1) k _ (by omega) (by omega) (by omega) (by omega)
    · rw [if_neg hx]
      first | rw [if_neg hx] | skip
      exact ih (j + 1) k _ (by omega) (by omega) (by omega) (by omega)
theorem implLast_eq (l : List Tk) (hok : Ok l) (t : Int) (ht0 : 0 ≤ t) (ht : t ≤ 1000000) (k : Nat) (hk : 20 ≤ k) : impl_lastDeadline.f k l t = some (lastD l t) := by
  have hlen := hok.len
  unfold impl_lastDeadline.f
  have := implLast_loop l hok t ht0 ht l.length 0 k 0 (by omega) (by omega) (by omega) (by omega)
  rw [show ((0 : Nat) : Int) = 0 from rfl] at this
  rw [this]
  rfl

end Go.Proofs.Ythajimgepjbjiaa.Pu
