import Derived.Test.YtabjigpbednfnaaPB
import Derived.Test.YtabjigpbednfnaaFspecXl2Demand
set_option linter.unusedSimpArgs false
set_option linter.unusedVariables false
namespace Go.Proofs.Ytabjigpbednfnaa.Pu
open Go.RowKit Go.Proofs.Ytabjigpbednfnaa.Q Go.Proofs.YtabjigpbednfnaaW.PrintWords Go.Proofs.YtabjigpbednfnaaW.PrintLast

theorem specDem_loop (l : List Tk) (hok : Ok l) (t : Int) (ht0 : 0 ≤ t) (ht : t ≤ 1000000) : ∀ (d j k : Nat) (acc : Int), j + d = l.length → d < k → 0 ≤ acc → acc ≤ (j : Int) * 8000008 →
    spec_l2Demand.l0 k l t acc (j : Int) = some (acc + sumT (dterm t) (l.drop j)) := by
  intro d
  induction d with
  | zero =>
    intro j k acc hj hk h0 hh
    obtain ⟨k, rfl⟩ : ∃ m, k = m + 1 := ⟨k - 1, by omega⟩
    simp only [spec_l2Demand.l0]
    rw [if_neg (by omega), List.drop_eq_nil_of_le (by omega)]
    simp [sumT]
  | succ d ih =>
    intro j k acc hj hk h0 hh
    obtain ⟨k, rfl⟩ : ∃ m, k = m + 1 := ⟨k - 1, by omega⟩
    have hr := hok.rd j (by omega)
    have hlen := hok.len
    have hb := dterm_bd (x := rdT l (j : Int)) hr t ht0
    have hbb : (t + 1) * 8 ≤ 8000008 := by omega
    have hj5 : (j : Int) * 8000008 ≤ 5 * 8000008 := by omega
    have en : ((j : Int) + 1) = ((j + 1 : Nat) : Int) := by omega
    simp only [spec_l2Demand.l0]
    rw [if_pos (by omega), if_pos (by omega), drop_rd l j (by omega)]
    simp only [sumT]
    obtain ⟨S, hS⟩ : ∃ S, sumT (dterm t) (l.drop (j + 1)) = S := ⟨_, rfl⟩
    rw [hS]
    unfold dterm at hb ⊢
    by_cases hd : (rdT l (j : Int)).f1 ≤ t
    · rw [if_pos hd] at hb
      have q0 : 0 ≤ (t - (rdT l (j : Int)).f1) / (rdT l (j : Int)).f2 := Int.ediv_nonneg (by omega) (by omega)
      have q1 : (t - (rdT l (j : Int)).f1) / (rdT l (j : Int)).f2 ≤ t - (rdT l (j : Int)).f1 := Int.ediv_le_self _ (by omega)
      rw [if_pos (show t ≥ (rd_T33 l (j : Int)).f1 from hd), if_neg (show ¬ (rd_T33 l (j : Int)).f2 = 0 from by have := hr; simp only [rdT] at this; omega)]
      simp only [rdT] at hd hb q0 q1 hr ⊢
      rw [if_pos hd, w64 (n := t - (rd_T33 l (j : Int)).f1) (by omega) (by omega), tdiv_pos (by omega)]
      generalize (t - (rd_T33 l (j : Int)).f1) / (rd_T33 l (j : Int)).f2 = q at hb q0 q1 ⊢
      rw [w64 (n := q) (by omega) (by omega), w64 (n := q + 1) (by omega) (by omega)]
      generalize (q + 1) * (rd_T33 l (j : Int)).f0 = y at hb ⊢
      rw [w64 (n := y) (by omega) (by omega), w64 (n := acc + y) (by omega) (by omega), w64 (n := (j : Int) + 1) (by omega) (by omega), en, ih (j + 1) k (acc + y) (by omega) (by omega) (by omega) (by omega), hS]
      congr 1; omega
    · rw [if_neg (show ¬ t ≥ (rd_T33 l (j : Int)).f1 from hd), if_neg hd, w64 (n := (j : Int) + 1) (by omega) (by omega), en, ih (j + 1) k acc (by omega) (by omega) (by omega) (by omega), hS]
      congr 1; omega
theorem specDem_eq (l : List Tk) (hok : Ok l) (t : Int) (ht0 : 0 ≤ t) (ht : t ≤ 1000000) (k : Nat) (hk : 20 ≤ k) : spec_l2Demand.f k l t = some (dem l t) := by
  have hlen := hok.len
  unfold spec_l2Demand.f
  have := specDem_loop l hok t ht0 ht l.length 0 k 0 (by omega) (by omega) (by omega) (by omega)
  rw [show ((0 : Nat) : Int) = 0 from rfl] at this
  rw [this]
  unfold dem; simp

end Go.Proofs.Ytabjigpbednfnaa.Pu
