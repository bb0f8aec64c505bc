import Derived.Test.YtnkpbbkfhmlcfaaPB
import Derived.Test.YtnkpbbkfhmlcfaaFimplXload
set_option linter.unusedSimpArgs false
set_option linter.unusedVariables false
namespace Go.Proofs.Ytnkpbbkfhmlcfaa.Pu
open Go.RowKit Go.Proofs.Ytnkpbbkfhmlcfaa.Q Go.Proofs.YtnkpbbkfhmlcfaaW.PrintWords Go.Proofs.YtnkpbbkfhmlcfaaW.PrintLast

theorem implLoad_loop (l : List Tk) (hok : Ok l) (h : Int) (hh0 : 0 ≤ h) (hh : h ≤ 1000000) : ∀ (d j k : Nat) (acc : Int), j + d = l.length → d < k → 0 ≤ acc → acc ≤ (j : Int) * 8000000 →
    impl_load.l0 k h acc l (l.length : Int) (j : Int) = some (acc + sumT (lterm h) (l.drop j)) := by
  intro d
  induction d with
  | zero =>
    intro j k acc hj hk h0 hacc
    obtain ⟨k, rfl⟩ : ∃ m, k = m + 1 := ⟨k - 1, by omega⟩
    simp only [impl_load.l0]
    rw [if_neg (by omega), List.drop_eq_nil_of_le (by omega)]
    simp [sumT]
  | succ d ih =>
    intro j k acc hj hk h0 hacc
    obtain ⟨k, rfl⟩ : ∃ m, k = m + 1 := ⟨k - 1, by omega⟩
    have hr := hok.rd j (by omega)
    have hlen := hok.len
    have hb := lterm_bd (x := rdT l (j : Int)) hr h hh0
    have en : ((j : Int) + 1) = ((j + 1 : Nat) : Int) := by omega
    have q0 : 0 ≤ h / (rdT l (j : Int)).f2 := Int.ediv_nonneg (by omega) (by omega)
    have q1 : h / (rdT l (j : Int)).f2 ≤ h := Int.ediv_le_self _ (by omega)
    simp only [impl_load.l0]
    rw [if_pos (by omega), if_pos (by omega), if_pos (by omega), drop_rd l j (by omega)]
    simp only [sumT]
    obtain ⟨S, hS⟩ : ∃ S, sumT (lterm h) (l.drop (j + 1)) = S := ⟨_, rfl⟩
    rw [hS]
    unfold lterm at hb ⊢
    simp only [rdT] at hb q0 q1 hr ⊢
    rw [if_neg (by omega), tdiv_pos (by omega)]
    generalize h / (rd_T42 l (j : Int)).f2 = q at hb q0 q1 ⊢
    rw [w64 (n := q) (by omega) (by omega)]
    generalize q * (rd_T42 l (j : Int)).f0 = y at hb ⊢
    rw [w64 (n := y) (by omega) (by omega), w64 (n := acc + y) (by omega) (by omega), w64 (n := (j : Int) + 1) (by omega) (by omega), en, ih (j + 1) k (acc + y) (by omega) (by omega) (by omega) (by omega), hS]
    congr 1; omega
theorem implLoad_eq (l : List Tk) (hok : Ok l) (k : Nat) (hk : 20 ≤ k) : impl_load.f k l = some (ld l) := by
  have hlen := hok.len
  have hh := hyp_bd hok
  unfold impl_load.f
  rw [implHyper_eq l hok k hk]
  simp only [Option.bind_some]
  have := implLoad_loop l hok (hyp l) (by omega) (by omega) l.length 0 k 0 (by omega) (by omega) (by omega) (by omega)
  rw [show ((0 : Nat) : Int) = 0 from rfl] at this
  rw [this]
  unfold ld; simp

end Go.Proofs.Ytnkpbbkfhmlcfaa.Pu
