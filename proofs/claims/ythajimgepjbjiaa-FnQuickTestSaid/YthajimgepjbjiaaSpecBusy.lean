import Derived.Test.YthajimgepjbjiaaBusy
import Derived.Test.YthajimgepjbjiaaFspecXBusyPeriod
set_option linter.unusedSimpArgs false
set_option linter.unusedVariables false
namespace Go.Proofs.Ythajimgepjbjiaa.Pu
open Go.RowKit Go.Proofs.Ythajimgepjbjiaa.Q Go.Proofs.YthajimgepjbjiaaW.PrintWords Go.Proofs.YthajimgepjbjiaaW.PrintLast

theorem specWork_loop (l : List Tk) (hok : Ok l) (w : Int) (hw : 0 ≤ w) (hw2 : w ≤ 1000000) (S : Int) : ∀ (d j k : Nat) (acc : Int), j + d = l.length → d < k → 0 ≤ acc → acc ≤ (j : Int) * 8000000 → acc + sumT (wterm w) (l.drop j) = S →
    spec_l2Work.l0 k l w acc (j : Int) = some S := by
  have hlen := hok.len
  intro d
  induction d with
  | zero =>
    intro j k acc hj hk h0 h1 hS
    obtain ⟨k, rfl⟩ : ∃ m, k = m + 1 := ⟨k - 1, by omega⟩
    rw [List.drop_eq_nil_of_le (by omega)] at hS
    simp only [sumT] at hS
    rw [spec_l2Work.l0]
    rw [if_neg (by omega), show acc = S from by omega]
  | succ d ih =>
    intro j k acc hj hk h0 h1 hS
    obtain ⟨k, rfl⟩ : ∃ m, k = m + 1 := ⟨k - 1, by omega⟩
    obtain ⟨y, hy, y0, y1, hne, ew⟩ := wstep (x := rdT l (j : Int)) (hok.rd j (by omega)) hw hw2
    rw [work_step l w acc j (by omega), hy] at hS
    simp only [rdT] at hne ew
    rw [spec_l2Work.l0]
    rw [if_pos (by omega), if_pos (by omega), if_neg hne, ew, w64 (n := acc + y) (by omega) (by omega), jnx j (by omega)]
    exact ih (j + 1) k (acc + y) (by omega) (by omega) (by omega) (by omega) hS
theorem specWork_eq (l : List Tk) (hok : Ok l) (w : Int) (hw : 0 ≤ w) (hw2 : w ≤ 1000000) (k : Nat) (hk : 10 ≤ k) : spec_l2Work.f k l w = some (work l w) := by
  have hlen := hok.len
  exact specWork_loop l hok w hw hw2 (work l w) l.length 0 k 0 (by omega) (by omega) (by omega) (by omega) (by rw [List.drop_zero, Int.zero_add]; rfl)
theorem specBusy_l0 (l : List Tk) (hok : Ok l) (v : Int) (hv : IsB l v) : ∀ (n k : Nat) (w : Int), 1 ≤ w → w ≤ v → v - w ≤ n → n + 20 ≤ k → spec_BusyPeriod.l0 k l w = some v := by
  have hb := hyp_bd hok
  have hhi := hv.hi
  have hfix := hv.fix
  intro n
  induction n with
  | zero =>
    intro k w h1 h2 h3 hk
    obtain ⟨k, rfl⟩ : ∃ m, k = m + 1 := ⟨k - 1, by omega⟩
    have e : w = v := by omega
    subst e
    rw [spec_BusyPeriod.l0]
    rw [specWork_eq l hok w (by omega) (by omega) k (by omega), Option.bind_some, if_pos hfix]
  | succ n ih =>
    intro k w h1 h2 h3 hk
    obtain ⟨k, rfl⟩ : ∃ m, k = m + 1 := ⟨k - 1, by omega⟩
    rw [spec_BusyPeriod.l0]
    rw [specWork_eq l hok w (by omega) (by omega) k (by omega), Option.bind_some]
    by_cases e : w = v
    · subst e
      rw [if_pos hfix]
    · have a := hv.les w h1 (by omega)
      have b := work_mono hok h2
      rw [if_neg (by omega), Option.bind_some]
      exact ih k (work l w) (by omega) (by omega) (by omega) (by omega)
theorem specBusy_eq (l : List Tk) (hl : l.length ≤ 1000) (k : Nat) (hk : 11000000 ≤ k) : spec_BusyPeriod.f k l = some (bp l) := by
  obtain ⟨k, rfl⟩ : ∃ m, k = m + 1 := ⟨k - 1, by omega⟩
  have hj : ∀ l, spec_BusyPeriod.j0 (k + 1) l true = some (-1) := fun l => by rw [spec_BusyPeriod.j0, if_pos rfl]
  unfold spec_BusyPeriod.f
  rw [specSet_eq l (by omega) (k + 1) (by omega), Option.bind_some]
  by_cases h : setOk l = true
  · have hok := Ok.mk' h
    have hlen := hok.len
    have hb := hyp_bd hok
    have hu' := (ut_spec hok).le_iff
    rw [if_pos h]
    by_cases he : l = []
    · rw [show ((l.length : Int) == 0) = true from by rw [he]; rfl, hj, bp_no (fun a => a.2.1 he)]
    · have hl : ¬ (l.length : Int) = 0 := by
        have := List.length_pos_iff.mpr he
        omega
      rw [beq_eq_false_iff_ne.mpr hl, spec_BusyPeriod.j0, if_neg (by simp), specUtil_eq l (by omega) k (by omega), Option.bind_some]
      by_cases hu : ld l ≤ hyp l
      · have hB := bp_yes hok he hu
        have b1 := work_one hok he
        have b2 := work_mono hok hB.lo
        rw [hB.fix] at b2
        have b3 := hB.hi
        rw [if_neg (by have := hu'.mpr hu; omega), specWork_eq l hok 1 (by omega) (by omega) k (by omega), Option.bind_some]
        exact specBusy_l0 l hok _ hB 250000 k (work l 1) b1 b2 (by omega) (by omega)
      · rw [if_pos (by have : ¬ (utO l).1 ≤ (utO l).2 := fun a => hu (hu'.mp a); omega), bp_no (fun a => hu a.2.2)]
  · rw [if_neg h, hj, bp_no (fun a => h a.1)]

end Go.Proofs.Ythajimgepjbjiaa.Pu
