import Derived.Test.YthajimgepjbjiaaPB
import Derived.Test.YthajimgepjbjiaaSpecUtil
import Derived.Test.YthajimgepjbjiaaImplLoad
import Derived.Test.YthajimgepjbjiaaFimplXBusyPeriod
set_option linter.unusedSimpArgs false
set_option linter.unusedVariables false
namespace Go.Proofs.Ythajimgepjbjiaa.Pu
open Go.RowKit Go.Proofs.Ythajimgepjbjiaa.Q Go.Proofs.YthajimgepjbjiaaW.PrintWords Go.Proofs.YthajimgepjbjiaaW.PrintLast

theorem jnx (j : Nat) (h : j ≤ 1000) : wrap64 ((j : Int) + 1) = ((j + 1 : Nat) : Int) := by rw [w64 (by omega) (by omega)]; omega
/-- What a task releases within an interval. -/
def wterm (w : Int) (x : Tk) : Int := (w + x.f2 - 1) / x.f2 * x.f0
def work (l : List Tk) (w : Int) : Int := sumT (wterm w) l
theorem wterm_bd {x : Tk} (h : TkOk x) {w : Int} (hw : 0 ≤ w) : 0 ≤ wterm w x ∧ wterm w x ≤ w * 8 := by
  unfold TkOk at h
  unfold wterm
  have q0 : 0 ≤ (w + x.f2 - 1) / x.f2 := Int.ediv_nonneg (by omega) (by omega)
  have q1 : (w + x.f2 - 1) / x.f2 ≤ w := by
    rcases Int.lt_or_le w 1 with h1 | h1
    · rw [show w = 0 from by omega, Int.ediv_eq_zero_of_lt (by omega) (by omega)]; omega
    · have : (w + x.f2 - 1) / x.f2 = (w - 1) / x.f2 + 1 := by
        rw [show w + x.f2 - 1 = (w - 1) + x.f2 * 1 from by omega, Int.add_mul_ediv_left _ _ (by omega)]
      have : (w - 1) / x.f2 ≤ w - 1 := Int.ediv_le_self _ (by omega)
      omega
  exact ⟨Int.mul_nonneg q0 (by omega), Int.mul_le_mul q1 (by omega) (by omega) hw⟩
theorem work_bd {l : List Tk} (h : Ok l) {w : Int} (hw : 0 ≤ w) : 0 ≤ work l w ∧ work l w ≤ 40 * w := by
  unfold work
  refine ⟨sumT_nonneg l fun x hx => (wterm_bd (h.all x hx) hw).1, ?_⟩
  have h1 := sumT_le (g := wterm w) (w * 8) l fun x hx => (wterm_bd (h.all x hx) hw).2
  have h2 : (l.length : Int) * (w * 8) ≤ 5 * (w * 8) := Int.mul_le_mul_of_nonneg_right (by have := h.len; omega) (by omega)
  omega
theorem work_mono {l : List Tk} (h : Ok l) {a b : Int} (hab : a ≤ b) : work l a ≤ work l b := by
  unfold work
  refine sumT_mono l fun x hx => ?_
  have := h.all x hx
  unfold wterm
  have q : (a + x.f2 - 1) / x.f2 ≤ (b + x.f2 - 1) / x.f2 := Int.ediv_le_ediv (by omega) (by omega)
  exact Int.mul_le_mul_of_nonneg_right q (by omega)
theorem work_hyp {l : List Tk} (h : Ok l) : work l (hyp l) = ld l := by
  unfold work ld
  refine sumT_congr l fun x hx => ?_
  have hx' := h.all x hx
  obtain ⟨q, hq⟩ := hyp_dvd_mem h x hx
  unfold wterm lterm
  rw [hq, show x.f2 * q + x.f2 - 1 = (x.f2 - 1) + x.f2 * q from by omega, Int.add_mul_ediv_left _ _ (by omega), Int.ediv_eq_zero_of_lt (by omega) (by omega), Int.mul_ediv_cancel_left _ (by omega), Int.zero_add]
theorem work_one {l : List Tk} (h : Ok l) (hne : l ≠ []) : 1 ≤ work l 1 := by
  cases l with
  | nil => exact absurd rfl hne
  | cons t r =>
    have ht := h.all t (by simp)
    have h2 : 0 ≤ sumT (wterm 1) r := sumT_nonneg r fun x hx => (wterm_bd (h.all x (by simp [hx])) (by omega)).1
    unfold work
    simp only [sumT]
    have : wterm 1 t = t.f0 := by
      unfold wterm
      rw [show 1 + t.f2 - 1 = t.f2 from by omega, Int.ediv_self (by omega), Int.one_mul]
    omega

/-- The first length that takes up what is released in it. -/
def bpF (l : List Tk) : Int := firstF (fun n => decide (work l n ≤ n)) (hypN l) 1
structure IsB (l : List Tk) (v : Int) : Prop where
  lo : 1 ≤ v
  hi : v ≤ hyp l
  fix : work l v = v
  les : ∀ n, 1 ≤ n → n < v → n < work l n
theorem bpF_spec {l : List Tk} (h : Ok l) (hne : l ≠ []) (hu : ld l ≤ hyp l) : IsB l (bpF l) := by
  have hb := hyp_bd h
  unfold bpF
  rcases firstF_spec (fun n => decide (work l n ≤ n)) (hypN l) 1 with ⟨_, hf⟩ | ⟨h1, h2, h3, h4⟩
  · have := hf (hyp l) hb.1 (by unfold hyp; omega)
    rw [decide_eq_false_iff_not, work_hyp h] at this
    omega
  · have h3 := of_decide_eq_true h3
    have h5 : ∀ n, 1 ≤ n → n < firstF (fun n => decide (work l n ≤ n)) (hypN l) 1 → n < work l n := fun n a b => by
      have := h4 n a b
      rw [decide_eq_false_iff_not] at this
      omega
    refine ⟨h1, by unfold hyp; omega, ?_, h5⟩
    have w1 : 1 ≤ work l (firstF (fun n => decide (work l n ≤ n)) (hypN l) 1) := Int.le_trans (work_one h hne) (work_mono h h1)
    rcases Int.lt_or_le (work l (firstF (fun n => decide (work l n ≤ n)) (hypN l) 1)) (firstF (fun n => decide (work l n ≤ n)) (hypN l) 1) with hlt | hle
    · have a := h5 _ w1 hlt
      have b := work_mono h (Int.le_of_lt hlt)
      omega
    · omega
/-- BusyPeriod. -/
def bp (l : List Tk) : Int := if setOk l = true ∧ l ≠ [] ∧ ld l ≤ hyp l then bpF l else -1
theorem bp_yes {l : List Tk} (h : Ok l) (hne : l ≠ []) (hu : ld l ≤ hyp l) : IsB l (bp l) := by
  unfold bp
  rw [if_pos ⟨(setOk_iff l).mpr h, hne, hu⟩]
  exact bpF_spec h hne hu
theorem bp_no {l : List Tk} (h : ¬ (setOk l = true ∧ l ≠ [] ∧ ld l ≤ hyp l)) : bp l = -1 := by unfold bp; rw [if_neg h]

theorem wstep {x : Tk} (h : TkOk x) {w : Int} (hw : 0 ≤ w) (hw2 : w ≤ 1000000) : ∃ y, wterm w x = y ∧ 0 ≤ y ∧ y ≤ 8000000 ∧ ¬ x.f2 = 0 ∧ wrap64 (wrap64 (Int.tdiv (wrap64 (wrap64 (w + x.f2) - 1)) x.f2) * x.f0) = y := by
  have hb := wterm_bd h hw
  unfold TkOk at h
  have q0 : 0 ≤ (w + x.f2 - 1) / x.f2 := Int.ediv_nonneg (by omega) (by omega)
  have q1 : (w + x.f2 - 1) / x.f2 ≤ w + x.f2 - 1 := Int.ediv_le_self _ (by omega)
  have e : wrap64 (Int.tdiv (wrap64 (wrap64 (w + x.f2) - 1)) x.f2) = (w + x.f2 - 1) / x.f2 := by
    rw [w64 (n := w + x.f2) (by omega) (by omega), w64 (n := w + x.f2 - 1) (by omega) (by omega), tdiv_pos (by omega)]
    exact w64 (by omega) (by omega)
  have e2 : wterm w x = (w + x.f2 - 1) / x.f2 * x.f0 := rfl
  rw [e, ← e2]
  generalize wterm w x = y at hb
  exact ⟨y, rfl, hb.1, by omega, by omega, w64 (by omega) (by omega)⟩
theorem work_step (l : List Tk) (w acc : Int) (j : Nat) (hj : j < l.length) : acc + sumT (wterm w) (l.drop j) = (acc + wterm w (rdT l (j : Int))) + sumT (wterm w) (l.drop (j + 1)) := by
  rw [drop_rd l j hj]
  simp only [sumT]
  omega
theorem implBusy_l1 (l : List Tk) (hok : Ok l) (w : Int) (hw : 0 ≤ w) (hw2 : w ≤ 1000000) (S : Int) : ∀ (d j k : Nat) (acc : Int), j + d = l.length → 0 ≤ acc → acc ≤ (j : Int) * 8000000 → acc + sumT (wterm w) (l.drop j) = S →
    impl_BusyPeriod.l1 (k + d + 1) l w acc l (l.length : Int) (j : Int) = if S = w then some w else impl_BusyPeriod.l0 k l S := by
  have hlen := hok.len
  intro d
  induction d with
  | zero =>
    intro j k acc hj h0 h1 hS
    rw [List.drop_eq_nil_of_le (by omega)] at hS
    simp only [sumT] at hS
    rw [impl_BusyPeriod.l1]
    rw [if_neg (by omega), show acc = S from by omega]
  | succ d ih =>
    intro j k acc hj h0 h1 hS
    obtain ⟨y, hy, y0, y1, hne, ew⟩ := wstep (x := rdT l (j : Int)) (hok.rd j (by omega)) hw hw2
    rw [work_step l w acc j (by omega), hy] at hS
    simp only [rdT] at hne ew
    rw [show k + (d + 1) + 1 = (k + d + 1) + 1 from by omega, impl_BusyPeriod.l1]
    unfold impl_ceil.f
    rw [if_pos (by omega), if_pos (by omega), if_pos (by omega), if_neg hne, Option.bind_some, ew, w64 (n := acc + y) (by omega) (by omega), jnx j (by omega)]
    exact ih (j + 1) k (acc + y) (by omega) (by omega) (by omega) hS
theorem implBusy_l0 (l : List Tk) (hok : Ok l) (v : Int) (hv : IsB l v) : ∀ (n k : Nat) (w : Int), 1 ≤ w → w ≤ v → v - w ≤ n → 10 * n + 20 ≤ k → impl_BusyPeriod.l0 k l w = some v := by
  have hlen := hok.len
  have hb := hyp_bd hok
  have hhi := hv.hi
  have hfix := hv.fix
  intro n
  induction n with
  | zero =>
    intro k w h1 h2 h3 hk
    have e : w = v := by omega
    subst e
    obtain ⟨m, rfl⟩ : ∃ m, k = (m + l.length + 1) + 1 := ⟨k - l.length - 2, by omega⟩
    have hg := implBusy_l1 l hok w (by omega) (by omega) (work l w) l.length 0 m 0 (by omega) (by omega) (by omega) (by rw [List.drop_zero, Int.zero_add]; rfl)
    rw [hfix] at hg
    rw [impl_BusyPeriod.l0]
    rw [if_pos rfl] at hg
    exact hg
  | succ n ih =>
    intro k w h1 h2 h3 hk
    obtain ⟨m, rfl⟩ : ∃ m, k = (m + l.length + 1) + 1 := ⟨k - l.length - 2, by omega⟩
    have hg := implBusy_l1 l hok w (by omega) (by omega) (work l w) l.length 0 m 0 (by omega) (by omega) (by omega) (by rw [List.drop_zero, Int.zero_add]; rfl)
    rw [impl_BusyPeriod.l0]
    refine Eq.trans hg ?_
    by_cases e : w = v
    · subst e
      rw [if_pos hfix]
    · have a := hv.les w h1 (by omega)
      have b := work_mono hok h2
      rw [if_neg (by omega)]
      exact ih m (work l w) (by omega) (by omega) (by omega) (by omega)
theorem implBusy_eq (l : List Tk) (k : Nat) (hk : 3000000 ≤ k) : impl_BusyPeriod.f k l = some (bp l) := by
  obtain ⟨k, rfl⟩ : ∃ m, k = m + 1 := ⟨k - 1, by omega⟩
  have hj : ∀ l, impl_BusyPeriod.j0 (k + 1) l true = some (-1) := fun l => by rw [impl_BusyPeriod.j0, if_pos rfl]
  unfold impl_BusyPeriod.f
  rw [implSet_eq, Option.bind_some]
  by_cases h : setOk l = true
  · have hok := Ok.mk' h
    have hlen := hok.len
    have hb := hyp_bd hok
    rw [if_pos h]
    by_cases he : l = []
    · rw [if_pos (by rw [he]; rfl), hj, bp_no (fun a => a.2.1 he)]
    · have hl : ¬ (l.length : Int) = 0 := by
        have := List.length_pos_iff.mpr he
        omega
      rw [if_neg hl, implLoad_eq l hok _ (by omega), Option.bind_some, implHyper_eq l hok _ (by omega), Option.bind_some]
      by_cases hu : ld l ≤ hyp l
      · have hB := bp_yes hok he hu
        have := hB.hi
        have := hB.lo
        rw [decide_eq_false (show ¬ ld l > hyp l from by omega), impl_BusyPeriod.j0, if_neg (by simp)]
        exact implBusy_l0 l hok _ hB 250000 k 1 (by omega) (by omega) (by omega) (by omega)
      · rw [decide_eq_true (show ld l > hyp l from by omega), hj, bp_no (fun a => hu a.2.2)]
  · rw [if_neg h, hj, bp_no (fun a => h a.1)]

end Go.Proofs.Ythajimgepjbjiaa.Pu
