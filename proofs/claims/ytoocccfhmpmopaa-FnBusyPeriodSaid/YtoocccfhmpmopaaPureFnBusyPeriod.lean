/- The statement FnBusyPeriod of the given program holds for every input: for every code of at most 2^20 bytes (and for longer ones at once) the law returns true. No further condition. -/
import Derived.Test.YtoocccfhmpmopaaSpecBusy
import Derived.Test.YtoocccfhmpmopaaImplHyp
import Derived.Test.YtoocccfhmpmopaaFlawsXFnBusyPeriod
set_option linter.unusedSimpArgs false
set_option linter.unusedVariables false
namespace Go.Proofs.Ytoocccfhmpmopaa.Pure
open Go.RowKit Go.Proofs.Ytoocccfhmpmopaa.Q Go.Proofs.Ytoocccfhmpmopaa.Pu Go.Proofs.YtoocccfhmpmopaaW.PrintWords Go.Proofs.YtoocccfhmpmopaaW.PrintLast

theorem bl1 (l : List Tk) (hok : Ok l) (v w : Int) (hw : 1 ≤ w) (hw2 : w ≤ v) (hv : IsB l v) : ∀ (d j k : Nat) (acc : Int), j + d = l.length → 0 ≤ acc → acc ≤ (j : Int) * 8000000 → acc + sumT (wterm w) (l.drop j) = work l w →
    laws_FnBusyPeriod.l1 (k + d + 1) l v w acc (j : Int) = laws_FnBusyPeriod.l0 k l v (wrap64 (w + 1)) := by
  have hlen := hok.len
  have hb := hyp_bd hok
  have hhi := hv.hi
  intro d
  induction d with
  | zero =>
    intro j k acc hj h0 h1 hS
    rw [List.drop_eq_nil_of_le (by omega)] at hS
    simp only [sumT] at hS
    have e : acc = work l w := by omega
    subst e
    rw [laws_FnBusyPeriod.l1]
    rw [if_neg (by omega)]
    by_cases e : w = v
    · subst e
      rw [if_neg (by omega), if_pos rfl, if_pos hv.fix]
    · have a := hv.les w hw (by omega)
      rw [if_pos (by omega), if_neg (by omega), if_neg e]
  | succ d ih =>
    intro j k acc hj h0 h1 hS
    obtain ⟨y, hy, y0, y1, hne, ew⟩ := wstep (x := rdT l (j : Int)) (hok.rd j (by omega)) (show 0 ≤ w by omega) (by omega)
    rw [work_step l w acc j (by omega), hy] at hS
    simp only [rdT] at hne ew
    rw [show k + (d + 1) + 1 = (k + d + 1) + 1 from by omega, laws_FnBusyPeriod.l1]
    rw [if_pos (by omega), if_pos (by omega), if_neg hne, ew, w64 (n := acc + y) (by omega) (by omega), jnx j (by omega)]
    exact ih (j + 1) k (acc + y) (by omega) (by omega) (by omega) hS
theorem bl0 (l : List Tk) (hok : Ok l) (v : Int) (hv : IsB l v) : ∀ (n k : Nat) (w : Int), 1 ≤ w → w ≤ v + 1 → v + 1 - w = n → 10 * n + 30 ≤ k → laws_FnBusyPeriod.l0 k l v w = some true := by
  have hlen := hok.len
  have hb := hyp_bd hok
  have hhi := hv.hi
  have hlo := hv.lo
  intro n
  induction n with
  | zero =>
    intro k w h1 h2 h3 hk
    obtain ⟨k, rfl⟩ : ∃ m, k = m + 1 := ⟨k - 1, by omega⟩
    rw [laws_FnBusyPeriod.l0]
    rw [if_neg (by omega), if_pos (by omega), implHyp_eq l k (by omega), Option.bind_some]
    unfold hypO
    rw [if_pos ((setOk_iff l).mpr hok), if_pos hhi, alive_eq]
    rfl
  | succ n ih =>
    intro k w h1 h2 h3 hk
    obtain ⟨m, rfl⟩ : ∃ m, k = (m + l.length + 1) + 1 := ⟨k - l.length - 2, by omega⟩
    rw [laws_FnBusyPeriod.l0]
    rw [if_pos (by omega)]
    refine Eq.trans (bl1 l hok v w (by omega) (by omega) hv l.length 0 m 0 (by omega) (by omega) (by omega) (by rw [List.drop_zero, Int.zero_add]; rfl)) ?_
    rw [w64 (n := w + 1) (by omega) (by omega)]
    exact ih m (w + 1) (by omega) (by omega) (by omega) (by omega)

theorem FnBusyPeriod : laws_FnBusyPeriod.Pure := by
  intro l0 _ _ h8
  obtain ⟨K, hK⟩ : ∃ K, 100000000 ≤ K := ⟨_, Nat.le_refl _⟩
  obtain ⟨K, rfl⟩ : ∃ m, K = m + 1 := ⟨K - 1, by omega⟩
  refine ⟨K + 1, ?_⟩
  unfold laws_FnBusyPeriod.f
  by_cases hlong : (l0.length : Int) > 1048576
  · rw [if_pos hlong]
  rw [if_neg hlong]
  obtain ⟨b, hb, ho⟩ := open_ev l0 h8
  obtain ⟨l, q, hl, _, _, hs⟩ := set_ev b hb 0 12 (by omega) (by omega)
  have hlen := hl.len
  have hdraw : spec_DrawBusyPeriod.f (K + 1) l0 = some l := by
    unfold spec_DrawBusyPeriod.f
    rw [ho]
    simp only [Option.bind_some]
    rw [hs (K + 1) (by omega)]
    rfl
  rw [hdraw, Option.bind_some, implBusy_eq l (K + 1) (by omega), Option.bind_some, specBusy_eq l (by omega) (K + 1) (by omega), Option.bind_some, if_pos rfl, specSet_eq l (by omega) (K + 1) (by omega), Option.bind_some]
  have hj : bp l = -1 → laws_FnBusyPeriod.j0 (K + 1) l (bp l) true = some true := fun e => by
    rw [laws_FnBusyPeriod.j0]
    rw [if_pos rfl, if_pos e, alive_eq]
    rfl
  by_cases h : setOk l = true
  · have hok := Ok.mk' h
    rw [if_pos h]
    by_cases he : l = []
    · rw [show ((l.length : Int) == 0) = true from by rw [he]; rfl]
      exact hj (bp_no fun a => a.2.1 he)
    · have hl : ¬ (l.length : Int) = 0 := by
        have := List.length_pos_iff.mpr he
        omega
      have hu' := (ut_spec hok).le_iff
      rw [beq_eq_false_iff_ne.mpr hl, laws_FnBusyPeriod.j0, if_neg (by simp), implUtil_eq l K (by omega), Option.bind_some]
      by_cases hu : ld l ≤ hyp l
      · have hB := bp_yes hok he hu
        have := hB.hi
        have := hB.lo
        have := hyp_bd hok
        rw [if_neg (by have := hu'.mpr hu; omega)]
        exact bl0 l hok _ hB (bp l).toNat K 1 (by omega) (by omega) (by omega) (by omega)
      · rw [if_pos (by have : ¬ (utO l).1 ≤ (utO l).2 := fun a => hu (hu'.mp a); omega), bp_no (fun a => hu a.2.2)]
        rfl
  · rw [if_neg h]
    exact hj (bp_no fun a => h a.1)

end Go.Proofs.Ytoocccfhmpmopaa.Pure
