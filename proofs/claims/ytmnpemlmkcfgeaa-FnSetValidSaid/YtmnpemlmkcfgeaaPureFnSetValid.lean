/- The statement FnSetValid of the given program holds for every input: for every code of at most 2^20 bytes (and for longer ones at once) the law returns true. No further condition. -/
import Derived.Test.YtmnpemlmkcfgeaaWithout
import Derived.Test.YtmnpemlmkcfgeaaFlawsXFnSetValid
set_option linter.unusedSimpArgs false
set_option linter.unusedVariables false
namespace Go.Proofs.Ytmnpemlmkcfgeaa.Pure
open Go.RowKit Go.Proofs.Ytmnpemlmkcfgeaa.Q Go.Proofs.Ytmnpemlmkcfgeaa.Pu Go.Proofs.YtmnpemlmkcfgeaaW.PrintWords Go.Proofs.YtmnpemlmkcfgeaaW.PrintLast

theorem setValid_loop (l : List Tk) (hb : Bd l) : ∀ (d j k : Nat) (acc : Bool), j + d = l.length → 2 * d + 3 ≤ k → acc = (decide ((l.length : Int) ≤ 5) && (l.take j).all tok) →
    laws_FnSetValid.l0 k l (setOk l) acc (j : Int) = some true := by
  have hlen := hb.len
  intro d
  induction d with
  | zero =>
    intro j k acc hj hk ha
    obtain ⟨k, rfl⟩ : ∃ m, k = m + 1 := ⟨k - 1, by omega⟩
    simp only [laws_FnSetValid.l0]
    rw [if_neg (by omega), implSet_eq, alive_eq, ha, List.take_of_length_le (by omega)]
    unfold setOk
    rw [beq_self_eq_true, if_pos rfl]
    rfl
  | succ d ih =>
    intro j k acc hj hk ha
    obtain ⟨k, rfl⟩ : ∃ m, k = m + 1 + 1 := ⟨k - 2, by omega⟩
    have en : wrap64 ((j : Int) + 1) = ((j + 1 : Nat) : Int) := by rw [w64 (by omega) (by omega)]; omega
    have hacc : (acc && tok (rdT l (j : Int))) = (decide ((l.length : Int) ≤ 5) && (l.take (j + 1)).all tok) := by
      rw [ha, List.take_succ_eq_append_getElem (by omega), List.all_append, rdT_get l j (by omega), Bool.and_assoc]
      simp
    have step : laws_FnSetValid.j1 (k + 1) l (setOk l) (acc && tok (rdT l (j : Int))) (j : Int) = some true := by
      simp only [laws_FnSetValid.j1]
      rw [en]
      by_cases h : setOk l = true
      · rw [if_pos h, without_eq l (by omega) j (by omega)]
        simp only [Option.bind_some, implSet_eq]
        rw [if_pos ((setOk_iff _).mpr ((Ok.mk' h).wo (by omega)))]
        exact ih (j + 1) k _ (by omega) (by omega) hacc
      · rw [if_neg h]
        exact ih (j + 1) k _ (by omega) (by omega) hacc
    rw [laws_FnSetValid.l0]
    rw [if_pos (by omega)]
    by_cases ht : acc = true
    · rw [if_pos ht, if_pos (by omega), implTask_eq]
      simp only [Option.bind_some]
      rw [ht, Bool.true_and] at step
      exact step
    · rw [if_neg ht]
      have : acc = false := by simpa using ht
      rw [this, Bool.false_and] at step
      exact step

theorem FnSetValid : laws_FnSetValid.Pure := by
  intro l0 _ _ h8
  obtain ⟨K, hK⟩ : ∃ K, 1000000 ≤ K := ⟨_, Nat.le_refl _⟩
  refine ⟨K, ?_⟩
  unfold laws_FnSetValid.f
  by_cases hlong : (l0.length : Int) > 1048576
  · rw [if_pos hlong]
  rw [if_neg hlong]
  obtain ⟨b, hb, ho⟩ := open_ev l0 h8
  obtain ⟨l, q, hl, _, _, hs⟩ := set_ev b hb 0 2 (by omega) (by omega)
  have hlen := hl.len
  unfold spec_DrawSetValid.f
  rw [ho]
  simp only [Option.bind_some]
  rw [hs K (by omega)]
  simp only [Option.bind_some, implSet_eq]
  rw [specSet_eq l (by omega) K (by omega)]
  simp only [Option.bind_some]
  rw [if_neg (by simp)]
  exact setValid_loop l hl l.length 0 K _ (by omega) (by omega) (by simp)

end Go.Proofs.Ytmnpemlmkcfgeaa.Pure
