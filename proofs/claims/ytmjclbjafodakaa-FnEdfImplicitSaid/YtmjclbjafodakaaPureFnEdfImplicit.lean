/- The statement FnEdfImplicit of the given program holds for every input: for every code of at most 2^20 bytes (and for longer ones at once) the law returns true. No further condition. -/
import Derived.Test.YtmjclbjafodakaaLate
import Derived.Test.YtmjclbjafodakaaImplEdf
import Derived.Test.YtmjclbjafodakaaSpecEdf
import Derived.Test.YtmjclbjafodakaaUtil
import Derived.Test.YtmjclbjafodakaaFlawsXFnEdfImplicit
set_option linter.unusedSimpArgs false
set_option linter.unusedVariables false
namespace Go.Proofs.Ytmjclbjafodakaa.Pure
open Go.RowKit Go.Proofs.Ytmjclbjafodakaa.Q Go.Proofs.Ytmjclbjafodakaa.Pu Go.Proofs.YtmjclbjafodakaaW.PrintWords Go.Proofs.YtmjclbjafodakaaW.PrintLast

theorem ei_loop (l : List Tk) (hok : Ok l) : ∀ (d j k : Nat), j + d = l.length → 300000 + d < k → laws_FnEdfImplicit.l0 k l (lateTo l j) (j : Int) (utO l).1 (utO l).2 = some true := by
  have hlen := hok.len
  have hu := ut_spec hok
  intro d
  induction d with
  | zero =>
    intro j k hj hk
    obtain ⟨k, rfl⟩ : ∃ m, k = m + 1 := ⟨k - 1, by omega⟩
    have e : j = l.length := by omega
    subst e
    have h1 : edf (l.map late) = decide ((utO l).1 ≤ (utO l).2) := by
      rw [edf_imp hok.late late_imp, hyp_late, ld_late, decide_eq_decide]
      exact hu.le_iff.symm
    rw [laws_FnEdfImplicit.l0]
    rw [if_neg (by rw [lateTo_len]; omega), lateTo_all, implEdf_eq _ k (by omega), implEdf_eq l k (by omega), alive_eq]
    simp only [Option.bind_some]
    rw [if_pos (by rw [h1]; simp)]
    by_cases he : edf l = true
    · rw [if_pos he, if_pos (hu.le_iff.mpr (edf_util he))]
    · rw [if_neg he]
  | succ d ih =>
    intro j k hj hk
    obtain ⟨k, rfl⟩ : ∃ m, k = m + 1 := ⟨k - 1, by omega⟩
    have en : wrap64 ((j : Int) + 1) = ((j + 1 : Nat) : Int) := by rw [w64 (by omega) (by omega)]; omega
    have hset := lateTo_set l (j := j) (by omega)
    unfold late at hset
    rw [laws_FnEdfImplicit.l0]
    rw [if_pos (by rw [lateTo_len]; omega), if_pos (by omega), en, lateTo_get l (by omega), Int.toNat_natCast, hset]
    exact ih (j + 1) k (by omega) (by omega)

theorem FnEdfImplicit : laws_FnEdfImplicit.Pure := by
  intro l0 _ _ h8
  obtain ⟨K, hK⟩ : ∃ K, 10000000 ≤ K := ⟨_, Nat.le_refl _⟩
  refine ⟨K, ?_⟩
  unfold laws_FnEdfImplicit.f
  by_cases hlong : (l0.length : Int) > 1048576
  · rw [if_pos hlong]
  rw [if_neg hlong]
  obtain ⟨b, hb, ho⟩ := open_ev l0 h8
  obtain ⟨l, q, hl, _, _, hs⟩ := set_ev b hb 0 12 (by omega) (by omega)
  have hlen := hl.len
  have hdraw : spec_DrawEdfFeasible.f K l0 = some l := by
    unfold spec_DrawEdfFeasible.f
    rw [ho]
    simp only [Option.bind_some]
    rw [hs K (by omega)]
    rfl
  rw [hdraw, Option.bind_some, implEdf_eq l K (by omega), Option.bind_some, specEdf_eq l (by omega) K (by omega), Option.bind_some, if_neg (by simp), specSet_eq l (by omega) K (by omega), Option.bind_some]
  by_cases h : setOk l = true
  · have hok := Ok.mk' h
    rw [if_pos h, implUtil_eq l K (by omega), Option.bind_some, Option.bind_some, if_pos (by simp only [List.length_nil]; omega), List.nil_append]
    have := ei_loop l hok l.length 0 K (by omega) (by have := hok.len; omega)
    rw [lateTo_zero] at this
    exact this
  · rw [if_neg h, alive_eq]
    rfl

end Go.Proofs.Ytmjclbjafodakaa.Pure
