/- The statement FnEdfFeasible of the given program holds for every input: for every code of at most 2^20 bytes (and for longer ones at once) the law returns true. No further condition. -/
import Derived.Test.YtmjclbjafodakaaSetMath
import Derived.Test.YtmjclbjafodakaaImplEdf
import Derived.Test.YtmjclbjafodakaaSpecEdf
import Derived.Test.YtmjclbjafodakaaFlawsXFnEdfFeasible
set_option linter.unusedSimpArgs false
set_option linter.unusedVariables false
namespace Go.Proofs.Ytmjclbjafodakaa.Pure
open Go.RowKit Go.Proofs.Ytmjclbjafodakaa.Q Go.Proofs.Ytmjclbjafodakaa.Pu Go.Proofs.YtmjclbjafodakaaW.PrintWords Go.Proofs.YtmjclbjafodakaaW.PrintLast

theorem ef_loop (l : List Tk) (h : edf l = true) : ∀ (d j k : Nat), j + d = l.length → 300000 + d < k → laws_FnEdfFeasible.l0 k l (j : Int) = some true := by
  have hok := ((edf_iff l).mp h).1
  have hlen := hok.len
  intro d
  induction d with
  | zero =>
    intro j k hj hk
    obtain ⟨k, rfl⟩ : ∃ m, k = m + 1 := ⟨k - 1, by omega⟩
    rw [laws_FnEdfFeasible.l0]
    rw [if_neg (by omega), implEdf_eq [] k (by omega), edf_nil]
    rfl
  | succ d ih =>
    intro j k hj hk
    obtain ⟨k, rfl⟩ : ∃ m, k = m + 1 := ⟨k - 1, by omega⟩
    have en : wrap64 ((j : Int) + 1) = ((j + 1 : Nat) : Int) := by rw [w64 (by omega) (by omega)]; omega
    have hj' : j < l.length := by omega
    have hr := hok.rd j hj'
    have hg := rdT_get l j hj'
    have hm := mx_bd 1 ((rdT l (j : Int)).f0 - 1)
    rw [laws_FnEdfFeasible.l0]
    rw [if_pos (by omega), Option.bind_some, if_pos (by simp only [List.length_nil]; omega), Option.bind_some, List.nil_append, if_pos (by omega), if_pos (by omega), Option.bind_some, if_pos (by simp only [List.length_nil]; omega), Option.bind_some, List.nil_append, if_pos (by omega), without_eq l (by omega) j hj', Option.bind_some, implEdf_eq _ k (by omega), Option.bind_some, if_pos (edf_wo h hj'), implEdf_eq _ k (by omega), Option.bind_some]
    simp only [rdT] at hr hg hm
    rw [w64 (n := (rd_T29 l (j : Int)).f0 - 1) (by omega) (by omega), Int.toNat_natCast]
    rw [if_pos (edf_set h hj' (by unfold TkOk; dsimp only; omega) (by rw [hg]) (dterm_cost (hok.all _ (List.getElem_mem hj')) (by rw [hg] at hm hr ⊢; show mx 1 (l[j].f0 - 1) ≤ _; omega) (by rw [hg]) (by rw [hg])))]
    rw [implEdf_eq _ k (by omega), Option.bind_some]
    rw [if_pos (edf_set h hj' (by unfold TkOk; dsimp only; omega) (by rw [hg]) (dterm_dead (hok.all _ (List.getElem_mem hj')) (by rw [hg]) (by rw [hg] at hr ⊢; show l[j].f1 ≤ l[j].f2; omega) (by rw [hg]))), en]
    exact ih (j + 1) k (by omega) (by omega)

theorem FnEdfFeasible : laws_FnEdfFeasible.Pure := by
  intro l0 _ _ h8
  obtain ⟨K, hK⟩ : ∃ K, 10000000 ≤ K := ⟨_, Nat.le_refl _⟩
  refine ⟨K, ?_⟩
  unfold laws_FnEdfFeasible.f
  by_cases hlong : (l0.length : Int) > 1048576
  · rw [if_pos hlong]
  rw [if_neg hlong]
  obtain ⟨b, hb, ho⟩ := open_ev l0 h8
  obtain ⟨l, q, hl, _, _, hs⟩ := set_ev b hb 0 12 (by omega) (by omega)
  have hlen := hl.len
  unfold spec_DrawEdfFeasible.f
  rw [ho]
  simp only [Option.bind_some]
  rw [hs K (by omega)]
  simp only [Option.bind_some]
  rw [implEdf_eq l K (by omega), specEdf_eq l (by omega) K (by omega), specSet_eq l (by omega) K (by omega), implFirst_eq l K (by omega)]
  simp only [Option.bind_some]
  rw [if_neg (by simp)]
  obtain ⟨k, rfl⟩ : ∃ m, K = m + 1 := ⟨K - 1, by omega⟩
  have hj : laws_FnEdfFeasible.j0 (k + 1) l (edf l) false = some true := by
    rw [laws_FnEdfFeasible.j0]
    rw [if_neg (by simp)]
    by_cases he : edf l = true
    · rw [if_pos he]
      have := ((edf_iff l).mp he).1.len
      exact ef_loop l he l.length 0 k (by omega) (by omega)
    · rw [if_neg he, alive_eq]; rfl
  by_cases h : setOk l = true
  · rw [if_pos h, if_pos h]
    have e : (edf l != (fov l == -1)) = false := by
      unfold edf
      rw [h, Bool.true_and]
      rcases fov_spec l with ⟨e, _⟩ | ⟨h1, _⟩
      · rw [e]; rfl
      · rw [decide_eq_false (by omega), beq_eq_false_iff_ne.mpr (show fov l ≠ -1 from by omega)]; rfl
    rw [e]
    exact hj
  · rw [if_neg h]
    have e : (edf l != false) = false := by
      unfold edf
      have : setOk l = false := by simpa using h
      rw [this]; rfl
    rw [e]
    exact hj

end Go.Proofs.Ytmjclbjafodakaa.Pure
