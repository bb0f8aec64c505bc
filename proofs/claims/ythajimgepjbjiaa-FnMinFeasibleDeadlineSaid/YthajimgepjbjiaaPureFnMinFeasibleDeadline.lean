/- The statement FnMinFeasibleDeadline of the given program holds for every input: for every code of at most 2^20 bytes (and for longer ones at once) the law returns true. No further condition. -/
import Derived.Test.YthajimgepjbjiaaSensD
import Derived.Test.YthajimgepjbjiaaFlawsXFnMinFeasibleDeadline
set_option linter.unusedSimpArgs false
set_option linter.unusedVariables false
namespace Go.Proofs.Ythajimgepjbjiaa.Pure
open Go.RowKit Go.Proofs.Ythajimgepjbjiaa.Q Go.Proofs.Ythajimgepjbjiaa.Pu Go.Proofs.YthajimgepjbjiaaW.PrintWords Go.Proofs.YthajimgepjbjiaaW.PrintLast

theorem withDead_eq {l : List Tk} (hl : l.length ≤ 1000) {j : Nat} (hj : j < l.length) (c : Int) : laws_withDeadline.f l (j : Int) c = some (setD l j c) := by
  unfold laws_withDeadline.f setD
  rw [Option.bind_some, List.nil_append, if_pos (by simp only [List.length_nil]; omega), Option.bind_some, if_pos (by omega), if_pos (by omega), Int.toNat_natCast]
theorem FnMinFeasibleDeadline : laws_FnMinFeasibleDeadline.Pure := by
  intro l0 _ _ h8
  refine Ex.get ?_
  unfold laws_FnMinFeasibleDeadline.f spec_DrawMinFeasibleDeadline.f
  refine Ex.ite (fun _ => Ex.val rfl) (fun _ => Ex.bind (P := fun (x : List Tk × Int) => Bd x.1 ∧ -1 ≤ x.2 ∧ x.2 ≤ (x.1.length : Int)) (Ex.bind (drawMfc_ex l0 h8) (fun x hx => Ex.val hx)) ?_)
  rintro ⟨l, i⟩ ⟨hl, hi1, hi2⟩
  simp only [] at hl hi1 hi2 ⊢
  have hlen := hl.len
  refine Ex.bind (implMfd_ex l (by omega) i) ?_
  rintro _ rfl
  refine Ex.bind (specMfd_ex l (by omega) i) ?_
  rintro _ rfl
  refine Ex.pos rfl (Ex.bind (specSet_ex l (by omega)) ?_)
  rintro _ rfl
  have no : inSet l i = false → Ex (fun k => laws_FnMinFeasibleDeadline.j0 k l i (mfdO l i) true) (fun x => x = true) := fun h => by
    refine Ex.step ?_
    simp only [laws_FnMinFeasibleDeadline.j0, alive_eq, Option.bind_some]
    exact Ex.pos trivial (Ex.pos (by unfold mfdO; rw [h]; rfl) (Ex.val rfl))
  refine Ex.ite (fun h => Ex.ite (fun h2 => no ?_) (fun h2 => ?_)) (fun h => no ?_)
  · unfold inSet; rw [h, decide_eq_false (by omega)]; rfl
  · by_cases h3 : i ≥ (l.length : Int)
    · rw [decide_eq_true h3]
      refine no ?_
      unfold inSet; rw [h, decide_eq_false (by omega)]; rfl
    · rw [decide_eq_false h3]
      have hok := (setOk_iff l).mp h
      obtain ⟨j, rfl⟩ := Int.eq_ofNat_of_zero_le (show 0 ≤ i by omega)
      have hj : j < l.length := by omega
      have e : mfdO l (j : Int) = mfd l j := by unfold mfdO; rw [if_pos ((inSet_iff _ _).mpr ⟨hok, by omega, by omega⟩), Int.toNat_natCast]
      rw [e]
      have hx := ok_rd hok hj
      unfold TkOk at hx
      have self := setD_self hj
      refine Ex.step ?_
      simp only [laws_FnMinFeasibleDeadline.j0, withDead_eq (show l.length ≤ 1000 by omega) hj, Option.bind_some]
      refine Ex.neg (by simp) ?_
      rcases mfd_spec hok hj with ⟨m0, hn⟩ | ⟨m1, m2, hs⟩
      · rw [m0]
        refine Ex.pos rfl (Ex.bind (implEdf_ex l) ?_)
        rintro _ rfl
        have f1 := hn (rd_T44 l (j : Int)).f1 (by omega) (by omega)
        rw [self] at f1
        have f2 := hn (rd_T44 l (j : Int)).f2 (by omega) (by omega)
        refine Ex.neg (by rw [f1]; simp) (Ex.pos (by omega) (Ex.pos (by omega) (Ex.bind (implEdf_ex _) ?_)))
        rintro _ rfl
        exact Ex.val (by rw [f2]; rfl)
      · have f1 := hs (rd_T44 l (j : Int)).f1 (by omega) (by omega)
        rw [self] at f1
        have fin : (edf l == decide ((rd_T44 l (j : Int)).f1 ≥ mfd l j)) = true := by
          rw [beq_iff_eq, Bool.eq_iff_iff, f1, decide_eq_true_iff]
        refine Ex.neg (by omega) (Ex.pos (by omega) (Ex.pos (by omega) (Ex.neg (by omega) (Ex.neg (by omega) (Ex.bind (implEdf_ex _) ?_)))))
        rintro _ rfl
        refine Ex.pos ((hs _ m1 m2).mpr (Int.le_refl _)) (Ex.ite (fun h5 => ?_) (fun _ => ?_))
        · rw [w64 (by omega) (by omega)]
          refine Ex.bind (implEdf_ex _) ?_
          rintro _ rfl
          have f3 : ¬ edf (setD l j (mfd l j - 1)) = true := fun hb => absurd ((hs (mfd l j - 1) (by omega) (by omega)).mp hb) (by omega)
          refine Ex.neg f3 (Ex.bind (implEdf_ex l) ?_)
          rintro _ rfl
          exact Ex.val fin
        · refine Ex.bind (implEdf_ex l) ?_
          rintro _ rfl
          exact Ex.val fin
  · unfold inSet; simp only [h, Bool.false_and]

end Go.Proofs.Ythajimgepjbjiaa.Pure
