/- The statement FnAssignmentValid of the given program holds for every input: for every code of at most 2^20 bytes (and for longer ones at once) the law returns true. No further condition. -/
import Derived.Test.YtnkpbbkfhmlcfaaAsg
import Derived.Test.YtnkpbbkfhmlcfaaFlawsXFnAssignmentValid
set_option linter.unusedSimpArgs false
set_option linter.unusedVariables false
namespace Go.Proofs.Ytnkpbbkfhmlcfaa.Pure
open Go.RowKit Go.Proofs.Ytnkpbbkfhmlcfaa.Q Go.Proofs.Ytnkpbbkfhmlcfaa.Pu Go.Proofs.YtnkpbbkfhmlcfaaW.PrintWords Go.Proofs.YtnkpbbkfhmlcfaaW.PrintLast

theorem FnAssignmentValid : laws_FnAssignmentValid.Pure := by
  intro l0 _ _ h8
  refine Ex.get ?_
  unfold laws_FnAssignmentValid.f spec_DrawAssignmentValid.f
  refine Ex.ite (fun _ => Ex.val rfl) (fun _ => ?_)
  obtain ⟨b, hb, ho⟩ := open_ev l0 h8
  simp only [ho, Option.bind_some]
  refine Ex.bind (P := fun (x : List Tk × Int × List Int) => Bd x.1 ∧ (-1 ≤ x.2.1 ∧ x.2.1 ≤ 6) ∧ x.2.2.length ≤ 13) (Ex.bind (set_ex hb (by omega) (by omega)) ?_) ?_
  · rintro ⟨l, q⟩ ⟨hl, h1, h2⟩
    have hlen := hl.len
    simp only [] at hl h1 h2 hlen ⊢
    refine Ex.bind (cores_ex hb (by omega) (by omega)) ?_
    rintro ⟨m, q2⟩ ⟨g1, g2, g3⟩
    simp only [] at g1 g2 g3 ⊢
    refine Ex.bind (assign_ex hb l.length (by omega) m 2 (by omega) (by omega)) ?_
    rintro ⟨a, q3⟩ ⟨c1, c2, c3⟩
    exact Ex.val ⟨hl, g1, by simp only [] at c1 ⊢; omega⟩
  · rintro ⟨l, m, a⟩ ⟨hl, hm, ha⟩
    have hlen := hl.len
    simp only [] at hl hm ha hlen ⊢
    simp only [implAsg_eq l (show -1000 ≤ m ∧ m ≤ 1000 by omega), implAsg_eq l (show (-1000 : Int) ≤ 1 ∧ (1 : Int) ≤ 1000 by omega), Option.bind_some]
    refine Ex.bind (specAsg_ex l (by omega) (by omega) a (by omega)) ?_
    rintro _ rfl
    refine Ex.neg (by simp) (Ex.pos (by omega) (Ex.pos (by omega) ?_))
    refine Ex.bind (specSet_exA l (by omega)) ?_
    rintro _ rfl
    have e1 : asgOk l 1 (List.replicate ((l.length : Int).toNat) 0) = setOk l := by
      unfold asgOk
      rw [show (List.replicate ((l.length : Int).toNat) (0 : Int)).length = l.length from by simp]
      have : (List.replicate ((l.length : Int).toNat) (0 : Int)).all (coreOk 1) = true := by
        rw [List.all_eq_true]
        intro x hx
        have := List.eq_of_mem_replicate hx
        subst this; rfl
      rw [this]; simp
    rw [e1, show (setOk l != setOk l) = false from by simp]
    refine Ex.step ?_
    simp only [laws_FnAssignmentValid.j0, implAsg_eq l (show (-1000 : Int) ≤ 5 ∧ (5 : Int) ≤ 1000 by omega), alive_eq, Option.bind_some]
    refine Ex.neg (by simp) (Ex.ite (fun h => Ex.pos ?_ (Ex.val rfl)) (fun _ => Ex.val rfl))
    obtain ⟨a1, a2, a3, a4⟩ := (asgOk_iff _ _ _).mp h
    exact (asgOk_iff _ _ _).mpr ⟨a1, by omega, a3, fun x hx => by have := a4 x hx; omega⟩

end Go.Proofs.Ytnkpbbkfhmlcfaa.Pure
