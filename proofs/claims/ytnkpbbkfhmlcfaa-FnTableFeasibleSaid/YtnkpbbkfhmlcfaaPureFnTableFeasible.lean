/- The statement FnTableFeasible of the given program holds for every input: for every code of at most 2^20 bytes (and for longer ones at once) the law returns true. No further condition. -/
import Derived.Test.YtnkpbbkfhmlcfaaTabDraw
import Derived.Test.YtnkpbbkfhmlcfaaTabMath
import Derived.Test.YtnkpbbkfhmlcfaaImplTab
import Derived.Test.YtnkpbbkfhmlcfaaImplEdf
import Derived.Test.YtnkpbbkfhmlcfaaFlawsXFnTableFeasible
set_option linter.unusedSimpArgs false
set_option linter.unusedVariables false
namespace Go.Proofs.Ytnkpbbkfhmlcfaa.Pure
open Go.RowKit Go.Proofs.Ytnkpbbkfhmlcfaa.Q Go.Proofs.Ytnkpbbkfhmlcfaa.Pu Go.Proofs.YtnkpbbkfhmlcfaaW.PrintWords Go.Proofs.YtnkpbbkfhmlcfaaW.PrintLast

theorem FnTableFeasible : laws_FnTableFeasible.Pure := by
  intro l0 _ _ h8
  refine Ex.get ?_
  unfold laws_FnTableFeasible.f
  refine Ex.ite (fun _ => Ex.val rfl) (fun _ => Ex.bind (drawTv_ex l0 h8) ?_)
  rintro ⟨l, tb⟩ ⟨hl, ht⟩
  have hlen := hl.len
  simp only [] at hl ht hlen ⊢
  refine Ex.bind (implTv_ex l tb) ?_
  rintro _ rfl
  refine Ex.bind (specTv_ex l (by omega) tb) ?_
  rintro _ rfl
  simp only [alive_eq, Option.bind_some]
  refine Ex.neg (by simp) (Ex.ite (fun h => ?_) (fun _ => Ex.val rfl))
  refine Ex.bind (P := fun x => x = edf l) (Ex.at_ 300000 (fun k hk => implEdf_eq l k hk) rfl) ?_
  rintro _ rfl
  exact Ex.pos (Tv.mk' h).edf (Ex.val rfl)

end Go.Proofs.Ytnkpbbkfhmlcfaa.Pure
