/- The statement FnProgramValid of the given program holds for every input: for every code of at most 2^20 bytes (and for longer ones at once) the law returns true. No further condition. -/
import Derived.Test.YtalohoomhmjheaaPgmD
import Derived.Test.YtalohoomhmjheaaFspecXDrawProgramValid
import Derived.Test.YtalohoomhmjheaaFlawsXFnProgramValid
set_option linter.unusedSimpArgs false
set_option linter.unusedVariables false
namespace Go.Proofs.Ytalohoomhmjheaa.Pure
open Go.RowKit Go.Proofs.Ytalohoomhmjheaa.Q Go.Proofs.Ytalohoomhmjheaa.Pu Go.Proofs.YtalohoomhmjheaaW.PrintWords Go.Proofs.YtalohoomhmjheaaW.PrintLast

theorem drawPV_ex (l0 : List Int) (h8 : ∀ x ∈ l0, (Lit.int .u8 x).wf = true) : Ex (fun k => spec_DrawProgramValid.f k l0) (fun x => x.length ≤ 13) := by
  obtain ⟨b, hb, ho⟩ := open_ev l0 h8
  unfold spec_DrawProgramValid.f
  rw [ho]
  simp only [Option.bind_some]
  exact Ex.bind (prog_ex hb 2) (fun x hx => Ex.val hx)
/-- A node that names its own place is no valid one. -/
theorem self_no (l : List Nd) : ¬ PV (l ++ [(⟨2, 0, (l.length : Int), 0, 0⟩ : Nd)]) := fun h => by
  have := h.nv l.length (by rw [List.length_append]; exact Nat.lt_succ_self _)
  rw [rdNd_last] at this
  unfold nvP at this
  dsimp only at this
  omega
theorem one_PV {l : List Nd} (h : PV l) : PV (l.take 1) := by
  have h1 := h.pos
  have e1 : (l.take 1).length = 1 := by rw [List.length_take]; omega
  have er : rd_T28 (l.take 1) ((0 : Nat) : Int) = rd_T28 l ((0 : Nat) : Int) := by
    rw [rdNd_get _ 0 (by omega), rdNd_get _ 0 (by omega), List.getElem_take]
  have hv : NV (l.take 1) := fun j hj => by
    have : j = 0 := by omega
    subst this
    rw [er]; exact h.nv 0 (by omega)
  refine ⟨by omega, by omega, hv, ?_⟩
  have := V_bd hv 0 (by omega)
  simp only [Bd] at this
  rw [e1]
  show V wF _ 0 ≤ 600
  omega
theorem FnProgramValid : laws_FnProgramValid.Pure := by
  intro l0 h1 h2 h8
  refine Ex.get ?_
  unfold laws_FnProgramValid.f
  refine Ex.ite (fun _ => Ex.val rfl) (fun _ => Ex.bind (drawPV_ex l0 h8) (fun l hl => ?_))
  refine Ex.bind (implPV_ex l) (fun x hx => Ex.bind (specPV_ex l) (fun y hy => ?_))
  have exy : x = y := pbool_eq hx hy
  simp only [Option.bind_some, List.nil_append, List.length_nil, alive_eq]
  refine Ex.neg (by rw [exy]; cases y <;> decide) (Ex.ite (fun h => Ex.pos (by omega) ?_) (fun _ => Ex.val rfl))
  have hp := hx.mp h
  have h1 := hp.pos
  have h12 := hp.len
  have tail : Ex (fun k => if 1 ≤ (l.length : Int) then ((impl_ProgramValid.f k (l.take 1)).bind fun t124 => (if t124 = true then ((impl_ProgramValid.f k (([] : List Nd))).bind fun t128 => (some (!t128))) else (some false))) else (none)) (fun x => x = true) := by
    refine Ex.pos (by omega) (Ex.bind (implPV_ex (l.take 1)) (fun z hz => Ex.pos (hz.mpr (one_PV hp)) (Ex.bind (implPV_ex []) (fun u hu => Ex.val ?_))))
    cases u
    · rfl
    · exact absurd (hu.mp rfl).pos (by decide)
  refine Ex.ite (fun e => Ex.pos (by omega) (Ex.pos (by rw [List.length_drop]; omega) (Ex.bind (implPV_ex _) (fun z hz => Ex.neg (fun g => self_no _ (hz.mp g)) tail)))) (fun e => Ex.pos (by omega) (Ex.bind (implPV_ex _) (fun z hz => Ex.neg (fun g => self_no _ (hz.mp g)) tail)))

end Go.Proofs.Ytalohoomhmjheaa.Pure
