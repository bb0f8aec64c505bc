import Derived.Test.YtncombcckeeecaaJobs
import Derived.Test.YtncombcckeeecaaFimplXJobsLegal
set_option linter.unusedSimpArgs false
set_option linter.unusedVariables false
namespace Go.Proofs.Ytncombcckeeecaa.Pu
open Go.RowKit Go.Proofs.Ytncombcckeeecaa.Q Go.Proofs.YtncombcckeeecaaW.PrintWords Go.Proofs.YtncombcckeeecaaW.PrintLast

def costT (l : List Tk) (t : Int) : Int := (rd_T34 l t).f0
def ddlT (l : List Tk) (t : Int) : Int := (rd_T34 l t).f1
def perT (l : List Tk) (t : Int) : Int := (rd_T34 l t).f2
abbrev LegT (l : List Tk) (js : List Jb) : Prop := Leg (l.length : Int) (costT l) (perT l) (ddlT l) js
theorem any_iff' {α : Type} {p : α → Bool} {l : List α} : (!(l.any p)) = true ↔ ∀ x ∈ l, p x = false := by
  rw [Bool.not_eq_true', List.any_eq_false]
  exact ⟨fun h x hx => by simpa using h x hx, fun h x hx => by simp [h x hx]⟩
theorem implJobs_ex (l : List Tk) (hl : l.length ≤ 1000) (js : List Jb) (hj : js.length ≤ 900000) : Ex (fun k => impl_JobsLegal.f k l js) (fun r => r = true ↔ (Ok l ∧ LegT l js)) := by
  unfold impl_JobsLegal.f
  simp only [implSet_eq, Option.bind_some]
  refine Ex.ite (fun h1 => ?_) (fun h1 => Ex.val (iff_no (fun h => h1 ((setOk_iff l).mpr h.1))))
  have hok := (setOk_iff l).mp h1
  refine Ex.bind (ord_ex (M := fun t => some (rd_T34 l t).f0) (cost := costT l) (fun t => rfl) js hj (l.length : Int) 0 (by omega) (by omega)) (fun b hb => ?_)
  refine Ex.ite (fun h2 => ?_) (fun h2 => Ex.val (iff_no (fun h => h2 (hb.mpr ⟨h.2.len, fun i hi => ⟨h.2.a i hi, h.2.p i hi⟩⟩))))
  have ho := hb.mp h2
  have hs := spB_iff (per := perT l) (l := js) (fun i hi => (ho.2 i hi).1)
  refine Ex.ite (fun h3 => Ex.val ?_) (fun h3 => Ex.val (iff_no (fun h => h3 (hs.mpr h.2.s))))
  rw [any_iff']
  refine ⟨fun h => ⟨hok, ⟨ho.1, fun i hi => (ho.2 i hi).1, fun i hi => (ho.2 i hi).2, hs.mp h3, fun j hj => ?_⟩⟩, fun h x hx => ?_⟩
  · have := h _ (rdJ_mem js j hj)
    unfold badJ at this
    rw [Bool.not_eq_false', beq_iff_eq] at this
    exact this
  · obtain ⟨j, hj, rfl⟩ := List.getElem_of_mem hx
    unfold badJ
    rw [Bool.not_eq_false', beq_iff_eq]
    have := h.2.d j hj
    rw [rdJ_get js j hj] at this
    exact this

end Go.Proofs.Ytncombcckeeecaa.Pu
