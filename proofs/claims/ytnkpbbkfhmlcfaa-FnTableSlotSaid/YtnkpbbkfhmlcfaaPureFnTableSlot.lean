/- The statement FnTableSlot of the given program holds for every input: for every code of at most 2^20 bytes (and for longer ones at once) the law returns true. No further condition. -/
import Derived.Test.YtnkpbbkfhmlcfaaTabDraw
import Derived.Test.YtnkpbbkfhmlcfaaTabMath
import Derived.Test.YtnkpbbkfhmlcfaaImplTab
import Derived.Test.YtnkpbbkfhmlcfaaFlawsXFnTableSlot
set_option linter.unusedSimpArgs false
set_option linter.unusedVariables false
namespace Go.Proofs.Ytnkpbbkfhmlcfaa.Pure
open Go.RowKit Go.Proofs.Ytnkpbbkfhmlcfaa.Q Go.Proofs.Ytnkpbbkfhmlcfaa.Pu Go.Proofs.YtnkpbbkfhmlcfaaW.PrintWords Go.Proofs.YtnkpbbkfhmlcfaaW.PrintLast

def slO (l : List Tk) (tb : List Int) (now : Int) : Int := if tvO l tb = true then (if now < 0 then -1 else rd tb (Int.tmod now (tb.length : Int))) else -1
theorem tlen {l : List Tk} {tb : List Int} (h : tvO l tb = true) : 1 ≤ (tb.length : Int) := by
  have := (Tv.mk' h).len
  have := hyp_bd (Tv.mk' h).ok
  omega
theorem implSl_ex (l : List Tk) (tb : List Int) (now : Int) : Ex (fun k => impl_TableSlot.f k l tb now) (fun x => x = slO l tb now) := by
  unfold impl_TableSlot.f slO
  refine Ex.bind (implTv_ex l tb) ?_
  intro x hx
  rw [hx]
  refine Ex.ite (fun h => ?_) (fun h => Ex.val (by rw [if_neg h]))
  rw [if_pos h]
  have hl := tlen h
  refine Ex.ite (fun h2 => Ex.val (by rw [if_pos h2])) (fun h2 => ?_)
  rw [if_neg h2]
  have hm := tmod_bd now (tb.length : Int) (by omega) hl
  exact Ex.neg (by omega) (Ex.pos hm.1 (Ex.pos hm.2 (Ex.val rfl)))
theorem specSl_ex (l : List Tk) (hlen : l.length ≤ 1000) (tb : List Int) (now : Int) : Ex (fun k => spec_TableSlot.f k l tb now) (fun x => x = slO l tb now) := by
  unfold spec_TableSlot.f slO
  refine Ex.bind (specTv_ex l hlen tb) ?_
  intro x hx
  rw [hx]
  refine Ex.ite (fun h => ?_) (fun h => Ex.val (by rw [if_neg h]))
  rw [if_pos h]
  have hl := tlen h
  refine Ex.ite (fun h2 => Ex.val (by rw [if_pos h2])) (fun h2 => ?_)
  rw [if_neg h2]
  have hm := tmod_bd now (tb.length : Int) (by omega) hl
  exact Ex.neg (by omega) (Ex.pos hm.1 (Ex.pos hm.2 (Ex.val rfl)))
theorem FnTableSlot : laws_FnTableSlot.Pure := by
  intro l0 _ _ h8
  refine Ex.get ?_
  unfold laws_FnTableSlot.f spec_DrawTableSlot.f
  refine Ex.ite (fun _ => Ex.val rfl) (fun _ => Ex.bind (P := fun (x : List Tk × List Int × Int) => Bd x.1 ∧ x.2.1.length ≤ 720) (Ex.bind (drawTv_ex l0 h8) ?_) ?_)
  · rintro ⟨l, tb⟩ ⟨hl, ht⟩
    obtain ⟨b, hb, ho⟩ := open_ev l0 h8
    simp only [ho, Option.bind_some] at hl ht ⊢
    refine Ex.bind (pick_ex hb (by omega) (by omega)) ?_
    rintro ⟨r, q⟩ ⟨a1, a2, a3⟩
    simp only [] at a1 a2 a3 ⊢
    refine Ex.bind (pick_ex hb (by omega) (by omega)) ?_
    rintro ⟨r2, q2⟩ ⟨c1, c2, c3⟩
    simp only [] at c1 c2 c3 ⊢
    have l3 : r2 < (([0, 0, 0, 0, 1, 2] : List Int).length : Int) := by simp; omega
    have p3 := rd_bd [0, 0, 0, 0, 1, 2] 0 2 r2 c1 l3 (by intro x hx; simp at hx; omega)
    exact Ex.pos c1 (Ex.pos l3 (Ex.pos p3.1 (Ex.pos (by simp; omega) (Ex.val ⟨hl, ht⟩))))
  · rintro ⟨l, tb, now⟩ ⟨hl, ht⟩
    have hlen := hl.len
    simp only [] at hl ht hlen ⊢
    refine Ex.bind (implSl_ex l tb now) ?_
    rintro _ rfl
    refine Ex.bind (specSl_ex l (by omega) tb now) ?_
    rintro _ rfl
    refine Ex.pos rfl (Ex.bind (specTv_ex l (by omega) tb) ?_)
    rintro _ rfl
    have no : slO l tb now = -1 → Ex (fun k => laws_FnTableSlot.j0 k l tb now (slO l tb now) true) (fun x => x = true) := fun e => by
      refine Ex.step ?_
      simp only [laws_FnTableSlot.j0, alive_eq, Option.bind_some]
      exact Ex.pos trivial (Ex.pos e (Ex.val rfl))
    refine Ex.ite (fun h => ?_) (fun h => no (by unfold slO; rw [if_neg h]))
    by_cases hn : now < 0
    · rw [decide_eq_true hn]; exact no (by unfold slO; rw [if_pos h, if_pos hn])
    · rw [decide_eq_false hn]
      have hl1 := tlen h
      have hm := tmod_bd now (tb.length : Int) (by omega) hl1
      have e : slO l tb now = rd tb (Int.tmod now (tb.length : Int)) := by unfold slO; rw [if_pos h, if_neg hn]
      refine Ex.step ?_
      simp only [laws_FnTableSlot.j0]
      refine Ex.neg (by simp) (Ex.neg (by omega) (Ex.pos hm.1 (Ex.pos hm.2 (Ex.pos e (Ex.ite (fun _ => Ex.val rfl) (fun h3 => ?_))))))
      rw [w64 (by omega) (by omega)]
      refine Ex.bind (implSl_ex l tb _) ?_
      rintro _ rfl
      refine Ex.val ?_
      rw [beq_iff_eq, e]
      unfold slO
      rw [if_pos h, if_neg (by omega), Int.tmod_eq_emod_of_nonneg (by omega), Int.tmod_eq_emod_of_nonneg (by omega), Int.add_emod_right]

end Go.Proofs.Ytnkpbbkfhmlcfaa.Pure
