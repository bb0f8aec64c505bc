import Derived.Test.YtnkpbbkfhmlcfaaTabMath
import Derived.Test.YtnkpbbkfhmlcfaaImplTab
import Derived.Test.YtnkpbbkfhmlcfaaFimplXIdleSlots
set_option linter.unusedSimpArgs false
set_option linter.unusedVariables false
namespace Go.Proofs.Ytnkpbbkfhmlcfaa.Pu
open Go.RowKit Go.Proofs.Ytnkpbbkfhmlcfaa.Q Go.Proofs.YtnkpbbkfhmlcfaaW.PrintWords Go.Proofs.YtnkpbbkfhmlcfaaW.PrintLast

/-- The times of the idle ticks, of d from t on. -/
def idl (tb : List Int) : Nat → Int → List Int
  | 0, _ => []
  | d + 1, t => if rd tb t = -1 then t :: idl tb d (t + 1) else idl tb d (t + 1)
theorem idl_len (tb : List Int) : ∀ (d : Nat) (t : Int), ((idl tb d t).length : Int) = cntR tb (-1) d t
  | 0, _ => rfl
  | d + 1, t => by
    have ih := idl_len tb d (t + 1)
    simp only [idl, cntR]
    split
    · simp only [List.length_cons]; omega
    · omega
def idO (l : List Tk) (tb : List Int) : List Int := if tvO l tb = true then idl tb tb.length 0 else []
theorem implIdle_loop (tb : List Int) (hl : tb.length ≤ 1000) : ∀ (d j : Nat) (acc : List Int), j + d = tb.length → acc.length ≤ j → Ex (fun k => impl_IdleSlots.l0 k acc tb (tb.length : Int) (j : Int)) (fun x => x = acc ++ idl tb d (j : Int)) := by
  intro d
  induction d with
  | zero =>
    intro j acc hj ha
    refine Ex.step ?_
    simp only [impl_IdleSlots.l0, impl_clone_int.f, slices_Clone_int_int.f]
    refine Ex.neg (by omega) ?_
    rw [if_pos (by omega)]
    simp only [Option.bind_some]
    exact Ex.val (by simp [idl])
  | succ d ih =>
    intro j acc hj ha
    refine Ex.step ?_
    simp only [impl_IdleSlots.l0]
    rw [w64 (n := (j : Int) + 1) (by omega) (by omega)]
    simp only [idl]
    refine Ex.pos (by omega) (Ex.pos (by omega) (Ex.pos (by omega) (Ex.ite (fun h => ?_) (fun h => ?_))))
    · rw [if_pos h]
      refine Ex.pos (by omega) (Ex.mono (ih (j + 1) (acc ++ [(j : Int)]) (by omega) (by rw [List.length_append, List.length_singleton]; omega)) (fun x hx => ?_))
      rw [hx, List.append_assoc]; rfl
    · rw [if_neg h]
      exact ih (j + 1) acc (by omega) (by omega)
theorem implIdle_ex (l : List Tk) (tb : List Int) (ht : tb.length ≤ 1000) : Ex (fun k => impl_IdleSlots.f k l tb) (fun x => x = idO l tb) := by
  unfold impl_IdleSlots.f idO
  refine Ex.bind (implTv_ex l tb) ?_
  intro x hx
  rw [hx]
  refine Ex.ite (fun h => ?_) (fun h => Ex.val (by rw [if_neg h]))
  rw [if_pos h]
  exact Ex.mono (implIdle_loop tb ht tb.length 0 [] (by omega) (by simp)) (fun x hx => by rw [hx]; rfl)

end Go.Proofs.Ytnkpbbkfhmlcfaa.Pu
