import Derived.Test.YtpgheaoepaadlaaMixed
import Derived.Test.YtpgheaoepaadlaaFlawsXszMixedTaskS
import Derived.Test.YtpgheaoepaadlaaFlawsXtoMixedTask
import Derived.Test.YtpgheaoepaadlaaFlawsXtoMixedTaskS
import Derived.Test.YtpgheaoepaadlaaFlawsXeqMixedTask
import Derived.Test.YtpgheaoepaadlaaFlawsXeqMixedTaskS
set_option linter.unusedSimpArgs false
set_option linter.unusedVariables false
namespace Go.Proofs.Ytpgheaoepaadlaa.Pu
open Go.RowKit Go.Proofs.Ytpgheaoepaadlaa.Q Go.Proofs.YtpgheaoepaadlaaW.PrintWords Go.Proofs.YtpgheaoepaadlaaW.PrintLast

abbrev Xm := S68
/-- What the law makes of its input. -/
def cv (x : Xm) : Mx := ⟨x.f0, x.f1, x.f2, x.f3⟩
theorem rdX_get (l : List Xm) (j : Nat) (h : j < l.length) : rd_T68 l (j : Int) = l[j] := by
  unfold rd_T68
  rw [Int.toNat_natCast, List.getD_eq_getElem?_getD, List.getElem?_eq_getElem h, Option.getD_some]
theorem rdM_set (l : List Mx) (i j : Nat) (v : Mx) (hj : j < l.length) : rd_T39 (l.set i v) (j : Int) = if i = j then v else rd_T39 l (j : Int) := by
  rw [rdM_get _ j (by rw [List.length_set]; exact hj), rdM_get l j hj, List.getElem_set]
theorem xnx (j : Nat) (h : j ≤ 100000000) : wrap64 ((j : Int) + 1) = ((j + 1 : Nat) : Int) := by rw [w64 (by omega) (by omega)]; omega
theorem toS_ex (l : List Xm) (hl : l.length ≤ 1048576) : Ex (fun k => laws_toMixedTaskS.f k l) (fun x => x = l.map cv) := by
  have loop : ∀ (d j : Nat) (c : List Mx), j + d = l.length → c.length = l.length → (∀ a : Nat, a < j → rd_T39 c (a : Int) = cv (rd_T68 l (a : Int))) → Ex (fun k => laws_toMixedTaskS.l0 k l c (j : Int)) (fun x => x = l.map cv) := by
    intro d
    induction d with
    | zero =>
      intro j c hj hc ht
      refine Ex.step ?_
      simp only [laws_toMixedTaskS.l0]
      refine Ex.neg (by omega) (Ex.val (List.ext_getElem (by rw [List.length_map]; exact hc) (fun a h1 h2 => ?_)))
      have := ht a (by omega)
      rw [rdM_get c a h1, rdX_get l a (by omega)] at this
      rw [this, List.getElem_map]
    | succ d ih =>
      intro j c hj hc ht
      refine Ex.step ?_
      simp only [laws_toMixedTaskS.l0, laws_toMixedTask.f, Option.bind_some, Int.toNat_natCast]
      rw [xnx j (by omega)]
      refine Ex.pos (by omega) (Ex.pos (by omega) (Ex.pos (by omega) (ih (j + 1) _ (by omega) (by rw [List.length_set]; exact hc) (fun a ha => ?_))))
      rw [rdM_set c j a _ (by omega)]
      by_cases e : j = a
      · subst e; rw [if_pos rfl]; rfl
      · rw [if_neg e]; exact ht a (by omega)
  unfold laws_toMixedTaskS.f
  exact Ex.pos (by omega) (Ex.pos (by omega) (loop l.length 0 _ (by omega) (by simp) (fun a ha => by omega)))
theorem eqS_ex (l : List Mx) (hl : l.length ≤ 1048576) : Ex (fun k => laws_eqMixedTaskS.f k l l) (fun x => x = true) := by
  have loop : ∀ (d j : Nat), j + d = l.length → Ex (fun k => laws_eqMixedTaskS.l0 k l l (j : Int)) (fun x => x = true) := by
    intro d
    induction d with
    | zero =>
      intro j hj
      refine Ex.step ?_
      simp only [laws_eqMixedTaskS.l0]
      exact Ex.neg (by omega) (Ex.val rfl)
    | succ d ih =>
      intro j hj
      refine Ex.step ?_
      simp only [laws_eqMixedTaskS.l0, laws_eqMixedTask.f]
      rw [xnx j (by omega)]
      refine Ex.pos (by omega) (Ex.pos (by omega) (Ex.pos (by omega) ?_))
      rw [if_pos trivial, if_pos trivial, if_pos trivial, if_neg (by cases (rd_T39 l (j : Int)).f3 <;> decide)]
      simp only [Option.bind_some]
      exact Ex.pos trivial (ih (j + 1) (by omega))
  unfold laws_eqMixedTaskS.f
  exact Ex.pos rfl (loop l.length 0 (by omega))
theorem szS_eq (l : List Xm) (hl : l.length ≤ 9223372036854775807) : laws_szMixedTaskS.f l 1048576 = some (if l.length ≤ 1048576 then 1048576 - (l.length : Int) else -1) := by
  unfold laws_szMixedTaskS.f
  rw [w64 (n := 1048576 - (l.length : Int)) (by omega) (by omega)]
  by_cases h : l.length ≤ 1048576
  · rw [if_neg (by omega), if_pos h]
  · rw [if_pos (by omega), if_neg h]

end Go.Proofs.Ytpgheaoepaadlaa.Pu
