import Derived.Test.YtpgheaoepaadlaaExm
import Derived.Test.YtpgheaoepaadlaaMixL
import Derived.Test.YtpgheaoepaadlaaFlawsXszJobS
import Derived.Test.YtpgheaoepaadlaaFlawsXtoJob
import Derived.Test.YtpgheaoepaadlaaFlawsXtoJobS
import Derived.Test.YtpgheaoepaadlaaFlawsXeqJob
import Derived.Test.YtpgheaoepaadlaaFlawsXeqJobS
set_option linter.unusedSimpArgs false
set_option linter.unusedVariables false
namespace Go.Proofs.Ytpgheaoepaadlaa.Pu
open Go.RowKit Go.Proofs.Ytpgheaoepaadlaa.Q Go.Proofs.YtpgheaoepaadlaaW.PrintWords Go.Proofs.YtpgheaoepaadlaaW.PrintLast

abbrev Xj := S78
/-- What the law makes of its second input. -/
def cj (x : Xj) : Jb := ⟨x.f0, x.f1, x.f2, x.f3⟩
theorem rdXj_get (l : List Xj) (j : Nat) (h : j < l.length) : rd_T78 l (j : Int) = l[j] := by
  unfold rd_T78
  rw [Int.toNat_natCast, List.getD_eq_getElem?_getD, List.getElem?_eq_getElem h, Option.getD_some]
theorem toJS_ex (l : List Xj) (hl : l.length ≤ 1048576) : Ex (fun k => laws_toJobS.f k l) (fun x => x = l.map cj) := by
  have loop : ∀ (d j : Nat) (c : List Jb), j + d = l.length → c.length = l.length → (∀ a : Nat, a < j → rd_T57 c (a : Int) = cj (rd_T78 l (a : Int))) → Ex (fun k => laws_toJobS.l0 k l c (j : Int)) (fun x => x = l.map cj) := by
    intro d
    induction d with
    | zero =>
      intro j c hj hc ht
      refine Ex.step ?_
      simp only [laws_toJobS.l0]
      refine Ex.neg (by omega) (Ex.val (List.ext_getElem (by rw [List.length_map]; exact hc) (fun a h1 h2 => ?_)))
      have := ht a (by omega)
      rw [rdJ_get c a h1, rdXj_get l a (by omega)] at this
      rw [this, List.getElem_map]
    | succ d ih =>
      intro j c hj hc ht
      refine Ex.step ?_
      simp only [laws_toJobS.l0, laws_toJob.f, Option.bind_some, Int.toNat_natCast]
      rw [xnx j (by omega)]
      refine Ex.pos (by omega) (Ex.pos (by omega) (Ex.pos (by omega) (ih (j + 1) _ (by omega) (by rw [List.length_set]; exact hc) (fun a ha => ?_))))
      rw [rdJ_set c j a _ (by omega)]
      by_cases e : j = a
      · subst e; rw [if_pos rfl]; rfl
      · rw [if_neg e]; exact ht a (by omega)
  unfold laws_toJobS.f
  exact Ex.pos (by omega) (Ex.pos (by omega) (loop l.length 0 _ (by omega) (by simp) (fun a ha => by omega)))
theorem eqJS_ex (l : List Jb) (hl : l.length ≤ 1048576) : Ex (fun k => laws_eqJobS.f k l l) (fun x => x = true) := by
  have loop : ∀ (d j : Nat), j + d = l.length → Ex (fun k => laws_eqJobS.l0 k l l (j : Int)) (fun x => x = true) := by
    intro d
    induction d with
    | zero =>
      intro j hj
      refine Ex.step ?_
      simp only [laws_eqJobS.l0]
      exact Ex.neg (by omega) (Ex.val rfl)
    | succ d ih =>
      intro j hj
      refine Ex.step ?_
      simp only [laws_eqJobS.l0, laws_eqJob.f]
      rw [xnx j (by omega)]
      refine Ex.pos (by omega) (Ex.pos (by omega) (Ex.pos (by omega) ?_))
      simp only [if_true, Option.bind_some]
      exact ih (j + 1) (by omega)
  unfold laws_eqJobS.f
  exact Ex.pos rfl (loop l.length 0 (by omega))
theorem szJS_eq (l : List Xj) (hl : l.length ≤ 9223372036854775807) (a : Int) (h0 : 0 ≤ a) (h1 : a ≤ 1048576) : laws_szJobS.f l a = some (if (l.length : Int) ≤ a then a - (l.length : Int) else -1) := by
  unfold laws_szJobS.f
  rw [w64 (n := a - (l.length : Int)) (by omega) (by omega)]
  by_cases h : (l.length : Int) ≤ a
  · rw [if_neg (by omega), if_pos h]
  · rw [if_pos (by omega), if_neg h]

end Go.Proofs.Ytpgheaoepaadlaa.Pu
