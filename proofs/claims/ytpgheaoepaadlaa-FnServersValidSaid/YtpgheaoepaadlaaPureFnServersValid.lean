/- The statement FnServersValid of the given program holds for every input: for every code of at most 2^20 bytes (and for longer ones at once) the law returns true. No further condition. -/
import Derived.Test.YtpgheaoepaadlaaServ
import Derived.Test.YtpgheaoepaadlaaFlawsXFnServersValid
set_option linter.unusedSimpArgs false
set_option linter.unusedVariables false
namespace Go.Proofs.Ytpgheaoepaadlaa.Pure
open Go.RowKit Go.Proofs.Ytpgheaoepaadlaa.Q Go.Proofs.Ytpgheaoepaadlaa.Pu Go.Proofs.YtpgheaoepaadlaaW.PrintWords Go.Proofs.YtpgheaoepaadlaaW.PrintLast

theorem set_self {l : List Sv} {j : Nat} {x : Sv} (hj : j < l.length) (hx : sok x = false) : servOk (l.set j x) = false := by
  unfold servOk
  rw [Bool.and_eq_false_iff]; right
  rw [List.all_eq_false]
  exact ⟨x, List.mem_or_eq_of_mem_set (List.mem_set hj x) |> fun _ => List.mem_set hj x, by rw [hx]; simp⟩
theorem servValid_loop (l : List Sv) (hl : l.length ≤ 3) : ∀ (d j : Nat), j + d = l.length → Ex (fun k => laws_FnServersValid.l0 k l (servOk l) (j : Int)) (fun x => x = true) := by
  intro d
  induction d with
  | zero =>
    intro j hj
    refine Ex.step ?_
    simp only [laws_FnServersValid.l0, alive_eq, Option.bind_some]
    exact Ex.neg (by omega) (Ex.val rfl)
  | succ d ih =>
    intro j hj
    refine Ex.step ?_
    simp only [laws_FnServersValid.l0, implServ_eq, Option.bind_some, List.nil_append, List.length_nil]
    have next : Ex (fun k => laws_FnServersValid.l0 k l (servOk l) (wrap64 ((j : Int) + 1))) (fun x => x = true) := by
      rw [w64 (by omega) (by omega)]; exact ih (j + 1) (by omega)
    refine Ex.pos (by omega) (Ex.pos (by omega) (Ex.pos (by omega) (Ex.pos (by omega) (Ex.ite (fun h => ?_) (fun _ => next)))))
    refine Ex.pos (by omega) ?_
    have hv := (servOk_iff l).mp h
    have ht : servOk (l.take (j : Int).toNat) = true := (servOk_iff _).mpr ⟨by rw [List.length_take]; omega, fun x hx => hv.2 x (List.mem_of_mem_take hx)⟩
    refine Ex.pos ht (Ex.neg ?_ next)
    have hr := hv.2 _ (List.getElem_mem (show j < l.length by omega))
    rw [Int.toNat_natCast, set_self (by omega) ?_]
    · simp
    · refine decide_eq_false ?_
      rw [← rdV_get l j (by omega)] at hr
      show ¬ (1 ≤ wrap64 ((rdV l (j : Int)).f1 + 1) ∧ wrap64 ((rdV l (j : Int)).f1 + 1) ≤ (rdV l (j : Int)).f1 ∧ (rdV l (j : Int)).f1 ≤ 12)
      rw [w64 (by omega) (by omega)]
      omega

theorem FnServersValid : laws_FnServersValid.Pure := by
  intro l0 _ _ h8
  refine Ex.get ?_
  unfold laws_FnServersValid.f
  refine Ex.ite (fun _ => Ex.val rfl) (fun _ => ?_)
  obtain ⟨b, hb, ho⟩ := open_ev l0 h8
  unfold spec_DrawServersValid.f
  rw [ho]
  simp only [Option.bind_some]
  refine Ex.bind (Ex.bind (servers_ex hb (by omega) (by omega)) (fun x hx => Ex.val (P := fun (y : List Sv) => y.length ≤ 3) hx.1)) (fun l hl => ?_)
  simp only [implServ_eq, Option.bind_some]
  refine Ex.bind (specServ_ex l (by omega)) ?_
  rintro _ rfl
  have e : servOk [] = true := rfl
  refine Ex.neg (by simp) ?_
  simp only [e]
  refine Ex.step ?_
  simp only [laws_FnServersValid.j0]
  refine Ex.neg (by simp) ?_
  exact servValid_loop l hl l.length 0 (by omega)

end Go.Proofs.Ytpgheaoepaadlaa.Pure
