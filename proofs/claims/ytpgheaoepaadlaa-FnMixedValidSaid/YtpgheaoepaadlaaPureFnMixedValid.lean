/- The statement FnMixedValid of the given program holds for every input: for every code of at most 2^20 bytes (and for longer ones at once) the law returns true. No further condition. -/
import Derived.Test.YtpgheaoepaadlaaMixDraw
import Derived.Test.YtpgheaoepaadlaaFlawsXFnMixedValid
set_option linter.unusedSimpArgs false
set_option linter.unusedVariables false
namespace Go.Proofs.Ytpgheaoepaadlaa.Pure
open Go.RowKit Go.Proofs.Ytpgheaoepaadlaa.Q Go.Proofs.Ytpgheaoepaadlaa.Pu Go.Proofs.YtpgheaoepaadlaaW.PrintWords Go.Proofs.YtpgheaoepaadlaaW.PrintLast

theorem mixValid_loop (l : List Mx) (hl : l.length ≤ 7) (hv : mixOk l = true) : ∀ (d j : Nat), j + d = l.length → Ex (fun k => laws_FnMixedValid.l0 k l (j : Int)) (fun x => x = true) := by
  intro d
  induction d with
  | zero =>
    intro j hj
    refine Ex.step ?_
    simp only [laws_FnMixedValid.l0]
    exact Ex.neg (by omega) (Ex.val rfl)
  | succ d ih =>
    intro j hj
    refine Ex.step ?_
    have hw : wrap64 ((j : Int) + 1) = ((j + 1 : Nat) : Int) := by rw [w64 (by omega) (by omega)]; omega
    have hv' := (mixOk_iff l).mp hv
    have hx := hv'.2 _ (List.getElem_mem (show j < l.length by omega))
    rw [← rdM_get l j (by omega)] at hx
    simp only [laws_FnMixedValid.l0, implMix_eq, Option.bind_some, List.nil_append, List.length_nil, hw, Int.toNat_natCast]
    have t1 : mixOk (l.take j ++ l.drop (j + 1)) = true := (mixOk_iff _).mpr ⟨by rw [List.length_append, List.length_take, List.length_drop]; omega, fun x hx => by
      rw [List.mem_append] at hx
      rcases hx with h | h
      · exact hv'.2 x (List.mem_of_mem_take h)
      · exact hv'.2 x (List.mem_of_mem_drop h)⟩
    have t2 : mixOk (l.set j (⟨(rd_T39 l (j : Int)).f0, (rd_T39 l (j : Int)).f1, (rd_T39 l (j : Int)).f2, true⟩ : Mx)) = true := (mixOk_iff _).mpr ⟨by rw [List.length_set]; exact hv'.1, fun x h => by
      rcases List.mem_or_eq_of_mem_set h with h | rfl
      · exact hv'.2 x h
      · exact ⟨hx.1, hx.2.1, hx.2.2.1, hx.2.2.2.1, hx.2.2.2.2.1, .inl rfl⟩⟩
    have next := ih (j + 1) (by omega)
    unfold MxOk at hx
    refine Ex.pos (by omega) (Ex.pos (by omega) (Ex.pos (by omega) (Ex.pos (by rw [List.length_take]; omega) (Ex.pos (by omega) (Ex.pos (by omega) (Ex.pos (by rw [List.length_take, List.length_drop]; omega) (Ex.pos (by omega) (Ex.pos (by omega) (Ex.step ?_)))))))))
    simp only [laws_FnMixedValid.j2, implMix_eq, Option.bind_some, hw]
    refine Ex.pos t1 (Ex.pos t2 (Ex.pos (by omega) (Ex.pos (by omega) (Ex.neg (by omega) (Ex.ite (fun _ => next) (fun h => Ex.pos ?_ next))))))
    rcases hx.2.2.2.2.2 with h6 | h6
    · exact absurd h6 h
    · exact h6.symm

theorem FnMixedValid : laws_FnMixedValid.Pure := by
  intro l0 _ _ h8
  refine Ex.get ?_
  unfold laws_FnMixedValid.f
  refine Ex.ite (fun _ => Ex.val rfl) (fun _ => ?_)
  obtain ⟨b, hb, ho⟩ := open_ev l0 h8
  unfold spec_DrawMixedValid.f
  rw [ho]
  simp only [Option.bind_some]
  refine Ex.bind (Ex.bind (mixed_ex hb (by omega) (by omega)) (fun x hx => Ex.val (P := fun (y : List Mx) => y.length ≤ 7) hx.1)) (fun l hl => ?_)
  simp only [implMix_eq, Option.bind_some]
  refine Ex.bind (specMix_ex l (by omega)) ?_
  rintro _ rfl
  have e : mixOk [] = true := rfl
  refine Ex.neg (by simp) ?_
  simp only [e]
  refine Ex.step ?_
  simp only [laws_FnMixedValid.j0, alive_eq, Option.bind_some]
  refine Ex.neg (by simp) (Ex.ite (fun h => mixValid_loop l hl h l.length 0 (by omega)) (fun _ => Ex.val rfl))

end Go.Proofs.Ytpgheaoepaadlaa.Pure
