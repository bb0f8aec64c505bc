/- The statement FnMixedLegal of the given program holds for every input: for every code of at most 2^20 bytes (and for longer ones at once) the law returns true. No further condition. -/
import Derived.Test.YtpgheaoepaadlaaMixLD
import Derived.Test.YtpgheaoepaadlaaFlawsXFnMixedLegal
set_option linter.unusedSimpArgs false
set_option linter.unusedVariables false
namespace Go.Proofs.Ytpgheaoepaadlaa.Pure
open Go.RowKit Go.Proofs.Ytpgheaoepaadlaa.Q Go.Proofs.Ytpgheaoepaadlaa.Pu Go.Proofs.YtpgheaoepaadlaaW.PrintWords Go.Proofs.YtpgheaoepaadlaaW.PrintLast

theorem mixLaw_loop {l : List Mx} (hv : mixOk l = true) {js : List Jb} (h : LegM l js) : ∀ (d j : Nat), j + d = js.length → Ex (fun k => laws_FnMixedLegal.l0 k l js (j : Int)) (fun x => x = true) := by
  have hl := (mixOk_iff l).mp hv
  have h60 := h.len
  intro d
  induction d with
  | zero =>
    intro j hd
    refine Ex.step ?_
    simp only [laws_FnMixedLegal.l0]
    exact Ex.neg (by omega) (Ex.val rfl)
  | succ d ih =>
    intro j hd
    have ha := h.a j (by omega)
    obtain ⟨t, ht⟩ := Int.eq_ofNat_of_zero_le ha.1.1
    have htl : t < l.length := by have := ha.1.2; omega
    have hm := hl.2 _ (List.getElem_mem htl)
    have hg : rd_T39 l (rd_T57 js (j : Int)).f0 = l[t] := by rw [ht]; exact rdM_get l t htl
    rw [← hg] at hm
    unfold MxOk at hm
    have hper : perM l (rd_T57 js (j : Int)).f0 = (rd_T39 l (rd_T57 js (j : Int)).f0).f2 := rfl
    have hhi : hiM l (rd_T57 js (j : Int)).f0 = (rd_T39 l (rd_T57 js (j : Int)).f0).f1 := rfl
    refine Ex.step ?_
    simp only [laws_FnMixedLegal.l0, Option.bind_some, List.nil_append, List.length_nil, Int.toNat_natCast]
    rw [jw1 (by omega), w64 (n := (rd_T39 l (rd_T57 js (j : Int)).f0).f1 + 1) (by omega) (by omega)]
    refine Ex.pos (by omega) (Ex.pos (by omega) (Ex.pos (by omega) (Ex.pos ha.1.1 (Ex.pos ha.1.2 (Ex.pos (by omega) (Ex.pos (by omega) (Ex.bind (implMixL_ex l _ (by rw [List.length_take]; omega)) (fun b hb => ?_))))))))
    refine Ex.pos (hb.mpr ⟨hv, h.take j⟩) (Ex.bind (implMixL_ex l _ (by rw [List.length_set]; omega)) (fun c hc => ?_))
    refine Ex.neg (fun g => ?_) (Ex.pos (h.d j (by omega)) (ih (j + 1) (by omega)))
    have bad := ((hc.mp g).2.a j (by rw [List.length_set]; omega)).2.2
    rw [rdJ_set js j j _ (by omega), if_pos rfl] at bad
    have b2 : (rd_T39 l (rd_T57 js (j : Int)).f0).f1 + 1 ≤ hiM l (rd_T57 js (j : Int)).f0 := bad.2
    omega
theorem FnMixedLegal : laws_FnMixedLegal.Pure := by
  intro l0 h1 h2 h8
  refine Ex.get ?_
  unfold laws_FnMixedLegal.f
  refine Ex.ite (fun _ => Ex.val rfl) (fun _ => Ex.bind (drawMixL_ex l0 h8) ?_)
  rintro ⟨l, js⟩ ⟨hl, hj⟩
  simp only [] at hl hj ⊢
  refine Ex.bind (implMixL_ex l js (by omega)) (fun x hx => Ex.bind (specMixL_ex l (by omega) js (by omega)) (fun y hy => ?_))
  have exy : x = y := by
    cases x <;> cases y <;> first | rfl | (have := hy.mpr (hx.mp rfl); simp at this) | (have := hx.mpr (hy.mp rfl); simp at this)
  simp only [alive_eq, Option.bind_some]
  refine Ex.neg (by rw [exy]; cases y <;> decide) (Ex.ite (fun h => mixLaw_loop (hx.mp h).1 (hx.mp h).2 js.length 0 (by omega)) (fun _ => Ex.val rfl))

end Go.Proofs.Ytpgheaoepaadlaa.Pure
