import Derived.Test.YtpgheaoepaadlaaRows
import Derived.Test.YtpgheaoepaadlaaFlawsXFnExactMixedLegal
import Derived.Test.YtpgheaoepaadlaaPureFnExactMixedLegal
import Derived.Test.YtpgheaoepaadlaaXRow
import Derived.Test.YtpgheaoepaadlaaXRowJ
import Derived.WalkKit
import Derived.ProofKit
import Derived.OpenShut
import Derived.ShutString
import Derived.ChangeOld
import Derived.Below
import Derived.SizedLaws
-- the row of a law that takes a slice of structs, after the rows that the print writes
namespace Go.Proofs.Ytpgheaoepaadlaa.fnExactMixedLegal
open Go.ChangeShapes Go.WideShapes Go.ChangeAt Go.RowKit
set_option linter.unusedVariables false
theorem own : ownKnob Try.prog.godebug = none := by kernel_rfl
theorem laidOut : laidOutB Try.prog = true := by kernel_rfl
set_option maxRecDepth 100000 in
theorem lifted (os : Os) (started : os.Started) (H : Type) (enc : TypeId × Value → H) :
    ReturnsInHanded {} Try.checked os 9 .any (Rows.fnExactMixedLegalSpec.pre6 enc Try.prog Try.f9 Rows.fnExactMixedLegalRow.domain false) (Rows.fnExactMixedLegalSpec.post enc Try.prog Try.f9 false true false false) := by
  refine returnsInHanded_of_change_sized (C := Try.checked) own started (by kernel_rfl) Try.func9
    (ChangeSpec.witness6 (enc := enc) (C := Try.checked) false ⟨#[], #[.slice none 0 0, .slice none 0 0], []⟩ 8 (by kernel_rfl) (by kernel_rfl) (by kernel_rfl) (by kernel_rfl)) ?_
  intro W base args ds gs before hval0 hW hcnd hsz0 _
  have hval : ∀ (j : Nat) t v, Try.f9.params[j]? = some t → args[j]? = some v → Value.okWide Try.prog W .any base t v := hval0
  have hW' := hW
  obtain ⟨p, q, hA0, hV, rfl, hfz, hnd⟩ := hW
  have hA : DataW.TrodAll enc Try.prog W 0 (fun _ => true) true Try.f9.params.toList args.toList ds p := hA0
  rw [Try.params9] at hA hval
  obtain ⟨v0, vs0, d0, ds0, p0, q0, hargs, rfl, rfl, h0, r0⟩ := trodAll_cons hA
  obtain ⟨v1, vs1, d1, ds1, p1, q1, rfl, rfl, rfl, h1, r1⟩ := trodAll_cons r0
  obtain ⟨rfl, rfl, rfl⟩ := trodAll_nil r1
  obtain rfl : args = #[v0, v1] := by cases args; simp_all
  obtain ⟨rfl, rfl⟩ := trodVars_none hV
  obtain ⟨a0, len0, cap0, rfl⟩ := okWide_slice Try.underlying30 (hval 0 30 v0 rfl rfl)
  obtain ⟨a1, len1, cap1, rfl⟩ := okWide_slice Try.underlying47 (hval 1 47 v1 rfl rfl)
  have k1 := h1
  have lt1 : ∀ x ∈ p1, x.block < W.heap.size := by obtain ⟨m, hm⟩ := k1; exact DataW.trod_lt m _ _ _ hm
  have k0 := h0
  have lt0 : ∀ x ∈ p0, x.block < W.heap.size := by obtain ⟨m, hm⟩ := k0; exact DataW.trod_lt m _ _ _ hm
  obtain ⟨l, el, hc, hmax, hr⟩ : ∃ l : List Q.S68, l.length = len0 ∧ len0 ≤ cap0 ∧ l.length ≤ 9223372036854775807 ∧ Go.Proofs.YtpgheaoepaadlaaW.PrintWords.Kd.C Q.k68 W a0 l.length l := by
    obtain ⟨fuel, hf⟩ := h0
    exact Pu.row_read hf
  obtain ⟨l', el', hc', hmax', hr'⟩ : ∃ l : List Q.S78, l.length = len1 ∧ len1 ≤ cap1 ∧ l.length ≤ 9223372036854775807 ∧ Go.Proofs.YtpgheaoepaadlaaW.PrintWords.Kd.C Q.k78 W a1 l.length l := by
    obtain ⟨fuel, hf⟩ := h1
    exact Pu.rowJ_read hf
  subst el el'
  obtain ⟨k, hk⟩ := Pure.FnExactMixedLegal l hmax l' hmax'
  clear hA0 hval0 hsz0
  refine (Q.laws_FnExactMixedLegal.calls k a0 cap0 l a1 cap1 l' true W hr hc hr' hc' hk).mono fun e W' ⟨he, bel⟩ => ?_
  subst he
  exact ⟨_, rfl, _, _, _, [], _, [], hW', trodAll_mk1 (shut_bool Try.underlying4 _), (trodAll_cons_mk (Below.trod laidOut (by kernel_rfl) (of_decide_eq_true (by kernel_rfl)) k0 bel lt0) (trodAll_cons_mk (Below.trod laidOut (by kernel_rfl) (of_decide_eq_true (by kernel_rfl)) k1 bel lt1) trodAll_mk0)), rfl, bel.frame _, fun h => by cases h⟩
theorem over : Rows.fnExactMixedLegalRow.holds Try.pinned (OpenSpec.ofChange Rows.fnExactMixedLegalSpec) :=
  OpenClaim.holds_of_wide 9 Try.f9 rfl rfl rfl rfl rfl rfl rfl ⟨rfl, rfl, rfl, rfl, rfl⟩ rfl rfl rfl rfl rfl (by kernel_rfl) Try.func9 (by kernel_rfl)
    (of_decide_eq_true (by kernel_rfl)) (by unfold Func.isWrapper; first | (rw [if_pos (by decide +kernel)]; kernel_rfl) | (rw [if_neg (by decide +kernel)]; exact ⟨rfl, rfl⟩))
    (fun os started H enc _ => lifted os started H enc)
theorem proved : Rows.FnExactMixedLegalSaid := over
#print axioms proved
end Go.Proofs.Ytpgheaoepaadlaa.fnExactMixedLegal
namespace Go.Proofs.Ytpgheaoepaadlaa
/-- The row, under a short name, for the claim. -/
theorem fnExactMixedLegal_holds : Rows.FnExactMixedLegalSaid := fnExactMixedLegal.proved
end Go.Proofs.Ytpgheaoepaadlaa
