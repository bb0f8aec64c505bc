import Derived.Test.YtpgheaoepaadlaaRows
import Derived.Test.YtpgheaoepaadlaaFlawsXFnExactDeadlineScale
import Derived.Test.YtpgheaoepaadlaaPureFnExactDeadlineScale
import Derived.Test.YtpgheaoepaadlaaXRow
import Derived.WalkKit
import Derived.ProofKit
import Derived.OpenShut
import Derived.ShutString
import Derived.ChangeOld
import Derived.Below
import Derived.SizedLaws
-- the row of a law that takes a slice of structs, after the rows that the print writes
namespace Go.Proofs.Ytpgheaoepaadlaa.fnExactDeadlineScale
open Go.ChangeShapes Go.WideShapes Go.ChangeAt Go.RowKit
set_option linter.unusedVariables false
theorem own : ownKnob Try.prog.godebug = none := by kernel_rfl
theorem laidOut : laidOutB Try.prog = true := by kernel_rfl
set_option maxRecDepth 100000 in
theorem lifted (os : Os) (started : os.Started) (H : Type) (enc : TypeId × Value → H) :
    ReturnsInHanded {} Try.checked os 7 .any (Rows.fnExactDeadlineScaleSpec.pre6 enc Try.prog Try.f7 Rows.fnExactDeadlineScaleRow.domain false) (Rows.fnExactDeadlineScaleSpec.post enc Try.prog Try.f7 false true false false) := by
  refine returnsInHanded_of_change_sized (C := Try.checked) own started (by kernel_rfl) Try.func7
    (ChangeSpec.witness6 (enc := enc) (C := Try.checked) false ⟨#[], #[.slice none 0 0], []⟩ 8 (by kernel_rfl) (by kernel_rfl) (by kernel_rfl) (by kernel_rfl)) ?_
  intro W base args ds gs before hval0 hW hcnd hsz0 _
  have hval : ∀ (j : Nat) t v, Try.f7.params[j]? = some t → args[j]? = some v → Value.okWide Try.prog W .any base t v := hval0
  have hW' := hW
  obtain ⟨p, q, hA0, hV, rfl, hfz, hnd⟩ := hW
  have hA : DataW.TrodAll enc Try.prog W 0 (fun _ => true) true Try.f7.params.toList args.toList ds p := hA0
  rw [Try.params7] at hA hval
  obtain ⟨v0, vs0, d0, ds0, p0, q0, hargs, rfl, rfl, h0, r0⟩ := trodAll_cons hA
  obtain ⟨rfl, rfl, rfl⟩ := trodAll_nil r0
  obtain rfl : args = #[v0] := by cases args; simp_all
  obtain ⟨rfl, rfl⟩ := trodVars_none hV
  obtain ⟨a0, len0, cap0, rfl⟩ := okWide_slice Try.underlying30 (hval 0 30 v0 rfl rfl)
  have k0 := h0
  have lt0 : ∀ x ∈ p0, x.block < W.heap.size := by obtain ⟨m, hm⟩ := k0; exact DataW.trod_lt m _ _ _ hm
  obtain ⟨l, el, hc, hmax, hr⟩ : ∃ l : List Q.S68, l.length = len0 ∧ len0 ≤ cap0 ∧ l.length ≤ 9223372036854775807 ∧ Go.Proofs.YtpgheaoepaadlaaW.PrintWords.Kd.C Q.k68 W a0 l.length l := by
    obtain ⟨fuel, hf⟩ := h0
    exact Pu.row_read hf
  subst el
  obtain ⟨k, hk⟩ := Pure.FnExactDeadlineScale l hmax
  clear hA0 hval0 hsz0
  refine (Q.laws_FnExactDeadlineScale.calls k a0 cap0 l true W hr hc hk).mono fun e W' ⟨he, bel⟩ => ?_
  subst he
  exact ⟨_, rfl, _, _, _, [], _, [], hW', trodAll_mk1 (shut_bool Try.underlying4 _), (trodAll_cons_mk (Below.trod laidOut (by kernel_rfl) (of_decide_eq_true (by kernel_rfl)) k0 bel lt0) trodAll_mk0), rfl, bel.frame _, fun h => by cases h⟩
theorem over : Rows.fnExactDeadlineScaleRow.holds Try.pinned (OpenSpec.ofChange Rows.fnExactDeadlineScaleSpec) :=
  OpenClaim.holds_of_wide 7 Try.f7 rfl rfl rfl rfl rfl rfl rfl ⟨rfl, rfl, rfl, rfl, rfl⟩ rfl rfl rfl rfl rfl (by kernel_rfl) Try.func7 (by kernel_rfl)
    (of_decide_eq_true (by kernel_rfl)) (by unfold Func.isWrapper; first | (rw [if_pos (by decide +kernel)]; kernel_rfl) | (rw [if_neg (by decide +kernel)]; exact ⟨rfl, rfl⟩))
    (fun os started H enc _ => lifted os started H enc)
theorem proved : Rows.FnExactDeadlineScaleSaid := over
#print axioms proved
end Go.Proofs.Ytpgheaoepaadlaa.fnExactDeadlineScale
namespace Go.Proofs.Ytpgheaoepaadlaa
/-- The row, under a short name, for the claim. -/
theorem fnExactDeadlineScale_holds : Rows.FnExactDeadlineScaleSaid := fnExactDeadlineScale.proved
end Go.Proofs.Ytpgheaoepaadlaa
