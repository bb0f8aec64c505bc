import Derived.Test.YtncombcckeeecaaRespV
import Derived.Test.YtncombcckeeecaaFspecXResponseTimes
import Derived.Test.YtncombcckeeecaaFlawsXsameInts
import Derived.Test.YtncombcckeeecaaFspecXDrawResponseTimes
set_option linter.unusedSimpArgs false
set_option linter.unusedVariables false
namespace Go.Proofs.Ytncombcckeeecaa.Pu
open Go.RowKit Go.Proofs.Ytncombcckeeecaa.Q Go.Proofs.YtncombcckeeecaaW.PrintWords Go.Proofs.YtncombcckeeecaaW.PrintLast

theorem specResps_loop {l : List Tk} {o : List Int} (h : OrdP l o) : ∀ (d j : Nat) (out : List Int), j + d = o.length → RTn l o j out → Ex (fun k => spec_ResponseTimes.l0 k l o out (j : Int)) (RT l o) := by
  have hlen := h.idx.len
  intro d
  induction d with
  | zero =>
    intro j out hj hr
    refine Ex.step ?_
    simp only [spec_ResponseTimes.l0]
    exact Ex.neg (by omega) (Ex.val (by unfold RT; rwa [show o.length = j by omega]))
  | succ d ih =>
    intro j out hj hr
    have hat := h.idx.at (show j < o.length by omega)
    have hol := hr.1
    refine Ex.step ?_
    simp only [spec_ResponseTimes.l0]
    rw [w64 (n := (j : Int) + 1) (by omega) (by omega), Int.toNat_natCast]
    refine Ex.pos (by omega) (Ex.pos (by omega) (Ex.pos (by omega) (Ex.bind (specResp_ex (h.idx.take j) hat.1 hat.2) ?_)))
    intro t ht
    exact Ex.pos hat.1 (Ex.pos (by omega) (ih (j + 1) _ (by omega) (hr.put h (by omega) ht)))
theorem specRT_ex (l : List Tk) (hl : l.length ≤ 1000) (o : List Int) (ho : o.length ≤ 1000) : Ex (fun k => spec_ResponseTimes.f k l o) (RO l o) := by
  unfold spec_ResponseTimes.f
  refine Ex.bind (specOrd_ex l hl o ho) ?_
  intro x hx
  refine Ex.ite (fun h => ?_) (fun h => Ex.val ⟨fun h' => absurd (hx.mpr h') h, fun _ => rfl⟩)
  have hp := hx.mp h
  rw [Int.toNat_natCast]
  exact Ex.pos (by omega) (Ex.pos (by omega) (Ex.mono (specResps_loop hp o.length 0 _ (by omega) (rt_zero l o)) (fun y hy => ⟨fun _ => hy, fun h' => absurd hp h'⟩)))
theorem sameIntsO_loop (l : List Int) (hl : l.length ≤ 1000) : ∀ (d j : Nat), j + d = l.length → Ex (fun k => laws_sameInts.l0 k l l (j : Int)) (fun x => x = true) := by
  intro d
  induction d with
  | zero =>
    intro j hj
    refine Ex.step ?_
    simp only [laws_sameInts.l0]
    exact Ex.neg (by omega) (Ex.val rfl)
  | succ d ih =>
    intro j hj
    refine Ex.step ?_
    simp only [laws_sameInts.l0]
    rw [w64 (n := (j : Int) + 1) (by omega) (by omega)]
    exact Ex.pos (by omega) (Ex.pos (by omega) (Ex.pos (by omega) (Ex.pos trivial (ih (j + 1) (by omega)))))
theorem sameIntsO_ex (l : List Int) (hl : l.length ≤ 1000) : Ex (fun k => laws_sameInts.f k l l) (fun x => x = true) := by
  unfold laws_sameInts.f
  exact Ex.pos rfl (sameIntsO_loop l hl l.length 0 (by omega))
theorem drawR_ex (l0 : List Int) (h8 : ∀ x ∈ l0, (Lit.int .u8 x).wf = true) : Ex (fun k => spec_DrawResponseTimes.f k l0) (fun x => x.1.length ≤ 12 ∧ x.2.length ≤ 13) := by
  obtain ⟨b, hb, ho⟩ := open_ev l0 h8
  obtain ⟨l, q, hl, h1, h2, hs⟩ := set_ev b hb 0 20 (by omega) (by omega)
  have hlen := hl.len
  unfold spec_DrawResponseTimes.f
  simp only [ho, Option.bind_some]
  refine Ex.bind (P := fun x => x = (l, q)) (Ex.at_ 40 hs rfl) ?_
  intro x hx
  rw [hx]
  refine Ex.bind (order_ex hb l.length (by omega) 12 (by omega) (by omega)) (fun y hy => Ex.val ⟨hlen, by simp only []; omega⟩)
theorem RO.len {l : List Tk} {o x : List Int} (h : RO l o x) (hl : l.length ≤ 1000) : x.length ≤ 1000 := by
  by_cases hp : OrdP l o
  · have := (h.1 hp).1; omega
  · rw [h.2 hp]; simp

end Go.Proofs.Ytncombcckeeecaa.Pu
