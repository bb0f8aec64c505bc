/- The statement FnCeilings of the given program holds for every input: for every code of at most 2^20 bytes (and for longer ones at once) the law returns true. No further condition. -/
import Derived.Test.YtabjigpbednfnaaSecD
import Derived.Test.YtabjigpbednfnaaFimplXCeilings
import Derived.Test.YtabjigpbednfnaaFspecXCeilings
import Derived.Test.YtabjigpbednfnaaFlawsXFnCeilings
set_option linter.unusedSimpArgs false
set_option linter.unusedVariables false
namespace Go.Proofs.Ytabjigpbednfnaa.Pure
open Go.RowKit Go.Proofs.Ytabjigpbednfnaa.Q Go.Proofs.Ytabjigpbednfnaa.Pu Go.Proofs.YtabjigpbednfnaaW.PrintWords Go.Proofs.YtabjigpbednfnaaW.PrintLast

theorem sameInts_loopC (l : List Int) (hl : l.length ≤ 1000) : ∀ (d j : Nat), j + d = l.length → Ex (fun k => laws_sameInts.l0 k l l (j : Int)) (fun x => x = true) := by
  intro d
  induction d with
  | zero =>
    intro j hj
    refine Ex.step ?_
    simp only [laws_sameInts.l0]
    exact Ex.neg (by omega) (Ex.val rfl)
  | succ d ih =>
    intro j hj
    refine Ex.step ?_
    simp only [laws_sameInts.l0]
    rw [swx (by omega)]
    exact Ex.pos (by omega) (Ex.pos (by omega) (Ex.pos (by omega) (Ex.pos trivial (ih (j + 1) (by omega)))))
theorem sameInts_exC (l : List Int) (hl : l.length ≤ 1000) : Ex (fun k => laws_sameInts.f k l l) (fun x => x = true) := by
  unfold laws_sameInts.f
  exact Ex.pos rfl (sameInts_loopC l hl l.length 0 (by omega))
def ceilO (l : List Tk) (sc : List Sc) : List Int := [ceilV l sc 0, ceilV l sc 1, ceilV l sc 2]
theorem specC_ex (l : List Tk) (hl : l.length ≤ 1000) (sc : List Sc) : Ex (fun k => spec_Ceilings.f k l sc) (fun x => (SecOk l sc → x = ceilO l sc) ∧ (¬ SecOk l sc → x = [])) := by
  unfold spec_Ceilings.f
  simp only [Option.bind_some]
  refine Ex.bind (specSec_ex l hl sc) (fun b hb => Ex.ite (fun h => ?_) (fun h => Ex.val ⟨fun h' => absurd (hb.mpr h') h, fun _ => rfl⟩))
  have hs := hb.mp h
  refine Ex.mono (P := fun x => x = ceilO l sc) ?_ (fun x hx => ⟨fun _ => hx, fun h' => absurd hs h'⟩)
  have c := specCeil_ex hl hs.len
  have w1 : wrap64 ((0 : Int) + 1) = 1 := w64 (by omega) (by omega)
  have w2 : wrap64 ((1 : Int) + 1) = 2 := w64 (by omega) (by omega)
  have w3 : wrap64 ((2 : Int) + 1) = 3 := w64 (by omega) (by omega)
  refine Ex.step ?_
  simp only [spec_Ceilings.l0]
  refine Ex.pos (by omega) (Ex.bind (c 0) (fun x0 h0 => Ex.pos (by simp) (Ex.step ?_)))
  simp only [spec_Ceilings.l0]
  rw [w1]
  refine Ex.pos (by omega) (Ex.bind (c 1) (fun x1 h1 => Ex.pos (by simp) (Ex.step ?_)))
  simp only [spec_Ceilings.l0]
  rw [w2]
  refine Ex.pos (by omega) (Ex.bind (c 2) (fun x2 h2 => Ex.pos (by simp) (Ex.step ?_)))
  simp only [spec_Ceilings.l0]
  rw [w3]
  exact Ex.neg (by omega) (Ex.val (by rw [h0, h1, h2]; rfl))
theorem implC_ex (l : List Tk) (hl : l.length ≤ 1000) (sc : List Sc) : Ex (fun k => impl_Ceilings.f k l sc) (fun x => (SecOk l sc → x = ceilO l sc) ∧ (¬ SecOk l sc → x = [])) := by
  unfold impl_Ceilings.f
  refine Ex.bind (implSec_ex l hl sc) (fun b hb => Ex.ite (fun h => ?_) (fun h => Ex.val ⟨fun h' => absurd (hb.mpr h') h, fun _ => rfl⟩))
  have hs := hb.mp h
  exact Ex.bind (implCeil_ex hs) (fun x hx => Ex.val ⟨fun _ => hx, fun h' => absurd hs h'⟩)
theorem law_l1 {l : List Tk} {sc : List Sc} (h : SecOk l sc) (L : List Int) (r : Nat) (hr : r < L.length) (hL : L.length ≤ 3) (hv : rd L (r : Int) = ceilV l sc (r : Int)) (next : Ex (fun k => laws_FnCeilings.l0 k l sc L ((r + 1 : Nat) : Int)) (fun x => x = true)) : ∀ (d j : Nat) (fo us : Bool), j + d = l.length → (us = true ↔ ∃ i : Nat, i < j ∧ uses sc (r : Int) i) → (fo = true ↔ ∃ i : Nat, i < j ∧ uses sc (r : Int) i ∧ (rd_T33 l (i : Int)).f1 = rd L (r : Int)) → Ex (fun k => laws_FnCeilings.l1 k l sc L (r : Int) fo us (j : Int)) (fun x => x = true) := by
  have h5 := h.set.len
  have hlen := h.len
  obtain ⟨c1, c2, c3⟩ := ceilV_spec l sc (r : Int)
  intro d
  induction d with
  | zero =>
    intro j fo us hj hus hfo
    have ej : j = l.length := by omega
    have eq : us = fo := by
      have key : (us = true) ↔ (fo = true) := hus.trans (Iff.trans ⟨fun ⟨i, hi, hu⟩ => by
        rcases c3 with c3 | ⟨i', g1, g2, g3⟩
        · have g := c2 i (by omega) hu
          have hb := h.set.rd i (by omega)
          unfold rdT at hb
          omega
        · exact ⟨i', by omega, g2, by rw [hv, g3]⟩, fun ⟨i, hi, hu, _⟩ => ⟨i, hi, hu⟩⟩ hfo.symm)
      cases us <;> cases fo <;> simp at key ⊢
    refine Ex.step ?_
    simp only [laws_FnCeilings.l1]
    rw [swx (j := r) (by omega)]
    refine Ex.neg (by omega) (Ex.neg (by rw [eq]; simp) (Ex.ite (fun _ => next) (fun hn => Ex.pos (by omega) (Ex.pos (by omega) (Ex.pos ?_ next)))))
    rcases c3 with c3 | ⟨i', g1, g2, g3⟩
    · omega
    · exact absurd (hus.mpr ⟨i', by omega, g2⟩) hn
  | succ d ih =>
    intro j fo us hj hus hfo
    have old : ¬ uses sc (r : Int) j → Ex (fun k => laws_FnCeilings.l1 k l sc L (r : Int) fo us ((j + 1 : Nat) : Int)) (fun x => x = true) := fun hn => ih (j + 1) fo us (by omega) (hus.trans ⟨fun ⟨i, hi, hu⟩ => ⟨i, by omega, hu⟩, fun ⟨i, hi, hu⟩ => by
      by_cases e : i = j
      · rw [e] at hu; exact absurd hu hn
      · exact ⟨i, by omega, hu⟩⟩) (hfo.trans ⟨fun ⟨i, hi, hu⟩ => ⟨i, by omega, hu⟩, fun ⟨i, hi, hu⟩ => by
      by_cases e : i = j
      · rw [e] at hu; exact absurd hu.1 hn
      · exact ⟨i, by omega, hu⟩⟩)
    have j2 : ∀ w : Bool, (w = true ↔ uses sc (r : Int) j) → Ex (fun k => laws_FnCeilings.j2 k l sc L (r : Int) fo us (j : Int) w) (fun x => x = true) := fun w hw => Ex.step (by
      simp only [laws_FnCeilings.j2]
      rw [swx (j := j) (by omega)]
      refine Ex.ite (fun g => ?_) (fun g => old (fun hu => g (hw.mpr hu)))
      have hu := hw.mp g
      have hle := c2 j (by omega) hu
      have us' : ∀ fo' : Bool, (fo' = true ↔ (fo = true ∨ (rd_T33 l (j : Int)).f1 = rd L (r : Int))) → Ex (fun k => laws_FnCeilings.l1 k l sc L (r : Int) fo' true ((j + 1 : Nat) : Int)) (fun x => x = true) := fun fo' hf => ih (j + 1) fo' true (by omega) (siff_yes ⟨j, by omega, hu⟩) (hf.trans ⟨fun hh => by
        rcases hh with hh | hh
        · obtain ⟨i, hi, g2⟩ := hfo.mp hh; exact ⟨i, by omega, g2⟩
        · exact ⟨j, by omega, hu, hh⟩, fun ⟨i, hi, g2, g3⟩ => by
        by_cases e : i = j
        · rw [e] at g3; exact .inr g3
        · exact .inl (hfo.mpr ⟨i, by omega, g2, g3⟩)⟩)
      refine Ex.ite (fun g2 => Ex.pos (by omega) (Ex.pos (by omega) (Ex.pos (by omega) (Ex.pos (by omega) (Ex.neg (by omega) (us' true ?_)))))) (fun g2 => Ex.pos (by omega) (Ex.pos (by omega) (Ex.pos (by omega) (Ex.pos (by omega) (Ex.neg (by omega) (us' _ ?_))))))
      · exact siff_yes (.inl g2)
      · rw [beq_iff_eq]
        exact ⟨.inr, fun h' => h'.resolve_left g2⟩)
    refine Ex.step ?_
    simp only [laws_FnCeilings.l1]
    refine Ex.pos (by omega) (Ex.pos (by omega) (Ex.pos (by omega) (Ex.ite (fun g => j2 _ ?_) (fun g => j2 _ (siff_no (fun hu => g hu.1))))))
    rw [beq_iff_eq]
    exact ⟨fun e => ⟨g, e⟩, fun hu => hu.2⟩
theorem law_l0 {l : List Tk} {sc : List Sc} (h : SecOk l sc) : ∀ (d r : Nat), r + d = 3 → Ex (fun k => laws_FnCeilings.l0 k l sc (ceilO l sc) (r : Int)) (fun x => x = true) := by
  intro d
  induction d with
  | zero =>
    intro r hr
    refine Ex.step ?_
    simp only [laws_FnCeilings.l0, alive_eq, Option.bind_some]
    have e : ((ceilO l sc).length : Int) = 3 := rfl
    rw [e]
    exact Ex.neg (by omega) (Ex.pos rfl (Ex.val rfl))
  | succ d ih =>
    intro r hr
    refine Ex.step ?_
    simp only [laws_FnCeilings.l0, alive_eq, Option.bind_some]
    have e : ((ceilO l sc).length : Int) = 3 := rfl
    have hv : rd (ceilO l sc) (r : Int) = ceilV l sc (r : Int) := by
      rcases (show r = 0 ∨ r = 1 ∨ r = 2 by omega) with rfl | rfl | rfl <;> rfl
    refine Ex.pos (by omega) (law_l1 h (ceilO l sc) r (by omega) (by omega) hv (ih (r + 1) (by omega)) l.length 0 false false (by omega) (siff_no (fun ⟨i, hi, _⟩ => by omega)) (siff_no (fun ⟨i, hi, _⟩ => by omega)))
theorem FnCeilings : laws_FnCeilings.Pure := by
  intro l0 h1 h2 h8
  refine Ex.get ?_
  unfold laws_FnCeilings.f
  refine Ex.ite (fun _ => Ex.val rfl) (fun _ => Ex.bind (drawC_ex l0 h8) ?_)
  rintro ⟨l, sc⟩ ⟨hl, hsl⟩
  simp only [] at hl hsl ⊢
  refine Ex.bind (implC_ex l (by omega) sc) ?_
  intro x hx
  refine Ex.bind (specC_ex l (by omega) sc) ?_
  intro y hy
  by_cases h : SecOk l sc
  · rw [hx.1 h, hy.1 h]
    refine Ex.bind (sameInts_exC (ceilO l sc) (by unfold ceilO; simp)) (fun z hz => Ex.pos hz (Ex.bind (specSec_ex l (by omega) sc) (fun b hb => Ex.pos (hb.mpr h) (law_l0 h 3 0 (by omega)))))
  · rw [hx.2 h, hy.2 h, alive_eq]
    exact Ex.bind (sameInts_exC [] (by simp)) (fun z hz => Ex.pos hz (Ex.bind (specSec_ex l (by omega) sc) (fun b hb => Ex.neg (fun h' => h (hb.mp h')) (Ex.pos rfl (Ex.val rfl)))))

end Go.Proofs.Ytabjigpbednfnaa.Pure
