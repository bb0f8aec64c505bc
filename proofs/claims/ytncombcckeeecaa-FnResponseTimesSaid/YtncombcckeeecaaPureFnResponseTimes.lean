/- The statement FnResponseTimes of the given program holds for every input: for every code of at most 2^20 bytes (and for longer ones at once) the law returns true. No further condition. -/
import Derived.Test.YtncombcckeeecaaRespS
import Derived.Test.YtncombcckeeecaaFlawsXFnResponseTimes
set_option linter.unusedSimpArgs false
set_option linter.unusedVariables false
set_option linter.unusedSectionVars false
namespace Go.Proofs.Ytncombcckeeecaa.Pure
open Go.RowKit Go.Proofs.Ytncombcckeeecaa.Q Go.Proofs.Ytncombcckeeecaa.Pu Go.Proofs.YtncombcckeeecaaW.PrintWords Go.Proofs.YtncombcckeeecaaW.PrintLast

/-- What the law has found, going down from the deadline to r. -/
def Fd (C D : Int) (I : Int → Int) (r f : Int) : Prop := (f = -1 ∧ ∀ s, r < s → s ≤ D → C + I s ≠ s) ∨ (r < f ∧ f ≤ D ∧ C + I f = f ∧ ∀ s, r < s → s < f → C + I s ≠ s)
theorem Fd.first (C D : Int) (I : Int → Int) : Fd C D I D (-1) := Or.inl ⟨rfl, fun s h1 h2 => by omega⟩
theorem Fd.hit {C D : Int} {I : Int → Int} {r f : Int} (hr : r ≤ D) (h : Fd C D I r f) (e : C + I r = r) : Fd C D I (r - 1) r := Or.inr ⟨by omega, hr, e, fun s h1 h2 => by omega⟩
theorem Fd.miss {C D : Int} {I : Int → Int} {r f : Int} (h : Fd C D I r f) (e : C + I r ≠ r) : Fd C D I (r - 1) f := by
  have ne : ∀ s, s = r → C + I s ≠ s := fun s es => by rw [es]; exact e
  rcases h with ⟨h1, h2⟩ | ⟨h1, h2, h3, h4⟩
  · refine Or.inl ⟨h1, fun s g1 g2 => ?_⟩
    by_cases es : s = r
    · exact ne s es
    · exact h2 s (by omega) g2
  · refine Or.inr ⟨by omega, h2, h3, fun s g1 g2 => ?_⟩
    by_cases es : s = r
    · exact ne s es
    · exact h4 s (by omega) g2
theorem Fd.last {C D : Int} {I : Int → Int} {f x : Int} (hC : 1 ≤ C) (hI : ∀ s, 0 ≤ s → 0 ≤ I s) (h : Fd C D I 0 f) (hx : RespIs C D I x) : x = f := by
  refine hx.uniq hC ?_
  have hx' := hx
  rcases h with ⟨h1, h2⟩ | ⟨h1, h2, h3, h4⟩
  · rcases hx with ⟨g1, g2⟩ | ⟨g1, g2, g3, g4⟩
    · exact Or.inl ⟨h1, g2⟩
    · exact absurd g3 (h2 x (by omega) g2)
  · have := hI f (by omega)
    rcases hx with ⟨g1, g2⟩ | ⟨g1, g2, g3, g4⟩
    · have := g2 f (by omega) h2; omega
    · by_cases e : x < f
      · exact absurd g3 (h4 x (by omega) e)
      · refine Or.inr ⟨by omega, h2, h3, fun s k1 k2 => g4 s k1 (by omega)⟩
section
variable {l : List Tk} {o a : List Int} (hp : OrdP l o) (ha : RT l o a)
include hp ha
theorem law_l2 {k : Nat} (hk : k < o.length) (f r : Int) (h0 : 0 ≤ r) (h1 : r ≤ 100) {P : Bool → Prop}
    (eqv : (rdT l (rd o (k : Int))).f0 + itf ((o.take k).map (rdT l)) r = r → Ex (fun n => laws_FnResponseTimes.l1 n l o a (k : Int) r (r - 1) (rdT l (rd o (k : Int))).f0 (rdT l (rd o (k : Int))).f1 (rdT l (rd o (k : Int))).f2) P)
    (rest : (rdT l (rd o (k : Int))).f0 + itf ((o.take k).map (rdT l)) r ≠ r → Ex (fun n => laws_FnResponseTimes.l1 n l o a (k : Int) f (r - 1) (rdT l (rd o (k : Int))).f0 (rdT l (rd o (k : Int))).f1 (rdT l (rd o (k : Int))).f2) P) :
    ∀ (d j : Nat), j + d = k → Ex (fun n => laws_FnResponseTimes.l2 n l o a (k : Int) f r ((rdT l (rd o (k : Int))).f0 + itf ((o.take j).map (rdT l)) r) (j : Int) (rdT l (rd o (k : Int))).f0 (rdT l (rd o (k : Int))).f1 (rdT l (rd o (k : Int))).f2) P := by
  have hlen := hp.idx.len
  have hkt := hp.idx.at hk
  have htk := hp.ok.at' hkt.1 hkt.2
  intro d
  induction d with
  | zero =>
    intro j hj
    have ej : j = k := by omega
    subst ej
    refine Ex.step ?_
    simp only [laws_FnResponseTimes.l2]
    rw [w64 (n := r - 1) (by omega) (by omega)]
    exact Ex.neg (by omega) (Ex.ite (fun e => eqv e) (fun e => rest e))
  | succ d ih =>
    intro j hj
    have hat := hp.idx.at (show j < o.length by omega)
    have hx := hp.ok.at' hat.1 hat.2
    have hb := acc_bd hp.idx (C := (rdT l (rd o (k : Int))).f0) (r := r) (by unfold TkOk at htk; omega) (by unfold TkOk at htk; omega) h0 h1 j
    have ih' := ih (j + 1) (by omega)
    rw [map_take_succ (by omega), itf_snoc, ← Int.add_assoc] at ih'
    refine Ex.step ?_
    simp only [laws_FnResponseTimes.l2]
    rw [w64 (n := (j : Int) + 1) (by omega) (by omega), term_eq hx h0 (by omega) hb.1 (by omega)]
    unfold TkOk at hx
    exact Ex.pos (by omega) (Ex.pos (by omega) (Ex.pos (by omega) (Ex.pos hat.1 (Ex.pos hat.2 (Ex.neg (by show ¬ (rdT l (rd o (j : Int))).f2 = 0; omega) ih')))))
theorem law_l1 {k : Nat} (hk : k < o.length) {P : Bool → Prop} (next : Ex (fun n => laws_FnResponseTimes.l0 n l o a (((k + 1 : Nat) : Int))) P) :
    ∀ (d : Nat) (f : Int), (d : Int) ≤ (rdT l (rd o (k : Int))).f1 → Fd (rdT l (rd o (k : Int))).f0 (rdT l (rd o (k : Int))).f1 (itf ((o.take k).map (rdT l))) d f → Ex (fun n => laws_FnResponseTimes.l1 n l o a (k : Int) f (d : Int) (rdT l (rd o (k : Int))).f0 (rdT l (rd o (k : Int))).f1 (rdT l (rd o (k : Int))).f2) P := by
  have hlen := hp.idx.len
  have hkt := hp.idx.at hk
  have htk := hp.ok.at' hkt.1 hkt.2
  have hal := ha.1
  intro d
  induction d with
  | zero =>
    intro f hd hf
    have hx := ha.2 k hk
    have e := hf.last htk.1 (fun s hs => itf_nonneg (hp.idx.take k).tasks hs) hx
    refine Ex.step ?_
    simp only [laws_FnResponseTimes.l1]
    rw [w64 (n := (k : Int) + 1) (by omega) (by omega)]
    refine Ex.neg (by omega) (Ex.pos (by omega) (Ex.pos (by omega) (Ex.pos hkt.1 (Ex.pos (by omega) (Ex.pos e (Ex.ite (fun h0 => ?_) (fun _ => next)))))))
    refine Ex.pos ?_ next
    have hk0 : k = 0 := by omega
    rw [← e]
    have hz : ∀ s, itf ((o.take k).map (rdT l)) s = 0 := fun s => by rw [hk0]; rfl
    have hp2 := hx.pre htk.1 (Int.le_refl _) (by unfold TkOk at htk; omega) (by rw [hz]; omega)
    rcases hx with ⟨g1, _⟩ | ⟨g1, g2, g3, _⟩
    · omega
    · omega
  | succ d ih =>
    intro f hd hf
    unfold TkOk at htk
    have := law_l2 hp ha hk f ((d : Int) + 1) (by omega) (by omega) (P := P) (fun e => ?_) (fun e => ?_) k 0 (by omega)
    · rw [List.take_zero] at this
      simp only [List.map_nil, itf, sumT, Int.add_zero] at this
      refine Ex.step ?_
      simp only [laws_FnResponseTimes.l1]
      exact Ex.pos (by omega) this
    · rw [show (d : Int) + 1 - 1 = (d : Int) by omega]
      have := Fd.hit (show (d : Int) + 1 ≤ _ from by omega) (show Fd _ _ _ ((d : Int) + 1) f from hf) e
      rw [show (d : Int) + 1 - 1 = (d : Int) by omega] at this
      exact ih _ (by omega) this
    · rw [show (d : Int) + 1 - 1 = (d : Int) by omega]
      have := Fd.miss (show Fd _ _ _ ((d : Int) + 1) f from hf) e
      rw [show (d : Int) + 1 - 1 = (d : Int) by omega] at this
      exact ih _ (by omega) this
theorem law_l0 : ∀ (d k : Nat), k + d = o.length → Ex (fun n => laws_FnResponseTimes.l0 n l o a (k : Int)) (fun x => x = true) := by
  have hlen := hp.idx.len
  have hal := ha.1
  intro d
  induction d with
  | zero =>
    intro k hk
    refine Ex.step ?_
    simp only [laws_FnResponseTimes.l0]
    rw [alive_eq]
    exact Ex.neg (by omega) (Ex.pos (by omega) (Ex.val rfl))
  | succ d ih =>
    intro k hk
    have hkt := hp.idx.at (show k < o.length by omega)
    have htk := hp.ok.at' hkt.1 hkt.2
    unfold TkOk at htk
    have := law_l1 hp ha (show k < o.length by omega) (ih (k + 1) (by omega)) (rdT l (rd o (k : Int))).f1.toNat (-1) (by omega) (by rw [show (((rdT l (rd o (k : Int))).f1.toNat : Nat) : Int) = (rdT l (rd o (k : Int))).f1 by omega]; exact Fd.first _ _ _)
    rw [show (((rdT l (rd o (k : Int))).f1.toNat : Nat) : Int) = (rdT l (rd o (k : Int))).f1 by omega] at this
    refine Ex.step ?_
    simp only [laws_FnResponseTimes.l0]
    exact Ex.pos (by omega) (Ex.pos (by omega) (Ex.pos hkt.1 (Ex.pos hkt.2 this)))
end
theorem FnResponseTimes : laws_FnResponseTimes.Pure := by
  intro l0 h1 h2 h8
  refine Ex.get ?_
  unfold laws_FnResponseTimes.f
  refine Ex.ite (fun _ => Ex.val rfl) (fun _ => Ex.bind (drawR_ex l0 h8) ?_)
  rintro ⟨l, o⟩ ⟨hl, ho⟩
  simp only [] at hl ho ⊢
  refine Ex.bind (implRT_ex l (by omega) o (by omega)) ?_
  intro a ha
  refine Ex.bind (specRT_ex l (by omega) o (by omega)) ?_
  intro a' ha'
  rw [← ha.uniq ha']
  have hal := ha.len (by omega)
  refine Ex.bind (sameIntsO_ex a hal) ?_
  intro s hs
  refine Ex.pos hs (Ex.bind (specOrd_ex l (by omega) o (by omega)) ?_)
  intro v hv
  refine Ex.ite (fun h => ?_) (fun h => ?_)
  · exact law_l0 (hv.mp h) (ha.1 (hv.mp h)) o.length 0 (by omega)
  · rw [alive_eq]
    refine Ex.pos ?_ (Ex.val rfl)
    rw [ha.2 (fun hp => h (hv.mpr hp))]; rfl

end Go.Proofs.Ytncombcckeeecaa.Pure
