/- The statement FnAssign of the given program holds for every input: for every code of at most 2^20 bytes (and for longer ones at once) the law returns true. No further condition. -/
import Derived.Test.YtncombcckeeecaaAudS
import Derived.Test.YtncombcckeeecaaRespS
import Derived.Test.YtncombcckeeecaaFlawsXFnAssign
set_option linter.unusedSimpArgs false
set_option linter.unusedVariables false
namespace Go.Proofs.Ytncombcckeeecaa.Pure
open Go.RowKit Go.Proofs.Ytncombcckeeecaa.Q Go.Proofs.Ytncombcckeeecaa.Pu Go.Proofs.YtncombcckeeecaaW.PrintWords Go.Proofs.YtncombcckeeecaaW.PrintLast

theorem ff_no {l : List Tk} (hl : l.length ≤ 1000) (hs : Stuck l) {o : List Int} (ho : o.length ≤ 1000) : Ex (fun k => impl_FixedFeasible.f k l o) (fun x => ¬ x = true) :=
  Ex.mono (implFF_ex l hl o ho) (fun x hx h => stuck_no hs (hx.mp h).1 (hx.mp h).2)
theorem law_l1 {l : List Tk} (hl : l.length ≤ 1000) (hs : Stuck l) {o : List Int} (ho : o.length ≤ 1000) : ∀ (d j : Nat), 1 ≤ j → (j + d = o.length ∨ (d = 0 ∧ o.length ≤ j)) → Ex (fun k => laws_FnAssign.l1 k l o [] (j : Int)) (fun x => x = true) := by
  intro d
  induction d with
  | zero =>
    intro j h1 hj
    refine Ex.step ?_
    simp only [laws_FnAssign.l1]
    exact Ex.neg (by omega) (Ex.val rfl)
  | succ d ih =>
    intro j h1 hj
    have hj' : j + (d + 1) = o.length := by omega
    refine Ex.step ?_
    simp only [laws_FnAssign.l1]
    rw [w64 (n := (j : Int) - 1) (by omega) (by omega), w64 (n := (j : Int) + 1) (by omega) (by omega)]
    refine Ex.pos (by omega) ?_
    simp only [Option.bind_some, List.nil_append]
    refine Ex.pos (by rw [List.length_nil]; omega) (Ex.pos (by omega) (Ex.pos (by omega) (Ex.pos (by omega) (Ex.pos (by omega) (Ex.bind (ff_no hl hs (by rw [List.length_set, List.length_set]; exact ho)) ?_)))))
    intro x hx
    exact Ex.neg hx (ih (j + 1) (by omega) (by omega))
theorem law_l0 {l : List Tk} (hl : l.length ≤ 1000) (hs : Stuck l) {o : List Int} (ho : o.length ≤ 1000) : ∀ (j : Nat) (b : List Int), j ≤ o.length → b.length + j = o.length → Ex (fun k => laws_FnAssign.l0 k l o [] b ((j : Int) - 1)) (fun x => x = true) := by
  intro j
  induction j with
  | zero =>
    intro b _ hb
    refine Ex.step ?_
    simp only [laws_FnAssign.l0]
    refine Ex.neg (by omega) (Ex.bind (ff_no hl hs ho) ?_)
    intro x hx
    refine Ex.neg hx (Ex.bind (ff_no hl hs (o := b) (by omega)) ?_)
    intro y hy
    refine Ex.step ?_
    simp only [laws_FnAssign.j2]
    exact Ex.neg hy (law_l1 hl hs ho (o.length - 1) 1 (by omega) (by omega))
  | succ j ih =>
    intro b hj hb
    refine Ex.step ?_
    simp only [laws_FnAssign.l0]
    rw [show ((j + 1 : Nat) : Int) - 1 = (j : Int) by omega, w64 (n := (j : Int) - 1) (by omega) (by omega)]
    exact Ex.pos (by omega) (Ex.pos (by omega) (Ex.pos (by omega) (Ex.pos (by omega) (ih _ (by omega) (by rw [List.length_append, List.length_singleton]; omega)))))
theorem FnAssign : laws_FnAssign.Pure := by
  intro l0 h1 h2 h8
  refine Ex.get ?_
  unfold laws_FnAssign.f
  refine Ex.ite (fun _ => Ex.val rfl) (fun _ => Ex.bind (draw_ex l0 h8) ?_)
  rintro ⟨l, o⟩ ⟨hl, ho⟩
  simp only [] at hl ho ⊢
  obtain ⟨p, hp⟩ := tells_ex l
  have two : ∃ r : List Int × Bool, r.1.length ≤ 1000 ∧ Ex (fun k => impl_AssignPriorities.f k l) (fun x => x = r) ∧ Ex (fun k => spec_AssignPriorities.f k l) (fun x => x = r) ∧ (OrdP l o → (r = ([], false) ∧ Stuck l) ∨ (r.2 = true ∧ OrdP l r.1 ∧ Fits l r.1 0)) := by
    by_cases hok : Ok l
    · refine ⟨_, ?_, implAsg_ex hp hok, specAsg_ex hp hok, fun _ => ?_⟩
      · rcases aud_res hok hp with ⟨e, _⟩ | ⟨q, e, hq, _⟩
        · rw [e]; simp
        · rw [e]; have := hq.len; simp only []; omega
      · rcases aud_res hok hp with g | ⟨q, e, hq, hf⟩
        · exact Or.inl g
        · rw [e]; exact Or.inr ⟨rfl, hq, hf⟩
    · exact ⟨_, by simp, implAsg_no hok, specAsg_no (by omega) hok, fun h => absurd h.ok hok⟩
  obtain ⟨⟨r, b⟩, hr, hi, hs, hres⟩ := two
  simp only [] at hr
  refine Ex.bind hi ?_
  intro x hx
  rw [hx]
  refine Ex.bind hs ?_
  intro y hy
  rw [hy]
  simp only []
  refine Ex.bind (sameIntsO_ex r hr) ?_
  intro z hz
  refine Ex.pos hz ?_
  rw [show (b != b) = false from by simp]
  refine Ex.step ?_
  simp only [laws_FnAssign.j0]
  refine Ex.neg (by simp) (Ex.bind (specOrd_ex l (by omega) o (by omega)) ?_)
  intro v hv
  refine Ex.ite (fun h => ?_) (fun h => ?_)
  · rcases hres (hv.mp h) with ⟨e, hst⟩ | ⟨e, hq, hf⟩
    · injection e with e1 e2
      rw [e1, e2]
      refine Ex.neg (by simp) ?_
      rw [w64 (n := (o.length : Int) - 1) (by omega) (by omega)]
      exact law_l0 (by omega) hst (by omega) o.length [] (Nat.le_refl _) (by simp)
    · refine Ex.pos e (Ex.bind (implFF_ex l (by omega) r hr) ?_)
      intro w hw
      exact Ex.val (hw.mpr ⟨hq, hf⟩)
  · rw [alive_eq]; exact Ex.val rfl

end Go.Proofs.Ytncombcckeeecaa.Pure
