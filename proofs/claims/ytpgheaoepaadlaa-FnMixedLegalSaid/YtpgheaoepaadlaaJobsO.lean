import Derived.Test.YtpgheaoepaadlaaJobs
import Derived.Test.YtpgheaoepaadlaaFimplXordered
import Derived.Test.YtpgheaoepaadlaaFimplXspaced
set_option linter.unusedSimpArgs false
set_option linter.unusedVariables false
namespace Go.Proofs.Ytpgheaoepaadlaa.Pu
open Go.RowKit Go.Proofs.Ytpgheaoepaadlaa.Q Go.Proofs.YtpgheaoepaadlaaW.PrintWords Go.Proofs.YtpgheaoepaadlaaW.PrintLast

theorem lastR_eq (t : Int) : ∀ l : List Jb, lastR t l = lstR t l
  | [] => rfl
  | x :: r => by rw [lastR, lstR, lastR_eq t r] <;> (cases lstR t r <;> rfl)
theorem ord_loop {M : Int → Option Int} {cost : Int → Int} (hM : ∀ t, M t = some (cost t)) (l : List Jb) (hl : l.length ≤ 9000000) (n : Int) (hn0 : 0 ≤ n) (hn : n ≤ 1000) : ∀ (d j : Nat), j + d = l.length → Ex (fun k => impl_ordered.l0 M k l n l (l.length : Int) (j : Int)) (fun r => r = true ↔ (l.length ≤ 60 ∧ ∀ i : Nat, j ≤ i → i < l.length → aO n cost (rd_T57 l (i : Int)) ∧ pO l i)) := by
  intro d
  induction d with
  | zero =>
    intro j hj
    refine Ex.step ?_
    simp only [impl_ordered.l0]
    refine Ex.neg (by omega) (Ex.val ?_)
    rw [decide_eq_true_eq]
    exact ⟨fun h => ⟨by omega, fun i h1 h2 => by omega⟩, fun h => by omega⟩
  | succ d ih =>
    intro j hj
    have next := ih (j + 1) (by omega)
    have hw := jw1 (j := j) (by omega)
    refine Ex.step ?_
    simp only [impl_ordered.l0, in_eq, hM, Option.bind_some]
    refine Ex.pos (by omega) (Ex.pos (by omega) (Ex.pos (by omega) ?_))
    have hwn : wrap64 (n - 1) = n - 1 := w64 (by omega) (by omega)
    rw [hwn]
    have no : ¬ (aO n cost (rd_T57 l (j : Int)) ∧ pO l j) → ¬ (l.length ≤ 60 ∧ ∀ i : Nat, j ≤ i → i < l.length → aO n cost (rd_T57 l (i : Int)) ∧ pO l i) := fun h h' => h (h'.2 j (Nat.le_refl _) (by omega))
    have yes : aO n cost (rd_T57 l (j : Int)) → pO l j → Ex (fun k => impl_ordered.l0 M k l n l (l.length : Int) ((j + 1 : Nat) : Int)) (fun r => r = true ↔ (l.length ≤ 60 ∧ ∀ i : Nat, j ≤ i → i < l.length → aO n cost (rd_T57 l (i : Int)) ∧ pO l i)) := fun h1 h2 => Ex.mono next (fun r hr => hr.trans ⟨fun h => ⟨h.1, fun i hi hil => by
      by_cases e : i = j
      · rw [e]; exact ⟨h1, h2⟩
      · exact h.2 i (by omega) hil⟩, fun h => ⟨h.1, fun i hi hil => h.2 i (by omega) hil⟩⟩)
    have bad : ∀ (a0 a1 a2 a3 : Int), ¬ aO n cost (rd_T57 l (j : Int)) → Ex (fun k => impl_ordered.j1 M k l n (j : Int) l (l.length : Int) (j : Int) true a0 a1 a2 a3) (fun r => r = true ↔ (l.length ≤ 60 ∧ ∀ i : Nat, j ≤ i → i < l.length → aO n cost (rd_T57 l (i : Int)) ∧ pO l i)) := fun a0 a1 a2 a3 h => Ex.step (by
      simp only [impl_ordered.j1]
      exact Ex.pos (by simp) (Ex.val (iff_no (no (fun h' => h h'.1)))))
    refine Ex.ite (fun h1 => Ex.ite (fun h2 => ?_) (fun h2 => bad _ _ _ _ (fun h => h2 (decide_eq_true h.2.1)))) (fun h1 => bad _ _ _ _ (fun h => h1 (decide_eq_true ⟨h.1.1, by have := h.1.2; omega⟩)))
    have g1 := of_decide_eq_true h1
    have g2 := of_decide_eq_true h2
    by_cases h3 : 1 ≤ (rd_T57 l (j : Int)).f3 ∧ (rd_T57 l (j : Int)).f3 ≤ cost (rd_T57 l (j : Int)).f0
    · rw [decide_eq_true h3]
      have ha : aO n cost (rd_T57 l (j : Int)) := ⟨⟨g1.1, by have := g1.2; omega⟩, g2, h3⟩
      refine Ex.step ?_
      simp only [impl_ordered.j1, Bool.not_true]
      by_cases h0 : j = 0
      · have hp : pO l j := fun h => by omega
        rw [hw]
        exact Ex.neg (by simp) (Ex.neg (by omega) (yes ha hp))
      · rw [jw2 (by omega) h0, hw]
        refine Ex.neg (by simp) (Ex.pos (by omega) (Ex.pos (by omega) (Ex.pos (by omega) (Ex.ite (fun h4 => Ex.val (iff_no (no (fun h' => ?_)))) (fun h4 => Ex.ite (fun h5 => Ex.ite (fun h6 => Ex.val (iff_no (no (fun h' => ?_)))) (fun h6 => yes ha ?_)) (fun h5 => yes ha ?_))))))
        · have := h'.2 (by omega); omega
        · have := h'.2 (by omega); omega
        · intro _; omega
        · intro _; omega
    · rw [decide_eq_false h3]
      exact bad _ _ _ _ (fun h => h3 h.2.2)
theorem ord_ex {M : Int → Option Int} {cost : Int → Int} (hM : ∀ t, M t = some (cost t)) (l : List Jb) (hl : l.length ≤ 9000000) (n z : Int) (hn0 : 0 ≤ n) (hn : n ≤ 1000) : Ex (fun k => impl_ordered.f M k l n z) (fun r => r = true ↔ (l.length ≤ 60 ∧ ∀ i : Nat, i < l.length → aO n cost (rd_T57 l (i : Int)) ∧ pO l i)) :=
  Ex.mono (ord_loop hM l hl n hn0 hn l.length 0 (by omega)) (fun r hr => hr.trans ⟨fun h => ⟨h.1, fun i hi => h.2 i (Nat.zero_le _) hi⟩, fun h => ⟨h.1, fun i _ hi => h.2 i hi⟩⟩)
theorem spB_iff {per : Int → Int} {l : List Jb} {n : Int} {cost : Int → Int} (ha : ∀ i : Nat, i < l.length → aO n cost (rd_T57 l (i : Int))) : spB per l = true ↔ ∀ j : Nat, j < l.length → sO per l j := by
  unfold spB
  rw [decide_eq_true_eq]
  have key : ∀ j : Nat, j < l.length → (spAt per l j = true ↔ sO per l j) := fun j hj => by
    unfold spAt sO
    rw [lastR_eq]
    cases e : lstR (rd_T57 l (j : Int)).f0 (l.take j) with
    | none => exact iff_yes (fun b h => by simp at h)
    | some b =>
      obtain ⟨x, hx, _, hb⟩ := lstR_mem e
      obtain ⟨i, hi, rfl⟩ := List.getElem_of_mem (List.mem_of_mem_take hx)
      have a1 := (ha i hi).2.1
      rw [rdJ_get l i hi, hb] at a1
      have a2 := (ha j hj).2.1
      simp only [Bool.not_eq_true', decide_eq_false_iff_not]
      rw [w64 (n := (rd_T57 l (j : Int)).f1 - b) (by omega) (by omega)]
      exact ⟨fun h c hc => by rw [← Option.some.inj hc]; omega, fun h => by have := h b rfl; omega⟩
  exact ⟨fun h j hj => (key j hj).mp (h j hj), fun h j hj => (key j hj).mpr (h j hj)⟩
theorem any_iff' {α : Type} {p : α → Bool} {l : List α} : (!(l.any p)) = true ↔ ∀ x ∈ l, p x = false := by
  rw [Bool.not_eq_true', List.any_eq_false]
  exact ⟨fun h x hx => by simpa using h x hx, fun h x hx => by simp [h x hx]⟩

end Go.Proofs.Ytpgheaoepaadlaa.Pu
