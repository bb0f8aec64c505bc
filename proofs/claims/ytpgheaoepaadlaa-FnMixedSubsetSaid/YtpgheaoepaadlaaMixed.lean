import Derived.Test.YtpgheaoepaadlaaPO
import Derived.Test.YtpgheaoepaadlaaFimplXMixedValid
import Derived.Test.YtpgheaoepaadlaaFspecXMixedValid
set_option linter.unusedSimpArgs false
set_option linter.unusedVariables false
namespace Go.Proofs.Ytpgheaoepaadlaa.Pu
open Go.RowKit Go.Proofs.Ytpgheaoepaadlaa.Q Go.Proofs.YtpgheaoepaadlaaW.PrintWords Go.Proofs.YtpgheaoepaadlaaW.PrintLast

abbrev Mx := S39
abbrev rdM (l : List Mx) (i : Int) : Mx := rd_T39 l i
def MxOk (x : Mx) : Prop := 1 ≤ x.f0 ∧ x.f0 ≤ 8 ∧ x.f0 ≤ x.f1 ∧ x.f1 ≤ x.f2 ∧ x.f2 ≤ 12 ∧ (x.f3 = true ∨ x.f1 = x.f0)
instance (x : Mx) : Decidable (MxOk x) := by unfold MxOk; infer_instance
def mok (x : Mx) : Bool := decide (MxOk x)
def mixOk (l : List Mx) : Bool := decide ((l.length : Int) ≤ 5) && l.all mok
theorem rdM_get (l : List Mx) (j : Nat) (h : j < l.length) : rd_T39 l (j : Int) = l[j] := by
  unfold rd_T39
  rw [Int.toNat_natCast, List.getD_eq_getElem?_getD, List.getElem?_eq_getElem h, Option.getD_some]
theorem mok_yes {x : Mx} (h : MxOk x) : mok x = true := decide_eq_true h
theorem mok_no {x : Mx} (h : ¬ MxOk x) : mok x = false := decide_eq_false h
theorem bad_mok (x : Mx) : bad_impl_MixedValid x = !(mok x) := by
  unfold bad_impl_MixedValid impl_MixedValid_1.f
  rw [in_eq]
  simp only [Option.bind_some]
  have hm := mn_bd x.f1 8
  by_cases h : 1 ≤ x.f0 ∧ x.f0 ≤ mn x.f1 8
  · rw [decide_eq_true h, if_pos rfl]
    by_cases h2 : x.f1 > x.f2
    · rw [if_pos h2, mok_no (fun h' => by unfold MxOk at h'; omega)]; rfl
    · rw [if_neg h2]
      by_cases h3 : x.f2 > 12
      · rw [if_pos h3, mok_no (fun h' => by unfold MxOk at h'; omega)]; rfl
      · rw [if_neg h3]
        by_cases h4 : x.f3 = true
        · rw [if_pos h4, mok_yes (by unfold MxOk; exact ⟨by omega, by omega, by omega, by omega, by omega, .inl h4⟩)]; rfl
        · rw [if_neg h4]
          by_cases h5 : x.f1 = x.f0
          · rw [mok_yes (by unfold MxOk; exact ⟨by omega, by omega, by omega, by omega, by omega, .inr h5⟩), h5]; simp
          · rw [mok_no (fun h' => by unfold MxOk at h'; rcases h'.2.2.2.2.2 with h6 | h6; exact h4 h6; exact h5 h6)]; simp [h5]
  · rw [decide_eq_false h, if_neg (by simp), mok_no (fun h' => h (by unfold MxOk at h'; omega))]; rfl
theorem any_not' {α : Type} {p q : α → Bool} (h : ∀ x, p x = !(q x)) : ∀ l : List α, (!(l.any p)) = l.all q
  | [] => rfl
  | x :: l => by rw [List.any_cons, List.all_cons, Bool.not_or, any_not' h l, h, Bool.not_not]
theorem implMix_eq (l : List Mx) : impl_MixedValid.f l = some (mixOk l) := by
  unfold impl_MixedValid.f mixOk
  rw [any_not' bad_mok]
theorem all_drop' {α : Type} (p : α → Bool) (l : List α) (j : Nat) (h : j < l.length) : (l.drop j).all p = (p l[j] && (l.drop (j + 1)).all p) := by
  rw [List.drop_eq_getElem_cons h, List.all_cons]
theorem specMix_loop (l : List Mx) (hl : l.length ≤ 1000000000) : ∀ (d j : Nat), j + d = l.length → Ex (fun k => spec_MixedValid.l0 k l (j : Int)) (fun x => x = ((l.drop j).all mok && decide ((l.length : Int) ≤ 5))) := by
  intro d
  induction d with
  | zero =>
    intro j hj
    refine Ex.step ?_
    simp only [spec_MixedValid.l0]
    refine Ex.neg (by omega) (Ex.val ?_)
    rw [List.drop_of_length_le (by omega)]; rfl
  | succ d ih =>
    intro j hj
    refine Ex.step ?_
    simp only [spec_MixedValid.l0, l1In_eq, Option.bind_some]
    have ej : l[j]'(by omega) = rd_T39 l (j : Int) := (rdM_get l j (by omega)).symm
    refine Ex.pos (by omega) (Ex.pos (by omega) ?_)
    rw [all_drop' mok l j (by omega), ej, w64 (by omega) (by omega)]
    have no : ¬ MxOk (rd_T39 l (j : Int)) → Ex (fun _ => some false) (fun x => x = (mok (rd_T39 l (j : Int)) && (l.drop (j + 1)).all mok && decide ((l.length : Int) ≤ 5))) := fun h => Ex.val (by rw [mok_no h]; rfl)
    have yes : MxOk (rd_T39 l (j : Int)) → Ex (fun k => spec_MixedValid.l0 k l ((j + 1 : Nat) : Int)) (fun x => x = (mok (rd_T39 l (j : Int)) && (l.drop (j + 1)).all mok && decide ((l.length : Int) ≤ 5))) := fun h => by rw [mok_yes h, Bool.true_and]; exact ih (j + 1) (by omega)
    refine Ex.ite (fun h1 => Ex.ite (fun h2 => Ex.ite (fun h3 => Ex.ite (fun h4 => ?_) (fun h4 => Ex.ite (fun h5 => ?_) (fun h5 => ?_))) (fun h3 => ?_)) (fun h2 => ?_)) (fun h1 => ?_)
    · have a1 := of_decide_eq_true h1; have a2 := of_decide_eq_true h2; have a3 := of_decide_eq_true h3
      exact yes ⟨by omega, by omega, by omega, by omega, by omega, .inl h4⟩
    · have a1 := of_decide_eq_true h1; have a2 := of_decide_eq_true h2; have a3 := of_decide_eq_true h3
      exact yes ⟨by omega, by omega, by omega, by omega, by omega, .inr h5⟩
    · exact no (fun h => by rcases h.2.2.2.2.2 with h6 | h6; exact h4 h6; exact h5 h6)
    · exact no (fun h => h3 (decide_eq_true (by unfold MxOk at h; omega)))
    · exact no (fun h => h2 (decide_eq_true (by unfold MxOk at h; omega)))
    · exact no (fun h => h1 (decide_eq_true (by unfold MxOk at h; omega)))
theorem specMix_ex (l : List Mx) (hl : l.length ≤ 1000000000) : Ex (fun k => spec_MixedValid.f k l) (fun x => x = mixOk l) := by
  refine Ex.mono (specMix_loop l hl l.length 0 (by omega)) (fun r hr => ?_)
  rw [hr, mixOk, List.drop_zero, Bool.and_comm]
theorem mixOk_iff (l : List Mx) : mixOk l = true ↔ l.length ≤ 5 ∧ ∀ x ∈ l, MxOk x := by
  unfold mixOk mok
  rw [Bool.and_eq_true, List.all_eq_true, decide_eq_true_iff]
  simp only [decide_eq_true_iff]
  exact ⟨fun ⟨a, b⟩ => ⟨by omega, b⟩, fun ⟨a, b⟩ => ⟨by omega, b⟩⟩

end Go.Proofs.Ytpgheaoepaadlaa.Pu
