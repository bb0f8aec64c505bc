import Derived.Test.YtnkpbbkfhmlcfaaAsg
import Derived.Test.YtnkpbbkfhmlcfaaFimplXCoreTasks
import Derived.Test.YtnkpbbkfhmlcfaaFspecXl7On
set_option linter.unusedSimpArgs false
set_option linter.unusedVariables false
namespace Go.Proofs.Ytnkpbbkfhmlcfaa.Pu
open Go.RowKit Go.Proofs.Ytnkpbbkfhmlcfaa.Q Go.Proofs.YtnkpbbkfhmlcfaaW.PrintWords Go.Proofs.YtnkpbbkfhmlcfaaW.PrintLast

/-- The tasks that are assigned to processor c, in order. -/
def onC (c : Int) : List Tk → List Int → List Tk
  | t :: l, x :: a => if x = c then t :: onC c l a else onC c l a
  | _, _ => []
theorem onC_nil (c : Int) (a : List Int) : onC c [] a = [] := by cases a <;> rfl
theorem onC_append (c : Int) : ∀ (l1 : List Tk) (a1 : List Int) (l2 : List Tk) (a2 : List Int), a1.length = l1.length → onC c (l1 ++ l2) (a1 ++ a2) = onC c l1 a1 ++ onC c l2 a2
  | [], [], l2, a2, _ => rfl
  | t :: l1, x :: a1, l2, a2, h => by
    simp only [List.cons_append, onC]
    rw [onC_append c l1 a1 l2 a2 (by simpa using h)]
    split <;> rfl
theorem onC_mem {c : Int} {t : Tk} : ∀ (l : List Tk) (a : List Int), t ∈ onC c l a → t ∈ l
  | [], a, h => by rw [onC_nil] at h; cases h
  | t' :: l, [], h => by cases h
  | t' :: l, x :: a, h => by
    simp only [onC] at h
    split at h
    · rcases List.mem_cons.1 h with rfl | h
      · exact List.mem_cons_self
      · exact List.mem_cons_of_mem _ (onC_mem l a h)
    · exact List.mem_cons_of_mem _ (onC_mem l a h)
theorem onC_len {c : Int} : ∀ (l : List Tk) (a : List Int), (onC c l a).length ≤ l.length
  | [], a => by rw [onC_nil]; exact Nat.le_refl _
  | t' :: l, [] => Nat.zero_le _
  | t' :: l, x :: a => by
    have := onC_len (c := c) l a
    simp only [onC]
    split
    · simp only [List.length_cons]; omega
    · simp only [List.length_cons]; omega
theorem onC_ok {l : List Tk} (h : Ok l) (c : Int) (a : List Int) : Ok (onC c l a) := ⟨by have := onC_len (c := c) l a; have := h.len; omega, fun t ht => h.all t (onC_mem l a ht)⟩
theorem onC_drop (c : Int) (l : List Tk) (a : List Int) (j : Nat) (hj : j < l.length) (ha : a.length = l.length) :
    onC c (l.drop j) (a.drop j) = if rd a (j : Int) = c then rd_T42 l (j : Int) :: onC c (l.drop (j + 1)) (a.drop (j + 1)) else onC c (l.drop (j + 1)) (a.drop (j + 1)) := by
  rw [List.drop_eq_getElem_cons hj, List.drop_eq_getElem_cons (show j < a.length by omega), rd_get a j (by omega), show rd_T42 l (j : Int) = l[j] from rdT_get l j hj]
  rfl
theorem implOn_loop (l : List Tk) (a : List Int) (c : Int) (ha : a.length = l.length) (hl : l.length ≤ 1000) : ∀ (d j : Nat) (acc : List Tk), j + d = l.length → acc.length ≤ j → Ex (fun k => impl_onCore.l0 k l c acc a (a.length : Int) (j : Int)) (fun x => x = acc ++ onC c (l.drop j) (a.drop j)) := by
  intro d
  induction d with
  | zero =>
    intro j acc hj hacc
    refine Ex.step ?_
    simp only [impl_onCore.l0]
    refine Ex.neg (by omega) (Ex.val ?_)
    rw [List.drop_of_length_le (by omega), onC_nil, List.append_nil]
  | succ d ih =>
    intro j acc hj hacc
    refine Ex.step ?_
    simp only [impl_onCore.l0]
    rw [onC_drop c l a j (by omega) ha, w64 (n := (j : Int) + 1) (by omega) (by omega)]
    refine Ex.pos (by omega) (Ex.pos (by omega) (Ex.pos (by omega) (Ex.ite (fun h => ?_) (fun h => ?_))))
    · rw [if_pos h]
      refine Ex.pos (by omega) (Ex.pos (by omega) ?_)
      refine Ex.mono (ih (j + 1) (acc ++ [rd_T42 l (j : Int)]) (by omega) (by rw [List.length_append, List.length_singleton]; omega)) (fun x hx => ?_)
      rw [hx, List.append_assoc]; rfl
    · rw [if_neg h]
      exact ih (j + 1) acc (by omega) (by omega)
theorem implOn_ex (l : List Tk) (a : List Int) (c : Int) (ha : a.length = l.length) (hl : l.length ≤ 1000) : Ex (fun k => impl_onCore.f k l a c) (fun x => x = onC c l a) := by
  unfold impl_onCore.f
  exact implOn_loop l a c ha hl l.length 0 [] (by omega) (by simp)
theorem specOn_loop (l : List Tk) (a : List Int) (c : Int) (ha : a.length = l.length) (hl : l.length ≤ 1000) : ∀ (d j : Nat) (acc : List Tk), j + d = l.length → acc.length ≤ j → Ex (fun k => spec_l7On.l0 k l a c acc (j : Int)) (fun x => x = acc ++ onC c (l.drop j) (a.drop j)) := by
  intro d
  induction d with
  | zero =>
    intro j acc hj hacc
    refine Ex.step ?_
    simp only [spec_l7On.l0]
    refine Ex.neg (by omega) (Ex.val ?_)
    rw [List.drop_of_length_le (by omega), onC_nil, List.append_nil]
  | succ d ih =>
    intro j acc hj hacc
    refine Ex.step ?_
    simp only [spec_l7On.l0]
    rw [onC_drop c l a j (by omega) ha, w64 (n := (j : Int) + 1) (by omega) (by omega)]
    refine Ex.pos (by omega) (Ex.pos (by omega) (Ex.ite (fun h => ?_) (fun h => ?_)))
    · rw [if_pos h]
      refine Ex.pos (by omega) (Ex.pos (by omega) ?_)
      refine Ex.mono (ih (j + 1) (acc ++ [rd_T42 l (j : Int)]) (by omega) (by rw [List.length_append, List.length_singleton]; omega)) (fun x hx => ?_)
      rw [hx, List.append_assoc]; rfl
    · rw [if_neg h]
      exact ih (j + 1) acc (by omega) (by omega)
theorem specOn_ex (l : List Tk) (a : List Int) (c : Int) (ha : a.length = l.length) (hl : l.length ≤ 1000) : Ex (fun k => spec_l7On.f k l a c) (fun x => x = onC c l a) := by
  unfold spec_l7On.f
  exact specOn_loop l a c ha hl l.length 0 [] (by omega) (by simp)
def ctO (l : List Tk) (m : Int) (a : List Int) (c : Int) : List Tk := if asgOk l m a = true ∧ 0 ≤ c ∧ c ≤ m - 1 then onC c l a else []
theorem implCt_ex (l : List Tk) (hl : l.length ≤ 1000) {m : Int} (hm : -1000 ≤ m ∧ m ≤ 1000) (a : List Int) (c : Int) : Ex (fun k => impl_CoreTasks.f k l m a c) (fun x => x = ctO l m a c) := by
  unfold impl_CoreTasks.f ctO
  rw [w64 (n := m - 1) (by omega) (by omega)]
  simp only [implAsg_eq l hm, in_eq, Option.bind_some]
  refine Ex.ite (fun h => Ex.ite (fun h2 => ?_) (fun h2 => Ex.val ?_)) (fun h => Ex.val ?_)
  · have h3 := of_decide_eq_true h2
    rw [if_pos ⟨h, h3⟩]
    exact Ex.bind (implOn_ex l a c ((asgOk_iff _ _ _).mp h).2.2.1 hl) (fun x hx => Ex.val hx)
  · rw [if_neg (fun h' => h2 (decide_eq_true h'.2))]
  · rw [if_neg (fun h' => h h'.1)]

end Go.Proofs.Ytnkpbbkfhmlcfaa.Pu
