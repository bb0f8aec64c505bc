/- The statement FnCoreTasks of the given program holds for every input: for every code of at most 2^20 bytes (and for longer ones at once) the law returns true. No further condition. -/
import Derived.Test.YtnkpbbkfhmlcfaaOn
import Derived.Test.YtnkpbbkfhmlcfaaFlawsXFnCoreTasks
set_option linter.unusedSimpArgs false
set_option linter.unusedVariables false
namespace Go.Proofs.Ytnkpbbkfhmlcfaa.Pure
open Go.RowKit Go.Proofs.Ytnkpbbkfhmlcfaa.Q Go.Proofs.Ytnkpbbkfhmlcfaa.Pu Go.Proofs.YtnkpbbkfhmlcfaaW.PrintWords Go.Proofs.YtnkpbbkfhmlcfaaW.PrintLast

theorem sameTasks_loop (l : List Tk) (hl : l.length ≤ 1000) : ∀ (d j : Nat), j + d = l.length → Ex (fun k => laws_sameTasks.l0 k l l (j : Int)) (fun x => x = true) := by
  intro d
  induction d with
  | zero =>
    intro j hj
    refine Ex.step ?_
    simp only [laws_sameTasks.l0]
    exact Ex.neg (by omega) (Ex.val rfl)
  | succ d ih =>
    intro j hj
    refine Ex.step ?_
    simp only [laws_sameTasks.l0]
    rw [w64 (n := (j : Int) + 1) (by omega) (by omega)]
    exact Ex.pos (by omega) (Ex.pos (by omega) (Ex.pos (by omega) (Ex.neg (by simp) (ih (j + 1) (by omega)))))
theorem sameTasks_ex (l : List Tk) (hl : l.length ≤ 1000) : Ex (fun k => laws_sameTasks.f k l l) (fun x => x = true) := by
  unfold laws_sameTasks.f
  exact Ex.pos rfl (sameTasks_loop l hl l.length 0 (by omega))
theorem specCt_ex (l : List Tk) (hl : l.length ≤ 1000) {m : Int} (hm : -1000 ≤ m ∧ m ≤ 1000) (a : List Int) (ha : a.length ≤ 1000) (c : Int) : Ex (fun k => spec_CoreTasks.f k l m a c) (fun x => x = ctO l m a c) := by
  unfold spec_CoreTasks.f ctO
  refine Ex.bind (specAsg_ex l (by omega) hm a (by omega)) ?_
  rintro _ rfl
  rw [w64 (n := m - 1) (by omega) (by omega)]
  simp only [l1In_eq, Option.bind_some]
  refine Ex.ite (fun h => Ex.ite (fun h2 => ?_) (fun h2 => Ex.val ?_)) (fun h => Ex.val ?_)
  · have h3 := of_decide_eq_true h2
    rw [if_pos ⟨h, h3⟩]
    exact Ex.bind (specOn_ex l a c ((asgOk_iff _ _ _).mp h).2.2.1 hl) (fun x hx => Ex.val hx)
  · rw [if_neg (fun h' => h2 (decide_eq_true h'.2))]
  · rw [if_neg (fun h' => h h'.1)]
theorem onC_count (c : Int) : ∀ (l : List Tk) (a : List Int), a.length = l.length → (onC c l a).length = (a.filter (fun x => decide (x = c))).length
  | [], [], _ => rfl
  | t :: l, x :: a, h => by
    have ih := onC_count c l a (by simpa using h)
    simp only [onC, List.filter_cons]
    by_cases e : x = c
    · rw [if_pos e, if_pos (decide_eq_true e), List.length_cons, List.length_cons, ih]
    · rw [if_neg e, if_neg (by simpa using e), ih]
theorem below_step' (c : Int) : ∀ a : List Int, (a.filter (fun x => decide (x < c + 1))).length = (a.filter (fun x => decide (x < c))).length + (a.filter (fun x => decide (x = c))).length
  | [] => rfl
  | x :: a => by
    have ih := below_step' c a
    simp only [List.filter_cons]
    by_cases h1 : x < c
    · rw [if_pos (decide_eq_true (show x < c + 1 by omega)), if_pos (decide_eq_true h1), if_neg (by simp; omega), List.length_cons, List.length_cons, ih]; omega
    · by_cases h2 : x = c
      · rw [if_pos (decide_eq_true (show x < c + 1 by omega)), if_neg (by simpa using h1), if_pos (decide_eq_true h2), List.length_cons, List.length_cons, ih]; omega
      · rw [if_neg (by simp; omega), if_neg (by simpa using h1), if_neg (by simpa using h2), ih]
theorem core_loop (l : List Tk) (m : Int) (a : List Int) (hv : asgOk l m a = true) (c : Int) (s : Int) (T : Prop) (rest : Ex (fun k => laws_FnCoreTasks.l0 k l m a (wrap64 (s + ((onC c l a).length : Int))) (wrap64 (c + 1))) (fun x => x = true)) :
    ∀ (d j n : Nat), j + d = l.length → n ≤ (onC c l a).length → (onC c l a).drop n = onC c (l.drop j) (a.drop j) → Ex (fun k => laws_FnCoreTasks.l1 k l m a s c (onC c l a) (n : Int) (j : Int)) (fun x => x = true) := by
  obtain ⟨hok, hm, ha, hall⟩ := (asgOk_iff _ _ _).mp hv
  have hlen := hok.len
  have hon := onC_len (c := c) l a
  intro d
  induction d with
  | zero =>
    intro j n hj hn he
    rw [List.drop_of_length_le (by omega) (l := l), onC_nil] at he
    have : (onC c l a).length ≤ n := by
      have := congrArg List.length he
      rw [List.length_drop, List.length_nil] at this; omega
    have e : n = (onC c l a).length := by omega
    refine Ex.step ?_
    simp only [laws_FnCoreTasks.l1]
    refine Ex.neg (by omega) (Ex.pos (by omega) ?_)
    rw [e]; exact rest
  | succ d ih =>
    intro j n hj hn he
    rw [onC_drop c l a j (by omega) ha] at he
    refine Ex.step ?_
    simp only [laws_FnCoreTasks.l1]
    rw [w64 (n := (j : Int) + 1) (by omega) (by omega), w64 (n := (n : Int) + 1) (by omega) (by omega)]
    refine Ex.pos (by omega) (Ex.pos (by omega) (Ex.pos (by omega) (Ex.ite (fun h => ?_) (fun h => ?_))))
    · rw [if_pos h] at he
      have hlt : n < (onC c l a).length := by
        have := congrArg List.length he
        rw [List.length_drop, List.length_cons] at this; omega
      rw [List.drop_eq_getElem_cons hlt] at he
      injection he with e1 e2
      have e3 : rd_T42 (onC c l a) (n : Int) = rd_T42 l (j : Int) := by rw [show rd_T42 (onC c l a) (n : Int) = (onC c l a)[n] from rdT_get _ n hlt]; exact e1
      rw [e3]
      exact Ex.neg (by omega) (Ex.pos (by omega) (Ex.pos (by omega) (Ex.neg (by simp) (ih (j + 1) (n + 1) (by omega) (by omega) e2))))
    · rw [if_neg h] at he
      exact ih (j + 1) n (by omega) hn he
theorem all_loop (l : List Tk) (m : Int) (a : List Int) (hv : asgOk l m a = true) : ∀ (d c : Nat), (c : Int) + d = m → Ex (fun k => laws_FnCoreTasks.l0 k l m a ((a.filter (fun x => decide (x < (c : Int)))).length : Int) (c : Int)) (fun x => x = true) := by
  obtain ⟨hok, hm, ha, hall⟩ := (asgOk_iff _ _ _).mp hv
  have hlen := hok.len
  intro d
  induction d with
  | zero =>
    intro c hc
    refine Ex.step ?_
    simp only [laws_FnCoreTasks.l0]
    refine Ex.neg (by omega) (Ex.val ?_)
    have : a.filter (fun x => decide (x < (c : Int))) = a := List.filter_eq_self.2 (fun x hx => decide_eq_true (by have := hall x hx; omega))
    rw [this, beq_iff_eq]; omega
  | succ d ih =>
    intro c hc
    have hb := List.length_filter_le (fun x : Int => decide (x < (c : Int))) a
    refine Ex.step ?_
    simp only [laws_FnCoreTasks.l0]
    refine Ex.pos (by omega) (Ex.bind (implCt_ex l (by omega) (by omega) a (c : Int)) ?_)
    rintro _ rfl
    have e : ctO l m a (c : Int) = onC (c : Int) l a := by unfold ctO; rw [if_pos ⟨hv, by omega, by omega⟩]
    rw [e]
    refine core_loop l m a hv (c : Int) _ True ?_ l.length 0 0 (by omega) (by omega) (by rw [List.drop_zero, List.drop_zero, List.drop_zero])
    have h1 := below_step' (c : Int) a
    have h2 := onC_count (c : Int) l a ha
    have h3 := onC_len (c := (c : Int)) l a
    rw [w64 (by omega) (by omega), w64 (n := (c : Int) + 1) (by omega) (by omega), h2, show (((a.filter (fun x => decide (x < (c : Int)))).length : Int) + ((a.filter (fun x => decide (x = (c : Int)))).length : Int)) = ((a.filter (fun x => decide (x < ((c + 1 : Nat) : Int)))).length : Int) from by
      rw [show ((c + 1 : Nat) : Int) = (c : Int) + 1 from by omega, h1]; omega]
    exact ih (c + 1) (by omega)
theorem FnCoreTasks : laws_FnCoreTasks.Pure := by
  intro l0 _ _ h8
  refine Ex.get ?_
  unfold laws_FnCoreTasks.f spec_DrawCoreTasks.f
  refine Ex.ite (fun _ => Ex.val rfl) (fun _ => ?_)
  obtain ⟨b, hb, ho⟩ := open_ev l0 h8
  simp only [ho, Option.bind_some]
  refine Ex.bind (P := fun (x : List Tk × Int × List Int × Int) => Bd x.1 ∧ (-1 ≤ x.2.1 ∧ x.2.1 ≤ 6) ∧ x.2.2.1.length ≤ 13) (Ex.bind (set_ex hb (by omega) (by omega)) ?_) ?_
  · rintro ⟨l, q⟩ ⟨hl, h1, h2⟩
    have hlen := hl.len
    simp only [] at hl h1 h2 hlen ⊢
    refine Ex.bind (cores_ex hb (by omega) (by omega)) ?_
    rintro ⟨m, q2⟩ ⟨g1, g2, g3⟩
    simp only [] at g1 g2 g3 ⊢
    refine Ex.bind (assign_ex hb l.length (by omega) m 16 (by omega) (by omega)) ?_
    rintro ⟨a, q3⟩ ⟨c1, c2, c3⟩
    simp only [] at c1 c2 c3 ⊢
    refine Ex.bind (pick_ex hb (by omega) (by omega)) ?_
    rintro ⟨r, q4⟩ ⟨d1, d2, d3⟩
    exact Ex.val ⟨hl, g1, by simp only []; omega⟩
  · rintro ⟨l, m, a, c⟩ ⟨hl, hm, ha⟩
    have hlen := hl.len
    simp only [] at hl hm ha hlen ⊢
    refine Ex.bind (implCt_ex l (by omega) (by omega) a c) ?_
    rintro _ rfl
    refine Ex.bind (specCt_ex l (by omega) (by omega) a (by omega) c) ?_
    rintro _ rfl
    have hct : (ctO l m a c).length ≤ 1000 := by
      unfold ctO
      split
      · have := onC_len (c := c) l a; omega
      · simp
    refine Ex.bind (sameTasks_ex _ hct) ?_
    rintro _ rfl
    refine Ex.pos rfl (Ex.bind (specAsg_ex l (by omega) (by omega) a (by omega)) ?_)
    rintro _ rfl
    refine Ex.ite (fun h => ?_) (fun h => ?_)
    · have := (asgOk_iff _ _ _).mp h
      have h0 : (a.filter (fun x => decide (x < ((0 : Nat) : Int)))).length = 0 := by
        rw [List.length_eq_zero_iff, List.filter_eq_nil_iff]
        intro x hx
        have := this.2.2.2 x hx
        simp; omega
      have := all_loop l m a h m.toNat 0 (by omega)
      rw [h0] at this
      exact this
    · simp only [alive_eq, Option.bind_some]
      refine Ex.pos ?_ (Ex.val rfl)
      unfold ctO; rw [if_neg (fun h' => h h'.1)]; rfl

end Go.Proofs.Ytnkpbbkfhmlcfaa.Pure
