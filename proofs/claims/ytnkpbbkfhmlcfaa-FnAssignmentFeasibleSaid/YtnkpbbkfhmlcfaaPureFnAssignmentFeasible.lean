/- The statement FnAssignmentFeasible of the given program holds for every input: for every code of at most 2^20 bytes (and for longer ones at once) the law returns true. No further condition. -/
import Derived.Test.YtnkpbbkfhmlcfaaOn
import Derived.Test.YtnkpbbkfhmlcfaaPB
import Derived.Test.YtnkpbbkfhmlcfaaImplFeas
import Derived.Test.YtnkpbbkfhmlcfaaImplEdf
import Derived.Test.YtnkpbbkfhmlcfaaSpecEdf2
import Derived.Test.YtnkpbbkfhmlcfaaFlawsXFnAssignmentFeasible
set_option linter.unusedSimpArgs false
set_option linter.unusedVariables false
namespace Go.Proofs.Ytnkpbbkfhmlcfaa.Pure
open Go.RowKit Go.Proofs.Ytnkpbbkfhmlcfaa.Q Go.Proofs.Ytnkpbbkfhmlcfaa.Pu Go.Proofs.YtnkpbbkfhmlcfaaW.PrintWords Go.Proofs.YtnkpbbkfhmlcfaaW.PrintLast

theorem implFeas_exA (l : List Tk) (h : setOk l = true) : Ex (fun k => impl_feasible.f k l) (fun x => x = edf l) := by
  refine Ex.at_ 300000 (fun k hk => implFeas_eq l h k hk) ?_
  unfold edf; rw [h, Bool.true_and]
theorem implEdf_exA (l : List Tk) : Ex (fun k => impl_EdfFeasible.f k l) (fun x => x = edf l) := Ex.at_ 300000 (fun k hk => implEdf_eq l k hk) rfl
theorem specEdf2_exA (l : List Tk) (h : setOk l = true) : Ex (fun k => spec_l2Edf.f k l) (fun x => x = edf l) := by
  refine Ex.at_ 300000 (fun k hk => specEdf2_eq l h k hk) ?_
  unfold edf; rw [h, Bool.true_and]
/-- P holds of the n numbers from c on. -/
def gF (P : Int → Bool) : Nat → Int → Bool
  | 0, _ => true
  | n + 1, c => P c && gF P n (c + 1)
theorem gF_iff (P : Int → Bool) : ∀ (n : Nat) (c : Int), gF P n c = true ↔ ∀ s, c ≤ s → s < c + n → P s = true
  | 0, c => ⟨fun _ s h1 h2 => by omega, fun _ => rfl⟩
  | n + 1, c => by
    simp only [gF, Bool.and_eq_true]
    rw [gF_iff P n (c + 1)]
    constructor
    · rintro ⟨h0, h⟩ s h1 h2
      by_cases e : s = c
      · rw [e]; exact h0
      · exact h s (by omega) (by omega)
    · exact fun h => ⟨h c (by omega) (by omega), fun s h1 h2 => h s (by omega) (by omega)⟩
def afO (l : List Tk) (m : Int) (a : List Int) : Bool := asgOk l m a && gF (fun c => edf (onC c l a)) m.toNat 0
theorem implAf_loop (l : List Tk) (hok : Ok l) (a : List Int) (ha : a.length = l.length) (m : Int) (hm : m ≤ 1000) : ∀ (n : Nat) (c : Int), c + n = m → 0 ≤ c → Ex (fun k => impl_AssignmentFeasible.l0 k l a m c) (fun x => x = gF (fun c => edf (onC c l a)) n c) := by
  have hlen := hok.len
  intro n
  induction n with
  | zero =>
    intro c hc h0
    refine Ex.step ?_
    simp only [impl_AssignmentFeasible.l0]
    exact Ex.neg (by omega) (Ex.val rfl)
  | succ n ih =>
    intro c hc h0
    refine Ex.step ?_
    simp only [impl_AssignmentFeasible.l0]
    refine Ex.pos (by omega) (Ex.bind (implOn_ex l a c ha (by omega)) ?_)
    rintro _ rfl
    refine Ex.bind (implFeas_exA _ ((setOk_iff _).mpr (onC_ok hok c a))) ?_
    rintro _ rfl
    simp only [gF]
    refine Ex.ite (fun h => ?_) (fun h => Ex.val ?_)
    · rw [h, Bool.true_and, w64 (by omega) (by omega)]
      exact ih (c + 1) (by omega) (by omega)
    · rw [show edf (onC c l a) = false from by simpa using h]; rfl
theorem implAf_ex (l : List Tk) (hl : l.length ≤ 1000) {m : Int} (hm : -1000 ≤ m ∧ m ≤ 1000) (a : List Int) : Ex (fun k => impl_AssignmentFeasible.f k l m a) (fun x => x = afO l m a) := by
  unfold impl_AssignmentFeasible.f afO
  simp only [implAsg_eq l hm, Option.bind_some]
  refine Ex.ite (fun h => ?_) (fun h => Ex.val ?_)
  · rw [h, Bool.true_and]
    obtain ⟨hok, h1, ha, _⟩ := (asgOk_iff _ _ _).mp h
    exact implAf_loop l hok a ha m (by omega) m.toNat 0 (by omega) (by omega)
  · rw [show asgOk l m a = false from by simpa using h]; rfl
theorem specAf_loop (l : List Tk) (hok : Ok l) (a : List Int) (ha : a.length = l.length) (m : Int) (hm : m ≤ 1000) : ∀ (n : Nat) (c : Int), c + n = m → 0 ≤ c → Ex (fun k => spec_AssignmentFeasible.l0 k l m a c) (fun x => x = gF (fun c => edf (onC c l a)) n c) := by
  have hlen := hok.len
  intro n
  induction n with
  | zero =>
    intro c hc h0
    refine Ex.step ?_
    simp only [spec_AssignmentFeasible.l0]
    exact Ex.neg (by omega) (Ex.val rfl)
  | succ n ih =>
    intro c hc h0
    refine Ex.step ?_
    simp only [spec_AssignmentFeasible.l0]
    refine Ex.pos (by omega) (Ex.bind (specOn_ex l a c ha (by omega)) ?_)
    rintro _ rfl
    refine Ex.bind (specEdf2_exA _ ((setOk_iff _).mpr (onC_ok hok c a))) ?_
    rintro _ rfl
    simp only [gF]
    refine Ex.ite (fun h => ?_) (fun h => Ex.val ?_)
    · rw [h, Bool.true_and, w64 (by omega) (by omega)]
      exact ih (c + 1) (by omega) (by omega)
    · rw [show edf (onC c l a) = false from by simpa using h]; rfl
theorem specAf_ex (l : List Tk) (hl : l.length ≤ 1000) {m : Int} (hm : -1000 ≤ m ∧ m ≤ 1000) (a : List Int) (ha' : a.length ≤ 1000) : Ex (fun k => spec_AssignmentFeasible.f k l m a) (fun x => x = afO l m a) := by
  unfold spec_AssignmentFeasible.f afO
  refine Ex.bind (specAsg_ex l (by omega) hm a (by omega)) ?_
  rintro _ rfl
  refine Ex.ite (fun h => ?_) (fun h => Ex.val ?_)
  · rw [h, Bool.true_and]
    obtain ⟨hok, h1, ha, _⟩ := (asgOk_iff _ _ _).mp h
    exact specAf_loop l hok a ha m (by omega) m.toNat 0 (by omega) (by omega)
  · rw [show asgOk l m a = false from by simpa using h]; rfl
theorem edf_one {t : Tk} (h : TkOk t) : edf [t] = true := by
  rw [edf_iff]
  refine ⟨⟨by simp, fun x hx => by rw [List.mem_singleton.1 hx]; exact h⟩, fun s h1 h2 => ?_⟩
  have e : dem [t] s = dterm s t := by unfold dem; simp only [sumT]; omega
  rw [e]
  unfold TkOk at h
  unfold dterm
  split
  · have hd := Int.mul_ediv_add_emod (s - t.f1) t.f2
    have hr := Int.emod_nonneg (s - t.f1) (show t.f2 ≠ 0 by omega)
    have q0 : 0 ≤ (s - t.f1) / t.f2 := Int.ediv_nonneg (by omega) (by omega)
    generalize (s - t.f1) / t.f2 = q at *
    have m1 : (q + 1) * t.f0 ≤ (q + 1) * t.f1 := Int.mul_le_mul_of_nonneg_left (by omega) (by omega)
    have m2 : q * t.f1 ≤ q * t.f2 := Int.mul_le_mul_of_nonneg_left (by omega) q0
    have m3 : (q + 1) * t.f1 = q * t.f1 + t.f1 := by rw [Int.add_mul]; omega
    rw [Int.mul_comm] at hd
    omega
  · omega
theorem split_at' {α : Type} (l : List α) (i : Nat) (h : i < l.length) : l = l.take i ++ l[i] :: l.drop (i + 1) := by rw [← List.drop_eq_getElem_cons h, List.take_append_drop]
theorem wo_mid (A B : List Tk) (t : Tk) : wo (A ++ t :: B) A.length = A ++ B := by
  unfold wo
  rw [List.take_left, show A.length + 1 = (A ++ [t]).length from by simp, show A ++ t :: B = (A ++ [t]) ++ B from by simp, List.drop_left]
theorem onC_none {c : Int} : ∀ (l : List Tk) (a : List Int), (∀ x ∈ a, x ≠ c) → onC c l a = []
  | [], a, _ => onC_nil c a
  | t :: l, [], _ => rfl
  | t :: l, x :: a, h => by
    simp only [onC]
    rw [if_neg (h x List.mem_cons_self)]
    exact onC_none l a (fun y hy => h y (List.mem_cons_of_mem _ hy))
theorem moved_af (l : List Tk) (m : Int) (a : List Int) (h : afO l m a = true) (hm : m < 5) (i : Nat) (hi : i < l.length) : afO l (m + 1) (a.set i m) = true := by
  unfold afO at h ⊢
  rw [Bool.and_eq_true, gF_iff] at h
  obtain ⟨hv, hf⟩ := h
  obtain ⟨hok, h1, ha, hall⟩ := (asgOk_iff _ _ _).mp hv
  have hia : i < a.length := by omega
  rw [Bool.and_eq_true, gF_iff]
  refine ⟨(asgOk_iff _ _ _).mpr ⟨hok, by omega, by rw [List.length_set]; exact ha, fun x hx => ?_⟩, fun c c0 c1 => ?_⟩
  · rcases List.mem_or_eq_of_mem_set hx with hx | rfl
    · have := hall x hx; omega
    · omega
  · have ea := split_at' a i hia
    have el := split_at' l i hi
    have es : a.set i m = a.take i ++ m :: a.drop (i + 1) := by
      rw [List.set_eq_take_append_cons_drop, if_pos hia]
    have lt : (a.take i).length = (l.take i).length := by rw [List.length_take, List.length_take, ha]
    have e1 : onC c l (a.set i m) = onC c (l.take i) (a.take i) ++ onC c (l[i] :: l.drop (i + 1)) (m :: a.drop (i + 1)) := by
      rw [es]
      conv => lhs; arg 2; rw [el]
      exact onC_append c _ _ _ _ lt
    have e2 : onC c l a = onC c (l.take i) (a.take i) ++ onC c (l[i] :: l.drop (i + 1)) (a[i] :: a.drop (i + 1)) := by
      conv => lhs; rw [el, ea]
      exact onC_append c _ _ _ _ lt
    (try simp only [] at hf ⊢)
    rw [e1]
    simp only [onC] at e2 ⊢
    by_cases hc : m = c
    · rw [if_pos hc, onC_none (l.take i) (a.take i) (fun x hx => by have := hall x (List.mem_of_mem_take hx); omega), onC_none (l.drop (i + 1)) (a.drop (i + 1)) (fun x hx => by have := hall x (List.mem_of_mem_drop hx); omega)]
      exact edf_one (hok.all _ (List.getElem_mem _))
    · rw [if_neg hc]
      have hfc := hf c c0 (by omega)
      by_cases hx : a[i] = c
      · rw [if_pos hx] at e2
        have : onC c (l.take i) (a.take i) ++ onC c (l.drop (i + 1)) (a.drop (i + 1)) = wo (onC c l a) (onC c (l.take i) (a.take i)).length := by
          rw [e2, wo_mid]
        rw [this]
        exact edf_wo hfc (by rw [e2, List.length_append, List.length_cons]; omega)
      · rw [if_neg hx] at e2
        rw [← e2]; exact hfc
theorem af_j1 (x0 : List Int) (hx0 : x0.length ≤ 1048576) (l : List Tk) (m : Int) (a : List Int) (hv : asgOk l m a = true) (f : Bool) (hf : f = true → afO l m a = true ∧ m < 5 ∧ 0 < l.length) : Ex (fun k => laws_FnAssignmentFeasible.j1 k x0 l m a (afO l m a) (afO l m a) f) (fun x => x = true) := by
  obtain ⟨hok, h1, ha, hall⟩ := (asgOk_iff _ _ _).mp hv
  have hlen := hok.len
  refine Ex.step ?_
  simp only [laws_FnAssignmentFeasible.j1, Option.bind_some, List.nil_append, List.length_nil]
  refine Ex.ite (fun h => ?_) (fun _ => Ex.val (by simp))
  obtain ⟨h2, h3, h4⟩ := hf h
  have hm0 := Int.emod_nonneg (x0.length : Int) (show (l.length : Int) ≠ 0 by omega)
  have hm1 := Int.emod_lt_of_pos (x0.length : Int) (show 0 < (l.length : Int) by omega)
  refine Ex.pos (by omega) (Ex.neg (by omega) (Ex.pos hm0 (Ex.pos (by omega) ?_)))
  rw [w64 (by omega) (by omega)]
  refine Ex.bind (implAf_ex l (by omega) (by omega) _) ?_
  rintro _ rfl
  exact Ex.pos (moved_af l m a h2 h3 _ (by omega)) (Ex.val (by simp))
theorem af_loop (x0 : List Int) (hx0 : x0.length ≤ 1048576) (l : List Tk) (m : Int) (a : List Int) (hv : asgOk l m a = true) : ∀ (n : Nat) (c : Int) (acc : Bool), c + n = m → 0 ≤ c → (acc && gF (fun c => edf (onC c l a)) n c) = afO l m a → Ex (fun k => laws_FnAssignmentFeasible.l0 k x0 l m a (afO l m a) acc c) (fun x => x = true) := by
  obtain ⟨hok, h1, ha, hall⟩ := (asgOk_iff _ _ _).mp hv
  have hlen := hok.len
  intro n
  induction n with
  | zero =>
    intro c acc hc h0 he
    simp only [gF, Bool.and_true] at he
    subst he
    refine Ex.step ?_
    simp only [laws_FnAssignmentFeasible.l0]
    refine Ex.neg (by omega) (Ex.ite (fun h2 => Ex.ite (fun h3 => ?_) (fun _ => ?_)) (fun _ => ?_))
    · exact af_j1 x0 hx0 l m a hv _ (fun h => ⟨h2, h3, by have := of_decide_eq_true h; omega⟩)
    · exact af_j1 x0 hx0 l m a hv _ (fun h => by cases h)
    · exact af_j1 x0 hx0 l m a hv _ (fun h => by cases h)
  | succ n ih =>
    intro c acc hc h0 he
    refine Ex.step ?_
    simp only [laws_FnAssignmentFeasible.l0]
    rw [w64 (n := c + 1) (by omega) (by omega)]
    refine Ex.pos (by omega) (Ex.ite (fun h => ?_) (fun h => ?_))
    · refine Ex.bind (implCt_ex l (by omega) (by omega) a c) ?_
      rintro _ rfl
      refine Ex.bind (implEdf_exA _) ?_
      rintro _ rfl
      have e : ctO l m a c = onC c l a := by unfold ctO; rw [if_pos ⟨hv, by omega, by omega⟩]
      rw [e]
      refine ih (c + 1) _ (by omega) (by omega) ?_
      rw [← he, h]; simp only [gF, Bool.true_and]
    · refine ih (c + 1) false (by omega) (by omega) ?_
      rw [← he, show acc = false from by simpa using h]; rfl
theorem FnAssignmentFeasible : laws_FnAssignmentFeasible.Pure := by
  intro l0 _ _ h8
  refine Ex.get ?_
  unfold laws_FnAssignmentFeasible.f spec_DrawAssignmentFeasible.f
  refine Ex.ite (fun _ => Ex.val rfl) (fun hlong => ?_)
  obtain ⟨b, hb, ho⟩ := open_ev l0 h8
  simp only [ho, Option.bind_some]
  refine Ex.bind (P := fun (x : List Tk × Int × List Int) => Bd x.1 ∧ (-1 ≤ x.2.1 ∧ x.2.1 ≤ 6) ∧ x.2.2.length ≤ 13) (Ex.bind (set_ex hb (by omega) (by omega)) ?_) ?_
  · rintro ⟨l, q⟩ ⟨hl, h1, h2⟩
    have hlen := hl.len
    simp only [] at hl h1 h2 hlen ⊢
    refine Ex.bind (cores_ex hb (by omega) (by omega)) ?_
    rintro ⟨m, q2⟩ ⟨g1, g2, g3⟩
    simp only [] at g1 g2 g3 ⊢
    refine Ex.bind (assign_ex hb l.length (by omega) m 12 (by omega) (by omega)) ?_
    rintro ⟨a, q3⟩ ⟨c1, c2, c3⟩
    exact Ex.val ⟨hl, g1, by simp only [] at c1 ⊢; omega⟩
  · rintro ⟨l, m, a⟩ ⟨hl, hm, ha⟩
    have hlen := hl.len
    simp only [] at hl hm ha hlen ⊢
    refine Ex.bind (implAf_ex l (by omega) (by omega) a) ?_
    rintro _ rfl
    refine Ex.bind (specAf_ex l (by omega) (by omega) a (by omega)) ?_
    rintro _ rfl
    refine Ex.neg (by simp) (Ex.bind (specAsg_ex l (by omega) (by omega) a (by omega)) ?_)
    rintro _ rfl
    refine Ex.ite (fun h => ?_) (fun h => ?_)
    · exact af_loop l0 (by omega) l m a h m.toNat 0 true (by have := (asgOk_iff _ _ _).mp h; omega) (by omega) (by unfold afO; rw [h])
    · have : afO l m a = false := by unfold afO; rw [show asgOk l m a = false from by simpa using h]; rfl
      rw [this]
      simp only [alive_eq, Option.bind_some]
      exact Ex.neg (by simp) (Ex.val rfl)

end Go.Proofs.Ytnkpbbkfhmlcfaa.Pure
