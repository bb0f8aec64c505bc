import Derived.Test.YtnkpbbkfhmlcfaaPO
import Derived.Test.YtnkpbbkfhmlcfaaPA
import Derived.Test.YtnkpbbkfhmlcfaaFimplXAssignmentValid
import Derived.Test.YtnkpbbkfhmlcfaaFspecXAssignmentValid
import Derived.Test.YtnkpbbkfhmlcfaaFspecXl20Assign
import Derived.Test.YtnkpbbkfhmlcfaaFspecXl20Cores
set_option linter.unusedSimpArgs false
set_option linter.unusedVariables false
namespace Go.Proofs.Ytnkpbbkfhmlcfaa.Pu
open Go.RowKit Go.Proofs.Ytnkpbbkfhmlcfaa.Q Go.Proofs.YtnkpbbkfhmlcfaaW.PrintWords Go.Proofs.YtnkpbbkfhmlcfaaW.PrintLast

theorem specSet_exA (l : List Tk) (hl : l.length ≤ 1000000) : Ex (fun k => spec_SetValid.f k l) (fun x => x = setOk l) := Ex.at_ (l.length + 1) (fun k hk => specSet_eq l hl k (by omega)) rfl
theorem rd_get (l : List Int) (j : Nat) (h : j < l.length) : rd l (j : Int) = l[j] := by
  unfold rd
  rw [Int.toNat_natCast, List.getD_eq_getElem?_getD, List.getElem?_eq_getElem h, Option.getD_some]
def coreOk (m c : Int) : Bool := decide (0 ≤ c ∧ c ≤ m - 1)
def asgOk (l : List Tk) (m : Int) (a : List Int) : Bool := setOk l && (decide (1 ≤ m ∧ m ≤ 5) && (decide (a.length = l.length) && a.all (coreOk m)))
theorem badCore_eq {m : Int} (hm : -1000 ≤ m ∧ m ≤ 1000) (c : Int) : badCore m c = !(coreOk m c) := by
  unfold badCore coreOk
  rw [w64 (by omega) (by omega), in_eq]
  by_cases h : 0 ≤ c ∧ c ≤ m - 1
  · rw [decide_eq_true h]; rfl
  · rw [decide_eq_false h]; rfl
theorem any_notA {α : Type} {p q : α → Bool} (h : ∀ x, p x = !(q x)) : ∀ l : List α, (!(l.any p)) = l.all q
  | [] => rfl
  | x :: l => by rw [List.any_cons, List.all_cons, Bool.not_or, any_notA h l, h, Bool.not_not]
theorem isCores_eq (m : Int) : impl_isCores.f m = some (decide (1 ≤ m ∧ m ≤ 5)) := by
  unfold impl_isCores.f; rw [in_eq]; rfl
theorem implAsg_eq (l : List Tk) {m : Int} (hm : -1000 ≤ m ∧ m ≤ 1000) (a : List Int) : impl_AssignmentValid.f l m a = some (asgOk l m a) := by
  unfold impl_AssignmentValid.f asgOk
  rw [implSet_eq, isCores_eq, any_notA (badCore_eq hm)]
  simp only [Option.bind_some]
  cases setOk l with
  | false => rfl
  | true =>
    by_cases h : 1 ≤ m ∧ m ≤ 5
    · rw [decide_eq_true h]
      by_cases h2 : a.length = l.length
      · rw [decide_eq_true h2, if_pos rfl, if_pos rfl, if_pos h2]; rfl
      · rw [decide_eq_false h2, if_pos rfl, if_pos rfl, if_neg h2]; rfl
    · rw [decide_eq_false h]; rfl
theorem all_dropA {α : Type} (p : α → Bool) (l : List α) (j : Nat) (h : j < l.length) : (l.drop j).all p = (p l[j] && (l.drop (j + 1)).all p) := by
  rw [List.drop_eq_getElem_cons h, List.all_cons]
theorem specAsg_loop {m : Int} (hm : -1000 ≤ m ∧ m ≤ 1000) (a : List Int) (ha : a.length ≤ 1000000) : ∀ (d j : Nat), j + d = a.length → Ex (fun k => spec_AssignmentValid.l0 k m a (j : Int)) (fun x => x = (a.drop j).all (coreOk m)) := by
  intro d
  induction d with
  | zero =>
    intro j hj
    refine Ex.step ?_
    simp only [spec_AssignmentValid.l0]
    refine Ex.neg (by omega) (Ex.val ?_)
    rw [List.drop_of_length_le (by omega)]; rfl
  | succ d ih =>
    intro j hj
    refine Ex.step ?_
    simp only [spec_AssignmentValid.l0]
    rw [w64 (n := m - 1) (by omega) (by omega), w64 (n := (j : Int) + 1) (by omega) (by omega), l1In_eq]
    simp only [Option.bind_some]
    refine Ex.pos (by omega) (Ex.pos (by omega) ?_)
    rw [all_dropA _ a j (by omega), ← rd_get a j (by omega)]
    refine Ex.ite (fun h => ?_) (fun h => Ex.val ?_)
    · rw [show coreOk m (rd a (j : Int)) = true from h, Bool.true_and]; exact ih (j + 1) (by omega)
    · rw [show coreOk m (rd a (j : Int)) = false from by unfold coreOk; simpa using h]; rfl
theorem specAsg_ex (l : List Tk) (hl : l.length ≤ 1000000) {m : Int} (hm : -1000 ≤ m ∧ m ≤ 1000) (a : List Int) (ha : a.length ≤ 1000000) : Ex (fun k => spec_AssignmentValid.f k l m a) (fun x => x = asgOk l m a) := by
  unfold spec_AssignmentValid.f
  have no : asgOk l m a = false → Ex (fun k => spec_AssignmentValid.j0 k m a true) (fun x => x = asgOk l m a) := fun e => by
    refine Ex.step ?_
    simp only [spec_AssignmentValid.j0]
    exact Ex.pos trivial (Ex.val e.symm)
  refine Ex.bind (specSet_exA l hl) ?_
  rintro _ rfl
  simp only [l1In_eq, Option.bind_some]
  refine Ex.ite (fun h => ?_) (fun h => no ?_)
  · refine Ex.ite (fun h2 => ?_) (fun h2 => no ?_)
    · by_cases h3 : a.length = l.length
      · rw [show ((a.length : Int) != (l.length : Int)) = false from by rw [bne_eq_false_iff_eq]; omega]
        refine Ex.step ?_
        simp only [spec_AssignmentValid.j0]
        refine Ex.neg (by simp) ?_
        refine Ex.mono (specAsg_loop hm a ha a.length 0 (by omega)) (fun r hr => ?_)
        rw [hr, List.drop_zero, asgOk, h, h2, decide_eq_true h3]; rfl
      · rw [show ((a.length : Int) != (l.length : Int)) = true from by rw [bne_iff_ne]; omega]
        refine no ?_
        rw [asgOk, decide_eq_false h3]; simp
    · rw [asgOk, show decide (1 ≤ m ∧ m ≤ 5) = false from by simpa using h2]; simp
  · rw [asgOk, show setOk l = false from by simpa using h]; rfl
theorem asgOk_iff (l : List Tk) (m : Int) (a : List Int) : asgOk l m a = true ↔ Ok l ∧ (1 ≤ m ∧ m ≤ 5) ∧ a.length = l.length ∧ ∀ x ∈ a, 0 ≤ x ∧ x ≤ m - 1 := by
  unfold asgOk coreOk
  simp only [Bool.and_eq_true, setOk_iff, decide_eq_true_iff, List.all_eq_true]

/-! draws -/
theorem cores_ex {b : List Int} (hb : Bytes b) {p n : Int} (hp0 : 0 ≤ p) (hp : p ≤ 900000) : Ex (fun k => spec_l20Cores.f k b p n) (fun x => (-1 ≤ x.1 ∧ x.1 ≤ 6) ∧ p ≤ x.2 ∧ x.2 ≤ p + 2) := by
  unfold spec_l20Cores.f
  refine Ex.bind (odd_ex hb hp0 (by omega)) ?_
  rintro ⟨o, q⟩ ⟨h1, h2, h3⟩
  simp only [Option.bind_some] at h1 h2 h3 ⊢
  refine Ex.ite (fun _ => ?_) (fun _ => ?_)
  · refine Ex.bind (pick_ex hb (by omega) (by omega)) ?_
    rintro ⟨r, q2⟩ ⟨g1, g2, g3⟩
    simp only [] at g1 g2 g3 ⊢
    have l3 : r < (([0, -1, 6] : List Int).length : Int) := by simp; omega
    have p3 := rd_bd [0, -1, 6] (-1) 6 r g1 l3 (by intro x hx; simp at hx; omega)
    exact Ex.pos g1 (Ex.pos l3 (Ex.val ⟨p3, by simp only []; omega, by simp only []; omega⟩))
  · refine Ex.bind (pick_ex hb (by omega) (by omega)) ?_
    rintro ⟨r, q2⟩ ⟨g1, g2, g3⟩
    simp only [] at g1 g2 g3 ⊢
    refine Ex.val ⟨?_, by simp only []; omega, by simp only []; omega⟩
    simp only []; rw [w64 (by omega) (by omega)]; omega
theorem assign_j1 {b : List Int} {f : Bool} (hb : Bytes b) (m : Int) (a : List Int) (ha : a.length ≤ 1000) (ha0 : f = false → 0 < a.length) {p : Int} (hp0 : 0 ≤ p) (hp : p ≤ 950000) : Ex (fun k => spec_l20Assign.j1 k m a f b p) (fun x => x.1.length ≤ a.length + 1 ∧ p ≤ x.2 ∧ x.2 ≤ p + 2) := by
  refine Ex.step ?_
  simp only [spec_l20Assign.j1, Option.bind_some]
  refine Ex.ite (fun _ => Ex.pos (by omega) (Ex.val ⟨by simp, by simp only []; omega, by simp only []; omega⟩)) (fun hf => ?_)
  have := ha0 (by simpa using hf)
  refine Ex.bind (pick_ex hb hp0 (by omega)) ?_
  rintro ⟨r, q⟩ ⟨g1, g2, g3⟩
  simp only [] at g1 g2 g3 ⊢
  refine Ex.bind (pick_ex hb (by omega) (by omega)) ?_
  rintro ⟨r2, q2⟩ ⟨c1, c2, c3⟩
  simp only [] at c1 c2 c3 ⊢
  exact Ex.pos c1 (Ex.pos (by simp; omega) (Ex.pos g1 (Ex.pos (by omega) (Ex.val ⟨by simp, by simp only []; omega, by simp only []; omega⟩))))
theorem assign_l0 {b : List Int} (hb : Bytes b) (many : Nat) (hm : many ≤ 100) (m n : Int) : ∀ (d j : Nat) (a : List Int) (p : Int), j + d = many → a.length = j → 0 ≤ p → p ≤ 900000 - (d : Int) → Ex (fun k => spec_l20Assign.l0 k (many : Int) m n a (j : Int) b p) (fun x => x.1.length ≤ many + 1 ∧ p ≤ x.2 ∧ x.2 ≤ p + d + 4) := by
  intro d
  induction d with
  | zero =>
    intro j a p hj ha hp0 hp
    refine Ex.step ?_
    simp only [spec_l20Assign.l0]
    refine Ex.neg (by omega) (Ex.bind (odd_ex hb hp0 (by omega)) ?_)
    rintro ⟨o, q⟩ ⟨h1, h2, h3⟩
    simp only [] at h1 h2 h3 ⊢
    refine Ex.ite (fun _ => Ex.ite (fun hz => ?_) (fun hz => ?_)) (fun _ => Ex.val ⟨by simp only []; omega, by simp only []; omega, by simp only []; omega⟩)
    · exact Ex.mono (assign_j1 hb m a (by omega) (fun h => by cases h) (by omega) (by omega)) (fun x hx => ⟨by omega, by omega, by omega⟩)
    · refine Ex.bind (pick_ex hb (by omega) (by omega)) ?_
      rintro ⟨r2, q2⟩ ⟨c1, c2, c3⟩
      simp only [] at c1 c2 c3 ⊢
      exact Ex.mono (assign_j1 hb m a (by omega) (fun h => by omega) (by omega) (by omega)) (fun x hx => ⟨by omega, by omega, by omega⟩)
  | succ d ih =>
    intro j a p hj ha hp0 hp
    refine Ex.step ?_
    simp only [spec_l20Assign.l0]
    refine Ex.pos (by omega) (Ex.bind (pick_ex hb hp0 (by omega)) ?_)
    rintro ⟨r, q⟩ ⟨g1, g2, g3⟩
    simp only [] at g1 g2 g3 ⊢
    refine Ex.pos (by omega) ?_
    rw [w64 (n := (j : Int) + 1) (by omega) (by omega)]
    exact Ex.mono (ih (j + 1) _ q (by omega) (by rw [List.length_append, List.length_singleton]; omega) (by omega) (by omega)) (fun x hx => ⟨by omega, by omega, by omega⟩)
theorem assign_ex {b : List Int} (hb : Bytes b) (many : Nat) (hm : many ≤ 100) (m n : Int) {p : Int} (hp0 : 0 ≤ p) (hp : p ≤ 800000) : Ex (fun k => spec_l20Assign.f k b p (many : Int) m n) (fun x => x.1.length ≤ many + 1 ∧ p ≤ x.2 ∧ x.2 ≤ p + 200) := by
  unfold spec_l20Assign.f
  exact Ex.mono (assign_l0 hb many hm m n many 0 [] p (by omega) rfl hp0 (by omega)) (fun x hx => ⟨by omega, by omega, by omega⟩)
theorem set_ex {b : List Int} (hb : Bytes b) {p n : Int} (hp0 : 0 ≤ p) (hp : p ≤ 800000) : Ex (fun k => spec_l20Set.f k b p n) (fun x => Bd x.1 ∧ p ≤ x.2 ∧ x.2 ≤ p + 400) := by
  obtain ⟨l, q, hl, h1, h2, hs⟩ := set_ev b hb p n hp0 hp
  exact Ex.at_ 40 hs ⟨hl, h1, h2⟩

end Go.Proofs.Ytnkpbbkfhmlcfaa.Pu
