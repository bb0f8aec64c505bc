import Derived.Test.YtncombcckeeecaaPO
import Derived.Test.YtncombcckeeecaaOrdMath
import Derived.Test.YtncombcckeeecaaFimplXOrderValid
import Derived.Test.YtncombcckeeecaaFspecXOrderValid
import Derived.Test.YtncombcckeeecaaFspecXl20Order
set_option linter.unusedSimpArgs false
set_option linter.unusedVariables false
namespace Go.Proofs.Ytncombcckeeecaa.Pu
open Go.RowKit Go.Proofs.Ytncombcckeeecaa.Q Go.Proofs.YtncombcckeeecaaW.PrintWords Go.Proofs.YtncombcckeeecaaW.PrintLast

theorem specSet_exO (l : List Tk) (hl : l.length ≤ 1000000) : Ex (fun k => spec_SetValid.f k l) (fun x => x = setOk l) := Ex.at_ (l.length + 1) (fun k hk => specSet_eq l hl k (by omega)) rfl
theorem rd_getO (l : List Int) (j : Nat) (h : j < l.length) : rd l (j : Int) = l[j] := by
  unfold rd
  rw [Int.toNat_natCast, List.getD_eq_getElem?_getD, List.getElem?_eq_getElem h, Option.getD_some]
theorem l4Index_loop (l : List Int) (n : Int) (hl : l.length ≤ 1000) : ∀ (d j : Nat), j + d = l.length → Ex (fun k => spec_l4Index.l0 k l n (j : Int)) (fun x => (x ≥ 0 ↔ n ∈ l.drop j)) := by
  intro d
  induction d with
  | zero =>
    intro j hj
    refine Ex.step ?_
    simp only [spec_l4Index.l0]
    refine Ex.neg (by omega) (Ex.val ?_)
    rw [List.drop_of_length_le (by omega)]; simp
  | succ d ih =>
    intro j hj
    have hjl : j < l.length := by omega
    refine Ex.step ?_
    simp only [spec_l4Index.l0]
    rw [w64 (n := (j : Int) + 1) (by omega) (by omega)]
    refine Ex.pos (by omega) (Ex.pos (by omega) (Ex.ite (fun h => Ex.val ?_) (fun h => ?_)))
    · constructor
      · intro _
        rw [List.drop_eq_getElem_cons hjl, ← rd_getO l j hjl, h]
        exact List.mem_cons_self ..
      · intro _; omega
    · refine Ex.mono (ih (j + 1) (by omega)) (fun x hx => ?_)
      rw [hx, List.drop_eq_getElem_cons hjl, ← rd_getO l j hjl, List.mem_cons]
      constructor
      · exact Or.inr
      · rintro (e | e)
        · exact absurd e.symm h
        · exact e
theorem l4Index_ex (l : List Int) (n : Int) (hl : l.length ≤ 1000) : Ex (fun k => spec_l4Index.f k l n) (fun x => (x ≥ 0 ↔ n ∈ l)) := by
  unfold spec_l4Index.f
  exact Ex.mono (l4Index_loop l n hl l.length 0 (by omega)) (fun x hx => by rwa [List.drop_zero] at hx)
def Fst (l : List Int) (v : Int) (j : Nat) (x : Int) : Prop := (x = -1 ∧ ∀ i : Nat, j ≤ i → i < l.length → rd l (i : Int) ≠ v) ∨ (∃ m : Nat, x = (m : Int) ∧ j ≤ m ∧ m < l.length ∧ rd l (m : Int) = v ∧ ∀ i : Nat, j ≤ i → i < m → rd l (i : Int) ≠ v)
theorem index_loop (l : List Int) (v : Int) (hl : l.length ≤ 1000) : ∀ (d j : Nat), j + d = l.length → Ex (fun k => slices_Index_int_int.l0 k l v (l.length : Int) (j : Int)) (Fst l v j) := by
  intro d
  induction d with
  | zero =>
    intro j hj
    refine Ex.step ?_
    simp only [slices_Index_int_int.l0]
    exact Ex.neg (by omega) (Ex.val (Or.inl ⟨rfl, fun i h1 h2 => by omega⟩))
  | succ d ih =>
    intro j hj
    refine Ex.step ?_
    simp only [slices_Index_int_int.l0]
    rw [w64 (n := (j : Int) + 1) (by omega) (by omega)]
    refine Ex.pos (by omega) (Ex.pos (by omega) (Ex.pos (by omega) (Ex.ite (fun h => Ex.val ?_) (fun h => ?_))))
    · exact Or.inr ⟨j, rfl, Nat.le_refl _, by omega, h.symm, fun i h1 h2 => by omega⟩
    · refine Ex.mono (ih (j + 1) (by omega)) (fun x hx => ?_)
      have ne : ∀ i : Nat, i = j → rd l (i : Int) ≠ v := fun i e => by rw [e]; exact fun e2 => h e2.symm
      rcases hx with ⟨h1, h2⟩ | ⟨m, h1, h2, h3, h4, h5⟩
      · refine Or.inl ⟨h1, fun i g1 g2 => ?_⟩
        by_cases e : i = j
        · exact ne i e
        · exact h2 i (by omega) g2
      · refine Or.inr ⟨m, h1, by omega, h3, h4, fun i g1 g2 => ?_⟩
        by_cases e : i = j
        · exact ne i e
        · exact h5 i (by omega) g2
theorem index_ex (l : List Int) (v : Int) (hl : l.length ≤ 1000) : Ex (fun k => slices_Index_int_int.f k l v) (Fst l v 0) := by
  unfold slices_Index_int_int.f
  exact index_loop l v hl l.length 0 (by omega)
theorem mem_rdO {l : List Int} {v : Int} : v ∈ l ↔ ∃ i : Nat, i < l.length ∧ rd l (i : Int) = v := by
  constructor
  · intro h
    obtain ⟨i, hi, e⟩ := List.getElem_of_mem h
    exact ⟨i, hi, by rw [rd_getO l i hi]; exact e⟩
  · rintro ⟨i, hi, e⟩
    rw [← e, rd_getO l i hi]; exact List.getElem_mem hi
theorem mem_takeO {l : List Int} {v : Int} {n : Nat} (hn : n ≤ l.length) : v ∈ l.take n ↔ ∃ i : Nat, i < n ∧ rd l (i : Int) = v := by
  rw [List.mem_take_iff_getElem]
  constructor
  · rintro ⟨i, hi, e⟩
    exact ⟨i, by omega, by rw [rd_getO l i (by omega)]; exact e⟩
  · rintro ⟨i, hi, e⟩
    exact ⟨i, by omega, by rw [← rd_getO l i (by omega)]; exact e⟩
theorem Fst.nonneg {l : List Int} {v x : Int} (h : Fst l v 0 x) : x ≥ 0 ↔ v ∈ l := by
  rw [mem_rdO]
  rcases h with ⟨h1, h2⟩ | ⟨m, h1, h2, h3, h4, h5⟩
  · constructor
    · intro; omega
    · rintro ⟨i, hi, e⟩; exact absurd e (h2 i (by omega) hi)
  · constructor
    · intro; exact ⟨m, h3, h4⟩
    · intro; omega
theorem Fst.first {l : List Int} {v x : Int} (h : Fst l v 0 x) {i : Nat} (hi : i < l.length) (hv : rd l (i : Int) = v) : x = (i : Int) ↔ v ∉ l.take i := by
  rw [mem_takeO (by omega)]
  rcases h with ⟨h1, h2⟩ | ⟨m, h1, h2, h3, h4, h5⟩
  · exact absurd hv (h2 i (by omega) hi)
  · constructor
    · rintro e ⟨i', g1, g2⟩
      exact h5 i' (by omega) (by omega) g2
    · intro g
      by_cases e : m < i
      · exact absurd ⟨m, e, h4⟩ g
      · by_cases e2 : i < m
        · exact absurd hv (h5 i (by omega) e2)
        · omega
def gd (l : List Tk) (o : List Int) (i : Nat) : Prop := (0 ≤ rd o (i : Int) ∧ rd o (i : Int) ≤ (l.length : Int) - 1) ∧ rd o (i : Int) ∉ o.take i
theorem from_iff {P : Nat → Prop} {j n : Nat} (hj : P j) : (∀ i, j + 1 ≤ i → i < n → P i) ↔ (∀ i, j ≤ i → i < n → P i) := by
  constructor
  · intro h i g1 g2
    by_cases e : i = j
    · rw [e]; exact hj
    · exact h i (by omega) g2
  · intro h i g1 g2
    exact h i (by omega) g2
theorem ordP_iff (l : List Tk) (o : List Int) : OrdP l o ↔ (setOk l = true ∧ o.length = l.length) ∧ ∀ i, 0 ≤ i → i < o.length → gd l o i := by
  constructor
  · rintro ⟨h1, h2, h3, h4⟩
    refine ⟨⟨(setOk_iff l).mpr h1, h2⟩, fun i _ hi => ?_⟩
    unfold gd
    rw [rd_getO o i hi]
    have := h3 _ (List.getElem_mem hi)
    exact ⟨by omega, take_of_nodup h4 i hi⟩
  · rintro ⟨⟨h1, h2⟩, h3⟩
    refine ⟨(setOk_iff l).mp h1, h2, fun x hx => ?_, nodup_of_take (fun i hi => ?_)⟩
    · obtain ⟨i, hi, e⟩ := mem_rdO.mp hx
      have := (h3 i (by omega) hi).1
      rw [e] at this; omega
    · have := (h3 i (by omega) hi).2
      rwa [rd_getO o i hi] at this
theorem specOrd_loop (l : List Tk) (hl : l.length ≤ 1000) (o : List Int) (ho : o.length ≤ 1000) : ∀ (d j : Nat), j + d = o.length → Ex (fun k => spec_OrderValid.l0 k l o (j : Int)) (fun x => x = true ↔ ∀ i, j ≤ i → i < o.length → gd l o i) := by
  intro d
  induction d with
  | zero =>
    intro j hj
    refine Ex.step ?_
    simp only [spec_OrderValid.l0]
    exact Ex.neg (by omega) (Ex.val ⟨fun _ i h1 h2 => by omega, fun _ => rfl⟩)
  | succ d ih =>
    intro j hj
    have no : ¬ gd l o j → (false = true ↔ ∀ i, j ≤ i → i < o.length → gd l o i) := fun h => ⟨fun h' => (by cases h'), fun h' => absurd (h' j (Nat.le_refl _) (by omega)) h⟩
    refine Ex.step ?_
    simp only [spec_OrderValid.l0]
    rw [w64 (n := (l.length : Int) - 1) (by omega) (by omega), w64 (n := (j : Int) + 1) (by omega) (by omega), l1In_eq]
    simp only [Option.bind_some]
    refine Ex.pos (by omega) (Ex.pos (by omega) (Ex.ite (fun h => ?_) (fun h => Ex.val (no (fun g => h (decide_eq_true g.1))))))
    have h1 := of_decide_eq_true h
    refine Ex.pos (by omega) (Ex.bind (l4Index_ex _ _ (by rw [List.length_take]; omega)) ?_)
    intro x hx
    rw [Int.toNat_natCast] at hx
    refine Ex.ite (fun h2 => Ex.val (no (fun g => g.2 (hx.mp h2)))) (fun h2 => ?_)
    refine Ex.mono (ih (j + 1) (by omega)) (fun y hy => ?_)
    rw [hy]
    exact from_iff (P := gd l o) ⟨h1, fun g => h2 (hx.mpr g)⟩
theorem specOrd_ex (l : List Tk) (hl : l.length ≤ 1000) (o : List Int) (ho : o.length ≤ 1000) : Ex (fun k => spec_OrderValid.f k l o) (fun x => x = true ↔ OrdP l o) := by
  unfold spec_OrderValid.f
  have no : ¬ OrdP l o → Ex (fun k => spec_OrderValid.j0 k l o true) (fun x => x = true ↔ OrdP l o) := fun e => by
    refine Ex.step ?_
    simp only [spec_OrderValid.j0]
    exact Ex.pos trivial (Ex.val ⟨fun h => (by cases h), fun h => absurd h e⟩)
  refine Ex.bind (specSet_exO l (by omega)) ?_
  intro x hx
  rw [hx]
  refine Ex.ite (fun h => ?_) (fun h => no (fun g => h ((ordP_iff l o).mp g).1.1))
  by_cases h3 : o.length = l.length
  · rw [show ((o.length : Int) != (l.length : Int)) = false from by rw [bne_eq_false_iff_eq]; omega]
    refine Ex.step ?_
    simp only [spec_OrderValid.j0]
    refine Ex.neg (by simp) ?_
    refine Ex.mono (specOrd_loop l hl o ho o.length 0 (by omega)) (fun r hr => ?_)
    rw [hr, ordP_iff]
    exact ⟨fun g => ⟨⟨h, h3⟩, g⟩, fun g => g.2⟩
  · rw [show ((o.length : Int) != (l.length : Int)) = true from by rw [bne_iff_ne]; omega]
    exact no (fun g => h3 g.len)
theorem implOrd_loop (l : List Tk) (hl : l.length ≤ 1000) (o : List Int) (ho : o.length ≤ 1000) : ∀ (d j : Nat), j + d = o.length → Ex (fun k => impl_OrderValid.l0 k l o o (o.length : Int) (j : Int)) (fun x => x = true ↔ ((setOk l = true ∧ o.length = l.length) ∧ ∀ i, j ≤ i → i < o.length → gd l o i)) := by
  intro d
  induction d with
  | zero =>
    intro j hj
    refine Ex.step ?_
    simp only [impl_OrderValid.l0]
    rw [implSet_eq]
    simp only [Option.bind_some]
    refine Ex.neg (by omega) (Ex.ite (fun h => Ex.val ?_) (fun h => Ex.val ?_))
    · rw [beq_iff_eq]
      exact ⟨fun g => ⟨⟨h, by omega⟩, fun i h1 h2 => by omega⟩, fun g => by have := g.1.2; omega⟩
    · exact ⟨fun g => (by cases g), fun g => absurd g.1.1 h⟩
  | succ d ih =>
    intro j hj
    have no : ¬ gd l o j → (false = true ↔ ((setOk l = true ∧ o.length = l.length) ∧ ∀ i, j ≤ i → i < o.length → gd l o i)) := fun h => ⟨fun h' => (by cases h'), fun h' => absurd (h'.2 j (Nat.le_refl _) (by omega)) h⟩
    refine Ex.step ?_
    simp only [impl_OrderValid.l0]
    rw [w64 (n := (l.length : Int) - 1) (by omega) (by omega), w64 (n := (j : Int) + 1) (by omega) (by omega), in_eq]
    simp only [Option.bind_some]
    refine Ex.pos (by omega) (Ex.pos (by omega) (Ex.pos (by omega) (Ex.ite (fun h => ?_) (fun h => Ex.val (no (fun g => h (decide_eq_true g.1)))))))
    have h1 := of_decide_eq_true h
    refine Ex.bind (index_ex o _ ho) ?_
    intro x hx
    have hx' := hx.first (show j < o.length by omega) rfl
    refine Ex.ite (fun h2 => ?_) (fun h2 => Ex.val (no (fun g => h2 (hx'.mpr g.2))))
    refine Ex.mono (ih (j + 1) (by omega)) (fun y hy => ?_)
    rw [hy, from_iff (P := gd l o) ⟨h1, hx'.mp h2⟩]
theorem implOrd_ex (l : List Tk) (hl : l.length ≤ 1000) (o : List Int) (ho : o.length ≤ 1000) : Ex (fun k => impl_OrderValid.f k l o) (fun x => x = true ↔ OrdP l o) := by
  unfold impl_OrderValid.f
  refine Ex.mono (implOrd_loop l hl o ho o.length 0 (by omega)) (fun x hx => ?_)
  rw [hx, ordP_iff]
theorem bool_iff {a b : Bool} {P : Prop} (ha : a = true ↔ P) (hb : b = true ↔ P) : a = b := by
  cases a <;> cases b <;> simp_all

/-! the draw of an order -/
theorem order_j1 {b : List Int} (hb : Bytes b) (m : Int) (a : List Int) {f : Bool} (ha : a.length ≤ 100) (hf : f = false → 0 < a.length) {p : Int} (hp0 : 0 ≤ p) (hp : p ≤ 950000) : Ex (fun k => spec_l20Order.j1 k m a f b p) (fun x => x.1.length ≤ a.length + 1) := by
  refine Ex.step ?_
  simp only [spec_l20Order.j1, Option.bind_some]
  refine Ex.ite (fun h => ?_) (fun h => ?_)
  · refine Ex.bind (pick_ex hb hp0 (by omega)) ?_
    rintro ⟨r, q⟩ ⟨g1, g2, g3⟩
    exact Ex.pos (by omega) (Ex.val (by simp))
  · have := hf (by simpa using h)
    refine Ex.bind (pick_ex hb hp0 (by omega)) ?_
    rintro ⟨r, q⟩ ⟨g1, g2, g3⟩
    simp only [] at g1 g2 g3 ⊢
    refine Ex.bind (pick_ex hb (by omega) (by omega)) ?_
    rintro ⟨r2, q2⟩ ⟨c1, c2, c3⟩
    simp only [] at c1 c2 c3 ⊢
    exact Ex.pos c1 (Ex.pos (by simp; omega) (Ex.pos g1 (Ex.pos (by omega) (Ex.val (by simp)))))
theorem order_l0 {b : List Int} (hb : Bytes b) (m : Nat) (hm : m ≤ 50) (n : Int) : ∀ (d i : Nat) (a : List Int) (p : Int), i + d = m → a.length = i → 0 ≤ p → p + d ≤ 900000 → Ex (fun k => spec_l20Order.l0 k (m : Int) n a (i : Int) b p) (fun x => x.1.length ≤ m + 1) := by
  intro d
  induction d with
  | zero =>
    intro i a p hi ha hp0 hp
    refine Ex.step ?_
    simp only [spec_l20Order.l0]
    refine Ex.neg (by omega) (Ex.bind (odd_ex hb hp0 (by omega)) ?_)
    rintro ⟨o, q⟩ ⟨h1, h2, h3⟩
    simp only [] at h1 h2 h3 ⊢
    refine Ex.ite (fun _ => Ex.ite (fun _ => ?_) (fun h0 => ?_)) (fun _ => Ex.val (by simp only []; omega))
    · exact Ex.mono (order_j1 hb _ a (by omega) (fun h => by cases h) (by omega) (by omega)) (fun x hx => by omega)
    · refine Ex.bind (pick_ex hb (by omega) (by omega)) ?_
      rintro ⟨r, q1⟩ ⟨g1, g2, g3⟩
      simp only [] at g1 g2 g3 ⊢
      exact Ex.mono (order_j1 hb _ a (by omega) (fun _ => by omega) (by omega) (by omega)) (fun x hx => by omega)
  | succ d ih =>
    intro i a p hi ha hp0 hp
    refine Ex.step ?_
    simp only [spec_l20Order.l0, Option.bind_some]
    rw [w64 (n := (i : Int) + 1) (by omega) (by omega)]
    refine Ex.pos (by omega) (Ex.bind (pick_ex hb hp0 (by omega)) ?_)
    rintro ⟨r, q⟩ ⟨g1, g2, g3⟩
    simp only [] at g1 g2 g3 ⊢
    have hl : ([(i : Int)] ++ a.drop r.toNat).length = 1 + (a.length - r.toNat) := by rw [List.length_append, List.length_drop, List.length_singleton]
    refine Ex.pos g1 (Ex.pos (by omega) (Ex.pos (by rw [List.length_drop, List.length_singleton]; omega) (Ex.pos (by rw [hl, List.length_take]; omega) ?_)))
    exact ih (i + 1) _ q (by omega) (by rw [List.length_append, hl, List.length_take]; omega) (by omega) (by omega)
theorem order_ex {b : List Int} (hb : Bytes b) (m : Nat) (hm : m ≤ 50) (n : Int) {p : Int} (hp0 : 0 ≤ p) (hp : p ≤ 800000) : Ex (fun k => spec_l20Order.f k b p (m : Int) n) (fun x => x.1.length ≤ m + 1) := by
  unfold spec_l20Order.f
  exact order_l0 hb m hm n m 0 [] p (by omega) rfl hp0 (by omega)

end Go.Proofs.Ytncombcckeeecaa.Pu
