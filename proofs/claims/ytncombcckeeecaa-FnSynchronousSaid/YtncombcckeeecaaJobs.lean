import Derived.Test.YtncombcckeeecaaPA
import Derived.Test.YtncombcckeeecaaPO
import Derived.Test.YtncombcckeeecaaFimplXordered
import Derived.Test.YtncombcckeeecaaFimplXspaced
set_option linter.unusedSimpArgs false
set_option linter.unusedVariables false
namespace Go.Proofs.Ytncombcckeeecaa.Pu
open Go.RowKit Go.Proofs.Ytncombcckeeecaa.Q Go.Proofs.YtncombcckeeecaaW.PrintWords Go.Proofs.YtncombcckeeecaaW.PrintLast

abbrev Jb := S44
theorem rdJ_get (l : List Jb) (j : Nat) (h : j < l.length) : rd_T44 l (j : Int) = l[j] := by
  unfold rd_T44
  rw [Int.toNat_natCast, List.getD_eq_getElem?_getD, List.getElem?_eq_getElem h, Option.getD_some]
theorem rdJ_mem (l : List Jb) (j : Nat) (h : j < l.length) : rd_T44 l (j : Int) ∈ l := by rw [rdJ_get l j h]; exact List.getElem_mem _
/-- A job's task, release and execution time are in their ranges. -/
def aO (n : Int) (cost : Int → Int) (x : Jb) : Prop := (0 ≤ x.f0 ∧ x.f0 < n) ∧ (0 ≤ x.f1 ∧ x.f1 ≤ 119) ∧ (1 ≤ x.f3 ∧ x.f3 ≤ cost x.f0)
/-- It comes behind the one before it. -/
def pO (l : List Jb) (j : Nat) : Prop := 0 < j → (rd_T44 l ((j - 1 : Nat) : Int)).f1 < (rd_T44 l (j : Int)).f1 ∨ ((rd_T44 l ((j - 1 : Nat) : Int)).f1 = (rd_T44 l (j : Int)).f1 ∧ (rd_T44 l ((j - 1 : Nat) : Int)).f0 < (rd_T44 l (j : Int)).f0)
/-- It comes a period behind its task's last one. -/
def sO (per : Int → Int) (l : List Jb) (j : Nat) : Prop := ∀ b, lastR (rd_T44 l (j : Int)).f0 (l.take j) = some b → per (rd_T44 l (j : Int)).f0 ≤ (rd_T44 l (j : Int)).f1 - b
def dO (ddl : Int → Int) (x : Jb) : Prop := x.f2 = wrap64 (x.f1 + ddl x.f0)
/-- A legal release pattern. -/
structure Leg (n : Int) (cost per ddl : Int → Int) (l : List Jb) : Prop where
  len : l.length ≤ 60
  a : ∀ j : Nat, j < l.length → aO n cost (rd_T44 l (j : Int))
  p : ∀ j : Nat, j < l.length → pO l j
  s : ∀ j : Nat, j < l.length → sO per l j
  d : ∀ j : Nat, j < l.length → dO ddl (rd_T44 l (j : Int))
theorem iff_no {P : Prop} (h : ¬ P) : (false = true) ↔ P := ⟨fun h' => by simp at h', fun h' => absurd h' h⟩
theorem iff_yes {P : Prop} (h : P) : (true = true) ↔ P := ⟨fun _ => h, fun _ => rfl⟩
theorem jw1 {j : Nat} (h : j ≤ 1000000) : wrap64 ((j : Int) + 1) = ((j + 1 : Nat) : Int) := by rw [w64 (by omega) (by omega)]; omega
theorem jw2 {j : Nat} (h : j ≤ 1000000) (h0 : j ≠ 0) : wrap64 ((j : Int) - 1) = ((j - 1 : Nat) : Int) := by rw [w64 (by omega) (by omega)]; omega
theorem ord_loop {M : Int → Option Int} {cost : Int → Int} (hM : ∀ t, M t = some (cost t)) (l : List Jb) (hl : l.length ≤ 900000) (n : Int) (hn0 : 0 ≤ n) (hn : n ≤ 1000) : ∀ (d j : Nat), j + d = l.length → Ex (fun k => impl_ordered.l0 M k l n l (l.length : Int) (j : Int)) (fun r => r = true ↔ (l.length ≤ 60 ∧ ∀ i : Nat, j ≤ i → i < l.length → aO n cost (rd_T44 l (i : Int)) ∧ pO l i)) := by
  intro d
  induction d with
  | zero =>
    intro j hj
    refine Ex.step ?_
    simp only [impl_ordered.l0]
    refine Ex.neg (by omega) (Ex.val ?_)
    rw [decide_eq_true_eq]
    exact ⟨fun h => ⟨by omega, fun i h1 h2 => by omega⟩, fun h => by omega⟩
  | succ d ih =>
    intro j hj
    have next := ih (j + 1) (by omega)
    have hw := jw1 (j := j) (by omega)
    refine Ex.step ?_
    simp only [impl_ordered.l0, in_eq, hM, Option.bind_some]
    refine Ex.pos (by omega) (Ex.pos (by omega) (Ex.pos (by omega) ?_))
    have hwn : wrap64 (n - 1) = n - 1 := w64 (by omega) (by omega)
    rw [hwn]
    have no : ¬ (aO n cost (rd_T44 l (j : Int)) ∧ pO l j) → ¬ (l.length ≤ 60 ∧ ∀ i : Nat, j ≤ i → i < l.length → aO n cost (rd_T44 l (i : Int)) ∧ pO l i) := fun h h' => h (h'.2 j (Nat.le_refl _) (by omega))
    have yes : aO n cost (rd_T44 l (j : Int)) → pO l j → Ex (fun k => impl_ordered.l0 M k l n l (l.length : Int) ((j + 1 : Nat) : Int)) (fun r => r = true ↔ (l.length ≤ 60 ∧ ∀ i : Nat, j ≤ i → i < l.length → aO n cost (rd_T44 l (i : Int)) ∧ pO l i)) := fun h1 h2 => Ex.mono next (fun r hr => hr.trans ⟨fun h => ⟨h.1, fun i hi hil => by
      by_cases e : i = j
      · rw [e]; exact ⟨h1, h2⟩
      · exact h.2 i (by omega) hil⟩, fun h => ⟨h.1, fun i hi hil => h.2 i (by omega) hil⟩⟩)
    have bad : ∀ (a0 a1 a2 a3 : Int), ¬ aO n cost (rd_T44 l (j : Int)) → Ex (fun k => impl_ordered.j1 M k l n (j : Int) l (l.length : Int) (j : Int) true a0 a1 a2 a3) (fun r => r = true ↔ (l.length ≤ 60 ∧ ∀ i : Nat, j ≤ i → i < l.length → aO n cost (rd_T44 l (i : Int)) ∧ pO l i)) := fun a0 a1 a2 a3 h => Ex.step (by
      simp only [impl_ordered.j1]
      exact Ex.pos (by simp) (Ex.val (iff_no (no (fun h' => h h'.1)))))
    refine Ex.ite (fun h1 => Ex.ite (fun h2 => ?_) (fun h2 => bad _ _ _ _ (fun h => h2 (decide_eq_true h.2.1)))) (fun h1 => bad _ _ _ _ (fun h => h1 (decide_eq_true ⟨h.1.1, by have := h.1.2; omega⟩)))
    have g1 := of_decide_eq_true h1
    have g2 := of_decide_eq_true h2
    by_cases h3 : 1 ≤ (rd_T44 l (j : Int)).f3 ∧ (rd_T44 l (j : Int)).f3 ≤ cost (rd_T44 l (j : Int)).f0
    · rw [decide_eq_true h3]
      have ha : aO n cost (rd_T44 l (j : Int)) := ⟨⟨g1.1, by have := g1.2; omega⟩, g2, h3⟩
      refine Ex.step ?_
      simp only [impl_ordered.j1, Bool.not_true]
      by_cases h0 : j = 0
      · have hp : pO l j := fun h => by omega
        rw [hw]
        exact Ex.neg (by simp) (Ex.neg (by omega) (yes ha hp))
      · rw [jw2 (by omega) h0, hw]
        refine Ex.neg (by simp) (Ex.pos (by omega) (Ex.pos (by omega) (Ex.pos (by omega) (Ex.ite (fun h4 => Ex.val (iff_no (no (fun h' => ?_)))) (fun h4 => Ex.ite (fun h5 => Ex.ite (fun h6 => Ex.val (iff_no (no (fun h' => ?_)))) (fun h6 => yes ha ?_)) (fun h5 => yes ha ?_))))))
        · have := h'.2 (by omega); omega
        · have := h'.2 (by omega); omega
        · intro _; omega
        · intro _; omega
    · rw [decide_eq_false h3]
      exact bad _ _ _ _ (fun h => h3 h.2.2)
theorem ord_ex {M : Int → Option Int} {cost : Int → Int} (hM : ∀ t, M t = some (cost t)) (l : List Jb) (hl : l.length ≤ 900000) (n z : Int) (hn0 : 0 ≤ n) (hn : n ≤ 1000) : Ex (fun k => impl_ordered.f M k l n z) (fun r => r = true ↔ (l.length ≤ 60 ∧ ∀ i : Nat, i < l.length → aO n cost (rd_T44 l (i : Int)) ∧ pO l i)) :=
  Ex.mono (ord_loop hM l hl n hn0 hn l.length 0 (by omega)) (fun r hr => hr.trans ⟨fun h => ⟨h.1, fun i hi => h.2 i (Nat.zero_le _) hi⟩, fun h => ⟨h.1, fun i _ hi => h.2 i hi⟩⟩)
theorem spB_iff {per : Int → Int} {l : List Jb} {n : Int} {cost : Int → Int} (ha : ∀ i : Nat, i < l.length → aO n cost (rd_T44 l (i : Int))) : spB per l = true ↔ ∀ j : Nat, j < l.length → sO per l j := by
  unfold spB
  rw [decide_eq_true_eq]
  have key : ∀ j : Nat, j < l.length → (spAt per l j = true ↔ sO per l j) := fun j hj => by
    unfold spAt sO
    cases e : lastR (rd_T44 l (j : Int)).f0 (l.take j) with
    | none => exact iff_yes (fun b h => by simp at h)
    | some b =>
      obtain ⟨x, hx, _, hb⟩ := lastR_mem e
      obtain ⟨i, hi, rfl⟩ := List.getElem_of_mem (List.mem_of_mem_take hx)
      have a1 := (ha i hi).2.1
      rw [rdJ_get l i hi, hb] at a1
      have a2 := (ha j hj).2.1
      simp only [Bool.not_eq_true', decide_eq_false_iff_not]
      rw [w64 (n := (rd_T44 l (j : Int)).f1 - b) (by omega) (by omega)]
      exact ⟨fun h c hc => by rw [← Option.some.inj hc]; omega, fun h => by have := h b rfl; omega⟩
  exact ⟨fun h j hj => (key j hj).mp (h j hj), fun h j hj => (key j hj).mpr (h j hj)⟩
/-- A list reads as another in tasks and releases. -/
theorem lastR_congr (t : Int) : ∀ {l l' : List Jb}, l.map (fun x => (x.f0, x.f1)) = l'.map (fun x => (x.f0, x.f1)) → lastR t l = lastR t l'
  | [], [], _ => rfl
  | [], y :: r, h => by simp at h
  | x :: r, [], h => by simp at h
  | x :: r, y :: r', h => by
    simp only [List.map_cons, List.cons.injEq, Prod.mk.injEq] at h
    rw [lastR, lastR, lastR_congr t h.2, h.1.1, h.1.2]
theorem rdJ_append_lt {l : List Jb} (x : List Jb) {j : Nat} (h : j < l.length) : rd_T44 (l ++ x) (j : Int) = rd_T44 l (j : Int) := by
  rw [rdJ_get _ j (by rw [List.length_append]; omega), rdJ_get _ j h, List.getElem_append_left h]
theorem rdJ_append_eq {l : List Jb} (x : Jb) : rd_T44 (l ++ [x]) (l.length : Int) = x := by
  rw [rdJ_get _ l.length (by simp)]; simp
theorem rdJ_take {l : List Jb} {n j : Nat} (h : j < n) (hl : j < l.length) : rd_T44 (l.take n) (j : Int) = rd_T44 l (j : Int) := by
  rw [rdJ_get _ j (by rw [List.length_take]; omega), rdJ_get _ j hl, List.getElem_take]
section
variable {n : Int} {cost per ddl : Int → Int} {l : List Jb}
theorem Leg.take (h : Leg n cost per ddl l) (i : Nat) : Leg n cost per ddl (l.take i) := by
  have e : ∀ j : Nat, j < (l.take i).length → rd_T44 (l.take i) (j : Int) = rd_T44 l (j : Int) ∧ j < l.length ∧ j < i := fun j hj => by
    rw [List.length_take] at hj
    exact ⟨rdJ_take (by omega) (by omega), by omega, by omega⟩
  refine ⟨by rw [List.length_take]; have := h.len; omega, fun j hj => ?_, fun j hj => ?_, fun j hj => ?_, fun j hj => ?_⟩
  · rw [(e j hj).1]; exact h.a j (e j hj).2.1
  · intro h0
    rw [(e j hj).1, (e (j - 1) (by omega)).1]; exact h.p j (e j hj).2.1 h0
  · intro b hb
    rw [(e j hj).1] at hb ⊢
    rw [List.take_take, Nat.min_eq_left (by have := (e j hj).2.2; omega)] at hb
    exact h.s j (e j hj).2.1 b hb
  · rw [(e j hj).1]; exact h.d j (e j hj).2.1
theorem Leg.snoc (h : Leg n cost per ddl l) (h60 : l.length < 60) {x : Jb} (ha : aO n cost x) (hp : ∀ y ∈ l, y.f1 < x.f1 ∨ (y.f1 = x.f1 ∧ y.f0 < x.f0)) (hs : ∀ b, lastR x.f0 l = some b → per x.f0 ≤ x.f1 - b) (hd : dO ddl x) : Leg n cost per ddl (l ++ [x]) := by
  have hlen : (l ++ [x]).length = l.length + 1 := by simp
  have e1 : ∀ j : Nat, j < l.length → rd_T44 (l ++ [x]) (j : Int) = rd_T44 l (j : Int) := fun j hj => rdJ_append_lt _ hj
  refine ⟨by omega, fun j hj => ?_, fun j hj => ?_, fun j hj => ?_, fun j hj => ?_⟩
  · by_cases e : j = l.length
    · rw [e, rdJ_append_eq]; exact ha
    · rw [e1 j (by omega)]; exact h.a j (by omega)
  · intro h0
    by_cases e : j = l.length
    · rw [e1 (j - 1) (by omega)]
      rw [e, rdJ_append_eq]
      exact hp _ (rdJ_mem l (l.length - 1) (by omega))
    · rw [e1 j (by omega), e1 (j - 1) (by omega)]; exact h.p j (by omega) h0
  · intro b hb
    by_cases e : j = l.length
    · rw [e, rdJ_append_eq] at hb ⊢
      rw [List.take_left] at hb
      exact hs b hb
    · rw [e1 j (by omega)] at hb ⊢
      rw [List.take_append_of_le_length (by omega)] at hb
      exact h.s j (by omega) b hb
  · by_cases e : j = l.length
    · rw [e, rdJ_append_eq]; exact hd
    · rw [e1 j (by omega)]; exact h.d j (by omega)
theorem Leg.nil : Leg n cost per ddl [] := ⟨by simp, fun j h => absurd h (by simp), fun j h => absurd h (by simp), fun j h => absurd h (by simp), fun j h => absurd h (by simp)⟩
/-- Releases do not fall. -/
theorem Leg.mono (h : Leg n cost per ddl l) : ∀ (d j : Nat), j + d < l.length → (rd_T44 l (j : Int)).f1 ≤ (rd_T44 l ((j + d : Nat) : Int)).f1
  | 0, j, _ => Int.le_refl _
  | d + 1, j, hl => by
    have h1 := Leg.mono h d j (by omega)
    have h2 := h.p (j + d + 1) (by omega) (by omega)
    rw [show j + d + 1 - 1 = j + d by omega] at h2
    rw [show j + (d + 1) = j + d + 1 by omega]
    omega
theorem lastR_ge {t : Int} : ∀ {l : List Jb}, l.Pairwise (fun x y => x.f1 ≤ y.f1) → ∀ x ∈ l, x.f0 = t → ∃ b, lastR t l = some b ∧ x.f1 ≤ b
  | [], _, x, hx, _ => by simp at hx
  | y :: r, hp, x, hx, e => by
    rw [List.pairwise_cons] at hp
    rw [lastR]
    rcases List.mem_cons.mp hx with rfl | hx
    · cases e2 : lastR t r with
      | some b =>
        obtain ⟨z, hz, _, hb⟩ := lastR_mem e2
        exact ⟨b, rfl, by rw [← hb]; exact hp.1 z hz⟩
      | none => exact ⟨x.f1, by simp [e], Int.le_refl _⟩
    · obtain ⟨b, h1, h2⟩ := lastR_ge hp.2 x hx e
      rw [h1]; exact ⟨b, rfl, h2⟩
theorem Leg.pairwise (h : Leg n cost per ddl l) : l.Pairwise (fun x y => x.f1 ≤ y.f1) := by
  rw [List.pairwise_iff_getElem]
  intro i j hi hj hij
  have := h.mono (j - i) i (by omega)
  rw [show i + (j - i) = j by omega, rdJ_get l i hi, rdJ_get l j hj] at this
  exact this
/-- Two jobs of one task are a period apart. -/
theorem Leg.apart (h : Leg n cost per ddl l) {i j : Nat} (hij : j < i) (hi : i < l.length) (e : (rd_T44 l (j : Int)).f0 = (rd_T44 l (i : Int)).f0) : per (rd_T44 l (i : Int)).f0 ≤ (rd_T44 l (i : Int)).f1 - (rd_T44 l (j : Int)).f1 := by
  have hm : rd_T44 l (j : Int) ∈ l.take i := by
    rw [← rdJ_take hij (by omega)]
    exact rdJ_mem _ j (by rw [List.length_take]; omega)
  obtain ⟨b, h1, h2⟩ := lastR_ge ((h.take i).pairwise) _ hm e
  have := h.s i hi b h1
  omega
end

end Go.Proofs.Ytncombcckeeecaa.Pu
