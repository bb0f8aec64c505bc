import Derived.Test.YtpgheaoepaadlaaPA
import Derived.Test.YtpgheaoepaadlaaPO
set_option linter.unusedSimpArgs false
set_option linter.unusedVariables false
namespace Go.Proofs.Ytpgheaoepaadlaa.Pu
open Go.RowKit Go.Proofs.Ytpgheaoepaadlaa.Q Go.Proofs.YtpgheaoepaadlaaW.PrintWords Go.Proofs.YtpgheaoepaadlaaW.PrintLast

abbrev Jb := S57
theorem rdJ_get (l : List Jb) (j : Nat) (h : j < l.length) : rd_T57 l (j : Int) = l[j] := by
  unfold rd_T57
  rw [Int.toNat_natCast, List.getD_eq_getElem?_getD, List.getElem?_eq_getElem h, Option.getD_some]
theorem rdJ_mem (l : List Jb) (j : Nat) (h : j < l.length) : rd_T57 l (j : Int) ∈ l := by rw [rdJ_get l j h]; exact List.getElem_mem _
/-- The last release among the jobs of a task. -/
def lstR (t : Int) : List Jb → Option Int
  | [] => none
  | x :: r => match lstR t r with
    | some b => some b
    | none => if x.f0 = t then some x.f1 else none
theorem lstR_snoc (t : Int) (x : Jb) : ∀ l : List Jb, lstR t (l ++ [x]) = if x.f0 = t then some x.f1 else lstR t l
  | [] => by by_cases h : x.f0 = t <;> simp [lstR, h]
  | y :: l => by
    rw [List.cons_append, lstR, lstR_snoc t x l]
    by_cases h : x.f0 = t
    · simp [h]
    · simp only [h, if_false]; rfl
theorem lstR_mem {t b : Int} : ∀ {l : List Jb}, lstR t l = some b → ∃ x ∈ l, x.f0 = t ∧ x.f1 = b
  | [], h => by simp [lstR] at h
  | y :: l, h => by
    rw [lstR] at h
    cases e : lstR t l with
    | some c =>
      rw [e] at h
      obtain ⟨x, hx, h1, h2⟩ := lstR_mem e
      exact ⟨x, List.mem_cons_of_mem _ hx, h1, by rw [h2]; exact Option.some.inj h⟩
    | none =>
      rw [e] at h
      by_cases h' : y.f0 = t
      · simp only [h', if_true] at h; exact ⟨y, List.mem_cons_self, h', Option.some.inj h⟩
      · simp only [h', if_false] at h; exact absurd h (by simp)
theorem rdJ_takeS {l : List S57} {j : Nat} (h : j < l.length) : l.take (j + 1) = l.take j ++ [rd_T57 l (j : Int)] := by
  rw [List.take_succ_eq_append_getElem h]
  unfold rd_T57
  rw [Int.toNat_natCast, List.getD_eq_getElem?_getD, List.getElem?_eq_getElem h, Option.getD_some]
/-- A job's task, release and execution time are in their ranges. -/
def aO (n : Int) (cost : Int → Int) (x : Jb) : Prop := (0 ≤ x.f0 ∧ x.f0 < n) ∧ (0 ≤ x.f1 ∧ x.f1 ≤ 119) ∧ (1 ≤ x.f3 ∧ x.f3 ≤ cost x.f0)
/-- It comes behind the one before it. -/
def pO (l : List Jb) (j : Nat) : Prop := 0 < j → (rd_T57 l ((j - 1 : Nat) : Int)).f1 < (rd_T57 l (j : Int)).f1 ∨ ((rd_T57 l ((j - 1 : Nat) : Int)).f1 = (rd_T57 l (j : Int)).f1 ∧ (rd_T57 l ((j - 1 : Nat) : Int)).f0 < (rd_T57 l (j : Int)).f0)
/-- It comes a period behind its task's last one. -/
def sO (per : Int → Int) (l : List Jb) (j : Nat) : Prop := ∀ b, lstR (rd_T57 l (j : Int)).f0 (l.take j) = some b → per (rd_T57 l (j : Int)).f0 ≤ (rd_T57 l (j : Int)).f1 - b
def dO (ddl : Int → Int) (x : Jb) : Prop := x.f2 = wrap64 (x.f1 + ddl x.f0)
/-- A legal release pattern. -/
structure Leg (n : Int) (cost per ddl : Int → Int) (l : List Jb) : Prop where
  len : l.length ≤ 60
  a : ∀ j : Nat, j < l.length → aO n cost (rd_T57 l (j : Int))
  p : ∀ j : Nat, j < l.length → pO l j
  s : ∀ j : Nat, j < l.length → sO per l j
  d : ∀ j : Nat, j < l.length → dO ddl (rd_T57 l (j : Int))
theorem iff_no {P : Prop} (h : ¬ P) : (false = true) ↔ P := ⟨fun h' => by simp at h', fun h' => absurd h' h⟩
theorem iff_yes {P : Prop} (h : P) : (true = true) ↔ P := ⟨fun _ => h, fun _ => rfl⟩
theorem jw1 {j : Nat} (h : j ≤ 100000000) : wrap64 ((j : Int) + 1) = ((j + 1 : Nat) : Int) := by rw [w64 (by omega) (by omega)]; omega
theorem jw2 {j : Nat} (h : j ≤ 100000000) (h0 : j ≠ 0) : wrap64 ((j : Int) - 1) = ((j - 1 : Nat) : Int) := by rw [w64 (by omega) (by omega)]; omega
/-- A list reads as another in tasks and releases. -/
theorem lstR_congr (t : Int) : ∀ {l l' : List Jb}, l.map (fun x => (x.f0, x.f1)) = l'.map (fun x => (x.f0, x.f1)) → lstR t l = lstR t l'
  | [], [], _ => rfl
  | [], y :: r, h => by simp at h
  | x :: r, [], h => by simp at h
  | x :: r, y :: r', h => by
    simp only [List.map_cons, List.cons.injEq, Prod.mk.injEq] at h
    rw [lstR, lstR, lstR_congr t h.2, h.1.1, h.1.2]
theorem rdJ_append_lt {l : List Jb} (x : List Jb) {j : Nat} (h : j < l.length) : rd_T57 (l ++ x) (j : Int) = rd_T57 l (j : Int) := by
  rw [rdJ_get _ j (by rw [List.length_append]; omega), rdJ_get _ j h, List.getElem_append_left h]
theorem rdJ_append_eq {l : List Jb} (x : Jb) : rd_T57 (l ++ [x]) (l.length : Int) = x := by
  rw [rdJ_get _ l.length (by simp)]; simp
theorem rdJ_take {l : List Jb} {n j : Nat} (h : j < n) (hl : j < l.length) : rd_T57 (l.take n) (j : Int) = rd_T57 l (j : Int) := by
  rw [rdJ_get _ j (by rw [List.length_take]; omega), rdJ_get _ j hl, List.getElem_take]
section
variable {n : Int} {cost per ddl : Int → Int} {l : List Jb}
theorem Leg.take (h : Leg n cost per ddl l) (i : Nat) : Leg n cost per ddl (l.take i) := by
  have e : ∀ j : Nat, j < (l.take i).length → rd_T57 (l.take i) (j : Int) = rd_T57 l (j : Int) ∧ j < l.length ∧ j < i := fun j hj => by
    rw [List.length_take] at hj
    exact ⟨rdJ_take (by omega) (by omega), by omega, by omega⟩
  refine ⟨by rw [List.length_take]; have := h.len; omega, fun j hj => ?_, fun j hj => ?_, fun j hj => ?_, fun j hj => ?_⟩
  · rw [(e j hj).1]; exact h.a j (e j hj).2.1
  · intro h0
    rw [(e j hj).1, (e (j - 1) (by omega)).1]; exact h.p j (e j hj).2.1 h0
  · intro b hb
    rw [(e j hj).1] at hb ⊢
    rw [List.take_take, Nat.min_eq_left (by have := (e j hj).2.2; omega)] at hb
    exact h.s j (e j hj).2.1 b hb
  · rw [(e j hj).1]; exact h.d j (e j hj).2.1
theorem Leg.snoc (h : Leg n cost per ddl l) (h60 : l.length < 60) {x : Jb} (ha : aO n cost x) (hp : ∀ y ∈ l, y.f1 < x.f1 ∨ (y.f1 = x.f1 ∧ y.f0 < x.f0)) (hs : ∀ b, lstR x.f0 l = some b → per x.f0 ≤ x.f1 - b) (hd : dO ddl x) : Leg n cost per ddl (l ++ [x]) := by
  have hlen : (l ++ [x]).length = l.length + 1 := by simp
  have e1 : ∀ j : Nat, j < l.length → rd_T57 (l ++ [x]) (j : Int) = rd_T57 l (j : Int) := fun j hj => rdJ_append_lt _ hj
  refine ⟨by omega, fun j hj => ?_, fun j hj => ?_, fun j hj => ?_, fun j hj => ?_⟩
  · by_cases e : j = l.length
    · rw [e, rdJ_append_eq]; exact ha
    · rw [e1 j (by omega)]; exact h.a j (by omega)
  · intro h0
    by_cases e : j = l.length
    · rw [e1 (j - 1) (by omega)]
      rw [e, rdJ_append_eq]
      exact hp _ (rdJ_mem l (l.length - 1) (by omega))
    · rw [e1 j (by omega), e1 (j - 1) (by omega)]; exact h.p j (by omega) h0
  · intro b hb
    by_cases e : j = l.length
    · rw [e, rdJ_append_eq] at hb ⊢
      rw [List.take_left] at hb
      exact hs b hb
    · rw [e1 j (by omega)] at hb ⊢
      rw [List.take_append_of_le_length (by omega)] at hb
      exact h.s j (by omega) b hb
  · by_cases e : j = l.length
    · rw [e, rdJ_append_eq]; exact hd
    · rw [e1 j (by omega)]; exact h.d j (by omega)
theorem Leg.nil : Leg n cost per ddl [] := ⟨by simp, fun j h => absurd h (by simp), fun j h => absurd h (by simp), fun j h => absurd h (by simp), fun j h => absurd h (by simp)⟩
/-- Releases do not fall. -/
theorem Leg.mono (h : Leg n cost per ddl l) : ∀ (d j : Nat), j + d < l.length → (rd_T57 l (j : Int)).f1 ≤ (rd_T57 l ((j + d : Nat) : Int)).f1
  | 0, j, _ => Int.le_refl _
  | d + 1, j, hl => by
    have h1 := Leg.mono h d j (by omega)
    have h2 := h.p (j + d + 1) (by omega) (by omega)
    rw [show j + d + 1 - 1 = j + d by omega] at h2
    rw [show j + (d + 1) = j + d + 1 by omega]
    omega
theorem lstR_ge {t : Int} : ∀ {l : List Jb}, l.Pairwise (fun x y => x.f1 ≤ y.f1) → ∀ x ∈ l, x.f0 = t → ∃ b, lstR t l = some b ∧ x.f1 ≤ b
  | [], _, x, hx, _ => by simp at hx
  | y :: r, hp, x, hx, e => by
    rw [List.pairwise_cons] at hp
    rw [lstR]
    rcases List.mem_cons.mp hx with rfl | hx
    · cases e2 : lstR t r with
      | some b =>
        obtain ⟨z, hz, _, hb⟩ := lstR_mem e2
        exact ⟨b, rfl, by rw [← hb]; exact hp.1 z hz⟩
      | none => exact ⟨x.f1, by simp [e], Int.le_refl _⟩
    · obtain ⟨b, h1, h2⟩ := lstR_ge hp.2 x hx e
      rw [h1]; exact ⟨b, rfl, h2⟩
theorem Leg.pairwise (h : Leg n cost per ddl l) : l.Pairwise (fun x y => x.f1 ≤ y.f1) := by
  rw [List.pairwise_iff_getElem]
  intro i j hi hj hij
  have := h.mono (j - i) i (by omega)
  rw [show i + (j - i) = j by omega, rdJ_get l i hi, rdJ_get l j hj] at this
  exact this
/-- Two jobs of one task are a period apart. -/
theorem Leg.apart (h : Leg n cost per ddl l) {i j : Nat} (hij : j < i) (hi : i < l.length) (e : (rd_T57 l (j : Int)).f0 = (rd_T57 l (i : Int)).f0) : per (rd_T57 l (i : Int)).f0 ≤ (rd_T57 l (i : Int)).f1 - (rd_T57 l (j : Int)).f1 := by
  have hm : rd_T57 l (j : Int) ∈ l.take i := by
    rw [← rdJ_take hij (by omega)]
    exact rdJ_mem _ j (by rw [List.length_take]; omega)
  obtain ⟨b, h1, h2⟩ := lstR_ge ((h.take i).pairwise) _ hm e
  have := h.s i hi b h1
  omega
end

def costT (l : List Tk) (t : Int) : Int := (rd_T66 l t).f0
def ddlT (l : List Tk) (t : Int) : Int := (rd_T66 l t).f1
def perT (l : List Tk) (t : Int) : Int := (rd_T66 l t).f2
abbrev LegT (l : List Tk) (js : List Jb) : Prop := Leg (l.length : Int) (costT l) (perT l) (ddlT l) js

end Go.Proofs.Ytpgheaoepaadlaa.Pu
