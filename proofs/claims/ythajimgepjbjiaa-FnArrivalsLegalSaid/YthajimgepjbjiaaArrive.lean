import Derived.Test.YthajimgepjbjiaaPA
import Derived.Test.YthajimgepjbjiaaFspecXl20Arrivals
set_option linter.unusedSimpArgs false
set_option linter.unusedVariables false
namespace Go.Proofs.Ythajimgepjbjiaa.Pu
open Go.RowKit Go.Proofs.Ythajimgepjbjiaa.Q Go.Proofs.YthajimgepjbjiaaW.PrintWords Go.Proofs.YthajimgepjbjiaaW.PrintLast

abbrev Ar := S27
theorem anx (j : Nat) (h : j ≤ 1000) : wrap64 ((j : Int) + 1) = ((j + 1 : Nat) : Int) := by rw [w64 (by omega) (by omega)]; omega
theorem apx (j : Nat) (h : j ≤ 1000) : wrap64 (((j + 1 : Nat) : Int) - 1) = (j : Int) := by rw [w64 (by omega) (by omega)]; omega
theorem arr_l1 (b : List Int) (p : Int) : ∀ (d : Nat) (l : List Ar), l.length + d = 21 → ∃ l', l'.length ≤ 40 ∧ ∀ k, d + 2 ≤ k → spec_l20Arrivals.l1 k l b p = some (l', p) := by
  intro d
  induction d with
  | zero =>
    intro l hl
    refine ⟨l, by omega, fun k hk => ?_⟩
    obtain ⟨k, rfl⟩ : ∃ m, k = m + 1 := ⟨k - 1, by omega⟩
    rw [spec_l20Arrivals.l1]
    rw [if_neg (by omega)]
  | succ d ih =>
    intro l hl
    obtain ⟨l', h1, h2⟩ := ih (l ++ [⟨119, 1⟩]) (by rw [List.length_append, List.length_singleton]; omega)
    refine ⟨l', h1, fun k hk => ?_⟩
    obtain ⟨k, rfl⟩ : ∃ m, k = m + 1 := ⟨k - 1, by omega⟩
    rw [spec_l20Arrivals.l1]
    rw [if_pos (by omega), if_pos (by omega)]
    exact h2 k (by omega)
theorem arr_l0 (b : List Int) (hb : Bytes b) (n : Int) : ∀ (d : Nat) (l : List Ar) (t p : Int), l.length + d ≤ 12 → 0 ≤ t → t ≤ 1000 - 14 * d → 0 ≤ p → p ≤ 800000 - 3 * d → ∃ l' q, l'.length ≤ 40 ∧ ∀ k, d + 40 ≤ k → spec_l20Arrivals.l0 k n l t (d : Int) b p = some (l', q) := by
  intro d
  induction d with
  | zero =>
    intro l t p hl ht0 ht hp0 hp
    obtain ⟨o, q, hq1, hq2, ho⟩ := odd_ev b hb p n hp0 (by omega)
    cases o with
    | false =>
      refine ⟨l, q, by omega, fun k hk => ?_⟩
      obtain ⟨k, rfl⟩ : ∃ m, k = m + 1 + 1 := ⟨k - 2, by omega⟩
      rw [spec_l20Arrivals.l0]
      rw [if_neg (by omega), ho k, Option.bind_some, if_neg (by simp)]
    | true =>
      obtain ⟨s, s0, s1, hs⟩ := pick_ev b hb q 3 (by omega) (by omega)
      obtain ⟨r, r0, r1, hr⟩ := pick_ev b hb (q + 1) 2 (by omega) (by omega)
      have l2 : r < (([-1, 120] : List Int).length : Int) := by simp; omega
      have l3 : r < (([0, 21] : List Int).length : Int) := by simp; omega
      by_cases z0 : s = 0
      · refine ⟨l ++ [⟨rd [-1, 120] r, 1⟩], q + 1 + 1, by rw [List.length_append, List.length_singleton]; omega, fun k hk => ?_⟩
        obtain ⟨k, rfl⟩ : ∃ m, k = m + 1 + 1 := ⟨k - 2, by omega⟩
        rw [spec_l20Arrivals.l0]
        rw [if_neg (by omega), ho k, Option.bind_some, if_pos rfl, hs k, Option.bind_some, if_pos z0, Option.bind_some, hr k, Option.bind_some, if_pos r0, if_pos l2, if_pos (by omega)]
      · by_cases z1 : s = 1
        · refine ⟨l ++ [⟨119, rd [0, 21] r⟩], q + 1 + 1, by rw [List.length_append, List.length_singleton]; omega, fun k hk => ?_⟩
          obtain ⟨k, rfl⟩ : ∃ m, k = m + 1 + 1 := ⟨k - 2, by omega⟩
          rw [spec_l20Arrivals.l0]
          rw [if_neg (by omega), ho k, Option.bind_some, if_pos rfl, hs k, Option.bind_some, if_neg z0, if_pos z1, Option.bind_some, hr k, Option.bind_some, if_pos r0, if_pos l3, if_pos (by omega)]
        · obtain ⟨l', h1, h2⟩ := arr_l1 b (q + 1) (21 - l.length) l (by omega)
          refine ⟨l', q + 1, h1, fun k hk => ?_⟩
          obtain ⟨k, rfl⟩ : ∃ m, k = m + 1 + 1 := ⟨k - 2, by omega⟩
          rw [spec_l20Arrivals.l0]
          rw [if_neg (by omega), ho k, Option.bind_some, if_pos rfl, hs k, Option.bind_some, if_neg z0, if_neg z1]
          exact h2 (k + 1) (by omega)
  | succ d ih =>
    intro l t p hl ht0 ht hp0 hp
    obtain ⟨s, s0, s1, hs⟩ := pick_ev b hb p 14 hp0 (by omega)
    obtain ⟨r, r0, r1, hr⟩ := pick_ev b hb (p + 1) 10 (by omega) (by omega)
    have e1 : wrap64 (t + s) = t + s := w64 (by omega) (by omega)
    have e2 : wrap64 (1 + r) = 1 + r := w64 (by omega) (by omega)
    have e3 : wrap64 (((d + 1 : Nat) : Int) - 1) = (d : Int) := by rw [w64 (by omega) (by omega)]; omega
    by_cases c : t + s < 120
    · obtain ⟨l', q, h1, h2⟩ := ih (l ++ [⟨t + s, 1 + r⟩]) (t + s) (p + 1 + 1) (by rw [List.length_append, List.length_singleton]; omega) (by omega) (by omega) (by omega) (by omega)
      refine ⟨l', q, h1, fun k hk => ?_⟩
      obtain ⟨k, rfl⟩ : ∃ m, k = m + 1 + 1 := ⟨k - 2, by omega⟩
      rw [spec_l20Arrivals.l0]
      rw [if_pos (by omega), hs k, Option.bind_some, e1, if_pos c, hr k, Option.bind_some, e2, e3, if_pos (by omega)]
      exact h2 (k + 1) (by omega)
    · obtain ⟨l', q, h1, h2⟩ := ih l (t + s) (p + 1) (by omega) (by omega) (by omega) (by omega) (by omega)
      refine ⟨l', q, h1, fun k hk => ?_⟩
      obtain ⟨k, rfl⟩ : ∃ m, k = m + 1 + 1 := ⟨k - 2, by omega⟩
      rw [spec_l20Arrivals.l0]
      rw [if_pos (by omega), hs k, Option.bind_some, e1, if_neg c, e3]
      exact h2 (k + 1) (by omega)
theorem arr_ev (b : List Int) (hb : Bytes b) (p n : Int) (hp0 : 0 ≤ p) (hp : p ≤ 700000) : ∃ l q, l.length ≤ 40 ∧ ∀ k, 60 ≤ k → spec_l20Arrivals.f k b p n = some (l, q) := by
  obtain ⟨r, r0, r1, hr⟩ := pick_ev b hb p 11 hp0 (by omega)
  obtain ⟨d, rfl⟩ := Int.eq_ofNat_of_zero_le r0
  obtain ⟨l', q, h1, h2⟩ := arr_l0 b hb n d [] 0 (p + 1) (by rw [List.length_nil]; omega) (by omega) (by omega) (by omega) (by omega)
  refine ⟨l', q, h1, fun k hk => ?_⟩
  obtain ⟨k, rfl⟩ : ∃ m, k = m + 1 := ⟨k - 1, by omega⟩
  unfold spec_l20Arrivals.f
  rw [hr k, Option.bind_some]
  exact h2 (k + 1) (by omega)

def ordA (l : List Ar) : Nat → Bool
  | 0 => true
  | i + 1 => decide ((rd_T27 l (i : Int)).f0 ≤ (rd_T27 l ((i + 1 : Nat) : Int)).f0)
/-- One request is in order. -/
def okA (l : List Ar) (j : Nat) : Bool := decide (0 ≤ (rd_T27 l (j : Int)).f0 ∧ (rd_T27 l (j : Int)).f0 ≤ 119) && (decide (1 ≤ (rd_T27 l (j : Int)).f1 ∧ (rd_T27 l (j : Int)).f1 ≤ 20) && ordA l j)
def aF (l : List Ar) : Nat → Nat → Bool
  | 0, _ => decide ((l.length : Int) ≤ 20)
  | d + 1, j => okA l j && aF l d (j + 1)
/-- ArrivalsLegal. -/
def arO (l : List Ar) : Bool := aF l l.length 0
theorem aF_iff (l : List Ar) : ∀ (d j : Nat), aF l d j = true ↔ l.length ≤ 20 ∧ ∀ i, j ≤ i → i < j + d → okA l i = true := by
  intro d
  induction d with
  | zero =>
    intro j
    simp only [aF, decide_eq_true_eq]
    exact ⟨fun h => ⟨by omega, fun i a b => by omega⟩, fun h => by omega⟩
  | succ d ih =>
    intro j
    simp only [aF, Bool.and_eq_true]
    rw [ih (j + 1)]
    constructor
    · rintro ⟨h1, h2, h3⟩
      refine ⟨h2, fun i a b => ?_⟩
      by_cases e : i = j
      · rw [e]; exact h1
      · exact h3 i (by omega) (by omega)
    · rintro ⟨h1, h2⟩
      exact ⟨h2 j (by omega) (by omega), h1, fun i a b => h2 i (by omega) (by omega)⟩
theorem arO_iff (l : List Ar) : arO l = true ↔ l.length ≤ 20 ∧ ∀ i, i < l.length → okA l i = true := by
  unfold arO
  rw [aF_iff]
  exact ⟨fun h => ⟨h.1, fun i a => h.2 i (by omega) (by omega)⟩, fun h => ⟨h.1, fun i a b => h.2 i (by omega)⟩⟩

end Go.Proofs.Ythajimgepjbjiaa.Pu
