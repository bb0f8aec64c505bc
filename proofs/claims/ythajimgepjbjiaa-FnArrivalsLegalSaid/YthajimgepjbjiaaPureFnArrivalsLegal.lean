/- The statement FnArrivalsLegal of the given program holds for every input: for every code of at most 2^20 bytes (and for longer ones at once) the law returns true. No further condition. -/
import Derived.Test.YthajimgepjbjiaaArrive
import Derived.Test.YthajimgepjbjiaaFlawsXFnArrivalsLegal
set_option linter.unusedSimpArgs false
set_option linter.unusedVariables false
namespace Go.Proofs.Ythajimgepjbjiaa.Pure
open Go.RowKit Go.Proofs.Ythajimgepjbjiaa.Q Go.Proofs.Ythajimgepjbjiaa.Pu Go.Proofs.YthajimgepjbjiaaW.PrintWords Go.Proofs.YthajimgepjbjiaaW.PrintLast

theorem okA_false {l : List Ar} {j : Nat} (h1 : (0 ≤ (rd_T27 l (j : Int)).f0 ∧ (rd_T27 l (j : Int)).f0 ≤ 119)) (h2 : (1 ≤ (rd_T27 l (j : Int)).f1 ∧ (rd_T27 l (j : Int)).f1 ≤ 20)) : okA l j = ordA l j := by
  unfold okA
  rw [decide_eq_true h1, decide_eq_true h2, Bool.true_and, Bool.true_and]
theorem implAr_loop (l : List Ar) (hl : l.length ≤ 100) : ∀ (d j k : Nat), j + d = l.length → d < k → impl_ArrivalsLegal.l0 k l l (l.length : Int) (j : Int) = some (aF l d j) := by
  intro d
  induction d with
  | zero =>
    intro j k hj hk
    obtain ⟨k, rfl⟩ : ∃ m, k = m + 1 := ⟨k - 1, by omega⟩
    rw [impl_ArrivalsLegal.l0]
    rw [if_neg (by omega)]
    rfl
  | succ d ih =>
    intro j k hj hk
    obtain ⟨k, rfl⟩ : ∃ m, k = m + 1 := ⟨k - 1, by omega⟩
    have hih := ih (j + 1) k (by omega) (by omega)
    rw [impl_ArrivalsLegal.l0, aF]
    rw [if_pos (by omega), if_pos (by omega), if_pos (by omega), in_eq, Option.bind_some, in_eq, Option.bind_some, anx j (by omega)]
    by_cases h1 : 0 ≤ (rd_T27 l (j : Int)).f0 ∧ (rd_T27 l (j : Int)).f0 ≤ 119
    · by_cases h2 : 1 ≤ (rd_T27 l (j : Int)).f1 ∧ (rd_T27 l (j : Int)).f1 ≤ 20
      · rw [okA_false h1 h2, decide_eq_true h1, decide_eq_true h2, if_pos rfl, if_pos rfl]
        cases j with
        | zero =>
          rw [if_neg (by omega), hih, show ordA l 0 = true from rfl, Bool.true_and]
        | succ i =>
          rw [if_pos (by omega), apx i (by omega), if_pos (by omega), if_pos (by omega)]
          rw [ordA]
          by_cases h3 : (rd_T27 l (i : Int)).f0 ≤ (rd_T27 l ((i + 1 : Nat) : Int)).f0
          · rw [if_neg (by omega), decide_eq_true h3, Bool.true_and, hih]
          · rw [if_pos (by omega), decide_eq_false h3, Bool.false_and]
      · unfold okA
        rw [decide_eq_true h1, decide_eq_false h2, if_pos rfl, if_neg (by simp), Bool.true_and, Bool.false_and, Bool.false_and]
    · unfold okA
      rw [decide_eq_false h1, if_neg (by simp), Bool.false_and, Bool.false_and]
theorem implAr_eq (l : List Ar) (hl : l.length ≤ 100) (k : Nat) (hk : 200 ≤ k) : impl_ArrivalsLegal.f k l = some (arO l) := by
  unfold impl_ArrivalsLegal.f arO
  exact implAr_loop l hl l.length 0 k (by omega) (by omega)
theorem specAr_loop (l : List Ar) (hl : l.length ≤ 100) : ∀ (d j k : Nat), j + d = l.length → d < k → spec_ArrivalsLegal.l0 k l (j : Int) = some (aF l d j) := by
  intro d
  induction d with
  | zero =>
    intro j k hj hk
    obtain ⟨k, rfl⟩ : ∃ m, k = m + 1 := ⟨k - 1, by omega⟩
    rw [spec_ArrivalsLegal.l0]
    rw [if_neg (by omega)]
    rfl
  | succ d ih =>
    intro j k hj hk
    obtain ⟨k, rfl⟩ : ∃ m, k = m + 1 := ⟨k - 1, by omega⟩
    have hih := ih (j + 1) k (by omega) (by omega)
    rw [spec_ArrivalsLegal.l0, aF]
    rw [if_pos (by omega), if_pos (by omega), l1In_eq, Option.bind_some, l1In_eq, Option.bind_some, anx j (by omega)]
    by_cases h1 : 0 ≤ (rd_T27 l (j : Int)).f0 ∧ (rd_T27 l (j : Int)).f0 ≤ 119
    · by_cases h2 : 1 ≤ (rd_T27 l (j : Int)).f1 ∧ (rd_T27 l (j : Int)).f1 ≤ 20
      · rw [okA_false h1 h2, decide_eq_true h1, decide_eq_true h2, if_pos rfl, if_pos rfl]
        cases j with
        | zero =>
          rw [if_neg (by omega), hih, show ordA l 0 = true from rfl, Bool.true_and]
        | succ i =>
          rw [if_pos (by omega), apx i (by omega), if_pos (by omega), if_pos (by omega)]
          rw [ordA]
          by_cases h3 : (rd_T27 l (i : Int)).f0 ≤ (rd_T27 l ((i + 1 : Nat) : Int)).f0
          · rw [if_neg (by omega), decide_eq_true h3, Bool.true_and, hih]
          · rw [if_pos (by omega), decide_eq_false h3, Bool.false_and]
      · unfold okA
        rw [decide_eq_true h1, decide_eq_false h2, if_pos rfl, if_neg (by simp), Bool.true_and, Bool.false_and, Bool.false_and]
    · unfold okA
      rw [decide_eq_false h1, if_neg (by simp), Bool.false_and, Bool.false_and]
theorem specAr_eq (l : List Ar) (hl : l.length ≤ 100) (k : Nat) (hk : 200 ≤ k) : spec_ArrivalsLegal.f k l = some (arO l) := by
  unfold spec_ArrivalsLegal.f arO
  exact specAr_loop l hl l.length 0 k (by omega) (by omega)

theorem rd_take (l : List Ar) (n j : Nat) (h : j < n) : rd_T27 (l.take n) (j : Int) = rd_T27 l (j : Int) := by
  simp only [rd_T27, Int.toNat_natCast, List.getD_eq_getElem?_getD]
  rw [List.getElem?_take_of_lt h]
theorem okA_take (l : List Ar) (n j : Nat) (h : j < n) : okA (l.take n) j = okA l j := by
  unfold okA
  rw [rd_take l n j h]
  congr 2
  cases j with
  | zero => rfl
  | succ i => rw [ordA, ordA, rd_take l n (i + 1) h, rd_take l n i (by omega)]
theorem arO_take {l : List Ar} (h : arO l = true) (n : Nat) (hn : n ≤ l.length) : arO (l.take n) = true := by
  rw [arO_iff] at h ⊢
  rw [List.length_take]
  exact ⟨by omega, fun i hi => by rw [okA_take l n i (by omega)]; exact h.2 i (by omega)⟩
theorem arO_order {l : List Ar} (h : arO l = true) (i : Nat) (hi : i + 1 < l.length) : (rd_T27 l (i : Int)).f0 ≤ (rd_T27 l ((i + 1 : Nat) : Int)).f0 := by
  have := ((arO_iff l).mp h).2 (i + 1) hi
  unfold okA at this
  rw [Bool.and_eq_true, Bool.and_eq_true] at this
  exact of_decide_eq_true this.2.2

theorem ar_loop (l : List Ar) (hl : l.length ≤ 100) : ∀ (d j k : Nat), j + d = l.length → 300 + d < k → laws_FnArrivalsLegal.l0 k l (arO l) (j : Int) = some true := by
  intro d
  induction d with
  | zero =>
    intro j k hj hk
    obtain ⟨k, rfl⟩ : ∃ m, k = m + 1 := ⟨k - 1, by omega⟩
    rw [laws_FnArrivalsLegal.l0]
    rw [if_neg (by omega), alive_eq]
    rfl
  | succ d ih =>
    intro j k hj hk
    obtain ⟨k, rfl⟩ : ∃ m, k = m + 1 := ⟨k - 1, by omega⟩
    have hih := ih (j + 1) k (by omega) (by omega)
    rw [laws_FnArrivalsLegal.l0]
    rw [if_pos (by omega), anx j (by omega)]
    by_cases h : arO l = true
    · have ht := arO_take h j (by omega)
      have hk2 : 200 ≤ k := by omega
      have htl : (l.take j).length ≤ 100 := by rw [List.length_take]; omega
      rw [if_pos h, if_pos (by omega), if_pos (by omega), Int.toNat_natCast, implAr_eq _ htl k hk2, Option.bind_some, if_pos ht]
      cases j with
      | zero => rw [if_neg (by omega)]; exact hih
      | succ i =>
        have ho := arO_order h i (by omega)
        rw [if_pos (by omega), apx i (by omega), if_pos (by omega), if_pos (by omega), if_neg (by omega)]
        exact hih
    · rw [if_neg h]
      exact hih

theorem FnArrivalsLegal : laws_FnArrivalsLegal.Pure := by
  intro l0 _ _ h8
  obtain ⟨K, hK⟩ : ∃ K, 100000 ≤ K := ⟨_, Nat.le_refl _⟩
  obtain ⟨K, rfl⟩ : ∃ m, K = m + 1 := ⟨K - 1, by omega⟩
  refine ⟨K + 1, ?_⟩
  unfold laws_FnArrivalsLegal.f
  by_cases hlong : (l0.length : Int) > 1048576
  · rw [if_pos hlong]
  rw [if_neg hlong]
  obtain ⟨b, hb, ho⟩ := open_ev l0 h8
  obtain ⟨l, q, hl, hs⟩ := arr_ev b hb 0 2 (by omega) (by omega)
  have hdraw : spec_DrawArrivalsLegal.f (K + 1) l0 = some l := by
    unfold spec_DrawArrivalsLegal.f
    rw [ho, Option.bind_some, hs (K + 1) (by omega)]
    rfl
  rw [hdraw, Option.bind_some, implAr_eq l (by omega) (K + 1) (by omega), Option.bind_some, specAr_eq l (by omega) (K + 1) (by omega), Option.bind_some, if_neg (by simp), implAr_eq [] (by rw [List.length_nil]; omega) (K + 1) (by omega), Option.bind_some, show arO [] = true from rfl, laws_FnArrivalsLegal.j0, if_neg (by simp)]
  exact ar_loop l (by omega) l.length 0 K (by omega) (by omega)

end Go.Proofs.Ythajimgepjbjiaa.Pure
