/- The statement FnSpeedFeasible of the given program holds for every input: for every code of at most 2^20 bytes (and for longer ones at once) the law returns true. No further condition. -/
import Derived.Test.YtmjclbjafodakaaSpeed
import Derived.Test.YtmjclbjafodakaaImplEdf
import Derived.Test.YtmjclbjafodakaaFlawsXFnSpeedFeasible
set_option linter.unusedSimpArgs false
set_option linter.unusedVariables false
namespace Go.Proofs.Ytmjclbjafodakaa.Pure
open Go.RowKit Go.Proofs.Ytmjclbjafodakaa.Q Go.Proofs.Ytmjclbjafodakaa.Pu Go.Proofs.YtmjclbjafodakaaW.PrintWords Go.Proofs.YtmjclbjafodakaaW.PrintLast

theorem spO_iff {l : List Tk} {n d : Int} : spO l n d = true ↔ Ok l ∧ (1 ≤ n ∧ n ≤ 100) ∧ (1 ≤ d ∧ d ≤ 100) ∧ ∀ s, 1 ≤ s → s ≤ hyp l → dem l s * d ≤ s * n := by
  unfold spO
  rw [Bool.and_eq_true, Bool.and_eq_true, Bool.and_eq_true, setOk_iff, decide_eq_true_eq, decide_eq_true_eq, spd_iff]
  constructor
  · rintro ⟨⟨⟨a, b⟩, c⟩, d⟩; exact ⟨a, b, c, d⟩
  · rintro ⟨a, b, c, d⟩; exact ⟨⟨⟨a, b⟩, c⟩, d⟩
theorem sp_one (l : List Tk) : spO l 1 1 = edf l := by
  rw [Bool.eq_iff_iff, spO_iff, edf_iff]
  constructor
  · rintro ⟨a, _, _, d⟩; exact ⟨a, fun s h1 h2 => by have := d s h1 h2; omega⟩
  · rintro ⟨a, d⟩; exact ⟨a, by omega, by omega, fun s h1 h2 => by have := d s h1 h2; omega⟩
theorem sp_two (l : List Tk) (n d : Int) (hn : 1 ≤ n ∧ n ≤ 50) (hd : 1 ≤ d ∧ d ≤ 50) : spO l (2 * n) (2 * d) = spO l n d := by
  rw [Bool.eq_iff_iff, spO_iff, spO_iff]
  have e : ∀ s, dem l s * (2 * d) ≤ s * (2 * n) ↔ dem l s * d ≤ s * n := by
    intro s
    rw [Int.mul_left_comm, Int.mul_left_comm s]; omega
  constructor
  · rintro ⟨a, _, _, h⟩; exact ⟨a, by omega, by omega, fun s h1 h2 => (e s).mp (h s h1 h2)⟩
  · rintro ⟨a, _, _, h⟩; exact ⟨a, by omega, by omega, fun s h1 h2 => (e s).mpr (h s h1 h2)⟩
theorem sp_more (l : List Tk) (n d : Int) (hn : 1 ≤ n ∧ n ≤ 50) (h : spO l n d = true) : spO l (n + 1) d = true := by
  rw [spO_iff] at h ⊢
  obtain ⟨a, b, c, h⟩ := h
  refine ⟨a, by omega, c, fun s h1 h2 => ?_⟩
  have := h s h1 h2
  rw [Int.mul_add]; omega
theorem sp_less (l : List Tk) (n d : Int) (hd : 2 ≤ d) (h : spO l n d = true) : spO l n (d - 1) = true := by
  rw [spO_iff] at h ⊢
  obtain ⟨a, b, c, h⟩ := h
  refine ⟨a, b, by omega, fun s h1 h2 => ?_⟩
  have := h s h1 h2
  have := (dem_bd a s (by omega)).1
  rw [Int.mul_sub]; omega

theorem drawSp (l0 : List Int) (h8 : ∀ x ∈ l0, (Lit.int .u8 x).wf = true) : ∃ l n d, Bd l ∧ (0 ≤ n ∧ n ≤ 101) ∧ (0 ≤ d ∧ d ≤ 101) ∧ ∀ k, 100 ≤ k → spec_DrawSpeedFeasible.f k l0 = some (l, n, d) := by
  obtain ⟨b, hb, ho⟩ := open_ev l0 h8
  obtain ⟨l, q, hl, _, _, hs⟩ := set_ev b hb 0 12 (by omega) (by omega)
  obtain ⟨r1, a1, b1, h1⟩ := pick_ev b hb q 20 (by omega) (by omega)
  obtain ⟨r2, a2, b2, h2⟩ := pick_ev b hb (q + 1) 7 (by omega) (by omega)
  obtain ⟨r3, a3, b3, h3⟩ := pick_ev b hb (q + 1 + 1) 12 (by omega) (by omega)
  obtain ⟨r4, a4, b4, h4⟩ := pick_ev b hb (q + 1 + 1 + 1) 7 (by omega) (by omega)
  have w1 : wrap64 (1 + r1) = 1 + r1 := w64 (by omega) (by omega)
  have w3 : wrap64 (1 + r3) = 1 + r3 := w64 (by omega) (by omega)
  have l2 : r2 < (([0, 0, 0, 0, 0, 1, 2] : List Int).length : Int) := by simp; omega
  have p2 := rd_bd [0, 0, 0, 0, 0, 1, 2] 0 2 r2 a2 l2 (by intro x hx; simp at hx; omega)
  have l4 : r4 < (([0, 0, 0, 0, 0, 1, 2] : List Int).length : Int) := by simp; omega
  have p4 := rd_bd [0, 0, 0, 0, 0, 1, 2] 0 2 r4 a4 l4 (by intro x hx; simp at hx; omega)
  generalize hR : rd [0, 0, 0, 0, 0, 1, 2] r2 = R at p2
  generalize hS : rd [0, 0, 0, 0, 0, 1, 2] r4 = S at p4
  have l5 : R < (([1 + r1, 0, 101] : List Int).length : Int) := by simp; omega
  have p5 := rd_bd [1 + r1, 0, 101] 0 101 R p2.1 l5 (by intro x hx; simp at hx; omega)
  have l6 : S < (([1 + r3, 0, 101] : List Int).length : Int) := by simp; omega
  have p6 := rd_bd [1 + r3, 0, 101] 0 101 S p4.1 l6 (by intro x hx; simp at hx; omega)
  refine ⟨l, _, _, hl, p5, p6, fun k hk => ?_⟩
  obtain ⟨k, rfl⟩ : ∃ m, k = m + 1 := ⟨k - 1, by omega⟩
  unfold spec_DrawSpeedFeasible.f
  rw [ho]
  simp only [Option.bind_some]
  rw [hs (k + 1) (by omega)]
  simp only [Option.bind_some, h1, w1, h2]
  rw [if_pos a2, if_pos l2, hR, if_pos p2.1, if_pos l5]
  simp only [Option.bind_some, h3, w3, h4]
  rw [if_pos a4, if_pos l4, hS, if_pos p4.1, if_pos l6]

theorem FnSpeedFeasible : laws_FnSpeedFeasible.Pure := by
  intro l0 _ _ h8
  obtain ⟨K, hK⟩ : ∃ K, 10000000 ≤ K := ⟨_, Nat.le_refl _⟩
  refine ⟨K, ?_⟩
  unfold laws_FnSpeedFeasible.f
  by_cases hlong : (l0.length : Int) > 1048576
  · rw [if_pos hlong]
  rw [if_neg hlong]
  obtain ⟨l, n, d, hl, hn, hd, hdr⟩ := drawSp l0 h8
  have hlen := hl.len
  rw [hdr K (by omega)]
  simp only [Option.bind_some]
  rw [implSp_eq l n d K (by omega), specSp_eq l (by omega) n d K (by omega), implSp_eq l 1 1 K (by omega), implEdf_eq l K (by omega), sp_one]
  simp only [Option.bind_some]
  rw [if_neg (by simp)]
  obtain ⟨k, rfl⟩ : ∃ m, K = m + 1 + 1 := ⟨K - 2, by omega⟩
  have hT : laws_FnSpeedFeasible.j1 (k + 1) l n d (spO l n d) true = some true := by
    rw [laws_FnSpeedFeasible.j1]; rw [if_pos rfl, alive_eq]; rfl
  rw [show (edf l != edf l) = false from by simp, laws_FnSpeedFeasible.j0]
  rw [if_neg (by simp)]
  by_cases c1 : n < 1
  · rw [if_pos c1]; exact hT
  rw [if_neg c1]
  by_cases c2 : n > 50
  · rw [if_pos c2]; exact hT
  rw [if_neg c2]
  by_cases c3 : d < 1
  · rw [if_pos c3]; exact hT
  rw [if_neg c3]
  by_cases c4 : d > 50
  · rw [decide_eq_true c4]; exact hT
  rw [decide_eq_false c4, laws_FnSpeedFeasible.j1]
  rw [if_neg (by simp), w64 (n := 2 * n) (by omega) (by omega), w64 (n := 2 * d) (by omega) (by omega), implSp_eq l _ _ k (by omega), sp_two l n d (by omega) (by omega)]
  simp only [Option.bind_some]
  rw [if_pos (by simp), alive_eq]
  by_cases ok : spO l n d = true
  · rw [if_pos ok, w64 (n := n + 1) (by omega) (by omega), implSp_eq l _ _ k (by omega), sp_more l n d (by omega) ok]
    simp only [Option.bind_some]
    rw [if_pos trivial]
    by_cases c5 : d = 1
    · rw [if_pos c5]
    · rw [if_neg c5, w64 (n := d - 1) (by omega) (by omega), implSp_eq l _ _ k (by omega), sp_less l n d (by omega) ok]
      rfl
  · rw [if_neg ok]
    rfl

end Go.Proofs.Ytmjclbjafodakaa.Pure
