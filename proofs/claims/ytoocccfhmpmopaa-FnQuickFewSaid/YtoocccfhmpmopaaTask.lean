import Derived.Test.YtoocccfhmpmopaaReader
import Derived.Test.YtoocccfhmpmopaaFspecXl20Task
import Derived.Test.YtoocccfhmpmopaaFA
set_option linter.unusedSimpArgs false
set_option linter.unusedVariables false
namespace Go.Proofs.Ytoocccfhmpmopaa.Pu
open Go.RowKit Go.Proofs.Ytoocccfhmpmopaa.Q Go.Proofs.YtoocccfhmpmopaaW.PrintWords Go.Proofs.YtoocccfhmpmopaaW.PrintLast

theorem rd_mem (l : List Int) (i : Int) (h0 : 0 ≤ i) (h : i < (l.length : Int)) : rd l i ∈ l := by
  unfold rd
  rw [List.getD_eq_getElem?_getD, List.getElem?_eq_getElem (show i.toNat < l.length by omega), Option.getD_some]
  exact List.getElem_mem _
theorem rd_bd (l : List Int) (lo hi i : Int) (h0 : 0 ≤ i) (h : i < (l.length : Int)) (hl : ∀ x ∈ l, lo ≤ x ∧ x ≤ hi) : lo ≤ rd l i ∧ rd l i ≤ hi := hl _ (rd_mem l i h0 h)
theorem mx_bd (a b : Int) : a ≤ mx a b ∧ b ≤ mx a b ∧ (mx a b = a ∨ mx a b = b) := by unfold mx; split <;> omega
theorem mn_bd (a b : Int) : mn a b ≤ a ∧ mn a b ≤ b ∧ (mn a b = a ∨ mn a b = b) := by unfold mn; split <;> omega

theorem open_ev (l0 : List Int) (h8 : ∀ x ∈ l0, (Lit.int .u8 x).wf = true) : ∃ b, Bytes b ∧ spec_l20Open.f l0 = some (b, 0) := by
  have hby : ∀ x ∈ l0, 0 ≤ x ∧ x ≤ 255 := fun x hx => by
    have := h8 x hx
    simp [Lit.wf, IntKind.min, IntKind.max, IntKind.signed, IntKind.bits] at this
    omega
  unfold spec_l20Open.f
  by_cases h : (l0.length : Int) > 2000
  · rw [if_pos h, if_pos (by omega)]
    exact ⟨_, ⟨by rw [List.length_take]; omega, fun x hx => hby x (List.mem_of_mem_take hx)⟩, rfl⟩
  · rw [if_neg h]
    exact ⟨_, ⟨by omega, hby⟩, rfl⟩

theorem task_ev (b : List Int) (hb : Bytes b) (p n : Int) (hp0 : 0 ≤ p) (hp : p ≤ 900000) :
    ∃ c d e q, p ≤ q ∧ q ≤ p + 20 ∧ (-1 ≤ c ∧ c ≤ 13) ∧ (-1 ≤ d ∧ d ≤ 13) ∧ (-1 ≤ e ∧ e ≤ 13) ∧ (n ≤ 0 → 1 ≤ c ∧ c ≤ d ∧ d ≤ e ∧ e ≤ 12 ∧ c ≤ 8) ∧ ∀ k, spec_l20Task.f (k + 2) b p n = some (c, d, e, q) := by
  obtain ⟨r1, a1, b1, h1⟩ := pick_ev b hb p 12 hp0 (by omega)
  have w1 : wrap64 (1 + r1) = 1 + r1 := w64 (by omega) (by omega)
  obtain ⟨r2, a2, b2, h2⟩ := pick_ev b hb (p + 1) 8 (by omega) (by omega)
  have l2 : r2 < (([2, 3, 4, 6, 8, 12, 1 + r1, 5] : List Int).length : Int) := by simp; omega
  have p2 := rd_bd [2, 3, 4, 6, 8, 12, 1 + r1, 5] 1 12 r2 a2 l2 (by intro x hx; simp at hx; omega)
  obtain ⟨P, hP⟩ : ∃ P, rd [2, 3, 4, 6, 8, 12, 1 + r1, 5] r2 = P := ⟨_, rfl⟩
  rw [hP] at p2
  obtain ⟨r3, a3, b3, h3⟩ := pick_ev b hb (p + 1 + 1) P (by omega) (by omega)
  have w3 : wrap64 (1 + r3) = 1 + r3 := w64 (by omega) (by omega)
  have w3' : wrap64 (P - 1) = P - 1 := w64 (by omega) (by omega)
  have m3 := mx_bd 1 (P - 1)
  obtain ⟨r4, a4, b4, h4⟩ := pick_ev b hb (p + 1 + 1 + 1) 3 (by omega) (by omega)
  have l4 : r4 < (([P, 1 + r3, mx 1 (P - 1)] : List Int).length : Int) := by simp; omega
  have p4 := rd_bd [P, 1 + r3, mx 1 (P - 1)] 1 P r4 a4 l4 (by intro x hx; simp at hx; omega)
  obtain ⟨D, hD⟩ : ∃ D, rd [P, 1 + r3, mx 1 (P - 1)] r4 = D := ⟨_, rfl⟩
  rw [hD] at p4
  have t2 : Int.tdiv D 2 = D / 2 := Int.tdiv_eq_ediv_of_nonneg (by omega)
  have t3 : Int.tdiv D 3 = D / 3 := Int.tdiv_eq_ediv_of_nonneg (by omega)
  have w5 : wrap64 (D / 2) = D / 2 := w64 (by omega) (by omega)
  have w6 : wrap64 (D / 3) = D / 3 := w64 (by omega) (by omega)
  have m5 := mx_bd 1 (D / 2)
  have m6 := mx_bd 1 (D / 3)
  obtain ⟨r5, a5, b5, h5⟩ := pick_ev b hb (p + 1 + 1 + 1 + 1) 3 (by omega) (by omega)
  have l5 : r5 < (([D, mx 1 (D / 2), mx 1 (D / 3)] : List Int).length : Int) := by simp; omega
  have p5 := rd_bd [D, mx 1 (D / 2), mx 1 (D / 3)] 1 D r5 a5 l5 (by intro x hx; simp at hx; omega)
  obtain ⟨E, hE⟩ : ∃ E, rd [D, mx 1 (D / 2), mx 1 (D / 3)] r5 = E := ⟨_, rfl⟩
  rw [hE] at p5
  have m7 := mn_bd 8 E
  obtain ⟨r6, a6, b6, h6⟩ := pick_ev b hb (p + 1 + 1 + 1 + 1 + 1) (mn 8 E) (by omega) (by omega)
  have w7 : wrap64 (1 + r6) = 1 + r6 := w64 (by omega) (by omega)
  have main : ∀ k, spec_l20Task.f (k + 1) b p n = spec_l20Task.j0 (k + 1) n b (p + 1 + 1 + 1 + 1 + 1 + 1) (1 + r6) D P := by
    intro k
    unfold spec_l20Task.f
    simp only [h1, Option.bind_some, w1, h2]
    rw [if_pos a2, if_pos l2]
    simp only [hP, h3, Option.bind_some, w3, w3', h4]
    rw [if_pos a4, if_pos l4]
    simp only [hD, Option.bind_some, t2, t3, w5, w6, h5]
    rw [if_pos a5, if_pos l5]
    simp only [hE, h6, Option.bind_some, w7]
  have fin : (1 ≤ 1 + r6 ∧ 1 + r6 ≤ D ∧ D ≤ P ∧ P ≤ 12 ∧ 1 + r6 ≤ 8) := by omega
  by_cases hn : n > 0
  · obtain ⟨o, q, hq1, hq2, ho⟩ := odd_ev b hb (p + 1 + 1 + 1 + 1 + 1 + 1) n (by omega) (by omega)
    cases o with
    | false =>
      refine ⟨1 + r6, D, P, q, by omega, by omega, by omega, by omega, by omega, fun _ => fin, fun k => ?_⟩
      rw [main, spec_l20Task.j0, ho]
      rfl
    | true =>
      obtain ⟨s1, c1, d1, g1⟩ := pick_ev b hb q 3 (by omega) (by omega)
      by_cases z0 : s1 = 0
      · obtain ⟨s2, c2, d2, g2⟩ := pick_ev b hb (q + 1) 4 (by omega) (by omega)
        have w8 : wrap64 (D + 1) = D + 1 := w64 (by omega) (by omega)
        have l8 : s2 < (([0, -1, 9, D + 1] : List Int).length : Int) := by simp; omega
        have p8 := rd_bd [0, -1, 9, D + 1] (-1) 13 s2 c2 l8 (by intro x hx; simp at hx; omega)
        refine ⟨_, D, P, q + 1 + 1, by omega, by omega, p8, by omega, by omega, fun h => by omega, fun k => ?_⟩
        rw [main, spec_l20Task.j0, ho]
        simp only [Option.bind_some, if_true, g1, w8, g2]
        rw [if_pos z0, if_pos c2, if_pos l8]
      · by_cases z1 : s1 = 1
        · obtain ⟨s2, c2, d2, g2⟩ := pick_ev b hb (q + 1) 3 (by omega) (by omega)
          have w8 : wrap64 (P + 1) = P + 1 := w64 (by omega) (by omega)
          have l8 : s2 < (([0, P + 1, -1] : List Int).length : Int) := by simp; omega
          have p8 := rd_bd [0, P + 1, -1] (-1) 13 s2 c2 l8 (by intro x hx; simp at hx; omega)
          refine ⟨1 + r6, _, P, q + 1 + 1, by omega, by omega, by omega, p8, by omega, fun h => by omega, fun k => ?_⟩
          rw [main, spec_l20Task.j0, ho]
          simp only [Option.bind_some, if_true, g1, w8, g2]
          rw [if_neg z0, if_pos z1, if_pos c2, if_pos l8]
        · obtain ⟨s2, c2, d2, g2⟩ := pick_ev b hb (q + 1) 3 (by omega) (by omega)
          have l8 : s2 < (([0, 13, -1] : List Int).length : Int) := by simp; omega
          have p8 := rd_bd [0, 13, -1] (-1) 13 s2 c2 l8 (by intro x hx; simp at hx; omega)
          refine ⟨1 + r6, D, _, q + 1 + 1, by omega, by omega, by omega, by omega, p8, fun h => by omega, fun k => ?_⟩
          rw [main, spec_l20Task.j0, ho]
          simp only [Option.bind_some, if_true, g1, g2]
          rw [if_neg z0, if_neg z1, if_pos c2, if_pos l8]
  · refine ⟨1 + r6, D, P, p + 1 + 1 + 1 + 1 + 1 + 1, by omega, by omega, by omega, by omega, by omega, fun _ => fin, fun k => ?_⟩
    rw [main, spec_l20Task.j0]
    unfold spec_l20Rd_odd.f
    rw [if_neg hn]
    rfl

end Go.Proofs.Ytoocccfhmpmopaa.Pu
