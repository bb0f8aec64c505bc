import Derived.Test.YthpnfipkgfbbeaaSet
import Derived.Test.YthpnfipkgfbbeaaFspecXDrawDemand
set_option linter.unusedSimpArgs false
set_option linter.unusedVariables false
namespace Go.Proofs.Ythpnfipkgfbbeaa.Pu
open Go.RowKit Go.Proofs.Ythpnfipkgfbbeaa.Q Go.Proofs.YthpnfipkgfbbeaaW.PrintWords Go.Proofs.YthpnfipkgfbbeaaW.PrintLast

theorem drawDem (l0 : List Int) (h8 : ∀ x ∈ l0, (Lit.int .u8 x).wf = true) : ∃ l t, Bd l ∧ -1 ≤ t ∧ t ≤ 1785 ∧ ∀ k, 100 ≤ k → spec_DrawDemand.f k l0 = some (l, t) := by
  obtain ⟨b, hb, ho⟩ := open_ev l0 h8
  obtain ⟨l, q, hl, _, _, hs⟩ := set_ev b hb 0 12 (by omega) (by omega)
  obtain ⟨r1, a1, b1, h1⟩ := pick_ev b hb q 40 (by omega) (by omega)
  obtain ⟨r2, a2, b2, h2⟩ := pick_ev b hb (q + 1) 256 (by omega) (by omega)
  obtain ⟨r3, a3, b3, h3⟩ := pick_ev b hb (q + 1 + 1) 6 (by omega) (by omega)
  have w1 : wrap64 (r2 * 7) = r2 * 7 := w64 (by omega) (by omega)
  have l3 : r3 < (([0, 0, 0, 0, 1, 2] : List Int).length : Int) := by simp; omega
  have p3 := rd_bd [0, 0, 0, 0, 1, 2] 0 2 r3 a3 l3 (by intro x hx; simp at hx; omega)
  generalize hR : rd [0, 0, 0, 0, 1, 2] r3 = R at p3
  have l4 : R < (([r1, r2 * 7, -1] : List Int).length : Int) := by simp; omega
  have p4 := rd_bd [r1, r2 * 7, -1] (-1) 1785 R p3.1 l4 (by intro x hx; simp at hx; omega)
  refine ⟨l, _, hl, p4.1, p4.2, fun k hk => ?_⟩
  obtain ⟨k, rfl⟩ : ∃ m, k = m + 1 := ⟨k - 1, by omega⟩
  unfold spec_DrawDemand.f
  rw [ho]
  simp only [Option.bind_some]
  rw [hs (k + 1) (by omega)]
  simp only [Option.bind_some, h1, h2, w1, h3]
  rw [if_pos a3, if_pos l3, hR, if_pos p3.1, if_pos l4]

end Go.Proofs.Ythpnfipkgfbbeaa.Pu
