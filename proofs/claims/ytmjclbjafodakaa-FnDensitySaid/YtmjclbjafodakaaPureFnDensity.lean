/- The statement FnDensity of the given program holds for every input: for every code of at most 2^20 bytes (and for longer ones at once) the law returns true. No further condition. -/
import Derived.Test.YtmjclbjafodakaaDens
import Derived.Test.YtmjclbjafodakaaImplEdf
import Derived.Test.YtmjclbjafodakaaFlawsXFnDensity
set_option linter.unusedSimpArgs false
set_option linter.unusedVariables false
namespace Go.Proofs.Ytmjclbjafodakaa.Pure
open Go.RowKit Go.Proofs.Ytmjclbjafodakaa.Q Go.Proofs.Ytmjclbjafodakaa.Pu Go.Proofs.YtmjclbjafodakaaW.PrintWords Go.Proofs.YtmjclbjafodakaaW.PrintLast

theorem dn_loop (l : List Tk) (c : Int) (h : dens l c = true) : ∀ (d j k : Nat), j + d = l.length → 300000 + d < k → laws_FnDensity.l0 k l c (j : Int) = some true := by
  have hok := ((dens_iff l c).mp h).1
  have hc := ((dens_iff l c).mp h).2.1
  have hlen := hok.len
  intro d
  induction d with
  | zero =>
    intro j k hj hk
    obtain ⟨k, rfl⟩ : ∃ m, k = m + 1 := ⟨k - 1, by omega⟩
    rw [laws_FnDensity.l0]
    rw [if_neg (by omega)]
    by_cases h5 : c = 5
    · rw [if_pos h5]
    · rw [if_neg h5, w64 (n := c + 1) (by omega) (by omega), implDens_eq _ _ k (by omega), Option.bind_some, dens_more h h5]
  | succ d ih =>
    intro j k hj hk
    obtain ⟨k, rfl⟩ : ∃ m, k = m + 1 := ⟨k - 1, by omega⟩
    rw [laws_FnDensity.l0]
    rw [if_pos (by omega), without_eq l (by omega) j (by omega), Option.bind_some, implDens_eq _ _ k (by omega), Option.bind_some, if_pos (dens_wo h (by omega)), nx j (by omega)]
    exact ih (j + 1) k (by omega) (by omega)

theorem cores_ev (b : List Int) (hb : Bytes b) (p n : Int) (hp0 : 0 ≤ p) (hp : p ≤ 900000) :
    ∃ c q, -1 ≤ c ∧ c ≤ 6 ∧ p ≤ q ∧ q ≤ p + 2 ∧ ∀ k, spec_l20Cores.f (k + 1) b p n = some (c, q) := by
  obtain ⟨o, q, hq1, hq2, ho⟩ := odd_ev b hb p n hp0 (by omega)
  cases o with
  | false =>
    obtain ⟨r, a1, b1, h1⟩ := pick_ev b hb q 4 (by omega) (by omega)
    refine ⟨1 + r, q + 1, by omega, by omega, by omega, by omega, fun k => ?_⟩
    unfold spec_l20Cores.f
    rw [ho k, Option.bind_some, if_neg (by simp), h1 k, Option.bind_some, w64 (n := 1 + r) (by omega) (by omega)]
  | true =>
    obtain ⟨r, a1, b1, h1⟩ := pick_ev b hb q 3 (by omega) (by omega)
    have l8 : r < (([0, -1, 6] : List Int).length : Int) := by simp; omega
    have p8 := rd_bd [0, -1, 6] (-1) 6 r a1 l8 (by intro x hx; simp at hx; omega)
    refine ⟨rd [0, -1, 6] r, q + 1, p8.1, p8.2, by omega, by omega, fun k => ?_⟩
    unfold spec_l20Cores.f
    rw [ho k, Option.bind_some, if_pos rfl, Option.bind_some, h1 k, Option.bind_some, if_pos a1, if_pos l8]

theorem FnDensity : laws_FnDensity.Pure := by
  intro l0 _ _ h8
  obtain ⟨K, hK⟩ : ∃ K, 10000000 ≤ K := ⟨_, Nat.le_refl _⟩
  obtain ⟨K, rfl⟩ : ∃ m, K = m + 1 := ⟨K - 1, by omega⟩
  refine ⟨K + 1, ?_⟩
  unfold laws_FnDensity.f
  by_cases hlong : (l0.length : Int) > 1048576
  · rw [if_pos hlong]
  rw [if_neg hlong]
  obtain ⟨b, hb, ho⟩ := open_ev l0 h8
  obtain ⟨l, q, hl, hq1, hq2, hs⟩ := set_ev b hb 0 12 (by omega) (by omega)
  have hlen := hl.len
  obtain ⟨c, q2, hc1, hc2, _, _, hcs⟩ := cores_ev b hb q 12 (by omega) (by omega)
  have hdraw : spec_DrawDensityFeasible.f (K + 1) l0 = some (l, c) := by
    unfold spec_DrawDensityFeasible.f
    rw [ho]
    simp only [Option.bind_some]
    rw [hs (K + 1) (by omega)]
    simp only [Option.bind_some]
    rw [hcs K]
    rfl
  rw [hdraw, Option.bind_some, implDens_eq l c (K + 1) (by omega), Option.bind_some, specDens_eq l (by omega) c (K + 1) (by omega), Option.bind_some, if_neg (by simp), implDens_eq l 1 (K + 1) (by omega), Option.bind_some]
  have hj : laws_FnDensity.j0 (K + 1) l c (dens l c) false = some true := by
    rw [laws_FnDensity.j0]
    rw [if_neg (by simp)]
    by_cases he : dens l c = true
    · rw [if_pos he]
      have := ((dens_iff l c).mp he).1.len
      exact dn_loop l c he l.length 0 K (by omega) (by omega)
    · rw [if_neg he, alive_eq]; rfl
  by_cases h1 : dens l 1 = true
  · rw [if_pos h1, implEdf_eq l (K + 1) (by omega), Option.bind_some, dens_edf h1]
    exact hj
  · rw [if_neg h1]
    exact hj

end Go.Proofs.Ytmjclbjafodakaa.Pure
