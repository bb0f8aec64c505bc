/- The statement FnDemandHyper of the given program holds for every input: for every code of at most 2^20 bytes (and for longer ones at once) the law returns true. No further condition. -/
import Derived.Test.YthpnfipkgfbbeaaImplDemand
import Derived.Test.YthpnfipkgfbbeaaImplHyp
import Derived.Test.YthpnfipkgfbbeaaImplFirst
import Derived.Test.YthpnfipkgfbbeaaSpecFirst
import Derived.Test.YthpnfipkgfbbeaaUtil
import Derived.Test.YthpnfipkgfbbeaaFlawsXFnDemandHyper
set_option linter.unusedSimpArgs false
set_option linter.unusedVariables false
namespace Go.Proofs.Ythpnfipkgfbbeaa.Pure
open Go.RowKit Go.Proofs.Ythpnfipkgfbbeaa.Q Go.Proofs.Ythpnfipkgfbbeaa.Pu Go.Proofs.YthpnfipkgfbbeaaW.PrintWords Go.Proofs.YthpnfipkgfbbeaaW.PrintLast

theorem mul_bd {a b A B : Int} (h1 : 0 ≤ a) (h2 : a ≤ A) (h3 : 0 ≤ b) (h4 : b ≤ B) : 0 ≤ a * b ∧ a * b ≤ A * B :=
  ⟨Int.mul_nonneg h1 h3, Int.mul_le_mul h2 h4 h3 (by omega)⟩

theorem FnDemandHyper : laws_FnDemandHyper.Pure := by
  intro l0 _ _ h8
  obtain ⟨K, hK⟩ : ∃ K, 100000000 ≤ K := ⟨_, Nat.le_refl _⟩
  refine ⟨K, ?_⟩
  unfold laws_FnDemandHyper.f
  by_cases hlong : (l0.length : Int) > 1048576
  · rw [if_pos hlong]
  rw [if_neg hlong]
  obtain ⟨b, hb, ho⟩ := open_ev l0 h8
  obtain ⟨l, q, hl, _, _, hs⟩ := set_ev b hb 0 12 (by omega) (by omega)
  have hlen := hl.len
  unfold spec_DrawFirstOverload.f
  rw [ho]
  simp only [Option.bind_some]
  rw [hs K (by omega)]
  simp only [Option.bind_some]
  rw [implFirst_eq l K (by omega), specFirst_eq l (by omega) K (by omega), specSet_eq l (by omega) K (by omega)]
  simp only [Option.bind_some]
  rw [if_pos trivial]
  by_cases h : setOk l = true
  · have hok := Ok.mk' h
    have hb := hyp_bd hok
    have hlb := ld_bd hok
    have hu := ut_spec hok
    rw [if_pos h, if_pos h, implHyp_eq l K (by omega), implUtil_eq l K (by omega)]
    simp only [Option.bind_some]
    rw [implDemand_eq l _ K (by omega)]
    simp only [Option.bind_some]
    have e : hypO l = hyp l := by unfold hypO; rw [if_pos h]
    rw [e, demO_in hok (by omega) (by omega), dem_hyper hok, alive_eq]
    have b1 := mul_bd (a := ld l) (b := (utO l).2) hlb.1 hlb.2 (by have := hu.d0; omega) (show _ ≤ 248832 from by have := hu.d1; omega)
    have b2 := mul_bd (a := (utO l).1) (b := hyp l) hu.n0 (show _ ≤ 9953280 from by have := hu.n1; omega) (by omega) hb.2
    rw [w64 (n := ld l * (utO l).2) (by omega) (by omega), w64 (n := (utO l).1 * hyp l) (by omega) (by omega), if_pos hu.cross.symm]
    simp only [Option.bind_some]
    by_cases hle : (utO l).1 ≤ (utO l).2
    · rw [if_pos hle]
    · rw [if_neg hle]
      have hgt : hyp l < ld l := by
        have := hu.le_iff
        omega
      rcases fov_spec l with ⟨e, hn⟩ | ⟨h1, h2, h3, h4⟩
      · have := hn (hyp l) (by omega) (by omega)
        rw [dem_hyper hok] at this
        omega
      · rw [if_pos (by omega), if_pos (by omega)]
  · rw [if_neg h, if_neg h, alive_eq]
    rfl

end Go.Proofs.Ythpnfipkgfbbeaa.Pure
