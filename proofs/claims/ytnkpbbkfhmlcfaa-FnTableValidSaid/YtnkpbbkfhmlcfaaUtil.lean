import Derived.Test.YtnkpbbkfhmlcfaaPB
import Derived.Test.YtnkpbbkfhmlcfaaImplLoad
import Derived.Test.YtnkpbbkfhmlcfaaRed
import Derived.Test.YtnkpbbkfhmlcfaaFimplXUtilization
set_option linter.unusedSimpArgs false
set_option linter.unusedVariables false
namespace Go.Proofs.Ytnkpbbkfhmlcfaa.Pu
open Go.RowKit Go.Proofs.Ytnkpbbkfhmlcfaa.Q Go.Proofs.YtnkpbbkfhmlcfaaW.PrintWords Go.Proofs.YtnkpbbkfhmlcfaaW.PrintLast

def utO (l : List Tk) : Int × Int := if setOk l = true then redI (ld l) (hyp l) else (0, 0)
theorem implUtil_eq (l : List Tk) (k : Nat) (hk : 300000 ≤ k) : impl_Utilization.f k l = some (utO l) := by
  unfold impl_Utilization.f utO
  rw [implSet_eq]
  simp only [Option.bind_some]
  by_cases h : setOk l = true
  · have hok := Ok.mk' h
    have hb := hyp_bd hok
    have hl := ld_bd hok
    rw [if_pos h, if_pos h, implLoad_eq l hok k (by omega), implHyper_eq l hok k (by omega)]
    simp only [Option.bind_some]
    rw [implRed_eq _ _ hl.1 hb.1 (by omega) (by omega) k (by omega)]
    rfl
  · rw [if_neg h, if_neg h]
/-- What a valid set's utilization is. -/
structure Ut (l : List Tk) (u : Int × Int) : Prop where
  g : ∃ g, 1 ≤ g ∧ ld l = g * u.1 ∧ hyp l = g * u.2
  n0 : 0 ≤ u.1
  n1 : u.1 ≤ ld l
  d0 : 1 ≤ u.2
  d1 : u.2 ≤ hyp l
  low : ∀ n, 2 ≤ n → ¬ (u.1 % n = 0 ∧ u.2 % n = 0)
theorem ut_spec {l : List Tk} (hok : Ok l) : Ut l (utO l) := by
  have hb := hyp_bd hok
  have hl := ld_bd hok
  obtain ⟨h1, h2, h3, h4, h5, h6, h7, h8⟩ := gcdI_spec (ld l) (hyp l) hl.1 hb.1
  unfold utO
  rw [if_pos ((setOk_iff _).mpr hok)]
  exact ⟨⟨gcdI (ld l) (hyp l), h1, h2, h3⟩, h4, h5, h6, h7, h8⟩
theorem Ut.cross {l : List Tk} {u : Int × Int} (h : Ut l u) : u.1 * hyp l = ld l * u.2 := by
  obtain ⟨g, _, e1, e2⟩ := h.g
  rw [e1, e2, Int.mul_assoc, Int.mul_left_comm]
theorem Ut.le_iff {l : List Tk} {u : Int × Int} (h : Ut l u) : u.1 ≤ u.2 ↔ ld l ≤ hyp l := by
  obtain ⟨g, hg, e1, e2⟩ := h.g
  exact (frac_le hg e1 e2).symm

end Go.Proofs.Ytnkpbbkfhmlcfaa.Pu
