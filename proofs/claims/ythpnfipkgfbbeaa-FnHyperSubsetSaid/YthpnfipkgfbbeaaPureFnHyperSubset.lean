/- The statement FnHyperSubset of the given program holds for every input: for every code of at most 2^20 bytes (and for longer ones at once) the law returns true. No further condition. -/
import Derived.Test.YthpnfipkgfbbeaaHypFns
import Derived.Test.YthpnfipkgfbbeaaWithout
import Derived.Test.YthpnfipkgfbbeaaFlawsXFnHyperSubset
set_option linter.unusedSimpArgs false
set_option linter.unusedVariables false
namespace Go.Proofs.Ythpnfipkgfbbeaa.Pure
open Go.RowKit Go.Proofs.Ythpnfipkgfbbeaa.Q Go.Proofs.Ythpnfipkgfbbeaa.Pu Go.Proofs.YthpnfipkgfbbeaaW.PrintWords Go.Proofs.YthpnfipkgfbbeaaW.PrintLast

theorem hs_loop (l : List Tk) (hok : Ok l) : ∀ (d j k : Nat), j + d = l.length → 2 * d + 30 ≤ k → laws_FnHyperSubset.l0 k l (hyp l) (j : Int) = some true := by
  have hb := hyp_bd hok
  have hlen := hok.len
  intro d
  induction d with
  | zero =>
    intro j k hj hk
    obtain ⟨k, rfl⟩ : ∃ m, k = m + 1 + 1 := ⟨k - 2, by omega⟩
    rw [laws_FnHyperSubset.l0]
    rw [if_pos (by omega), decide_eq_false (by omega), laws_FnHyperSubset.j1]
    rw [if_neg (by simp), alive_eq]
    rfl
  | succ d ih =>
    intro j k hj hk
    obtain ⟨k, rfl⟩ : ∃ m, k = m + 1 + 1 := ⟨k - 2, by omega⟩
    have en : wrap64 ((j : Int) + 1) = ((j + 1 : Nat) : Int) := by rw [w64 (by omega) (by omega)]; omega
    have hwo := hok.wo (j := j) (by omega)
    have hbw := hyp_bd hwo
    rw [laws_FnHyperSubset.l0]
    rw [if_pos (by omega), decide_eq_true (by omega), laws_FnHyperSubset.j1]
    rw [if_pos rfl, without_eq l (by omega) j (by omega)]
    simp only [Option.bind_some]
    rw [implHyp_eq _ k (by omega)]
    simp only [Option.bind_some]
    unfold hypO
    rw [if_pos ((setOk_iff _).mpr hwo), if_neg (by omega), if_neg (by omega), tmod_pos (by omega)]
    have hd : hyp (wo l j) ∣ hyp l := hyp_min hwo _ (by omega) (fun t ht => hyp_dvd_mem hok t (wo_mem ht))
    rw [if_pos (Int.emod_eq_zero_of_dvd hd), en]
    exact ih (j + 1) k (by omega) (by omega)

theorem FnHyperSubset : laws_FnHyperSubset.Pure := by
  intro l0 _ _ h8
  obtain ⟨K, hK⟩ : ∃ K, 10000000 ≤ K := ⟨_, Nat.le_refl _⟩
  refine ⟨K, ?_⟩
  unfold laws_FnHyperSubset.f
  by_cases hlong : (l0.length : Int) > 1048576
  · rw [if_pos hlong]
  rw [if_neg hlong]
  obtain ⟨b, hb, ho⟩ := open_ev l0 h8
  obtain ⟨l, q, hl, _, _, hs⟩ := set_ev b hb 0 8 (by omega) (by omega)
  have hlen := hl.len
  unfold spec_DrawHyperperiod.f
  rw [ho]
  simp only [Option.bind_some]
  rw [hs K (by omega)]
  simp only [Option.bind_some]
  rw [implHyp_eq l K (by omega), specHyp_eq l (by omega) K (by omega)]
  simp only [Option.bind_some]
  rw [if_pos trivial]
  unfold hypO
  by_cases h : setOk l = true
  · rw [if_pos h]
    exact hs_loop l (Ok.mk' h) l.length 0 K (by omega) (by omega)
  · rw [if_neg h]
    obtain ⟨k, rfl⟩ : ∃ m, K = m + 1 + 1 := ⟨K - 2, by omega⟩
    rw [laws_FnHyperSubset.l0]
    rw [if_neg (by omega), laws_FnHyperSubset.j1]
    rw [if_neg (by simp), alive_eq]
    rfl

end Go.Proofs.Ythpnfipkgfbbeaa.Pure
