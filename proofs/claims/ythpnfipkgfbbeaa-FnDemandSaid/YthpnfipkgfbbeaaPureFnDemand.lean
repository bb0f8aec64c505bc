/- The statement FnDemand of the given program holds for every input: for every code of at most 2^20 bytes (and for longer ones at once) the law returns true. No further condition. -/
import Derived.Test.YthpnfipkgfbbeaaImplDemand
import Derived.Test.YthpnfipkgfbbeaaSpecDemand
import Derived.Test.YthpnfipkgfbbeaaImplHyp
import Derived.Test.YthpnfipkgfbbeaaSpecHyp
import Derived.Test.YthpnfipkgfbbeaaDrawDem
import Derived.Test.YthpnfipkgfbbeaaFlawsXFnDemand
set_option linter.unusedSimpArgs false
set_option linter.unusedVariables false
namespace Go.Proofs.Ythpnfipkgfbbeaa.Pure
open Go.RowKit Go.Proofs.Ythpnfipkgfbbeaa.Q Go.Proofs.Ythpnfipkgfbbeaa.Pu Go.Proofs.YthpnfipkgfbbeaaW.PrintWords Go.Proofs.YthpnfipkgfbbeaaW.PrintLast

theorem fd_inner (l : List Tk) (hok : Ok l) (t : Int) (ht0 : 0 ≤ t) (ht : t ≤ 2000) (n : Int) (B : Nat) (j : Nat) (hj : j < l.length) (S : Int)
    (hnext : ∀ k, B ≤ k → laws_FnDemand.l0 k l t n S ((j + 1 : Nat) : Int) = some true) (hS : S ≤ 1000000) :
    ∀ (m k : Nat) (acc d : Int), t < d + m → B + m + 2 ≤ k → 1 ≤ d → d ≤ 3000 → 0 ≤ acc → acc + rem t d (rdT l (j : Int)).f2 (rdT l (j : Int)).f0 = S → laws_FnDemand.l1 k l t n acc (j : Int) d = some true := by
  have hlen := hok.len
  have hr := hok.rd j hj
  have en : wrap64 ((j : Int) + 1) = ((j + 1 : Nat) : Int) := by rw [w64 (by omega) (by omega)]; omega
  intro m
  induction m with
  | zero =>
    intro k acc d hm hk hd0 hd ha hsum
    obtain ⟨k, rfl⟩ : ∃ m, k = m + 1 := ⟨k - 1, by omega⟩
    rw [rem_end (by omega)] at hsum
    rw [laws_FnDemand.l1]
    rw [if_neg (by omega), en, show acc = S from by omega]
    exact hnext k (by omega)
  | succ m ih =>
    intro k acc d hm hk hd0 hd ha hsum
    obtain ⟨k, rfl⟩ : ∃ m, k = m + 1 := ⟨k - 1, by omega⟩
    rw [laws_FnDemand.l1]
    by_cases hle : d ≤ t
    · rw [rem_step (by omega) hle] at hsum
      have hre : 0 ≤ rem t (d + (rdT l (j : Int)).f2) (rdT l (j : Int)).f2 (rdT l (j : Int)).f0 := by
        unfold rem
        split
        · exact Int.mul_nonneg (by have := Int.ediv_nonneg (a := t - (d + (rdT l (j : Int)).f2)) (b := (rdT l (j : Int)).f2) (by omega) (by omega); omega) (by omega)
        · omega
      rw [if_pos hle, if_pos (by omega), if_pos (by omega)]
      simp only [rdT] at hr hsum hre ⊢
      rw [w64 (n := acc + (rd_T29 l (j : Int)).f0) (by omega) (by omega), w64 (n := d + (rd_T29 l (j : Int)).f2) (by omega) (by omega)]
      exact ih k _ _ (by omega) (by omega) (by omega) (by omega) (by omega) (by simp only [rdT]; omega)
    · rw [rem_end (by omega)] at hsum
      rw [if_neg hle, en, show acc = S from by omega]
      exact hnext k (by omega)
theorem fd_loop (l : List Tk) (hok : Ok l) (t : Int) (ht0 : 0 ≤ t) (ht : t ≤ 2000) (hth : t ≤ hyp l) : ∀ (d j k : Nat) (acc : Int), j + d = l.length → 4000 * d + 50 ≤ k → 0 ≤ acc → acc + sumT (dterm t) (l.drop j) = dem l t → laws_FnDemand.l0 k l t (dem l t) acc (j : Int) = some true := by
  have hlen := hok.len
  have hb := hyp_bd hok
  have hdb := dem_bd hok t ht0
  intro d
  induction d with
  | zero =>
    intro j k acc hj hk ha hsum
    obtain ⟨k, rfl⟩ : ∃ m, k = m + 1 := ⟨k - 1, by omega⟩
    rw [List.drop_eq_nil_of_le (by omega)] at hsum
    simp only [sumT] at hsum
    rw [laws_FnDemand.l0]
    rw [if_neg (by omega), if_pos (by omega), implDemand_eq l 0 k (by omega), implDemand_eq l _ k (by omega), demO_in hok (by omega) (by omega), dem_zero hok (by omega), alive_eq]
    simp only [Option.bind_some]
    rw [if_pos trivial]
    by_cases h0 : t = 0
    · rw [if_pos h0]
    · rw [if_neg h0, w64 (by omega) (by omega), demO_in hok (by omega) (by omega), if_pos (dem_mono hok (by omega))]
  | succ d ih =>
    intro j k acc hj hk ha hsum
    obtain ⟨k, rfl⟩ : ∃ m, k = m + 1 := ⟨k - 1, by omega⟩
    rw [drop_rd l j (by omega)] at hsum
    simp only [sumT] at hsum
    have hr := hok.rd j (by omega)
    have hr2 : 0 ≤ sumT (dterm t) (l.drop (j + 1)) := sumT_nonneg _ fun x hx => (dterm_bd (hok.all x (List.mem_of_mem_drop hx)) t ht0).1
    have hd1 := (dterm_bd (x := rdT l (j : Int)) hr t ht0).1
    rw [laws_FnDemand.l0]
    rw [if_pos (by omega), if_pos (by omega)]
    refine fd_inner l hok t ht0 ht (dem l t) (4000 * d + 50) j (by omega) (acc + dterm t (rdT l (j : Int))) (fun k' hk' => ih (j + 1) k' _ (by omega) hk' (by omega) (by omega)) (by omega) 2001 k acc _ (by have := hr; simp only [rdT] at this; omega) (by omega) (by have := hr; simp only [rdT] at this; omega) (by have := hr; simp only [rdT] at this; omega) ha ?_
    rw [← rem_dterm]

theorem FnDemand : laws_FnDemand.Pure := by
  intro l0 _ _ h8
  obtain ⟨K, hK⟩ : ∃ K, 10000000 ≤ K := ⟨_, Nat.le_refl _⟩
  refine ⟨K, ?_⟩
  unfold laws_FnDemand.f
  by_cases hlong : (l0.length : Int) > 1048576
  · rw [if_pos hlong]
  rw [if_neg hlong]
  obtain ⟨l, t, hl, ht0, ht, hd⟩ := drawDem l0 h8
  have hlen := hl.len
  rw [hd K (by omega)]
  simp only [Option.bind_some]
  rw [implDemand_eq l t K (by omega), specDemand_eq l (by omega) t K (by omega), specSet_eq l (by omega) K (by omega), specHyp_eq l (by omega) K (by omega)]
  simp only [Option.bind_some]
  rw [if_pos trivial]
  obtain ⟨k, rfl⟩ : ∃ m, K = m + 1 := ⟨K - 1, by omega⟩
  by_cases h : setOk l = true
  · have hok := Ok.mk' h
    rw [if_pos h]
    by_cases hneg : t < 0
    · rw [if_pos hneg, laws_FnDemand.j0]
      rw [if_pos rfl, if_pos (by unfold demO; rw [if_pos h, if_neg (by omega)]), alive_eq]
      rfl
    · rw [if_neg hneg, laws_FnDemand.j0]
      unfold hypO
      rw [if_pos h]
      by_cases hh : t > hyp l
      · rw [decide_eq_true hh, if_pos rfl, if_pos (by unfold demO; rw [if_pos h, if_neg (by omega)]), alive_eq]
        rfl
      · rw [decide_eq_false hh, if_neg (by simp), demO_in hok (by omega) (by omega)]
        exact fd_loop l hok t (by omega) (by omega) (by omega) l.length 0 k 0 (by omega) (by omega) (by omega) (by simp [dem])
  · rw [if_neg h, laws_FnDemand.j0]
    rw [if_pos rfl, if_pos (by unfold demO; rw [if_neg h]), alive_eq]
    rfl

end Go.Proofs.Ythpnfipkgfbbeaa.Pure
