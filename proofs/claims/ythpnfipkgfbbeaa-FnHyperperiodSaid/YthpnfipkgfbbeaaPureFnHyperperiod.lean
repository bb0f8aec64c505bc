/- The statement FnHyperperiod of the given program holds for every input: for every code of at most 2^20 bytes (and for longer ones at once) the law returns true. No further condition. -/
import Derived.Test.YthpnfipkgfbbeaaHypFns
import Derived.Test.YthpnfipkgfbbeaaFlawsXFnHyperperiod
set_option linter.unusedSimpArgs false
set_option linter.unusedVariables false
namespace Go.Proofs.Ythpnfipkgfbbeaa.Pure
open Go.RowKit Go.Proofs.Ythpnfipkgfbbeaa.Q Go.Proofs.Ythpnfipkgfbbeaa.Pu Go.Proofs.YthpnfipkgfbbeaaW.PrintWords Go.Proofs.YthpnfipkgfbbeaaW.PrintLast

def divs (n : Int) (t : Tk) : Bool := n % t.f2 == 0
theorem hp_inner (l : List Tk) (hok : Ok l) (n : Int) (hn0 : 0 ≤ n) (hn : n ≤ 1000000) (B : Nat) (hnext : ∀ k, B ≤ k → laws_FnHyperperiod.l0 k l (hyp l) (n + 1) = some true)
    (hend : l.all (divs n) = (n == hyp l)) : ∀ (d j k : Nat) (acc : Bool), j + d = l.length → B + d + 2 ≤ k → acc = (l.take j).all (divs n) → laws_FnHyperperiod.l1 k l (hyp l) n acc (j : Int) = some true := by
  have hlen := hok.len
  intro d
  induction d with
  | zero =>
    intro j k acc hj hk ha
    obtain ⟨k, rfl⟩ : ∃ m, k = m + 1 := ⟨k - 1, by omega⟩
    rw [laws_FnHyperperiod.l1]
    rw [if_neg (by omega), ha, List.take_of_length_le (by omega), hend, if_neg (by simp), w64 (by omega) (by omega)]
    exact hnext k (by omega)
  | succ d ih =>
    intro j k acc hj hk ha
    obtain ⟨k, rfl⟩ : ∃ m, k = m + 1 := ⟨k - 1, by omega⟩
    have en : wrap64 ((j : Int) + 1) = ((j + 1 : Nat) : Int) := by rw [w64 (by omega) (by omega)]; omega
    have hr := hok.rd j (by omega)
    have hacc : (acc && divs n (rdT l (j : Int))) = (l.take (j + 1)).all (divs n) := by
      rw [ha, List.take_succ_eq_append_getElem (by omega), List.all_append, rdT_get l j (by omega)]
      simp
    rw [laws_FnHyperperiod.l1]
    rw [if_pos (by omega), en]
    by_cases ht : acc = true
    · rw [if_pos ht, if_pos (by omega), if_neg (by have := hr; simp only [rdT] at this; omega), tmod_pos hn0]
      rw [ht, Bool.true_and] at hacc
      exact ih (j + 1) k _ (by omega) (by omega) hacc
    · rw [if_neg ht]
      have : acc = false := by simpa using ht
      rw [this, Bool.false_and] at hacc
      exact ih (j + 1) k _ (by omega) (by omega) hacc
theorem hp_all (l : List Tk) (hok : Ok l) (n : Int) (h1 : 1 ≤ n) (h2 : n ≤ hyp l) : l.all (divs n) = (n == hyp l) := by
  rw [Bool.eq_iff_iff, List.all_eq_true, beq_iff_eq]
  constructor
  · intro h
    have hd : hyp l ∣ n := hyp_min hok n (by omega) (fun t ht => by
      have := h t ht
      unfold divs at this
      exact Int.dvd_of_emod_eq_zero (by simpa using this))
    have := Int.le_of_dvd (by omega) hd
    omega
  · intro h t ht
    unfold divs
    rw [h, beq_iff_eq]
    exact Int.emod_eq_zero_of_dvd (hyp_dvd_mem hok t ht)
theorem hp_outer (l : List Tk) (hok : Ok l) : ∀ (m : Nat) (n : Int) (k : Nat), n + m = hyp l + 1 → 1 ≤ n → 8 * m + 5 ≤ k → laws_FnHyperperiod.l0 k l (hyp l) n = some true := by
  have hb := hyp_bd hok
  have hlen := hok.len
  intro m
  induction m with
  | zero =>
    intro n k hn h1 hk
    obtain ⟨k, rfl⟩ : ∃ m, k = m + 1 := ⟨k - 1, by omega⟩
    rw [laws_FnHyperperiod.l0]
    rw [if_neg (by omega), if_pos (by omega), alive_eq]
    rfl
  | succ m ih =>
    intro n k hn h1 hk
    obtain ⟨k, rfl⟩ : ∃ m, k = m + 1 := ⟨k - 1, by omega⟩
    rw [laws_FnHyperperiod.l0]
    rw [if_pos (by omega)]
    exact hp_inner l hok n (by omega) (by omega) (8 * m + 5) (fun k' hk' => ih (n + 1) k' (by omega) (by omega) hk') (hp_all l hok n h1 (by omega)) l.length 0 k true (by omega) (by omega) (by simp)

theorem FnHyperperiod : laws_FnHyperperiod.Pure := by
  intro l0 _ _ h8
  obtain ⟨K, hK⟩ : ∃ K, 10000000 ≤ K := ⟨_, Nat.le_refl _⟩
  refine ⟨K, ?_⟩
  unfold laws_FnHyperperiod.f
  by_cases hlong : (l0.length : Int) > 1048576
  · rw [if_pos hlong]
  rw [if_neg hlong]
  obtain ⟨b, hb, ho⟩ := open_ev l0 h8
  obtain ⟨l, q, hl, _, _, hs⟩ := set_ev b hb 0 8 (by omega) (by omega)
  have hlen := hl.len
  unfold spec_DrawHyperperiod.f
  rw [ho]
  simp only [Option.bind_some]
  rw [hs K (by omega)]
  simp only [Option.bind_some]
  rw [implHyp_eq l K (by omega), specHyp_eq l (by omega) K (by omega), specSet_eq l (by omega) K (by omega)]
  simp only [Option.bind_some]
  rw [if_pos trivial]
  unfold hypO
  by_cases h : setOk l = true
  · have hok := Ok.mk' h
    have hb := hyp_bd hok
    rw [if_pos h, if_pos h]
    exact hp_outer l hok (hypN l) 1 K (by unfold hyp; omega) (by omega) (by unfold hyp at hb; omega)
  · rw [if_neg h, if_neg h, alive_eq]
    rfl

end Go.Proofs.Ythpnfipkgfbbeaa.Pure
