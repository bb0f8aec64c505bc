/- The statement FnUtilization of the given program holds for every input: for every code of at most 2^20 bytes (and for longer ones at once) the law returns true. No further condition. -/
import Derived.Test.YthpnfipkgfbbeaaSpecUtil
import Derived.Test.YthpnfipkgfbbeaaImplHyp
import Derived.Test.YthpnfipkgfbbeaaFlawsXFnUtilization
set_option linter.unusedSimpArgs false
set_option linter.unusedVariables false
namespace Go.Proofs.Ythpnfipkgfbbeaa.Pure
open Go.RowKit Go.Proofs.Ythpnfipkgfbbeaa.Q Go.Proofs.Ythpnfipkgfbbeaa.Pu Go.Proofs.YthpnfipkgfbbeaaW.PrintWords Go.Proofs.YthpnfipkgfbbeaaW.PrintLast

theorem mul_bd {a b A B : Int} (h1 : 0 ≤ a) (h2 : a ≤ A) (h3 : 0 ≤ b) (h4 : b ≤ B) : 0 ≤ a * b ∧ a * b ≤ A * B :=
  ⟨Int.mul_nonneg h1 h3, Int.mul_le_mul h2 h4 h3 (by omega)⟩

/-- A task less: strictly less utilization. -/
theorem ld_wo {l : List Tk} (hok : Ok l) {j : Nat} (hj : j < l.length) : ld (wo l j) * hyp l < ld l * hyp (wo l j) := by
  have hwo := hok.wo hj
  have hb := hyp_bd hok
  have hbw := hyp_bd hwo
  obtain ⟨q, hq⟩ : hyp (wo l j) ∣ hyp l := hyp_min hwo _ (by omega) (fun t ht => hyp_dvd_mem hok t (wo_mem ht))
  have hq1 : 1 ≤ q := by
    rcases Int.lt_or_le q 1 with h0 | h0
    · have : hyp (wo l j) * q ≤ 0 := Int.mul_nonpos_of_nonneg_of_nonpos (by omega) (by omega)
      omega
    · exact h0
  have e1 : sumT (lterm (hyp l)) (wo l j) = ld (wo l j) * q := by
    unfold ld
    rw [← sumT_mul]
    refine sumT_congr _ fun x hx => ?_
    obtain ⟨r, hr⟩ := hyp_dvd_mem hwo x hx
    have hx2 := hwo.all x hx
    unfold lterm
    rw [hq, hr, Int.mul_assoc, Int.mul_ediv_cancel_left _ (by omega), Int.mul_ediv_cancel_left _ (by omega), Int.mul_right_comm]
  have e2 : sumT (lterm (hyp l)) (wo l j) = ld l - lterm (hyp l) l[j] := by unfold wo; rw [sumT_erase _ l j hj]; rfl
  have hpos : 0 < lterm (hyp l) l[j] := by
    have hx2 := hok.all _ (List.getElem_mem hj)
    obtain ⟨r, hr⟩ := hyp_dvd_mem hok l[j] (List.getElem_mem hj)
    unfold lterm
    have hr1 : 1 ≤ r := by
      rcases Int.lt_or_le r 1 with h0 | h0
      · have : l[j].f2 * r ≤ 0 := Int.mul_nonpos_of_nonneg_of_nonpos (by omega) (by omega)
        omega
      · exact h0
    rw [hr, Int.mul_ediv_cancel_left _ (by omega)]
    exact Int.mul_pos (by omega) (by omega)
  have h3 : ld (wo l j) * q < ld l := by omega
  rw [hq, ← Int.mul_assoc, Int.mul_right_comm]
  exact Int.mul_lt_mul_of_pos_right h3 (by omega)
theorem ut_wo {l : List Tk} (hok : Ok l) {j : Nat} (hj : j < l.length) : (utO (wo l j)).1 * (utO l).2 < (utO l).1 * (utO (wo l j)).2 := by
  have hwo := hok.wo hj
  obtain ⟨g, hg, e1, e2⟩ := (ut_spec hok).g
  obtain ⟨g', hg', e1', e2'⟩ := (ut_spec hwo).g
  have h := ld_wo hok hj
  rw [e1, e2, e1', e2'] at h
  have a1 : g' * (utO (wo l j)).1 * (g * (utO l).2) = (g' * g) * ((utO (wo l j)).1 * (utO l).2) := by ac_rfl
  have a2 : g * (utO l).1 * (g' * (utO (wo l j)).2) = (g' * g) * ((utO l).1 * (utO (wo l j)).2) := by ac_rfl
  rw [a1, a2] at h
  exact Int.lt_of_mul_lt_mul_left h (Int.mul_nonneg (by omega) (by omega))

theorem ut_l2 (l : List Tk) (hok : Ok l) : ∀ (d j k : Nat), j + d = l.length → 300000 + d < k → laws_FnUtilization.l2 k l (hyp l) (ld l) (j : Int) (utO l).1 (utO l).2 = some true := by
  have hlen := hok.len
  have hb := hyp_bd hok
  have hlb := ld_bd hok
  have hu := ut_spec hok
  intro d
  induction d with
  | zero =>
    intro j k hj hk
    obtain ⟨k, rfl⟩ : ∃ m, k = m + 1 := ⟨k - 1, by omega⟩
    have b1 := mul_bd (a := ld l) (b := (utO l).2) hlb.1 hlb.2 (by have := hu.d0; omega) (show _ ≤ 248832 from by have := hu.d1; omega)
    have b2 := mul_bd (a := (utO l).1) (b := hyp l) hu.n0 (show _ ≤ 9953280 from by have := hu.n1; omega) (by omega) hb.2
    rw [laws_FnUtilization.l2]
    rw [if_neg (by omega), if_pos hu.d0, w64 (n := ld l * (utO l).2) (by omega) (by omega), w64 (n := (utO l).1 * hyp l) (by omega) (by omega), if_pos hu.cross, alive_eq]
    rfl
  | succ d ih =>
    intro j k hj hk
    obtain ⟨k, rfl⟩ : ∃ m, k = m + 1 := ⟨k - 1, by omega⟩
    have en : wrap64 ((j : Int) + 1) = ((j + 1 : Nat) : Int) := by rw [w64 (by omega) (by omega)]; omega
    have hwo := hok.wo (j := j) (by omega)
    have hbw := hyp_bd hwo
    have hlbw := ld_bd hwo
    have huw := ut_spec hwo
    have hlt := ut_wo hok (j := j) (by omega)
    have b1 := mul_bd (a := (utO (wo l j)).1) (b := (utO l).2) huw.n0 (show _ ≤ 9953280 from by have := huw.n1; omega) (by have := hu.d0; omega) (show _ ≤ 248832 from by have := hu.d1; omega)
    have b2 := mul_bd (a := (utO l).1) (b := (utO (wo l j)).2) hu.n0 (show _ ≤ 9953280 from by have := hu.n1; omega) (by have := huw.d0; omega) (show _ ≤ 248832 from by have := huw.d1; omega)
    rw [laws_FnUtilization.l2]
    rw [if_pos (by omega), without_eq l (by omega) j (by omega)]
    simp only [Option.bind_some]
    rw [implUtil_eq _ k (by omega)]
    simp only [Option.bind_some]
    rw [w64 (n := (utO (wo l j)).1 * (utO l).2) (by omega) (by omega), w64 (n := (utO l).1 * (utO (wo l j)).2) (by omega) (by omega), if_neg (by omega), en]
    exact ih (j + 1) k (by omega) (by omega)
theorem ut_l1 (l : List Tk) (hok : Ok l) : ∀ (m : Nat) (n : Int) (k : Nat), (utO l).2 < n + m → 2 ≤ n → n ≤ 1000000 → 300100 + m < k → laws_FnUtilization.l1 k l (hyp l) (ld l) n (utO l).1 (utO l).2 = some true := by
  have hlen := hok.len
  have hb := hyp_bd hok
  have hu := ut_spec hok
  have hd1 := hu.d1
  intro m
  induction m with
  | zero =>
    intro n k hm hn hn2 hk
    obtain ⟨k, rfl⟩ : ∃ m, k = m + 1 := ⟨k - 1, by omega⟩
    rw [laws_FnUtilization.l1]
    rw [if_neg (by omega)]
    exact ut_l2 l hok l.length 0 k (by omega) (by omega)
  | succ m ih =>
    intro n k hm hn hn2 hk
    obtain ⟨k, rfl⟩ : ∃ m, k = m + 1 := ⟨k - 1, by omega⟩
    have en : wrap64 (n + 1) = n + 1 := w64 (by omega) (by omega)
    rw [laws_FnUtilization.l1]
    by_cases hle : n ≤ (utO l).2
    · have hlow := hu.low n hn
      rw [if_pos hle, if_neg (by omega), tmod_pos hu.n0, tmod_pos (by have := hu.d0; omega), en]
      by_cases c1 : (utO l).1 % n = 0
      · rw [if_pos c1, if_neg (fun c2 => hlow ⟨c1, c2⟩)]
        exact ih (n + 1) k (by omega) (by omega) (by omega) (by omega)
      · rw [if_neg c1]
        exact ih (n + 1) k (by omega) (by omega) (by omega) (by omega)
    · rw [if_neg hle]
      exact ut_l2 l hok l.length 0 k (by omega) (by omega)
theorem ut_l0 (l : List Tk) (hok : Ok l) : ∀ (d j k : Nat) (acc : Int), j + d = l.length → 1000000 + d < k → 0 ≤ acc → acc ≤ (j : Int) * 8000000 → acc + sumT (lterm (hyp l)) (l.drop j) = ld l →
    laws_FnUtilization.l0 k l (hyp l) acc (j : Int) (utO l).1 (utO l).2 = some true := by
  have hlen := hok.len
  have hb := hyp_bd hok
  have hl := ld_bd hok
  have hu := ut_spec hok
  have hd1 := hu.d1
  intro d
  induction d with
  | zero =>
    intro j k acc hj hk h0 hacc hsum
    obtain ⟨k, rfl⟩ : ∃ m, k = m + 1 := ⟨k - 1, by omega⟩
    rw [List.drop_eq_nil_of_le (by omega)] at hsum
    simp only [sumT] at hsum
    rw [laws_FnUtilization.l0]
    rw [if_neg (by omega), show acc = ld l from by omega]
    exact ut_l1 l hok 300000 2 k (by omega) (by omega) (by omega) (by omega)
  | succ d ih =>
    intro j k acc hj hk h0 hacc hsum
    obtain ⟨k, rfl⟩ : ∃ m, k = m + 1 := ⟨k - 1, by omega⟩
    have hr := hok.rd j (by omega)
    have hbt := lterm_bd (x := rdT l (j : Int)) hr (hyp l) (by omega)
    have en : ((j : Int) + 1) = ((j + 1 : Nat) : Int) := by omega
    have q0 : 0 ≤ hyp l / (rdT l (j : Int)).f2 := Int.ediv_nonneg (by omega) (by omega)
    have q1 : hyp l / (rdT l (j : Int)).f2 ≤ hyp l := Int.ediv_le_self _ (by omega)
    rw [drop_rd l j (by omega)] at hsum
    simp only [sumT] at hsum
    rw [laws_FnUtilization.l0]
    rw [if_pos (by omega), if_pos (by omega)]
    have hlt : lterm (hyp l) (rdT l (j : Int)) = hyp l / (rdT l (j : Int)).f2 * (rdT l (j : Int)).f0 := rfl
    rw [hlt] at hbt hsum
    simp only [rdT] at hbt q0 q1 hr hsum ⊢
    rw [if_neg (by omega), tdiv_pos (by omega)]
    rw [w64 (n := hyp l / (rd_T29 l (j : Int)).f2) (by omega) (by omega), Int.mul_comm (rd_T29 l (j : Int)).f0]
    generalize hyp l / (rd_T29 l (j : Int)).f2 * (rd_T29 l (j : Int)).f0 = y at hbt hsum ⊢
    rw [w64 (n := y) (by omega) (by omega), w64 (n := acc + y) (by omega) (by omega), w64 (n := (j : Int) + 1) (by omega) (by omega), en]
    exact ih (j + 1) k (acc + y) (by omega) (by omega) (by omega) (by omega) (by omega)

theorem FnUtilization : laws_FnUtilization.Pure := by
  intro l0 _ _ h8
  obtain ⟨K, hK⟩ : ∃ K, 100000000 ≤ K := ⟨_, Nat.le_refl _⟩
  refine ⟨K, ?_⟩
  unfold laws_FnUtilization.f
  by_cases hlong : (l0.length : Int) > 1048576
  · rw [if_pos hlong]
  rw [if_neg hlong]
  obtain ⟨b, hb, ho⟩ := open_ev l0 h8
  obtain ⟨l, q, hl, _, _, hs⟩ := set_ev b hb 0 8 (by omega) (by omega)
  have hlen := hl.len
  unfold spec_DrawUtilization.f
  rw [ho]
  simp only [Option.bind_some]
  rw [hs K (by omega)]
  simp only [Option.bind_some]
  rw [implUtil_eq l K (by omega), specUtil_eq l (by omega) K (by omega), specSet_eq l (by omega) K (by omega)]
  simp only [Option.bind_some]
  rw [if_neg (by simp)]
  by_cases h : setOk l = true
  · have hok := Ok.mk' h
    rw [if_pos h, implHyp_eq l K (by omega)]
    simp only [Option.bind_some]
    unfold hypO
    rw [if_pos h]
    have := hok.len
    exact ut_l0 l hok l.length 0 K 0 (by omega) (by omega) (by omega) (by omega) (by simp [ld])
  · rw [if_neg h, alive_eq]
    unfold utO
    rw [if_neg h]
    rfl

end Go.Proofs.Ythpnfipkgfbbeaa.Pure
