/- The statement FnSpeedSubset of the given program holds for every input: for every code of at most 2^20 bytes (and for longer ones at once) the law returns true. No further condition. -/
import Derived.Test.YtmjclbjafodakaaSpecMs
import Derived.Test.YtmjclbjafodakaaSetMath
import Derived.Test.YtmjclbjafodakaaFlawsXFnSpeedSubset
set_option linter.unusedSimpArgs false
set_option linter.unusedVariables false
namespace Go.Proofs.Ytmjclbjafodakaa.Pure
open Go.RowKit Go.Proofs.Ytmjclbjafodakaa.Q Go.Proofs.Ytmjclbjafodakaa.Pu Go.Proofs.YtmjclbjafodakaaW.PrintWords Go.Proofs.YtmjclbjafodakaaW.PrintLast

/-- A task with twice the cost. -/
def twice (t : Tk) : Tk := ⟨2 * t.f0, t.f1, t.f2⟩
def twiceTo (l : List Tk) (j : Nat) : List Tk := (l.take j).map twice ++ l.drop j
theorem twiceTo_len (l : List Tk) (j : Nat) : (twiceTo l j).length = l.length := by
  unfold twiceTo; rw [List.length_append, List.length_map, List.length_take, List.length_drop]; omega
theorem twiceTo_get (l : List Tk) {j : Nat} (hj : j < l.length) : rd_T29 (twiceTo l j) (j : Int) = rd_T29 l (j : Int) := by
  have h1 := rdT_get (twiceTo l j) j (by rw [twiceTo_len]; omega)
  have h2 := rdT_get l j hj
  simp only [rdT] at h1 h2 ⊢
  rw [h1, h2]
  unfold twiceTo
  rw [List.getElem_append_right (by rw [List.length_map, List.length_take]; omega), List.getElem_drop]
  congr 1
  rw [List.length_map, List.length_take]; omega
theorem twiceTo_set (l : List Tk) {j : Nat} (hj : j < l.length) : (twiceTo l j).set j (twice (rd_T29 l (j : Int))) = twiceTo l (j + 1) := by
  unfold twiceTo
  rw [drop_rd l j hj, List.set_append_right _ _ (by rw [List.length_map, List.length_take]; omega), List.length_map, List.length_take, show j - min j l.length = 0 from by omega, List.set_cons_zero, List.take_succ_eq_append_getElem hj, List.map_append, ← rdT_get l j hj]
  simp
theorem dem_twice (l : List Tk) (t : Int) : dem (l.map twice) t = dem l t * 2 := by
  unfold dem
  rw [sumT_map, ← sumT_mul]
  refine sumT_congr l fun x _ => ?_
  unfold dterm twice
  dsimp only
  split
  · rw [Int.mul_left_comm, Int.mul_comm]
  · omega
theorem hyp_twice (l : List Tk) : hyp (l.map twice) = hyp l := hyp_map (by rw [List.map_map]; rfl)
theorem ms_wo {l : List Tk} (hok : Ok l) {j : Nat} (hj : j < l.length) : (msO (wo l j)).1 * (msO l).2 ≤ (msO l).1 * (msO (wo l j)).2 := by
  have hwo := hok.wo hj
  have hs := ms_spec hok
  have hw := ms_spec hwo
  have hb := hyp_bd hok
  have hbw := hyp_bd hwo
  have hd : hyp (wo l j) ∣ hyp l := hyp_min hwo _ (by omega) (fun t ht => hyp_dvd_mem hok t (wo_mem ht))
  have hle := Int.le_of_dvd (by omega) hd
  rcases hw.is hwo with e | ⟨t, h1, h2, h3⟩
  · rw [e, Int.zero_mul]
    exact Int.mul_nonneg hs.n0 (by have := hw.d0; omega)
  · have a := hs.all hok t h1 (by omega)
    have b := dem_wo hok hj (t := t) (by omega)
    have c : dem (wo l j) t * (msO l).2 ≤ dem l t * (msO l).2 := Int.mul_le_mul_of_nonneg_right b (by have := hs.d0; omega)
    have d : dem (wo l j) t * (msO l).2 ≤ (msO l).1 * t := Int.le_trans c a
    have e : dem (wo l j) t * (msO l).2 * (msO (wo l j)).2 ≤ (msO l).1 * t * (msO (wo l j)).2 := Int.mul_le_mul_of_nonneg_right d (by have := hw.d0; omega)
    have e1 : dem (wo l j) t * (msO l).2 * (msO (wo l j)).2 = dem (wo l j) t * (msO (wo l j)).2 * (msO l).2 := by ac_rfl
    rw [e1, h3] at e
    have e2 : (msO (wo l j)).1 * t * (msO l).2 = (msO (wo l j)).1 * (msO l).2 * t := by ac_rfl
    have e3 : (msO l).1 * t * (msO (wo l j)).2 = (msO l).1 * (msO (wo l j)).2 * t := by ac_rfl
    rw [e2, e3] at e
    exact Int.le_of_mul_le_mul_right e (by omega)
theorem ms_twice {l : List Tk} (hok : Ok l) (h2 : Ok (l.map twice)) : (msO (l.map twice)).1 * (msO l).2 = 2 * (msO l).1 * (msO (l.map twice)).2 := by
  have hs := ms_spec hok
  have hw := ms_spec h2
  generalize hD : msO (l.map twice) = D at hw
  generalize hS : msO l = S at hs
  have hD0 := hw.d0
  have hS0 := hs.d0
  refine Int.le_antisymm ?_ ?_
  · rcases hw.is h2 with e | ⟨t, a1, a2, a3⟩
    · rw [e, Int.zero_mul]
      exact Int.mul_nonneg (Int.mul_nonneg (by omega) hs.n0) (by omega)
    · rw [hyp_twice] at a2
      rw [dem_twice] at a3
      have b := hs.all hok t a1 a2
      have c : dem l t * S.2 * (2 * D.2) ≤ S.1 * t * (2 * D.2) := Int.mul_le_mul_of_nonneg_right b (by omega)
      have e1 : dem l t * S.2 * (2 * D.2) = dem l t * 2 * D.2 * S.2 := by ac_rfl
      rw [e1, a3] at c
      have e2 : D.1 * t * S.2 = D.1 * S.2 * t := by ac_rfl
      have e3 : S.1 * t * (2 * D.2) = 2 * S.1 * D.2 * t := by ac_rfl
      rw [e2, e3] at c
      exact Int.le_of_mul_le_mul_right c (by omega)
  · rcases hs.is hok with e | ⟨t, a1, a2, a3⟩
    · rw [e, Int.mul_zero, Int.zero_mul]
      exact Int.mul_nonneg hw.n0 (by omega)
    · have b := hw.all h2 t a1 (by rw [hyp_twice]; exact a2)
      rw [dem_twice] at b
      have c : dem l t * 2 * D.2 * S.2 ≤ D.1 * t * S.2 := Int.mul_le_mul_of_nonneg_right b (by omega)
      have e1 : dem l t * 2 * D.2 * S.2 = dem l t * S.2 * (2 * D.2) := by ac_rfl
      rw [e1, a3] at c
      have e2 : D.1 * t * S.2 = D.1 * S.2 * t := by ac_rfl
      have e3 : S.1 * t * (2 * D.2) = 2 * S.1 * D.2 * t := by ac_rfl
      rw [e2, e3] at c
      exact Int.le_of_mul_le_mul_right c (by omega)

theorem ss_loop (l : List Tk) (hok : Ok l) : ∀ (d j k : Nat), j + d = l.length → 2000000 + d < k → laws_FnSpeedSubset.l0 k l (twiceTo l j) (j : Int) (msO l).1 (msO l).2 = some true := by
  have hlen := hok.len
  have hs := ms_spec hok
  have hb := hyp_bd hok
  have hd1 := hs.d1
  have hn1 := hs.n1
  have hn0 := hs.n0
  have hd0 := hs.d0
  intro d
  induction d with
  | zero =>
    intro j k hj hk
    obtain ⟨k, rfl⟩ : ∃ m, k = m + 1 := ⟨k - 1, by omega⟩
    have e : j = l.length := by omega
    subst e
    have e : twiceTo l l.length = l.map twice := by simp [twiceTo]
    rw [laws_FnSpeedSubset.l0]
    rw [if_neg (by omega), e, implMs_eq _ k (by omega), implSet_eq]
    simp only [Option.bind_some]
    by_cases h : setOk (l.map twice) = true
    · have h2 := Ok.mk' h
      have hw := ms_spec h2
      have hbw := hyp_bd h2
      have hwd := hw.d1
      have b1 : 0 ≤ (msO (l.map twice)).1 * (msO l).2 ∧ (msO (l.map twice)).1 * (msO l).2 ≤ 10000000 * 300000 := ⟨Int.mul_nonneg hw.n0 (by omega), Int.mul_le_mul hw.n1 (by omega) (by omega) (by omega)⟩
      have b2 : 0 ≤ 2 * (msO l).1 * (msO (l.map twice)).2 ∧ 2 * (msO l).1 * (msO (l.map twice)).2 ≤ 20000000 * 300000 := ⟨Int.mul_nonneg (by omega) (by have := hw.d0; omega), Int.mul_le_mul (by omega) (by omega) (by have := hw.d0; omega) (by omega)⟩
      rw [if_pos h, w64 (n := (msO (l.map twice)).1 * (msO l).2) (by omega) (by omega), w64 (n := 2 * (msO l).1) (by omega) (by omega), w64 (n := 2 * (msO l).1 * (msO (l.map twice)).2) (by omega) (by omega), ms_twice hok h2]
      simp
    · rw [if_neg h]
  | succ d ih =>
    intro j k hj hk
    obtain ⟨k, rfl⟩ : ∃ m, k = m + 1 := ⟨k - 1, by omega⟩
    have en : wrap64 ((j : Int) + 1) = ((j + 1 : Nat) : Int) := by rw [w64 (by omega) (by omega)]; omega
    have hr := hok.rd j (by omega)
    have hwo := hok.wo (j := j) (by omega)
    have hw := ms_spec hwo
    have hbw := hyp_bd hwo
    have hwd := hw.d1
    have b1 : 0 ≤ (msO (wo l j)).1 * (msO l).2 ∧ (msO (wo l j)).1 * (msO l).2 ≤ 10000000 * 300000 := ⟨Int.mul_nonneg hw.n0 (by omega), Int.mul_le_mul hw.n1 (by omega) (by omega) (by omega)⟩
    have b2 : 0 ≤ (msO l).1 * (msO (wo l j)).2 ∧ (msO l).1 * (msO (wo l j)).2 ≤ 10000000 * 300000 := ⟨Int.mul_nonneg hn0 (by have := hw.d0; omega), Int.mul_le_mul hn1 (by omega) (by have := hw.d0; omega) (by omega)⟩
    have hle := ms_wo hok (j := j) (by omega)
    have hset := twiceTo_set l (j := j) (by omega)
    unfold twice at hset
    simp only [rdT] at hr
    rw [laws_FnSpeedSubset.l0]
    rw [if_pos (by omega), if_pos (by omega), if_pos (by rw [twiceTo_len]; omega), without_eq l (by omega) j (by omega)]
    simp only [Option.bind_some]
    rw [implMs_eq _ k (by omega)]
    simp only [Option.bind_some]
    rw [w64 (n := (msO (wo l j)).1 * (msO l).2) (by omega) (by omega), w64 (n := (msO l).1 * (msO (wo l j)).2) (by omega) (by omega), if_neg (by omega), en, twiceTo_get l (by omega), w64 (n := 2 * (rd_T29 l (j : Int)).f0) (by omega) (by omega), Int.toNat_natCast, hset]
    exact ih (j + 1) k (by omega) (by omega)

theorem FnSpeedSubset : laws_FnSpeedSubset.Pure := by
  intro l0 _ _ h8
  obtain ⟨K, hK⟩ : ∃ K, 100000000 ≤ K := ⟨_, Nat.le_refl _⟩
  refine ⟨K, ?_⟩
  unfold laws_FnSpeedSubset.f
  by_cases hlong : (l0.length : Int) > 1048576
  · rw [if_pos hlong]
  rw [if_neg hlong]
  obtain ⟨b, hb, ho⟩ := open_ev l0 h8
  obtain ⟨l, q, hl, _, _, hs⟩ := set_ev b hb 0 9 (by omega) (by omega)
  have hlen := hl.len
  have hdraw : spec_DrawMinSpeed.f K l0 = some l := by
    unfold spec_DrawMinSpeed.f
    rw [ho]
    simp only [Option.bind_some]
    rw [hs K (by omega)]
    rfl
  rw [hdraw, Option.bind_some, implMs_eq l K (by omega), Option.bind_some, specMs_eq l (by omega) K (by omega), Option.bind_some, if_neg (by simp), specSet_eq l (by omega) K (by omega), Option.bind_some]
  by_cases h : setOk l = true
  · have hok := Ok.mk' h
    rw [if_pos h, Option.bind_some, if_pos (by simp only [List.length_nil]; omega), List.nil_append]
    have := ss_loop l hok l.length 0 K (by omega) (by have := hok.len; omega)
    rw [show twiceTo l 0 = l from by simp [twiceTo]] at this
    exact this
  · rw [if_neg h, alive_eq]
    rfl

end Go.Proofs.Ytmjclbjafodakaa.Pure
