import Derived.Test.YthajimgepjbjiaaSpecBusy
import Derived.Test.YthajimgepjbjiaaBusyMath
import Derived.Test.YthajimgepjbjiaaPB
import Derived.Test.YthajimgepjbjiaaImplLast
import Derived.Test.YthajimgepjbjiaaSpecLast
import Derived.Test.YthajimgepjbjiaaImplDem
import Derived.Test.YthajimgepjbjiaaSpecDem
import Derived.Test.YthajimgepjbjiaaFimplXQuickTest
import Derived.Test.YthajimgepjbjiaaFspecXQuickTest
set_option linter.unusedSimpArgs false
set_option linter.unusedVariables false
namespace Go.Proofs.Ythajimgepjbjiaa.Pu
open Go.RowKit Go.Proofs.Ythajimgepjbjiaa.Q Go.Proofs.YthajimgepjbjiaaW.PrintWords Go.Proofs.YthajimgepjbjiaaW.PrintLast

/-- The demand does not change where nothing is due. -/
theorem dem_flat {l : List Tk} (hok : Ok l) (t s : Int) (h0 : 0 ≤ lastD l t) (h1 : lastD l t ≤ s) (h2 : s < t) : dem l s = dem l (lastD l t) := by
  unfold dem
  refine sumT_congr l fun x hx => ?_
  have hv := hok.all x hx
  by_cases hs : x.f1 ≤ s
  · have hb := lastT_bd hv (t := s + 1) (by omega)
    have hm := lastD_max hok t hx (a := lastT (s + 1) x) hb.1 (by unfold lastT; rw [show (s + 1 - 1 - x.f1) / x.f2 * x.f2 + x.f1 - x.f1 = (s + 1 - 1 - x.f1) / x.f2 * x.f2 from by omega, Int.mul_emod_left]) (by omega)
    have hle := dterm_mono hv (t := lastD l t) (t' := s) h1
    have hge : dterm s x ≤ dterm (lastD l t) x := by
      unfold dterm
      rw [if_pos hs, if_pos (by omega)]
      have e : (s - x.f1) / x.f2 ≤ (lastD l t - x.f1) / x.f2 := by
        have a : (s - x.f1) / x.f2 * x.f2 ≤ lastD l t - x.f1 := by
          unfold lastT at hm
          rw [show s + 1 - 1 - x.f1 = s - x.f1 from by omega] at hm
          omega
        exact (Int.le_ediv_iff_mul_le (by omega)).mpr a
      exact Int.mul_le_mul_of_nonneg_right (by omega) (by omega)
    omega
  · rw [dterm_zero hv (by omega), dterm_zero hv (by omega)]

/-- The least deadline, or a number that is less. -/
def mnF : Int → List Tk → Int
  | m, [] => m
  | m, x :: r => mnF (mn m x.f1) r
theorem mnF_bd : ∀ (l : List Tk) (m : Int), mnF m l ≤ m ∧ ∀ x ∈ l, mnF m l ≤ x.f1
  | [], m => by simp [mnF]
  | x :: r, m => by
    simp only [mnF, List.mem_cons, forall_eq_or_imp]
    obtain ⟨h1, h2⟩ := mnF_bd r (mn m x.f1)
    have := mn_bd m x.f1
    exact ⟨by omega, by omega, h2⟩
/-- The quick test's loop: whether it passes, and how many bounds it evaluates. -/
def qF (l : List Tk) : Nat → Int → Int → Bool × Int
  | 0, _, n => (true, n)
  | f + 1, t, n => if t = 0 then (true, n) else if dem l t > t then (false, n + 1) else if dem l t ≤ mnF 12 l then (true, n + 1) else if dem l t < t then qF l f (dem l t) (n + 1) else qF l f (lastD l t) (n + 1)
theorem qF_spec {l : List Tk} (hok : Ok l) : ∀ (f : Nat) (t n : Int), 0 ≤ t → t < f → ((qF l f t n).1 = true ↔ ∀ s, 1 ≤ s → s ≤ t → dem l s ≤ s) ∧ n ≤ (qF l f t n).2 ∧ (qF l f t n).2 ≤ n + t := by
  intro f
  induction f with
  | zero => intro t n h0 h1; omega
  | succ f ih =>
    intro t n h0 h1
    rw [qF]
    by_cases ht : t = 0
    · rw [if_pos ht]
      exact ⟨⟨fun _ s a b => by omega, fun _ => rfl⟩, by dsimp only; omega, by dsimp only; omega⟩
    rw [if_neg ht]
    by_cases hd : dem l t > t
    · rw [if_pos hd]
      exact ⟨⟨fun h => by simp at h, fun h => by have := h t (by omega) (by omega); omega⟩, by dsimp only; omega, by dsimp only; omega⟩
    rw [if_neg hd]
    have hpos := (dem_bd hok t h0).1
    have hmn := mnF_bd l 12
    by_cases hm : dem l t ≤ mnF 12 l
    · rw [if_pos hm]
      refine ⟨⟨fun _ s a b => ?_, fun _ => rfl⟩, by dsimp only; omega, by dsimp only; omega⟩
      rcases Int.lt_or_le s (mnF 12 l) with c | c
      · have : dem l s = 0 := by
          unfold dem
          rw [sumT_congr l (h := fun _ => 0) (fun x hx => dterm_zero (hok.all x hx) (by have := hmn.2 x hx; omega))]
          clear hmn ih
          induction l with
          | nil => rfl
          | cons y r ihr => simp [sumT, (show ∀ r : List Tk, sumT (fun _ => 0) r = 0 from fun r => by induction r with | nil => rfl | cons _ _ h => simp [sumT, h])]
        omega
      · have := dem_mono hok b
        omega
    rw [if_neg hm]
    by_cases hl : dem l t < t
    · rw [if_pos hl]
      obtain ⟨h2, h3, h4⟩ := ih (dem l t) (n + 1) hpos (by omega)
      refine ⟨h2.trans ⟨fun h s a b => ?_, fun h s a b => h s a (by omega)⟩, by omega, by omega⟩
      rcases Int.lt_or_le (dem l t) s with c | c
      · have := dem_mono hok b
        omega
      · exact h s a c
    · rw [if_neg hl]
      have hb := lastD_bd hok t h0
      obtain ⟨h2, h3, h4⟩ := ih (lastD l t) (n + 1) hb.1 (by omega)
      refine ⟨h2.trans ⟨fun h s a b => ?_, fun h s a b => h s a (by omega)⟩, by omega, by omega⟩
      rcases Int.lt_or_le (lastD l t) s with c | c
      · by_cases e : s = t
        · subst e; omega
        · have e1 := dem_flat hok t s hb.1 (by omega) (by omega)
          rcases Int.lt_or_le (lastD l t) 1 with d | d
          · have : dem l (lastD l t) = 0 := dem_zero hok (by omega)
            omega
          · have := h (lastD l t) d (by omega)
            omega
      · exact h s a c
/-- QuickTest. -/
def qT (l : List Tk) : Bool × Int := if setOk l = true then (if ld l > hyp l then (false, 0) else if l = [] then (true, 0) else qF l 300000 (lastD l (bp l + 1)) 0) else (false, -1)
theorem qT_spec {l : List Tk} (hok : Ok l) : (qT l).1 = edf l ∧ 0 ≤ (qT l).2 ∧ (bp l < 0 → (qT l).2 = 0) ∧ (0 ≤ bp l → (qT l).2 ≤ bp l) := by
  have hso := (setOk_iff l).mpr hok
  unfold qT
  rw [if_pos hso]
  by_cases hu : ld l > hyp l
  · rw [if_pos hu]
    have : edf l = false := by
      cases e : edf l with
      | false => rfl
      | true => have := edf_util e; omega
    exact ⟨this.symm, by decide, fun _ => rfl, fun h => by rw [bp_no (fun a => by have := a.2.2; omega)] at h; omega⟩
  rw [if_neg hu]
  by_cases he : l = []
  · rw [if_pos he]
    exact ⟨by rw [he, edf_nil], by decide, fun _ => rfl, fun h => by rw [bp_no (fun a => a.2.1 he)] at h; omega⟩
  rw [if_neg he]
  have hB := bp_yes hok he (by omega)
  have hlo := hB.lo
  have hhi := hB.hi
  have hb := hyp_bd hok
  have hl := lastD_bd hok (bp l + 1) (by omega)
  obtain ⟨h1, h2, h3⟩ := qF_spec hok 300000 (lastD l (bp l + 1)) 0 hl.1 (by omega)
  refine ⟨?_, by omega, fun h => by omega, fun h => by omega⟩
  rw [Bool.eq_iff_iff, h1]
  constructor
  · intro h
    refine edf_busy hok hB fun s a b => ?_
    rcases Int.lt_or_le (lastD l (bp l + 1)) s with c | c
    · have e1 := dem_flat hok (bp l + 1) s hl.1 (by omega) (by omega)
      rcases Int.lt_or_le (lastD l (bp l + 1)) 1 with d | d
      · have : dem l (lastD l (bp l + 1)) = 0 := dem_zero hok (by omega)
        omega
      · have := h (lastD l (bp l + 1)) d (by omega)
        omega
    · exact h s a c
  · intro h s a b
    exact ((edf_iff l).mp h).2 s a (by omega)

theorem implQuick_l1 (l : List Tk) (hok : Ok l) : ∀ (f k : Nat) (t n : Int), 0 ≤ t → t < f → t ≤ 300000 → 0 ≤ n → n + f ≤ 1000000 → f + 100 ≤ k → impl_QuickTest.l1 k l (mnF 12 l) n t = some (qF l f t n) := by
  intro f
  induction f with
  | zero => intro k t n h0 h1; omega
  | succ f ih =>
    intro k t n h0 h1 h2 h3 h4 h5
    obtain ⟨k, rfl⟩ : ∃ m, k = m + 1 := ⟨k - 1, by omega⟩
    have hpos := (dem_bd hok t h0).1
    have hb := lastD_bd hok t h0
    rw [impl_QuickTest.l1, qF]
    by_cases ht : t = 0
    · rw [if_pos ht, if_pos ht]
    rw [if_neg ht, if_neg ht, implDem_eq l hok t h0 (by omega) k (by omega), Option.bind_some, w64 (n := n + 1) (by omega) (by omega)]
    by_cases hd : dem l t > t
    · rw [if_pos hd, if_pos hd]
    rw [if_neg hd, if_neg hd]
    by_cases hm : dem l t ≤ mnF 12 l
    · rw [if_pos hm, if_pos hm]
    rw [if_neg hm, if_neg hm]
    by_cases hl : dem l t < t
    · rw [if_pos hl, if_pos hl]
      exact ih k (dem l t) (n + 1) hpos (by omega) (by omega) (by omega) (by omega) (by omega)
    · rw [if_neg hl, if_neg hl, implLast_eq l hok t h0 (by omega) k (by omega), Option.bind_some]
      exact ih k (lastD l t) (n + 1) hb.1 (by omega) (by omega) (by omega) (by omega) (by omega)
theorem implQuick_l0 (l : List Tk) (hok : Ok l) (t : Int) (ht : lastD l (bp l + 1) = t) (h0 : 0 ≤ bp l) (h1 : bp l ≤ 250000) : ∀ (d j k : Nat) (m : Int), j + d = l.length → 5000000 + d ≤ k → mnF m (l.drop j) = mnF 12 l →
    impl_QuickTest.l0 k l m l (l.length : Int) (j : Int) = some (qF l 300000 t 0) := by
  have hlen := hok.len
  intro d
  induction d with
  | zero =>
    intro j k m hj hk hm
    obtain ⟨k, rfl⟩ : ∃ m, k = m + 1 := ⟨k - 1, by omega⟩
    have hb := lastD_bd hok (bp l + 1) (by omega)
    rw [List.drop_eq_nil_of_le (by omega)] at hm
    have hm : m = mnF 12 l := hm
    subst hm
    rw [impl_QuickTest.l0]
    rw [if_neg (by omega), implBusy_eq l k (by omega), Option.bind_some, w64 (n := bp l + 1) (by omega) (by omega), implLast_eq l hok _ (by omega) (by omega) k (by omega), Option.bind_some, ht]
    exact implQuick_l1 l hok 300000 k t 0 (by omega) (by omega) (by omega) (by omega) (by omega) (by omega)
  | succ d ih =>
    intro j k m hj hk hm
    obtain ⟨k, rfl⟩ : ∃ m, k = m + 1 := ⟨k - 1, by omega⟩
    rw [drop_rd l j (by omega)] at hm
    simp only [mnF, rdT] at hm
    rw [impl_QuickTest.l0]
    rw [if_pos (by omega), if_pos (by omega), if_pos (by omega), jnx j (by omega)]
    exact ih (j + 1) k _ (by omega) (by omega) hm
theorem implQuick_eq (l : List Tk) (k : Nat) (hk : 6000000 ≤ k) : impl_QuickTest.f k l = some (qT l) := by
  unfold impl_QuickTest.f qT
  rw [implSet_eq, Option.bind_some]
  by_cases h : setOk l = true
  · have hok := Ok.mk' h
    have hlen := hok.len
    have hb := hyp_bd hok
    rw [if_pos h, if_pos h, implLoad_eq l hok k (by omega), Option.bind_some, implHyper_eq l hok k (by omega), Option.bind_some]
    by_cases hu : ld l > hyp l
    · rw [if_pos hu, if_pos hu]
    rw [if_neg hu, if_neg hu]
    by_cases he : l = []
    · rw [if_pos (by rw [he]; rfl), if_pos he]
    · have hl : ¬ (l.length : Int) = 0 := by
        have := List.length_pos_iff.mpr he
        omega
      have hB := bp_yes hok he (by omega)
      have := hB.lo
      have := hB.hi
      rw [if_neg hl, if_neg he]
      exact implQuick_l0 l hok _ rfl (by omega) (by omega) l.length 0 k 12 (by omega) (by omega) (by rw [List.drop_zero])
  · rw [if_neg h, if_neg h]

theorem specMin_loop (l : List Tk) (hok : Ok l) : ∀ (d j k : Nat) (m : Int), j + d = l.length → d < k → 1 ≤ m → spec_l11Min.l0 k l m (j : Int) = some (mnF m (l.drop j)) := by
  have hlen := hok.len
  intro d
  induction d with
  | zero =>
    intro j k m hj hk hm
    obtain ⟨k, rfl⟩ : ∃ m, k = m + 1 := ⟨k - 1, by omega⟩
    rw [spec_l11Min.l0]
    rw [if_neg (by omega), List.drop_eq_nil_of_le (by omega)]
    rfl
  | succ d ih =>
    intro j k m hj hk hm
    obtain ⟨k, rfl⟩ : ∃ m, k = m + 1 := ⟨k - 1, by omega⟩
    have hr := hok.rd j (by omega)
    have hmn := mn_bd m (rdT l (j : Int)).f1
    rw [drop_rd l j (by omega)]
    simp only [mnF, rdT] at hr hmn ⊢
    rw [spec_l11Min.l0]
    rw [if_pos (by omega), if_neg (by omega), if_pos (by omega), jnx j (by omega)]
    by_cases c : (rd_T44 l (j : Int)).f1 < m
    · rw [if_pos c, ih (j + 1) k _ (by omega) (by omega) (by omega), show mn m (rd_T44 l (j : Int)).f1 = (rd_T44 l (j : Int)).f1 from by omega]
    · rw [if_neg c, ih (j + 1) k _ (by omega) (by omega) (by omega), show mn m (rd_T44 l (j : Int)).f1 = m from by omega]
theorem specMin_eq (l : List Tk) (hok : Ok l) (hne : l ≠ []) (k : Nat) (hk : 10 ≤ k) : spec_l11Min.f k l = some (mnF 12 l) := by
  have hlen := hok.len
  have hpos := List.length_pos_iff.mpr hne
  obtain ⟨k, rfl⟩ : ∃ m, k = m + 1 := ⟨k - 1, by omega⟩
  have hr := hok.rd 0 hpos
  have e : mnF 12 l = mnF (rdT l 0).f1 (l.drop 1) := by
    have hmn := mn_bd 12 (rdT l 0).f1
    have h2 := drop_rd l 0 hpos
    rw [List.drop_zero] at h2
    rw [congrArg (mnF 12) h2]
    show mnF (mn 12 (rdT l 0).f1) (l.drop 1) = _
    rw [show mn 12 (rdT l 0).f1 = (rdT l 0).f1 from by have hr' := hr; rw [show ((0 : Nat) : Int) = 0 from rfl] at hr'; omega]
  rw [show ((0 : Nat) : Int) = 0 from rfl] at hr
  unfold spec_l11Min.f
  rw [spec_l11Min.l0]
  rw [if_pos (by omega), if_pos rfl, if_pos (by omega), e]
  have h3 := specMin_loop l hok (l.length - 1) 1 k (rdT l 0).f1 (by omega) (by omega) (by omega)
  rw [show wrap64 (0 + 1) = ((1 : Nat) : Int) from jnx 0 (by omega)]
  exact h3
theorem specQuick_l0 (l : List Tk) (hok : Ok l) (hne : l ≠ []) : ∀ (f k : Nat) (t n : Int), 0 ≤ t → t < f → t ≤ 300000 → 0 ≤ n → n + f ≤ 1000000 → f + 2000 ≤ k → spec_QuickTest.l0 k l t n = some (qF l f t n) := by
  intro f
  induction f with
  | zero => intro k t n h0 h1; omega
  | succ f ih =>
    intro k t n h0 h1 h2 h3 h4 h5
    obtain ⟨k, rfl⟩ : ∃ m, k = m + 1 := ⟨k - 1, by omega⟩
    have hpos := (dem_bd hok t h0).1
    have hb := lastD_bd hok t h0
    rw [spec_QuickTest.l0, qF]
    by_cases ht : t = 0
    · rw [if_neg (by omega), if_pos ht]
    rw [if_pos (by omega), if_neg ht, specDem_eq l hok t h0 (by omega) k (by omega), Option.bind_some, w64 (n := n + 1) (by omega) (by omega)]
    by_cases hd : dem l t > t
    · rw [if_pos hd, if_pos hd]
    rw [if_neg hd, if_neg hd, specMin_eq l hok hne k (by omega), Option.bind_some]
    by_cases hm : dem l t ≤ mnF 12 l
    · rw [if_pos hm, if_pos hm]
    rw [if_neg hm, if_neg hm]
    by_cases hl : dem l t < t
    · rw [if_pos hl, if_pos hl]
      exact ih k (dem l t) (n + 1) hpos (by omega) (by omega) (by omega) (by omega) (by omega)
    · rw [if_neg hl, if_neg hl, specLast_eq l hok t h0 (by omega) k (by omega), Option.bind_some]
      exact ih k (lastD l t) (n + 1) hb.1 (by omega) (by omega) (by omega) (by omega) (by omega)
theorem specQuick_eq (l : List Tk) (hl : l.length ≤ 1000) (k : Nat) (hk : 12000000 ≤ k) : spec_QuickTest.f k l = some (qT l) := by
  unfold spec_QuickTest.f qT
  rw [specSet_eq l (by omega) k (by omega), Option.bind_some]
  by_cases h : setOk l = true
  · have hok := Ok.mk' h
    have hlen := hok.len
    have hb := hyp_bd hok
    rw [if_pos h, if_pos h, specBusy_eq l hl k (by omega), Option.bind_some]
    by_cases hu : ld l > hyp l
    · have he : l ≠ [] := by
        intro e
        subst e
        have : ld [] = 0 := rfl
        omega
      have hl0 : ¬ (l.length : Int) = 0 := by
        have := List.length_pos_iff.mpr he
        omega
      rw [bp_no (fun a => by have := a.2.2; omega), if_pos (by decide), if_pos hu, beq_eq_false_iff_ne.mpr hl0]
    rw [if_neg hu]
    by_cases he : l = []
    · rw [bp_no (fun a => a.2.1 he), if_pos (by decide), if_pos he, he]
      rfl
    · have hB := bp_yes hok he (by omega)
      have := hB.lo
      have := hB.hi
      have hb2 := lastD_bd hok (bp l + 1) (by omega)
      rw [if_neg (by omega), if_neg he, w64 (n := bp l + 1) (by omega) (by omega), specLast_eq l hok _ (by omega) (by omega) k (by omega), Option.bind_some]
      exact specQuick_l0 l hok he 300000 k _ 0 hb2.1 (by omega) (by omega) (by omega) (by omega) (by omega)
  · rw [if_neg h, if_neg h]

end Go.Proofs.Ythajimgepjbjiaa.Pu
