import Derived.Test.YtpgheaoepaadlaaMixSum
import Derived.Test.YtpgheaoepaadlaaFspecXl15Sums
import Derived.Test.YtpgheaoepaadlaaFspecXDeadlineScale
set_option linter.unusedSimpArgs false
set_option linter.unusedVariables false
namespace Go.Proofs.Ytpgheaoepaadlaa.Pu
open Go.RowKit Go.Proofs.Ytpgheaoepaadlaa.Q Go.Proofs.YtpgheaoepaadlaaW.PrintWords Go.Proofs.YtpgheaoepaadlaaW.PrintLast

/-- The least common multiple of the periods. -/
def hypM : Nat → List Mx → Nat
  | h, [] => h
  | h, x :: r => hypM (Nat.lcm h x.f2.toNat) r
theorem hypM_dvd (n : Nat) : ∀ (l : List Mx) (h : Nat), hypM h l ∣ n ↔ h ∣ n ∧ ∀ t ∈ l, t.f2.toNat ∣ n
  | [], h => by simp [hypM]
  | x :: r, h => by
    rw [hypM, hypM_dvd n r, Nat.lcm_dvd_iff, and_assoc]
    simp
theorem per_dvd {x : Mx} (hx : MxOk x) : x.f2.toNat ∣ 27720 := by
  unfold MxOk at hx
  obtain ⟨P, hP⟩ := Int.eq_ofNat_of_zero_le (show 0 ≤ x.f2 by omega)
  rw [hP, Int.toNat_natCast]
  have h1 : 1 ≤ P := by omega
  have h2 : P ≤ 12 := by omega
  rcases (show P = 1 ∨ P = 2 ∨ P = 3 ∨ P = 4 ∨ P = 5 ∨ P = 6 ∨ P = 7 ∨ P = 8 ∨ P = 9 ∨ P = 10 ∨ P = 11 ∨ P = 12 by omega) with h | h | h | h | h | h | h | h | h | h | h | h <;> subst h <;> decide
/-- The four numbers over a common denominator. -/
def smS (l : List Mx) (H : Int) : Int × Int × Int × Int := (sumM (aT H) l, sumM (bT H) l, sumM (cT H) l, H)
theorem specSums_l1 {l : List Mx} (hl : ∀ x ∈ l, MxOk x) (h5 : l.length ≤ 5) (H : Int) (hH0 : 0 ≤ H) (hH : H ≤ 27720) (SA SB SC : Int) : ∀ (d j : Nat) (a b c : Int), j + d = l.length → (0 ≤ a ∧ a ≤ j * 332640) → (0 ≤ b ∧ b ≤ j * 332640) → (0 ≤ c ∧ c ≤ j * 332640) →
    a + sumM (aT H) (l.drop j) = SA → b + sumM (bT H) (l.drop j) = SB → c + sumM (cT H) (l.drop j) = SC →
    Ex (fun k => spec_l15Sums.l1 k l H a b c (j : Int)) (fun x => x = (SA, SB, SC, H)) := by
  intro d
  induction d with
  | zero =>
    intro j a b c hj ha hb hc eA eB eC
    rw [List.drop_of_length_le (by omega)] at eA eB eC
    simp only [sumM, Int.add_zero] at eA eB eC
    subst eA; subst eB; subst eC
    refine Ex.step ?_
    simp only [spec_l15Sums.l1]
    exact Ex.neg (by omega) (Ex.val rfl)
  | succ d ih =>
    intro j a b c hj ha hb hc eA eB eC
    have hx : MxOk (rd_T39 l (j : Int)) := by rw [rdM_get l j (by omega)]; exact hl _ (List.getElem_mem _)
    have hp := part_bd hx hH0
    rw [sumM_drop _ l j (by omega)] at eA eB eC
    have bj : (j : Int) * 332640 ≤ 1663200 := by omega
    have hx' := hx
    unfold MxOk at hx'
    have m1 := mul_bd (show 0 ≤ (rd_T39 l (j : Int)).f0 by omega) (show (rd_T39 l (j : Int)).f0 ≤ 12 by omega) hp.1 (show H / (rd_T39 l (j : Int)).f2 ≤ 27720 by omega)
    have m2 := mul_bd (show 0 ≤ (rd_T39 l (j : Int)).f1 by omega) (show (rd_T39 l (j : Int)).f1 ≤ 12 by omega) hp.1 (show H / (rd_T39 l (j : Int)).f2 ≤ 27720 by omega)
    refine Ex.step ?_
    simp only [spec_l15Sums.l1]
    rw [tdiv_pos hH0, w64 (n := H / (rd_T39 l (j : Int)).f2) (by omega) (by omega), w64 (n := (rd_T39 l (j : Int)).f0 * (H / (rd_T39 l (j : Int)).f2)) (by omega) (by omega), w64 (n := (rd_T39 l (j : Int)).f1 * (H / (rd_T39 l (j : Int)).f2)) (by omega) (by omega), w64 (n := (j : Int) + 1) (by omega) (by omega)]
    rw [w64 (n := b + _) (by omega) (by omega), w64 (n := c + _) (by omega) (by omega), w64 (n := a + _) (by omega) (by omega)]
    refine Ex.pos (by omega) (Ex.pos (by omega) (Ex.neg (by omega) (Ex.ite (fun h3 => ?_) (fun h3 => ?_))))
    · unfold aT at eA; unfold bT at eB; unfold cT at eC
      rw [if_pos h3] at eA eB eC
      refine ih (j + 1) _ _ _ (by omega) (by omega) (by omega) (by omega) (by unfold aT; omega) ?_ ?_
      · unfold bT; omega
      · unfold cT; omega
    · unfold aT at eA; unfold bT at eB; unfold cT at eC
      rw [if_neg h3] at eA eB eC
      refine ih (j + 1) _ _ _ (by omega) (by omega) (by omega) (by omega) ?_ (by unfold bT; omega) (by unfold cT; omega)
      unfold aT; omega
theorem specSums_l0 {l : List Mx} (hl : ∀ x ∈ l, MxOk x) (h5 : l.length ≤ 5) : ∀ (d j h : Nat), j + d = l.length → 0 < h → h ∣ 27720 → Ex (fun k => spec_l15Sums.l0 k l (h : Int) (j : Int)) (fun x => x = smS l ((hypM h (l.drop j) : Nat) : Int)) := by
  intro d
  induction d with
  | zero =>
    intro j h hj h0 hd
    have hle := Nat.le_of_dvd (by omega) hd
    rw [List.drop_of_length_le (by omega)]
    refine Ex.step ?_
    simp only [spec_l15Sums.l0]
    refine Ex.neg (by omega) ?_
    exact specSums_l1 hl h5 (h : Int) (by omega) (by omega) _ _ _ l.length 0 0 0 0 (by omega) (by omega) (by omega) (by omega) (by rw [List.drop_zero]; exact Int.zero_add _) (by rw [List.drop_zero]; exact Int.zero_add _) (by rw [List.drop_zero]; exact Int.zero_add _)
  | succ d ih =>
    intro j h hj h0 hd
    have hle := Nat.le_of_dvd (by omega) hd
    have hx : MxOk (rd_T39 l (j : Int)) := by rw [rdM_get l j (by omega)]; exact hl _ (List.getElem_mem _)
    have hpd := per_dvd hx
    have edrop : l.drop j = rd_T39 l (j : Int) :: l.drop (j + 1) := by rw [List.drop_eq_getElem_cons (by omega), ← rdM_get l j (by omega)]
    have hx' := hx
    unfold MxOk at hx'
    obtain ⟨P, hP⟩ := Int.eq_ofNat_of_zero_le (show 0 ≤ (rd_T39 l (j : Int)).f2 by omega)
    rw [hP, Int.toNat_natCast] at hpd
    have hl0 : Nat.lcm h P ∣ 27720 := Nat.lcm_dvd hd hpd
    have hpos : 0 < Nat.lcm h P := Nat.lcm_pos h0 (by omega)
    have hll := Nat.le_of_dvd (by omega) hl0
    have hg : 0 < Nat.gcd h P := Nat.gcd_pos_of_pos_left _ h0
    rw [edrop, hypM, hP, Int.toNat_natCast]
    refine Ex.step ?_
    simp only [spec_l15Sums.l0]
    rw [hP]
    refine Ex.pos (by omega) (Ex.pos (by omega) (Ex.bind (Ex.at_ 20 (fun k hk => specGcd k P h (by omega)) (P := fun x => x = ((Nat.gcd h P : Nat) : Int)) rfl) ?_))
    intro x hxg
    rw [hxg]
    have hq : h / Nat.gcd h P ≤ h := Nat.div_le_self _ _
    refine Ex.neg (by omega) ?_
    rw [tdiv_nat, w64n (h / Nat.gcd h P) (by omega), show ((h / Nat.gcd h P : Nat) : Int) * (P : Int) = ((Nat.lcm h P : Nat) : Int) from by rw [← div_gcd_mul, Int.natCast_mul], w64n _ (by omega), w64 (n := (j : Int) + 1) (by omega) (by omega)]
    exact ih (j + 1) (Nat.lcm h P) (by omega) hpos hl0
/-- A fraction's lowest terms do not change when both are multiplied. -/
theorem redI_scale {m x y : Int} (hm : 1 ≤ m) (hx : 0 ≤ x) (hy : 1 ≤ y) : redI (m * x) (m * y) = redI x y := by
  have hg : gcdI (m * x) (m * y) = m * gcdI x y := by
    unfold gcdI
    rw [Int.toNat_mul (by omega) (by omega), Int.toNat_mul (by omega) (by omega), Nat.gcd_mul_left, Int.natCast_mul, Int.toNat_of_nonneg (by omega)]
  unfold redI
  rw [hg, Int.mul_ediv_mul_of_pos _ _ (by omega), Int.mul_ediv_mul_of_pos _ _ (by omega)]
theorem mul_le_iff {m x y : Int} (hm : 1 ≤ m) : m * x ≤ m * y ↔ x ≤ y := ⟨fun h => Int.le_of_mul_le_mul_left h (by omega), fun h => Int.mul_le_mul_of_nonneg_left h (by omega)⟩
theorem dsV_scale {m a b c h : Int} (hm : 1 ≤ m) (hb : 0 ≤ b) : dsV (m * a) (m * b) (m * c) (m * h) = dsV a b c h := by
  unfold dsV
  have e1 : m * a + m * c ≤ m * h ↔ a + c ≤ h := by rw [← Int.mul_add]; exact mul_le_iff hm
  have e2 : m * h - m * a = m * (h - a) := by rw [Int.mul_sub]
  have e3 : m * (h - a) > 0 ↔ h - a > 0 := by
    constructor
    · intro hh
      by_cases h' : h - a ≤ 0
      · have := Int.mul_le_mul_of_nonneg_left h' (show 0 ≤ m by omega); rw [Int.mul_zero] at this; omega
      · omega
    · intro hh; exact Int.mul_pos (by omega) hh
  have e4 : m * b > 0 ↔ b > 0 := by
    constructor
    · intro hh
      by_cases h' : b ≤ 0
      · have := Int.mul_le_mul_of_nonneg_left h' (show 0 ≤ m by omega); rw [Int.mul_zero] at this; omega
      · omega
    · intro hh; exact Int.mul_pos (by omega) hh
  have e5 : m * b * (m * a) + m * c * (m * (h - a)) ≤ m * h * (m * (h - a)) ↔ b * a + c * (h - a) ≤ h * (h - a) := by
    have f1 : m * b * (m * a) + m * c * (m * (h - a)) = m * (m * (b * a + c * (h - a))) := by
      rw [Int.mul_add, Int.mul_add, Int.mul_assoc m b, Int.mul_left_comm b m a, Int.mul_assoc m c, Int.mul_left_comm c m (h - a)]
    have f2 : m * h * (m * (h - a)) = m * (m * (h * (h - a))) := by rw [Int.mul_assoc m h, Int.mul_left_comm h m]
    rw [f1, f2, mul_le_iff hm, mul_le_iff hm]
  rw [e2]
  by_cases c1 : a + c ≤ h
  · rw [if_pos c1, if_pos (e1.mpr c1)]
  · rw [if_neg c1, if_neg (fun hh => c1 (e1.mp hh))]
    by_cases c2 : h - a > 0 ∧ b > 0 ∧ b ≤ h - a ∧ b * a + c * (h - a) ≤ h * (h - a)
    · rw [if_pos c2, if_pos ⟨e3.mpr c2.1, e4.mpr c2.2.1, (mul_le_iff hm).mpr c2.2.2.1, e5.mpr c2.2.2.2⟩, redI_scale hm hb (by omega)]
    · rw [if_neg c2, if_neg (fun hh => c2 ⟨e3.mp hh.1, e4.mp hh.2.1, (mul_le_iff hm).mp hh.2.2.1, e5.mp hh.2.2.2⟩)]
/-- The sums over the periods' common multiple are the ones over 27720, divided. -/
theorem dsO_eq {l : List Mx} (hv : mixOk l = true) : dsO l = dsV (sumM (aT ((hypM 1 l : Nat) : Int)) l) (sumM (bT ((hypM 1 l : Nat) : Int)) l) (sumM (cT ((hypM 1 l : Nat) : Int)) l) ((hypM 1 l : Nat) : Int) := by
  have hl := (mixOk_iff l).mp hv
  have hd : hypM 1 l ∣ 27720 := (hypM_dvd 27720 l 1).mpr ⟨Nat.one_dvd _, fun t ht => per_dvd (hl.2 t ht)⟩
  obtain ⟨m, hm⟩ := hd
  have hm0 : 1 ≤ m := by
    rcases Nat.eq_zero_or_pos m with h | h
    · rw [h, Nat.mul_zero] at hm; omega
    · exact h
  generalize hH : hypM 1 l = H at hm
  have hH0 : 0 < H := by
    rcases Nat.eq_zero_or_pos H with h | h
    · rw [h, Nat.zero_mul] at hm; omega
    · exact h
  have hI : (27720 : Int) = (m : Int) * (H : Int) := by rw [Int.mul_comm, ← Int.natCast_mul, ← hm]; rfl
  have part : ∀ x ∈ l, 27720 / x.f2 = (m : Int) * ((H : Int) / x.f2) := fun x hx => by
    have hp : x.f2.toNat ∣ H := by rw [← hH]; exact ((hypM_dvd (hypM 1 l) l 1).mp (Nat.dvd_refl _)).2 x hx
    have hok := hl.2 x hx
    unfold MxOk at hok
    have hp2 : x.f2 ∣ (H : Int) := by
      rw [← Int.toNat_of_nonneg (show 0 ≤ x.f2 by omega)]
      exact Int.natCast_dvd_natCast.mpr hp
    rw [hI, Int.mul_ediv_assoc _ hp2]
  have sA : sumM (aT 27720) l = (m : Int) * sumM (aT (H : Int)) l := sumM_scale _ l (fun x hx => by unfold aT; rw [part x hx]; split <;> simp [Int.mul_left_comm])
  have sB : sumM (bT 27720) l = (m : Int) * sumM (bT (H : Int)) l := sumM_scale _ l (fun x hx => by unfold bT; rw [part x hx]; split <;> simp [Int.mul_left_comm])
  have sC : sumM (cT 27720) l = (m : Int) * sumM (cT (H : Int)) l := sumM_scale _ l (fun x hx => by unfold cT; rw [part x hx]; split <;> simp [Int.mul_left_comm])
  have hb := (s_bd hl.2 hl.1 (h := (H : Int)) (by omega)).2.1.1
  unfold dsO
  rw [if_pos hv, sA, sB, sC]
  rw [show dsV ((m : Int) * sumM (aT (H : Int)) l) ((m : Int) * sumM (bT (H : Int)) l) ((m : Int) * sumM (cT (H : Int)) l) 27720 = dsV ((m : Int) * sumM (aT (H : Int)) l) ((m : Int) * sumM (bT (H : Int)) l) ((m : Int) * sumM (cT (H : Int)) l) ((m : Int) * (H : Int)) from by rw [← hI]]
  exact dsV_scale (by omega) hb
theorem specDs_ex (l : List Mx) (hlen : l.length ≤ 100000000) : Ex (fun k => spec_DeadlineScale.f k l) (fun x => x = dsO l) := by
  unfold spec_DeadlineScale.f
  refine Ex.bind (specMix_ex l (by omega)) ?_
  intro v hv
  rw [hv]
  refine Ex.ite (fun h => ?_) (fun h => Ex.val (by unfold dsO; rw [if_neg h]))
  have hl := (mixOk_iff l).mp h
  rw [dsO_eq h]
  have hd : hypM 1 l ∣ 27720 := (hypM_dvd 27720 l 1).mpr ⟨Nat.one_dvd _, fun t ht => per_dvd (hl.2 t ht)⟩
  have hle := Nat.le_of_dvd (by omega) hd
  have hH0 := Nat.pos_of_dvd_of_pos hd (by omega)
  unfold spec_l15Sums.f
  refine Ex.bind (specSums_l0 hl.2 hl.1 l.length 0 1 (by omega) (by omega) (Nat.one_dvd _)) ?_
  intro s hs
  rw [hs, List.drop_zero]
  unfold smS
  generalize hypM 1 l = H at hle hH0
  have bd := s_bd hl.2 hl.1 (h := (H : Int)) (by omega)
  generalize sumM (aT (H : Int)) l = a at bd
  generalize sumM (bT (H : Int)) l = b at bd
  generalize sumM (cT (H : Int)) l = c at bd
  simp only []
  rw [w64 (n := a + c) (by omega) (by omega), w64 (n := (H : Int) - a) (by omega) (by omega)]
  unfold dsV
  refine Ex.ite (fun h1 => Ex.val (by rw [if_pos h1])) (fun h1 => ?_)
  rw [if_neg h1]
  refine Ex.ite (fun h2 => Ex.val (by rw [if_neg (by omega)])) (fun h2 => Ex.ite (fun h3 => Ex.val (by rw [if_neg (by omega)])) (fun h3 => Ex.ite (fun h4 => Ex.val (by rw [if_neg (by omega)])) (fun h4 => ?_)))
  have m1 := mul_bd (show 0 ≤ b by omega) (show b ≤ 27720 by omega) bd.1.1 (show a ≤ 27720 by omega)
  have m2 := mul_bd bd.2.2.1 (show c ≤ 1663200 by omega) (show 0 ≤ (H : Int) - a by omega) (show (H : Int) - a ≤ 27720 by omega)
  have m3 := mul_bd (show 0 ≤ (H : Int) by omega) (show (H : Int) ≤ 27720 by omega) (show 0 ≤ (H : Int) - a by omega) (show (H : Int) - a ≤ 27720 by omega)
  rw [w64 (n := b * a) (by omega) (by omega), w64 (n := c * ((H : Int) - a)) (by omega) (by omega), w64 (n := b * a + c * ((H : Int) - a)) (by omega) (by omega), w64 (n := (H : Int) * ((H : Int) - a)) (by omega) (by omega)]
  refine Ex.ite (fun h5 => Ex.val (by rw [if_neg (by omega)])) (fun h5 => ?_)
  rw [if_pos ⟨by omega, by omega, by omega, by omega⟩]
  refine Ex.bind (Ex.at_ 28000 (fun k hk => specGcdI ((H : Int) - a) b (by omega) (by omega) k (by omega)) (P := fun x => x = gcdI ((H : Int) - a) b) rfl) ?_
  intro g hg
  rw [hg, gcdI_comm]
  have hsp := gcdI_spec b ((H : Int) - a) (by omega) (by omega)
  refine Ex.neg (by omega) (Ex.val ?_)
  rw [tdiv_pos (show 0 ≤ b by omega), tdiv_pos (show 0 ≤ (H : Int) - a by omega), w64 (n := b / _) (by omega) (by omega), w64 (n := ((H : Int) - a) / _) (by omega) (by omega)]
  rfl

end Go.Proofs.Ytpgheaoepaadlaa.Pu
