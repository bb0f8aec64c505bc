import Derived.Test.YtoocccfhmpmopaaSet
import Derived.Test.YtoocccfhmpmopaaFimplXhyper
import Derived.Test.YtoocccfhmpmopaaFspecXl1Hyper
set_option linter.unusedSimpArgs false
set_option linter.unusedVariables false
namespace Go.Proofs.Ytoocccfhmpmopaa.Pu
open Go.RowKit Go.Proofs.Ytoocccfhmpmopaa.Q Go.Proofs.YtoocccfhmpmopaaW.PrintWords Go.Proofs.YtoocccfhmpmopaaW.PrintLast

theorem tmod_nat (a b : Nat) : Int.tmod (a : Int) (b : Int) = ((a % b : Nat) : Int) := rfl
theorem tdiv_nat (a b : Nat) : Int.tdiv (a : Int) (b : Int) = ((a / b : Nat) : Int) := rfl
theorem tdiv_pos {a b : Int} (h : 0 ≤ a) : Int.tdiv a b = a / b := Int.tdiv_eq_ediv_of_nonneg h
theorem tmod_pos {a b : Int} (h : 0 ≤ a) : Int.tmod a b = a % b := Int.tmod_eq_emod_of_nonneg h

theorem w64n (n : Nat) (h : n ≤ 9223372036854775807) : wrap64 (n : Int) = (n : Int) := w64 (by omega) (by omega)
theorem implGcd (k : Nat) : ∀ (b a : Nat), b < k → impl_gcd.f k (a : Int) (b : Int) = some ((Nat.gcd a b : Nat) : Int) := by
  unfold impl_gcd.f
  induction k with
  | zero => intro b a h; omega
  | succ k ih =>
    intro b a h
    simp only [impl_gcd.l0]
    by_cases hb : b = 0
    · subst hb; rw [if_pos (show ((0 : Nat) : Int) = 0 from rfl), Nat.gcd_zero_right]
    · have hm : a % b < b := Nat.mod_lt _ (by omega)
      rw [if_neg (by omega), tmod_nat, ih (a % b) b (by omega), Nat.gcd_comm a b, Nat.gcd_rec b a, Nat.gcd_comm]
theorem specGcd (k : Nat) : ∀ (b a : Nat), b < k → spec_l1Gcd.f k (a : Int) (b : Int) = some ((Nat.gcd a b : Nat) : Int) := by
  unfold spec_l1Gcd.f
  induction k with
  | zero => intro b a h; omega
  | succ k ih =>
    intro b a h
    simp only [spec_l1Gcd.l0]
    by_cases hb : b = 0
    · subst hb; rw [if_neg (by omega), Nat.gcd_zero_right]
    · have hm : a % b < b := Nat.mod_lt _ (by omega)
      rw [if_pos (by omega), if_neg (by omega), tmod_nat, ih (a % b) b (by omega), Nat.gcd_comm a b, Nat.gcd_rec b a, Nat.gcd_comm]

theorem div_gcd_mul (a b : Nat) : a / Nat.gcd a b * b = Nat.lcm a b := by
  rw [Nat.lcm, Nat.mul_comm a b, Nat.mul_div_assoc b (Nat.gcd_dvd_left a b), Nat.mul_comm]
theorem lcm_le (a b : Nat) (ha : 0 < a) : Nat.lcm a b ≤ a * b := by
  unfold Nat.lcm; exact Nat.div_le_self _ _
theorem lcm_pos' {a b : Nat} (ha : 0 < a) (hb : 0 < b) : 0 < Nat.lcm a b := Nat.lcm_pos ha hb

/-- The least common multiple of a number and all periods. -/
def hypF : Nat → List Tk → Nat
  | h, [] => h
  | h, t :: r => hypF (Nat.lcm h t.f2.toNat) r
def hypN (l : List Tk) : Nat := hypF 1 l
def hyp (l : List Tk) : Int := (hypN l : Int)

theorem hypF_dvd (n : Nat) : ∀ (l : List Tk) (h : Nat), hypF h l ∣ n ↔ h ∣ n ∧ ∀ t ∈ l, t.f2.toNat ∣ n
  | [], h => by simp [hypF]
  | t :: r, h => by
    simp only [hypF, List.mem_cons, forall_eq_or_imp]
    rw [hypF_dvd n r, Nat.lcm_dvd_iff, and_assoc]
theorem hypN_dvd {l : List Tk} {n : Nat} : hypN l ∣ n ↔ ∀ t ∈ l, t.f2.toNat ∣ n := by
  unfold hypN; rw [hypF_dvd]; simp
theorem hypF_pos : ∀ (l : List Tk) (h : Nat), 0 < h → (∀ t ∈ l, 1 ≤ t.f2) → 0 < hypF h l
  | [], h, h0, _ => h0
  | t :: r, h, h0, hl => by
    have := hl t (by simp)
    exact hypF_pos r _ (lcm_pos' h0 (by omega)) (fun x hx => hl x (by simp [hx]))
theorem hypF_le : ∀ (l : List Tk) (h : Nat), 0 < h → (∀ t ∈ l, 1 ≤ t.f2 ∧ t.f2 ≤ 12) → hypF h l ≤ h * 12 ^ l.length
  | [], h, h0, _ => by simp [hypF]
  | t :: r, h, h0, hl => by
    have ht := hl t (by simp)
    have h1 := hypF_le r (Nat.lcm h t.f2.toNat) (lcm_pos' h0 (by omega)) (fun x hx => hl x (by simp [hx]))
    have h2 : Nat.lcm h t.f2.toNat ≤ h * 12 := Nat.le_trans (lcm_le _ _ h0) (Nat.mul_le_mul_left _ (by omega))
    simp only [hypF, List.length_cons]
    calc hypF (Nat.lcm h t.f2.toNat) r ≤ Nat.lcm h t.f2.toNat * 12 ^ r.length := h1
      _ ≤ h * 12 * 12 ^ r.length := Nat.mul_le_mul_right _ h2
      _ = h * 12 ^ (r.length + 1) := by rw [Nat.pow_succ, Nat.mul_assoc, Nat.mul_comm 12]
theorem Ok.per {l : List Tk} (h : Ok l) : ∀ t ∈ l, 1 ≤ t.f2 ∧ t.f2 ≤ 12 := fun t ht => by have := h.all t ht; omega
theorem hypN_pos {l : List Tk} (h : Ok l) : 0 < hypN l := hypF_pos l 1 (by omega) (fun t ht => (h.per t ht).1)
theorem hypN_le {l : List Tk} (h : Ok l) : hypN l ≤ 248832 := by
  have h1 := hypF_le l 1 (by omega) h.per
  have h2 : 12 ^ l.length ≤ 12 ^ 5 := Nat.pow_le_pow_right (by omega) h.len
  have h3 : (12 : Nat) ^ 5 = 248832 := by decide
  unfold hypN; omega
theorem hyp_bd {l : List Tk} (h : Ok l) : 1 ≤ hyp l ∧ hyp l ≤ 248832 := by
  have := hypN_pos h; have := hypN_le h; unfold hyp; omega
theorem hyp_dvd_mem {l : List Tk} (h : Ok l) (t : Tk) (ht : t ∈ l) : t.f2 ∣ hyp l := by
  have h1 := (hypN_dvd (l := l) (n := hypN l)).mp (Nat.dvd_refl _) t ht
  have h2 := h.per t ht
  unfold hyp
  rw [show t.f2 = ((t.f2.toNat : Nat) : Int) from by omega]
  exact Int.ofNat_dvd.mpr h1
theorem hyp_min {l : List Tk} (h : Ok l) (n : Int) (hn : 0 ≤ n) (hd : ∀ t ∈ l, t.f2 ∣ n) : hyp l ∣ n := by
  obtain ⟨m, rfl⟩ := Int.eq_ofNat_of_zero_le hn
  unfold hyp
  refine Int.ofNat_dvd.mpr (hypN_dvd.mpr fun t ht => ?_)
  have h2 := h.per t ht
  have := hd t ht
  rw [show t.f2 = ((t.f2.toNat : Nat) : Int) from by omega] at this
  exact Int.ofNat_dvd.mp this

def hypO (l : List Tk) : Int := if setOk l = true then hyp l else 0
theorem implHyper_loop (l : List Tk) (hok : Ok l) (k0 : Nat) (hk0 : 13 ≤ k0) : ∀ (d j k h : Nat), j + d = l.length → k0 + d < k → 0 < h → h ≤ 12 ^ j →
    impl_hyper.l0 k (h : Int) l (l.length : Int) (j : Int) = some ((hypF h (l.drop j) : Nat) : Int) := by
  intro d
  induction d with
  | zero =>
    intro j k h hj hk h0 hh
    obtain ⟨k, rfl⟩ : ∃ m, k = m + 1 := ⟨k - 1, by omega⟩
    simp only [impl_hyper.l0]
    rw [if_neg (by omega), List.drop_eq_nil_of_le (by omega)]
    rfl
  | succ d ih =>
    intro j k h hj hk h0 hh
    obtain ⟨k, rfl⟩ : ∃ m, k = m + 1 := ⟨k - 1, by omega⟩
    have hr := hok.rd j (by omega)
    obtain ⟨P, hP⟩ := Int.eq_ofNat_of_zero_le (show 0 ≤ (rdT l (j : Int)).f2 from by omega)
    have hlen := hok.len
    have hpow : 12 ^ j ≤ 12 ^ 4 := Nat.pow_le_pow_right (by omega) (by omega)
    have hp4 : (12 : Nat) ^ 4 = 20736 := by decide
    have hg : 0 < Nat.gcd h P := Nat.gcd_pos_of_pos_left _ h0
    have hdl : h / Nat.gcd h P ≤ h := Nat.div_le_self _ _
    have hl1 : Nat.lcm h P ≤ h * P := lcm_le _ _ h0
    have hl2 : h * P ≤ h * 12 := Nat.mul_le_mul_left _ (by omega)
    simp only [impl_hyper.l0]
    rw [if_pos (by omega), if_pos (by omega), if_pos (by omega), drop_rd l j (by omega)]
    unfold impl_lcm.f
    rw [show (rd_T35 l (j : Int)).f2 = (P : Int) from hP, implGcd k P h (by omega)]
    simp only [Option.bind_some]
    rw [if_neg (by omega)]
    simp only [Option.bind_some]
    rw [tdiv_nat, w64n (h / Nat.gcd h P) (Nat.le_trans hdl (by omega)), show ((h / Nat.gcd h P : Nat) : Int) * (P : Int) = ((Nat.lcm h P : Nat) : Int) from by rw [← div_gcd_mul, Int.natCast_mul], w64 (n := ((Nat.lcm h P : Nat) : Int)) (by omega) (by omega), w64 (n := (j : Int) + 1) (by omega) (by omega), show ((j : Int) + 1) = ((j + 1 : Nat) : Int) from by omega]
    rw [ih (j + 1) k (Nat.lcm h P) (by omega) (by omega) (lcm_pos' h0 (by omega)) (by rw [Nat.pow_succ]; omega)]
    simp only [hypF]
    rw [show (rdT l (j : Int)).f2.toNat = P from by omega]
theorem implHyper_eq (l : List Tk) (hok : Ok l) (k : Nat) (hk : 20 ≤ k) : impl_hyper.f k l = some (hyp l) := by
  have hlen := hok.len
  unfold impl_hyper.f
  rw [show (1 : Int) = ((1 : Nat) : Int) from rfl, show (0 : Int) = ((0 : Nat) : Int) from rfl, implHyper_loop l hok 13 (by omega) l.length 0 k 1 (by omega) (by omega) (by omega) (by simp)]
  rfl

theorem specHyper_loop (l : List Tk) (hok : Ok l) (k0 : Nat) (hk0 : 13 ≤ k0) : ∀ (d j k h : Nat), j + d = l.length → k0 + d < k → 0 < h → h ≤ 12 ^ j →
    spec_l1Hyper.l0 k l (h : Int) (j : Int) = some ((hypF h (l.drop j) : Nat) : Int) := by
  intro d
  induction d with
  | zero =>
    intro j k h hj hk h0 hh
    obtain ⟨k, rfl⟩ : ∃ m, k = m + 1 := ⟨k - 1, by omega⟩
    simp only [spec_l1Hyper.l0]
    rw [if_neg (by omega), List.drop_eq_nil_of_le (by omega)]
    rfl
  | succ d ih =>
    intro j k h hj hk h0 hh
    obtain ⟨k, rfl⟩ : ∃ m, k = m + 1 := ⟨k - 1, by omega⟩
    have hr := hok.rd j (by omega)
    obtain ⟨P, hP⟩ := Int.eq_ofNat_of_zero_le (show 0 ≤ (rdT l (j : Int)).f2 from by omega)
    have hlen := hok.len
    have hpow : 12 ^ j ≤ 12 ^ 4 := Nat.pow_le_pow_right (by omega) (by omega)
    have hp4 : (12 : Nat) ^ 4 = 20736 := by decide
    have hg : 0 < Nat.gcd h P := Nat.gcd_pos_of_pos_left _ h0
    have hdl : h / Nat.gcd h P ≤ h := Nat.div_le_self _ _
    have hl1 : Nat.lcm h P ≤ h * P := lcm_le _ _ h0
    have hl2 : h * P ≤ h * 12 := Nat.mul_le_mul_left _ (by omega)
    simp only [spec_l1Hyper.l0]
    rw [if_pos (by omega), if_pos (by omega), drop_rd l j (by omega)]
    rw [show (rd_T35 l (j : Int)).f2 = (P : Int) from hP, specGcd k P h (by omega)]
    simp only [Option.bind_some]
    rw [if_neg (by omega)]
    rw [tdiv_nat, w64n (h / Nat.gcd h P) (Nat.le_trans hdl (by omega)), show ((h / Nat.gcd h P : Nat) : Int) * (P : Int) = ((Nat.lcm h P : Nat) : Int) from by rw [← div_gcd_mul, Int.natCast_mul], w64 (n := ((Nat.lcm h P : Nat) : Int)) (by omega) (by omega), w64 (n := (j : Int) + 1) (by omega) (by omega), show ((j : Int) + 1) = ((j + 1 : Nat) : Int) from by omega]
    rw [ih (j + 1) k (Nat.lcm h P) (by omega) (by omega) (lcm_pos' h0 (by omega)) (by rw [Nat.pow_succ]; omega)]
    simp only [hypF]
    rw [show (rdT l (j : Int)).f2.toNat = P from by omega]
theorem specHyper_eq (l : List Tk) (hok : Ok l) (k : Nat) (hk : 20 ≤ k) : spec_l1Hyper.f k l = some (hyp l) := by
  have hlen := hok.len
  unfold spec_l1Hyper.f
  rw [show (1 : Int) = ((1 : Nat) : Int) from rfl, show (0 : Int) = ((0 : Nat) : Int) from rfl, specHyper_loop l hok 13 (by omega) l.length 0 k 1 (by omega) (by omega) (by omega) (by simp)]
  rfl

end Go.Proofs.Ytoocccfhmpmopaa.Pu
