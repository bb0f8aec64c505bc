import Derived.Test.YtpgheaoepaadlaaPO
import Derived.Test.YtpgheaoepaadlaaFA
set_option linter.unusedSimpArgs false
set_option linter.unusedVariables false
namespace Go.Proofs.Ytpgheaoepaadlaa.Pu
open Go.RowKit Go.Proofs.Ytpgheaoepaadlaa.Q Go.Proofs.YtpgheaoepaadlaaW.PrintWords Go.Proofs.YtpgheaoepaadlaaW.PrintLast

theorem tmod_nat (a b : Nat) : Int.tmod (a : Int) (b : Int) = ((a % b : Nat) : Int) := rfl
theorem tdiv_nat (a b : Nat) : Int.tdiv (a : Int) (b : Int) = ((a / b : Nat) : Int) := rfl
theorem tdiv_pos {a b : Int} (h : 0 ≤ a) : Int.tdiv a b = a / b := Int.tdiv_eq_ediv_of_nonneg h
theorem tmod_pos {a b : Int} (h : 0 ≤ a) : Int.tmod a b = a % b := Int.tmod_eq_emod_of_nonneg h

theorem w64n (n : Nat) (h : n ≤ 9223372036854775807) : wrap64 (n : Int) = (n : Int) := w64 (by omega) (by omega)
theorem implGcd (k : Nat) : ∀ (b a : Nat), b < k → impl_gcd.f k (a : Int) (b : Int) = some ((Nat.gcd a b : Nat) : Int) := by
  unfold impl_gcd.f
  induction k with
  | zero => intro b a h; omega
  | succ k ih =>
    intro b a h
    simp only [impl_gcd.l0]
    by_cases hb : b = 0
    · subst hb; rw [if_pos (show ((0 : Nat) : Int) = 0 from rfl), Nat.gcd_zero_right]
    · have hm : a % b < b := Nat.mod_lt _ (by omega)
      rw [if_neg (by omega), tmod_nat, ih (a % b) b (by omega), Nat.gcd_comm a b, Nat.gcd_rec b a, Nat.gcd_comm]
theorem specGcd (k : Nat) : ∀ (b a : Nat), b < k → spec_l1Gcd.f k (a : Int) (b : Int) = some ((Nat.gcd a b : Nat) : Int) := by
  unfold spec_l1Gcd.f
  induction k with
  | zero => intro b a h; omega
  | succ k ih =>
    intro b a h
    simp only [spec_l1Gcd.l0]
    by_cases hb : b = 0
    · subst hb; rw [if_neg (by omega), Nat.gcd_zero_right]
    · have hm : a % b < b := Nat.mod_lt _ (by omega)
      rw [if_pos (by omega), if_neg (by omega), tmod_nat, ih (a % b) b (by omega), Nat.gcd_comm a b, Nat.gcd_rec b a, Nat.gcd_comm]

theorem div_gcd_mul (a b : Nat) : a / Nat.gcd a b * b = Nat.lcm a b := by
  rw [Nat.lcm, Nat.mul_comm a b, Nat.mul_div_assoc b (Nat.gcd_dvd_left a b), Nat.mul_comm]
theorem lcm_le (a b : Nat) (ha : 0 < a) : Nat.lcm a b ≤ a * b := by
  unfold Nat.lcm; exact Nat.div_le_self _ _
theorem lcm_pos' {a b : Nat} (ha : 0 < a) (hb : 0 < b) : 0 < Nat.lcm a b := Nat.lcm_pos ha hb

/-- The greatest common divisor, of whole numbers. -/
def gcdI (a b : Int) : Int := ((Nat.gcd a.toNat b.toNat : Nat) : Int)
theorem gcdI_comm (a b : Int) : gcdI a b = gcdI b a := by unfold gcdI; rw [Nat.gcd_comm]
theorem implGcdI (a b : Int) (ha : 0 ≤ a) (hb : 0 ≤ b) (k : Nat) (hk : b < k) : impl_gcd.f k a b = some (gcdI a b) := by
  obtain ⟨A, rfl⟩ := Int.eq_ofNat_of_zero_le ha
  obtain ⟨B, rfl⟩ := Int.eq_ofNat_of_zero_le hb
  exact implGcd k B A (by omega)
theorem specGcdI (a b : Int) (ha : 0 ≤ a) (hb : 0 ≤ b) (k : Nat) (hk : b < k) : spec_l1Gcd.f k a b = some (gcdI a b) := by
  obtain ⟨A, rfl⟩ := Int.eq_ofNat_of_zero_le ha
  obtain ⟨B, rfl⟩ := Int.eq_ofNat_of_zero_le hb
  exact specGcd k B A (by omega)
/-- A fraction in lowest terms: what is taken out. -/
theorem gcdI_spec (a b : Int) (ha : 0 ≤ a) (hb : 1 ≤ b) : 1 ≤ gcdI a b ∧ a = gcdI a b * (a / gcdI a b) ∧ b = gcdI a b * (b / gcdI a b) ∧ 0 ≤ a / gcdI a b ∧ a / gcdI a b ≤ a ∧ 1 ≤ b / gcdI a b ∧ b / gcdI a b ≤ b ∧ ∀ n, 2 ≤ n → ¬ ((a / gcdI a b) % n = 0 ∧ (b / gcdI a b) % n = 0) := by
  obtain ⟨A, rfl⟩ := Int.eq_ofNat_of_zero_le ha
  obtain ⟨B, rfl⟩ := Int.eq_ofNat_of_zero_le (show 0 ≤ b from by omega)
  have hg : 0 < Nat.gcd A B := Nat.gcd_pos_of_pos_right _ (by omega)
  have e1 : Nat.gcd A B * (A / Nat.gcd A B) = A := Nat.mul_div_cancel' (Nat.gcd_dvd_left A B)
  have e2 : Nat.gcd A B * (B / Nat.gcd A B) = B := Nat.mul_div_cancel' (Nat.gcd_dvd_right A B)
  have l1 : A / Nat.gcd A B ≤ A := Nat.div_le_self _ _
  have l2 : B / Nat.gcd A B ≤ B := Nat.div_le_self _ _
  have p2 : 0 < B / Nat.gcd A B := Nat.div_pos (Nat.le_of_dvd (by omega) (Nat.gcd_dvd_right A B)) hg
  have hcop : Nat.gcd (A / Nat.gcd A B) (B / Nat.gcd A B) = 1 := by
    have := Nat.gcd_mul_left (Nat.gcd A B) (A / Nat.gcd A B) (B / Nat.gcd A B)
    rw [e1, e2] at this
    exact Nat.eq_of_mul_eq_mul_left hg (by rw [← this, Nat.mul_one])
  have c1 : ((A : Int) / (Nat.gcd A B : Nat)) = ((A / Nat.gcd A B : Nat) : Int) := rfl
  have c2 : ((B : Int) / (Nat.gcd A B : Nat)) = ((B / Nat.gcd A B : Nat) : Int) := rfl
  unfold gcdI
  simp only [Int.toNat_natCast]
  rw [c1, c2]
  refine ⟨by omega, by rw [← Int.natCast_mul, e1], by rw [← Int.natCast_mul, e2], Int.natCast_nonneg _, Int.ofNat_le.mpr l1, by omega, Int.ofNat_le.mpr l2, fun n hn h => ?_⟩
  obtain ⟨N, rfl⟩ := Int.eq_ofNat_of_zero_le (show 0 ≤ n from by omega)
  have d1 : N ∣ A / Nat.gcd A B := Int.ofNat_dvd.mp (Int.dvd_of_emod_eq_zero h.1)
  have d2 : N ∣ B / Nat.gcd A B := Int.ofNat_dvd.mp (Int.dvd_of_emod_eq_zero h.2)
  have := Nat.dvd_gcd d1 d2
  rw [hcop] at this
  have := Nat.le_of_dvd (by omega) this
  omega
/-- The fraction a/b in lowest terms. -/
def redI (a b : Int) : Int × Int := (a / gcdI a b, b / gcdI a b)
/-- Two fractions in lowest terms are the same where they are equal as fractions. -/
theorem frac_le {a b g x y : Int} (hg : 1 ≤ g) (h1 : a = g * x) (h2 : b = g * y) : a ≤ b ↔ x ≤ y := by
  subst h1; subst h2
  constructor
  · intro h
    exact Int.le_of_mul_le_mul_left h (by omega)
  · intro h
    exact Int.mul_le_mul_of_nonneg_left h (by omega)

end Go.Proofs.Ytpgheaoepaadlaa.Pu
