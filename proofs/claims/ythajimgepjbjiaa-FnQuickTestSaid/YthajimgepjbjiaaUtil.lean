import Derived.Test.YthajimgepjbjiaaPB
import Derived.Test.YthajimgepjbjiaaImplLoad
import Derived.Test.YthajimgepjbjiaaFimplXUtilization
set_option linter.unusedSimpArgs false
set_option linter.unusedVariables false
namespace Go.Proofs.Ythajimgepjbjiaa.Pu
open Go.RowKit Go.Proofs.Ythajimgepjbjiaa.Q Go.Proofs.YthajimgepjbjiaaW.PrintWords Go.Proofs.YthajimgepjbjiaaW.PrintLast

/-- The greatest common divisor, of whole numbers. -/
def gcdI (a b : Int) : Int := ((Nat.gcd a.toNat b.toNat : Nat) : Int)
theorem gcdI_comm (a b : Int) : gcdI a b = gcdI b a := by unfold gcdI; rw [Nat.gcd_comm]
theorem implGcdI (a b : Int) (ha : 0 ≤ a) (hb : 0 ≤ b) (k : Nat) (hk : b < k) : impl_gcd.f k a b = some (gcdI a b) := by
  obtain ⟨A, rfl⟩ := Int.eq_ofNat_of_zero_le ha
  obtain ⟨B, rfl⟩ := Int.eq_ofNat_of_zero_le hb
  exact implGcd k B A (by omega)
theorem specGcdI (a b : Int) (ha : 0 ≤ a) (hb : 0 ≤ b) (k : Nat) (hk : b < k) : spec_l1Gcd.f k a b = some (gcdI a b) := by
  obtain ⟨A, rfl⟩ := Int.eq_ofNat_of_zero_le ha
  obtain ⟨B, rfl⟩ := Int.eq_ofNat_of_zero_le hb
  exact specGcd k B A (by omega)
/-- A fraction in lowest terms: what is taken out. -/
theorem gcdI_spec (a b : Int) (ha : 0 ≤ a) (hb : 1 ≤ b) : 1 ≤ gcdI a b ∧ a = gcdI a b * (a / gcdI a b) ∧ b = gcdI a b * (b / gcdI a b) ∧ 0 ≤ a / gcdI a b ∧ a / gcdI a b ≤ a ∧ 1 ≤ b / gcdI a b ∧ b / gcdI a b ≤ b ∧ ∀ n, 2 ≤ n → ¬ ((a / gcdI a b) % n = 0 ∧ (b / gcdI a b) % n = 0) := by
  obtain ⟨A, rfl⟩ := Int.eq_ofNat_of_zero_le ha
  obtain ⟨B, rfl⟩ := Int.eq_ofNat_of_zero_le (show 0 ≤ b from by omega)
  have hg : 0 < Nat.gcd A B := Nat.gcd_pos_of_pos_right _ (by omega)
  have e1 : Nat.gcd A B * (A / Nat.gcd A B) = A := Nat.mul_div_cancel' (Nat.gcd_dvd_left A B)
  have e2 : Nat.gcd A B * (B / Nat.gcd A B) = B := Nat.mul_div_cancel' (Nat.gcd_dvd_right A B)
  have l1 : A / Nat.gcd A B ≤ A := Nat.div_le_self _ _
  have l2 : B / Nat.gcd A B ≤ B := Nat.div_le_self _ _
  have p2 : 0 < B / Nat.gcd A B := Nat.div_pos (Nat.le_of_dvd (by omega) (Nat.gcd_dvd_right A B)) hg
  have hcop : Nat.gcd (A / Nat.gcd A B) (B / Nat.gcd A B) = 1 := by
    have := Nat.gcd_mul_left (Nat.gcd A B) (A / Nat.gcd A B) (B / Nat.gcd A B)
    rw [e1, e2] at this
    exact Nat.eq_of_mul_eq_mul_left hg (by rw [← this, Nat.mul_one])
  have c1 : ((A : Int) / (Nat.gcd A B : Nat)) = ((A / Nat.gcd A B : Nat) : Int) := rfl
  have c2 : ((B : Int) / (Nat.gcd A B : Nat)) = ((B / Nat.gcd A B : Nat) : Int) := rfl
  unfold gcdI
  simp only [Int.toNat_natCast]
  rw [c1, c2]
  refine ⟨by omega, by rw [← Int.natCast_mul, e1], by rw [← Int.natCast_mul, e2], Int.natCast_nonneg _, Int.ofNat_le.mpr l1, by omega, Int.ofNat_le.mpr l2, fun n hn h => ?_⟩
  obtain ⟨N, rfl⟩ := Int.eq_ofNat_of_zero_le (show 0 ≤ n from by omega)
  have d1 : N ∣ A / Nat.gcd A B := Int.ofNat_dvd.mp (Int.dvd_of_emod_eq_zero h.1)
  have d2 : N ∣ B / Nat.gcd A B := Int.ofNat_dvd.mp (Int.dvd_of_emod_eq_zero h.2)
  have := Nat.dvd_gcd d1 d2
  rw [hcop] at this
  have := Nat.le_of_dvd (by omega) this
  omega
/-- The fraction a/b in lowest terms. -/
def redI (a b : Int) : Int × Int := (a / gcdI a b, b / gcdI a b)
theorem implRed_eq (a b : Int) (ha : 0 ≤ a) (hb : 1 ≤ b) (ha' : a ≤ 1000000000) (hb' : b ≤ 1000000000) (k : Nat) (hk : b < k) : impl_reduced.f k a b = some (redI a b) := by
  have h := gcdI_spec a b ha hb
  unfold impl_reduced.f redI
  rw [implGcdI a b ha (by omega) k hk]
  simp only [Option.bind_some]
  rw [if_neg (by omega), tdiv_pos ha, tdiv_pos (by omega), w64 (n := a / gcdI a b) (by omega) (by omega), w64 (n := b / gcdI a b) (by omega) (by omega)]
/-- Two fractions in lowest terms are the same where they are equal as fractions. -/
theorem frac_le {a b g x y : Int} (hg : 1 ≤ g) (h1 : a = g * x) (h2 : b = g * y) : a ≤ b ↔ x ≤ y := by
  subst h1; subst h2
  constructor
  · intro h
    exact Int.le_of_mul_le_mul_left h (by omega)
  · intro h
    exact Int.mul_le_mul_of_nonneg_left h (by omega)

def utO (l : List Tk) : Int × Int := if setOk l = true then redI (ld l) (hyp l) else (0, 0)
theorem implUtil_eq (l : List Tk) (k : Nat) (hk : 300000 ≤ k) : impl_Utilization.f k l = some (utO l) := by
  unfold impl_Utilization.f utO
  rw [implSet_eq]
  simp only [Option.bind_some]
  by_cases h : setOk l = true
  · have hok := Ok.mk' h
    have hb := hyp_bd hok
    have hl := ld_bd hok
    rw [if_pos h, if_pos h, implLoad_eq l hok k (by omega), implHyper_eq l hok k (by omega)]
    simp only [Option.bind_some]
    rw [implRed_eq _ _ hl.1 hb.1 (by omega) (by omega) k (by omega)]
    rfl
  · rw [if_neg h, if_neg h]
/-- What a valid set's utilization is. -/
structure Ut (l : List Tk) (u : Int × Int) : Prop where
  g : ∃ g, 1 ≤ g ∧ ld l = g * u.1 ∧ hyp l = g * u.2
  n0 : 0 ≤ u.1
  n1 : u.1 ≤ ld l
  d0 : 1 ≤ u.2
  d1 : u.2 ≤ hyp l
  low : ∀ n, 2 ≤ n → ¬ (u.1 % n = 0 ∧ u.2 % n = 0)
theorem ut_spec {l : List Tk} (hok : Ok l) : Ut l (utO l) := by
  have hb := hyp_bd hok
  have hl := ld_bd hok
  obtain ⟨h1, h2, h3, h4, h5, h6, h7, h8⟩ := gcdI_spec (ld l) (hyp l) hl.1 hb.1
  unfold utO
  rw [if_pos ((setOk_iff _).mpr hok)]
  exact ⟨⟨gcdI (ld l) (hyp l), h1, h2, h3⟩, h4, h5, h6, h7, h8⟩
theorem Ut.cross {l : List Tk} {u : Int × Int} (h : Ut l u) : u.1 * hyp l = ld l * u.2 := by
  obtain ⟨g, _, e1, e2⟩ := h.g
  rw [e1, e2, Int.mul_assoc, Int.mul_left_comm]
theorem Ut.le_iff {l : List Tk} {u : Int × Int} (h : Ut l u) : u.1 ≤ u.2 ↔ ld l ≤ hyp l := by
  obtain ⟨g, hg, e1, e2⟩ := h.g
  exact (frac_le hg e1 e2).symm

end Go.Proofs.Ythajimgepjbjiaa.Pu
