import Derived.Test.YtncombcckeeecaaPO
import Derived.Test.YtncombcckeeecaaFA
import Derived.Test.YtncombcckeeecaaPA
import Derived.Test.YtncombcckeeecaaFimplXhyper
set_option linter.unusedSimpArgs false
set_option linter.unusedVariables false
namespace Go.Proofs.Ytncombcckeeecaa.Pu
open Go.RowKit Go.Proofs.Ytncombcckeeecaa.Q Go.Proofs.YtncombcckeeecaaW.PrintWords Go.Proofs.YtncombcckeeecaaW.PrintLast

theorem tmod_nat (a b : Nat) : Int.tmod (a : Int) (b : Int) = ((a % b : Nat) : Int) := rfl
theorem tdiv_nat (a b : Nat) : Int.tdiv (a : Int) (b : Int) = ((a / b : Nat) : Int) := rfl
theorem tdiv_pos {a b : Int} (h : 0 ≤ a) : Int.tdiv a b = a / b := Int.tdiv_eq_ediv_of_nonneg h
theorem tmod_pos {a b : Int} (h : 0 ≤ a) : Int.tmod a b = a % b := Int.tmod_eq_emod_of_nonneg h

theorem w64n (n : Nat) (h : n ≤ 9223372036854775807) : wrap64 (n : Int) = (n : Int) := w64 (by omega) (by omega)
theorem implGcd (k : Nat) : ∀ (b a : Nat), b < k → impl_gcd.f k (a : Int) (b : Int) = some ((Nat.gcd a b : Nat) : Int) := by
  unfold impl_gcd.f
  induction k with
  | zero => intro b a h; omega
  | succ k ih =>
    intro b a h
    simp only [impl_gcd.l0]
    by_cases hb : b = 0
    · subst hb; rw [if_pos (show ((0 : Nat) : Int) = 0 from rfl), Nat.gcd_zero_right]
    · have hm : a % b < b := Nat.mod_lt _ (by omega)
      rw [if_neg (by omega), tmod_nat, ih (a % b) b (by omega), Nat.gcd_comm a b, Nat.gcd_rec b a, Nat.gcd_comm]

theorem div_gcd_mul (a b : Nat) : a / Nat.gcd a b * b = Nat.lcm a b := by
  rw [Nat.lcm, Nat.mul_comm a b, Nat.mul_div_assoc b (Nat.gcd_dvd_left a b), Nat.mul_comm]
theorem lcm_le (a b : Nat) (ha : 0 < a) : Nat.lcm a b ≤ a * b := by
  unfold Nat.lcm; exact Nat.div_le_self _ _
theorem lcm_pos' {a b : Nat} (ha : 0 < a) (hb : 0 < b) : 0 < Nat.lcm a b := Nat.lcm_pos ha hb

/-- The greatest common divisor, of whole numbers. -/
def gcdI (a b : Int) : Int := ((Nat.gcd a.toNat b.toNat : Nat) : Int)
theorem gcdI_comm (a b : Int) : gcdI a b = gcdI b a := by unfold gcdI; rw [Nat.gcd_comm]
theorem implGcdI (a b : Int) (ha : 0 ≤ a) (hb : 0 ≤ b) (k : Nat) (hk : b < k) : impl_gcd.f k a b = some (gcdI a b) := by
  obtain ⟨A, rfl⟩ := Int.eq_ofNat_of_zero_le ha
  obtain ⟨B, rfl⟩ := Int.eq_ofNat_of_zero_le hb
  exact implGcd k B A (by omega)
/-- A fraction in lowest terms: what is taken out. -/
theorem gcdI_spec (a b : Int) (ha : 0 ≤ a) (hb : 1 ≤ b) : 1 ≤ gcdI a b ∧ a = gcdI a b * (a / gcdI a b) ∧ b = gcdI a b * (b / gcdI a b) ∧ 0 ≤ a / gcdI a b ∧ a / gcdI a b ≤ a ∧ 1 ≤ b / gcdI a b ∧ b / gcdI a b ≤ b ∧ ∀ n, 2 ≤ n → ¬ ((a / gcdI a b) % n = 0 ∧ (b / gcdI a b) % n = 0) := by
  obtain ⟨A, rfl⟩ := Int.eq_ofNat_of_zero_le ha
  obtain ⟨B, rfl⟩ := Int.eq_ofNat_of_zero_le (show 0 ≤ b from by omega)
  have hg : 0 < Nat.gcd A B := Nat.gcd_pos_of_pos_right _ (by omega)
  have e1 : Nat.gcd A B * (A / Nat.gcd A B) = A := Nat.mul_div_cancel' (Nat.gcd_dvd_left A B)
  have e2 : Nat.gcd A B * (B / Nat.gcd A B) = B := Nat.mul_div_cancel' (Nat.gcd_dvd_right A B)
  have l1 : A / Nat.gcd A B ≤ A := Nat.div_le_self _ _
  have l2 : B / Nat.gcd A B ≤ B := Nat.div_le_self _ _
  have p2 : 0 < B / Nat.gcd A B := Nat.div_pos (Nat.le_of_dvd (by omega) (Nat.gcd_dvd_right A B)) hg
  have hcop : Nat.gcd (A / Nat.gcd A B) (B / Nat.gcd A B) = 1 := by
    have := Nat.gcd_mul_left (Nat.gcd A B) (A / Nat.gcd A B) (B / Nat.gcd A B)
    rw [e1, e2] at this
    exact Nat.eq_of_mul_eq_mul_left hg (by rw [← this, Nat.mul_one])
  have c1 : ((A : Int) / (Nat.gcd A B : Nat)) = ((A / Nat.gcd A B : Nat) : Int) := rfl
  have c2 : ((B : Int) / (Nat.gcd A B : Nat)) = ((B / Nat.gcd A B : Nat) : Int) := rfl
  unfold gcdI
  simp only [Int.toNat_natCast]
  rw [c1, c2]
  refine ⟨by omega, by rw [← Int.natCast_mul, e1], by rw [← Int.natCast_mul, e2], Int.natCast_nonneg _, Int.ofNat_le.mpr l1, by omega, Int.ofNat_le.mpr l2, fun n hn h => ?_⟩
  obtain ⟨N, rfl⟩ := Int.eq_ofNat_of_zero_le (show 0 ≤ n from by omega)
  have d1 : N ∣ A / Nat.gcd A B := Int.ofNat_dvd.mp (Int.dvd_of_emod_eq_zero h.1)
  have d2 : N ∣ B / Nat.gcd A B := Int.ofNat_dvd.mp (Int.dvd_of_emod_eq_zero h.2)
  have := Nat.dvd_gcd d1 d2
  rw [hcop] at this
  have := Nat.le_of_dvd (by omega) this
  omega
/-- The fraction a/b in lowest terms. -/
def redI (a b : Int) : Int × Int := (a / gcdI a b, b / gcdI a b)
/-- Two fractions in lowest terms are the same where they are equal as fractions. -/
theorem frac_le {a b g x y : Int} (hg : 1 ≤ g) (h1 : a = g * x) (h2 : b = g * y) : a ≤ b ↔ x ≤ y := by
  subst h1; subst h2
  constructor
  · intro h
    exact Int.le_of_mul_le_mul_left h (by omega)
  · intro h
    exact Int.mul_le_mul_of_nonneg_left h (by omega)

end Go.Proofs.Ytncombcckeeecaa.Pu

set_option linter.unusedSimpArgs false
set_option linter.unusedVariables false
namespace Go.Proofs.Ytncombcckeeecaa.Pu
open Go.RowKit Go.Proofs.Ytncombcckeeecaa.Q Go.Proofs.YtncombcckeeecaaW.PrintWords Go.Proofs.YtncombcckeeecaaW.PrintLast

/-- The least common multiple of a number and all periods. -/
def hypF : Nat → List Tk → Nat
  | h, [] => h
  | h, t :: r => hypF (Nat.lcm h t.f2.toNat) r
def hypN (l : List Tk) : Nat := hypF 1 l
def hyp (l : List Tk) : Int := (hypN l : Int)

theorem hypF_dvd (n : Nat) : ∀ (l : List Tk) (h : Nat), hypF h l ∣ n ↔ h ∣ n ∧ ∀ t ∈ l, t.f2.toNat ∣ n
  | [], h => by simp [hypF]
  | t :: r, h => by
    simp only [hypF, List.mem_cons, forall_eq_or_imp]
    rw [hypF_dvd n r, Nat.lcm_dvd_iff, and_assoc]
theorem hypN_dvd {l : List Tk} {n : Nat} : hypN l ∣ n ↔ ∀ t ∈ l, t.f2.toNat ∣ n := by
  unfold hypN; rw [hypF_dvd]; simp
theorem hypF_pos : ∀ (l : List Tk) (h : Nat), 0 < h → (∀ t ∈ l, 1 ≤ t.f2) → 0 < hypF h l
  | [], h, h0, _ => h0
  | t :: r, h, h0, hl => by
    have := hl t (by simp)
    exact hypF_pos r _ (lcm_pos' h0 (by omega)) (fun x hx => hl x (by simp [hx]))
theorem hypF_le : ∀ (l : List Tk) (h : Nat), 0 < h → (∀ t ∈ l, 1 ≤ t.f2 ∧ t.f2 ≤ 12) → hypF h l ≤ h * 12 ^ l.length
  | [], h, h0, _ => by simp [hypF]
  | t :: r, h, h0, hl => by
    have ht := hl t (by simp)
    have h1 := hypF_le r (Nat.lcm h t.f2.toNat) (lcm_pos' h0 (by omega)) (fun x hx => hl x (by simp [hx]))
    have h2 : Nat.lcm h t.f2.toNat ≤ h * 12 := Nat.le_trans (lcm_le _ _ h0) (Nat.mul_le_mul_left _ (by omega))
    simp only [hypF, List.length_cons]
    calc hypF (Nat.lcm h t.f2.toNat) r ≤ Nat.lcm h t.f2.toNat * 12 ^ r.length := h1
      _ ≤ h * 12 * 12 ^ r.length := Nat.mul_le_mul_right _ h2
      _ = h * 12 ^ (r.length + 1) := by rw [Nat.pow_succ, Nat.mul_assoc, Nat.mul_comm 12]
theorem Ok.per {l : List Tk} (h : Ok l) : ∀ t ∈ l, 1 ≤ t.f2 ∧ t.f2 ≤ 12 := fun t ht => by have := h.all t ht; omega
theorem hypN_pos {l : List Tk} (h : Ok l) : 0 < hypN l := hypF_pos l 1 (by omega) (fun t ht => (h.per t ht).1)
theorem hypN_le {l : List Tk} (h : Ok l) : hypN l ≤ 248832 := by
  have h1 := hypF_le l 1 (by omega) h.per
  have h2 : 12 ^ l.length ≤ 12 ^ 5 := Nat.pow_le_pow_right (by omega) h.len
  have h3 : (12 : Nat) ^ 5 = 248832 := by decide
  unfold hypN; omega
theorem hyp_bd {l : List Tk} (h : Ok l) : 1 ≤ hyp l ∧ hyp l ≤ 248832 := by
  have := hypN_pos h; have := hypN_le h; unfold hyp; omega
theorem hyp_dvd_mem {l : List Tk} (h : Ok l) (t : Tk) (ht : t ∈ l) : t.f2 ∣ hyp l := by
  have h1 := (hypN_dvd (l := l) (n := hypN l)).mp (Nat.dvd_refl _) t ht
  have h2 := h.per t ht
  unfold hyp
  rw [show t.f2 = ((t.f2.toNat : Nat) : Int) from by omega]
  exact Int.ofNat_dvd.mpr h1
theorem hyp_min {l : List Tk} (h : Ok l) (n : Int) (hn : 0 ≤ n) (hd : ∀ t ∈ l, t.f2 ∣ n) : hyp l ∣ n := by
  obtain ⟨m, rfl⟩ := Int.eq_ofNat_of_zero_le hn
  unfold hyp
  refine Int.ofNat_dvd.mpr (hypN_dvd.mpr fun t ht => ?_)
  have h2 := h.per t ht
  have := hd t ht
  rw [show t.f2 = ((t.f2.toNat : Nat) : Int) from by omega] at this
  exact Int.ofNat_dvd.mp this

def hypO (l : List Tk) : Int := if setOk l = true then hyp l else 0
theorem implHyper_loop (l : List Tk) (hok : Ok l) (k0 : Nat) (hk0 : 13 ≤ k0) : ∀ (d j k h : Nat), j + d = l.length → k0 + d < k → 0 < h → h ≤ 12 ^ j →
    impl_hyper.l0 k (h : Int) l (l.length : Int) (j : Int) = some ((hypF h (l.drop j) : Nat) : Int) := by
  intro d
  induction d with
  | zero =>
    intro j k h hj hk h0 hh
    obtain ⟨k, rfl⟩ : ∃ m, k = m + 1 := ⟨k - 1, by omega⟩
    simp only [impl_hyper.l0]
    rw [if_neg (by omega), List.drop_eq_nil_of_le (by omega)]
    rfl
  | succ d ih =>
    intro j k h hj hk h0 hh
    obtain ⟨k, rfl⟩ : ∃ m, k = m + 1 := ⟨k - 1, by omega⟩
    have hr := hok.rd j (by omega)
    obtain ⟨P, hP⟩ := Int.eq_ofNat_of_zero_le (show 0 ≤ (rdT l (j : Int)).f2 from by omega)
    have hlen := hok.len
    have hpow : 12 ^ j ≤ 12 ^ 4 := Nat.pow_le_pow_right (by omega) (by omega)
    have hp4 : (12 : Nat) ^ 4 = 20736 := by decide
    have hg : 0 < Nat.gcd h P := Nat.gcd_pos_of_pos_left _ h0
    have hdl : h / Nat.gcd h P ≤ h := Nat.div_le_self _ _
    have hl1 : Nat.lcm h P ≤ h * P := lcm_le _ _ h0
    have hl2 : h * P ≤ h * 12 := Nat.mul_le_mul_left _ (by omega)
    simp only [impl_hyper.l0]
    rw [if_pos (by omega), if_pos (by omega), if_pos (by omega), drop_rd l j (by omega)]
    unfold impl_lcm.f
    rw [show (rd_T34 l (j : Int)).f2 = (P : Int) from hP, implGcd k P h (by omega)]
    simp only [Option.bind_some]
    rw [if_neg (by omega)]
    simp only [Option.bind_some]
    rw [tdiv_nat, w64n (h / Nat.gcd h P) (Nat.le_trans hdl (by omega)), show ((h / Nat.gcd h P : Nat) : Int) * (P : Int) = ((Nat.lcm h P : Nat) : Int) from by rw [← div_gcd_mul, Int.natCast_mul], w64 (n := ((Nat.lcm h P : Nat) : Int)) (by omega) (by omega), w64 (n := (j : Int) + 1) (by omega) (by omega), show ((j : Int) + 1) = ((j + 1 : Nat) : Int) from by omega]
    rw [ih (j + 1) k (Nat.lcm h P) (by omega) (by omega) (lcm_pos' h0 (by omega)) (by rw [Nat.pow_succ]; omega)]
    simp only [hypF]
    rw [show (rdT l (j : Int)).f2.toNat = P from by omega]
theorem implHyper_eq (l : List Tk) (hok : Ok l) (k : Nat) (hk : 20 ≤ k) : impl_hyper.f k l = some (hyp l) := by
  have hlen := hok.len
  unfold impl_hyper.f
  rw [show (1 : Int) = ((1 : Nat) : Int) from rfl, show (0 : Int) = ((0 : Nat) : Int) from rfl, implHyper_loop l hok 13 (by omega) l.length 0 k 1 (by omega) (by omega) (by omega) (by simp)]
  rfl


end Go.Proofs.Ytncombcckeeecaa.Pu

set_option linter.unusedSimpArgs false
set_option linter.unusedVariables false
namespace Go.Proofs.Ytncombcckeeecaa.Pu
open Go.RowKit Go.Proofs.Ytncombcckeeecaa.Q Go.Proofs.YtncombcckeeecaaW.PrintWords Go.Proofs.YtncombcckeeecaaW.PrintLast

/-! ### sums over the tasks -/
def sumT (g : Tk → Int) : List Tk → Int
  | [] => 0
  | t :: r => g t + sumT g r
theorem sumT_append (g : Tk → Int) : ∀ a b : List Tk, sumT g (a ++ b) = sumT g a + sumT g b
  | [], b => by simp [sumT]
  | t :: r, b => by simp only [List.cons_append, sumT, sumT_append g r b]; omega
theorem sumT_reverse (g : Tk → Int) : ∀ a : List Tk, sumT g a.reverse = sumT g a
  | [] => rfl
  | t :: r => by simp only [List.reverse_cons, sumT_append, sumT_reverse g r, sumT]; omega
theorem sumT_mono {g h : Tk → Int} : ∀ l : List Tk, (∀ t ∈ l, g t ≤ h t) → sumT g l ≤ sumT h l
  | [], _ => by simp [sumT]
  | t :: r, H => by
    have h1 := H t (by simp)
    have h2 := sumT_mono r (fun x hx => H x (by simp [hx]))
    simp only [sumT]; omega
theorem sumT_congr {g h : Tk → Int} : ∀ l : List Tk, (∀ t ∈ l, g t = h t) → sumT g l = sumT h l
  | [], _ => by simp [sumT]
  | t :: r, H => by
    have h1 := H t (by simp)
    have h2 := sumT_congr r (fun x hx => H x (by simp [hx]))
    simp only [sumT]; omega
theorem sumT_nonneg {g : Tk → Int} : ∀ l : List Tk, (∀ t ∈ l, 0 ≤ g t) → 0 ≤ sumT g l
  | [], _ => by simp [sumT]
  | t :: r, H => by
    have h1 := H t (by simp)
    have h2 := sumT_nonneg r (fun x hx => H x (by simp [hx]))
    simp only [sumT]; omega
theorem sumT_le {g : Tk → Int} (B : Int) : ∀ l : List Tk, (∀ t ∈ l, g t ≤ B) → sumT g l ≤ l.length * B
  | [], _ => by simp [sumT]
  | t :: r, H => by
    have h1 := H t (by simp)
    have h2 := sumT_le B r (fun x hx => H x (by simp [hx]))
    have h3 : ((r.length + 1 : Nat) : Int) * B = r.length * B + B := by rw [Int.natCast_add, Int.add_mul]; simp
    simp only [sumT, List.length_cons]; omega
theorem sumT_mul (g : Tk → Int) (c : Int) : ∀ l : List Tk, sumT (fun t => g t * c) l = sumT g l * c
  | [] => by simp [sumT]
  | t :: r => by simp only [sumT, sumT_mul g c r, Int.add_mul]
theorem sumT_add (g h : Tk → Int) : ∀ l : List Tk, sumT (fun t => g t + h t) l = sumT g l + sumT h l
  | [] => by simp [sumT]
  | t :: r => by simp only [sumT, sumT_add g h r]; omega
theorem sumT_map (g : Tk → Int) (f : Tk → Tk) : ∀ l : List Tk, sumT g (l.map f) = sumT (fun t => g (f t)) l
  | [] => rfl
  | t :: r => by simp only [List.map_cons, sumT, sumT_map g f r]
theorem sumT_set (g : Tk → Int) : ∀ (l : List Tk) (j : Nat) (x : Tk) (hj : j < l.length), sumT g (l.set j x) = sumT g l - g l[j] + g x
  | t :: r, 0, x, _ => by simp only [List.set_cons_zero, sumT, List.getElem_cons_zero]; omega
  | t :: r, j + 1, x, h => by
    simp only [List.set_cons_succ, sumT, List.getElem_cons_succ]
    rw [sumT_set g r j x (by simpa using h)]; omega
theorem sumT_erase (g : Tk → Int) : ∀ (l : List Tk) (j : Nat) (hj : j < l.length), sumT g (l.take j ++ l.drop (j + 1)) = sumT g l - g l[j]
  | t :: r, 0, _ => by simp only [List.take_zero, List.nil_append, List.drop_succ_cons, List.drop_zero, sumT, List.getElem_cons_zero]; omega
  | t :: r, j + 1, h => by
    simp only [List.take_succ_cons, List.cons_append, List.drop_succ_cons, sumT, List.getElem_cons_succ]
    rw [sumT_erase g r j (by simpa using h)]; omega

/-! ### the demand bound -/
def dterm (t : Int) (x : Tk) : Int := if x.f1 ≤ t then ((t - x.f1) / x.f2 + 1) * x.f0 else 0
def dem (l : List Tk) (t : Int) : Int := sumT (dterm t) l
def TkOk (t : Tk) : Prop := 1 ≤ t.f0 ∧ t.f0 ≤ 8 ∧ t.f0 ≤ t.f1 ∧ t.f1 ≤ t.f2 ∧ t.f2 ≤ 12
theorem dterm_bd {x : Tk} (h : TkOk x) (t : Int) (ht : 0 ≤ t) : 0 ≤ dterm t x ∧ dterm t x ≤ (t + 1) * 8 := by
  unfold TkOk at h
  unfold dterm
  by_cases hd : x.f1 ≤ t
  · rw [if_pos hd]
    have q0 : 0 ≤ (t - x.f1) / x.f2 := Int.ediv_nonneg (by omega) (by omega)
    have q1 : (t - x.f1) / x.f2 ≤ t - x.f1 := Int.ediv_le_self _ (by omega)
    refine ⟨Int.mul_nonneg (by omega) (by omega), ?_⟩
    exact Int.mul_le_mul (by omega) (by omega) (by omega) (by omega)
  · rw [if_neg hd]; omega
theorem dem_bd {l : List Tk} (h : Ok l) (t : Int) (ht : 0 ≤ t) : 0 ≤ dem l t ∧ dem l t ≤ 40 * (t + 1) := by
  unfold dem
  refine ⟨sumT_nonneg l fun x hx => (dterm_bd (h.all x hx) t ht).1, ?_⟩
  have h1 := sumT_le (g := dterm t) ((t + 1) * 8) l fun x hx => (dterm_bd (h.all x hx) t ht).2
  have h2 : (l.length : Int) * ((t + 1) * 8) ≤ 5 * ((t + 1) * 8) := Int.mul_le_mul_of_nonneg_right (by have := h.len; omega) (by omega)
  omega

/-! ### the load of a hyperperiod -/
def lterm (h : Int) (x : Tk) : Int := h / x.f2 * x.f0
def ld (l : List Tk) : Int := sumT (lterm (hyp l)) l
theorem lterm_bd {x : Tk} (hx : TkOk x) (h : Int) (hh : 0 ≤ h) : 0 ≤ lterm h x ∧ lterm h x ≤ h * 8 := by
  unfold TkOk at hx
  unfold lterm
  have q0 : 0 ≤ h / x.f2 := Int.ediv_nonneg (by omega) (by omega)
  have q1 : h / x.f2 ≤ h := Int.ediv_le_self _ (by omega)
  exact ⟨Int.mul_nonneg (by omega) (by omega), Int.mul_le_mul (by omega) (by omega) (by omega) (by omega)⟩
theorem ld_bd {l : List Tk} (h : Ok l) : 0 ≤ ld l ∧ ld l ≤ 9953280 := by
  have hh := hyp_bd h
  unfold ld
  refine ⟨sumT_nonneg l fun x hx => (lterm_bd (h.all x hx) _ (by omega)).1, ?_⟩
  have h1 := sumT_le (g := lterm (hyp l)) (hyp l * 8) l fun x hx => (lterm_bd (h.all x hx) _ (by omega)).2
  have h2 : (l.length : Int) * (hyp l * 8) ≤ 5 * (hyp l * 8) := Int.mul_le_mul_of_nonneg_right (by have := h.len; omega) (by omega)
  omega

end Go.Proofs.Ytncombcckeeecaa.Pu

set_option linter.unusedSimpArgs false
set_option linter.unusedVariables false
namespace Go.Proofs.Ytncombcckeeecaa.Pu
open Go.RowKit Go.Proofs.Ytncombcckeeecaa.Q Go.Proofs.YtncombcckeeecaaW.PrintWords Go.Proofs.YtncombcckeeecaaW.PrintLast

theorem dterm_zero {x : Tk} (h : TkOk x) {t : Int} (ht : t < x.f1) : dterm t x = 0 := by
  unfold dterm; rw [if_neg (by omega)]
theorem dterm_mono {x : Tk} (h : TkOk x) {t t' : Int} (ht : t ≤ t') : dterm t x ≤ dterm t' x := by
  unfold TkOk at h
  unfold dterm
  by_cases h1 : x.f1 ≤ t
  · rw [if_pos h1, if_pos (by omega)]
    have : (t - x.f1) / x.f2 ≤ (t' - x.f1) / x.f2 := Int.ediv_le_ediv (by omega) (by omega)
    exact Int.mul_le_mul_of_nonneg_right (by omega) (by omega)
  · rw [if_neg h1]
    by_cases h2 : x.f1 ≤ t'
    · rw [if_pos h2]
      have q0 : 0 ≤ (t' - x.f1) / x.f2 := Int.ediv_nonneg (by omega) (by omega)
      exact Int.mul_nonneg (by omega) (by omega)
    · rw [if_neg h2]; omega
theorem dem_zero {l : List Tk} (h : Ok l) {t : Int} (ht : t ≤ 0) : dem l t = 0 := by
  unfold dem
  rw [sumT_congr (h := fun _ => 0) l (fun x hx => dterm_zero (h.all x hx) (by have := h.all x hx; omega))]
  clear h
  induction l with
  | nil => rfl
  | cons a r ih => simp only [sumT]; omega
theorem dem_mono {l : List Tk} (h : Ok l) {t t' : Int} (ht : t ≤ t') : dem l t ≤ dem l t' := by
  unfold dem; exact sumT_mono l fun x hx => dterm_mono (h.all x hx) ht
theorem dterm_hyper {x : Tk} (hx : TkOk x) {h : Int} (hh : 1 ≤ h) (hd : x.f2 ∣ h) : dterm h x = lterm h x := by
  unfold TkOk at hx
  obtain ⟨q, rfl⟩ := hd
  have hq : 1 ≤ q := by
    rcases Int.lt_or_le q 1 with h0 | h0
    · have : x.f2 * q ≤ 0 := Int.mul_nonpos_of_nonneg_of_nonpos (by omega) (by omega)
      omega
    · exact h0
  have hle : x.f2 * 1 ≤ x.f2 * q := Int.mul_le_mul_of_nonneg_left hq (by omega)
  unfold dterm lterm
  rw [if_pos (by omega), show x.f2 * q - x.f1 = (x.f2 - x.f1) + x.f2 * (q - 1) from by rw [Int.mul_sub]; omega, Int.add_mul_ediv_left _ _ (by omega), Int.ediv_eq_zero_of_lt (by omega) (by omega), Int.mul_ediv_cancel_left _ (by omega)]
  congr 1; omega
theorem dem_hyper {l : List Tk} (h : Ok l) : dem l (hyp l) = ld l := by
  unfold dem ld
  exact sumT_congr l fun x hx => dterm_hyper (h.all x hx) (hyp_bd h).1 (hyp_dvd_mem h x hx)
theorem dem_wo {l : List Tk} (h : Ok l) {j : Nat} (hj : j < l.length) {t : Int} (ht : 0 ≤ t) : dem (wo l j) t ≤ dem l t := by
  unfold dem wo
  rw [sumT_erase _ l j hj]
  have := (dterm_bd (h.all _ (List.getElem_mem hj)) t ht).1
  omega
/-- How many more jobs of a task are due by t, from a deadline d on. -/
def rem (t d P C : Int) : Int := if d ≤ t then ((t - d) / P + 1) * C else 0
theorem rem_step {t d P C : Int} (hP : 1 ≤ P) (h : d ≤ t) : rem t d P C = C + rem t (d + P) P C := by
  unfold rem
  rw [if_pos h]
  by_cases h2 : d + P ≤ t
  · rw [if_pos h2, show t - d = (t - (d + P)) + P * 1 from by omega, Int.add_mul_ediv_left _ _ (by omega), Int.add_mul, Int.add_mul]
    omega
  · rw [if_neg h2, Int.ediv_eq_zero_of_lt (by omega) (by omega)]
    omega
theorem rem_end {t d P C : Int} (h : t < d) : rem t d P C = 0 := by unfold rem; rw [if_neg (by omega)]
theorem rem_dterm (t : Int) (x : Tk) : rem t x.f1 x.f2 x.f0 = dterm t x := rfl
def demO (l : List Tk) (t : Int) : Int := if setOk l = true then (if 0 ≤ t ∧ t ≤ hyp l then dem l t else -1) else -1
theorem demO_in {l : List Tk} (h : Ok l) {t : Int} (h0 : 0 ≤ t) (h1 : t ≤ hyp l) : demO l t = dem l t := by
  unfold demO; rw [if_pos ((setOk_iff _).mpr h), if_pos ⟨h0, h1⟩]

end Go.Proofs.Ytncombcckeeecaa.Pu

set_option linter.unusedSimpArgs false
set_option linter.unusedVariables false
namespace Go.Proofs.Ytncombcckeeecaa.Pu
open Go.RowKit Go.Proofs.Ytncombcckeeecaa.Q Go.Proofs.YtncombcckeeecaaW.PrintWords Go.Proofs.YtncombcckeeecaaW.PrintLast

/-- The first of n numbers from t on that passes, or -1. -/
def firstF (P : Int → Bool) : Nat → Int → Int
  | 0, _ => -1
  | n + 1, t => if P t = true then t else firstF P n (t + 1)
theorem firstF_spec (P : Int → Bool) : ∀ (n : Nat) (t : Int), (firstF P n t = -1 ∧ ∀ s, t ≤ s → s < t + n → P s = false) ∨ (t ≤ firstF P n t ∧ firstF P n t < t + n ∧ P (firstF P n t) = true ∧ ∀ s, t ≤ s → s < firstF P n t → P s = false)
  | 0, t => .inl ⟨rfl, fun s h1 h2 => by omega⟩
  | n + 1, t => by
    simp only [firstF]
    by_cases h : P t = true
    · rw [if_pos h]
      exact .inr ⟨by omega, by omega, h, fun s h1 h2 => by omega⟩
    · rw [if_neg h]
      rcases firstF_spec P n (t + 1) with ⟨e, hf⟩ | ⟨h1, h2, h3, h4⟩
      · refine .inl ⟨e, fun s a b => ?_⟩
        by_cases hs : s = t
        · rw [hs]; simpa using h
        · exact hf s (by omega) (by omega)
      · refine .inr ⟨by omega, by omega, h3, fun s a b => ?_⟩
        by_cases hs : s = t
        · rw [hs]; simpa using h
        · exact h4 s (by omega) b
theorem firstF_congr (P Q : Int → Bool) : ∀ (n : Nat) (t : Int), (∀ s, t ≤ s → s < t + n → P s = Q s) → firstF P n t = firstF Q n t
  | 0, _, _ => rfl
  | n + 1, t, h => by
    simp only [firstF]
    rw [h t (by omega) (by omega), firstF_congr P Q n (t + 1) (fun s a b => h s (by omega) (by omega))]

def ovP (l : List Tk) (t : Int) : Bool := decide (dem l t > t)
/-- The first overload of a valid set. -/
def fov (l : List Tk) : Int := firstF (ovP l) (hypN l) 1
theorem fov_spec (l : List Tk) : (fov l = -1 ∧ ∀ s, 1 ≤ s → s ≤ hyp l → dem l s ≤ s) ∨ (1 ≤ fov l ∧ fov l ≤ hyp l ∧ fov l < dem l (fov l) ∧ ∀ s, 1 ≤ s → s < fov l → dem l s ≤ s) := by
  unfold fov
  rcases firstF_spec (ovP l) (hypN l) 1 with ⟨e, h⟩ | ⟨h1, h2, h3, h4⟩
  · refine .inl ⟨e, fun s a b => ?_⟩
    have := h s a (by unfold hyp at b; omega)
    unfold ovP at this
    rw [decide_eq_false_iff_not] at this
    omega
  · refine .inr ⟨h1, by unfold hyp; omega, of_decide_eq_true h3, fun s a b => ?_⟩
    have := h4 s a b
    unfold ovP at this
    rw [decide_eq_false_iff_not] at this
    omega
theorem fov_neg_iff (l : List Tk) : fov l < 0 ↔ ∀ s, 1 ≤ s → s ≤ hyp l → dem l s ≤ s := by
  rcases fov_spec l with ⟨e, h⟩ | ⟨h1, h2, h3, h4⟩
  · exact ⟨fun _ => h, fun _ => by omega⟩
  · exact ⟨fun _ => by omega, fun h => by have := h _ h1 h2; omega⟩
theorem fov_one (l : List Tk) (h : fov l < 0) : fov l = -1 := by
  rcases fov_spec l with ⟨e, _⟩ | ⟨h1, _⟩
  · exact e
  · omega
/-- EdfFeasible. -/
def edf (l : List Tk) : Bool := setOk l && decide (fov l < 0)
theorem edf_iff (l : List Tk) : edf l = true ↔ Ok l ∧ ∀ s, 1 ≤ s → s ≤ hyp l → dem l s ≤ s := by
  unfold edf
  rw [Bool.and_eq_true, setOk_iff, decide_eq_true_eq, fov_neg_iff]

end Go.Proofs.Ytncombcckeeecaa.Pu

set_option linter.unusedSimpArgs false
set_option linter.unusedVariables false
namespace Go.Proofs.Ytncombcckeeecaa.Pu
open Go.RowKit Go.Proofs.Ytncombcckeeecaa.Q Go.Proofs.YtncombcckeeecaaW.PrintWords Go.Proofs.YtncombcckeeecaaW.PrintLast

/-! ### one task is turned -/
theorem hypF_map : ∀ (l : List Tk) (h : Nat), hypF h l = (l.map fun t => t.f2.toNat).foldl Nat.lcm h
  | [], h => rfl
  | t :: r, h => by simp only [hypF, List.map_cons, List.foldl_cons]; exact hypF_map r _
theorem hyp_map {l l' : List Tk} (h : l.map (fun t => t.f2) = l'.map fun t => t.f2) : hyp l = hyp l' := by
  have h2 : l.map (fun t => t.f2.toNat) = l'.map fun t => t.f2.toNat := by
    have := congrArg (List.map Int.toNat) h
    rw [List.map_map, List.map_map] at this
    exact this
  unfold hyp hypN
  rw [hypF_map, hypF_map, h2]
theorem hyp_set {l : List Tk} {j : Nat} (hj : j < l.length) {x : Tk} (hx : x.f2 = l[j].f2) : hyp (l.set j x) = hyp l := by
  refine hyp_map ?_
  rw [List.map_set, hx]
  have : (l.map fun t => t.f2)[j]'(by rw [List.length_map]; exact hj) = l[j].f2 := List.getElem_map ..
  rw [← this, List.set_getElem_self]
theorem Ok.set {l : List Tk} (h : Ok l) {j : Nat} {x : Tk} (hx : TkOk x) : Ok (l.set j x) :=
  ⟨by rw [List.length_set]; exact h.len, fun t ht => by
    rcases List.mem_or_eq_of_mem_set ht with ht | rfl
    · exact h.all t ht
    · exact hx⟩
theorem dem_set {l : List Tk} {j : Nat} (hj : j < l.length) (x : Tk) (t : Int) : dem (l.set j x) t = dem l t - dterm t l[j] + dterm t x := by
  unfold dem; exact sumT_set _ l j x hj
/-- A task that asks for no more: feasible, still. -/
theorem edf_set {l : List Tk} (h : edf l = true) {j : Nat} (hj : j < l.length) {x : Tk} (hx : TkOk x) (h2 : x.f2 = l[j].f2) (hle : ∀ t, 0 ≤ t → dterm t x ≤ dterm t l[j]) : edf (l.set j x) = true := by
  rw [edf_iff] at h ⊢
  refine ⟨h.1.set hx, fun s h1 h3 => ?_⟩
  rw [hyp_set hj h2] at h3
  have := h.2 s h1 h3
  have := hle s (by omega)
  rw [dem_set hj]; omega
theorem edf_wo {l : List Tk} (h : edf l = true) {j : Nat} (hj : j < l.length) : edf (wo l j) = true := by
  rw [edf_iff] at h ⊢
  have hok := h.1
  have hwo := hok.wo hj
  have hb := hyp_bd hok
  have hbw := hyp_bd hwo
  have hd : hyp (wo l j) ∣ hyp l := hyp_min hwo _ (by omega) (fun t ht => hyp_dvd_mem hok t (wo_mem ht))
  have hle := Int.le_of_dvd (by omega) hd
  refine ⟨hwo, fun s h1 h3 => ?_⟩
  have := h.2 s h1 (by omega)
  have := dem_wo hok hj (t := s) (by omega)
  omega
theorem dterm_cost {x y : Tk} (hx : TkOk x) (h0 : y.f0 ≤ x.f0) (h1 : y.f1 = x.f1) (h2 : y.f2 = x.f2) (t : Int) (ht : 0 ≤ t) : dterm t y ≤ dterm t x := by
  unfold TkOk at hx
  unfold dterm
  rw [h1, h2]
  by_cases h : x.f1 ≤ t
  · rw [if_pos h, if_pos h]
    have q0 : 0 ≤ (t - x.f1) / x.f2 := Int.ediv_nonneg (by omega) (by omega)
    exact Int.mul_le_mul_of_nonneg_left h0 (by omega)
  · rw [if_neg h, if_neg h]; omega
theorem dterm_dead {x y : Tk} (hx : TkOk x) (h0 : y.f0 = x.f0) (h1 : x.f1 ≤ y.f1) (h2 : y.f2 = x.f2) (t : Int) (ht : 0 ≤ t) : dterm t y ≤ dterm t x := by
  unfold TkOk at hx
  unfold dterm
  rw [h0, h2]
  by_cases h : y.f1 ≤ t
  · rw [if_pos h, if_pos (by omega)]
    have q0 : (t - y.f1) / x.f2 ≤ (t - x.f1) / x.f2 := Int.ediv_le_ediv (by omega) (by omega)
    exact Int.mul_le_mul_of_nonneg_right (by omega) (by omega)
  · rw [if_neg h]
    split
    · have q0 : 0 ≤ (t - x.f1) / x.f2 := Int.ediv_nonneg (by omega) (by omega)
      exact Int.mul_nonneg (by omega) (by omega)
    · omega
theorem edf_nil : edf [] = true := by
  rw [edf_iff]
  refine ⟨⟨by simp, by simp⟩, fun s h1 h2 => ?_⟩
  unfold dem sumT; omega

end Go.Proofs.Ytncombcckeeecaa.Pu

set_option linter.unusedSimpArgs false
set_option linter.unusedVariables false
namespace Go.Proofs.Ytncombcckeeecaa.Pu
open Go.RowKit Go.Proofs.Ytncombcckeeecaa.Q Go.Proofs.YtncombcckeeecaaW.PrintWords Go.Proofs.YtncombcckeeecaaW.PrintLast

/-! ### implicit deadlines -/
/-- A task with an implicit deadline. -/
def late (t : Tk) : Tk := ⟨t.f0, t.f2, t.f2⟩
/-- The first j tasks are late already. -/
def lateTo (l : List Tk) (j : Nat) : List Tk := (l.take j).map late ++ l.drop j
theorem lateTo_zero (l : List Tk) : lateTo l 0 = l := by simp [lateTo]
theorem lateTo_all (l : List Tk) : lateTo l l.length = l.map late := by simp [lateTo]
theorem lateTo_len (l : List Tk) (j : Nat) : (lateTo l j).length = l.length := by
  unfold lateTo; rw [List.length_append, List.length_map, List.length_take, List.length_drop]; omega
theorem lateTo_get (l : List Tk) {j : Nat} (hj : j < l.length) : rd_T34 (lateTo l j) (j : Int) = rd_T34 l (j : Int) := by
  have h1 := rdT_get (lateTo l j) j (by rw [lateTo_len]; omega)
  have h2 := rdT_get l j hj
  simp only [rdT] at h1 h2 ⊢
  rw [h1, h2]
  unfold lateTo
  rw [List.getElem_append_right (by rw [List.length_map, List.length_take]; omega), List.getElem_drop]
  congr 1
  rw [List.length_map, List.length_take]; omega
theorem lateTo_set (l : List Tk) {j : Nat} (hj : j < l.length) : (lateTo l j).set j (late (rd_T34 l (j : Int))) = lateTo l (j + 1) := by
  unfold lateTo
  rw [drop_rd l j hj, List.set_append_right _ _ (by rw [List.length_map, List.length_take]; omega), List.length_map, List.length_take, show j - min j l.length = 0 from by omega, List.set_cons_zero, List.take_succ_eq_append_getElem hj, List.map_append, ← rdT_get l j hj]
  simp
theorem late_imp {l : List Tk} : ∀ t ∈ l.map late, t.f1 = t.f2 := by
  intro t ht
  rw [List.mem_map] at ht
  obtain ⟨x, _, rfl⟩ := ht
  rfl
theorem late_TkOk {x : Tk} (h : TkOk x) : TkOk (late x) := by unfold TkOk late at *; dsimp only; omega
theorem Ok.late {l : List Tk} (h : Ok l) : Ok (l.map Pu.late) :=
  ⟨by rw [List.length_map]; exact h.len, fun t ht => by
    rw [List.mem_map] at ht
    obtain ⟨x, hx, rfl⟩ := ht
    exact late_TkOk (h.all x hx)⟩
theorem hyp_late (l : List Tk) : hyp (l.map late) = hyp l := hyp_map (by rw [List.map_map]; rfl)
theorem ld_late (l : List Tk) : ld (l.map late) = ld l := by
  unfold ld
  rw [hyp_late, sumT_map]
  rfl
theorem dterm_imp {x : Tk} (h : TkOk x) (he : x.f1 = x.f2) (t : Int) (ht : 0 ≤ t) : dterm t x = t / x.f2 * x.f0 := by
  unfold TkOk at h
  unfold dterm
  rw [he]
  by_cases h1 : x.f2 ≤ t
  · rw [if_pos h1]
    congr 1
    have : t / x.f2 = ((t - x.f2) + x.f2 * 1) / x.f2 := by congr 1; omega
    rw [this, Int.add_mul_ediv_left _ _ (by omega)]
  · rw [if_neg h1, Int.ediv_eq_zero_of_lt (by omega) (by omega)]; omega
/-- With implicit deadlines the demand is at most the utilization's share. -/
theorem dem_imp_le {l : List Tk} (hok : Ok l) (he : ∀ t ∈ l, t.f1 = t.f2) (s : Int) (hs : 0 ≤ s) : hyp l * dem l s ≤ s * ld l := by
  unfold dem ld
  rw [Int.mul_comm, ← sumT_mul, Int.mul_comm s, ← sumT_mul]
  refine sumT_mono l fun x hx => ?_
  have h := hok.all x hx
  rw [dterm_imp h (he x hx) s hs]
  unfold lterm
  obtain ⟨q, hq⟩ := hyp_dvd_mem hok x hx
  have hb := hyp_bd hok
  rw [hq, Int.mul_ediv_cancel_left _ (by omega)]
  have hq0 : 0 ≤ q := by
    rcases Int.lt_or_le q 0 with h0 | h0
    · have : x.f2 * q < 0 := Int.mul_neg_of_pos_of_neg (by omega) h0
      omega
    · exact h0
  have h1 := Int.ediv_mul_le s (b := x.f2) (by omega)
  have h2 : s / x.f2 * x.f2 * (q * x.f0) ≤ s * (q * x.f0) := Int.mul_le_mul_of_nonneg_right h1 (Int.mul_nonneg hq0 (by omega))
  have e1 : s / x.f2 * x.f0 * (x.f2 * q) = s / x.f2 * x.f2 * (q * x.f0) := by ac_rfl
  have e2 : q * x.f0 * s = s * (q * x.f0) := by ac_rfl
  rw [e1, e2]; exact h2
theorem edf_imp {l : List Tk} (hok : Ok l) (he : ∀ t ∈ l, t.f1 = t.f2) : edf l = decide (ld l ≤ hyp l) := by
  have hb := hyp_bd hok
  rw [Bool.eq_iff_iff, edf_iff, decide_eq_true_eq]
  constructor
  · intro h
    have := h.2 (hyp l) hb.1 (by omega)
    rw [dem_hyper hok] at this
    exact this
  · intro h
    refine ⟨hok, fun s h1 h2 => ?_⟩
    have h3 := dem_imp_le hok he s (by omega)
    have h4 : s * ld l ≤ s * hyp l := Int.mul_le_mul_of_nonneg_left h (by omega)
    have h5 : hyp l * dem l s ≤ hyp l * s := by rw [Int.mul_comm (hyp l) s]; omega
    exact Int.le_of_mul_le_mul_left h5 (by omega)
/-- A feasible set has utilization at most 1. -/
theorem edf_util {l : List Tk} (h : edf l = true) : ld l ≤ hyp l := by
  rw [edf_iff] at h
  have hb := hyp_bd h.1
  have := h.2 (hyp l) hb.1 (by omega)
  rw [dem_hyper h.1] at this
  exact this

end Go.Proofs.Ytncombcckeeecaa.Pu

set_option linter.unusedSimpArgs false
set_option linter.unusedVariables false
namespace Go.Proofs.Ytncombcckeeecaa.Pu
open Go.RowKit Go.Proofs.Ytncombcckeeecaa.Q Go.Proofs.YtncombcckeeecaaW.PrintWords Go.Proofs.YtncombcckeeecaaW.PrintLast

/-- The last deadline of a task ahead of t. -/
def lastT (t : Int) (x : Tk) : Int := (t - 1 - x.f1) / x.f2 * x.f2 + x.f1
def lastF (t : Int) : Int → List Tk → Int
  | acc, [] => acc
  | acc, x :: r => lastF t (if x.f1 < t then mx acc (lastT t x) else acc) r
def lastD (l : List Tk) (t : Int) : Int := lastF t 0 l
theorem lastT_bd {x : Tk} (h : TkOk x) {t : Int} (ht : x.f1 < t) : x.f1 ≤ lastT t x ∧ lastT t x < t := by
  unfold TkOk at h
  unfold lastT
  have q0 : 0 ≤ (t - 1 - x.f1) / x.f2 := Int.ediv_nonneg (by omega) (by omega)
  have q1 := Int.ediv_mul_le (t - 1 - x.f1) (b := x.f2) (by omega)
  have q2 : 0 ≤ (t - 1 - x.f1) / x.f2 * x.f2 := Int.mul_nonneg q0 (by omega)
  omega
theorem lastF_spec (t : Int) : ∀ (l : List Tk) (acc : Int), acc ≤ lastF t acc l ∧ (∀ x ∈ l, x.f1 < t → lastT t x ≤ lastF t acc l) ∧ (lastF t acc l = acc ∨ ∃ x ∈ l, x.f1 < t ∧ lastF t acc l = lastT t x)
  | [], acc => ⟨by simp [lastF], by simp, .inl rfl⟩
  | x :: r, acc => by
    simp only [lastF]
    by_cases hx : x.f1 < t
    · rw [if_pos hx]
      obtain ⟨h1, h2, h3⟩ := lastF_spec t r (mx acc (lastT t x))
      have m := mx_bd acc (lastT t x)
      refine ⟨by omega, fun y hy hy2 => ?_, ?_⟩
      · rw [List.mem_cons] at hy
        rcases hy with rfl | hy
        · omega
        · exact h2 y hy hy2
      · rcases h3 with h3 | ⟨y, hy, hy2, h3⟩
        · rcases m.2.2 with m | m
          · exact .inl (by omega)
          · exact .inr ⟨x, by simp, hx, by omega⟩
        · exact .inr ⟨y, by simp [hy], hy2, h3⟩
    · rw [if_neg hx]
      obtain ⟨h1, h2, h3⟩ := lastF_spec t r acc
      refine ⟨h1, fun y hy hy2 => ?_, ?_⟩
      · rw [List.mem_cons] at hy
        rcases hy with rfl | hy
        · omega
        · exact h2 y hy hy2
      · rcases h3 with h3 | ⟨y, hy, hy2, h3⟩
        · exact .inl h3
        · exact .inr ⟨y, by simp [hy], hy2, h3⟩
theorem lastD_bd {l : List Tk} (hok : Ok l) (t : Int) (ht : 0 ≤ t) : 0 ≤ lastD l t ∧ (lastD l t < t ∨ t = 0 ∧ lastD l t = 0) := by
  obtain ⟨h1, h2, h3⟩ := lastF_spec t l 0
  unfold lastD
  refine ⟨h1, ?_⟩
  rcases h3 with h3 | ⟨x, hx, hx2, h3⟩
  · omega
  · have := lastT_bd (hok.all x hx) hx2
    omega
/-- No deadline lies strictly between the last one and t. -/
theorem lastD_max {l : List Tk} (hok : Ok l) (t : Int) {x : Tk} (hx : x ∈ l) {a : Int} (h1 : x.f1 ≤ a) (h2 : (a - x.f1) % x.f2 = 0) (h3 : a < t) : a ≤ lastD l t := by
  have hv := hok.all x hx
  have hle := (lastF_spec t l 0).2.1 x hx (by omega)
  have hq := Int.emod_add_mul_ediv (a - x.f1) x.f2
  have hm : (a - x.f1) / x.f2 ≤ (t - 1 - x.f1) / x.f2 := Int.ediv_le_ediv (by omega) (by omega)
  have hm2 : (a - x.f1) / x.f2 * x.f2 ≤ (t - 1 - x.f1) / x.f2 * x.f2 := Int.mul_le_mul_of_nonneg_right hm (by omega)
  rw [Int.mul_comm x.f2] at hq
  unfold lastD
  unfold lastT at hle
  omega
/-- It is 0 or a deadline. -/
theorem lastD_due {l : List Tk} (hok : Ok l) (t : Int) : lastD l t = 0 ∨ ∃ x ∈ l, x.f1 ≤ lastD l t ∧ (lastD l t - x.f1) % x.f2 = 0 := by
  rcases (lastF_spec t l 0).2.2 with h | ⟨x, hx, hx2, h⟩
  · exact .inl h
  · refine .inr ⟨x, hx, ?_⟩
    have hv := hok.all x hx
    have hb := lastT_bd hv hx2
    unfold lastD
    rw [h]
    refine ⟨hb.1, ?_⟩
    unfold lastT
    rw [show (t - 1 - x.f1) / x.f2 * x.f2 + x.f1 - x.f1 = (t - 1 - x.f1) / x.f2 * x.f2 from by omega, Int.mul_emod_left]

end Go.Proofs.Ytncombcckeeecaa.Pu
