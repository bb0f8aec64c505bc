import Derived.Test.YtoocccfhmpmopaaHyper
set_option linter.unusedSimpArgs false
set_option linter.unusedVariables false
namespace Go.Proofs.Ytoocccfhmpmopaa.Pu
open Go.RowKit Go.Proofs.Ytoocccfhmpmopaa.Q Go.Proofs.YtoocccfhmpmopaaW.PrintWords Go.Proofs.YtoocccfhmpmopaaW.PrintLast

/-! ### sums over the tasks -/
def sumT (g : Tk → Int) : List Tk → Int
  | [] => 0
  | t :: r => g t + sumT g r
theorem sumT_append (g : Tk → Int) : ∀ a b : List Tk, sumT g (a ++ b) = sumT g a + sumT g b
  | [], b => by simp [sumT]
  | t :: r, b => by simp only [List.cons_append, sumT, sumT_append g r b]; omega
theorem sumT_reverse (g : Tk → Int) : ∀ a : List Tk, sumT g a.reverse = sumT g a
  | [] => rfl
  | t :: r => by simp only [List.reverse_cons, sumT_append, sumT_reverse g r, sumT]; omega
theorem sumT_mono {g h : Tk → Int} : ∀ l : List Tk, (∀ t ∈ l, g t ≤ h t) → sumT g l ≤ sumT h l
  | [], _ => by simp [sumT]
  | t :: r, H => by
    have h1 := H t (by simp)
    have h2 := sumT_mono r (fun x hx => H x (by simp [hx]))
    simp only [sumT]; omega
theorem sumT_congr {g h : Tk → Int} : ∀ l : List Tk, (∀ t ∈ l, g t = h t) → sumT g l = sumT h l
  | [], _ => by simp [sumT]
  | t :: r, H => by
    have h1 := H t (by simp)
    have h2 := sumT_congr r (fun x hx => H x (by simp [hx]))
    simp only [sumT]; omega
theorem sumT_nonneg {g : Tk → Int} : ∀ l : List Tk, (∀ t ∈ l, 0 ≤ g t) → 0 ≤ sumT g l
  | [], _ => by simp [sumT]
  | t :: r, H => by
    have h1 := H t (by simp)
    have h2 := sumT_nonneg r (fun x hx => H x (by simp [hx]))
    simp only [sumT]; omega
theorem sumT_le {g : Tk → Int} (B : Int) : ∀ l : List Tk, (∀ t ∈ l, g t ≤ B) → sumT g l ≤ l.length * B
  | [], _ => by simp [sumT]
  | t :: r, H => by
    have h1 := H t (by simp)
    have h2 := sumT_le B r (fun x hx => H x (by simp [hx]))
    have h3 : ((r.length + 1 : Nat) : Int) * B = r.length * B + B := by rw [Int.natCast_add, Int.add_mul]; simp
    simp only [sumT, List.length_cons]; omega
theorem sumT_mul (g : Tk → Int) (c : Int) : ∀ l : List Tk, sumT (fun t => g t * c) l = sumT g l * c
  | [] => by simp [sumT]
  | t :: r => by simp only [sumT, sumT_mul g c r, Int.add_mul]
theorem sumT_add (g h : Tk → Int) : ∀ l : List Tk, sumT (fun t => g t + h t) l = sumT g l + sumT h l
  | [] => by simp [sumT]
  | t :: r => by simp only [sumT, sumT_add g h r]; omega
theorem sumT_map (g : Tk → Int) (f : Tk → Tk) : ∀ l : List Tk, sumT g (l.map f) = sumT (fun t => g (f t)) l
  | [] => rfl
  | t :: r => by simp only [List.map_cons, sumT, sumT_map g f r]
theorem sumT_set (g : Tk → Int) : ∀ (l : List Tk) (j : Nat) (x : Tk) (hj : j < l.length), sumT g (l.set j x) = sumT g l - g l[j] + g x
  | t :: r, 0, x, _ => by simp only [List.set_cons_zero, sumT, List.getElem_cons_zero]; omega
  | t :: r, j + 1, x, h => by
    simp only [List.set_cons_succ, sumT, List.getElem_cons_succ]
    rw [sumT_set g r j x (by simpa using h)]; omega
theorem sumT_erase (g : Tk → Int) : ∀ (l : List Tk) (j : Nat) (hj : j < l.length), sumT g (l.take j ++ l.drop (j + 1)) = sumT g l - g l[j]
  | t :: r, 0, _ => by simp only [List.take_zero, List.nil_append, List.drop_succ_cons, List.drop_zero, sumT, List.getElem_cons_zero]; omega
  | t :: r, j + 1, h => by
    simp only [List.take_succ_cons, List.cons_append, List.drop_succ_cons, sumT, List.getElem_cons_succ]
    rw [sumT_erase g r j (by simpa using h)]; omega

/-! ### the demand bound -/
def dterm (t : Int) (x : Tk) : Int := if x.f1 ≤ t then ((t - x.f1) / x.f2 + 1) * x.f0 else 0
def dem (l : List Tk) (t : Int) : Int := sumT (dterm t) l
def TkOk (t : Tk) : Prop := 1 ≤ t.f0 ∧ t.f0 ≤ 8 ∧ t.f0 ≤ t.f1 ∧ t.f1 ≤ t.f2 ∧ t.f2 ≤ 12
theorem dterm_bd {x : Tk} (h : TkOk x) (t : Int) (ht : 0 ≤ t) : 0 ≤ dterm t x ∧ dterm t x ≤ (t + 1) * 8 := by
  unfold TkOk at h
  unfold dterm
  by_cases hd : x.f1 ≤ t
  · rw [if_pos hd]
    have q0 : 0 ≤ (t - x.f1) / x.f2 := Int.ediv_nonneg (by omega) (by omega)
    have q1 : (t - x.f1) / x.f2 ≤ t - x.f1 := Int.ediv_le_self _ (by omega)
    refine ⟨Int.mul_nonneg (by omega) (by omega), ?_⟩
    exact Int.mul_le_mul (by omega) (by omega) (by omega) (by omega)
  · rw [if_neg hd]; omega
theorem dem_bd {l : List Tk} (h : Ok l) (t : Int) (ht : 0 ≤ t) : 0 ≤ dem l t ∧ dem l t ≤ 40 * (t + 1) := by
  unfold dem
  refine ⟨sumT_nonneg l fun x hx => (dterm_bd (h.all x hx) t ht).1, ?_⟩
  have h1 := sumT_le (g := dterm t) ((t + 1) * 8) l fun x hx => (dterm_bd (h.all x hx) t ht).2
  have h2 : (l.length : Int) * ((t + 1) * 8) ≤ 5 * ((t + 1) * 8) := Int.mul_le_mul_of_nonneg_right (by have := h.len; omega) (by omega)
  omega

/-! ### the load of a hyperperiod -/
def lterm (h : Int) (x : Tk) : Int := h / x.f2 * x.f0
def ld (l : List Tk) : Int := sumT (lterm (hyp l)) l
theorem lterm_bd {x : Tk} (hx : TkOk x) (h : Int) (hh : 0 ≤ h) : 0 ≤ lterm h x ∧ lterm h x ≤ h * 8 := by
  unfold TkOk at hx
  unfold lterm
  have q0 : 0 ≤ h / x.f2 := Int.ediv_nonneg (by omega) (by omega)
  have q1 : h / x.f2 ≤ h := Int.ediv_le_self _ (by omega)
  exact ⟨Int.mul_nonneg (by omega) (by omega), Int.mul_le_mul (by omega) (by omega) (by omega) (by omega)⟩
theorem ld_bd {l : List Tk} (h : Ok l) : 0 ≤ ld l ∧ ld l ≤ 9953280 := by
  have hh := hyp_bd h
  unfold ld
  refine ⟨sumT_nonneg l fun x hx => (lterm_bd (h.all x hx) _ (by omega)).1, ?_⟩
  have h1 := sumT_le (g := lterm (hyp l)) (hyp l * 8) l fun x hx => (lterm_bd (h.all x hx) _ (by omega)).2
  have h2 : (l.length : Int) * (hyp l * 8) ≤ 5 * (hyp l * 8) := Int.mul_le_mul_of_nonneg_right (by have := h.len; omega) (by omega)
  omega

end Go.Proofs.Ytoocccfhmpmopaa.Pu
