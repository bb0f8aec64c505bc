import Derived.Test.YtpgheaoepaadlaaMixed
import Derived.Test.YtpgheaoepaadlaaRed
import Derived.Test.YtpgheaoepaadlaaFimplXDeadlineScale
set_option linter.unusedSimpArgs false
set_option linter.unusedVariables false
namespace Go.Proofs.Ytpgheaoepaadlaa.Pu
open Go.RowKit Go.Proofs.Ytpgheaoepaadlaa.Q Go.Proofs.YtpgheaoepaadlaaW.PrintWords Go.Proofs.YtpgheaoepaadlaaW.PrintLast

def sumM (g : Mx → Int) : List Mx → Int
  | [] => 0
  | x :: r => g x + sumM g r
theorem sumM_append (g : Mx → Int) : ∀ a b : List Mx, sumM g (a ++ b) = sumM g a + sumM g b
  | [], b => by simp [sumM]
  | x :: a, b => by simp only [List.cons_append, sumM, sumM_append g a b]; omega
theorem sumM_bd {g : Mx → Int} (B : Int) : ∀ l : List Mx, (∀ x ∈ l, 0 ≤ g x ∧ g x ≤ B) → 0 ≤ sumM g l ∧ sumM g l ≤ l.length * B
  | [], _ => by simp [sumM]
  | x :: r, h => by
    have h1 := h x List.mem_cons_self
    have h2 := sumM_bd B r (fun y hy => h y (List.mem_cons_of_mem _ hy))
    simp only [sumM, List.length_cons]
    have e : ((r.length + 1 : Nat) : Int) * B = r.length * B + B := by rw [Int.natCast_add, Int.add_mul]; omega
    omega
theorem sumM_scale {g h : Mx → Int} (m : Int) : ∀ l : List Mx, (∀ x ∈ l, g x = m * h x) → sumM g l = m * sumM h l
  | [], _ => by simp [sumM]
  | x :: r, hh => by
    simp only [sumM]
    rw [hh x List.mem_cons_self, sumM_scale m r (fun y hy => hh y (List.mem_cons_of_mem _ hy)), Int.mul_add]
theorem sumM_drop (g : Mx → Int) (l : List Mx) (j : Nat) (h : j < l.length) : sumM g (l.drop j) = g (rd_T39 l (j : Int)) + sumM g (l.drop (j + 1)) := by
  rw [List.drop_eq_getElem_cons h, ← rdM_get l j h]; rfl
/-- A task's share of h: of the tasks that are not vital, and of the vital ones with Low and with High. -/
def aT (h : Int) (x : Mx) : Int := if x.f3 = true then 0 else x.f0 * (h / x.f2)
def bT (h : Int) (x : Mx) : Int := if x.f3 = true then x.f0 * (h / x.f2) else 0
def cT (h : Int) (x : Mx) : Int := if x.f3 = true then x.f1 * (h / x.f2) else 0
theorem part_bd {x : Mx} (hx : MxOk x) {h : Int} (h0 : 0 ≤ h) : 0 ≤ h / x.f2 ∧ h / x.f2 ≤ h := by
  unfold MxOk at hx
  refine ⟨Int.ediv_nonneg h0 (by omega), Int.ediv_le_self _ h0⟩
theorem mul_bd {a b A B : Int} (h0 : 0 ≤ a) (h1 : a ≤ A) (h2 : 0 ≤ b) (h3 : b ≤ B) : 0 ≤ a * b ∧ a * b ≤ A * B := ⟨Int.mul_nonneg h0 h2, Int.mul_le_mul h1 h3 h2 (by omega)⟩
theorem t_bd {x : Mx} (hx : MxOk x) {h : Int} (h0 : 0 ≤ h) : (0 ≤ aT h x ∧ aT h x ≤ 12 * h) ∧ (0 ≤ bT h x ∧ bT h x ≤ 12 * h) ∧ (0 ≤ cT h x ∧ cT h x ≤ 12 * h) := by
  have hp := part_bd hx h0
  unfold MxOk at hx
  have e1 := mul_bd (show 0 ≤ x.f0 by omega) (show x.f0 ≤ 12 by omega) hp.1 hp.2
  have e2 := mul_bd (show 0 ≤ x.f1 by omega) (show x.f1 ≤ 12 by omega) hp.1 hp.2
  unfold aT bT cT
  split <;> omega
theorem s_bd {l : List Mx} (hl : ∀ x ∈ l, MxOk x) (h5 : l.length ≤ 5) {h : Int} (h0 : 0 ≤ h) : (0 ≤ sumM (aT h) l ∧ sumM (aT h) l ≤ 60 * h) ∧ (0 ≤ sumM (bT h) l ∧ sumM (bT h) l ≤ 60 * h) ∧ (0 ≤ sumM (cT h) l ∧ sumM (cT h) l ≤ 60 * h) := by
  have a := sumM_bd (12 * h) l (fun x hx => (t_bd (hl x hx) h0).1)
  have b := sumM_bd (12 * h) l (fun x hx => (t_bd (hl x hx) h0).2.1)
  have c := sumM_bd (12 * h) l (fun x hx => (t_bd (hl x hx) h0).2.2)
  have e : (l.length : Int) * (12 * h) ≤ 5 * (12 * h) := Int.mul_le_mul_of_nonneg_right (by omega) (by omega)
  omega
/-- The answer, out of the three sums over h. -/
def dsV (a b c h : Int) : Int × Int × Bool := if a + c ≤ h then (1, 1, true) else if h - a > 0 ∧ b > 0 ∧ b ≤ h - a ∧ b * a + c * (h - a) ≤ h * (h - a) then ((redI b (h - a)).1, (redI b (h - a)).2, true) else (0, 0, false)
def dsO (l : List Mx) : Int × Int × Bool := if mixOk l = true then dsV (sumM (aT 27720) l) (sumM (bT 27720) l) (sumM (cT 27720) l) 27720 else (0, 0, false)
theorem implDs_loop {l : List Mx} (hl : ∀ x ∈ l, MxOk x) (h5 : l.length ≤ 5) (SA SB SC : Int) : ∀ (d j : Nat) (a b c : Int), j + d = l.length → (0 ≤ a ∧ a ≤ j * 332640) → (0 ≤ b ∧ b ≤ j * 332640) → (0 ≤ c ∧ c ≤ j * 332640) →
    a + sumM (aT 27720) (l.drop j) = SA → b + sumM (bT 27720) (l.drop j) = SB → c + sumM (cT 27720) (l.drop j) = SC →
    Ex (fun k => impl_DeadlineScale.l0 k a b c l (l.length : Int) (j : Int)) (fun x => x = dsV SA SB SC 27720) := by
  intro d
  induction d with
  | zero =>
    intro j a b c hj ha hb hc eA eB eC
    rw [List.drop_of_length_le (by omega)] at eA eB eC
    simp only [sumM, Int.add_zero] at eA eB eC
    subst eA; subst eB; subst eC
    have bd : (j : Int) * 332640 ≤ 1663200 := by omega
    refine Ex.step ?_
    simp only [impl_DeadlineScale.l0]
    rw [w64 (n := 27720 - a) (by omega) (by omega), w64 (n := a + c) (by omega) (by omega)]
    unfold dsV
    refine Ex.neg (by omega) (Ex.ite (fun h1 => Ex.val (by rw [if_pos h1])) (fun h1 => ?_))
    rw [if_neg h1]
    refine Ex.ite (fun h2 => Ex.ite (fun h3 => Ex.ite (fun h4 => ?_) (fun h4 => Ex.val (by rw [if_neg (by omega)]))) (fun h3 => Ex.val (by rw [if_neg (by omega)]))) (fun h2 => Ex.val (by rw [if_neg (by omega)]))
    have m1 := mul_bd (show 0 ≤ b by omega) (show b ≤ 27720 by omega) ha.1 (show a ≤ 1663200 by omega)
    have m2 := mul_bd hc.1 (show c ≤ 1663200 by omega) (show 0 ≤ 27720 - a by omega) (show 27720 - a ≤ 27720 by omega)
    rw [w64 (n := b * a) (by omega) (by omega), w64 (n := c * (27720 - a)) (by omega) (by omega), w64 (n := b * a + c * (27720 - a)) (by omega) (by omega), w64 (n := 27720 * (27720 - a)) (by omega) (by omega)]
    refine Ex.ite (fun h6 => ?_) (fun h6 => Ex.val (by rw [if_neg (fun h => h6 h.2.2.2)]))
    refine Ex.bind (Ex.at_ 28000 (fun k hk => implRed_eq b (27720 - a) (by omega) (by omega) (by omega) (by omega) k (by omega)) rfl) ?_
    rintro _ rfl
    exact Ex.val (by rw [if_pos ⟨h2, h3, h4, h6⟩])
  | succ d ih =>
    intro j a b c hj ha hb hc eA eB eC
    have hx : MxOk (rd_T39 l (j : Int)) := by rw [rdM_get l j (by omega)]; exact hl _ (List.getElem_mem _)
    have hp := part_bd hx (h := 27720) (by omega)
    have ht := t_bd hx (h := 27720) (by omega)
    rw [sumM_drop _ l j (by omega)] at eA eB eC
    have bj : (j : Int) * 332640 ≤ 1663200 := by omega
    have hx' := hx
    unfold MxOk at hx'
    have m1 := mul_bd hp.1 (show 27720 / (rd_T39 l (j : Int)).f2 ≤ 27720 from hp.2) (show 0 ≤ (rd_T39 l (j : Int)).f0 by omega) (show (rd_T39 l (j : Int)).f0 ≤ 12 by omega)
    have m2 := mul_bd hp.1 (show 27720 / (rd_T39 l (j : Int)).f2 ≤ 27720 from hp.2) (show 0 ≤ (rd_T39 l (j : Int)).f1 by omega) (show (rd_T39 l (j : Int)).f1 ≤ 12 by omega)
    refine Ex.step ?_
    simp only [impl_DeadlineScale.l0]
    rw [tdiv_pos (show (0 : Int) ≤ 27720 by omega), w64 (n := 27720 / (rd_T39 l (j : Int)).f2) (by omega) (by omega), w64 (n := 27720 / (rd_T39 l (j : Int)).f2 * (rd_T39 l (j : Int)).f0) (by omega) (by omega), w64 (n := 27720 / (rd_T39 l (j : Int)).f2 * (rd_T39 l (j : Int)).f1) (by omega) (by omega), w64 (n := (j : Int) + 1) (by omega) (by omega)]
    rw [w64 (n := b + _) (by omega) (by omega), w64 (n := c + _) (by omega) (by omega), w64 (n := a + _) (by omega) (by omega)]
    refine Ex.pos (by omega) (Ex.pos (by omega) (Ex.pos (by omega) (Ex.neg (by omega) (Ex.ite (fun h3 => ?_) (fun h3 => ?_)))))
    · unfold aT at eA; unfold bT at eB; unfold cT at eC
      rw [if_pos h3] at eA eB eC
      rw [Int.mul_comm] at m1 m2
      refine ih (j + 1) _ _ _ (by omega) (by omega) ?_ ?_ (by unfold aT; omega) ?_ ?_
      · rw [Int.mul_comm]; omega
      · rw [Int.mul_comm]; omega
      · unfold bT; rw [Int.mul_comm (27720 / _)]; omega
      · unfold cT; rw [Int.mul_comm (27720 / _)]; omega
    · unfold aT at eA; unfold bT at eB; unfold cT at eC
      rw [if_neg h3] at eA eB eC
      refine ih (j + 1) _ _ _ (by omega) ?_ (by omega) (by omega) ?_ (by unfold bT; omega) (by unfold cT; omega)
      · rw [Int.mul_comm]; rw [Int.mul_comm] at m1; omega
      · unfold aT; rw [Int.mul_comm (27720 / _)]; omega
theorem implDs_ex (l : List Mx) : Ex (fun k => impl_DeadlineScale.f k l) (fun x => x = dsO l) := by
  unfold impl_DeadlineScale.f dsO
  simp only [implMix_eq, Option.bind_some]
  refine Ex.ite (fun h => ?_) (fun h => Ex.val (by rw [if_neg h]))
  rw [if_pos h]
  have hv := (mixOk_iff l).mp h
  exact implDs_loop hv.2 hv.1 _ _ _ l.length 0 0 0 0 (by omega) (by omega) (by omega) (by omega) (by rw [List.drop_zero]; omega) (by rw [List.drop_zero]; omega) (by rw [List.drop_zero]; omega)

end Go.Proofs.Ytpgheaoepaadlaa.Pu
