import Derived.Test.YtmjclbjafodakaaOverDef
import Derived.Test.YtmjclbjafodakaaImplDem
import Derived.Test.YtmjclbjafodakaaSpecDem
import Derived.Test.YtmjclbjafodakaaFimplXSpeedFeasible
import Derived.Test.YtmjclbjafodakaaFspecXSpeedFeasible
set_option linter.unusedSimpArgs false
set_option linter.unusedVariables false
namespace Go.Proofs.Ytmjclbjafodakaa.Pu
open Go.RowKit Go.Proofs.Ytmjclbjafodakaa.Q Go.Proofs.YtmjclbjafodakaaW.PrintWords Go.Proofs.YtmjclbjafodakaaW.PrintLast

def spP (l : List Tk) (n d : Int) (t : Int) : Bool := decide (dem l t * d > t * n)
/-- A valid set is schedulable at a speed. -/
def spd (l : List Tk) (n d : Int) : Bool := decide (firstF (spP l n d) (hypN l) 1 < 0)
theorem spd_iff (l : List Tk) (n d : Int) : spd l n d = true ↔ ∀ s, 1 ≤ s → s ≤ hyp l → dem l s * d ≤ s * n := by
  unfold spd
  rw [decide_eq_true_eq]
  rcases firstF_spec (spP l n d) (hypN l) 1 with ⟨e, h⟩ | ⟨h1, h2, h3, h4⟩
  · refine ⟨fun _ s a b => ?_, fun _ => by omega⟩
    have := h s a (by unfold hyp at b; omega)
    unfold spP at this
    rw [decide_eq_false_iff_not] at this
    omega
  · refine ⟨fun h => by omega, fun h => ?_⟩
    have := h _ h1 (by unfold hyp; omega)
    have := of_decide_eq_true h3
    omega
def spO (l : List Tk) (n d : Int) : Bool := setOk l && decide (1 ≤ n ∧ n ≤ 100) && decide (1 ≤ d ∧ d ≤ 100) && spd l n d
theorem dem_mul_bd {l : List Tk} (hok : Ok l) {t d : Int} (h0 : 0 ≤ t) (h1 : t ≤ 300000) (d0 : 0 ≤ d) (d1 : d ≤ 1000000) : 0 ≤ dem l t * d ∧ dem l t * d ≤ 12000040000000 := by
  have hb := dem_bd hok t h0
  refine ⟨Int.mul_nonneg hb.1 d0, ?_⟩
  have : dem l t * d ≤ 12000040 * 1000000 := Int.mul_le_mul (by omega) d1 d0 (by omega)
  omega
theorem t_mul_bd {t n : Int} (h0 : 0 ≤ t) (h1 : t ≤ 300000) (d0 : 0 ≤ n) (d1 : n ≤ 100000000) : 0 ≤ t * n ∧ t * n ≤ 30000000000000 := by
  refine ⟨Int.mul_nonneg h0 d0, ?_⟩
  have : t * n ≤ 300000 * 100000000 := Int.mul_le_mul h1 d1 d0 (by omega)
  omega

theorem implSp_loop (l : List Tk) (hok : Ok l) (n d : Int) (n0 : 0 ≤ n) (n1 : n ≤ 1000) (d0 : 0 ≤ d) (d1 : d ≤ 1000) : ∀ (m : Nat) (k : Nat) (t : Int), t + m = hyp l + 1 → 1 ≤ t → m + 25 ≤ k → impl_SpeedFeasible.l0 k l n d t = some (decide (firstF (spP l n d) m t < 0)) := by
  have hb := hyp_bd hok
  intro m
  induction m with
  | zero =>
    intro k t ht h1 hk
    obtain ⟨k, rfl⟩ : ∃ m, k = m + 1 := ⟨k - 1, by omega⟩
    rw [impl_SpeedFeasible.l0]
    rw [implHyper_eq l hok k (by omega)]
    simp only [Option.bind_some]
    rw [if_neg (by omega)]
    rfl
  | succ m ih =>
    intro k t ht h1 hk
    obtain ⟨k, rfl⟩ : ∃ m, k = m + 1 := ⟨k - 1, by omega⟩
    have b1 := dem_mul_bd hok (t := t) (d := d) (by omega) (by omega) d0 (by omega)
    have b2 := t_mul_bd (t := t) (n := n) (by omega) (by omega) n0 (by omega)
    rw [impl_SpeedFeasible.l0]
    rw [implHyper_eq l hok k (by omega)]
    simp only [Option.bind_some]
    rw [if_pos (by omega), implDem_eq l hok t (by omega) (by omega) k (by omega)]
    simp only [Option.bind_some, firstF, spP, decide_eq_true_eq]
    rw [w64 (n := dem l t * d) (by omega) (by omega), w64 (n := t * n) (by omega) (by omega)]
    by_cases hd : dem l t * d > t * n
    · rw [if_pos hd, if_pos hd, decide_eq_false (by omega)]
    · rw [if_neg hd, if_neg hd, w64 (by omega) (by omega)]
      exact ih k (t + 1) (by omega) (by omega) (by omega)
theorem implSp_eq (l : List Tk) (n d : Int) (k : Nat) (hk : 300100 ≤ k) : impl_SpeedFeasible.f k l n d = some (spO l n d) := by
  unfold impl_SpeedFeasible.f spO
  obtain ⟨k, rfl⟩ : ∃ m, k = m + 1 := ⟨k - 1, by omega⟩
  have hT : impl_SpeedFeasible.j0 (k + 1) l n d true = some false := by
    rw [impl_SpeedFeasible.j0]; rw [if_pos rfl]
  rw [implSet_eq]
  simp only [Option.bind_some]
  by_cases h : setOk l = true
  · have hok := Ok.mk' h
    have hb := hyp_bd hok
    rw [if_pos h, in_eq, in_eq, h]
    simp only [Option.bind_some]
    by_cases hn : 1 ≤ n ∧ n ≤ 100
    · rw [decide_eq_true hn, if_pos rfl]
      by_cases hd : 1 ≤ d ∧ d ≤ 100
      · rw [decide_eq_true hd, impl_SpeedFeasible.j0]
        rw [if_neg (by simp), implSp_loop l hok n d (by omega) (by omega) (by omega) (by omega) (hypN l) k 1 (by unfold hyp; omega) (by omega) (by unfold hyp at hb; omega)]
        rfl
      · rw [decide_eq_false hd]; exact hT
    · rw [decide_eq_false hn, if_neg (by simp)]; exact hT
  · rw [if_neg h]
    have : setOk l = false := by simpa using h
    rw [this]; exact hT
theorem specSp_loop (l : List Tk) (hok : Ok l) (n d : Int) (n0 : 0 ≤ n) (n1 : n ≤ 1000) (d0 : 0 ≤ d) (d1 : d ≤ 1000) : ∀ (m : Nat) (k : Nat) (t : Int), t + m = hyp l + 1 → 1 ≤ t → m + 25 ≤ k → spec_l12Faster.l0 k l n d (hyp l) t = some (decide (firstF (spP l n d) m t < 0)) := by
  have hb := hyp_bd hok
  intro m
  induction m with
  | zero =>
    intro k t ht h1 hk
    obtain ⟨k, rfl⟩ : ∃ m, k = m + 1 := ⟨k - 1, by omega⟩
    rw [spec_l12Faster.l0]
    rw [if_neg (by omega)]
    rfl
  | succ m ih =>
    intro k t ht h1 hk
    obtain ⟨k, rfl⟩ : ∃ m, k = m + 1 := ⟨k - 1, by omega⟩
    have b1 := dem_mul_bd hok (t := t) (d := d) (by omega) (by omega) d0 (by omega)
    have b2 := t_mul_bd (t := t) (n := n) (by omega) (by omega) n0 (by omega)
    rw [spec_l12Faster.l0]
    rw [if_pos (by omega), specDem_eq l hok t (by omega) (by omega) k (by omega)]
    simp only [Option.bind_some, firstF, spP, decide_eq_true_eq]
    rw [w64 (n := dem l t * d) (by omega) (by omega), w64 (n := t * n) (by omega) (by omega)]
    by_cases hd : dem l t * d > t * n
    · rw [if_pos hd, if_pos hd, decide_eq_false (by omega)]
    · rw [if_neg hd, if_neg hd, w64 (by omega) (by omega)]
      exact ih k (t + 1) (by omega) (by omega) (by omega)
theorem specSp_eq (l : List Tk) (hl : l.length ≤ 1000) (n d : Int) (k : Nat) (hk : 300100 ≤ k) : spec_SpeedFeasible.f k l n d = some (spO l n d) := by
  unfold spec_SpeedFeasible.f spO
  rw [specSet_eq l (by omega) k (by omega)]
  simp only [Option.bind_some]
  by_cases h : setOk l = true
  · have hok := Ok.mk' h
    have hb := hyp_bd hok
    rw [if_pos h, l1In_eq, l1In_eq, h]
    simp only [Option.bind_some]
    by_cases hn : 1 ≤ n ∧ n ≤ 100
    · rw [decide_eq_true hn, if_pos rfl]
      by_cases hd : 1 ≤ d ∧ d ≤ 100
      · rw [decide_eq_true hd, if_pos rfl]
        unfold spec_l12Faster.f
        rw [specHyper_eq l hok k (by omega)]
        simp only [Option.bind_some]
        rw [specSp_loop l hok n d (by omega) (by omega) (by omega) (by omega) (hypN l) k 1 (by unfold hyp; omega) (by omega) (by unfold hyp at hb; omega)]
        rfl
      · rw [decide_eq_false hd, if_neg (by simp)]; rfl
    · rw [decide_eq_false hn, if_neg (by simp)]; rfl
  · rw [if_neg h]
    have : setOk l = false := by simpa using h
    rw [this]; rfl

end Go.Proofs.Ytmjclbjafodakaa.Pu
