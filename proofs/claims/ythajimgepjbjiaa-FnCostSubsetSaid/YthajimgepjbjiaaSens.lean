import Derived.Test.YthajimgepjbjiaaPO
import Derived.Test.YthajimgepjbjiaaPB
import Derived.Test.YthajimgepjbjiaaImplFeas
import Derived.Test.YthajimgepjbjiaaImplEdf
import Derived.Test.YthajimgepjbjiaaFimplXchanged
set_option linter.unusedSimpArgs false
set_option linter.unusedVariables false
namespace Go.Proofs.Ythajimgepjbjiaa.Pu
open Go.RowKit Go.Proofs.Ythajimgepjbjiaa.Q Go.Proofs.YthajimgepjbjiaaW.PrintWords Go.Proofs.YthajimgepjbjiaaW.PrintLast

/-- The largest number up to n of which P holds, or 0. -/
def downF (P : Int → Bool) : Nat → Int
  | 0 => 0
  | n + 1 => if P ((n + 1 : Nat) : Int) = true then ((n + 1 : Nat) : Int) else downF P n
theorem downF_spec (P : Int → Bool) : ∀ n : Nat, 0 ≤ downF P n ∧ downF P n ≤ n ∧ (downF P n ≠ 0 → P (downF P n) = true) ∧ ∀ s, downF P n < s → s ≤ n → P s = false
  | 0 => ⟨by simp [downF], by simp [downF], fun h => absurd rfl h, fun s h1 h2 => by simp only [downF] at h1; omega⟩
  | n + 1 => by
    obtain ⟨a, b, c, d⟩ := downF_spec P n
    unfold downF
    by_cases h : P ((n + 1 : Nat) : Int) = true
    · rw [if_pos h]
      exact ⟨by omega, by omega, fun _ => h, fun s h1 h2 => by omega⟩
    · rw [if_neg h]
      refine ⟨a, by omega, c, fun s h1 h2 => ?_⟩
      by_cases e : s = ((n + 1 : Nat) : Int)
      · rw [e]; simpa using h
      · exact d s h1 (by omega)
/-- The smallest number from t on, of n, of which P holds, or 0. -/
def upF (P : Int → Bool) : Nat → Int → Int
  | 0, _ => 0
  | n + 1, t => if P t = true then t else upF P n (t + 1)
theorem upF_spec (P : Int → Bool) : ∀ (n : Nat) (t : Int), 1 ≤ t → (upF P n t = 0 ∧ ∀ s, t ≤ s → s < t + n → P s = false) ∨ (t ≤ upF P n t ∧ upF P n t < t + n ∧ P (upF P n t) = true ∧ ∀ s, t ≤ s → s < upF P n t → P s = false)
  | 0, t, ht => .inl ⟨rfl, fun s h1 h2 => by omega⟩
  | n + 1, t, ht => by
    unfold upF
    by_cases h : P t = true
    · rw [if_pos h]; exact .inr ⟨by omega, by omega, h, fun s h1 h2 => by omega⟩
    · rw [if_neg h]
      rcases upF_spec P n (t + 1) (by omega) with ⟨a, b⟩ | ⟨a, b, c, d⟩
      · refine .inl ⟨a, fun s h1 h2 => ?_⟩
        by_cases e : s = t
        · rw [e]; simpa using h
        · exact b s (by omega) (by omega)
      · refine .inr ⟨by omega, by omega, c, fun s h1 h2 => ?_⟩
        by_cases e : s = t
        · rw [e]; simpa using h
        · exact d s (by omega) h2
theorem implFeas_ex (l : List Tk) (h : setOk l = true) : Ex (fun k => impl_feasible.f k l) (fun x => x = edf l) := by
  refine Ex.at_ 300000 (fun k hk => implFeas_eq l h k hk) ?_
  unfold edf; rw [h, Bool.true_and]
theorem implEdf_ex (l : List Tk) : Ex (fun k => impl_EdfFeasible.f k l) (fun x => x = edf l) := Ex.at_ 300000 (fun k hk => implEdf_eq l k hk) rfl

/-- Task j at another cost, at another deadline. -/
def setC (l : List Tk) (j : Nat) (c : Int) : List Tk := l.set j ⟨c, (rd_T44 l (j : Int)).f1, (rd_T44 l (j : Int)).f2⟩
def setD (l : List Tk) (j : Nat) (d : Int) : List Tk := l.set j ⟨(rd_T44 l (j : Int)).f0, d, (rd_T44 l (j : Int)).f2⟩
theorem setC_self {l : List Tk} {j : Nat} (hj : j < l.length) : setC l j (rd_T44 l (j : Int)).f0 = l := by
  unfold setC; rw [show rd_T44 l (j : Int) = l[j] from rdT_get l j hj]; exact List.set_getElem_self _
theorem setD_self {l : List Tk} {j : Nat} (hj : j < l.length) : setD l j (rd_T44 l (j : Int)).f1 = l := by
  unfold setD; rw [show rd_T44 l (j : Int) = l[j] from rdT_get l j hj]; exact List.set_getElem_self _
theorem ok_rd {l : List Tk} (h : Ok l) {j : Nat} (hj : j < l.length) : TkOk (rd_T44 l (j : Int)) := h.rd j hj
theorem setC_ok {l : List Tk} (h : Ok l) {j : Nat} (hj : j < l.length) {c : Int} (h1 : 1 ≤ c) (h2 : c ≤ mn 8 (rd_T44 l (j : Int)).f1) : Ok (setC l j c) := by
  have hx := ok_rd h hj
  have := mn_bd 8 (rd_T44 l (j : Int)).f1
  unfold TkOk at hx
  exact h.set ⟨h1, by (try simp only []); omega, by (try simp only []); omega, by (try simp only []); omega, by (try simp only []); omega⟩
theorem setD_ok {l : List Tk} (h : Ok l) {j : Nat} (hj : j < l.length) {d : Int} (h1 : (rd_T44 l (j : Int)).f0 ≤ d) (h2 : d ≤ (rd_T44 l (j : Int)).f2) : Ok (setD l j d) := by
  have hx := ok_rd h hj
  unfold TkOk at hx
  exact h.set ⟨by (try simp only []); omega, by (try simp only []); omega, by (try simp only []); omega, by (try simp only []); omega, by (try simp only []); omega⟩
theorem edfC_mono {l : List Tk} (h : Ok l) {j : Nat} (hj : j < l.length) {c c' : Int} (h1 : 1 ≤ c') (h2 : c' ≤ c) (h3 : c ≤ mn 8 (rd_T44 l (j : Int)).f1) (he : edf (setC l j c) = true) : edf (setC l j c') = true := by
  have hx := ok_rd h hj
  have hm := mn_bd 8 (rd_T44 l (j : Int)).f1
  unfold TkOk at hx
  have e : setC l j c' = (setC l j c).set j ⟨c', (rd_T44 l (j : Int)).f1, (rd_T44 l (j : Int)).f2⟩ := by unfold setC; rw [List.set_set]
  have hl : j < (setC l j c).length := by unfold setC; rw [List.length_set]; exact hj
  have g : (setC l j c)[j] = ⟨c, (rd_T44 l (j : Int)).f1, (rd_T44 l (j : Int)).f2⟩ := List.getElem_set_self hl
  rw [e]
  refine edf_set he hl ⟨h1, by (try simp only []); omega, by (try simp only []); omega, by (try simp only []); omega, by (try simp only []); omega⟩ (by rw [g]) (fun t ht => ?_)
  rw [g]
  have hxx : TkOk (⟨c, (rd_T44 l (j : Int)).f1, (rd_T44 l (j : Int)).f2⟩ : Tk) := ⟨by (try simp only []); omega, by (try simp only []); omega, by (try simp only []); omega, by (try simp only []); omega, by (try simp only []); omega⟩
  exact dterm_cost (y := (⟨c', (rd_T44 l (j : Int)).f1, (rd_T44 l (j : Int)).f2⟩ : Tk)) hxx h2 rfl rfl t ht
theorem edfD_mono {l : List Tk} (h : Ok l) {j : Nat} (hj : j < l.length) {d d' : Int} (h1 : (rd_T44 l (j : Int)).f0 ≤ d) (h2 : d ≤ d') (h3 : d' ≤ (rd_T44 l (j : Int)).f2) (he : edf (setD l j d) = true) : edf (setD l j d') = true := by
  have hx := ok_rd h hj
  unfold TkOk at hx
  have e : setD l j d' = (setD l j d).set j ⟨(rd_T44 l (j : Int)).f0, d', (rd_T44 l (j : Int)).f2⟩ := by unfold setD; rw [List.set_set]
  have hl : j < (setD l j d).length := by unfold setD; rw [List.length_set]; exact hj
  have g : (setD l j d)[j] = ⟨(rd_T44 l (j : Int)).f0, d, (rd_T44 l (j : Int)).f2⟩ := List.getElem_set_self hl
  rw [e]
  refine edf_set he hl ⟨by (try simp only []); omega, by (try simp only []); omega, by (try simp only []); omega, by (try simp only []); omega, by (try simp only []); omega⟩ (by rw [g]) (fun t ht => ?_)
  rw [g]
  have hxx : TkOk (⟨(rd_T44 l (j : Int)).f0, d, (rd_T44 l (j : Int)).f2⟩ : Tk) := ⟨by (try simp only []); omega, by (try simp only []); omega, by (try simp only []); omega, by (try simp only []); omega, by (try simp only []); omega⟩
  exact dterm_dead (y := (⟨(rd_T44 l (j : Int)).f0, d', (rd_T44 l (j : Int)).f2⟩ : Tk)) hxx rfl h2 rfl t ht

/-- What MaxFeasibleCost and MinFeasibleDeadline answer for task j of a valid set. -/
def mfc (l : List Tk) (j : Nat) : Int := downF (fun c => edf (setC l j c)) (mn 8 (rd_T44 l (j : Int)).f1).toNat
def mfd (l : List Tk) (j : Nat) : Int := upF (fun d => edf (setD l j d)) ((rd_T44 l (j : Int)).f2 - (rd_T44 l (j : Int)).f0 + 1).toNat (rd_T44 l (j : Int)).f0
/-- .. and for any set and index. -/
def inSet (l : List Tk) (i : Int) : Bool := setOk l && decide (0 ≤ i ∧ i ≤ (l.length : Int) - 1)
def mfcO (l : List Tk) (i : Int) : Int := if inSet l i = true then mfc l i.toNat else -1
def mfdO (l : List Tk) (i : Int) : Int := if inSet l i = true then mfd l i.toNat else -1
theorem inSet_iff (l : List Tk) (i : Int) : inSet l i = true ↔ Ok l ∧ 0 ≤ i ∧ i < (l.length : Int) := by
  unfold inSet; rw [Bool.and_eq_true, setOk_iff, decide_eq_true_iff]
  exact ⟨fun ⟨a, b⟩ => ⟨a, by omega, by omega⟩, fun ⟨a, b⟩ => ⟨a, by omega, by omega⟩⟩
theorem mfc_spec {l : List Tk} (h : Ok l) {j : Nat} (hj : j < l.length) : 0 ≤ mfc l j ∧ mfc l j ≤ mn 8 (rd_T44 l (j : Int)).f1 ∧ ∀ s, 1 ≤ s → s ≤ mn 8 (rd_T44 l (j : Int)).f1 → (edf (setC l j s) = true ↔ s ≤ mfc l j) := by
  have hx := ok_rd h hj
  have hm := mn_bd 8 (rd_T44 l (j : Int)).f1
  unfold TkOk at hx
  obtain ⟨a, b, c, d⟩ := downF_spec (fun c => edf (setC l j c)) (mn 8 (rd_T44 l (j : Int)).f1).toNat
  have hn : (((mn 8 (rd_T44 l (j : Int)).f1).toNat : Nat) : Int) = mn 8 (rd_T44 l (j : Int)).f1 := by omega
  rw [hn] at b d
  unfold mfc
  refine ⟨a, b, fun s h1 h2 => ⟨fun he => ?_, fun hle => ?_⟩⟩
  · refine Int.not_lt.mp (fun hlt => ?_)
    have hf : edf (setC l j s) = false := d s hlt h2
    rw [he] at hf; cases hf
  · exact edfC_mono h hj h1 hle b (c (by omega))
theorem mfd_spec {l : List Tk} (h : Ok l) {j : Nat} (hj : j < l.length) : (mfd l j = 0 ∧ ∀ s, (rd_T44 l (j : Int)).f0 ≤ s → s ≤ (rd_T44 l (j : Int)).f2 → edf (setD l j s) = false) ∨ ((rd_T44 l (j : Int)).f0 ≤ mfd l j ∧ mfd l j ≤ (rd_T44 l (j : Int)).f2 ∧ ∀ s, (rd_T44 l (j : Int)).f0 ≤ s → s ≤ (rd_T44 l (j : Int)).f2 → (edf (setD l j s) = true ↔ mfd l j ≤ s)) := by
  have hx := ok_rd h hj
  unfold TkOk at hx
  have hn : ((((rd_T44 l (j : Int)).f2 - (rd_T44 l (j : Int)).f0 + 1).toNat : Nat) : Int) = (rd_T44 l (j : Int)).f2 - (rd_T44 l (j : Int)).f0 + 1 := by omega
  unfold mfd
  rcases upF_spec (fun d => edf (setD l j d)) ((rd_T44 l (j : Int)).f2 - (rd_T44 l (j : Int)).f0 + 1).toNat (rd_T44 l (j : Int)).f0 (by omega) with ⟨a, b⟩ | ⟨a, b, c, d⟩
  · exact .inl ⟨a, fun s h1 h2 => b s h1 (by omega)⟩
  · refine .inr ⟨a, by omega, fun s h1 h2 => ⟨fun he => ?_, fun hle => edfD_mono h hj a hle h2 c⟩⟩
    refine Int.not_lt.mp (fun hlt => ?_)
    have hf : edf (setD l j s) = false := d s h1 hlt
    rw [he] at hf; cases hf

theorem changed_eq {l : List Tk} (hl : l.length ≤ 1000) {j : Nat} (hj : j < l.length) (a b c : Int) : impl_changed.f l (j : Int) a b c = some (l.set j ⟨a, b, c⟩) := by
  unfold impl_changed.f impl_clone_impl_Task.f slices_Clone_impl_Task_impl_Task.f
  rw [if_pos (by omega), Option.bind_some, Option.bind_some, if_pos (by omega), if_pos (by omega), Int.toNat_natCast]

end Go.Proofs.Ythajimgepjbjiaa.Pu
