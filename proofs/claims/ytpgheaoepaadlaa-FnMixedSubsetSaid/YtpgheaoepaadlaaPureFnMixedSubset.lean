/- The statement FnMixedSubset of the given program holds for every input: for every code of at most 2^20 bytes (and for longer ones at once) the law returns true. No further condition. -/
import Derived.Test.YtpgheaoepaadlaaMixDraw
import Derived.Test.YtpgheaoepaadlaaMixDs
import Derived.Test.YtpgheaoepaadlaaFspecXDrawDeadlineScale
import Derived.Test.YtpgheaoepaadlaaFlawsXFnMixedSubset
set_option linter.unusedSimpArgs false
set_option linter.unusedVariables false
namespace Go.Proofs.Ytpgheaoepaadlaa.Pure
open Go.RowKit Go.Proofs.Ytpgheaoepaadlaa.Q Go.Proofs.Ytpgheaoepaadlaa.Pu Go.Proofs.YtpgheaoepaadlaaW.PrintWords Go.Proofs.YtpgheaoepaadlaaW.PrintLast

theorem sumM_le {g h : Mx → Int} (m : Int) : ∀ l : List Mx, (∀ x ∈ l, g x ≤ m * h x) → sumM g l ≤ m * sumM h l
  | [], _ => by simp [sumM]
  | x :: r, hh => by
    simp only [sumM]
    have h1 := hh x List.mem_cons_self
    have h2 := sumM_le m r (fun y hy => hh y (List.mem_cons_of_mem _ hy))
    rw [Int.mul_add]
    omega
theorem cT_le {x : Mx} (hx : MxOk x) {h : Int} (h0 : 0 ≤ h) : cT h x ≤ 12 * bT h x := by
  have hp := part_bd hx h0
  unfold MxOk at hx
  unfold cT bT
  split
  · have e1 := Int.mul_le_mul_of_nonneg_right (show x.f1 ≤ 12 * x.f0 by omega) hp.1
    rw [Int.mul_assoc] at e1
    exact e1
  · omega
/-- The test of the three sums. -/
def Fit (a b c h : Int) : Prop := a + c ≤ h ∨ (h - a > 0 ∧ b > 0 ∧ b ≤ h - a ∧ b * a + c * (h - a) ≤ h * (h - a))
theorem dsV_fit (a b c h : Int) : (dsV a b c h).2.2 = true ↔ Fit a b c h := by
  unfold dsV Fit
  by_cases h1 : a + c ≤ h
  · rw [if_pos h1]; exact ⟨fun _ => .inl h1, fun _ => rfl⟩
  · rw [if_neg h1]
    by_cases h2 : h - a > 0 ∧ b > 0 ∧ b ≤ h - a ∧ b * a + c * (h - a) ≤ h * (h - a)
    · rw [if_pos h2]; exact ⟨fun _ => .inr h2, fun _ => rfl⟩
    · rw [if_neg h2]; exact ⟨fun h' => by simp at h', fun h' => by rcases h' with h' | h'; exact absurd h' h1; exact absurd h' h2⟩
/-- Smaller sums fit where greater ones do. -/
theorem fit_less {a b c a' b' c' h : Int} (hf : Fit a b c h) (a0 : 0 ≤ a') (ha : a' ≤ a) (b0 : 0 ≤ b') (hb : b' ≤ b) (c0 : 0 ≤ c') (hc : c' ≤ c) (hcb : c' ≤ 12 * b') : Fit a' b' c' h := by
  by_cases h1 : a' + c' ≤ h
  · exact .inl h1
  rcases hf with h' | ⟨g1, g2, g3, g4⟩
  · omega
  · refine .inr ⟨by omega, by omega, by omega, ?_⟩
    have e1 : b * a ≤ (h - c) * (h - a) := by rw [Int.sub_mul]; omega
    have hba : 0 ≤ b * a := Int.mul_nonneg (by omega) (by omega)
    have hhc : 0 ≤ h - c := by
      by_cases hn : h - c < 0
      · have := Int.mul_le_mul_of_nonneg_right (show h - c ≤ -1 by omega) (show 0 ≤ h - a by omega)
        omega
      · omega
    have e2 := Int.mul_le_mul (show h - c ≤ h - c' by omega) (show h - a ≤ h - a' by omega) (show 0 ≤ h - a by omega) (show 0 ≤ h - c' by omega)
    have e3 := Int.mul_le_mul hb ha a0 (show 0 ≤ b by omega)
    have e4 : (h - c') * (h - a') = h * (h - a') - c' * (h - a') := Int.sub_mul _ _ _
    omega
theorem sumM_erase (g : Mx → Int) (l : List Mx) (i : Nat) (h : i < l.length) : sumM g (l.take i ++ l.drop (i + 1)) = sumM g l - g (rd_T39 l (i : Int)) := by
  have e : sumM g l = sumM g (l.take i) + sumM g (l.drop i) := by rw [← sumM_append, List.take_append_drop]
  rw [sumM_append, e, sumM_drop g l i h]
  omega
theorem erase_ok {l : List Mx} (h : (dsO l).2.2 = true) (i : Nat) (hi : i < l.length) : (dsO (l.take i ++ l.drop (i + 1))).2.2 = true := by
  have hv : mixOk l = true := by
    cases e : mixOk l with
    | true => rfl
    | false => unfold dsO at h; rw [e] at h; simp at h
  have hl := (mixOk_iff l).mp hv
  have hmem : ∀ x ∈ l.take i ++ l.drop (i + 1), x ∈ l := fun x hx => by
    rw [List.mem_append] at hx
    rcases hx with hx | hx
    · exact List.mem_of_mem_take hx
    · exact List.mem_of_mem_drop hx
  have hlen : (l.take i ++ l.drop (i + 1)).length ≤ 5 := by rw [List.length_append, List.length_take, List.length_drop]; omega
  have hv' : mixOk (l.take i ++ l.drop (i + 1)) = true := (mixOk_iff _).mpr ⟨hlen, fun x hx => hl.2 x (hmem x hx)⟩
  have hxi : MxOk (rd_T39 l (i : Int)) := by rw [rdM_get l i hi]; exact hl.2 _ (List.getElem_mem hi)
  have tb := t_bd hxi (h := 27720) (by omega)
  have sb := s_bd (fun x hx => hl.2 x (hmem x hx)) hlen (h := 27720) (by omega)
  have cb := sumM_le (g := cT 27720) (h := bT 27720) 12 (l.take i ++ l.drop (i + 1)) (fun x hx => cT_le (hl.2 x (hmem x hx)) (by omega))
  unfold dsO at h ⊢
  rw [if_pos hv] at h
  rw [if_pos hv']
  rw [dsV_fit] at h ⊢
  have ea := sumM_erase (aT 27720) l i hi
  have eb := sumM_erase (bT 27720) l i hi
  have ec := sumM_erase (cT 27720) l i hi
  exact fit_less h (by omega) (by omega) (by omega) (by omega) (by omega) (by omega) cb
theorem mnx (j : Nat) (h : j ≤ 1000) : wrap64 ((j : Int) + 1) = ((j + 1 : Nat) : Int) := by rw [w64 (by omega) (by omega)]; omega
theorem subset_l0 {l : List Mx} (hl : l.length ≤ 7) {ok : Bool} (hok : ok = (dsO l).2.2) : ∀ (d j : Nat), j + d = l.length → Ex (fun k => laws_FnMixedSubset.l0 k l ok (j : Int)) (fun x => x = true) := by
  intro d
  have stop : ∀ (j : Int), Ex (fun k => laws_FnMixedSubset.j1 k l ok j false) (fun x => x = true) := fun j => Ex.step (by
    simp only [laws_FnMixedSubset.j1, alive_eq, Option.bind_some]
    exact Ex.neg (by decide) (Ex.val rfl))
  induction d with
  | zero =>
    intro j hd
    refine Ex.step ?_
    simp only [laws_FnMixedSubset.l0]
    rw [decide_eq_false (show ¬ (j : Int) < (l.length : Int) by omega)]
    exact Ex.ite (fun _ => stop _) (fun _ => stop _)
  | succ d ih =>
    intro j hd
    refine Ex.step ?_
    simp only [laws_FnMixedSubset.l0]
    rw [decide_eq_true (show (j : Int) < (l.length : Int) by omega)]
    refine Ex.ite (fun h => Ex.step ?_) (fun _ => stop _)
    simp only [laws_FnMixedSubset.j1]
    refine Ex.pos trivial (Ex.bind (P := fun y => y = []) (Ex.val rfl) ?_)
    rintro _ rfl
    rw [mnx j (by omega), Int.toNat_natCast, Int.toNat_natCast]
    refine Ex.pos (by omega) (Ex.pos (by omega) (Ex.bind (P := fun y => y = l.take j) (Ex.val rfl) ?_))
    rintro _ rfl
    refine Ex.pos (by rw [List.length_nil, List.length_take]; omega) (Ex.bind (P := fun y => y = l.take j) (Ex.val rfl) ?_)
    rintro _ rfl
    refine Ex.pos (by omega) (Ex.pos (by omega) (Ex.bind (P := fun y => y = l.drop (j + 1)) (Ex.val rfl) ?_))
    rintro _ rfl
    refine Ex.pos (by rw [List.length_take, List.length_drop]; omega) (Ex.bind (implDs_ex _) (fun x hx => Ex.pos ?_ (ih (j + 1) (by omega))))
    rw [hx]
    exact erase_ok (by rw [← hok]; exact h) j (by omega)
theorem FnMixedSubset : laws_FnMixedSubset.Pure := by
  intro l0 _ _ h8
  refine Ex.get ?_
  unfold laws_FnMixedSubset.f
  refine Ex.ite (fun _ => Ex.val rfl) (fun _ => ?_)
  obtain ⟨b, hb, ho⟩ := open_ev l0 h8
  unfold spec_DrawDeadlineScale.f
  rw [ho]
  simp only [Option.bind_some]
  refine Ex.bind (Ex.bind (mixed_ex hb (by omega) (by omega)) (fun x hx => Ex.val (P := fun (y : List Mx) => y.length ≤ 7) hx.1)) (fun l hl => ?_)
  refine Ex.bind (implDs_ex l) (fun x hx => Ex.bind (specDs_ex l (by omega)) (fun y hy => ?_))
  have exy : x = y := hx.trans hy.symm
  exact Ex.neg (by rw [exy]; simp) (subset_l0 hl (by rw [hx]) l.length 0 (by omega))

end Go.Proofs.Ytpgheaoepaadlaa.Pure
