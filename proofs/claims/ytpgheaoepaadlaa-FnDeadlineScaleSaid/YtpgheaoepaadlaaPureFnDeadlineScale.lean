/- The statement FnDeadlineScale of the given program holds for every input: for every code of at most 2^20 bytes (and for longer ones at once) the law returns true. No further condition. -/
import Derived.Test.YtpgheaoepaadlaaMixDs
import Derived.Test.YtpgheaoepaadlaaMixDraw
import Derived.Test.YtpgheaoepaadlaaFlawsXFnDeadlineScale
set_option linter.unusedSimpArgs false
set_option linter.unusedVariables false
namespace Go.Proofs.Ytpgheaoepaadlaa.Pure
open Go.RowKit Go.Proofs.Ytpgheaoepaadlaa.Q Go.Proofs.Ytpgheaoepaadlaa.Pu Go.Proofs.YtpgheaoepaadlaaW.PrintWords Go.Proofs.YtpgheaoepaadlaaW.PrintLast

theorem lawSums_l0 {l : List Mx} (hl : ∀ x ∈ l, MxOk x) (h5 : l.length ≤ 5) (H : Int) (hH0 : 0 ≤ H) (hH : H ≤ 27720) (SA SB SC : Int) : ∀ (d j : Nat) (a b c : Int), j + d = l.length → (0 ≤ a ∧ a ≤ j * 332640) → (0 ≤ b ∧ b ≤ j * 332640) → (0 ≤ c ∧ c ≤ j * 332640) →
    a + sumM (aT H) (l.drop j) = SA → b + sumM (bT H) (l.drop j) = SB → c + sumM (cT H) (l.drop j) = SC →
    Ex (fun k => laws_sums.l0 k l H a b c (j : Int)) (fun x => x = (SA, SB, SC, H)) := by
  intro d
  induction d with
  | zero =>
    intro j a b c hj ha hb hc eA eB eC
    rw [List.drop_of_length_le (by omega)] at eA eB eC
    simp only [sumM, Int.add_zero] at eA eB eC
    subst eA; subst eB; subst eC
    refine Ex.step ?_
    simp only [laws_sums.l0]
    exact Ex.neg (by omega) (Ex.val rfl)
  | succ d ih =>
    intro j a b c hj ha hb hc eA eB eC
    have hx : MxOk (rd_T39 l (j : Int)) := by rw [rdM_get l j (by omega)]; exact hl _ (List.getElem_mem _)
    have hp := part_bd hx hH0
    rw [sumM_drop _ l j (by omega)] at eA eB eC
    have bj : (j : Int) * 332640 ≤ 1663200 := by omega
    have hx' := hx
    unfold MxOk at hx'
    have m1 := mul_bd (show 0 ≤ (rd_T39 l (j : Int)).f0 by omega) (show (rd_T39 l (j : Int)).f0 ≤ 12 by omega) hp.1 (show H / (rd_T39 l (j : Int)).f2 ≤ 27720 by omega)
    have m2 := mul_bd (show 0 ≤ (rd_T39 l (j : Int)).f1 by omega) (show (rd_T39 l (j : Int)).f1 ≤ 12 by omega) hp.1 (show H / (rd_T39 l (j : Int)).f2 ≤ 27720 by omega)
    refine Ex.step ?_
    simp only [laws_sums.l0]
    rw [tdiv_pos hH0, w64 (n := H / (rd_T39 l (j : Int)).f2) (by omega) (by omega), w64 (n := (rd_T39 l (j : Int)).f0 * (H / (rd_T39 l (j : Int)).f2)) (by omega) (by omega), w64 (n := (rd_T39 l (j : Int)).f1 * (H / (rd_T39 l (j : Int)).f2)) (by omega) (by omega), w64 (n := (j : Int) + 1) (by omega) (by omega)]
    rw [w64 (n := b + _) (by omega) (by omega), w64 (n := c + _) (by omega) (by omega), w64 (n := a + _) (by omega) (by omega)]
    refine Ex.pos (by omega) (Ex.pos (by omega) (Ex.neg (by omega) (Ex.ite (fun h3 => ?_) (fun h3 => ?_))))
    · unfold aT at eA; unfold bT at eB; unfold cT at eC
      rw [if_pos h3] at eA eB eC
      refine ih (j + 1) _ _ _ (by omega) (by omega) (by omega) (by omega) (by unfold aT; omega) ?_ ?_
      · unfold bT; omega
      · unfold cT; omega
    · unfold aT at eA; unfold bT at eB; unfold cT at eC
      rw [if_neg h3] at eA eB eC
      refine ih (j + 1) _ _ _ (by omega) (by omega) (by omega) (by omega) ?_ (by unfold bT; omega) (by unfold cT; omega)
      unfold aT; omega
theorem FnDeadlineScale : laws_FnDeadlineScale.Pure := by
  intro l0 _ _ h8
  refine Ex.get ?_
  unfold laws_FnDeadlineScale.f
  refine Ex.ite (fun _ => Ex.val rfl) (fun _ => ?_)
  obtain ⟨b, hb, ho⟩ := open_ev l0 h8
  unfold spec_DrawDeadlineScale.f
  rw [ho]
  simp only [Option.bind_some]
  refine Ex.bind (Ex.bind (mixed_ex hb (by omega) (by omega)) (fun x hx => Ex.val (P := fun (y : List Mx) => y.length ≤ 7) hx.1)) (fun l hl => ?_)
  refine Ex.bind (implDs_ex l) ?_
  intro x hx
  refine Ex.bind (specDs_ex l (by omega)) ?_
  intro y hy
  have exy : x = y := hx.trans hy.symm
  refine Ex.neg (by rw [exy]; simp) (Ex.step ?_)
  simp only [laws_FnDeadlineScale.j0]
  refine Ex.neg (by rw [exy]; simp) (Ex.bind (specMix_ex l (by omega)) ?_)
  intro v hv
  rw [hv, hx]
  refine Ex.ite (fun h => ?_) (fun h => ?_)
  · have hlv := (mixOk_iff l).mp h
    have bd := s_bd hlv.2 hlv.1 (h := 27720) (by omega)
    unfold laws_sums.f
    refine Ex.bind (lawSums_l0 hlv.2 hlv.1 27720 (by omega) (by omega) (sumM (aT 27720) l) (sumM (bT 27720) l) (sumM (cT 27720) l) l.length 0 0 0 0 (by omega) (by omega) (by omega) (by omega) (by rw [List.drop_zero]; exact Int.zero_add _) (by rw [List.drop_zero]; exact Int.zero_add _) (by rw [List.drop_zero]; exact Int.zero_add _)) ?_
    intro s hs
    rw [hs]
    unfold dsO
    rw [if_pos h]
    generalize sumM (aT 27720) l = a at bd
    generalize sumM (bT 27720) l = b at bd
    generalize sumM (cT 27720) l = c at bd
    simp only []
    have hac : wrap64 (a + c) = a + c := w64 (by omega) (by omega)
    have hda : wrap64 (27720 - a) = 27720 - a := w64 (by omega) (by omega)
    by_cases c1 : a + c ≤ 27720
    · have e : dsV a b c 27720 = (1, 1, true) := by unfold dsV; rw [if_pos c1]
      rw [e]
      refine Ex.pos rfl (Ex.neg (by simp) (Ex.step ?_))
      simp only [laws_FnDeadlineScale.j1]
      rw [hac]
      exact Ex.neg (by simp) (Ex.pos c1 (Ex.val rfl))
    · by_cases c2 : 27720 - a > 0 ∧ b > 0 ∧ b ≤ 27720 - a ∧ b * a + c * (27720 - a) ≤ 27720 * (27720 - a)
      · have hsp := gcdI_spec b (27720 - a) (by omega) (by omega)
        have e : dsV a b c 27720 = (b / gcdI b (27720 - a), (27720 - a) / gcdI b (27720 - a), true) := by unfold dsV redI; rw [if_neg c1, if_pos c2]
        rw [e]
        generalize gcdI b (27720 - a) = g at hsp
        generalize b / g = X at hsp
        generalize (27720 - a) / g = Y at hsp
        obtain ⟨g1, eb, ea, x0, xb, y1, yb, _⟩ := hsp
        have hX : 1 ≤ X := by
          rcases Int.lt_or_le 0 X with h' | h'
          · omega
          · have : X = 0 := by omega
            rw [this, Int.mul_zero] at eb; omega
        have hXY : X ≤ Y := (frac_le g1 eb ea).mp c2.2.2.1
        refine Ex.pos rfl (Ex.neg (by simp only []; omega) (Ex.step ?_))
        simp only [laws_FnDeadlineScale.j1]
        have dn : decide (X > Y) = false := decide_eq_false (by omega)
        rw [dn, hac, hda]
        have m1 := mul_bd (show 0 ≤ X by omega) (show X ≤ 27720 by omega) (show 0 ≤ 27720 - a by omega) (show 27720 - a ≤ 27720 by omega)
        have m2 := mul_bd (show 0 ≤ b by omega) (show b ≤ 27720 by omega) (show 0 ≤ Y by omega) (show Y ≤ 27720 by omega)
        have m3 := mul_bd (show 0 ≤ X by omega) (show X ≤ 27720 by omega) (show 0 ≤ a by omega) (show a ≤ 27720 by omega)
        have m4 := mul_bd (show 0 ≤ c by omega) (show c ≤ 1663200 by omega) (show 0 ≤ Y by omega) (show Y ≤ 27720 by omega)
        have m5 := mul_bd (show (0 : Int) ≤ 27720 by omega) (show (27720 : Int) ≤ 27720 by omega) (show 0 ≤ Y by omega) (show Y ≤ 27720 by omega)
        rw [w64 (n := X * (27720 - a)) (by omega) (by omega), w64 (n := b * Y) (by omega) (by omega), w64 (n := X * a) (by omega) (by omega), w64 (n := c * Y) (by omega) (by omega), w64 (n := X * a + c * Y) (by omega) (by omega), w64 (n := 27720 * Y) (by omega) (by omega)]
        have q1 : X * (27720 - a) = b * Y := by rw [ea, eb, Int.mul_left_comm, Int.mul_assoc]
        have q2 : X * a + c * Y ≤ 27720 * Y := by
          have h5 := c2.2.2.2
          rw [ea] at h5
          have f1 : b * a + c * (g * Y) = g * (X * a + c * Y) := by rw [Int.mul_add, ← Int.mul_assoc g X a, ← eb, Int.mul_left_comm c g Y]
          have f2 : 27720 * (g * Y) = g * (27720 * Y) := Int.mul_left_comm _ _ _
          rw [f1, f2] at h5
          exact (mul_le_iff g1).mp h5
        exact Ex.neg (by simp) (Ex.neg c1 (Ex.pos q1 (Ex.val (decide_eq_true q2))))
      · have e : dsV a b c 27720 = (0, 0, false) := by unfold dsV; rw [if_neg c1, if_neg c2]
        rw [e]
        refine Ex.neg (by simp) (Ex.pos rfl (Ex.val ?_))
        rw [hac]
        exact decide_eq_true (by omega)
  · have e : dsO l = (0, 0, false) := by unfold dsO; rw [if_neg h]
    rw [e, alive_eq]
    exact Ex.neg (by simp) (Ex.val rfl)

end Go.Proofs.Ytpgheaoepaadlaa.Pure
