import Derived.Test.YthajimgepjbjiaaSens
import Derived.Test.YthajimgepjbjiaaSpecEdf2
import Derived.Test.YthajimgepjbjiaaFimplXMaxFeasibleCost
import Derived.Test.YthajimgepjbjiaaFimplXMinFeasibleDeadline
import Derived.Test.YthajimgepjbjiaaFspecXMaxFeasibleCost
import Derived.Test.YthajimgepjbjiaaFspecXDrawMaxFeasibleCost
set_option linter.unusedSimpArgs false
set_option linter.unusedVariables false
namespace Go.Proofs.Ythajimgepjbjiaa.Pu
open Go.RowKit Go.Proofs.Ythajimgepjbjiaa.Q Go.Proofs.YthajimgepjbjiaaW.PrintWords Go.Proofs.YthajimgepjbjiaaW.PrintLast

theorem specSet_ex (l : List Tk) (hl : l.length ≤ 1000000) : Ex (fun k => spec_SetValid.f k l) (fun x => x = setOk l) := Ex.at_ (l.length + 1) (fun k hk => specSet_eq l hl k (by omega)) rfl
theorem specEdf2_ex (l : List Tk) (h : setOk l = true) : Ex (fun k => spec_l2Edf.f k l) (fun x => x = edf l) := by
  refine Ex.at_ 300000 (fun k hk => specEdf2_eq l h k hk) ?_
  unfold edf; rw [h, Bool.true_and]
theorem isTask_eq (l : List Tk) (hl : l.length ≤ 1000) (i : Int) : impl_isTask.f l i = some (inSet l i) := by
  unfold impl_isTask.f inSet
  rw [implSet_eq, Option.bind_some, in_eq, Option.bind_some, w64 (by omega) (by omega)]
  cases setOk l <;> rfl
theorem implMfc_loop {l : List Tk} (hok : Ok l) {j : Nat} (hj : j < l.length) : ∀ n : Nat, (n : Int) ≤ mn 8 (rd_T44 l (j : Int)).f1 →
    Ex (fun k => impl_MaxFeasibleCost.l0 k l (j : Int) (n : Int) (rd_T44 l (j : Int)).f1 (rd_T44 l (j : Int)).f2) (fun x => x = downF (fun c => edf (setC l j c)) n) := by
  have hlen := hok.len
  intro n
  induction n with
  | zero =>
    intro _
    refine Ex.step ?_
    simp only [impl_MaxFeasibleCost.l0]
    exact Ex.neg (by omega) (Ex.val rfl)
  | succ n ih =>
    intro hn
    have hm := mn_bd 8 (rd_T44 l (j : Int)).f1
    refine Ex.step ?_
    simp only [impl_MaxFeasibleCost.l0, changed_eq (show l.length ≤ 1000 by omega) hj, Option.bind_some]
    refine Ex.pos (by omega) (Ex.bind (implFeas_ex (setC l j ((n + 1 : Nat) : Int)) ((setOk_iff _).mpr (setC_ok hok hj (by omega) hn))) ?_)
    rintro _ rfl
    unfold downF
    refine Ex.ite (fun h => Ex.val (by rw [if_pos h])) (fun h => ?_)
    rw [if_neg h, w64 (by omega) (by omega), show (((n + 1 : Nat) : Int) - 1) = (n : Int) from by omega]
    exact ih (by omega)
theorem implMfc_ex (l : List Tk) (hl : l.length ≤ 1000) (i : Int) : Ex (fun k => impl_MaxFeasibleCost.f k l i) (fun x => x = mfcO l i) := by
  unfold impl_MaxFeasibleCost.f mfcO
  simp only [isTask_eq l hl, Option.bind_some]
  refine Ex.ite (fun h => ?_) (fun h => Ex.val (by rw [if_neg h]))
  rw [if_pos h]
  obtain ⟨hok, h0, h1⟩ := (inSet_iff l i).mp h
  obtain ⟨j, rfl⟩ := Int.eq_ofNat_of_zero_le h0
  have hj : j < l.length := by omega
  have hx := ok_rd hok hj
  unfold TkOk at hx
  have hm := mn_bd 8 (rd_T44 l (j : Int)).f1
  have e : mn (rd_T44 l (j : Int)).f1 8 = (((mn 8 (rd_T44 l (j : Int)).f1).toNat : Nat) : Int) := by
    have := mn_bd (rd_T44 l (j : Int)).f1 8; omega
  refine Ex.pos h0 (Ex.pos h1 ?_)
  rw [e]
  exact implMfc_loop hok hj _ (by omega)
theorem implMfd_loop {l : List Tk} (hok : Ok l) {j : Nat} (hj : j < l.length) : ∀ (n : Nat) (t : Int), t + n = (rd_T44 l (j : Int)).f2 + 1 → (rd_T44 l (j : Int)).f0 ≤ t →
    Ex (fun k => impl_MinFeasibleDeadline.l0 k l (j : Int) (rd_T44 l (j : Int)).f0 t (rd_T44 l (j : Int)).f2) (fun x => x = upF (fun d => edf (setD l j d)) n t) := by
  have hlen := hok.len
  have hx := ok_rd hok hj
  unfold TkOk at hx
  intro n
  induction n with
  | zero =>
    intro t ht h0
    refine Ex.step ?_
    simp only [impl_MinFeasibleDeadline.l0]
    exact Ex.neg (by omega) (Ex.val rfl)
  | succ n ih =>
    intro t ht h0
    refine Ex.step ?_
    simp only [impl_MinFeasibleDeadline.l0, changed_eq (show l.length ≤ 1000 by omega) hj, Option.bind_some]
    refine Ex.pos (by omega) (Ex.bind (implFeas_ex (setD l j t) ((setOk_iff _).mpr (setD_ok hok hj h0 (by omega)))) ?_)
    rintro _ rfl
    unfold upF
    refine Ex.ite (fun h => Ex.val (by rw [if_pos h])) (fun h => ?_)
    rw [if_neg h, w64 (by omega) (by omega)]
    exact ih (t + 1) (by omega) (by omega)
theorem implMfd_ex (l : List Tk) (hl : l.length ≤ 1000) (i : Int) : Ex (fun k => impl_MinFeasibleDeadline.f k l i) (fun x => x = mfdO l i) := by
  unfold impl_MinFeasibleDeadline.f mfdO
  simp only [isTask_eq l hl, Option.bind_some]
  refine Ex.ite (fun h => ?_) (fun h => Ex.val (by rw [if_neg h]))
  rw [if_pos h]
  obtain ⟨hok, h0, h1⟩ := (inSet_iff l i).mp h
  obtain ⟨j, rfl⟩ := Int.eq_ofNat_of_zero_le h0
  have hj : j < l.length := by omega
  have hx := ok_rd hok hj
  unfold TkOk at hx
  refine Ex.pos h0 (Ex.pos h1 ?_)
  exact implMfd_loop hok hj _ _ (by rw [Int.toNat_natCast]; omega) (by omega)
theorem l12With_eq {l : List Tk} (hl : l.length ≤ 1000) {j : Nat} (hj : j < l.length) (c : Int) : spec_l12With.f l (j : Int) c = some (setC l j c) := by
  unfold spec_l12With.f setC
  rw [Option.bind_some, List.nil_append, if_pos (by simp only [List.length_nil]; omega), Option.bind_some, if_pos (by omega), if_pos (by omega), Int.toNat_natCast]
theorem specMfc_loop {l : List Tk} (hok : Ok l) {j : Nat} (hj : j < l.length) : ∀ n : Nat, (n : Int) ≤ mn 8 (rd_T44 l (j : Int)).f1 →
    Ex (fun k => spec_MaxFeasibleCost.l0 k l (j : Int) (n : Int)) (fun x => x = downF (fun c => edf (setC l j c)) n) := by
  have hlen := hok.len
  intro n
  induction n with
  | zero =>
    intro _
    refine Ex.step ?_
    simp only [spec_MaxFeasibleCost.l0]
    exact Ex.neg (by omega) (Ex.val rfl)
  | succ n ih =>
    intro hn
    have hm := mn_bd 8 (rd_T44 l (j : Int)).f1
    refine Ex.step ?_
    simp only [spec_MaxFeasibleCost.l0, l12With_eq (show l.length ≤ 1000 by omega) hj, Option.bind_some]
    refine Ex.pos (by omega) (Ex.bind (specEdf2_ex (setC l j ((n + 1 : Nat) : Int)) ((setOk_iff _).mpr (setC_ok hok hj (by omega) hn))) ?_)
    rintro _ rfl
    unfold downF
    refine Ex.ite (fun h => Ex.val (by rw [if_pos h])) (fun h => ?_)
    rw [if_neg h, w64 (by omega) (by omega), show (((n + 1 : Nat) : Int) - 1) = (n : Int) from by omega]
    exact ih (by omega)
theorem specMfc_ex (l : List Tk) (hl : l.length ≤ 1000) (i : Int) : Ex (fun k => spec_MaxFeasibleCost.f k l i) (fun x => x = mfcO l i) := by
  unfold spec_MaxFeasibleCost.f
  refine Ex.bind (specSet_ex l (by omega)) ?_
  rintro _ rfl
  rw [w64 (by omega) (by omega)]
  simp only [l1In_eq, Option.bind_some]
  have no : mfcO l i = -1 → Ex (fun k => spec_MaxFeasibleCost.j0 k l i true) (fun x => x = mfcO l i) := fun e => by
    refine Ex.step ?_
    simp only [spec_MaxFeasibleCost.j0]
    exact Ex.pos trivial (Ex.val e.symm)
  refine Ex.ite (fun h => ?_) (fun h => no ?_)
  · by_cases h2 : 0 ≤ i ∧ i ≤ (l.length : Int) - 1
    · have hin : inSet l i = true := by unfold inSet; rw [h, Bool.true_and]; exact decide_eq_true h2
      obtain ⟨hok, h0, h1⟩ := (inSet_iff l i).mp hin
      rw [decide_eq_true h2]
      unfold mfcO
      rw [if_pos hin]
      obtain ⟨j, rfl⟩ := Int.eq_ofNat_of_zero_le h0
      have hj : j < l.length := by omega
      have hx := ok_rd hok hj
      unfold TkOk at hx
      have hm := mn_bd 8 (rd_T44 l (j : Int)).f1
      refine Ex.step ?_
      simp only [spec_MaxFeasibleCost.j0]
      refine Ex.neg (by simp) (Ex.pos h0 (Ex.pos h1 ?_))
      rw [show mn 8 (rd_T44 l (j : Int)).f1 = (((mn 8 (rd_T44 l (j : Int)).f1).toNat : Nat) : Int) from by omega]
      exact specMfc_loop hok hj _ (by omega)
    · rw [decide_eq_false h2]
      refine no ?_
      unfold mfcO inSet
      rw [h, Bool.true_and, if_neg (by simpa using h2)]
  · unfold mfcO inSet
    rw [if_neg (by simp [h])]
theorem drawMfc_ex (l0 : List Int) (h8 : ∀ x ∈ l0, (Lit.int .u8 x).wf = true) : Ex (fun k => spec_DrawMaxFeasibleCost.f k l0) (fun x => Bd x.1 ∧ -1 ≤ x.2 ∧ x.2 ≤ (x.1.length : Int)) := by
  obtain ⟨b, hb, ho⟩ := open_ev l0 h8
  obtain ⟨l, q, hl, h1, h2, hs⟩ := set_ev b hb 0 12 (by omega) (by omega)
  have hlen := hl.len
  unfold spec_DrawMaxFeasibleCost.f
  simp only [ho, Option.bind_some]
  refine Ex.bind (P := fun x => x = (l, q)) (Ex.at_ 40 hs rfl) ?_
  rintro _ rfl
  refine Ex.bind (pick_ex hb (by simp only []; omega) (by simp only []; omega)) ?_
  rintro ⟨r, q2⟩ ⟨g1, g2, g3⟩
  simp only [] at g1 g2 g3 ⊢
  rw [w64 (by omega) (by omega)] at g2
  refine Ex.val ⟨hl, ?_, ?_⟩ <;> (simp only []; rw [w64 (by omega) (by omega)]; omega)

end Go.Proofs.Ythajimgepjbjiaa.Pu
