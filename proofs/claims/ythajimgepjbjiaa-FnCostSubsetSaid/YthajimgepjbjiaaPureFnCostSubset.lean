/- The statement FnCostSubset of the given program holds for every input: for every code of at most 2^20 bytes (and for longer ones at once) the law returns true. No further condition. -/
import Derived.Test.YthajimgepjbjiaaSensI
import Derived.Test.YthajimgepjbjiaaFlawsXFnCostSubset
set_option linter.unusedSimpArgs false
set_option linter.unusedVariables false
namespace Go.Proofs.Ythajimgepjbjiaa.Pure
open Go.RowKit Go.Proofs.Ythajimgepjbjiaa.Q Go.Proofs.Ythajimgepjbjiaa.Pu Go.Proofs.YthajimgepjbjiaaW.PrintWords Go.Proofs.YthajimgepjbjiaaW.PrintLast

theorem rd_take {l : List Tk} {m j : Nat} (hm : m ≤ l.length) (hj : j < m) : rd_T44 (l.take m) (j : Int) = rd_T44 l (j : Int) := by
  rw [show rd_T44 (l.take m) (j : Int) = (l.take m)[j]'(by rw [List.length_take]; omega) from rdT_get _ j _, show rd_T44 l (j : Int) = l[j]'(by omega) from rdT_get l j _, List.getElem_take]
theorem take_last {l : List Tk} {m : Nat} (hm : m + 1 = l.length) : l.take m = wo l m := by
  unfold wo; rw [List.drop_of_length_le (by omega), List.append_nil]
theorem edf_takeC {l : List Tk} {m j : Nat} (hm : m + 1 = l.length) (hj : j < m) (c : Int) (h : edf (setC l j c) = true) : edf (setC (l.take m) j c) = true := by
  have e : setC (l.take m) j c = (setC l j c).take m := by unfold setC; rw [rd_take (by omega) hj, List.take_set]
  have hl : m + 1 = (setC l j c).length := by unfold setC; rw [List.length_set]; exact hm
  rw [e, take_last hl]
  exact edf_wo h (by omega)
theorem edf_takeD {l : List Tk} {m j : Nat} (hm : m + 1 = l.length) (hj : j < m) (c : Int) (h : edf (setD l j c) = true) : edf (setD (l.take m) j c) = true := by
  have e : setD (l.take m) j c = (setD l j c).take m := by unfold setD; rw [rd_take (by omega) hj, List.take_set]
  have hl : m + 1 = (setD l j c).length := by unfold setD; rw [List.length_set]; exact hm
  rw [e, take_last hl]
  exact edf_wo h (by omega)
theorem FnCostSubset : laws_FnCostSubset.Pure := by
  intro l0 _ _ h8
  refine Ex.get ?_
  unfold laws_FnCostSubset.f
  refine Ex.ite (fun _ => Ex.val rfl) (fun _ => Ex.bind (drawMfc_ex l0 h8) ?_)
  rintro ⟨l, i⟩ ⟨hl, hi1, hi2⟩
  simp only [] at hl hi1 hi2 ⊢
  have hlen := hl.len
  refine Ex.bind (implMfc_ex l (by omega) i) ?_
  rintro _ rfl
  refine Ex.bind (specMfc_ex l (by omega) i) ?_
  rintro _ rfl
  have no : Ex (fun k => laws_FnCostSubset.j0 k l i (mfcO l i) true) (fun x => x = true) := by
    refine Ex.step ?_
    simp only [laws_FnCostSubset.j0, alive_eq, Option.bind_some]
    exact Ex.pos trivial (Ex.val rfl)
  refine Ex.pos rfl (Ex.ite (fun h => no) (fun h => ?_))
  rw [w64 (by omega) (by omega)]
  by_cases hin : inSet l i = true
  · obtain ⟨hok, i0, i1⟩ := (inSet_iff l i).mp hin
    by_cases h3 : i = (l.length : Int) - 1
    · rw [beq_iff_eq.mpr h3]; exact no
    · rw [beq_eq_false_iff_ne.mpr h3]
      obtain ⟨j, rfl⟩ := Int.eq_ofNat_of_zero_le i0
      obtain ⟨m, hm⟩ : ∃ m, m + 1 = l.length := ⟨l.length - 1, by omega⟩
      have hj : j < m := by omega
      have hw : wrap64 ((l.length : Int) - 1) = (m : Int) := by rw [w64 (by omega) (by omega)]; omega
      have hok' : Ok (l.take m) := by rw [take_last hm]; exact hok.wo (by omega)
      have hlt : (l.take m).length = m := by rw [List.length_take]; omega
      have e : mfcO l (j : Int) = mfc l j := by unfold mfcO; rw [if_pos hin, Int.toNat_natCast]
      have e2 : mfcO (l.take m) (j : Int) = mfc (l.take m) j := by unfold mfcO; rw [if_pos ((inSet_iff _ _).mpr ⟨hok', by omega, by omega⟩), Int.toNat_natCast]
      have e3 : mfdO l (j : Int) = mfd l j := by unfold mfdO; rw [if_pos hin, Int.toNat_natCast]
      have e4 : mfdO (l.take m) (j : Int) = mfd (l.take m) j := by unfold mfdO; rw [if_pos ((inSet_iff _ _).mpr ⟨hok', by omega, by omega⟩), Int.toNat_natCast]
      have hx := ok_rd hok (show j < l.length by omega)
      unfold TkOk at hx
      have hrd := rd_take (show m ≤ l.length by omega) hj
      refine Ex.step ?_
      simp only [laws_FnCostSubset.j0, hw, Int.toNat_natCast, Option.bind_some]
      refine Ex.neg (by simp) (Ex.pos (by omega) (Ex.pos (by omega) (Ex.bind (implMfd_ex l (by omega) _) ?_)))
      rintro _ rfl
      refine Ex.bind (implMfd_ex (l.take m) (by omega) _) ?_
      rintro _ rfl
      refine Ex.bind (implMfc_ex (l.take m) (by omega) _) ?_
      rintro _ rfl
      rw [e, e2, e3, e4]
      refine Ex.pos ?_ (Ex.ite (fun _ => Ex.val rfl) (fun h5 => ?_))
      · obtain ⟨g0, g1, hs⟩ := mfc_spec hok (show j < l.length by omega)
        obtain ⟨k0, k1, ks⟩ := mfc_spec hok' (show j < (l.take m).length by omega)
        rw [hrd] at ks
        by_cases hz : mfc l j = 0
        · omega
        · exact (ks (mfc l j) (by omega) g1).mp (edf_takeC hm hj _ ((hs (mfc l j) (by omega) g1).mpr (Int.le_refl _)))
      · rcases mfd_spec hok (show j < l.length by omega) with ⟨m0, _⟩ | ⟨m1, m2, hs⟩
        · exact absurd m0 h5
        · have he := edf_takeD hm hj _ ((hs (mfd l j) m1 m2).mpr (Int.le_refl _))
          rcases mfd_spec hok' (show j < (l.take m).length by omega) with ⟨k0, ks⟩ | ⟨k1, k2, ks⟩
          · rw [hrd] at ks
            have := ks (mfd l j) m1 m2
            rw [he] at this; cases this
          · rw [hrd] at ks k1 k2
            have := (ks (mfd l j) m1 m2).mp he
            exact Ex.pos (by omega) (Ex.val (decide_eq_true this))
  · exact absurd (show mfcO l i < 0 by unfold mfcO; rw [if_neg hin]; omega) h

end Go.Proofs.Ythajimgepjbjiaa.Pure
