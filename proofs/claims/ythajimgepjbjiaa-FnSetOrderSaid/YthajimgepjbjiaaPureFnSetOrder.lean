/- The statement FnSetOrder of the given program holds for every input: for every code of at most 2^20 bytes (and for longer ones at once) the law returns true. No further condition. -/
import Derived.Test.YthajimgepjbjiaaBusy
import Derived.Test.YthajimgepjbjiaaMinSpeed
import Derived.Test.YthajimgepjbjiaaImplHyp
import Derived.Test.YthajimgepjbjiaaImplFirst
import Derived.Test.YthajimgepjbjiaaFlawsXFnSetOrder
set_option linter.unusedSimpArgs false
set_option linter.unusedVariables false
namespace Go.Proofs.Ythajimgepjbjiaa.Pure
open Go.RowKit Go.Proofs.Ythajimgepjbjiaa.Q Go.Proofs.Ythajimgepjbjiaa.Pu Go.Proofs.YthajimgepjbjiaaW.PrintWords Go.Proofs.YthajimgepjbjiaaW.PrintLast

theorem ok_rev {l : List Tk} : Ok l.reverse ↔ Ok l := by
  constructor
  · intro h; exact ⟨by have := h.len; rw [List.length_reverse] at this; exact this, fun t ht => h.all t (List.mem_reverse.mpr ht)⟩
  · intro h; exact ⟨by rw [List.length_reverse]; exact h.len, fun t ht => h.all t (List.mem_reverse.mp ht)⟩
theorem setOk_rev (l : List Tk) : setOk l.reverse = setOk l := by
  rw [Bool.eq_iff_iff, setOk_iff, setOk_iff, ok_rev]
theorem hypN_rev (l : List Tk) : hypN l.reverse = hypN l := by
  refine Nat.dvd_antisymm ?_ ?_
  · exact hypN_dvd.mpr fun t ht => hypN_dvd.mp (Nat.dvd_refl _) t (List.mem_reverse.mp ht)
  · exact hypN_dvd.mpr fun t ht => hypN_dvd.mp (Nat.dvd_refl _) t (List.mem_reverse.mpr ht)
theorem hyp_rev (l : List Tk) : hyp l.reverse = hyp l := by unfold hyp; rw [hypN_rev]
theorem ld_rev (l : List Tk) : ld l.reverse = ld l := by unfold ld; rw [hyp_rev, sumT_reverse]
theorem dem_rev (l : List Tk) (t : Int) : dem l.reverse t = dem l t := by unfold dem; rw [sumT_reverse]
theorem work_rev (l : List Tk) (t : Int) : work l.reverse t = work l t := by unfold work; rw [sumT_reverse]
theorem fov_rev (l : List Tk) : fov l.reverse = fov l := by
  unfold fov
  rw [hypN_rev]
  refine firstF_congr _ _ _ _ fun s _ _ => ?_
  unfold ovP
  rw [dem_rev]
theorem bpF_rev (l : List Tk) : bpF l.reverse = bpF l := by
  unfold bpF
  rw [hypN_rev]
  refine firstF_congr _ _ _ _ fun s _ _ => ?_
  rw [work_rev]
theorem bp_rev (l : List Tk) : bp l.reverse = bp l := by
  unfold bp
  rw [bpF_rev, setOk_rev, ld_rev, hyp_rev]
  by_cases h : l = []
  · rw [h]; rfl
  · have h2 : l.reverse ≠ [] := fun a => h (List.reverse_eq_nil_iff.mp a)
    by_cases h3 : setOk l = true ∧ ld l ≤ hyp l
    · rw [if_pos ⟨h3.1, h2, h3.2⟩, if_pos ⟨h3.1, h, h3.2⟩]
    · rw [if_neg (fun a => h3 ⟨a.1, a.2.2⟩), if_neg (fun a => h3 ⟨a.1, a.2.2⟩)]
theorem msF_rev (l : List Tk) : ∀ (m : Nat) (t n d : Int), msF l.reverse m t n d = msF l m t n d
  | 0, _, _, _ => rfl
  | m + 1, t, n, d => by simp only [msF, dem_rev, msF_rev l m]
theorem msO_rev (l : List Tk) : msO l.reverse = msO l := by
  unfold msO msR
  rw [setOk_rev, msF_rev, hypN_rev]
theorem utO_rev (l : List Tk) : utO l.reverse = utO l := by
  unfold utO
  rw [setOk_rev, ld_rev, hyp_rev]
theorem hypO_rev (l : List Tk) : hypO l.reverse = hypO l := by
  unfold hypO
  rw [setOk_rev, hyp_rev]

theorem reversed_loop (l : List Tk) (hl : l.length ≤ 1000) : ∀ (j k : Nat) (acc : List Tk), j ≤ l.length → acc = (l.drop j).reverse → j < k →
    laws_reversed.l0 k l acc ((j : Int) - 1) = some l.reverse := by
  intro j
  induction j with
  | zero =>
    intro k acc hj ha hk
    obtain ⟨k, rfl⟩ : ∃ m, k = m + 1 := ⟨k - 1, by omega⟩
    rw [laws_reversed.l0]
    rw [if_neg (by omega), ha]
    rfl
  | succ j ih =>
    intro k acc hj ha hk
    obtain ⟨k, rfl⟩ : ∃ m, k = m + 1 := ⟨k - 1, by omega⟩
    have e : ((j + 1 : Nat) : Int) - 1 = (j : Int) := by omega
    have hla : acc.length ≤ 1000 := by rw [ha, List.length_reverse, List.length_drop]; omega
    rw [e, laws_reversed.l0]
    rw [if_pos (by omega), if_pos (by omega), if_pos (by omega), if_pos (by omega), w64 (n := (j : Int) - 1) (by omega) (by omega)]
    refine ih k _ (by omega) ?_ (by omega)
    rw [drop_rd l j (by omega), List.reverse_cons, ← ha]
theorem reversed_eq (l : List Tk) (hl : l.length ≤ 1000) (k : Nat) (hk : 2000 ≤ k) : laws_reversed.f k l = some l.reverse := by
  unfold laws_reversed.f
  rw [w64 (n := (l.length : Int) - 1) (by omega) (by omega)]
  exact reversed_loop l hl l.length k [] (by omega) (by rw [List.drop_eq_nil_of_le (by omega)]; rfl) (by omega)

theorem FnSetOrder : laws_FnSetOrder.Pure := by
  intro l0 _ _ h8
  obtain ⟨K, hK⟩ : ∃ K, 100000000 ≤ K := ⟨_, Nat.le_refl _⟩
  refine ⟨K, ?_⟩
  unfold laws_FnSetOrder.f
  by_cases hlong : (l0.length : Int) > 1048576
  · rw [if_pos hlong]
  rw [if_neg hlong]
  obtain ⟨b, hb, ho⟩ := open_ev l0 h8
  obtain ⟨l, q, hl, _, _, hs⟩ := set_ev b hb 0 8 (by omega) (by omega)
  have hlen := hl.len
  have hdraw : spec_DrawUtilization.f K l0 = some l := by
    unfold spec_DrawUtilization.f
    rw [ho]
    simp only [Option.bind_some]
    rw [hs K (by omega)]
    rfl
  rw [hdraw, Option.bind_some, reversed_eq l (by omega) K (by omega), Option.bind_some, implUtil_eq l K (by omega), Option.bind_some, specUtil_eq l (by omega) K (by omega), Option.bind_some, if_neg (by simp), implUtil_eq l.reverse K (by omega), Option.bind_some, Option.bind_some, utO_rev, if_pos (by simp)]
  rw [implHyp_eq l.reverse K (by omega), Option.bind_some, implHyp_eq l K (by omega), Option.bind_some, hypO_rev, if_pos rfl]
  rw [implFirst_eq l.reverse K (by omega), Option.bind_some, implFirst_eq l K (by omega), Option.bind_some, setOk_rev, fov_rev, if_pos rfl]
  rw [implBusy_eq l.reverse K (by omega), Option.bind_some, implBusy_eq l K (by omega), Option.bind_some, bp_rev, if_pos rfl]
  rw [implMs_eq l.reverse K (by omega), Option.bind_some, implMs_eq l K (by omega), Option.bind_some, msO_rev, if_pos (by simp), alive_eq]
  rfl

end Go.Proofs.Ythajimgepjbjiaa.Pure
