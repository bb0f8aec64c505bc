import Derived.Test.YtpgheaoepaadlaaJobs
import Derived.Test.YtpgheaoepaadlaaFspecXJobsLegal
set_option linter.unusedSimpArgs false
set_option linter.unusedVariables false
namespace Go.Proofs.Ytpgheaoepaadlaa.Pu
open Go.RowKit Go.Proofs.Ytpgheaoepaadlaa.Q Go.Proofs.YtpgheaoepaadlaaW.PrintWords Go.Proofs.YtpgheaoepaadlaaW.PrintLast

/-- The earliest next release of a task. -/
def nxt (per : Int → Int) (t : Int) (l : List Jb) : Int := match lstR t l with | some b => b + per t | none => 0
theorem rd_set_eq (l : List Int) (i j : Nat) (v : Int) (hi : i < l.length) : rd (l.set i v) (j : Int) = if j = i then v else rd l (j : Int) := by
  unfold rd
  rw [Int.toNat_natCast, List.getD_eq_getElem?_getD, List.getD_eq_getElem?_getD, List.getElem?_set]
  by_cases e : j = i
  · rw [if_pos e, if_pos e.symm, if_pos hi]; rfl
  · rw [if_neg e, if_neg (fun h => e h.symm)]
/-- The list of the next releases. -/
structure Nx (l : List Tk) (js : List Jb) (x : List Int) : Prop where
  len : x.length = l.length
  at_ : ∀ t : Nat, t < l.length → rd x (t : Int) = nxt (perT l) (t : Int) js
theorem Nx.start (l : List Tk) : Nx l [] (List.replicate (l.length : Int).toNat 0) := ⟨by simp, fun t ht => by
  unfold rd nxt lstR
  simp only [Int.toNat_natCast, List.getD_eq_getElem?_getD, List.getElem?_replicate]
  split <;> rfl⟩
theorem Nx.step {l : List Tk} {js : List Jb} {x : List Int} (h : Nx l js x) (y : Jb) (h0 : 0 ≤ y.f0) (h1 : y.f0 < (l.length : Int)) : Nx l (js ++ [y]) (x.set y.f0.toNat (y.f1 + perT l y.f0)) := by
  refine ⟨by rw [List.length_set]; exact h.len, fun t ht => ?_⟩
  rw [rd_set_eq _ _ _ _ (by have := h.len; omega)]
  unfold nxt
  rw [lstR_snoc]
  by_cases e : t = y.f0.toNat
  · have e2 : y.f0 = (t : Int) := by omega
    rw [if_pos e, if_pos e2, e2]
  · rw [if_neg e, if_neg (by omega)]; exact h.at_ t ht
theorem nxt_iff {per : Int → Int} {l : List Jb} {t r : Int} (h : 0 ≤ r) : ¬ (r < nxt per t l) ↔ ∀ b, lstR t l = some b → per t ≤ r - b := by
  unfold nxt
  cases e : lstR t l with
  | none => exact ⟨fun _ b hb => by simp at hb, fun _ => by simp only []; omega⟩
  | some b => exact ⟨fun h' c hc => by rw [← Option.some.inj hc]; simp only [] at h'; omega, fun h' => by have := h' b rfl; simp only []; omega⟩
def RO (l : List Tk) (js : List Jb) (i : Nat) : Prop := aO (l.length : Int) (costT l) (rd_T57 js (i : Int)) ∧ pO js i ∧ sO (perT l) js i ∧ dO (ddlT l) (rd_T57 js (i : Int))
theorem specJobs_loop {l : List Tk} (ho : Ok l) (js : List Jb) (hj : js.length ≤ 9000000) : ∀ (d j : Nat) (x : List Int), j + d = js.length → Nx l (js.take j) x → Ex (fun k => spec_JobsLegal.l0 k l js x (j : Int)) (fun r => r = true ↔ ∀ i : Nat, j ≤ i → i < js.length → RO l js i) := by
  intro d
  induction d with
  | zero =>
    intro j x hd hx
    refine Ex.step ?_
    simp only [spec_JobsLegal.l0]
    exact Ex.neg (by omega) (Ex.val (iff_yes (fun i h1 h2 => by omega)))
  | succ d ih =>
    intro j x hd hx
    have hw := jw1 (j := j) (by omega)
    have hlen := ho.len
    have hwn : wrap64 ((l.length : Int) - 1) = (l.length : Int) - 1 := w64 (by omega) (by omega)
    refine Ex.step ?_
    simp only [spec_JobsLegal.l0, l1In_eq, Option.bind_some]
    rw [hwn]
    refine Ex.pos (by omega) (Ex.pos (by omega) ?_)
    have no : ¬ RO l js j → ¬ (∀ i : Nat, j ≤ i → i < js.length → RO l js i) := fun h h' => h (h' j (Nat.le_refl _) (by omega))
    have bad2 : ∀ (a0 a1 a2 a3 : Int), ¬ RO l js j → Ex (fun k => spec_JobsLegal.j2 k l js x (j : Int) true a0 a1 a2 a3) (fun r => r = true ↔ ∀ i : Nat, j ≤ i → i < js.length → RO l js i) := fun a0 a1 a2 a3 h => Ex.step (by
      simp only [spec_JobsLegal.j2]
      exact Ex.pos (by simp) (Ex.val (iff_no (no h))))
    have bad3 : ∀ (a0 a1 a2 a3 b0 b1 b2 : Int), ¬ RO l js j → Ex (fun k => spec_JobsLegal.j3 k l js x (j : Int) true a0 a1 a2 a3 b0 b1 b2) (fun r => r = true ↔ ∀ i : Nat, j ≤ i → i < js.length → RO l js i) := fun a0 a1 a2 a3 b0 b1 b2 h => Ex.step (by
      simp only [spec_JobsLegal.j3]
      exact Ex.pos (by simp) (Ex.val (iff_no (no h))))
    refine Ex.ite (fun h1 => ?_) (fun h1 => bad2 _ _ _ _ (fun h => h1 (decide_eq_true ⟨h.1.1.1, by have := h.1.1.2; omega⟩)))
    have g1 := of_decide_eq_true h1
    by_cases h2 : 0 ≤ (rd_T57 js (j : Int)).f1 ∧ (rd_T57 js (j : Int)).f1 ≤ 119
    · rw [decide_eq_true h2]
      obtain ⟨t, ht⟩ := Int.eq_ofNat_of_zero_le g1.1
      have htl : t < l.length := by omega
      have hxt := hx.at_ t htl
      rw [← ht] at hxt
      have hnx := nxt_iff (per := perT l) (l := js.take j) (t := (rd_T57 js (j : Int)).f0) h2.1
      have hb := ho.rd t htl
      rw [← ht] at hb
      refine Ex.step ?_
      simp only [spec_JobsLegal.j2, Bool.not_true, l1In_eq, Option.bind_some]
      rw [hxt]
      refine Ex.neg (by simp) (Ex.pos g1.1 (Ex.pos (by omega) (Ex.pos (by have := hx.len; omega) (Ex.ite (fun h3 => bad3 _ _ _ _ _ _ _ (fun h => (hnx.mpr h.2.2.1) h3)) (fun h3 => Ex.ite (fun h4 => ?_) (fun h4 => bad3 _ _ _ _ _ _ _ (fun h => h4 h.2.2.2)))))))
      by_cases h5 : 1 ≤ (rd_T57 js (j : Int)).f3 ∧ (rd_T57 js (j : Int)).f3 ≤ (rd_T66 l (rd_T57 js (j : Int)).f0).f0
      · rw [decide_eq_true h5]
        have ha : aO (l.length : Int) (costT l) (rd_T57 js (j : Int)) := ⟨⟨g1.1, by have := g1.2; omega⟩, h2, h5⟩
        have hs : sO (perT l) js j := hnx.mp h3
        have hdd : dO (ddlT l) (rd_T57 js (j : Int)) := h4
        have hwp : wrap64 ((rd_T57 js (j : Int)).f1 + (rd_T66 l (rd_T57 js (j : Int)).f0).f2) = (rd_T57 js (j : Int)).f1 + perT l (rd_T57 js (j : Int)).f0 := w64 (by unfold rdT at hb; omega) (by unfold rdT at hb; omega)
        have hx2 := hx.step (rd_T57 js (j : Int)) g1.1 (by omega)
        rw [← rdJ_takeS (show j < js.length by omega)] at hx2
        have nx0 := ih (j + 1) _ (by omega) hx2
        have yes : pO js j → Ex (fun k => spec_JobsLegal.l0 k l js (x.set (rd_T57 js (j : Int)).f0.toNat ((rd_T57 js (j : Int)).f1 + perT l (rd_T57 js (j : Int)).f0)) ((j + 1 : Nat) : Int)) (fun r => r = true ↔ ∀ i : Nat, j ≤ i → i < js.length → RO l js i) := fun hp => Ex.mono nx0 (fun r hr => hr.trans ⟨fun h i hi hil => by
          by_cases e : i = j
          · rw [e]; exact ⟨ha, hp, hs, hdd⟩
          · exact h i (by omega) hil, fun h i hi hil => h i (by omega) hil⟩)
        refine Ex.step ?_
        simp only [spec_JobsLegal.j3, Bool.not_true]
        rw [hwp, hw]
        by_cases h0 : j = 0
        · exact Ex.neg (by simp) (Ex.neg (by omega) (Ex.pos g1.1 (Ex.pos (by have := hx.len; omega) (yes (fun h => by omega)))))
        · rw [jw2 (by omega) h0]
          refine Ex.neg (by simp) (Ex.pos (by omega) (Ex.pos (by omega) (Ex.pos (by omega) (Ex.ite (fun h6 => Ex.val (iff_no (no (fun h' => ?_)))) (fun h6 => Ex.ite (fun h7 => Ex.ite (fun h8 => Ex.val (iff_no (no (fun h' => ?_)))) (fun h8 => Ex.pos g1.1 (Ex.pos (by have := hx.len; omega) (yes ?_)))) (fun h7 => Ex.pos g1.1 (Ex.pos (by have := hx.len; omega) (yes ?_))))))))
          · have := h'.2.1 (by omega); omega
          · have := h'.2.1 (by omega); omega
          · intro _; omega
          · intro _; omega
      · rw [decide_eq_false h5]
        exact bad3 _ _ _ _ _ _ _ (fun h => h5 h.1.2.2)
    · rw [decide_eq_false h2]
      exact bad2 _ _ _ _ (fun h => h2 h.1.2.1)
theorem specJobs_ex (l : List Tk) (hl : l.length ≤ 1000) (js : List Jb) (hj : js.length ≤ 9000000) : Ex (fun k => spec_JobsLegal.f k l js) (fun r => r = true ↔ (Ok l ∧ LegT l js)) := by
  unfold spec_JobsLegal.f
  refine Ex.bind (Ex.at_ 1001 (fun k hk => specSet_eq l (by omega) k (by omega)) (P := fun x => x = setOk l) rfl) ?_
  intro x hx
  rw [hx]
  refine Ex.ite (fun h1 => Ex.step ?_) (fun h1 => Ex.step ?_)
  · have hok := (setOk_iff l).mp h1
    simp only [spec_JobsLegal.j0]
    refine Ex.ite (fun h2 => Ex.val (iff_no (fun h => ?_))) (fun h2 => Ex.pos (by omega) (Ex.pos (by omega) ?_))
    · have := of_decide_eq_true h2; have := h.2.len; omega
    · refine Ex.mono (specJobs_loop hok js hj js.length 0 _ (by omega) (by rw [List.take_zero]; exact Nx.start l)) (fun r hr => hr.trans ⟨fun h => ⟨hok, ⟨?_, fun j hj => (h j (Nat.zero_le _) hj).1, fun j hj => (h j (Nat.zero_le _) hj).2.1, fun j hj => (h j (Nat.zero_le _) hj).2.2.1, fun j hj => (h j (Nat.zero_le _) hj).2.2.2⟩⟩, fun h i _ hi => ⟨h.2.a i hi, h.2.p i hi, h.2.s i hi, h.2.d i hi⟩⟩)
      have h3 : ¬ ((js.length : Int) > 60) := fun h => h2 (decide_eq_true h)
      omega
  · simp only [spec_JobsLegal.j0]
    exact Ex.pos (by simp) (Ex.val (iff_no (fun h => h1 ((setOk_iff l).mpr h.1))))

end Go.Proofs.Ytpgheaoepaadlaa.Pu
