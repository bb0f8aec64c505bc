/- The statement FnSynchronous of the given program holds for every input: for every code of at most 2^20 bytes (and for longer ones at once) the law returns true. No further condition. -/
import Derived.Test.YtncombcckeeecaaSyn
import Derived.Test.YtncombcckeeecaaImplHyp
import Derived.Test.YtncombcckeeecaaImplDemand
import Derived.Test.YtncombcckeeecaaFlawsXFnSynchronous
set_option linter.unusedSimpArgs false
set_option linter.unusedVariables false
namespace Go.Proofs.Ytncombcckeeecaa.Pure
open Go.RowKit Go.Proofs.Ytncombcckeeecaa.Q Go.Proofs.Ytncombcckeeecaa.Pu Go.Proofs.YtncombcckeeecaaW.PrintWords Go.Proofs.YtncombcckeeecaaW.PrintLast

theorem sameJobs_loop (l : List Jb) (hl : l.length ≤ 1000) : ∀ (d j : Nat), j + d = l.length → Ex (fun k => laws_sameJobs.l0 k l l (j : Int)) (fun x => x = true) := by
  intro d
  induction d with
  | zero =>
    intro j hj
    refine Ex.step ?_
    simp only [laws_sameJobs.l0]
    exact Ex.neg (by omega) (Ex.val rfl)
  | succ d ih =>
    intro j hj
    refine Ex.step ?_
    simp only [laws_sameJobs.l0]
    rw [jw1 (by omega)]
    exact Ex.pos (by omega) (Ex.pos (by omega) (Ex.pos (by omega) (Ex.neg (by simp) (ih (j + 1) (by omega)))))
theorem sameJobs_ex (l : List Jb) (hl : l.length ≤ 1000) : Ex (fun k => laws_sameJobs.f k l l) (fun x => x = true) := by
  unfold laws_sameJobs.f
  exact Ex.pos rfl (sameJobs_loop l hl l.length 0 (by omega))
theorem sumC_drop (l : List Jb) (j : Nat) (h : j < l.length) : sumC (l.drop j) = (rd_T44 l (j : Int)).f3 + sumC (l.drop (j + 1)) := by
  rw [List.drop_eq_getElem_cons h, ← rdJ_get l j h]; rfl
theorem law_l0 {l : List Tk} (ho : Ok l) {lim : Int} (h0 : 0 ≤ lim) (hlim : lim ≤ 120) {js : List Jb} (hs : Sy l lim js lim 0) (S : Int) (hS : js.length = 60 ∨ S = dem l lim) : ∀ (d j : Nat) (acc : Int), j + d = js.length → 0 ≤ acc → acc ≤ 8 * (j : Int) → acc + sumC (js.drop j) = S → Ex (fun k => laws_FnSynchronous.l0 k l lim js acc (j : Int)) (fun r => r = true) := by
  have h60 := hs.leg.len
  have hlen := ho.len
  intro d
  induction d with
  | zero =>
    intro j acc hj ha0 ha e
    rw [List.drop_of_length_le (by omega)] at e
    simp only [sumC, Int.add_zero] at e
    refine Ex.step ?_
    simp only [laws_FnSynchronous.l0]
    refine Ex.neg (by omega) (Ex.bind (implJobs_ex l (by omega) js (by omega)) (fun b hb => Ex.pos (hb.mpr ⟨ho, hs.leg⟩) (Ex.ite (fun _ => Ex.val rfl) (fun hne => ?_))))
    refine Ex.bind (Ex.at_ 20 (fun k hk => implHyp_eq l k hk) (P := fun x => x = hypO l) rfl) ?_
    intro x hx
    rw [hx]
    have ehyp : hypO l = hyp l := by unfold hypO; rw [if_pos ((setOk_iff l).mpr ho)]
    rw [ehyp]
    refine Ex.ite (fun _ => Ex.val rfl) (fun hle => ?_)
    refine Ex.bind (Ex.at_ 20 (fun k hk => implDemand_eq l lim k hk) (P := fun x => x = demO l lim) rfl) ?_
    intro y hy
    rw [hy, demO_in ho h0 (by omega)]
    refine Ex.val ?_
    rcases hS with h | h
    · omega
    · rw [e, h]; simp
  | succ d ih =>
    intro j acc hj ha0 ha e
    have hm := rdJ_mem js j (by omega)
    have ha1 := hs.leg.a j (by omega)
    have hf := hs.fld _ hm
    have hc : (rd_T44 js (j : Int)).f3 = (rd_T34 l (rd_T44 js (j : Int)).f0).f0 := hf.2
    obtain ⟨t, ht⟩ := Int.eq_ofNat_of_zero_le ha1.1.1
    have hr := ho.rd t (by have := ha1.1.2; omega)
    unfold rdT at hr
    rw [← ht] at hr
    rw [sumC_drop js j (by omega)] at e
    refine Ex.step ?_
    simp only [laws_FnSynchronous.l0]
    rw [jw1 (by omega), w64 (n := acc + _) (by omega) (by omega)]
    exact Ex.pos (by omega) (Ex.pos (by omega) (Ex.neg (by omega) (Ex.pos ha1.1.1 (Ex.pos ha1.1.2 (Ex.pos hc (ih (j + 1) _ (by omega) (by omega) (by omega) (by omega)))))))
theorem drawS_ex (l0 : List Int) (h8 : ∀ x ∈ l0, (Lit.int .u8 x).wf = true) : Ex (fun k => spec_DrawSynchronous.f k l0) (fun x => x.1.length ≤ 12) := by
  obtain ⟨b, hb, ho⟩ := open_ev l0 h8
  unfold spec_DrawSynchronous.f
  rw [ho]
  simp only [Option.bind_some]
  obtain ⟨l, q, hl, q0, q1, hs⟩ := set_ev b hb 0 12 (by omega) (by omega)
  have hbl := hl.len
  refine Ex.bind (Ex.at_ 40 hs (P := fun x => x = (l, q)) rfl) ?_
  intro x hx
  rw [hx]
  simp only []
  refine Ex.bind (pick_ex hb (by omega) (by omega)) ?_
  rintro ⟨r1, q1'⟩ ⟨a1, a2, a3⟩
  simp only [] at a1 a2 a3 ⊢
  refine Ex.bind (pick_ex hb (by omega) (by omega)) ?_
  rintro ⟨r2, q2⟩ ⟨c1, c2, c3⟩
  simp only [] at c1 c2 c3 ⊢
  have hl6 : r2 < (([0, 0, 0, 0, 1, 2] : List Int).length : Int) := by simp; omega
  have hb6 := rd_bd [0, 0, 0, 0, 1, 2] 0 2 r2 c1 hl6 (by intro x hx; simp at hx; omega)
  exact Ex.pos c1 (Ex.pos hl6 (Ex.pos hb6.1 (Ex.pos (by simp; omega) (Ex.val (by simp only []; omega)))))
theorem FnSynchronous : laws_FnSynchronous.Pure := by
  intro l0 h1 h2 h8
  refine Ex.get ?_
  unfold laws_FnSynchronous.f
  refine Ex.ite (fun _ => Ex.val rfl) (fun _ => Ex.bind (drawS_ex l0 h8) ?_)
  rintro ⟨l, lim⟩ hl
  simp only [] at hl ⊢
  refine Ex.bind (implSyn_ex l lim) ?_
  intro x hx
  refine Ex.bind (specSyn_ex l (by omega) lim) ?_
  intro y hy
  rw [hx, hy]
  have hlen : (synO l lim).length ≤ 1000 := by
    by_cases h : setOk l = true ∧ 0 ≤ lim ∧ lim ≤ 120
    · have := (syn_ok ((setOk_iff l).mp h.1) h.2.1 h.2.2).1.leg.len; omega
    · unfold synO; rw [if_neg h]; simp
  refine Ex.bind (sameJobs_ex _ hlen) (fun z hz => Ex.pos hz ?_)
  refine Ex.bind (Ex.at_ 1001 (fun k hk => specSet_eq l (by omega) k (by omega)) (P := fun x => x = setOk l) rfl) ?_
  intro v hv
  rw [hv]
  have out : (¬ (setOk l = true ∧ 0 ≤ lim ∧ lim ≤ 120)) → Ex (fun k => laws_FnSynchronous.j0 k l lim (synO l lim) true) (fun r => r = true) := fun h => Ex.step (by
    have e : synO l lim = [] := by unfold synO; rw [if_neg h]
    rw [e]
    simp only [laws_FnSynchronous.j0, alive_eq, Option.bind_some]
    exact Ex.pos (by simp) (Ex.pos rfl (Ex.val rfl)))
  refine Ex.ite (fun g1 => Ex.ite (fun g2 => out (fun h => by omega)) (fun g2 => ?_)) (fun g1 => out (fun h => g1 h.1))
  by_cases g3 : lim > 120
  · rw [decide_eq_true g3]; exact out (fun h => by omega)
  · rw [decide_eq_false g3]
    refine Ex.step ?_
    simp only [laws_FnSynchronous.j0]
    have hok := (setOk_iff l).mp g1
    have hsy := syn_ok hok (show 0 ≤ lim by omega) (show lim ≤ 120 by omega)
    exact Ex.neg (by simp) (law_l0 hok (by omega) (by omega) hsy.1 (sumC (synO l lim)) hsy.2 (synO l lim).length 0 0 (by omega) (by omega) (by omega) (by rw [List.drop_zero, Int.zero_add]))

end Go.Proofs.Ytncombcckeeecaa.Pure
