/- The statement FnJobsLegal of the given program holds for every input: for every code of at most 2^20 bytes (and for longer ones at once) the law returns true. No further condition. -/
import Derived.Test.YtncombcckeeecaaJobsD
import Derived.Test.YtncombcckeeecaaFlawsXFnJobsLegal
set_option linter.unusedSimpArgs false
set_option linter.unusedVariables false
namespace Go.Proofs.Ytncombcckeeecaa.Pure
open Go.RowKit Go.Proofs.Ytncombcckeeecaa.Q Go.Proofs.Ytncombcckeeecaa.Pu Go.Proofs.YtncombcckeeecaaW.PrintWords Go.Proofs.YtncombcckeeecaaW.PrintLast

theorem leg_short {n : Int} {cost per ddl : Int → Int} {l : List Jb} (h : Leg n cost per ddl l) {i : Nat} (hi : i < l.length) : Leg n cost per ddl (l.set i (⟨(rd_T44 l (i : Int)).f0, (rd_T44 l (i : Int)).f1, (rd_T44 l (i : Int)).f2, 1⟩ : Jb)) := by
  have e : ∀ j : Nat, j < l.length → (rd_T44 (l.set i (⟨(rd_T44 l (i : Int)).f0, (rd_T44 l (i : Int)).f1, (rd_T44 l (i : Int)).f2, 1⟩ : Jb)) (j : Int)).f0 = (rd_T44 l (j : Int)).f0 ∧ (rd_T44 (l.set i (⟨(rd_T44 l (i : Int)).f0, (rd_T44 l (i : Int)).f1, (rd_T44 l (i : Int)).f2, 1⟩ : Jb)) (j : Int)).f1 = (rd_T44 l (j : Int)).f1 ∧ (rd_T44 (l.set i (⟨(rd_T44 l (i : Int)).f0, (rd_T44 l (i : Int)).f1, (rd_T44 l (i : Int)).f2, 1⟩ : Jb)) (j : Int)).f2 = (rd_T44 l (j : Int)).f2 ∧ ((rd_T44 (l.set i (⟨(rd_T44 l (i : Int)).f0, (rd_T44 l (i : Int)).f1, (rd_T44 l (i : Int)).f2, 1⟩ : Jb)) (j : Int)).f3 = (rd_T44 l (j : Int)).f3 ∨ (rd_T44 (l.set i (⟨(rd_T44 l (i : Int)).f0, (rd_T44 l (i : Int)).f1, (rd_T44 l (i : Int)).f2, 1⟩ : Jb)) (j : Int)).f3 = 1) := fun j hj => by
    rw [rdJ_get _ j (by rw [List.length_set]; exact hj), rdJ_get l j hj, List.getElem_set]
    by_cases hij : i = j
    · subst hij; rw [if_pos rfl, rdJ_get l i hi]; exact ⟨rfl, rfl, rfl, .inr rfl⟩
    · rw [if_neg hij]; exact ⟨rfl, rfl, rfl, .inl rfl⟩
  generalize hL : l.set i (⟨(rd_T44 l (i : Int)).f0, (rd_T44 l (i : Int)).f1, (rd_T44 l (i : Int)).f2, 1⟩ : Jb) = L at e
  have hlen : L.length = l.length := by rw [← hL, List.length_set]
  have hmap : ∀ j : Nat, (L.take j).map (fun x => (x.f0, x.f1)) = (l.take j).map (fun x => (x.f0, x.f1)) := fun j => by
    refine List.ext_getElem (by simp [hlen]) (fun m h1 h2 => ?_)
    rw [List.length_map, List.length_take] at h1 h2
    rw [List.getElem_map, List.getElem_map, List.getElem_take, List.getElem_take]
    have := e m (by omega)
    rw [rdJ_get L m (by omega), rdJ_get l m (by omega)] at this
    rw [this.1, this.2.1]
  refine ⟨by have := h.len; omega, fun j hj => ?_, fun j hj => ?_, fun j hj => ?_, fun j hj => ?_⟩
  · have := h.a j (by omega)
    obtain ⟨e0, e1, e2, e3⟩ := e j (by omega)
    unfold aO at this ⊢
    rw [e0, e1]
    exact ⟨this.1, this.2.1, by omega, by omega⟩
  · intro h0
    have := h.p j (by omega) h0
    rw [(e j (by omega)).1, (e j (by omega)).2.1, (e (j - 1) (by omega)).1, (e (j - 1) (by omega)).2.1]
    exact this
  · intro b hb
    rw [(e j (by omega)).1, (e j (by omega)).2.1] at *
    rw [lastR_congr _ (hmap j)] at hb
    exact h.s j (by omega) b hb
  · have := h.d j (by omega)
    unfold dO at this ⊢
    rw [(e j (by omega)).1, (e j (by omega)).2.1, (e j (by omega)).2.2.1]
    exact this
theorem law_l0 {l : List Tk} (ho : Ok l) {js : List Jb} (h : LegT l js) : ∀ (d i : Nat), i + d = js.length → Ex (fun k => laws_FnJobsLegal.l0 k l js (i : Int)) (fun r => r = true) := by
  have h60 := h.len
  have hlen := ho.len
  intro d
  induction d with
  | zero =>
    intro i hi
    refine Ex.step ?_
    simp only [laws_FnJobsLegal.l0]
    exact Ex.neg (by omega) (Ex.val rfl)
  | succ d ih =>
    intro i hi
    have hai := h.a i (by omega)
    have l1 : ∀ (e j : Nat), j + e = i → Ex (fun k => laws_FnJobsLegal.l1 k l js (i : Int) (j : Int)) (fun r => r = true) := by
      intro e
      induction e with
      | zero =>
        intro j hj
        refine Ex.step ?_
        simp only [laws_FnJobsLegal.l1]
        rw [jw1 (j := i) (by omega)]
        exact Ex.neg (by omega) (ih (i + 1) (by omega))
      | succ e ihe =>
        intro j hj
        have next := ihe (j + 1) (by omega)
        have haj := h.a j (by omega)
        refine Ex.step ?_
        simp only [laws_FnJobsLegal.l1]
        rw [jw1 (j := j) (by omega)]
        refine Ex.pos (by omega) (Ex.pos (by omega) (Ex.pos (by omega) (Ex.pos (by omega) (Ex.pos (by omega) (Ex.ite (fun h1 => ?_) (fun _ => next))))))
        have hap := h.apart (show j < i by omega) (by omega) h1
        unfold aO at hai haj
        refine Ex.pos hai.1.1 (Ex.pos hai.1.2 ?_)
        rw [w64 (by omega) (by omega)]
        exact Ex.neg (by unfold perT at hap; omega) next
    refine Ex.step ?_
    simp only [laws_FnJobsLegal.l0, Option.bind_some, List.nil_append, List.length_nil, Int.toNat_natCast]
    refine Ex.pos (by omega) (Ex.pos (by omega) (Ex.pos (by omega) (Ex.pos (by omega) (Ex.pos (by omega) (Ex.bind (implJobs_ex l (by omega) (js.take i) (by rw [List.length_take]; omega)) (fun b hb => Ex.pos (hb.mpr ⟨ho, h.take i⟩) (Ex.bind (implJobs_ex l (by omega) _ (by rw [List.length_set]; omega)) (fun b2 hb2 => ?_))))))))
    rw [hb2.mpr ⟨ho, leg_short h (by omega)⟩]
    refine Ex.step ?_
    simp only [laws_FnJobsLegal.j1]
    exact Ex.neg (by simp) (l1 i 0 (by omega))
theorem drawJ_ex (l0 : List Int) (h8 : ∀ x ∈ l0, (Lit.int .u8 x).wf = true) : Ex (fun k => spec_DrawJobsLegal.f k l0) (fun x => x.1.length ≤ 12 ∧ x.2.length ≤ 61) := by
  obtain ⟨b, hb, ho⟩ := open_ev l0 h8
  unfold spec_DrawJobsLegal.f
  rw [ho]
  simp only [Option.bind_some]
  obtain ⟨l, q, hl, q0, q1, hs⟩ := set_ev b hb 0 16 (by omega) (by omega)
  have hbl := hl.len
  refine Ex.bind (Ex.at_ 40 hs (P := fun x => x = (l, q)) rfl) ?_
  intro x hx
  rw [hx]
  simp only []
  refine Ex.bind (Ex.at_ 1001 (fun k hk => specSet_eq l (by omega) k (by omega)) (P := fun x => x = setOk l) rfl) ?_
  intro y hy
  rw [hy]
  refine Ex.ite (fun h => ?_) (fun h => Ex.val ⟨by simp only []; omega, by simp⟩)
  refine Ex.bind (jobs_ex ((setOk_iff l).mp h) hb 2 (by omega) (by omega)) ?_
  intro z hz
  exact Ex.val ⟨by simp only []; omega, by simp only []; exact hz.1⟩
theorem FnJobsLegal : laws_FnJobsLegal.Pure := by
  intro l0 h1 h2 h8
  refine Ex.get ?_
  unfold laws_FnJobsLegal.f
  refine Ex.ite (fun _ => Ex.val rfl) (fun _ => Ex.bind (drawJ_ex l0 h8) ?_)
  rintro ⟨l, js⟩ ⟨hl, hj⟩
  simp only [] at hl hj ⊢
  refine Ex.bind (implJobs_ex l (by omega) js (by omega)) ?_
  intro x hx
  refine Ex.bind (specJobs_ex l (by omega) js (by omega)) ?_
  intro y hy
  have exy : x = y := by
    cases x <;> cases y <;> first | rfl | (have := hy.mpr (hx.mp rfl); simp at this) | (have := hx.mpr (hy.mp rfl); simp at this)
  refine Ex.neg (by rw [exy]; simp) (Ex.ite (fun h => ?_) (fun h => ?_))
  · have hp := hx.mp h
    exact law_l0 hp.1 hp.2 js.length 0 (by omega)
  · rw [alive_eq]; exact Ex.val rfl

end Go.Proofs.Ytncombcckeeecaa.Pure
