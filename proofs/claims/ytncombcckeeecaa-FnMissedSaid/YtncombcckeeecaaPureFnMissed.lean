/- The statement FnMissed of the given program holds for every input: for every code of at most 2^20 bytes (and for longer ones at once) the law returns true. No further condition. -/
import Derived.Test.YtncombcckeeecaaMiss
import Derived.Test.YtncombcckeeecaaFlawsXFnMissed
set_option linter.unusedSimpArgs false
set_option linter.unusedVariables false
namespace Go.Proofs.Ytncombcckeeecaa.Pure
open Go.RowKit Go.Proofs.Ytncombcckeeecaa.Q Go.Proofs.Ytncombcckeeecaa.Pu Go.Proofs.YtncombcckeeecaaW.PrintWords Go.Proofs.YtncombcckeeecaaW.PrintLast

theorem has_loop (l : List Int) (v : Int) (hl : l.length ≤ 1000) : ∀ (d j : Nat), j + d = l.length → Ex (fun k => laws_contains.l0 k l v (j : Int)) (fun x => x = true ↔ v ∈ l.drop j) := by
  intro d
  induction d with
  | zero =>
    intro j hj
    refine Ex.step ?_
    simp only [laws_contains.l0]
    refine Ex.neg (by omega) (Ex.val ?_)
    rw [List.drop_of_length_le (by omega)]
    exact iff_no (by simp)
  | succ d ih =>
    intro j hj
    have e : l.drop j = rd l (j : Int) :: l.drop (j + 1) := by
      rw [List.drop_eq_getElem_cons (by omega)]
      congr 1
      unfold rd
      rw [Int.toNat_natCast, List.getD_eq_getElem?_getD, List.getElem?_eq_getElem (by omega), Option.getD_some]
    refine Ex.step ?_
    simp only [laws_contains.l0]
    rw [jw1 (by omega), e]
    refine Ex.pos (by omega) (Ex.pos (by omega) (Ex.ite (fun h => Ex.val (iff_yes (by rw [h]; exact List.mem_cons_self))) (fun h => Ex.mono (ih (j + 1) (by omega)) (fun x hx => hx.trans ?_))))
    rw [List.mem_cons]
    exact ⟨.inr, fun h' => h'.resolve_left (fun h2 => h h2.symm)⟩
theorem has_ex (l : List Int) (v : Int) (hl : l.length ≤ 1000) : Ex (fun k => laws_contains.f k l v) (fun x => x = true ↔ v ∈ l) := by
  unfold laws_contains.f
  exact has_loop l v hl l.length 0 (by omega)
theorem law_l1 {L : List Int} (hL : L.length ≤ 1000) (hp : L.Pairwise (· < ·)) : ∀ (d j : Nat), j + d = L.length → Ex (fun k => laws_FnMissed.l1 k L ((j + 1 : Nat) : Int)) (fun x => x = true) := by
  intro d
  induction d with
  | zero =>
    intro j hj
    refine Ex.step ?_
    simp only [laws_FnMissed.l1, alive_eq, Option.bind_some]
    exact Ex.neg (by omega) (Ex.val rfl)
  | succ d ih =>
    intro j hj
    refine Ex.step ?_
    simp only [laws_FnMissed.l1, alive_eq, Option.bind_some]
    rw [jw1 (j := j + 1) (by omega), w64 (n := ((j + 1 : Nat) : Int) - 1) (by omega) (by omega), show ((j + 1 : Nat) : Int) - 1 = (j : Int) by omega]
    refine Ex.ite (fun h => ?_) (fun h => Ex.val rfl)
    refine Ex.pos (by omega) (Ex.pos (by omega) (Ex.pos (by omega) (Ex.neg ?_ (ih (j + 1) (by omega)))))
    have := (List.pairwise_iff_getElem.mp hp) j (j + 1) (by omega) (by omega) (by omega)
    unfold rd
    rw [Int.toNat_natCast, Int.toNat_natCast, List.getD_eq_getElem?_getD, List.getD_eq_getElem?_getD, List.getElem?_eq_getElem (by omega), List.getElem?_eq_getElem (by omega), Option.getD_some, Option.getD_some]
    omega
theorem law_l0 {js : List Jb} {run fin : List Int} (hl : js.length ≤ 61) (hf : fin.length = js.length) : ∀ (d j : Nat), j + d = js.length → Ex (fun k => laws_FnMissed.l0 k js (missL js fin js.length 0) (j : Int) run fin) (fun x => x = true) := by
  have hL : (missL js fin js.length 0).length ≤ 1000 := by have := missL_len js fin js.length 0; omega
  intro d
  induction d with
  | zero =>
    intro j hj
    refine Ex.step ?_
    simp only [laws_FnMissed.l0]
    refine Ex.neg (by omega) ?_
    by_cases h : (missL js fin js.length 0).length = 0
    · refine Ex.step ?_
      simp only [laws_FnMissed.l1, alive_eq, Option.bind_some]
      exact Ex.neg (by omega) (Ex.val rfl)
    · have := law_l1 hL (missL_asc js fin js.length 0) (missL js fin js.length 0).length 0 (by omega)
      exact this
  | succ d ih =>
    intro j hj
    have next := ih (j + 1) (by omega)
    have hm := missL_mem js fin js.length 0 (j : Int)
    have hm2 : (j : Int) ∈ missL js fin js.length 0 ↔ lateP (rd_T44 js (j : Int)) (rd fin (j : Int)) := hm.trans ⟨fun ⟨i, _, _, h3, h4⟩ => by
      have : i = j := by omega
      rw [this] at h4; exact h4, fun h => ⟨j, by omega, by omega, rfl, h⟩⟩
    have fin_ : ∀ w : Bool, (w = true ↔ lateP (rd_T44 js (j : Int)) (rd fin (j : Int))) → Ex (fun k => laws_FnMissed.j1 k js (missL js fin js.length 0) (j : Int) w run fin) (fun x => x = true) := fun w hw => Ex.step (by
      simp only [laws_FnMissed.j1]
      rw [jw1 (by omega)]
      refine Ex.bind (has_ex _ _ hL) (fun x hx => ?_)
      have e : x = w := by
        have h := (hx.trans hm2).trans hw.symm
        cases x <;> cases w <;> simp at h ⊢
      rw [e]
      exact Ex.neg (by simp) next)
    refine Ex.step ?_
    simp only [laws_FnMissed.l0]
    refine Ex.pos (by omega) (Ex.pos (by omega) (Ex.ite (fun h1 => Ex.pos (by omega) (Ex.ite (fun h2 => ?_) (fun h2 => ?_))) (fun h1 => ?_)))
    · exact fin_ true (iff_yes ⟨h1, .inl h2⟩)
    · refine fin_ _ ?_
      rw [decide_eq_true_eq]
      exact ⟨fun h => ⟨h1, .inr h⟩, fun h => h.2.resolve_left h2⟩
    · exact fin_ false (iff_no (fun h => h1 h.1))
theorem FnMissed : laws_FnMissed.Pure := by
  intro l0 h1 h2 h8
  refine Ex.get ?_
  unfold laws_FnMissed.f
  refine Ex.ite (fun _ => Ex.val rfl) (fun _ => Ex.bind (drawM_ex l0 h8) ?_)
  rintro ⟨js, run, fin⟩ ⟨hl, hf⟩
  simp only [] at hl hf ⊢
  refine Ex.bind (implMiss_ex js (by omega) run fin) ?_
  intro x hx
  refine Ex.bind (specMiss_ex js (by omega) run fin) ?_
  intro y hy
  rw [hx, hy]
  have hlen : (missO js fin).length ≤ 1000 := by
    unfold missO
    split
    · have := missL_len js fin js.length 0; omega
    · simp
  refine Ex.bind (sameInts_ex _ hlen) ?_
  intro z hz
  refine Ex.pos hz (Ex.ite (fun h => ?_) (fun h => ?_))
  · have e : missO js fin = missL js fin js.length 0 := by unfold missO; rw [if_pos (by omega)]
    rw [e]
    exact law_l0 hl (by omega) js.length 0 (by omega)
  · have e : missO js fin = [] := by unfold missO; rw [if_neg (by omega)]
    rw [e, alive_eq]
    exact Ex.pos rfl (Ex.val rfl)

end Go.Proofs.Ytncombcckeeecaa.Pure
