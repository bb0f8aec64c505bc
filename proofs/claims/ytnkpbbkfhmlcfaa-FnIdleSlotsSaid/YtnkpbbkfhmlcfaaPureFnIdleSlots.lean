/- The statement FnIdleSlots of the given program holds for every input: for every code of at most 2^20 bytes (and for longer ones at once) the law returns true. No further condition. -/
import Derived.Test.YtnkpbbkfhmlcfaaTabDraw
import Derived.Test.YtnkpbbkfhmlcfaaTabIdle
import Derived.Test.YtnkpbbkfhmlcfaaFlawsXFnIdleSlots
set_option linter.unusedSimpArgs false
set_option linter.unusedVariables false
namespace Go.Proofs.Ytnkpbbkfhmlcfaa.Pure
open Go.RowKit Go.Proofs.Ytnkpbbkfhmlcfaa.Q Go.Proofs.Ytnkpbbkfhmlcfaa.Pu Go.Proofs.YtnkpbbkfhmlcfaaW.PrintWords Go.Proofs.YtnkpbbkfhmlcfaaW.PrintLast

theorem sameInts_loop (l : List Int) (hl : l.length ≤ 1000) : ∀ (d j : Nat), j + d = l.length → Ex (fun k => laws_sameInts.l0 k l l (j : Int)) (fun x => x = true) := by
  intro d
  induction d with
  | zero =>
    intro j hj
    refine Ex.step ?_
    simp only [laws_sameInts.l0]
    exact Ex.neg (by omega) (Ex.val rfl)
  | succ d ih =>
    intro j hj
    refine Ex.step ?_
    simp only [laws_sameInts.l0]
    rw [w64 (n := (j : Int) + 1) (by omega) (by omega)]
    exact Ex.pos (by omega) (Ex.pos (by omega) (Ex.pos (by omega) (Ex.pos trivial (ih (j + 1) (by omega)))))
theorem sameInts_ex (l : List Int) (hl : l.length ≤ 1000) : Ex (fun k => laws_sameInts.f k l l) (fun x => x = true) := by
  unfold laws_sameInts.f
  exact Ex.pos rfl (sameInts_loop l hl l.length 0 (by omega))
theorem specIdle_loop {l : List Tk} {tb : List Int} (h : Tv l tb) : ∀ (d j : Nat) (acc : List Int), j + d = tb.length → acc.length ≤ j → Ex (fun k => spec_IdleSlots.l0 k tb acc (j : Int)) (fun x => x = acc ++ idl tb d (j : Int)) := by
  have hm := h.max
  intro d
  induction d with
  | zero =>
    intro j acc hj ha
    refine Ex.step ?_
    simp only [spec_IdleSlots.l0]
    exact Ex.neg (by omega) (Ex.val (by simp [idl]))
  | succ d ih =>
    intro j acc hj ha
    have he := h.ent _ (rd_mem' tb (j : Int) (by omega) (by omega))
    refine Ex.step ?_
    simp only [spec_IdleSlots.l0]
    rw [w64 (n := (j : Int) + 1) (by omega) (by omega)]
    simp only [idl]
    refine Ex.pos (by omega) (Ex.pos (by omega) (Ex.ite (fun h => ?_) (fun h => ?_)))
    · rw [if_pos (by omega)]
      refine Ex.pos (by omega) (Ex.mono (ih (j + 1) (acc ++ [(j : Int)]) (by omega) (by rw [List.length_append, List.length_singleton]; omega)) (fun x hx => ?_))
      rw [hx, List.append_assoc]; rfl
    · rw [if_neg (by omega)]
      exact ih (j + 1) acc (by omega) (by omega)
theorem specIdle_ex (l : List Tk) (hl : l.length ≤ 1000) (tb : List Int) : Ex (fun k => spec_IdleSlots.f k l tb) (fun x => x = idO l tb) := by
  unfold spec_IdleSlots.f idO
  simp only [Option.bind_some]
  refine Ex.bind (specTv_ex l hl tb) ?_
  intro x hx
  rw [hx]
  refine Ex.ite (fun h => ?_) (fun h => Ex.val (by rw [if_neg h]))
  rw [if_pos h]
  exact Ex.mono (specIdle_loop (Tv.mk' h) tb.length 0 [] (by omega) (by simp)) (fun x hx => by rw [hx]; rfl)
theorem idl_le (tb : List Int) : ∀ (d : Nat) (t : Int), (idl tb d t).length ≤ d
  | 0, _ => Nat.le_refl _
  | d + 1, t => by
    have := idl_le tb d (t + 1)
    simp only [idl]
    split
    · simp only [List.length_cons]; omega
    · omega
theorem law_loop {l : List Tk} {tb : List Int} (h : Tv l tb) (L : List Int) (hL : L.length ≤ 1000) : ∀ (d j n : Nat), j + d = tb.length → n ≤ L.length → L.drop n = idl tb d (j : Int) → Ex (fun k => laws_FnIdleSlots.l0 k tb L (n : Int) (j : Int)) (fun x => x = true) := by
  have hm := h.max
  intro d
  induction d with
  | zero =>
    intro j n hj hn he
    have : L.length ≤ n := by
      have := congrArg List.length he
      simp only [idl, List.length_drop, List.length_nil] at this; omega
    refine Ex.step ?_
    simp only [laws_FnIdleSlots.l0]
    refine Ex.neg (by omega) (Ex.val ?_)
    rw [beq_iff_eq]; omega
  | succ d ih =>
    intro j n hj hn he
    have hent := h.ent _ (rd_mem' tb (j : Int) (by omega) (by omega))
    simp only [idl] at he
    refine Ex.step ?_
    simp only [laws_FnIdleSlots.l0]
    rw [w64 (n := (j : Int) + 1) (by omega) (by omega), w64 (n := (n : Int) + 1) (by omega) (by omega)]
    refine Ex.pos (by omega) (Ex.pos (by omega) (Ex.ite (fun hh => ?_) (fun hh => ?_)))
    · rw [if_pos (by omega)] at he
      have hlt : n < L.length := by
        have := congrArg List.length he
        simp only [List.length_drop, List.length_cons] at this; omega
      rw [List.drop_eq_getElem_cons hlt] at he
      injection he with e1 e2
      refine Ex.neg (by omega) (Ex.pos (by omega) (Ex.pos (by omega) (Ex.pos ?_ (ih (j + 1) (n + 1) (by omega) (by omega) (by rw [e2]; rfl)))))
      rw [rd_getT L n hlt, e1]
    · rw [if_neg (by omega)] at he
      exact ih (j + 1) n (by omega) hn (by rw [he]; rfl)
theorem FnIdleSlots : laws_FnIdleSlots.Pure := by
  intro l0 _ _ h8
  refine Ex.get ?_
  unfold laws_FnIdleSlots.f spec_DrawIdleSlots.f
  refine Ex.ite (fun _ => Ex.val rfl) (fun _ => Ex.bind (P := fun (x : List Tk × List Int) => Bd x.1 ∧ x.2.length ≤ 720) (Ex.bind (drawTv_ex l0 h8) (fun x hx => Ex.val hx)) ?_)
  rintro ⟨l, tb⟩ ⟨hl, ht⟩
  have hlen := hl.len
  simp only [] at hl ht hlen ⊢
  refine Ex.bind (implIdle_ex l tb (by omega)) ?_
  rintro _ rfl
  refine Ex.bind (specIdle_ex l (by omega) tb) ?_
  rintro _ rfl
  have hid : (idO l tb).length ≤ 720 := by
    unfold idO
    split
    · have := idl_le tb tb.length 0; omega
    · simp
  refine Ex.bind (sameInts_ex _ (by omega)) ?_
  rintro _ rfl
  refine Ex.pos rfl (Ex.bind (specTv_ex l (by omega) tb) ?_)
  rintro _ rfl
  simp only [alive_eq, Option.bind_some]
  refine Ex.ite (fun h => ?_) (fun h => Ex.pos ?_ (Ex.val rfl))
  · exact law_loop (Tv.mk' h) _ (by omega) tb.length 0 0 (by omega) (by omega) (by unfold idO; rw [if_pos h, List.drop_zero]; rfl)
  · unfold idO; rw [if_neg h]; rfl

end Go.Proofs.Ytnkpbbkfhmlcfaa.Pure
