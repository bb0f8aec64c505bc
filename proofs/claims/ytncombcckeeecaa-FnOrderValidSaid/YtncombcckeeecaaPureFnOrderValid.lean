/- The statement FnOrderValid of the given program holds for every input: for every code of at most 2^20 bytes (and for longer ones at once) the law returns true. No further condition. -/
import Derived.Test.YtncombcckeeecaaOrdV
import Derived.Test.YtncombcckeeecaaFlawsXFnOrderValid
set_option linter.unusedSimpArgs false
set_option linter.unusedVariables false
namespace Go.Proofs.Ytncombcckeeecaa.Pure
open Go.RowKit Go.Proofs.Ytncombcckeeecaa.Q Go.Proofs.Ytncombcckeeecaa.Pu Go.Proofs.YtncombcckeeecaaW.PrintWords Go.Proofs.YtncombcckeeecaaW.PrintLast

theorem contains_loop (l : List Int) (v : Int) (hl : l.length ≤ 1000) : ∀ (d j : Nat), j + d = l.length → v ∈ l.drop j → Ex (fun k => laws_contains.l0 k l v (j : Int)) (fun x => x = true) := by
  intro d
  induction d with
  | zero =>
    intro j hj hm
    rw [List.drop_of_length_le (by omega)] at hm
    cases hm
  | succ d ih =>
    intro j hj hm
    have hjl : j < l.length := by omega
    refine Ex.step ?_
    simp only [laws_contains.l0]
    rw [w64 (n := (j : Int) + 1) (by omega) (by omega)]
    refine Ex.pos (by omega) (Ex.pos (by omega) (Ex.ite (fun _ => Ex.val rfl) (fun h => ih (j + 1) (by omega) ?_)))
    rw [List.drop_eq_getElem_cons hjl, ← rd_getO l j hjl, List.mem_cons] at hm
    rcases hm with e | e
    · exact absurd e.symm h
    · exact e
theorem contains_ex (l : List Int) (v : Int) (hl : l.length ≤ 1000) (hm : v ∈ l) : Ex (fun k => laws_contains.f k l v) (fun x => x = true) := by
  unfold laws_contains.f
  exact contains_loop l v hl l.length 0 (by omega) (by rwa [List.drop_zero])
theorem rev_ok {l : List Tk} {o : List Int} (h : OrdP l o) : OrdP l o.reverse :=
  ⟨h.ok, by rw [List.length_reverse]; exact h.len, fun x hx => h.rng x (List.mem_reverse.mp hx), (List.reverse_perm o).nodup_iff.mpr h.nd⟩
theorem back_loop {l : List Tk} {o : List Int} (ho : o.length ≤ 1000) {P : Bool → Prop} (rest : Ex (fun k => laws_FnOrderValid.l1 k l o o.reverse 0) P) : ∀ (d : Nat) (x : Int), d ≤ o.length → x = (d : Int) - 1 → Ex (fun k => laws_FnOrderValid.l0 k l o ((o.drop d).reverse) x) P := by
  intro d
  induction d with
  | zero =>
    intro x _ hx
    refine Ex.step ?_
    simp only [laws_FnOrderValid.l0]
    rw [List.drop_zero]
    exact Ex.neg (by omega) rest
  | succ d ih =>
    intro x hd hx
    have e : x = (d : Int) := by omega
    subst e
    have hr : (o.drop (d + 1)).reverse ++ [rd o (d : Int)] = (o.drop d).reverse := by
      rw [List.drop_eq_getElem_cons (show d < o.length by omega), List.reverse_cons, rd_getO o d (by omega)]
    refine Ex.step ?_
    simp only [laws_FnOrderValid.l0]
    rw [w64 (n := (d : Int) - 1) (by omega) (by omega), hr]
    exact Ex.pos (by omega) (Ex.pos (by omega) (Ex.pos (by omega) (Ex.pos (by rw [List.length_reverse, List.length_drop]; omega) (ih _ (by omega) rfl))))
theorem law_l1 {l : List Tk} {o : List Int} (hp : OrdP l o) : ∀ (d j : Nat), j + d = l.length → Ex (fun k => laws_FnOrderValid.l1 k l o o.reverse (j : Int)) (fun x => x = true) := by
  have hl := hp.ok.len
  have hol := hp.len
  intro d
  induction d with
  | zero =>
    intro j hj
    refine Ex.step ?_
    simp only [laws_FnOrderValid.l1, Option.bind_some]
    refine Ex.neg (by omega) (Ex.bind (implOrd_ex l (by omega) o.reverse (by rw [List.length_reverse]; omega)) ?_)
    intro x hx
    refine Ex.pos (hx.mpr (rev_ok hp)) (Ex.ite (fun h0 => Ex.pos (by omega) (Ex.val rfl)) (fun h0 => ?_))
    refine Ex.pos (by omega) (Ex.bind (implOrd_ex l (by omega) (o.drop 1) (by rw [List.length_drop]; omega)) ?_)
    intro y hy
    refine Ex.ite (fun h => ?_) (fun _ => Ex.ite (fun _ => Ex.val rfl) (fun h2 => ?_))
    · have := (hy.mp h).len
      rw [List.length_drop] at this
      omega
    · refine Ex.pos (by omega) (Ex.pos (by rw [List.length_drop, List.length_singleton]; omega) (Ex.bind (implOrd_ex l (by omega) ([rd o 1] ++ o.drop 1) (by rw [List.length_append, List.length_drop, List.length_singleton]; omega)) ?_))
      intro z hz
      refine Ex.val ?_
      cases z with
      | false => rfl
      | true =>
        have hnd := (hz.mp rfl).nd
        exfalso
        have hm : rd o 1 ∈ o.drop 1 := by
          rw [List.drop_eq_getElem_cons (show 1 < o.length by omega), ← rd_getO o 1 (by omega)]
          exact List.mem_cons_self ..
        exact (List.nodup_cons.mp hnd).1 hm
  | succ d ih =>
    intro j hj
    refine Ex.step ?_
    simp only [laws_FnOrderValid.l1, Option.bind_some]
    rw [w64 (n := (j : Int) + 1) (by omega) (by omega)]
    refine Ex.pos (by omega) (Ex.bind (contains_ex o _ (by omega) (hp.has (by omega) (by omega))) ?_)
    intro x hx
    exact Ex.pos hx (ih (j + 1) (by omega))
theorem drawO_ex (l0 : List Int) (h8 : ∀ x ∈ l0, (Lit.int .u8 x).wf = true) : Ex (fun k => spec_DrawOrderValid.f k l0) (fun x => x.1.length ≤ 12 ∧ x.2.length ≤ 13) := by
  obtain ⟨b, hb, ho⟩ := open_ev l0 h8
  obtain ⟨l, q, hl, h1, h2, hs⟩ := set_ev b hb 0 16 (by omega) (by omega)
  have hlen := hl.len
  unfold spec_DrawOrderValid.f
  simp only [ho, Option.bind_some]
  refine Ex.bind (P := fun x => x = (l, q)) (Ex.at_ 40 hs rfl) ?_
  intro x hx
  rw [hx]
  refine Ex.bind (order_ex hb l.length (by omega) 2 (by omega) (by omega)) (fun y hy => Ex.val ⟨hlen, by simp only []; omega⟩)
theorem FnOrderValid : laws_FnOrderValid.Pure := by
  intro l0 h1 h2 h8
  refine Ex.get ?_
  unfold laws_FnOrderValid.f
  refine Ex.ite (fun _ => Ex.val rfl) (fun _ => Ex.bind (drawO_ex l0 h8) ?_)
  rintro ⟨l, o⟩ ⟨hl, ho⟩
  simp only [] at hl ho ⊢
  refine Ex.bind (implOrd_ex l (by omega) o (by omega)) ?_
  intro x hx
  refine Ex.bind (specOrd_ex l (by omega) o (by omega)) ?_
  intro y hy
  have exy := bool_iff hx hy
  refine Ex.neg (by rw [exy]; simp) (Ex.ite (fun h => ?_) (fun h => ?_))
  · have hp := hx.mp h
    have := back_loop (l := l) (o := o) (by omega) (P := fun x => x = true) (law_l1 hp l.length 0 (by omega)) o.length ((o.length : Int) - 1) (Nat.le_refl _) rfl
    rw [List.drop_length, List.reverse_nil] at this
    rw [w64 (n := (o.length : Int) - 1) (by omega) (by omega)]
    exact this
  · rw [alive_eq]; exact Ex.val rfl

end Go.Proofs.Ytncombcckeeecaa.Pure
