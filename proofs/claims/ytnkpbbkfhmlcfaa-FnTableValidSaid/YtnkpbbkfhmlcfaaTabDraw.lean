import Derived.Test.YtnkpbbkfhmlcfaaTabDef
import Derived.Test.YtnkpbbkfhmlcfaaSpecEdf2
import Derived.Test.YtnkpbbkfhmlcfaaFspecXDrawTableValid
set_option linter.unusedSimpArgs false
set_option linter.unusedVariables false
namespace Go.Proofs.Ytnkpbbkfhmlcfaa.Pu
open Go.RowKit Go.Proofs.Ytnkpbbkfhmlcfaa.Q Go.Proofs.YtnkpbbkfhmlcfaaW.PrintWords Go.Proofs.YtnkpbbkfhmlcfaaW.PrintLast

theorem due_ex {l : List Tk} (hok : Ok l) (i : Int) (h0 : 0 ≤ i) (h1 : i < l.length) (now : Int) : ∃ r, spec_l13Due.f l i now = some r := by
  obtain ⟨j, rfl⟩ := Int.eq_ofNat_of_zero_le h0
  have hx := ok_rdT hok (show j < l.length by omega)
  unfold TkOk at hx
  unfold spec_l13Due.f
  rw [if_pos h0, if_pos h1, if_neg (by omega)]
  exact ⟨_, rfl⟩
section
variable {l : List Tk} (hok : Ok l) (out : List Int) (ho : out.length ≤ 1000) (now : Int) (h0 : 0 ≤ now) (h1 : now ≤ 1000) {P : List Int × Bool → Prop}
  (rest : ∀ (left : List Int) (v : Int), left.length = l.length → Ex (fun k => spec_Table.l0 k l (out ++ [v]) left (now + 1)) P)
include hok ho h0 h1 rest
theorem tab_l1 : ∀ (d j : Nat) (left : List Int) (best : Int), j + d = l.length → left.length = l.length → -1 ≤ best → best < l.length → Ex (fun k => spec_Table.l1 k l out left now best (j : Int)) P := by
  have hlen := hok.len
  intro d
  induction d with
  | zero =>
    intro j left best hj hl b0 b1
    refine Ex.step ?_
    simp only [spec_Table.l1]
    rw [w64 (n := now + 1) (by omega) (by omega)]
    refine Ex.neg (by omega) (Ex.ite (fun h => Ex.pos h (Ex.pos (by omega) (Ex.pos (by omega) (rest _ _ (by rw [List.length_set]; exact hl))))) (fun h => Ex.pos (by omega) (rest _ _ hl)))
  | succ d ih =>
    intro j left best hj hl b0 b1
    have hx := ok_rdT hok (show j < l.length by omega)
    unfold TkOk at hx
    have body : ∀ left' : List Int, left'.length = l.length → Ex (fun k => spec_Table.j3 k l out left' now best (j : Int)) P := by
      intro left' hl'
      have a := fun b c => ih (j + 1) left' b (by omega) hl' c
      obtain ⟨r1, e1⟩ := due_ex hok (j : Int) (by omega) (by omega) now
      refine Ex.step ?_
      simp only [spec_Table.j3, e1, Option.bind_some]
      rw [w64 (n := (j : Int) + 1) (by omega) (by omega), show (j : Int) + 1 = ((j + 1 : Nat) : Int) from by omega]
      refine Ex.pos (by omega) (Ex.pos (by omega) (Ex.ite (fun _ => Ex.ite (fun h => a _ (by omega) (by omega)) (fun h => ?_)) (fun _ => a best b0 b1)))
      obtain ⟨r2, e2⟩ := due_ex hok best (by omega) b1 now
      rw [e2]
      simp only [Option.bind_some]
      exact Ex.ite (fun _ => a _ (by omega) (by omega)) (fun _ => a best b0 b1)
    refine Ex.step ?_
    simp only [spec_Table.l1]
    refine Ex.pos (by omega) (Ex.pos (by omega) (Ex.neg (by omega) (Ex.ite (fun _ => Ex.pos (by omega) (body _ (by rw [List.length_set]; exact hl))) (fun _ => body _ hl))))
end
theorem tab_l0 {l : List Tk} (hok : Ok l) (hh : hyp l ≤ 720) : ∀ (d : Nat) (now : Int) (out left : List Int), now + d = hyp l → 0 ≤ now → out.length = now.toNat → left.length = l.length → Ex (fun k => spec_Table.l0 k l out left now) (fun x => x.1.length ≤ 720) := by
  have hb := hyp_bd hok
  have hyx : Ex (fun k => spec_l1Hyper.f k l) (fun x => x = hyp l) := Ex.at_ 20 (fun k hk => specHyper_eq l hok k hk) rfl
  intro d
  induction d with
  | zero =>
    intro now out left hn h0 ho hl
    refine Ex.step ?_
    simp only [spec_Table.l0]
    refine Ex.bind hyx ?_
    intro x hx
    rw [hx]
    exact Ex.neg (by omega) (Ex.val (by simp only []; omega))
  | succ d ih =>
    intro now out left hn h0 ho hl
    refine Ex.step ?_
    simp only [spec_Table.l0]
    refine Ex.bind hyx ?_
    intro x hx
    rw [hx]
    refine Ex.pos (by omega) ?_
    exact tab_l1 hok out (by omega) now h0 (by omega) (fun left' v h => ih (now + 1) _ left' (by omega) (by omega) (by rw [List.length_append, List.length_singleton]; omega) h) l.length 0 left (-1) (by omega) hl (by omega) (by omega)
theorem table_ex (l : List Tk) (hl : l.length ≤ 1000) : Ex (fun k => spec_Table.f k l) (fun x => x.1.length ≤ 720) := by
  unfold spec_Table.f
  have no : Ex (fun k => spec_Table.j0 k l true) (fun x => x.1.length ≤ 720) := by
    refine Ex.step ?_
    simp only [spec_Table.j0]
    exact Ex.pos trivial (Ex.val (by simp))
  refine Ex.bind (specSet_exT l (by omega)) ?_
  intro x hx
  rw [hx]
  refine Ex.ite (fun h => ?_) (fun _ => no)
  have hok := (setOk_iff l).mp h
  have hb := hyp_bd hok
  have hyx : Ex (fun k => spec_l1Hyper.f k l) (fun x => x = hyp l) := Ex.at_ 20 (fun k hk => specHyper_eq l hok k hk) rfl
  refine Ex.bind hyx ?_
  intro y hy
  rw [hy]
  refine Ex.ite (fun _ => no) (fun h2 => Ex.bind (P := fun _ => True) (Ex.at_ 300000 (fun k hk => specEdf2_eq l h k hk) trivial) ?_)
  intro f _
  cases f with
  | false => exact no
  | true =>
    refine Ex.step ?_
    simp only [spec_Table.j0]
    refine Ex.neg (by simp) (Ex.pos (by omega) (Ex.pos (by omega) ?_))
    exact tab_l0 hok (by omega) (hyp l).toNat 0 [] _ (by omega) (by omega) rfl (by simp)
theorem drawTv_ex (l0 : List Int) (h8 : ∀ x ∈ l0, (Lit.int .u8 x).wf = true) : Ex (fun k => spec_DrawTableValid.f k l0) (fun x => Bd x.1 ∧ x.2.length ≤ 720) := by
  obtain ⟨b, hb, ho⟩ := open_ev l0 h8
  obtain ⟨l, q, hl, h1, h2, hs⟩ := set_ev b hb 0 16 (by omega) (by omega)
  have hlen := hl.len
  unfold spec_DrawTableValid.f
  simp only [ho, Option.bind_some]
  refine Ex.bind (P := fun x => x = (l, q)) (Ex.at_ 40 hs rfl) ?_
  intro x hx
  rw [hx]
  refine Ex.bind (table_ex l (by omega)) ?_
  rintro ⟨tb, o⟩ ht
  simp only [] at ht ⊢
  have fin : ∀ (f : Bool) (p : Int), 0 ≤ p → p ≤ 1000 → (f = true → 0 < tb.length) → Ex (fun k => spec_DrawTableValid.j0 k l tb f b p) (fun x => Bd x.1 ∧ x.2.length ≤ 720) := by
    intro f p p0 p1 hf
    refine Ex.step ?_
    simp only [spec_DrawTableValid.j0]
    refine Ex.ite (fun hft => ?_) (fun _ => Ex.val ⟨hl, ht⟩)
    have hpos := hf hft
    refine Ex.bind (pick_ex hb p0 (by omega)) ?_
    rintro ⟨r, q1⟩ ⟨a1, a2, a3⟩
    simp only [] at a1 a2 a3 ⊢
    have a4 : r < (tb.length : Int) := by omega
    refine Ex.bind (pick_ex hb (by omega) (by omega)) ?_
    rintro ⟨r2, q2⟩ ⟨c1, c2, c3⟩
    simp only [] at c1 c2 c3 ⊢
    refine Ex.ite (fun _ => ?_) (fun _ => Ex.ite (fun _ => ?_) (fun _ => Ex.ite (fun _ => ?_) (fun _ => ?_)))
    · refine Ex.bind (pick_ex hb (by omega) (by omega)) ?_
      rintro ⟨r3, q3⟩ ⟨d1, d2, d3⟩
      exact Ex.pos a1 (Ex.pos a4 (Ex.val ⟨hl, by simp only [List.length_set]; exact ht⟩))
    · exact Ex.pos a1 (Ex.pos (by omega) (Ex.val ⟨hl, by simp only [List.length_take]; omega⟩))
    · refine Ex.bind (pick_ex hb (by omega) (by omega)) ?_
      rintro ⟨r3, q3⟩ ⟨d1, d2, d3⟩
      simp only [] at d1 d2 d3 ⊢
      exact Ex.pos a1 (Ex.pos a4 (Ex.pos d1 (Ex.pos (by omega) (Ex.val ⟨hl, by simp only [List.length_set]; exact ht⟩))))
    · exact Ex.pos a1 (Ex.pos a4 (Ex.val ⟨hl, by simp only [List.length_set]; exact ht⟩))
  refine Ex.ite (fun h => ?_) (fun _ => fin false q (by omega) (by omega) (fun h => by cases h))
  refine Ex.bind (pick_ex hb (by omega) (by omega)) ?_
  rintro ⟨r, q1⟩ ⟨a1, a2, a3⟩
  simp only [] at a1 a2 a3 ⊢
  exact fin _ q1 (by omega) (by omega) (fun _ => by omega)

end Go.Proofs.Ytnkpbbkfhmlcfaa.Pu
