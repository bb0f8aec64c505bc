import Derived.Test.YtalohoomhmjheaaRun
import Derived.Test.YtalohoomhmjheaaPgmD
import Derived.Test.YtalohoomhmjheaaFspecXDrawRunProgram
set_option linter.unusedSimpArgs false
set_option linter.unusedVariables false
namespace Go.Proofs.Ytalohoomhmjheaa.Pu
open Go.RowKit Go.Proofs.Ytalohoomhmjheaa.Q Go.Proofs.YtalohoomhmjheaaW.PrintWords Go.Proofs.YtalohoomhmjheaaW.PrintLast

theorem drawRun_l0 {b : List Int} (hb : Bytes b) (l : List Nd) : ∀ (d : Nat) (c : List Int) (p : Int), d + c.length ≤ 40 → 0 ≤ p → p ≤ 900100 + 10 * (c.length : Int) → Ex (fun k => spec_DrawRunProgram.l0 k l c (d : Int) b p) (fun x => x.1 = l ∧ x.2.length ≤ 40) := by
  intro d
  induction d with
  | zero =>
    intro c p hd hp0 hp
    refine Ex.step ?_
    simp only [spec_DrawRunProgram.l0]
    exact Ex.neg (by omega) (Ex.val ⟨rfl, by simp only []; omega⟩)
  | succ d ih =>
    intro c p hd hp0 hp
    refine Ex.step ?_
    simp only [spec_DrawRunProgram.l0, Option.bind_some]
    refine Ex.pos (by omega) (Ex.bind (pick_ex hb hp0 (by omega)) ?_)
    rintro ⟨r1, q1⟩ ⟨a1, a2, a3⟩
    simp only [] at a1 a2 a3 ⊢
    refine Ex.bind (pick_ex hb (by omega) (by omega)) ?_
    rintro ⟨r2, q2⟩ ⟨c1, c2, c3⟩
    simp only [] at c1 c2 c3 ⊢
    refine Ex.bind (pick_ex hb (by omega) (by omega)) ?_
    rintro ⟨r3, q3⟩ ⟨e1, e2, e3⟩
    simp only [] at e1 e2 e3 ⊢
    have hl9 : r3 < (([0, 0, 0, 0, 0, 0, 1, 2, 3] : List Int).length : Int) := by simp; omega
    have hb9 := rd_bd [0, 0, 0, 0, 0, 0, 1, 2, 3] 0 3 r3 e1 hl9 (by intro x hx; simp at hx; omega)
    rw [w64 (n := ((d + 1 : Nat) : Int) - 1) (by omega) (by omega), show ((d + 1 : Nat) : Int) - 1 = (d : Int) by omega]
    exact Ex.pos e1 (Ex.pos hl9 (Ex.pos hb9.1 (Ex.pos (by simp; omega) (Ex.pos (by omega) (ih _ q3 (by rw [List.length_append, List.length_singleton]; omega) (by omega) (by rw [List.length_append, List.length_singleton]; omega))))))
theorem drawRun_ex (l0 : List Int) (h8 : ∀ x ∈ l0, (Lit.int .u8 x).wf = true) : Ex (fun k => spec_DrawRunProgram.f k l0) (fun x => x.1.length ≤ 13 ∧ x.2.length ≤ 40) := by
  obtain ⟨b, hb, ho⟩ := open_ev l0 h8
  unfold spec_DrawRunProgram.f
  rw [ho]
  simp only [Option.bind_some]
  refine Ex.bind (prog_ex hb 12) ?_
  rintro ⟨l, p⟩ ⟨h1, h2, h3⟩
  simp only [] at h1 h2 h3 ⊢
  refine Ex.bind (pick_ex hb h2 (by omega)) ?_
  rintro ⟨r, q⟩ ⟨a1, a2, a3⟩
  simp only [] at a1 a2 a3 ⊢
  have := drawRun_l0 hb l r.toNat [] q (by simp; omega) (by omega) (by simp; omega)
  rw [show ((r.toNat : Nat) : Int) = r by omega] at this
  exact Ex.mono this (fun x hx => ⟨by rw [hx.1]; exact h1, hx.2⟩)

end Go.Proofs.Ytalohoomhmjheaa.Pu
