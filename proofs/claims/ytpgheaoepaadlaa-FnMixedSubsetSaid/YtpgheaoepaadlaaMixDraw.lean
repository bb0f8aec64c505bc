import Derived.Test.YtpgheaoepaadlaaMixed
import Derived.Test.YtpgheaoepaadlaaFspecXl20Mixed
set_option linter.unusedSimpArgs false
set_option linter.unusedVariables false
namespace Go.Proofs.Ytpgheaoepaadlaa.Pu
open Go.RowKit Go.Proofs.Ytpgheaoepaadlaa.Q Go.Proofs.YtpgheaoepaadlaaW.PrintWords Go.Proofs.YtpgheaoepaadlaaW.PrintLast

theorem mixed_l1 {b : List Int} (hb : Bytes b) : ∀ (d : Nat) (l : List Mx) (p : Int), d + l.length = 6 → 0 ≤ p → p ≤ 950000 → Ex (fun k => spec_l20Mixed.l1 k l b p) (fun x => x.1.length ≤ 7 ∧ p ≤ x.2 ∧ x.2 ≤ p + 1) := by
  intro d
  induction d with
  | zero =>
    intro l p hl hp0 hp
    refine Ex.step ?_
    simp only [spec_l20Mixed.l1, Option.bind_some]
    refine Ex.neg (by omega) (Ex.bind (pick_ex hb hp0 (by omega)) ?_)
    rintro ⟨r, q⟩ ⟨h1, h2, h3⟩
    simp only [] at h1 h2 h3 ⊢
    exact Ex.pos h1 (Ex.pos (by simp; omega) (Ex.pos (by omega) (Ex.val ⟨by simp only [List.length_append, List.length_singleton]; omega, by simp only []; omega, by simp only []; omega⟩)))
  | succ d ih =>
    intro l p hl hp0 hp
    refine Ex.step ?_
    simp only [spec_l20Mixed.l1, Option.bind_some]
    exact Ex.pos (by omega) (Ex.pos (by omega) (ih _ p (by rw [List.length_append, List.length_singleton]; omega) hp0 hp))
theorem mixed_l0 {b : List Int} (hb : Bytes b) (n : Int) : ∀ (d : Nat) (l : List Mx) (p : Int), d + l.length ≤ 5 → 0 ≤ p → p ≤ 900000 - 20 * (d : Int) → Ex (fun k => spec_l20Mixed.l0 k n l (d : Int) b p) (fun x => x.1.length ≤ 7 ∧ p ≤ x.2 ∧ x.2 ≤ p + 20 * (d + 1 : Int)) := by
  intro d
  induction d with
  | zero =>
    intro l p hl hp0 hp
    refine Ex.step ?_
    simp only [spec_l20Mixed.l0, Option.bind_some]
    refine Ex.neg (by omega) (Ex.bind (odd_ex hb hp0 (by omega)) ?_)
    rintro ⟨o, q⟩ ⟨h1, h2, h3⟩
    simp only [] at h1 h2 h3 ⊢
    refine Ex.ite (fun _ => ?_) (fun _ => Ex.val ⟨by simp only []; omega, by simp only []; omega, by simp only []; omega⟩)
    refine Ex.bind (pick_ex hb (by omega) (by omega)) ?_
    rintro ⟨r, q2⟩ ⟨g1, g2, g3⟩
    simp only [] at g1 g2 g3 ⊢
    refine Ex.ite (fun _ => ?_) (fun _ => ?_)
    · exact Ex.mono (mixed_l1 hb (6 - l.length) l q2 (by omega) (by omega) (by omega)) (fun x hx => ⟨hx.1, by omega, by omega⟩)
    · refine Ex.bind (pick_ex hb (by omega) (by omega)) ?_
      rintro ⟨r3, q3⟩ ⟨a1, a2, a3⟩
      simp only [] at a1 a2 a3 ⊢
      exact Ex.pos a1 (Ex.pos (by simp; omega) (Ex.pos (by omega) (Ex.val ⟨by simp only [List.length_append, List.length_singleton]; omega, by simp only []; omega, by simp only []; omega⟩)))
  | succ d ih =>
    intro l p hl hp0 hp
    refine Ex.step ?_
    simp only [spec_l20Mixed.l0, Option.bind_some]
    refine Ex.pos (by omega) (Ex.bind (pick_ex hb hp0 (by omega)) ?_)
    rintro ⟨r1, q1⟩ ⟨g1, g2, g3⟩
    simp only [] at g1 g2 g3 ⊢
    refine Ex.bind (pick_ex hb (by omega) (by omega)) ?_
    rintro ⟨r2, q2⟩ ⟨a1, a2, a3⟩
    simp only [] at a1 a2 a3 ⊢
    refine Ex.pos a1 (Ex.pos (by simp; omega) (Ex.bind (pick_ex hb (by omega) (by omega)) ?_))
    rintro ⟨r3, q3⟩ ⟨c1, c2, c3⟩
    simp only [] at c1 c2 c3 ⊢
    refine Ex.bind (pick_ex hb (by omega) (by omega)) ?_
    rintro ⟨r4, q4⟩ ⟨e1, e2, e3⟩
    simp only [] at e1 e2 e3 ⊢
    refine Ex.step ?_
    simp only [spec_l20Mixed.j1]
    rw [w64 (n := ((d + 1 : Nat) : Int) - 1) (by omega) (by omega), show (((d + 1 : Nat) : Int) - 1) = (d : Int) from by omega]
    refine Ex.ite (fun _ => Ex.bind (pick_ex hb (by omega) (by omega)) ?_) (fun _ => ?_)
    · rintro ⟨r5, q5⟩ ⟨f1, f2, f3⟩
      simp only [] at f1 f2 f3 ⊢
      refine Ex.pos (by omega) (Ex.mono (ih _ q5 ?_ (by omega) (by omega)) (fun x hx => ⟨hx.1, by omega, by omega⟩))
      rw [List.length_append, List.length_singleton]; omega
    · refine Ex.pos (by omega) (Ex.mono (ih _ q4 ?_ (by omega) (by omega)) (fun x hx => ⟨hx.1, by omega, by omega⟩))
      rw [List.length_append, List.length_singleton]; omega
theorem mixed_ex {b : List Int} (hb : Bytes b) {p n : Int} (hp0 : 0 ≤ p) (hp : p ≤ 800000) : Ex (fun k => spec_l20Mixed.f k b p n) (fun x => x.1.length ≤ 7 ∧ p ≤ x.2 ∧ x.2 ≤ p + 200) := by
  unfold spec_l20Mixed.f
  refine Ex.bind (pick_ex hb hp0 (by omega)) ?_
  rintro ⟨r, q⟩ ⟨h1, h2, h3⟩
  simp only [] at h1 h2 h3 ⊢
  obtain ⟨d, rfl⟩ := Int.eq_ofNat_of_zero_le h1
  exact Ex.mono (mixed_l0 hb n d [] q (by simp; omega) (by omega) (by omega)) (fun x hx => ⟨hx.1, by omega, by omega⟩)

end Go.Proofs.Ytpgheaoepaadlaa.Pu
