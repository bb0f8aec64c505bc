/- The statement FnBlocking of the given program holds for every input: for every code of at most 2^20 bytes (and for longer ones at once) the law returns true. No further condition. -/
import Derived.Test.YtabjigpbednfnaaSecB
import Derived.Test.YtabjigpbednfnaaFimplXBlocking
import Derived.Test.YtabjigpbednfnaaFspecXBlocking
import Derived.Test.YtabjigpbednfnaaFlawsXFnBlocking
set_option linter.unusedSimpArgs false
set_option linter.unusedVariables false
namespace Go.Proofs.Ytabjigpbednfnaa.Pure
open Go.RowKit Go.Proofs.Ytabjigpbednfnaa.Q Go.Proofs.Ytabjigpbednfnaa.Pu Go.Proofs.YtabjigpbednfnaaW.PrintWords Go.Proofs.YtabjigpbednfnaaW.PrintLast

theorem implB_ex (l : List Tk) (hl : l.length ≤ 1000) (sc : List Sc) (t : Int) : Ex (fun k => impl_Blocking.f k l sc t) (fun x => (SecOk l sc ∧ 0 ≤ t ∧ t ≤ 120 → x = blkV l sc t) ∧ (¬ (SecOk l sc ∧ 0 ≤ t ∧ t ≤ 120) → x = -1)) := by
  unfold impl_Blocking.f
  simp only [in_eq, Option.bind_some]
  refine Ex.bind (implSec_ex l hl sc) (fun b hb => Ex.ite (fun h => Ex.ite (fun ht => ?_) (fun ht => ?_)) (fun h => Ex.val ⟨fun h' => absurd (hb.mpr h'.1) h, fun _ => rfl⟩))
  · exact Ex.bind (implBlk_ex (hb.mp h) t) (fun x hx => Ex.val ⟨fun _ => hx, fun h' => absurd ⟨hb.mp h, of_decide_eq_true ht⟩ h'⟩)
  · exact Ex.val ⟨fun h' => absurd (decide_eq_true h'.2) ht, fun _ => rfl⟩
theorem specB_ex (l : List Tk) (hl : l.length ≤ 1000) (sc : List Sc) (t : Int) : Ex (fun k => spec_Blocking.f k l sc t) (fun x => (SecOk l sc ∧ 0 ≤ t ∧ t ≤ 120 → x = blkV l sc t) ∧ (¬ (SecOk l sc ∧ 0 ≤ t ∧ t ≤ 120) → x = -1)) := by
  unfold spec_Blocking.f
  simp only [l1In_eq, Option.bind_some]
  refine Ex.bind (specSec_ex l hl sc) (fun b hb => Ex.ite (fun h => Ex.ite (fun ht => ?_) (fun ht => ?_)) (fun h => Ex.val ⟨fun h' => absurd (hb.mpr h'.1) h, fun _ => rfl⟩))
  · exact Ex.bind (specBlk_ex (hb.mp h) t) (fun x hx => Ex.val ⟨fun _ => hx, fun h' => absurd ⟨hb.mp h, of_decide_eq_true ht⟩ h'⟩)
  · exact Ex.val ⟨fun h' => absurd (decide_eq_true h'.2) ht, fun _ => rfl⟩
theorem law_l0 {l : List Tk} {sc : List Sc} (h : SecOk l sc) {t : Int} {b : Int} (hb0 : 0 ≤ b) : ∀ (d j : Nat) (lo la : Int) (ur : Bool), j + d = l.length → 0 ≤ lo →
    (b = 0 ∨ ((b ≤ lo ∨ ∃ i : Nat, j ≤ i ∧ i < l.length ∧ b ≤ (rd_T31 sc (i : Int)).f1) ∧ (t < la ∨ ∃ i : Nat, j ≤ i ∧ i < l.length ∧ t < (rd_T33 l (i : Int)).f1) ∧ (ur = true ∨ ∃ i : Nat, j ≤ i ∧ i < l.length ∧ (rd_T33 l (i : Int)).f1 ≤ t ∧ (rd_T31 sc (i : Int)).f1 > 0))) →
    Ex (fun k => laws_FnBlocking.l0 k l sc t b lo la ur (j : Int)) (fun x => x = true) := by
  have h5 := h.set.len
  have hlen := h.len
  intro d
  induction d with
  | zero =>
    intro j lo la ur hj hlo hinv
    refine Ex.step ?_
    simp only [laws_FnBlocking.l0, alive_eq, Option.bind_some]
    have e : b = 0 ∨ (b ≤ lo ∧ t < la ∧ ur = true) := hinv.imp id (fun ⟨h1, h2, h3⟩ => ⟨h1.resolve_right (fun ⟨i, g1, g2, _⟩ => by omega), h2.resolve_right (fun ⟨i, g1, g2, _⟩ => by omega), h3.resolve_right (fun ⟨i, g1, g2, _⟩ => by omega)⟩)
    refine Ex.neg (by omega) (Ex.pos (by omega) (Ex.pos (by omega) (Ex.ite (fun h1 => Ex.ite (fun _ => Ex.val rfl) (fun h2 => Ex.pos ?_ (Ex.val rfl))) (fun h1 => Ex.pos ?_ (Ex.ite (fun _ => Ex.val rfl) (fun _ => Ex.val rfl))))))
    · rcases e with e | e
      · exact e
      · exact absurd e.2.2 h2
    · omega
  | succ d ih =>
    intro j lo la ur hj hlo hinv
    have m1 := mx_bd lo (rd_T31 sc (j : Int)).f1
    have m2 := mx_bd la (rd_T33 l (j : Int)).f1
    have go : ∀ ur' : Bool, (ur = true → ur' = true) → ((rd_T33 l (j : Int)).f1 ≤ t ∧ (rd_T31 sc (j : Int)).f1 > 0 → ur' = true) → Ex (fun k => laws_FnBlocking.l0 k l sc t b (mx lo (rd_T31 sc (j : Int)).f1) (mx la (rd_T33 l (j : Int)).f1) ur' ((j + 1 : Nat) : Int)) (fun x => x = true) := fun ur' hu1 hu2 => ih (j + 1) _ _ ur' (by omega) (by omega) (hinv.imp id (fun ⟨h1, h2, h3⟩ => ⟨by
      rcases h1 with h1 | ⟨i, g1, g2, g3⟩
      · left; omega
      · by_cases e : i = j
        · rw [e] at g3; left; omega
        · right; exact ⟨i, by omega, g2, g3⟩, by
      rcases h2 with h2 | ⟨i, g1, g2, g3⟩
      · left; omega
      · by_cases e : i = j
        · rw [e] at g3; left; omega
        · right; exact ⟨i, by omega, g2, g3⟩, by
      rcases h3 with h3 | ⟨i, g1, g2, g3⟩
      · left; exact hu1 h3
      · by_cases e : i = j
        · rw [e] at g3; left; exact hu2 g3
        · right; exact ⟨i, by omega, g2, g3⟩⟩))
    refine Ex.step ?_
    simp only [laws_FnBlocking.l0]
    rw [swx (by omega)]
    refine Ex.pos (by omega) (Ex.pos (by omega) (Ex.pos (by omega) (Ex.ite (fun h1 => go true (fun _ => rfl) (fun _ => rfl)) (fun h1 => Ex.ite (fun h2 => go _ (fun h => absurd h h1) (fun h => decide_eq_true h.2)) (fun h2 => go false (fun h => absurd h h1) (fun h => absurd h.1 h2))))))
theorem drawB_ex (l0 : List Int) (h8 : ∀ x ∈ l0, (Lit.int .u8 x).wf = true) : Ex (fun k => spec_DrawBlocking.f k l0) (fun x => x.1.length ≤ 12) := by
  obtain ⟨b, hb, ho⟩ := open_ev l0 h8
  unfold spec_DrawBlocking.f
  rw [ho]
  simp only [Option.bind_some]
  obtain ⟨l, q, hl, q0, q1, hs⟩ := set_ev b hb 0 20 (by omega) (by omega)
  have hbl := hl.len
  refine Ex.bind (Ex.at_ 40 hs (P := fun x => x = (l, q)) rfl) ?_
  intro x hx
  rw [hx]
  simp only []
  refine Ex.bind (secs_ex hbl hb 12 (by omega) (by omega)) ?_
  rintro ⟨sc, q2⟩ ⟨s1, s2, s3⟩
  simp only [] at s1 s2 s3 ⊢
  refine Ex.bind (pick_ex hb (by omega) (by omega)) ?_
  rintro ⟨r1, q3⟩ ⟨a1, a2, a3⟩
  simp only [] at a1 a2 a3 ⊢
  refine Ex.bind (pick_ex hb (by omega) (by omega)) ?_
  rintro ⟨r2, q4⟩ ⟨c1, c2, c3⟩
  simp only [] at c1 c2 c3 ⊢
  have hl6 : r2 < (([0, 0, 0, 0, 1, 2] : List Int).length : Int) := by simp; omega
  have hb6 := rd_bd [0, 0, 0, 0, 1, 2] 0 2 r2 c1 hl6 (by intro x hx; simp at hx; omega)
  exact Ex.pos c1 (Ex.pos hl6 (Ex.pos hb6.1 (Ex.pos (by simp; omega) (Ex.val (by simp only []; omega)))))
theorem FnBlocking : laws_FnBlocking.Pure := by
  intro l0 h1 h2 h8
  refine Ex.get ?_
  unfold laws_FnBlocking.f
  refine Ex.ite (fun _ => Ex.val rfl) (fun _ => Ex.bind (drawB_ex l0 h8) ?_)
  rintro ⟨l, sc, t⟩ hl
  simp only [] at hl ⊢
  refine Ex.bind (implB_ex l (by omega) sc t) ?_
  intro x hx
  refine Ex.bind (specB_ex l (by omega) sc t) ?_
  intro y hy
  have exy : x = y := by
    by_cases h : SecOk l sc ∧ 0 ≤ t ∧ t ≤ 120
    · rw [hx.1 h, hy.1 h]
    · rw [hx.2 h, hy.2 h]
  refine Ex.pos exy (Ex.bind (specSec_ex l (by omega) sc) (fun b hb => ?_))
  have out : ¬ (SecOk l sc ∧ 0 ≤ t ∧ t ≤ 120) → Ex (fun k => laws_FnBlocking.j0 k l sc t x true) (fun r => r = true) := fun h => Ex.step (by
    simp only [laws_FnBlocking.j0, alive_eq, Option.bind_some]
    exact Ex.pos (by simp) (Ex.pos (hx.2 h) (Ex.val rfl)))
  refine Ex.ite (fun g1 => Ex.ite (fun g2 => out (fun h => by omega)) (fun g2 => ?_)) (fun g1 => out (fun h => g1 (hb.mpr h.1)))
  by_cases g3 : t > 120
  · rw [decide_eq_true g3]; exact out (fun h => by omega)
  · rw [decide_eq_false g3]
    have hs := hb.mp g1
    refine Ex.step ?_
    simp only [laws_FnBlocking.j0]
    rw [hx.1 ⟨hs, by omega, by omega⟩]
    obtain ⟨v0, _, v3⟩ := blkV_spec l sc t
    refine Ex.neg (by simp) (law_l0 hs v0 l.length 0 0 0 false (by omega) (by omega) (v3.imp id (fun ⟨i, g1, g2, g3⟩ => ⟨.inr ⟨i, by omega, g1, by omega⟩, .inr ⟨i, by omega, g1, g2.1⟩, .inr ?_⟩)))
    obtain ⟨c1, c2, c3⟩ := ceilV_spec l sc (rd_T31 sc (i : Int)).f2
    have hr := hs.set.rd i g1
    unfold rdT at hr
    unfold blks at g2
    rcases c3 with c3 | ⟨i', e1, e2, e3⟩
    · omega
    · exact ⟨i', by omega, e1, by omega, e2.1⟩

end Go.Proofs.Ytabjigpbednfnaa.Pure
