import Derived.Test.YtabjigpbednfnaaSecC
import Derived.Test.YtabjigpbednfnaaFimplXblocking
import Derived.Test.YtabjigpbednfnaaFspecXl6Block
set_option linter.unusedSimpArgs false
set_option linter.unusedVariables false
namespace Go.Proofs.Ytabjigpbednfnaa.Pu
open Go.RowKit Go.Proofs.Ytabjigpbednfnaa.Q Go.Proofs.YtabjigpbednfnaaW.PrintWords Go.Proofs.YtabjigpbednfnaaW.PrintLast

/-- Task j may block an interval of length t. -/
def blks (l : List Tk) (sc : List Sc) (t : Int) (j : Nat) : Prop := (rd_T33 l (j : Int)).f1 > t ∧ (rd_T31 sc (j : Int)).f1 > 0 ∧ ceilV l sc (rd_T31 sc (j : Int)).f2 ≤ t
instance (l : List Tk) (sc : List Sc) (t : Int) (j : Nat) : Decidable (blks l sc t j) := by unfold blks; infer_instance
def blkF (l : List Tk) (sc : List Sc) (t : Int) : Nat → Nat → Int → Int
  | 0, _, c => c
  | d + 1, j, c => blkF l sc t d (j + 1) (if blks l sc t j then mx c (rd_T31 sc (j : Int)).f1 else c)
/-- The blocking term. -/
def blkV (l : List Tk) (sc : List Sc) (t : Int) : Int := blkF l sc t l.length 0 0
theorem blkF_le (l : List Tk) (sc : List Sc) (t : Int) : ∀ (d j : Nat) (c : Int), c ≤ blkF l sc t d j c ∧ (∀ i : Nat, j ≤ i → i < j + d → blks l sc t i → (rd_T31 sc (i : Int)).f1 ≤ blkF l sc t d j c) ∧ (blkF l sc t d j c = c ∨ ∃ i : Nat, j ≤ i ∧ i < j + d ∧ blks l sc t i ∧ blkF l sc t d j c = (rd_T31 sc (i : Int)).f1)
  | 0, j, c => ⟨Int.le_refl _, fun i h1 h2 => by omega, .inl rfl⟩
  | d + 1, j, c => by
    obtain ⟨h1, h2, h3⟩ := blkF_le l sc t d (j + 1) (if blks l sc t j then mx c (rd_T31 sc (j : Int)).f1 else c)
    have hm := mx_bd c (rd_T31 sc (j : Int)).f1
    rw [blkF]
    by_cases hu : blks l sc t j
    · rw [if_pos hu] at h1 h2 h3 ⊢
      refine ⟨by omega, fun i g1 g2 g3 => ?_, ?_⟩
      · by_cases e : i = j
        · rw [e]; omega
        · exact h2 i (by omega) (by omega) g3
      · rcases h3 with h3 | ⟨i, g1, g2, g3, g4⟩
        · rcases hm.2.2 with e | e
          · left; omega
          · right; exact ⟨j, Nat.le_refl _, by omega, hu, by omega⟩
        · right; exact ⟨i, by omega, by omega, g3, g4⟩
    · rw [if_neg hu] at h1 h2 h3 ⊢
      refine ⟨h1, fun i g1 g2 g3 => ?_, ?_⟩
      · by_cases e : i = j
        · rw [e] at g3; exact absurd g3 hu
        · exact h2 i (by omega) (by omega) g3
      · rcases h3 with h3 | ⟨i, g1, g2, g3, g4⟩
        · exact .inl h3
        · right; exact ⟨i, by omega, by omega, g3, g4⟩
theorem blkV_spec (l : List Tk) (sc : List Sc) (t : Int) : 0 ≤ blkV l sc t ∧ (∀ i : Nat, i < l.length → blks l sc t i → (rd_T31 sc (i : Int)).f1 ≤ blkV l sc t) ∧ (blkV l sc t = 0 ∨ ∃ i : Nat, i < l.length ∧ blks l sc t i ∧ blkV l sc t = (rd_T31 sc (i : Int)).f1) := by
  obtain ⟨h1, h2, h3⟩ := blkF_le l sc t l.length 0 0
  exact ⟨h1, fun i hi hu => h2 i (Nat.zero_le _) (by omega) hu, h3.imp id (fun ⟨i, _, g2, g3, g4⟩ => ⟨i, by omega, g3, g4⟩)⟩
theorem blkV_le8 {l : List Tk} {sc : List Sc} (h : SecOk l sc) (t : Int) : blkV l sc t ≤ 8 := by
  obtain ⟨_, _, h3⟩ := blkV_spec l sc t
  rcases h3 with h3 | ⟨i, g1, g2, g3⟩
  · omega
  · have hs := h.at_ i (by have := h.len; omega)
    have hr := h.set.rd i g1
    unfold rdT at hr
    unfold sP at hs
    omega
theorem specBlk_ex {l : List Tk} {sc : List Sc} (h : SecOk l sc) (t : Int) : Ex (fun k => spec_l6Block.f k l sc t) (fun x => x = blkV l sc t) := by
  have h5 := h.set.len
  have hlen := h.len
  have loop : ∀ (d j : Nat) (c : Int), j + d = l.length → Ex (fun k => spec_l6Block.l0 k l sc t c (j : Int)) (fun x => x = blkF l sc t d j c) := by
    intro d
    induction d with
    | zero =>
      intro j c hj
      refine Ex.step ?_
      simp only [spec_l6Block.l0]
      exact Ex.neg (by omega) (Ex.val rfl)
    | succ d ih =>
      intro j c hj
      refine Ex.step ?_
      simp only [spec_l6Block.l0]
      rw [swx (by omega), blkF]
      refine Ex.pos (by omega) (Ex.pos (by omega) (Ex.ite (fun h1 => Ex.pos (by omega) (Ex.ite (fun h2 => Ex.bind (specCeil_ex (by omega) hlen _) (fun x hx => ?_)) (fun h2 => ?_))) (fun h1 => ?_)))
      · rw [hx]
        refine Ex.ite (fun h3 => ?_) (fun h3 => ?_)
        · have hu : blks l sc t j := ⟨h1, h2, h3⟩; rw [if_pos hu]; exact ih (j + 1) _ (by omega)
        · have hu : ¬ blks l sc t j := fun g => h3 g.2.2; rw [if_neg hu]; exact ih (j + 1) _ (by omega)
      · have hu : ¬ blks l sc t j := fun g => h2 g.2.1; rw [if_neg hu]; exact ih (j + 1) _ (by omega)
      · have hu : ¬ blks l sc t j := fun g => h1 g.1; rw [if_neg hu]; exact ih (j + 1) _ (by omega)
  exact loop l.length 0 0 (by omega)
theorem implBlk_ex {l : List Tk} {sc : List Sc} (h : SecOk l sc) (t : Int) : Ex (fun k => impl_blocking.f k l sc t) (fun x => x = blkV l sc t) := by
  have h5 := h.set.len
  have hlen := h.len
  have loop : ∀ (d j : Nat) (c : Int), j + d = l.length → Ex (fun k => impl_blocking.l0 k l t [ceilV l sc 0, ceilV l sc 1, ceilV l sc 2] c sc (sc.length : Int) (j : Int)) (fun x => x = blkF l sc t d j c) := by
    intro d
    induction d with
    | zero =>
      intro j c hj
      refine Ex.step ?_
      simp only [impl_blocking.l0]
      exact Ex.neg (by omega) (Ex.val rfl)
    | succ d ih =>
      intro j c hj
      have hs := h.at_ j (by omega)
      unfold sP at hs
      have hc : rd [ceilV l sc 0, ceilV l sc 1, ceilV l sc 2] (rd_T31 sc (j : Int)).f2 = ceilV l sc (rd_T31 sc (j : Int)).f2 := by
        rcases (show (rd_T31 sc (j : Int)).f2 = 0 ∨ (rd_T31 sc (j : Int)).f2 = 1 ∨ (rd_T31 sc (j : Int)).f2 = 2 by omega) with e | e | e <;> rw [e] <;> rfl
      refine Ex.step ?_
      simp only [impl_blocking.l0]
      rw [swx (by omega), blkF, hc]
      refine Ex.pos (by omega) (Ex.pos (by omega) (Ex.pos (by omega) (Ex.ite (fun h2 => Ex.pos (by omega) (Ex.ite (fun h1 => Ex.pos hs.2.2.2.1 (Ex.pos (by simp; omega) (Ex.ite (fun h3 => ?_) (fun h3 => ?_)))) (fun h1 => ?_))) (fun h2 => ?_))))
      · have hu : blks l sc t j := ⟨h1, h2, h3⟩; rw [if_pos hu]; exact ih (j + 1) _ (by omega)
      · have hu : ¬ blks l sc t j := fun g => h3 g.2.2; rw [if_neg hu]; exact ih (j + 1) _ (by omega)
      · have hu : ¬ blks l sc t j := fun g => h1 g.1; rw [if_neg hu]; exact ih (j + 1) _ (by omega)
      · have hu : ¬ blks l sc t j := fun g => h2 g.2.1; rw [if_neg hu]; exact ih (j + 1) _ (by omega)
  unfold impl_blocking.f
  refine Ex.bind (implCeil_ex h) (fun x hx => ?_)
  rw [hx]
  have := loop l.length 0 0 (by omega)
  exact this

end Go.Proofs.Ytabjigpbednfnaa.Pu
