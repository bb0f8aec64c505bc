import Derived.Test.YtabjigpbednfnaaSec
import Derived.Test.YtabjigpbednfnaaFimplXceilings
import Derived.Test.YtabjigpbednfnaaFspecXl6Ceiling
set_option linter.unusedSimpArgs false
set_option linter.unusedVariables false
namespace Go.Proofs.Ytabjigpbednfnaa.Pu
open Go.RowKit Go.Proofs.Ytabjigpbednfnaa.Q Go.Proofs.YtabjigpbednfnaaW.PrintWords Go.Proofs.YtabjigpbednfnaaW.PrintLast

/-- Task j uses the resource r. -/
def uses (sc : List Sc) (r : Int) (j : Nat) : Prop := (rd_T31 sc (j : Int)).f1 > 0 ∧ (rd_T31 sc (j : Int)).f2 = r
instance (sc : List Sc) (r : Int) (j : Nat) : Decidable (uses sc r j) := by unfold uses; infer_instance
def ceilF (l : List Tk) (sc : List Sc) (r : Int) : Nat → Nat → Int → Int
  | 0, _, c => c
  | d + 1, j, c => ceilF l sc r d (j + 1) (if uses sc r j then mn c (rd_T33 l (j : Int)).f1 else c)
/-- The ceiling of a resource. -/
def ceilV (l : List Tk) (sc : List Sc) (r : Int) : Int := ceilF l sc r l.length 0 13
theorem ceilF_le (l : List Tk) (sc : List Sc) (r : Int) : ∀ (d j : Nat) (c : Int), ceilF l sc r d j c ≤ c ∧ (∀ i : Nat, j ≤ i → i < j + d → uses sc r i → ceilF l sc r d j c ≤ (rd_T33 l (i : Int)).f1) ∧ (ceilF l sc r d j c = c ∨ ∃ i : Nat, j ≤ i ∧ i < j + d ∧ uses sc r i ∧ ceilF l sc r d j c = (rd_T33 l (i : Int)).f1)
  | 0, j, c => ⟨Int.le_refl _, fun i h1 h2 => by omega, .inl rfl⟩
  | d + 1, j, c => by
    obtain ⟨h1, h2, h3⟩ := ceilF_le l sc r d (j + 1) (if uses sc r j then mn c (rd_T33 l (j : Int)).f1 else c)
    have hm := mn_bd c (rd_T33 l (j : Int)).f1
    rw [ceilF]
    by_cases hu : uses sc r j
    · rw [if_pos hu] at h1 h2 h3 ⊢
      refine ⟨by omega, fun i g1 g2 g3 => ?_, ?_⟩
      · by_cases e : i = j
        · rw [e]; omega
        · exact h2 i (by omega) (by omega) g3
      · rcases h3 with h3 | ⟨i, g1, g2, g3, g4⟩
        · rcases hm.2.2 with e | e
          · left; omega
          · right; exact ⟨j, Nat.le_refl _, by omega, hu, by omega⟩
        · right; exact ⟨i, by omega, by omega, g3, g4⟩
    · rw [if_neg hu] at h1 h2 h3 ⊢
      refine ⟨h1, fun i g1 g2 g3 => ?_, ?_⟩
      · by_cases e : i = j
        · rw [e] at g3; exact absurd g3 hu
        · exact h2 i (by omega) (by omega) g3
      · rcases h3 with h3 | ⟨i, g1, g2, g3, g4⟩
        · exact .inl h3
        · right; exact ⟨i, by omega, by omega, g3, g4⟩
theorem ceilV_spec (l : List Tk) (sc : List Sc) (r : Int) : ceilV l sc r ≤ 13 ∧ (∀ i : Nat, i < l.length → uses sc r i → ceilV l sc r ≤ (rd_T33 l (i : Int)).f1) ∧ (ceilV l sc r = 13 ∨ ∃ i : Nat, i < l.length ∧ uses sc r i ∧ ceilV l sc r = (rd_T33 l (i : Int)).f1) := by
  obtain ⟨h1, h2, h3⟩ := ceilF_le l sc r l.length 0 13
  exact ⟨h1, fun i hi hu => h2 i (Nat.zero_le _) (by omega) hu, h3.imp id (fun ⟨i, _, g2, g3, g4⟩ => ⟨i, by omega, g3, g4⟩)⟩
theorem specCeil_ex {l : List Tk} (hl : l.length ≤ 1000) {sc : List Sc} (hs : sc.length = l.length) (r : Int) : Ex (fun k => spec_l6Ceiling.f k l sc r) (fun x => x = ceilV l sc r) := by
  have loop : ∀ (d j : Nat) (c : Int), j + d = l.length → Ex (fun k => spec_l6Ceiling.l0 k l sc r c (j : Int)) (fun x => x = ceilF l sc r d j c) := by
    intro d
    induction d with
    | zero =>
      intro j c hj
      refine Ex.step ?_
      simp only [spec_l6Ceiling.l0]
      exact Ex.neg (by omega) (Ex.val rfl)
    | succ d ih =>
      intro j c hj
      refine Ex.step ?_
      simp only [spec_l6Ceiling.l0]
      rw [swx (by omega), ceilF]
      refine Ex.pos (by omega) (Ex.pos (by omega) (Ex.pos (by omega) (Ex.ite (fun h1 => Ex.ite (fun h2 => ?_) (fun h2 => ?_)) (fun h1 => ?_))))
      · have hu : uses sc r j := ⟨h1, h2⟩; rw [if_pos hu]; exact ih (j + 1) _ (by omega)
      · have hu : ¬ uses sc r j := fun h => h2 h.2; rw [if_neg hu]; exact ih (j + 1) _ (by omega)
      · have hu : ¬ uses sc r j := fun h => h1 h.1; rw [if_neg hu]; exact ih (j + 1) _ (by omega)
  exact loop l.length 0 13 (by omega)
theorem implCeil_ex {l : List Tk} {sc : List Sc} (h : SecOk l sc) : Ex (fun k => impl_ceilings.f k l sc) (fun x => x = [ceilV l sc 0, ceilV l sc 1, ceilV l sc 2]) := by
  have h5 := h.set.len
  have hlen := h.len
  have loop : ∀ (d j : Nat) (a b c : Int), j + d = sc.length → Ex (fun k => impl_ceilings.l1 k l [a, b, c] sc (sc.length : Int) (j : Int)) (fun x => x = [ceilF l sc 0 d j a, ceilF l sc 1 d j b, ceilF l sc 2 d j c]) := by
    intro d
    induction d with
    | zero =>
      intro j a b c hj
      refine Ex.step ?_
      simp only [impl_ceilings.l1]
      exact Ex.neg (by omega) (Ex.val rfl)
    | succ d ih =>
      intro j a b c hj
      have hs := h.at_ j (by omega)
      unfold sP at hs
      refine Ex.step ?_
      simp only [impl_ceilings.l1]
      rw [swx (by omega), ceilF, ceilF, ceilF]
      refine Ex.pos (by omega) (Ex.pos (by omega) (Ex.pos (by omega) (Ex.ite (fun h1 => Ex.pos hs.2.2.2.1 (Ex.pos (by simp; omega) (Ex.pos (by omega) ?_))) (fun h1 => ?_))))
      · have u : ∀ r : Int, uses sc r j ↔ (rd_T31 sc (j : Int)).f2 = r := fun r => ⟨fun h => h.2, fun h => ⟨h1, h⟩⟩
        rcases (show (rd_T31 sc (j : Int)).f2 = 0 ∨ (rd_T31 sc (j : Int)).f2 = 1 ∨ (rd_T31 sc (j : Int)).f2 = 2 by omega) with e | e | e
        · rw [if_pos ((u 0).mpr e), if_neg (fun h => by have := (u 1).mp h; omega), if_neg (fun h => by have := (u 2).mp h; omega), e]
          exact ih (j + 1) _ _ _ (by omega)
        · rw [if_neg (fun h => by have := (u 0).mp h; omega), if_pos ((u 1).mpr e), if_neg (fun h => by have := (u 2).mp h; omega), e]
          exact ih (j + 1) _ _ _ (by omega)
        · rw [if_neg (fun h => by have := (u 0).mp h; omega), if_neg (fun h => by have := (u 1).mp h; omega), if_pos ((u 2).mpr e), e]
          exact ih (j + 1) _ _ _ (by omega)
      · have hu : ∀ r, ¬ uses sc r j := fun r h => h1 h.1
        rw [if_neg (hu 0), if_neg (hu 1), if_neg (hu 2)]
        exact ih (j + 1) _ _ _ (by omega)
  unfold impl_ceilings.f
  have e3 : (List.replicate 3 0 : List Int) = [0, 0, 0] := rfl
  rw [e3]
  simp only [Option.bind_some]
  have w1 : wrap64 (0 + 1) = 1 := w64 (by omega) (by omega)
  have w2 : wrap64 (1 + 1) = 2 := w64 (by omega) (by omega)
  have w3 : wrap64 (2 + 1) = 3 := w64 (by omega) (by omega)
  refine Ex.pos (by omega) (Ex.step ?_)
  simp only [impl_ceilings.l0]
  rw [w1]
  refine Ex.pos (by decide) (Ex.pos (by decide) (Ex.pos (by decide) (Ex.step ?_)))
  simp only [impl_ceilings.l0]
  rw [w2]
  refine Ex.pos (by decide) (Ex.pos (by decide) (Ex.pos (by decide) (Ex.step ?_)))
  simp only [impl_ceilings.l0]
  rw [w3]
  refine Ex.pos (by decide) (Ex.pos (by decide) (Ex.pos (by decide) (Ex.step ?_)))
  simp only [impl_ceilings.l0]
  refine Ex.neg (by decide) ?_
  have := loop sc.length 0 13 13 13 (by omega)
  rw [hlen] at this
  unfold ceilV
  rw [hlen]
  exact this

end Go.Proofs.Ytabjigpbednfnaa.Pu
