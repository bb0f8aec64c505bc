import Derived.Test.YtnkpbbkfhmlcfaaTabDef
set_option linter.unusedSimpArgs false
set_option linter.unusedVariables false
namespace Go.Proofs.Ytnkpbbkfhmlcfaa.Pu
open Go.RowKit Go.Proofs.Ytnkpbbkfhmlcfaa.Q Go.Proofs.YtnkpbbkfhmlcfaaW.PrintWords Go.Proofs.YtnkpbbkfhmlcfaaW.PrintLast

theorem rd_win (tb : List Int) {r T : Int} (h0 : 0 ≤ r) (hT : 0 ≤ T) (h2 : r + T ≤ tb.length) (k : Nat) (hk : (k : Int) < T) : rd ((tb.take (r + T).toNat).drop r.toNat) (k : Int) = rd tb (r + k) := by
  have hlen : k < ((tb.take (r + T).toNat).drop r.toNat).length := by rw [List.length_drop, List.length_take]; omega
  rw [rd_getT _ k hlen, show r + (k : Int) = ((r.toNat + k : Nat) : Int) from by omega, rd_getT tb (r.toNat + k) (by omega), List.getElem_drop, List.getElem_take]
def inR (tb : List Int) (i r D : Int) : Nat → Int → Int
  | 0, _ => 0
  | d + 1, k => (if rd tb (r + k) = i ∧ k < D then 1 else 0) + inR tb i r D d (k + 1)
def outR (tb : List Int) (i r D : Int) : Nat → Int → Int
  | 0, _ => 0
  | d + 1, k => (if rd tb (r + k) = i ∧ ¬ k < D then 1 else 0) + outR tb i r D d (k + 1)
theorem inR_eq (tb : List Int) (i r : Int) {D T : Int} (hD : D ≤ T) : ∀ (d : Nat) (k : Int), k + d = T → inR tb i r D d k = cntR tb i (D - k).toNat (r + k)
  | 0, k, h => by rw [show (D - k).toNat = 0 from by omega]; rfl
  | d + 1, k, h => by
    simp only [inR]
    rw [inR_eq tb i r hD d (k + 1) (by omega)]
    by_cases hk : k < D
    · rw [show (D - k).toNat = (D - (k + 1)).toNat + 1 from by omega]
      simp only [cntR]
      rw [show r + k + 1 = r + (k + 1) from by omega]
      by_cases e : rd tb (r + k) = i
      · rw [if_pos ⟨e, hk⟩, if_pos e]
      · rw [if_neg (fun h => e h.1), if_neg e]
    · rw [if_neg (fun h => hk h.2), show (D - k).toNat = 0 from by omega, show (D - (k + 1)).toNat = 0 from by omega]; rfl
theorem outR_eq (tb : List Int) (i r : Int) {D T : Int} (hD : D ≤ T) : ∀ (d : Nat) (k : Int), k + d = T → outR tb i r D d k = cntR tb i (T - (if k < D then D else k)).toNat (r + (if k < D then D else k))
  | 0, k, h => by
    rw [show (T - (if k < D then D else k)).toNat = 0 from by split <;> omega]; rfl
  | d + 1, k, h => by
    simp only [outR]
    rw [outR_eq tb i r hD d (k + 1) (by omega)]
    by_cases hk : k < D
    · rw [if_neg (fun h => h.2 hk), if_pos hk, show (if k + 1 < D then D else k + 1) = D from by split <;> omega]; omega
    · rw [if_neg hk, if_neg (show ¬ k + 1 < D by omega), show (T - k).toNat = (T - (k + 1)).toNat + 1 from by omega]
      simp only [cntR]
      rw [show r + k + 1 = r + (k + 1) from by omega]
      by_cases e : rd tb (r + k) = i
      · rw [if_pos ⟨e, hk⟩, if_pos e]
      · rw [if_neg (fun h => e h.1), if_neg e]
theorem implTv_l3 {l : List Tk} (hok : Ok l) (tb : List Int) (hl : tb.length ≤ 1000) (j : Nat) (i D T C : Int) (hDT : 1 ≤ D ∧ D ≤ T ∧ T ≤ 12) {r : Int} (h0 : 0 ≤ r) (h2 : r + T ≤ tb.length) (V : Bool) (rest : Ex (fun k => impl_TableValid.l2 k tb i (r + T) l (l.length : Int) (j : Int) C D T) (fun x => x = V)) :
    ∀ (d k : Nat) (a b : Int), (k : Int) + d = T → 0 ≤ a → a ≤ k → 0 ≤ b → b ≤ k →
    Ex (fun q => impl_TableValid.l3 q tb i r a b l (l.length : Int) (j : Int) ((tb.take (r + T).toNat).drop r.toNat) (((tb.take (r + T).toNat).drop r.toNat).length : Int) (k : Int) C D T) (fun x => x = (decide (a + inR tb i r D d (k : Int) = C) && (decide (b + outR tb i r D d (k : Int) = 0) && V))) := by
  have hwl : ((tb.take (r + T).toNat).drop r.toNat).length = T.toNat := by rw [List.length_drop, List.length_take]; omega
  intro d
  induction d with
  | zero =>
    intro k a b hk a0 a1 b0 b1
    refine Ex.step ?_
    simp only [impl_TableValid.l3]
    rw [w64 (n := r + T) (by omega) (by omega)]
    have e1 : a + inR tb i r D 0 (k : Int) = a := by simp only [inR, Int.add_zero]
    have e2 : b + outR tb i r D 0 (k : Int) = b := by simp only [outR, Int.add_zero]
    rw [e1, e2]
    refine Ex.neg (by omega) (Ex.ite (fun h => Ex.ite (fun h3 => ?_) (fun h3 => Ex.val ?_)) (fun h => Ex.val ?_))
    · rw [decide_eq_true h, decide_eq_true h3]; exact rest
    · rw [decide_eq_false h3]; simp
    · rw [decide_eq_false h]; rfl
  | succ d ih =>
    intro k a b hk a0 a1 b0 b1
    have hrd := rd_win tb h0 (show 0 ≤ T by omega) h2 k (by omega)
    refine Ex.step ?_
    simp only [impl_TableValid.l3]
    rw [hrd]
    have ih' := fun a' b' c1 c2 c3 c4 => ih (k + 1) a' b' (by omega) c1 c2 c3 c4
    have ek : ((k + 1 : Nat) : Int) = (k : Int) + 1 := by omega
    rw [ek] at ih'
    refine Ex.pos (by omega) (Ex.pos (by omega) (Ex.pos (by omega) (Ex.ite (fun h => ?_) (fun h => ?_))))
    · refine Ex.step ?_
      simp only [impl_TableValid.j5]
      rw [w64 (n := (k : Int) + 1) (by omega) (by omega), w64 (n := a + 1) (by omega) (by omega), w64 (n := b + 1) (by omega) (by omega)]
      by_cases hd : (k : Int) < D
      · have ei : inR tb i r D (d + 1) (k : Int) = 1 + inR tb i r D d ((k : Int) + 1) := by simp only [inR]; rw [if_pos ⟨h, hd⟩]
        have eo : outR tb i r D (d + 1) (k : Int) = outR tb i r D d ((k : Int) + 1) := by simp only [outR]; rw [if_neg (fun h' => h'.2 hd), Int.zero_add]
        rw [decide_eq_true hd]
        refine Ex.pos rfl (Ex.mono (ih' (a + 1) b (by omega) (by omega) b0 (by omega)) (fun x hx => ?_))
        rw [hx, ei, eo, Int.add_assoc a 1]
      · have ei : inR tb i r D (d + 1) (k : Int) = inR tb i r D d ((k : Int) + 1) := by simp only [inR]; rw [if_neg (fun h' => hd h'.2), Int.zero_add]
        have eo : outR tb i r D (d + 1) (k : Int) = 1 + outR tb i r D d ((k : Int) + 1) := by simp only [outR]; rw [if_pos ⟨h, hd⟩]
        rw [decide_eq_false hd]
        refine Ex.neg (by simp) (Ex.pos h (Ex.mono (ih' a (b + 1) a0 (by omega) (by omega) (by omega)) (fun x hx => ?_)))
        rw [hx, ei, eo, Int.add_assoc b 1]
    · have ei : inR tb i r D (d + 1) (k : Int) = inR tb i r D d ((k : Int) + 1) := by simp only [inR]; rw [if_neg (fun h' => h h'.1), Int.zero_add]
      have eo : outR tb i r D (d + 1) (k : Int) = outR tb i r D d ((k : Int) + 1) := by simp only [outR]; rw [if_neg (fun h' => h h'.1), Int.zero_add]
      refine Ex.step ?_
      simp only [impl_TableValid.j5]
      rw [w64 (n := (k : Int) + 1) (by omega) (by omega)]
      refine Ex.neg (by simp) (Ex.neg h (Ex.mono (ih' a b a0 (by omega) b0 (by omega)) (fun x hx => ?_)))
      rw [hx, ei, eo]
theorem implTv_l2 {l : List Tk} (hok : Ok l) (tb : List Int) (hl : tb.length ≤ 1000) {j : Nat} (hj : j < l.length) (i D T C : Int) (hDT : 1 ≤ D ∧ D ≤ T ∧ T ≤ 12) (V : Bool) (rest : Ex (fun k => impl_TableValid.l1 k tb l (l.length : Int) ((j + 1 : Nat) : Int)) (fun x => x = V)) :
    ∀ (n : Nat) (r : Int), r + (n : Int) * T = tb.length → 0 ≤ r → Ex (fun k => impl_TableValid.l2 k tb i r l (l.length : Int) (j : Int) C D T) (fun x => x = (perOk tb i D T C n r && V)) := by
  have hlen := hok.len
  intro n
  induction n with
  | zero =>
    intro r hr h0
    refine Ex.step ?_
    simp only [impl_TableValid.l2]
    rw [w64 (n := (j : Int) + 1) (by omega) (by omega)]
    refine Ex.neg (by simp at hr; omega) ?_
    simp only [perOk, Bool.true_and]
    exact rest
  | succ n ih =>
    intro r hr h0
    have e : ((n + 1 : Nat) : Int) * T = (n : Int) * T + T := by rw [Int.natCast_add, Int.add_mul]; omega
    have p : 0 ≤ (n : Int) * T := Int.mul_nonneg (by omega) (by omega)
    rw [e] at hr
    refine Ex.step ?_
    simp only [impl_TableValid.l2]
    rw [w64 (n := r + T) (by omega) (by omega)]
    refine Ex.pos (by omega) (Ex.pos (by omega) (Ex.pos (by omega) (Ex.pos (by omega) ?_)))
    refine Ex.mono (implTv_l3 hok tb hl j i D T C hDT h0 (by omega) _ (ih (r + T) (by omega) (by omega)) T.toNat 0 0 0 (by omega) (by omega) (by omega) (by omega) (by omega)) (fun x hx => ?_)
    rw [hx]
    simp only [perOk, wOk]
    rw [inR_eq tb i r hDT.2.1 T.toNat _ (by omega), outR_eq tb i r hDT.2.1 T.toNat _ (by omega), if_pos (show ((0 : Nat) : Int) < D by omega), Int.zero_add, Int.zero_add, show D - ((0 : Nat) : Int) = D from by omega, show r + ((0 : Nat) : Int) = r from by omega, Bool.and_assoc, Bool.and_assoc]
theorem implTv_l1 {l : List Tk} (hok : Ok l) (tb : List Int) (hl : tb.length ≤ 1000) (hh : (tb.length : Int) = hyp l) : ∀ (d j : Nat), j + d = l.length → Ex (fun k => impl_TableValid.l1 k tb l (l.length : Int) (j : Int)) (fun x => x = tsOk tb (l.drop j) (j : Int)) := by
  have hlen := hok.len
  intro d
  induction d with
  | zero =>
    intro j hj
    refine Ex.step ?_
    simp only [impl_TableValid.l1]
    refine Ex.neg (by omega) (Ex.val ?_)
    rw [List.drop_of_length_le (by omega)]; rfl
  | succ d ih =>
    intro j hj
    have hx := ok_rdT hok (show j < l.length by omega)
    unfold TkOk at hx
    refine Ex.step ?_
    simp only [impl_TableValid.l1]
    refine Ex.pos (by omega) (Ex.pos (by omega) (Ex.pos (by omega) ?_))
    rw [tsOk_drop tb l j (by omega)]
    exact implTv_l2 hok tb hl (by omega) _ _ _ _ (by omega) _ (ih (j + 1) (by omega)) _ 0 (by rw [Int.zero_add, periods hok (by omega) hh]) (by omega)
theorem implTv_l0 {l : List Tk} (hok : Ok l) (tb : List Int) (hl : tb.length ≤ 1000) (hh : (tb.length : Int) = hyp l) : ∀ (d j : Nat), j + d = tb.length → Ex (fun k => impl_TableValid.l0 k l tb tb (tb.length : Int) (j : Int)) (fun x => x = ((tb.drop j).all (entOk (l.length : Int)) && tsOk tb l 0)) := by
  have hlen := hok.len
  intro d
  induction d with
  | zero =>
    intro j hj
    refine Ex.step ?_
    simp only [impl_TableValid.l0]
    refine Ex.neg (by omega) ?_
    rw [List.drop_of_length_le (by omega)]
    exact Ex.mono (implTv_l1 hok tb hl hh l.length 0 (by omega)) (fun x hx => by rw [hx]; rfl)
  | succ d ih =>
    intro j hj
    refine Ex.step ?_
    simp only [impl_TableValid.l0]
    rw [w64 (n := (l.length : Int) - 1) (by omega) (by omega), w64 (n := (j : Int) + 1) (by omega) (by omega), in_eq]
    simp only [Option.bind_some]
    refine Ex.pos (by omega) (Ex.pos (by omega) (Ex.pos (by omega) ?_))
    rw [all_dropT _ tb j (by omega), ← rd_getT tb j (by omega)]
    refine Ex.ite (fun h => ?_) (fun h => Ex.val ?_)
    · rw [show entOk (l.length : Int) (rd tb (j : Int)) = true from h, Bool.true_and]; exact ih (j + 1) (by omega)
    · rw [show entOk (l.length : Int) (rd tb (j : Int)) = false from by unfold entOk; simpa using h]; rfl
theorem implTv_ex (l : List Tk) (tb : List Int) : Ex (fun k => impl_TableValid.f k l tb) (fun x => x = tvO l tb) := by
  unfold impl_TableValid.f
  have no : tvO l tb = false → Ex (fun k => impl_TableValid.j0 k l tb true) (fun x => x = tvO l tb) := fun e => by
    refine Ex.step ?_
    simp only [impl_TableValid.j0]
    exact Ex.pos trivial (Ex.val e.symm)
  simp only [implSet_eq, Option.bind_some]
  refine Ex.ite (fun h => ?_) (fun h => no ?_)
  · have hok := (setOk_iff l).mp h
    refine Ex.bind (P := fun x => x = hyp l) (Ex.at_ 20 (fun k hk => implHyper_eq l hok k hk) rfl) ?_
    intro y hy
    rw [hy]
    refine Ex.ite (fun h2 => ?_) (fun h2 => no ?_)
    · by_cases h3 : (tb.length : Int) > 720
      · rw [decide_eq_true h3]
        refine no ?_
        unfold tvO; rw [decide_eq_false (fun h' => by omega)]; simp
      · rw [decide_eq_false h3]
        refine Ex.step ?_
        simp only [impl_TableValid.j0]
        refine Ex.neg (by simp) (Ex.mono (implTv_l0 hok tb (by omega) h2 tb.length 0 (by omega)) (fun r hr => ?_))
        rw [hr, List.drop_zero]
        unfold tvO; rw [h, decide_eq_true ⟨h2, by omega⟩]; rfl
    · unfold tvO; rw [decide_eq_false (fun h' => h2 h'.1)]; simp
  · unfold tvO; rw [show setOk l = false from by simpa using h]; rfl

end Go.Proofs.Ytnkpbbkfhmlcfaa.Pu
