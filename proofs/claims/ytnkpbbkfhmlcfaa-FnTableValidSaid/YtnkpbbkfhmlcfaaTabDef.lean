import Derived.Test.YtnkpbbkfhmlcfaaPO
import Derived.Test.YtnkpbbkfhmlcfaaPB
import Derived.Test.YtnkpbbkfhmlcfaaFimplXTableValid
import Derived.Test.YtnkpbbkfhmlcfaaFspecXTableValid
set_option linter.unusedSimpArgs false
set_option linter.unusedVariables false
namespace Go.Proofs.Ytnkpbbkfhmlcfaa.Pu
open Go.RowKit Go.Proofs.Ytnkpbbkfhmlcfaa.Q Go.Proofs.YtnkpbbkfhmlcfaaW.PrintWords Go.Proofs.YtnkpbbkfhmlcfaaW.PrintLast

theorem rd_getT (l : List Int) (j : Nat) (h : j < l.length) : rd l (j : Int) = l[j] := by
  unfold rd
  rw [Int.toNat_natCast, List.getD_eq_getElem?_getD, List.getElem?_eq_getElem h, Option.getD_some]
theorem specSet_exT (l : List Tk) (hl : l.length ≤ 1000000) : Ex (fun k => spec_SetValid.f k l) (fun x => x = setOk l) := Ex.at_ (l.length + 1) (fun k hk => specSet_eq l hl k (by omega)) rfl
/-- The entries of task i at the n times from t on. -/
def cntR (tb : List Int) (i : Int) : Nat → Int → Int
  | 0, _ => 0
  | n + 1, t => (if rd tb t = i then 1 else 0) + cntR tb i n (t + 1)
theorem cntR_bd (tb : List Int) (i : Int) : ∀ (n : Nat) (t : Int), 0 ≤ cntR tb i n t ∧ cntR tb i n t ≤ n
  | 0, t => by simp [cntR]
  | n + 1, t => by
    have := cntR_bd tb i n (t + 1)
    simp only [cntR]
    split <;> omega
theorem cntR_add (tb : List Int) (i : Int) : ∀ (m n : Nat) (t : Int), cntR tb i (m + n) t = cntR tb i m t + cntR tb i n (t + m)
  | 0, n, t => by simp [cntR]
  | m + 1, n, t => by
    rw [show m + 1 + n = (m + n) + 1 from by omega]
    simp only [cntR]
    rw [cntR_add tb i m n (t + 1), show t + 1 + (m : Int) = t + ((m + 1 : Nat) : Int) from by omega]; omega
def wOk (tb : List Int) (i r D T C : Int) : Bool := decide (cntR tb i D.toNat r = C) && decide (cntR tb i (T - D).toNat (r + D) = 0)
def perOk (tb : List Int) (i D T C : Int) : Nat → Int → Bool
  | 0, _ => true
  | n + 1, r => wOk tb i r D T C && perOk tb i D T C n (r + T)
def tsOk (tb : List Int) : List Tk → Int → Bool
  | [], _ => true
  | t :: l, i => perOk tb i t.f1 t.f2 t.f0 ((tb.length : Int) / t.f2).toNat 0 && tsOk tb l (i + 1)
def entOk (n : Int) (x : Int) : Bool := decide (-1 ≤ x ∧ x ≤ n - 1)
def tvO (l : List Tk) (tb : List Int) : Bool := setOk l && (decide ((tb.length : Int) = hyp l ∧ (tb.length : Int) ≤ 720) && (tb.all (entOk (l.length : Int)) && tsOk tb l 0))
theorem tsOk_drop (tb : List Int) (l : List Tk) (j : Nat) (h : j < l.length) : tsOk tb (l.drop j) (j : Int) = (perOk tb (j : Int) (rd_T42 l (j : Int)).f1 (rd_T42 l (j : Int)).f2 (rd_T42 l (j : Int)).f0 ((tb.length : Int) / (rd_T42 l (j : Int)).f2).toNat 0 && tsOk tb (l.drop (j + 1)) ((j + 1 : Nat) : Int)) := by
  rw [List.drop_eq_getElem_cons h, show rd_T42 l (j : Int) = l[j] from rdT_get l j h]; rfl
theorem all_dropT {α : Type} (p : α → Bool) (l : List α) (j : Nat) (h : j < l.length) : (l.drop j).all p = (p l[j] && (l.drop (j + 1)).all p) := by
  rw [List.drop_eq_getElem_cons h, List.all_cons]
theorem ok_rdT {l : List Tk} (h : Ok l) {j : Nat} (hj : j < l.length) : TkOk (rd_T42 l (j : Int)) := h.rd j hj
/-- The hyperperiod is a whole number of periods. -/
theorem periods {l : List Tk} (hok : Ok l) {j : Nat} (hj : j < l.length) {H : Int} (hH : H = hyp l) : (((H / (rd_T42 l (j : Int)).f2).toNat : Nat) : Int) * (rd_T42 l (j : Int)).f2 = H := by
  have hx := ok_rdT hok hj
  have hh := hyp_bd hok
  unfold TkOk at hx
  have hd := hyp_dvd_mem hok (rd_T42 l (j : Int)) (rdT_mem l j hj)
  have h0 : 0 ≤ H / (rd_T42 l (j : Int)).f2 := Int.ediv_nonneg (by omega) (by omega)
  rw [Int.toNat_of_nonneg h0, hH]
  exact Int.ediv_mul_cancel hd

/-! the reference -/
theorem specCnt_loop (tb : List Int) (hl : tb.length ≤ 1000) (i b : Int) (hb : b ≤ tb.length) : ∀ (d : Nat) (t n : Int), t + d = b → 0 ≤ t → 0 ≤ n → n ≤ t → Ex (fun k => spec_l13Count.l0 k tb i b n t) (fun x => x = n + cntR tb i d t) := by
  intro d
  induction d with
  | zero =>
    intro t n ht h0 n0 n1
    refine Ex.step ?_
    simp only [spec_l13Count.l0]
    exact Ex.neg (by omega) (Ex.val (by simp [cntR]))
  | succ d ih =>
    intro t n ht h0 n0 n1
    refine Ex.step ?_
    simp only [spec_l13Count.l0]
    rw [w64 (n := t + 1) (by omega) (by omega), w64 (n := n + 1) (by omega) (by omega)]
    simp only [cntR]
    refine Ex.pos (by omega) (Ex.pos (by omega) (Ex.pos (by omega) (Ex.ite (fun h => ?_) (fun h => ?_))))
    · rw [if_pos h]
      exact Ex.mono (ih (t + 1) (n + 1) (by omega) (by omega) (by omega) (by omega)) (fun x hx => by omega)
    · rw [if_neg h]
      exact Ex.mono (ih (t + 1) n (by omega) (by omega) (by omega) (by omega)) (fun x hx => by omega)
theorem specCnt_ex (tb : List Int) (hl : tb.length ≤ 1000) (i : Int) {a b : Int} (h0 : 0 ≤ a) (h1 : a ≤ b) (h2 : b ≤ tb.length) : Ex (fun k => spec_l13Count.f k tb i a b) (fun x => x = cntR tb i (b - a).toNat a) := by
  unfold spec_l13Count.f
  exact Ex.mono (specCnt_loop tb hl i b h2 (b - a).toNat a 0 (by omega) h0 (by omega) h0) (fun x hx => by omega)
theorem specTv_l2 {l : List Tk} (hok : Ok l) (tb : List Int) (hl : tb.length ≤ 1000) {j : Nat} (hj : j < l.length) (V : Bool) (rest : Ex (fun k => spec_TableValid.l1 k l tb ((j + 1 : Nat) : Int)) (fun x => x = V)) :
    ∀ (n : Nat) (r : Int), r + (n : Int) * (rd_T42 l (j : Int)).f2 = tb.length → 0 ≤ r → Ex (fun k => spec_TableValid.l2 k l tb (j : Int) r) (fun x => x = (perOk tb (j : Int) (rd_T42 l (j : Int)).f1 (rd_T42 l (j : Int)).f2 (rd_T42 l (j : Int)).f0 n r && V)) := by
  have hx := ok_rdT hok hj
  have hlen := hok.len
  unfold TkOk at hx
  intro n
  induction n with
  | zero =>
    intro r hr h0
    refine Ex.step ?_
    simp only [spec_TableValid.l2]
    rw [w64 (n := (j : Int) + 1) (by omega) (by omega)]
    refine Ex.neg (by simp at hr; omega) ?_
    simp only [perOk, Bool.true_and]
    exact rest
  | succ n ih =>
    intro r hr h0
    have e : ((n + 1 : Nat) : Int) * (rd_T42 l (j : Int)).f2 = (n : Int) * (rd_T42 l (j : Int)).f2 + (rd_T42 l (j : Int)).f2 := by rw [Int.natCast_add, Int.add_mul]; omega
    have p : 0 ≤ (n : Int) * (rd_T42 l (j : Int)).f2 := Int.mul_nonneg (by omega) (by omega)
    rw [e] at hr
    refine Ex.step ?_
    simp only [spec_TableValid.l2]
    rw [w64 (n := r + (rd_T42 l (j : Int)).f1) (by omega) (by omega), w64 (n := r + (rd_T42 l (j : Int)).f2) (by omega) (by omega)]
    simp only [perOk, wOk]
    refine Ex.pos (by omega) (Ex.pos (by omega) (Ex.pos (by omega) (Ex.bind (specCnt_ex tb hl (j : Int) h0 (show r ≤ r + (rd_T42 l (j : Int)).f1 by omega) (by omega)) ?_)))
    intro x hx1
    rw [hx1, show r + (rd_T42 l (j : Int)).f1 - r = (rd_T42 l (j : Int)).f1 from by omega]
    refine Ex.ite (fun h => ?_) (fun h => Ex.val ?_)
    · refine Ex.bind (specCnt_ex tb hl (j : Int) (show 0 ≤ r + (rd_T42 l (j : Int)).f1 by omega) (show r + (rd_T42 l (j : Int)).f1 ≤ r + (rd_T42 l (j : Int)).f2 by omega) (by omega)) ?_
      intro y hy
      rw [hy, show r + (rd_T42 l (j : Int)).f2 - (r + (rd_T42 l (j : Int)).f1) = (rd_T42 l (j : Int)).f2 - (rd_T42 l (j : Int)).f1 from by omega, decide_eq_true h, Bool.true_and]
      refine Ex.ite (fun h2 => ?_) (fun h2 => Ex.val ?_)
      · rw [decide_eq_true h2, Bool.true_and]
        exact ih _ (by omega) (by omega)
      · rw [decide_eq_false h2]; rfl
    · rw [decide_eq_false h]; rfl
theorem specTv_l1 {l : List Tk} (hok : Ok l) (tb : List Int) (hl : tb.length ≤ 1000) (hh : (tb.length : Int) = hyp l) : ∀ (d j : Nat), j + d = l.length → Ex (fun k => spec_TableValid.l1 k l tb (j : Int)) (fun x => x = tsOk tb (l.drop j) (j : Int)) := by
  have hlen := hok.len
  intro d
  induction d with
  | zero =>
    intro j hj
    refine Ex.step ?_
    simp only [spec_TableValid.l1]
    refine Ex.neg (by omega) (Ex.val ?_)
    rw [List.drop_of_length_le (by omega)]; rfl
  | succ d ih =>
    intro j hj
    refine Ex.step ?_
    simp only [spec_TableValid.l1]
    refine Ex.pos (by omega) ?_
    rw [tsOk_drop tb l j (by omega)]
    exact specTv_l2 hok tb hl (by omega) _ (ih (j + 1) (by omega)) _ 0 (by rw [Int.zero_add, periods hok (by omega) hh]) (by omega)
theorem specTv_l0 {l : List Tk} (hok : Ok l) (tb : List Int) (hl : tb.length ≤ 1000) (hh : (tb.length : Int) = hyp l) : ∀ (d j : Nat), j + d = tb.length → Ex (fun k => spec_TableValid.l0 k l tb (j : Int)) (fun x => x = ((tb.drop j).all (entOk (l.length : Int)) && tsOk tb l 0)) := by
  have hlen := hok.len
  intro d
  induction d with
  | zero =>
    intro j hj
    refine Ex.step ?_
    simp only [spec_TableValid.l0]
    refine Ex.neg (by omega) ?_
    rw [List.drop_of_length_le (by omega)]
    exact Ex.mono (specTv_l1 hok tb hl hh l.length 0 (by omega)) (fun x hx => by rw [hx]; rfl)
  | succ d ih =>
    intro j hj
    refine Ex.step ?_
    simp only [spec_TableValid.l0]
    rw [w64 (n := (l.length : Int) - 1) (by omega) (by omega), w64 (n := (j : Int) + 1) (by omega) (by omega), l1In_eq]
    simp only [Option.bind_some]
    refine Ex.pos (by omega) (Ex.pos (by omega) ?_)
    rw [all_dropT _ tb j (by omega), ← rd_getT tb j (by omega)]
    refine Ex.ite (fun h => ?_) (fun h => Ex.val ?_)
    · rw [show entOk (l.length : Int) (rd tb (j : Int)) = true from h, Bool.true_and]; exact ih (j + 1) (by omega)
    · rw [show entOk (l.length : Int) (rd tb (j : Int)) = false from by unfold entOk; simpa using h]; rfl
theorem specTv_ex (l : List Tk) (hl : l.length ≤ 1000) (tb : List Int) : Ex (fun k => spec_TableValid.f k l tb) (fun x => x = tvO l tb) := by
  unfold spec_TableValid.f
  have no : tvO l tb = false → Ex (fun k => spec_TableValid.j0 k l tb true) (fun x => x = tvO l tb) := fun e => by
    refine Ex.step ?_
    simp only [spec_TableValid.j0]
    exact Ex.pos trivial (Ex.val e.symm)
  refine Ex.bind (specSet_exT l (by omega)) ?_
  intro x hx
  rw [hx]
  refine Ex.ite (fun h => ?_) (fun h => no ?_)
  · have hok := (setOk_iff l).mp h
    refine Ex.bind (P := fun x => x = hyp l) (Ex.at_ 20 (fun k hk => specHyper_eq l hok k hk) rfl) ?_
    intro y hy
    rw [hy]
    refine Ex.ite (fun h2 => ?_) (fun h2 => no ?_)
    · by_cases h3 : (tb.length : Int) > 720
      · rw [decide_eq_true h3]
        refine no ?_
        unfold tvO; rw [decide_eq_false (fun h' => by omega)]; simp
      · rw [decide_eq_false h3]
        refine Ex.step ?_
        simp only [spec_TableValid.j0]
        refine Ex.neg (by simp) (Ex.mono (specTv_l0 hok tb (by omega) h2 tb.length 0 (by omega)) (fun r hr => ?_))
        rw [hr, List.drop_zero]
        unfold tvO; rw [h, decide_eq_true ⟨h2, by omega⟩]; rfl
    · unfold tvO; rw [decide_eq_false (fun h' => h2 h'.1)]; simp
  · unfold tvO; rw [show setOk l = false from by simpa using h]; rfl

end Go.Proofs.Ytnkpbbkfhmlcfaa.Pu
