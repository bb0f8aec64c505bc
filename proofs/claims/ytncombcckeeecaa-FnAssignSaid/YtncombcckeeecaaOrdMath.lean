import Derived.Test.YtncombcckeeecaaPB
set_option linter.unusedSimpArgs false
set_option linter.unusedVariables false
namespace Go.Proofs.Ytncombcckeeecaa.Pu
open Go.RowKit Go.Proofs.Ytncombcckeeecaa.Q Go.Proofs.YtncombcckeeecaaW.PrintWords Go.Proofs.YtncombcckeeecaaW.PrintLast

theorem perm_of_sub : ∀ (a b : List Int), a.Nodup → (∀ x ∈ a, x ∈ b) → b.length ≤ a.length → a.Perm b
  | [], b, _, _, h => by
    cases b with
    | nil => exact List.Perm.refl _
    | cons x b => simp at h
  | x :: a, b, hn, hs, h => by
    have hx : x ∈ b := hs x (List.mem_cons_self ..)
    have p := List.perm_cons_erase hx
    have hn' := List.nodup_cons.mp hn
    have hl : (b.erase x).length ≤ a.length := by
      have h0 := List.length_erase_of_mem hx
      simp only [List.length_cons] at h
      omega
    have ih := perm_of_sub a (b.erase x) hn'.2 (fun y hy => by
      have : y ≠ x := fun e => hn'.1 (e ▸ hy)
      exact (List.mem_erase_of_ne this).mpr (hs y (List.mem_cons_of_mem _ hy))) hl
    exact (ih.cons x).trans p.symm
def upto (n : Nat) : List Int := (List.range n).map (fun (i : Nat) => (i : Int))
theorem mem_upto {n : Nat} {x : Int} : x ∈ upto n ↔ 0 ≤ x ∧ x < n := by
  unfold upto
  rw [List.mem_map]
  constructor
  · rintro ⟨i, hi, rfl⟩
    rw [List.mem_range] at hi; omega
  · rintro ⟨h0, h1⟩
    refine ⟨x.toNat, List.mem_range.mpr (by omega), ?_⟩
    show ((x.toNat : Nat) : Int) = x
    omega
theorem len_upto (n : Nat) : (upto n).length = n := by unfold upto; rw [List.length_map, List.length_range]
/-- What a valid order is. -/
structure OrdP (l : List Tk) (o : List Int) : Prop where
  ok : Ok l
  len : o.length = l.length
  rng : ∀ x ∈ o, 0 ≤ x ∧ x < l.length
  nd : o.Nodup
theorem OrdP.perm {l : List Tk} {o : List Int} (h : OrdP l o) : o.Perm (upto l.length) :=
  perm_of_sub _ _ h.nd (fun x hx => mem_upto.mpr (h.rng x hx)) (by rw [len_upto, h.len]; exact Nat.le_refl _)
theorem OrdP.has {l : List Tk} {o : List Int} (h : OrdP l o) {x : Int} (h0 : 0 ≤ x) (h1 : x < l.length) : x ∈ o := h.perm.mem_iff.mpr (mem_upto.mpr ⟨h0, h1⟩)
theorem upto_map (l : List Tk) : (upto l.length).map (rdT l) = l := by
  apply List.ext_getElem
  · rw [List.length_map, len_upto]
  · intro i h1 h2
    rw [List.getElem_map]
    unfold upto
    rw [List.getElem_map, List.getElem_range]
    exact rdT_get l i h2
theorem OrdP.tasks {l : List Tk} {o : List Int} (h : OrdP l o) : (o.map (rdT l)).Perm l := by
  have := h.perm.map (rdT l)
  rwa [upto_map] at this
theorem sumT_perm {g : Tk → Int} {a b : List Tk} (h : a.Perm b) : sumT g a = sumT g b := by
  induction h with
  | nil => rfl
  | cons x _ ih => simp only [sumT, ih]
  | swap x y l => simp only [sumT]; omega
  | trans _ _ i1 i2 => exact i1.trans i2
theorem nodup_of_take {o : List Int} (h : ∀ (i : Nat) (hi : i < o.length), o[i] ∉ o.take i) : o.Nodup := by
  rw [List.Nodup, List.pairwise_iff_getElem]
  intro i j hi hj hij e
  exact h j hj (List.mem_take_iff_getElem.mpr ⟨i, by omega, e⟩)
theorem take_of_nodup {o : List Int} (h : o.Nodup) (i : Nat) (hi : i < o.length) : o[i] ∉ o.take i := by
  intro hm
  obtain ⟨j, hj, e⟩ := List.mem_take_iff_getElem.mp hm
  rw [List.Nodup, List.pairwise_iff_getElem] at h
  exact h j i (by omega) hi (by omega) e

/-! response times -/
def cdv (r p : Int) : Int := (r + p - 1) / p
def iterm (r : Int) (x : Tk) : Int := cdv r x.f2 * x.f0
def itf (hi : List Tk) (r : Int) : Int := sumT (iterm r) hi
theorem iterm_mono {x : Tk} (hx : TkOk x) {r r' : Int} (h : r ≤ r') : iterm r x ≤ iterm r' x := by
  unfold TkOk at hx; unfold iterm cdv
  exact Int.mul_le_mul_of_nonneg_right (Int.ediv_le_ediv (by omega) (by omega)) (by omega)
theorem cdv_bd {r p : Int} (h : 0 ≤ r) (hp : 1 ≤ p ∧ p ≤ 12) : 0 ≤ cdv r p ∧ cdv r p ≤ r + 11 := by
  unfold cdv
  exact ⟨Int.ediv_nonneg (by omega) (by omega), Int.le_trans (Int.ediv_le_self _ (by omega)) (by omega)⟩
theorem iterm_bd {x : Tk} (hx : TkOk x) {r : Int} (h : 0 ≤ r) : 0 ≤ iterm r x ∧ iterm r x ≤ (r + 11) * 8 := by
  unfold TkOk at hx
  have hb := cdv_bd h (show 1 ≤ x.f2 ∧ x.f2 ≤ 12 by omega)
  unfold iterm
  exact ⟨Int.mul_nonneg hb.1 (by omega), Int.mul_le_mul hb.2 (by omega) (by omega) (by omega)⟩
theorem itf_mono {hi : List Tk} (h : ∀ x ∈ hi, TkOk x) {r r' : Int} (hr : r ≤ r') : itf hi r ≤ itf hi r' := sumT_mono hi (fun t ht => iterm_mono (h t ht) hr)
theorem itf_nonneg {hi : List Tk} (h : ∀ x ∈ hi, TkOk x) {r : Int} (hr : 0 ≤ r) : 0 ≤ itf hi r := sumT_nonneg hi (fun t ht => (iterm_bd (h t ht) hr).1)
def RespIs (C D : Int) (I : Int → Int) (x : Int) : Prop := (x = -1 ∧ ∀ r, C ≤ r → r ≤ D → r < C + I r) ∨ (C ≤ x ∧ x ≤ D ∧ C + I x = x ∧ ∀ r, C ≤ r → r < x → r < C + I r)
theorem RespIs.bd {C D : Int} {I : Int → Int} {x : Int} (hx : RespIs C D I x) (hC : 1 ≤ C) : -1 ≤ x ∧ (x ≤ D ∨ x = -1) := by
  rcases hx with ⟨h, _⟩ | ⟨h, h2, _⟩ <;> omega
theorem RespIs.pre {C D : Int} {I : Int → Int} {x r : Int} (hx : RespIs C D I x) (hC : 1 ≤ C) (hr : C ≤ r) (hD : r ≤ D) (hp : C + I r ≤ r) : 0 ≤ x ∧ x ≤ r := by
  rcases hx with ⟨h, h1⟩ | ⟨h, h2, h3, h4⟩
  · have := h1 r hr hD; omega
  · refine ⟨by omega, ?_⟩
    by_cases e : x ≤ r
    · exact e
    · have := h4 r hr (by omega); omega
theorem RespIs.uniq {C D : Int} {I : Int → Int} {x y : Int} (hC : 1 ≤ C) (hx : RespIs C D I x) (hy : RespIs C D I y) : x = y := by
  rcases hx with ⟨h, h1⟩ | ⟨h, h2, h3, h4⟩
  · rcases hy with ⟨g, _⟩ | ⟨g, g2, g3, g4⟩
    · omega
    · have := h1 y g g2; omega
  · rcases hy with ⟨g, g1⟩ | ⟨g, g2, g3, g4⟩
    · have := g1 x h h2; omega
    · by_cases e : x < y
      · have := g4 x h e; omega
      · by_cases e2 : y < x
        · have := h4 y g e2; omega
        · omega
theorem RespIs.less {C C' D : Int} {I J : Int → Int} {x y : Int} (hC : 1 ≤ C') (hCC : C' ≤ C) (hx : RespIs C D I x) (hy : RespIs C' D J y) (hJ : ∀ r, C ≤ r → J r ≤ I r) (h0 : 0 ≤ x) : 0 ≤ y ∧ y ≤ x := by
  rcases hx with ⟨h, _⟩ | ⟨h, h2, h3, h4⟩
  · omega
  · have := hJ x h
    exact hy.pre hC (by omega) h2 (by omega)
/-- A walk's next round. -/
def RInv (C : Int) (I : Int → Int) (r : Int) : Prop := C ≤ r ∧ (∀ s, C ≤ s → s < r → s < C + I s) ∧ r ≤ C + I r
theorem RInv.first {C : Int} {I : Int → Int} (h : 0 ≤ I C) : RInv C I C := ⟨by omega, fun s h1 h2 => by omega, by omega⟩
theorem RInv.next {C : Int} {I : Int → Int} (hI : ∀ r s, r ≤ s → I r ≤ I s) {r : Int} (h : RInv C I r) : RInv C I (C + I r) := by
  obtain ⟨h1, h2, h3⟩ := h
  refine ⟨by omega, fun s g1 g2 => ?_, ?_⟩
  · by_cases e : s < r
    · exact h2 s g1 e
    · have := hI r s (by omega); omega
  · have := hI r (C + I r) h3; omega
theorem RInv.over {C D : Int} {I : Int → Int} {r : Int} (h : RInv C I r) (hr : D < r) : RespIs C D I (-1) := Or.inl ⟨rfl, fun s g1 g2 => h.2.1 s g1 (by omega)⟩
theorem RInv.hit {C D : Int} {I : Int → Int} {r : Int} (h : RInv C I r) (hr : r ≤ D) (he : C + I r = r) : RespIs C D I r := Or.inr ⟨h.1, hr, he, h.2.1⟩

/-! fixed priorities and demand -/
theorem dterm_split {x : Tk} (hx : TkOk x) {a r : Int} (ha : 0 ≤ a) (hr : 0 ≤ r) : dterm (a + r) x ≤ iterm a x + dterm r x := by
  have hb := (iterm_bd hx ha).1
  have hd := (dterm_bd hx r hr).1
  unfold TkOk at hx
  have hq : a ≤ cdv a x.f2 * x.f2 := by
    have := Int.lt_ediv_add_one_mul_self (a + x.f2 - 1) (show 0 < x.f2 by omega)
    rw [Int.add_mul, Int.one_mul] at this
    unfold cdv; omega
  unfold iterm at hb ⊢
  unfold dterm at hd ⊢
  generalize cdv a x.f2 = q at hb hq ⊢
  by_cases h1 : x.f1 ≤ a + r
  · rw [if_pos h1]
    by_cases h2 : x.f1 ≤ r
    · rw [if_pos h2, ← Int.add_mul]
      have h3 : (a + r - x.f1) / x.f2 ≤ (r - x.f1 + q * x.f2) / x.f2 := Int.ediv_le_ediv (by omega) (by omega)
      rw [Int.add_mul_ediv_right _ _ (by omega)] at h3
      exact Int.mul_le_mul_of_nonneg_right (by omega) (by omega)
    · rw [if_neg h2]
      have h3 : (a + r - x.f1) / x.f2 < q := Int.ediv_lt_of_lt_mul (by omega) (by omega)
      have := Int.mul_le_mul_of_nonneg_right (show (a + r - x.f1) / x.f2 + 1 ≤ q by omega) (show 0 ≤ x.f0 by omega)
      omega
  · rw [if_neg h1]; omega
theorem dem_split {hi : List Tk} (h : ∀ x ∈ hi, TkOk x) {a r : Int} (ha : 0 ≤ a) (hr : 0 ≤ r) : dem hi (a + r) ≤ itf hi a + dem hi r := by
  unfold dem itf
  rw [← sumT_add]
  exact sumT_mono hi (fun t ht => dterm_split (h t ht) ha hr)
theorem dem_rounds {hi : List Tk} (h : ∀ x ∈ hi, TkOk x) {R : Int} (hR : 0 ≤ R) : ∀ (m : Nat) (e : Int), 0 ≤ e → dem hi (m * R + e) ≤ m * itf hi R + dem hi e
  | 0, e, he => by simp
  | m + 1, e, he => by
    have ih := dem_rounds h hR m e he
    have hm : 0 ≤ (m : Int) * R := Int.mul_nonneg (by omega) hR
    have := dem_split h hR (show 0 ≤ (m : Int) * R + e by omega)
    rw [Int.natCast_add, Int.add_mul, Int.add_mul]
    simp only [Int.natCast_one, Int.one_mul]
    rw [show (m : Int) * R + R + e = R + (m * R + e) by omega]
    omega
theorem fix_step {H : List Tk} {x : Tk} (hH : ∀ y ∈ H, TkOk y) (hx : TkOk x) {R : Int} (h : RespIs x.f0 x.f1 (itf H) R) (h0 : 0 ≤ R) (ih : ∀ s, 0 ≤ s → dem H s ≤ s) {s : Int} (hs : 0 ≤ s) : dem H s + dterm s x ≤ s := by
  unfold dterm
  by_cases h1 : x.f1 ≤ s
  · rw [if_pos h1]
    rcases h with ⟨h, _⟩ | ⟨g1, g2, g3, _⟩
    · omega
    unfold TkOk at hx
    have e0 : 0 ≤ (s - x.f1) / x.f2 := Int.ediv_nonneg (by omega) (by omega)
    have e1 : (s - x.f1) / x.f2 * x.f2 ≤ s - x.f1 := Int.ediv_mul_le _ (by omega)
    generalize hq : (s - x.f1) / x.f2 = q at e0 e1 ⊢
    obtain ⟨m, rfl⟩ := Int.eq_ofNat_of_zero_le e0
    have e2 : (m : Int) * R ≤ (m : Int) * x.f2 := Int.mul_le_mul_of_nonneg_left (by omega) (by omega)
    have e3 : ((m + 1 : Nat) : Int) * R = m * R + R := by rw [Int.natCast_add, Int.add_mul]; simp
    have d := dem_rounds hH (show 0 ≤ R by omega) (m + 1) (s - ((m + 1 : Nat) : Int) * R) (by omega)
    have i := ih (s - ((m + 1 : Nat) : Int) * R) (by omega)
    rw [show ((m + 1 : Nat) : Int) * R + (s - ((m + 1 : Nat) : Int) * R) = s by omega] at d
    have e4 : ((m + 1 : Nat) : Int) * itf H R = ((m + 1 : Nat) : Int) * R - ((m + 1 : Nat) : Int) * x.f0 := by
      rw [← Int.mul_sub]; congr 1; omega
    rw [show (m : Int) + 1 = ((m + 1 : Nat) : Int) from by omega]
    omega
  · rw [if_neg h1]; have := ih s hs; omega
theorem fix_all {hs : List Tk} (hH : ∀ y ∈ hs, TkOk y) (hr : ∀ (k : Nat) (hk : k < hs.length), ∃ R, 0 ≤ R ∧ RespIs hs[k].f0 hs[k].f1 (itf (hs.take k)) R) : ∀ (k : Nat), k ≤ hs.length → ∀ s, 0 ≤ s → dem (hs.take k) s ≤ s
  | 0, _, s, h0 => by simp only [List.take_zero]; exact h0
  | k + 1, hk, s, h0 => by
    have ih := fix_all hH hr k (by omega)
    obtain ⟨R, h1, h2⟩ := hr k (by omega)
    have := fix_step (fun y hy => hH y (List.mem_of_mem_take hy)) (hH _ (List.getElem_mem _)) h2 h1 ih h0
    rw [List.take_succ_eq_append_getElem (by omega)]
    unfold dem at this ⊢
    rw [sumT_append]
    simp only [sumT]
    omega

end Go.Proofs.Ytncombcckeeecaa.Pu
