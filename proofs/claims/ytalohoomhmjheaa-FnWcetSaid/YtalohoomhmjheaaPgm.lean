import Derived.Test.YtalohoomhmjheaaNode
import Derived.Test.YtalohoomhmjheaaPO
set_option linter.unusedSimpArgs false
set_option linter.unusedVariables false
namespace Go.Proofs.Ytalohoomhmjheaa.Pu
open Go.RowKit Go.Proofs.Ytalohoomhmjheaa.Q Go.Proofs.YtalohoomhmjheaaW.PrintWords Go.Proofs.YtalohoomhmjheaaW.PrintLast

theorem rdI_get (l : List Int) (j : Nat) (h : j < l.length) : rd l (j : Int) = l[j] := by
  unfold rd
  rw [Int.toNat_natCast, List.getD_eq_getElem?_getD, List.getElem?_eq_getElem h, Option.getD_some]
theorem rdI_set (l : List Int) (i j : Nat) (v : Int) (hj : j < l.length) : rd (l.set i v) (j : Int) = if i = j then v else rd l (j : Int) := by
  rw [rdI_get _ j (by rw [List.length_set]; exact hj), rdI_get l j hj, List.getElem_set]
theorem rdI_app (l : List Int) (v : Int) (j : Nat) (hj : j < l.length) : rd (l ++ [v]) (j : Int) = rd l (j : Int) := by
  rw [rdI_get _ j (by rw [List.length_append]; omega), rdI_get l j hj, List.getElem_append_left]
theorem rdI_last (l : List Int) (v : Int) : rd (l ++ [v]) (l.length : Int) = v := by
  rw [rdI_get _ _ (by rw [List.length_append]; exact Nat.lt_succ_self _), List.getElem_append_right (Nat.le_refl _)]
  simp
theorem rdNd_get (l : List Nd) (j : Nat) (h : j < l.length) : rd_T28 l (j : Int) = l[j] := by
  unfold rd_T28
  rw [Int.toNat_natCast, List.getD_eq_getElem?_getD, List.getElem?_eq_getElem h, Option.getD_some]
theorem rdNd_set (l : List Nd) (i j : Nat) (v : Nd) (hj : j < l.length) : rd_T28 (l.set i v) (j : Int) = if i = j then v else rd_T28 l (j : Int) := by
  rw [rdNd_get _ j (by rw [List.length_set]; exact hj), rdNd_get l j hj, List.getElem_set]
theorem rdNd_app (l : List Nd) (v : Nd) (j : Nat) (hj : j < l.length) : rd_T28 (l ++ [v]) (j : Int) = rd_T28 l (j : Int) := by
  rw [rdNd_get _ j (by rw [List.length_append]; omega), rdNd_get l j hj, List.getElem_append_left]
theorem rdNd_last (l : List Nd) (v : Nd) : rd_T28 (l ++ [v]) (l.length : Int) = v := by
  rw [rdNd_get _ _ (by rw [List.length_append]; exact Nat.lt_succ_self _), List.getElem_append_right (Nat.le_refl _)]
  simp
/-- A node's worst cost from those of its children. -/
def wF (n : Nd) (x y : Int) : Int := if n.f0 = 1 then n.f1 else if n.f0 = 2 then x + y else if n.f0 = 3 then n.f1 + mx x y else n.f1 + n.f4 * (n.f1 + x)
/-- The same, the best one. -/
def bF (n : Nd) (x y : Int) : Int := if n.f0 = 1 then n.f1 else if n.f0 = 2 then x + y else if n.f0 = 3 then n.f1 + mn x y else n.f1
theorem wF_1 {n : Nd} (k : n.f0 = 1) (x y : Int) : wF n x y = n.f1 := by unfold wF; rw [if_pos k]
theorem wF_2 {n : Nd} (k : n.f0 = 2) (x y : Int) : wF n x y = x + y := by unfold wF; rw [if_neg (by omega), if_pos k]
theorem wF_3 {n : Nd} (k : n.f0 = 3) (x y : Int) : wF n x y = n.f1 + mx x y := by unfold wF; rw [if_neg (by omega), if_neg (by omega), if_pos k]
theorem wF_4 {n : Nd} (k : n.f0 = 4) (x y : Int) : wF n x y = n.f1 + n.f4 * (n.f1 + x) := by unfold wF; rw [if_neg (by omega), if_neg (by omega), if_neg (by omega)]
theorem bF_1 {n : Nd} (k : n.f0 = 1) (x y : Int) : bF n x y = n.f1 := by unfold bF; rw [if_pos k]
theorem bF_2 {n : Nd} (k : n.f0 = 2) (x y : Int) : bF n x y = x + y := by unfold bF; rw [if_neg (by omega), if_pos k]
theorem bF_3 {n : Nd} (k : n.f0 = 3) (x y : Int) : bF n x y = n.f1 + mn x y := by unfold bF; rw [if_neg (by omega), if_neg (by omega), if_pos k]
theorem bF_4 {n : Nd} (k : n.f0 = 4) (x y : Int) : bF n x y = n.f1 := by unfold bF; rw [if_neg (by omega), if_neg (by omega), if_neg (by omega)]
/-- The same, held under 601. -/
def cF (g : Nd → Int → Int → Int) (n : Nd) (x y : Int) : Int := mn (g n x y) 601
/-- The costs of the first j nodes. -/
def cst (g : Nd → Int → Int → Int) (l : List Nd) : Nat → List Int
  | 0 => []
  | j + 1 => cst g l j ++ [g (rd_T28 l (j : Int)) (rd (cst g l j) (rd_T28 l (j : Int)).f2) (rd (cst g l j) (rd_T28 l (j : Int)).f3)]
/-- The cost of node j. -/
def V (g : Nd → Int → Int → Int) (l : List Nd) (j : Nat) : Int := g (rd_T28 l (j : Int)) (rd (cst g l j) (rd_T28 l (j : Int)).f2) (rd (cst g l j) (rd_T28 l (j : Int)).f3)
theorem cst_len (g : Nd → Int → Int → Int) (l : List Nd) : ∀ j, (cst g l j).length = j
  | 0 => rfl
  | j + 1 => by rw [cst, List.length_append, cst_len g l j]; rfl
theorem cst_rd (g : Nd → Int → Int → Int) (l : List Nd) : ∀ j a : Nat, a < j → rd (cst g l j) (a : Int) = V g l a
  | 0, a, h => by omega
  | j + 1, a, h => by
    rw [cst]
    by_cases e : a = j
    · subst e
      have := rdI_last (cst g l a) (V g l a)
      rw [cst_len g l a] at this
      exact this
    · rw [rdI_app _ _ a (by rw [cst_len]; omega)]
      exact cst_rd g l j a (by omega)
/-- Every node of the list stands at a place where it is valid. -/
def NV (l : List Nd) : Prop := ∀ j : Nat, j < l.length → nvP (rd_T28 l (j : Int)) (j : Int)
theorem V_cases {l : List Nd} {j : Nat} {n : Nd} (en : rd_T28 l (j : Int) = n) (h : nvP n (j : Int)) :
    (n.f0 = 1 ∧ (1 ≤ n.f1 ∧ n.f1 ≤ 9) ∧ ∀ g, ∃ x y, V g l j = g n x y) ∨
    (∃ a b : Nat, a < j ∧ b < j ∧ n.f2 = (a : Int) ∧ n.f3 = (b : Int) ∧ ((n.f0 = 2 ∧ n.f1 = 0) ∨ (n.f0 = 3 ∧ (1 ≤ n.f1 ∧ n.f1 ≤ 9))) ∧ ∀ g, V g l j = g n (V g l a) (V g l b)) ∨
    (∃ a : Nat, a < j ∧ n.f2 = (a : Int) ∧ n.f0 = 4 ∧ (1 ≤ n.f1 ∧ n.f1 ≤ 9) ∧ (0 ≤ n.f4 ∧ n.f4 ≤ 4) ∧ ∀ g, ∃ y, V g l j = g n (V g l a) y) := by
  have child : ∀ (x : Int), 0 ≤ x → x < (j : Int) → ∃ a : Nat, a < j ∧ x = (a : Int) := fun x h0 h1 => ⟨x.toNat, by omega, by omega⟩
  unfold nvP at h
  rcases h with ⟨k, c, _⟩ | ⟨k, c, ha, hb, _⟩ | ⟨k, c, ha, hb, _⟩ | ⟨k, c, ha, _, hL⟩
  · exact .inl ⟨k, c, fun g => ⟨_, _, by unfold V; rw [en]⟩⟩
  · obtain ⟨a, a1, a2⟩ := child _ ha.1 ha.2
    obtain ⟨b, b1, b2⟩ := child _ hb.1 hb.2
    exact .inr (.inl ⟨a, b, a1, b1, a2, b2, .inl ⟨k, c⟩, fun g => by unfold V; rw [en, a2, b2, cst_rd g l j a a1, cst_rd g l j b b1]; rfl⟩)
  · obtain ⟨a, a1, a2⟩ := child _ ha.1 ha.2
    obtain ⟨b, b1, b2⟩ := child _ hb.1 hb.2
    exact .inr (.inl ⟨a, b, a1, b1, a2, b2, .inr ⟨k, c⟩, fun g => by unfold V; rw [en, a2, b2, cst_rd g l j a a1, cst_rd g l j b b1]; rfl⟩)
  · obtain ⟨a, a1, a2⟩ := child _ ha.1 ha.2
    exact .inr (.inr ⟨a, a1, a2, k, c, hL, fun g => ⟨_, by unfold V; rw [en, a2, cst_rd g l j a a1]; rfl⟩⟩)
def Bd : Nat → Int
  | 0 => 45
  | j + 1 => 45 + 5 * Bd j
theorem Bd_pos : ∀ j, 45 ≤ Bd j
  | 0 => by simp only [Bd]; omega
  | j + 1 => by have := Bd_pos j; simp only [Bd]; omega
theorem Bd_mono : ∀ (d j : Nat), Bd j ≤ Bd (j + d)
  | 0, j => Int.le_refl _
  | d + 1, j => by have := Bd_mono d j; have := Bd_pos (j + d); rw [← Nat.add_assoc]; simp only [Bd]; omega
theorem Bd_le {a b : Nat} (h : a ≤ b) : Bd a ≤ Bd b := by have := Bd_mono (b - a) a; rwa [show a + (b - a) = b by omega] at this
theorem Bd12 {a : Nat} (h : a ≤ 12) : Bd a ≤ 20000000000 := by
  have := Bd_le h
  have e : Bd 12 ≤ 20000000000 := by simp only [Bd]; omega
  omega
theorem mul04 {L x : Int} (h0 : 0 ≤ L) (h4 : L ≤ 4) : L * x = 0 ∧ L = 0 ∨ L * x = x ∧ L = 1 ∨ L * x = 2 * x ∧ L = 2 ∨ L * x = 3 * x ∧ L = 3 ∨ L * x = 4 * x ∧ L = 4 := by
  rcases (show L = 0 ∨ L = 1 ∨ L = 2 ∨ L = 3 ∨ L = 4 by omega) with e | e | e | e | e <;> subst e <;> omega
/-- The worst cost is a small number, and the best one lies below it. -/
theorem V_bd {l : List Nd} (hv : NV l) : ∀ j : Nat, j < l.length → 0 ≤ V bF l j ∧ V bF l j ≤ V wF l j ∧ 1 ≤ V wF l j ∧ V wF l j ≤ Bd j := by
  intro j
  induction j using Nat.strongRecOn with
  | _ j ih =>
  intro hj
  have hp := Bd_pos j
  have step : ∀ a, a < j → 45 + 5 * Bd a ≤ Bd j := fun a h => by
    have := Bd_le (show a + 1 ≤ j by omega)
    simpa only [Bd] using this
  rcases V_cases rfl (hv j hj) with ⟨k, c, hg⟩ | ⟨a, b, ha, hb, _, _, k, hg⟩ | ⟨a, ha, _, k, c, hL, hg⟩
  · obtain ⟨x, y, e⟩ := hg wF
    obtain ⟨x', y', e'⟩ := hg bF
    rw [e, e', wF_1 k, bF_1 k]
    omega
  · have ia := ih a ha (by omega)
    have ib := ih b hb (by omega)
    have sa := step a ha
    have sb := step b hb
    have pa := Bd_pos a
    have pb := Bd_pos b
    have m1 := mx_bd (V wF l a) (V wF l b)
    have m2 := mn_bd (V bF l a) (V bF l b)
    rw [hg wF, hg bF]
    rcases k with ⟨k, c⟩ | ⟨k, c⟩
    · rw [wF_2 k, bF_2 k]; omega
    · rw [wF_3 k, bF_3 k]; omega
  · have ia := ih a ha (by omega)
    have sa := step a ha
    have pa := Bd_pos a
    obtain ⟨y, e⟩ := hg wF
    obtain ⟨y', e'⟩ := hg bF
    rw [e, e', wF_4 k, bF_4 k]
    have := mul04 (x := (rd_T28 l (j : Int)).f1 + V wF l a) hL.1 hL.2
    omega
theorem mn_cap {x y : Int} (h : x = y) : mn x 601 = mn y 601 := by rw [h]
theorem mn_le {x y : Int} (h : x ≤ y) : mn x y = x := by unfold mn; rw [if_neg (by omega)]
theorem V_capW {l : List Nd} (hv : NV l) : ∀ j : Nat, j < l.length → V (cF wF) l j = mn (V wF l j) 601 := by
  intro j
  induction j using Nat.strongRecOn with
  | _ j ih =>
  intro hj
  rcases V_cases rfl (hv j hj) with ⟨k, c, hg⟩ | ⟨a, b, ha, hb, _, _, k, hg⟩ | ⟨a, ha, _, k, c, hL, hg⟩
  · obtain ⟨x, y, e⟩ := hg wF
    obtain ⟨x', y', e'⟩ := hg (cF wF)
    rw [e, e', cF, wF_1 k, wF_1 k]
  · have va := (V_bd hv a (by omega))
    have vb := (V_bd hv b (by omega))
    rw [hg wF, hg (cF wF), cF, ih a ha (by omega), ih b hb (by omega)]
    generalize V wF l a = x at *
    generalize V wF l b = y at *
    have m1 := mn_bd x 601
    have m2 := mn_bd y 601
    have m3 := mx_bd x y
    have m4 := mx_bd (mn x 601) (mn y 601)
    rcases k with ⟨k, c⟩ | ⟨k, c⟩
    · rw [wF_2 k, wF_2 k]
      have m5 := mn_bd (mn x 601 + mn y 601) 601
      have m6 := mn_bd (x + y) 601
      omega
    · rw [wF_3 k, wF_3 k]
      have m5 := mn_bd ((rd_T28 l (j : Int)).f1 + mx (mn x 601) (mn y 601)) 601
      have m6 := mn_bd ((rd_T28 l (j : Int)).f1 + mx x y) 601
      omega
  · have va := (V_bd hv a (by omega))
    obtain ⟨y, e⟩ := hg wF
    obtain ⟨y', e'⟩ := hg (cF wF)
    rw [e, e', cF, ih a ha (by omega), wF_4 k, wF_4 k]
    generalize V wF l a = x at *
    generalize (rd_T28 l (j : Int)).f1 = C at *
    generalize (rd_T28 l (j : Int)).f4 = L at *
    have m1 := mn_bd x 601
    have q1 := mul04 (x := C + x) hL.1 hL.2
    have q2 := mul04 (x := C + mn x 601) hL.1 hL.2
    have m5 := mn_bd (C + L * (C + mn x 601)) 601
    have m6 := mn_bd (C + L * (C + x)) 601
    omega
theorem V_capB {l : List Nd} (hv : NV l) : ∀ j : Nat, j < l.length → V (cF bF) l j = mn (V bF l j) 601 := by
  intro j
  induction j using Nat.strongRecOn with
  | _ j ih =>
  intro hj
  rcases V_cases rfl (hv j hj) with ⟨k, c, hg⟩ | ⟨a, b, ha, hb, _, _, k, hg⟩ | ⟨a, ha, _, k, c, hL, hg⟩
  · obtain ⟨x, y, e⟩ := hg bF
    obtain ⟨x', y', e'⟩ := hg (cF bF)
    rw [e, e', cF, bF_1 k, bF_1 k]
  · have va := (V_bd hv a (by omega))
    have vb := (V_bd hv b (by omega))
    rw [hg bF, hg (cF bF), cF, ih a ha (by omega), ih b hb (by omega)]
    generalize V bF l a = x at *
    generalize V bF l b = y at *
    have m1 := mn_bd x 601
    have m2 := mn_bd y 601
    have m3 := mn_bd x y
    have m4 := mn_bd (mn x 601) (mn y 601)
    rcases k with ⟨k, c⟩ | ⟨k, c⟩
    · rw [bF_2 k, bF_2 k]
      have m5 := mn_bd (mn x 601 + mn y 601) 601
      have m6 := mn_bd (x + y) 601
      omega
    · rw [bF_3 k, bF_3 k]
      have m5 := mn_bd ((rd_T28 l (j : Int)).f1 + mn (mn x 601) (mn y 601)) 601
      have m6 := mn_bd ((rd_T28 l (j : Int)).f1 + mn x y) 601
      omega
  · obtain ⟨y, e⟩ := hg bF
    obtain ⟨y', e'⟩ := hg (cF bF)
    rw [e, e', cF, bF_4 k, bF_4 k]
/-- A valid program. -/
structure PV (l : List Nd) : Prop where
  pos : 1 ≤ l.length
  len : l.length ≤ 12
  nv : NV l
  fit : V wF l (l.length - 1) ≤ 600
theorem psiff_no {P : Prop} (h : ¬ P) : (false = true) ↔ P := ⟨fun h' => by simp at h', fun h' => absurd h' h⟩
theorem psiff_yes {P : Prop} (h : P) : (true = true) ↔ P := ⟨fun _ => h, fun _ => rfl⟩
theorem pbool_eq {x y : Bool} {P : Prop} (hx : x = true ↔ P) (hy : y = true ↔ P) : x = y := by
  cases x <;> cases y <;> first | rfl | (have := hy.mpr (hx.mp rfl); simp at this) | (have := hx.mpr (hy.mp rfl); simp at this)
/-- A list of costs tells those of the first j nodes. -/
def Tells (g : Nd → Int → Int → Int) (l : List Nd) (c : List Int) (j : Nat) : Prop := ∀ a : Nat, a < j → rd c (a : Int) = V g l a
theorem Tells.put {g : Nd → Int → Int → Int} {l : List Nd} {c : List Int} {j : Nat} (h : Tells g l c j) (hj : j < c.length) {v : Int} (e : v = V g l j) : Tells g l (c.set j v) (j + 1) := fun a ha => by
  rw [rdI_set c j a v (by omega)]
  by_cases q : j = a
  · rw [if_pos q, e, q]
  · rw [if_neg q]; exact h a (by omega)
theorem Tells.app {g : Nd → Int → Int → Int} {l : List Nd} {c : List Int} {j : Nat} (h : Tells g l c j) (hj : c.length = j) {v : Int} (e : v = V g l j) : Tells g l (c ++ [v]) (j + 1) := fun a ha => by
  by_cases q : a = j
  · rw [q, ← hj, rdI_last, e, hj]
  · rw [rdI_app c v a (by omega)]; exact h a (by omega)
theorem implWorst_ex {l : List Nd} (h12 : l.length ≤ 12) (hv : NV l) : Ex (fun k => impl_worst.f k l) (fun x => x.length = l.length ∧ Tells wF l x l.length) := by
  have loop : ∀ (d j : Nat) (c : List Int), j + d = l.length → c.length = l.length → Tells wF l c j → Ex (fun k => impl_worst.l0 k c l (l.length : Int) (j : Int)) (fun x => x.length = l.length ∧ Tells wF l x l.length) := by
    intro d
    induction d with
    | zero =>
      intro j c hj hc ht
      refine Ex.step ?_
      simp only [impl_worst.l0]
      exact Ex.neg (by omega) (Ex.val ⟨hc, by rw [show l.length = j by omega]; exact ht⟩)
    | succ d ih =>
      intro j c hj hc ht
      have next : ∀ v, v = V wF l j → Ex (fun k => impl_worst.l0 k (c.set j v) l (l.length : Int) ((j + 1 : Nat) : Int)) (fun x => x.length = l.length ∧ Tells wF l x l.length) := fun v e => ih (j + 1) _ (by omega) (by rw [List.length_set]; exact hc) (ht.put (by omega) e)
      have hb : ∀ a : Nat, a ≤ j → 1 ≤ V wF l a ∧ V wF l a ≤ 20000000000 := fun a ha => by
        have := V_bd hv a (by omega); have := Bd12 (show a ≤ 12 by omega); omega
      have hbj := hb j (Nat.le_refl _)
      refine Ex.step ?_
      simp only [impl_worst.l0, Int.toNat_natCast]
      rw [pnx j (by omega)]
      refine Ex.pos (by omega) (Ex.pos (by omega) (Ex.pos (by omega) ?_))
      rcases V_cases rfl (hv j (by omega)) with ⟨k, c1, hg⟩ | ⟨a, b, ha, hb', ea, eb, k, hg⟩ | ⟨a, ha, ea, k, c1, hL, hg⟩
      · obtain ⟨x, y, e⟩ := hg wF
        rw [wF_1 k] at e
        exact Ex.pos k (Ex.pos (by omega) (next _ e.symm))
      · have e := hg wF
        have ba := hb a (by omega)
        have bb := hb b (by omega)
        have m := mx_bd (V wF l a) (V wF l b)
        rw [ea, eb, ht a ha, ht b hb']
        rcases k with ⟨k, c1⟩ | ⟨k, c1⟩
        · rw [wF_2 k] at e
          rw [w64 (by omega) (by omega)]
          exact Ex.neg (by omega) (Ex.pos k (Ex.pos (by omega) (Ex.pos (by omega) (Ex.pos (by omega) (Ex.pos (by omega) (Ex.pos (by omega) (next _ e.symm)))))))
        · rw [wF_3 k] at e
          rw [w64 (n := (rd_T28 l (j : Int)).f1 + mx (V wF l a) (V wF l b)) (by omega) (by omega)]
          exact Ex.neg (by omega) (Ex.neg (by omega) (Ex.pos k (Ex.pos (by omega) (Ex.pos (by omega) (Ex.pos (by omega) (Ex.pos (by omega) (Ex.pos (by omega) (next _ e.symm))))))))
      · obtain ⟨y, e⟩ := hg wF
        rw [wF_4 k] at e
        have ba := hb a (by omega)
        have q := mul04 (x := (rd_T28 l (j : Int)).f1 + V wF l a) hL.1 hL.2
        have ec : rd c (rd_T28 l (j : Int)).f2 = V wF l a := by rw [ea]; exact ht a ha
        rw [ec, w64 (n := (rd_T28 l (j : Int)).f1 + V wF l a) (by omega) (by omega), w64 (n := (rd_T28 l (j : Int)).f4 * ((rd_T28 l (j : Int)).f1 + V wF l a)) (by omega) (by omega), w64 (n := (rd_T28 l (j : Int)).f1 + (rd_T28 l (j : Int)).f4 * ((rd_T28 l (j : Int)).f1 + V wF l a)) (by omega) (by omega)]
        exact Ex.neg (by omega) (Ex.neg (by omega) (Ex.neg (by omega) (Ex.pos k (Ex.pos (by omega) (Ex.pos (by omega) (Ex.pos (by omega) (next _ e.symm)))))))
  unfold impl_worst.f
  refine Ex.pos (by omega) (Ex.pos (by omega) (loop l.length 0 _ (by omega) (by simp) (fun a ha => by omega)))
theorem specCosts_ex {l : List Nd} (h12 : l.length ≤ 12) (hv : NV l) (t : Bool) : Ex (fun k => spec_l8Costs.f k l t) (fun x => x.length = l.length ∧ Tells (cF (if t = true then wF else bF)) l x l.length) := by
  have loop : ∀ (d j : Nat) (c : List Int), j + d = l.length → c.length = j → Tells (cF (if t = true then wF else bF)) l c j → Ex (fun k => spec_l8Costs.l0 k l t c (j : Int)) (fun x => x.length = l.length ∧ Tells (cF (if t = true then wF else bF)) l x l.length) := by
    intro d
    induction d with
    | zero =>
      intro j c hj hc ht
      refine Ex.step ?_
      simp only [spec_l8Costs.l0]
      exact Ex.neg (by omega) (Ex.val ⟨by omega, by rw [show l.length = j by omega]; exact ht⟩)
    | succ d ih =>
      intro j c hj hc ht
      have next : ∀ v, v = V (cF (if t = true then wF else bF)) l j → Ex (fun k => spec_l8Costs.l0 k l t (c ++ [v]) ((j + 1 : Nat) : Int)) (fun x => x.length = l.length ∧ Tells (cF (if t = true then wF else bF)) l x l.length) := fun v e => ih (j + 1) _ (by omega) (by rw [List.length_append, hc]; rfl) (ht.app hc e)
      have hb : ∀ a : Nat, a ≤ j → 0 ≤ V (cF (if t = true then wF else bF)) l a ∧ V (cF (if t = true then wF else bF)) l a ≤ 601 := fun a ha => by
        have := V_bd hv a (by omega)
        cases t
        · rw [if_neg (by decide), V_capB hv a (by omega)]; have := mn_bd (V bF l a) 601; omega
        · rw [if_pos rfl, V_capW hv a (by omega)]; have := mn_bd (V wF l a) 601; omega
      refine Ex.step ?_
      simp only [spec_l8Costs.l0]
      rw [pnx j (by omega)]
      refine Ex.pos (by omega) (Ex.pos (by omega) ?_)
      rcases V_cases rfl (hv j (by omega)) with ⟨k, c1, hg⟩ | ⟨a, b, ha, hb', ea, eb, k, hg⟩ | ⟨a, ha, ea, k, c1, hL, hg⟩
      · obtain ⟨x, y, e⟩ := hg (cF (if t = true then wF else bF))
        have e' : (if t = true then wF else bF) (rd_T28 l (j : Int)) x y = (rd_T28 l (j : Int)).f1 := by
          cases t
          · rw [if_neg (by decide), bF_1 k]
          · rw [if_pos rfl, wF_1 k]
        rw [cF, e'] at e
        exact Ex.neg (by omega) (Ex.neg (by omega) (Ex.neg (by omega) (Ex.pos (by omega) (next _ e.symm))))
      · have e := hg (cF (if t = true then wF else bF))
        rw [cF] at e
        have ba := hb a (by omega)
        have bb := hb b (by omega)
        rw [ea, eb, ht a ha, ht b hb']
        generalize V (cF (if t = true then wF else bF)) l a = x at *
        generalize V (cF (if t = true then wF else bF)) l b = y at *
        have m := mx_bd x y
        have m' := mn_bd x y
        rcases k with ⟨k, c1⟩ | ⟨k, c1⟩
        · have e' : (if t = true then wF else bF) (rd_T28 l (j : Int)) x y = x + y := by
            cases t
            · rw [if_neg (by decide), bF_2 k]
            · rw [if_pos rfl, wF_2 k]
          rw [e'] at e
          rw [w64 (n := x + y) (by omega) (by omega)]
          exact Ex.pos k (Ex.pos (by omega) (Ex.pos (by omega) (Ex.pos (by omega) (Ex.pos (by omega) (Ex.pos (by omega) (next _ e.symm))))))
        · refine Ex.neg (by omega) (Ex.pos k (Ex.ite (fun h => ?_) (fun h => ?_)))
          · rw [if_pos h, wF_3 k] at e
            rw [w64 (n := (rd_T28 l (j : Int)).f1 + mx x y) (by omega) (by omega)]
            exact Ex.pos (by omega) (Ex.pos (by omega) (Ex.pos (by omega) (Ex.pos (by omega) (Ex.pos (by omega) (next _ (by rw [if_pos h]; exact e.symm))))))
          · rw [if_neg h, bF_3 k] at e
            rw [w64 (n := (rd_T28 l (j : Int)).f1 + mn x y) (by omega) (by omega)]
            exact Ex.pos (by omega) (Ex.pos (by omega) (Ex.pos (by omega) (Ex.pos (by omega) (Ex.pos (by omega) (next _ (by rw [if_neg h]; exact e.symm))))))
      · obtain ⟨y, e⟩ := hg (cF (if t = true then wF else bF))
        rw [cF] at e
        have ba := hb a (by omega)
        refine Ex.neg (by omega) (Ex.neg (by omega) (Ex.pos k (Ex.ite (fun h => ?_) (fun h => ?_))))
        · have ec : rd c (rd_T28 l (j : Int)).f2 = V (cF (if t = true then wF else bF)) l a := by rw [ea]; exact ht a ha
          rw [ec]
          generalize V (cF (if t = true then wF else bF)) l a = x at *
          have q := mul04 (x := (rd_T28 l (j : Int)).f1 + x) hL.1 hL.2
          have e' : (if t = true then wF else bF) (rd_T28 l (j : Int)) x y = (rd_T28 l (j : Int)).f1 + (rd_T28 l (j : Int)).f4 * ((rd_T28 l (j : Int)).f1 + x) := by
            rw [if_pos h, wF_4 k]
          rw [e'] at e
          rw [w64 (n := (rd_T28 l (j : Int)).f1 + x) (by omega) (by omega), w64 (n := (rd_T28 l (j : Int)).f4 * ((rd_T28 l (j : Int)).f1 + x)) (by omega) (by omega), w64 (n := (rd_T28 l (j : Int)).f1 + (rd_T28 l (j : Int)).f4 * ((rd_T28 l (j : Int)).f1 + x)) (by omega) (by omega)]
          exact Ex.pos (by omega) (Ex.pos (by omega) (Ex.pos (by omega) (next _ e.symm)))
        · have e' : ∀ x, (if t = true then wF else bF) (rd_T28 l (j : Int)) x y = (rd_T28 l (j : Int)).f1 := fun x => by
            rw [if_neg h, bF_4 k]
          rw [e'] at e
          exact Ex.pos (by omega) (next _ e.symm)
  unfold spec_l8Costs.f
  exact loop l.length 0 [] (by omega) rfl (fun a ha => by omega)

end Go.Proofs.Ytalohoomhmjheaa.Pu
