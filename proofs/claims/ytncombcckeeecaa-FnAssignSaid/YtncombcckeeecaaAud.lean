import Derived.Test.YtncombcckeeecaaFits
import Derived.Test.YtncombcckeeecaaFimplXAssignPriorities
set_option linter.unusedSimpArgs false
set_option linter.unusedVariables false
namespace Go.Proofs.Ytncombcckeeecaa.Pu
open Go.RowKit Go.Proofs.Ytncombcckeeecaa.Q Go.Proofs.YtncombcckeeecaaW.PrintWords Go.Proofs.YtncombcckeeecaaW.PrintLast

/-! Audsley's algorithm -/
/-- Task i meets its deadline below the tasks H. -/
def Fit (l : List Tk) (H : List Int) (i : Int) : Prop := ∃ R, 0 ≤ R ∧ RespIs (rdT l i).f0 (rdT l i).f1 (itf (H.map (rdT l))) R
theorem sumT_sub {g : Tk → Int} (f : Int → Tk) : ∀ (a b : List Int), a.Nodup → (∀ x ∈ a, x ∈ b) → (∀ x ∈ b, 0 ≤ g (f x)) → sumT g (a.map f) ≤ sumT g (b.map f)
  | [], b, _, _, h0 => by
    refine sumT_nonneg (b.map f) (fun t ht => ?_)
    obtain ⟨x, hx, rfl⟩ := List.mem_map.mp ht
    exact h0 x hx
  | x :: a, b, hn, hs, h0 => by
    have hx : x ∈ b := hs x (List.mem_cons_self ..)
    have hn' := List.nodup_cons.mp hn
    have e := sumT_perm (g := g) ((List.perm_cons_erase hx).map f)
    have ih := sumT_sub f a (b.erase x) hn'.2 (fun y hy => by
      have : y ≠ x := fun e => hn'.1 (e ▸ hy)
      exact (List.mem_erase_of_ne this).mpr (hs y (List.mem_cons_of_mem _ hy))) (fun y hy => h0 y (List.mem_of_mem_erase hy))
    rw [e]
    simp only [List.map_cons, sumT]
    omega
theorem Fit.sub {l : List Tk} {H G : List Int} {i : Int} (hi0 : 0 ≤ i) (hi1 : i < l.length) (hH : Idx l H) (hG : Idx l G) (hn : G.Nodup) (hs : ∀ x ∈ G, x ∈ H) (h : Fit l H i) : Fit l G i := by
  obtain ⟨R, h0, hR⟩ := h
  obtain ⟨y, hy, _⟩ := implResp_ex hG hi0 hi1
  have hx := hH.ok.at' hi0 hi1
  have hC := hx.1
  refine ⟨y, (hR.less hC (Int.le_refl _) hy (fun r hr => ?_) h0).1, hy⟩
  refine sumT_sub (rdT l) G H hn hs (fun x hx => ?_)
  have := hH.rng x hx
  exact (iterm_bd (hH.ok.at' this.1 this.2) (by omega)).1
/-- The numbers of left but for the a-th. -/
def cutAt (left : List Int) (a : Int) : List Int := left.take a.toNat ++ left.drop (a.toNat + 1)
def aud (p : List Int → Int → Bool) : Nat → List Int → List Int → List Int × Bool
  | 0, _, low => (low, true)
  | m + 1, left, low => if idxOf_I (p left) left < 0 then ([], false) else aud p m (cutAt left (idxOf_I (p left) left)) (rd left (idxOf_I (p left) left) :: low)
/-- p tells who meets its deadline below all the others. -/
def Tells (l : List Tk) (p : List Int → Int → Bool) : Prop := ∀ left i, p left i = true ↔ Fit l (left.filter (fun x => !(x == i))) i
theorem tells_ex (l : List Tk) : ∃ p, Tells l p := ⟨fun left i => @decide (Fit l (left.filter (fun x => !(x == i))) i) (Classical.propDecidable _), fun left i => @decide_eq_true_iff _ (Classical.propDecidable _)⟩
/-- Some of a set's tasks, each once. -/
structure Lf (l : List Tk) (left : List Int) : Prop where
  ok : Ok l
  rng : ∀ x ∈ left, 0 ≤ x ∧ x < l.length
  nd : left.Nodup
theorem Lf.len {l : List Tk} {left : List Int} (h : Lf l left) : left.length ≤ l.length := by
  have h0 : ∀ (a b : List Int), a.Nodup → (∀ x ∈ a, x ∈ b) → a.length ≤ b.length := by
    intro a
    induction a with
    | nil => intro b _ _; exact Nat.zero_le _
    | cons x a ih =>
      intro b hn hs
      have hx : x ∈ b := hs x (List.mem_cons_self ..)
      have hn' := List.nodup_cons.mp hn
      have := ih (b.erase x) hn'.2 (fun y hy => by
        have : y ≠ x := fun e => hn'.1 (e ▸ hy)
        exact (List.mem_erase_of_ne this).mpr (hs y (List.mem_cons_of_mem _ hy)))
      have h1 := List.length_erase_of_mem hx
      have h2 := List.length_pos_of_mem hx
      rw [List.length_cons]; omega
  have := h0 left (upto l.length) h.nd (fun x hx => mem_upto.mpr (h.rng x hx))
  rwa [len_upto] at this
theorem Lf.idx {l : List Tk} {left : List Int} (h : Lf l left) : Idx l left := ⟨h.ok, by have := h.len; have := h.ok.len; omega, h.rng⟩
theorem Lf.sub {l : List Tk} {a b : List Int} (h : Lf l b) (hs : List.Sublist a b) : Lf l a := ⟨h.ok, fun x hx => h.rng x (hs.subset hx), h.nd.sublist hs⟩
theorem lf_upto {l : List Tk} (h : Ok l) : Lf l (upto l.length) := ⟨h, fun x hx => mem_upto.mp hx, by
  unfold upto
  rw [List.Nodup, List.pairwise_iff_getElem]
  intro i j hi hj hij e
  rw [List.getElem_map, List.getElem_map, List.getElem_range, List.getElem_range] at e
  omega⟩
theorem OrdP.lf {l : List Tk} {o : List Int} (h : OrdP l o) : Lf l o := ⟨h.ok, h.rng, h.nd⟩
theorem split_at {left : List Int} {n : Nat} (h : n < left.length) : left = left.take n ++ rd left (n : Int) :: left.drop (n + 1) := by
  rw [rd_getO left n h, ← List.drop_eq_getElem_cons h, List.take_append_drop]
theorem cut_filter {left : List Int} (hn : left.Nodup) {n : Nat} (h : n < left.length) : left.filter (fun x => !(x == rd left (n : Int))) = cutAt left (n : Int) := by
  obtain ⟨x, hx⟩ : ∃ x, rd left (n : Int) = x := ⟨_, rfl⟩
  have e := split_at h
  rw [hx] at e ⊢
  unfold cutAt
  rw [Int.toNat_natCast]
  generalize left.take n = a at e ⊢
  generalize left.drop (n + 1) = b at e ⊢
  subst e
  rw [List.nodup_append, List.nodup_cons] at hn
  rw [List.filter_append, List.filter_cons_of_neg (by simp), List.filter_eq_self.mpr, List.filter_eq_self.mpr]
  · intro y hy
    have : y ≠ x := fun e => hn.2.1.1 (e ▸ hy)
    simp [this]
  · intro y hy
    have : y ≠ x := hn.2.2 y hy x (List.mem_cons_self ..)
    simp [this]
theorem cut_sub (left : List Int) (n : Nat) : List.Sublist (cutAt left (n : Int)) left := by
  unfold cutAt
  rw [Int.toNat_natCast]
  have := (List.Sublist.refl (left.take n)).append (List.drop_sublist_drop_left left (Nat.le_succ n))
  rwa [List.take_append_drop] at this
theorem cut_len {left : List Int} {n : Nat} (h : n < left.length) : (cutAt left (n : Int)).length + 1 = left.length := by
  unfold cutAt
  rw [Int.toNat_natCast, List.length_append, List.length_take, List.length_drop]; omega
/-- What the search finds. -/
theorem idx_cases (q : Int → Bool) (left : List Int) : (idxOf_I q left = -1 ∧ ∀ x ∈ left, q x = false) ∨ ∃ n : Nat, n < left.length ∧ idxOf_I q left = (n : Int) ∧ q (rd left (n : Int)) = true := by
  unfold idxOf_I
  cases e : left.findIdx? q with
  | none =>
    rw [List.findIdx?_eq_none_iff] at e
    exact Or.inl ⟨rfl, e⟩
  | some n =>
    rw [List.findIdx?_eq_some_iff_getElem] at e
    obtain ⟨h, hq, _⟩ := e
    exact Or.inr ⟨n, h, rfl, by rw [rd_getO left n h]; exact hq⟩
/-- Nobody of some tasks can be the last of them. -/
def Stuck (l : List Tk) : Prop := ∃ left : List Int, Lf l left ∧ 0 < left.length ∧ ∀ x ∈ left, ¬ Fit l (left.filter (fun y => !(y == x))) x
theorem stuck_no {l : List Tk} (hs : Stuck l) {o : List Int} (ho : OrdP l o) : ¬ Fits l o 0 := by
  intro hf
  obtain ⟨left, hl, hp, hno⟩ := hs
  have key : ∀ m : Nat, m ≤ o.length → (∀ x ∈ left, x ∈ o.take m) → False := by
    intro m
    induction m with
    | zero =>
      intro _ h
      obtain ⟨x, hx⟩ := List.exists_mem_of_length_pos hp
      have := h x hx
      simp at this
    | succ m ih =>
      intro hm h
      have hml : m < o.length := by omega
      have ht : o.take (m + 1) = o.take m ++ [rd o (m : Int)] := by rw [List.take_succ_eq_append_getElem hml, rd_getO o m hml]
      by_cases hin : rd o (m : Int) ∈ left
      · refine hno _ hin ?_
        have hat := ho.idx.at hml
        refine Fit.sub hat.1 hat.2 (ho.idx.take m) (hl.sub List.filter_sublist).idx (hl.nd.sublist List.filter_sublist) (fun x hx => ?_) (hf m (Nat.zero_le _) hml)
        obtain ⟨hx1, hx2⟩ := List.mem_filter.mp hx
        have := h x hx1
        rw [ht, List.mem_append, List.mem_singleton] at this
        rcases this with g | g
        · exact g
        · rw [g] at hx2; simp at hx2
      · refine ih (by omega) (fun x hx => ?_)
        have := h x hx
        rw [ht, List.mem_append, List.mem_singleton] at this
        rcases this with g | g
        · exact g
        · exact absurd (g ▸ hx) hin
  refine key o.length (Nat.le_refl _) (fun x hx => ?_)
  rw [List.take_length]
  have := hl.rng x hx
  exact ho.has this.1 this.2
/-- What comes out: no order, and none is feasible; or the tasks of left in a feasible order ahead of low. -/
theorem aud_good {l : List Tk} {p : List Int → Int → Bool} (hp : Tells l p) : ∀ (m : Nat) (left low : List Int), left.length = m → Lf l left →
    (aud p m left low = ([], false) ∧ Stuck l) ∨ ∃ pre : List Int, aud p m left low = (pre ++ low, true) ∧ pre.Perm left ∧ ∀ i : Nat, i < pre.length → Fit l (pre.take i) (rd pre (i : Int)) := by
  intro m
  induction m with
  | zero =>
    intro left low hl hL
    refine Or.inr ⟨[], rfl, ?_, fun i hi => by simp at hi⟩
    rw [List.eq_nil_of_length_eq_zero hl]
  | succ m ih =>
    intro left low hl hL
    rw [aud]
    rcases idx_cases (p left) left with ⟨h1, h2⟩ | ⟨n, h1, h2, h3⟩
    · refine Or.inl ⟨by rw [if_pos (by omega)], left, hL, by omega, fun x hx hfx => ?_⟩
      have := (hp left x).mpr hfx
      rw [h2 x hx] at this
      cases this
    · rw [if_neg (by omega), h2]
      have hx := (hp left _).mp h3
      have hat := hL.idx.at h1
      have hsp := split_at h1
      rw [cut_filter hL.nd h1] at hx
      have hLc := hL.sub (cut_sub left n)
      rcases ih (cutAt left (n : Int)) (rd left (n : Int) :: low) (by have := cut_len h1; omega) hLc with g | ⟨pre, g1, g2, g3⟩
      · exact Or.inl g
      · refine Or.inr ⟨pre ++ [rd left (n : Int)], by rw [g1, List.append_assoc]; rfl, ?_, fun i hi => ?_⟩
        · have e1 : (cutAt left (n : Int) ++ [rd left (n : Int)]).Perm left := by
            have : left.Perm (rd left (n : Int) :: cutAt left (n : Int)) := by
              have e := split_at h1
              unfold cutAt
              rw [Int.toNat_natCast]
              refine (List.Perm.of_eq e).trans ?_
              exact List.perm_middle
            exact (List.perm_append_singleton _ _).trans this.symm
          exact (g2.append_right _).trans e1
        · have hln := hLc.idx
          by_cases hip : i < pre.length
          · have e1 : rd (pre ++ [rd left (n : Int)]) (i : Int) = rd pre (i : Int) := by
              rw [rd_getO _ i hi, rd_getO pre i hip, List.getElem_append_left hip]
            rw [e1, List.take_append_of_le_length (by omega)]
            exact g3 i hip
          · have hi' : i = pre.length := by rw [List.length_append, List.length_singleton] at hi; omega
            subst hi'
            have e1 : rd (pre ++ [rd left (n : Int)]) ((pre.length : Nat) : Int) = rd left (n : Int) := by
              rw [rd_getO _ _ hi, List.getElem_append_right (Nat.le_refl _)]
              simp
            rw [e1, List.take_append_of_le_length (Nat.le_refl _), List.take_length]
            have hpn : pre.Nodup := g2.nodup_iff.mpr hLc.nd
            have hpl : Lf l pre := ⟨hL.ok, fun x hx => hLc.rng x (g2.mem_iff.mp hx), hpn⟩
            exact Fit.sub hat.1 hat.2 hLc.idx hpl.idx hpn (fun x hx => g2.mem_iff.mp hx) hx
/-- What Audsley's algorithm answers. -/
theorem aud_res {l : List Tk} (hok : Ok l) {p : List Int → Int → Bool} (hp : Tells l p) : (aud p l.length (upto l.length) [] = ([], false) ∧ Stuck l) ∨ ∃ o : List Int, aud p l.length (upto l.length) [] = (o, true) ∧ OrdP l o ∧ Fits l o 0 := by
  rcases aud_good hp l.length (upto l.length) [] (len_upto _) (lf_upto hok) with h | ⟨o, h1, h2, h3⟩
  · exact Or.inl h
  · rw [List.append_nil] at h1
    have hu := lf_upto hok
    exact Or.inr ⟨o, h1, ⟨hok, by rw [h2.length_eq, len_upto], fun x hx => hu.rng x (h2.mem_iff.mp hx), h2.nodup_iff.mpr hu.nd⟩, fun i _ hi => h3 i hi⟩

end Go.Proofs.Ytncombcckeeecaa.Pu
