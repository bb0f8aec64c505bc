/- The statement FnLastDeadline of the given program holds for every input: for every code of at most 2^20 bytes (and for longer ones at once) the law returns true. No further condition. -/
import Derived.Test.YthpnfipkgfbbeaaImplLast
import Derived.Test.YthpnfipkgfbbeaaSpecLast
import Derived.Test.YthpnfipkgfbbeaaSpecHyp
import Derived.Test.YthpnfipkgfbbeaaFimplXLastDeadline
import Derived.Test.YthpnfipkgfbbeaaFspecXLastDeadline
import Derived.Test.YthpnfipkgfbbeaaFlawsXFnLastDeadline
set_option linter.unusedSimpArgs false
set_option linter.unusedVariables false
namespace Go.Proofs.Ythpnfipkgfbbeaa.Pure
open Go.RowKit Go.Proofs.Ythpnfipkgfbbeaa.Q Go.Proofs.Ythpnfipkgfbbeaa.Pu Go.Proofs.YthpnfipkgfbbeaaW.PrintWords Go.Proofs.YthpnfipkgfbbeaaW.PrintLast

def lastO (l : List Tk) (t : Int) : Int := if setOk l = true then (if 0 ≤ t ∧ t ≤ hyp l + 1 then lastD l t else -1) else -1
theorem implLastD_eq (l : List Tk) (t : Int) (k : Nat) (hk : 20 ≤ k) : impl_LastDeadline.f k l t = some (lastO l t) := by
  unfold impl_LastDeadline.f lastO
  rw [implSet_eq]
  simp only [Option.bind_some]
  by_cases h : setOk l = true
  · have hok := Ok.mk' h
    have hb := hyp_bd hok
    rw [if_pos h, if_pos h, implHyper_eq l hok k hk]
    simp only [Option.bind_some]
    rw [in_eq, w64 (n := hyp l + 1) (by omega) (by omega)]
    simp only [Option.bind_some]
    by_cases ht : 0 ≤ t ∧ t ≤ hyp l + 1
    · rw [decide_eq_true ht, if_pos rfl, if_pos ht, implLast_eq l hok t (by omega) (by omega) k hk]; rfl
    · rw [decide_eq_false ht, if_neg (by simp), if_neg ht]
  · rw [if_neg h, if_neg h]
theorem specLastD_eq (l : List Tk) (hl : l.length ≤ 1000) (t : Int) (k : Nat) (hk : 2000 ≤ k) : spec_LastDeadline.f k l t = some (lastO l t) := by
  unfold spec_LastDeadline.f lastO
  rw [specSet_eq l (by omega) k (by omega)]
  simp only [Option.bind_some]
  by_cases h : setOk l = true
  · have hok := Ok.mk' h
    have hb := hyp_bd hok
    rw [if_pos h, if_pos h, specHyper_eq l hok k (by omega)]
    simp only [Option.bind_some]
    rw [l1In_eq, w64 (n := hyp l + 1) (by omega) (by omega)]
    simp only [Option.bind_some]
    by_cases ht : 0 ≤ t ∧ t ≤ hyp l + 1
    · rw [decide_eq_true ht, if_pos rfl, if_pos ht, specLast_eq l hok t (by omega) (by omega) k (by omega)]; rfl
    · rw [decide_eq_false ht, if_neg (by simp), if_neg ht]
  · rw [if_neg h, if_neg h]

/-- A task has a deadline at d, from a on. -/
def dueFrom (d a P : Int) : Bool := decide (a ≤ d) && ((d - a) % P == 0)
theorem dueFrom_step {d a P : Int} (hP : 1 ≤ P) (ha : a ≤ d) : ((a == d) || dueFrom d (a + P) P) = dueFrom d a P := by
  unfold dueFrom
  by_cases he : a = d
  · subst he; simp
  · rw [beq_eq_false_iff_ne.mpr he, Bool.false_or, decide_eq_true ha, Bool.true_and]
    by_cases h2 : a + P ≤ d
    · rw [decide_eq_true h2, Bool.true_and, show d - a = (d - (a + P)) + P from by omega, Int.add_emod_right]
    · rw [decide_eq_false h2, Bool.false_and, Int.emod_eq_of_lt (by omega) (by omega)]
      symm
      exact beq_eq_false_iff_ne.mpr (by omega)

theorem la_inner (l : List Tk) (hok : Ok l) (t d : Int) (ht : t ≤ 1000000) (hd0 : 0 ≤ d) (hd : d < t ∨ t = 0 ∧ d = 0) (B : Nat) (j : Nat) (hj : j < l.length) (F : Bool)
    (hnext : ∀ k, B ≤ k → laws_FnLastDeadline.l0 k l t d F ((j + 1 : Nat) : Int) = some true)
    (hmax : ∀ a, (rdT l (j : Int)).f1 ≤ a → (a - (rdT l (j : Int)).f1) % (rdT l (j : Int)).f2 = 0 → a < t → a ≤ d) :
    ∀ (m k : Nat) (f : Bool) (a : Int), t ≤ a + m → B + m + 2 ≤ k → (rdT l (j : Int)).f1 ≤ a → (a - (rdT l (j : Int)).f1) % (rdT l (j : Int)).f2 = 0 → a ≤ 1000100 → F = (f || dueFrom d a (rdT l (j : Int)).f2) → laws_FnLastDeadline.l1 k l t d f (j : Int) a = some true := by
  have hlen := hok.len
  have hr := hok.rd j hj
  have en : wrap64 ((j : Int) + 1) = ((j + 1 : Nat) : Int) := by rw [w64 (by omega) (by omega)]; omega
  have hend : ∀ (k : Nat) (f : Bool) (a : Int), B + 1 ≤ k → (rdT l (j : Int)).f1 ≤ a → ¬ a < t → F = (f || dueFrom d a (rdT l (j : Int)).f2) → laws_FnLastDeadline.l1 k l t d f (j : Int) a = some true := by
    intro k f a hk ha1 hlt hF
    obtain ⟨k, rfl⟩ : ∃ m, k = m + 1 := ⟨k - 1, by omega⟩
    have hf : dueFrom d a (rdT l (j : Int)).f2 = false := by unfold dueFrom; rw [decide_eq_false (by omega), Bool.false_and]
    rw [hf, Bool.or_false] at hF
    rw [laws_FnLastDeadline.l1]
    rw [if_neg hlt, en, ← hF]
    exact hnext k (by omega)
  intro m
  induction m with
  | zero =>
    intro k f a hm hk ha1 ha2 ha hF
    exact hend k f a (by omega) ha1 (by omega) hF
  | succ m ih =>
    intro k f a hm hk ha1 ha2 ha hF
    by_cases hlt : a < t
    · obtain ⟨k, rfl⟩ : ∃ m, k = m + 1 := ⟨k - 1, by omega⟩
      have had := hmax a ha1 ha2 hlt
      have h2 : (a + (rdT l (j : Int)).f2 - (rdT l (j : Int)).f1) % (rdT l (j : Int)).f2 = 0 := by
        rw [show a + (rdT l (j : Int)).f2 - (rdT l (j : Int)).f1 = a - (rdT l (j : Int)).f1 + (rdT l (j : Int)).f2 from by omega, Int.add_emod_right, ha2]
      have hstep := dueFrom_step (d := d) (a := a) (P := (rdT l (j : Int)).f2) (by omega) had
      have hgo : ∀ f', F = (f' || dueFrom d (a + (rdT l (j : Int)).f2) (rdT l (j : Int)).f2) → laws_FnLastDeadline.l1 k l t d f' (j : Int) (wrap64 (a + (rd_T29 l (j : Int)).f2)) = some true := by
        intro f' hF'
        rw [w64 (n := a + (rd_T29 l (j : Int)).f2) (by have := hr; simp only [rdT] at this; omega) (by have := hr; simp only [rdT] at this; omega)]
        exact ih k f' _ (by have := hr; simp only [rdT] at this; omega) (by omega) (by simp only [rdT] at ha1 hr ⊢; omega) h2 (by have := hr; simp only [rdT] at this; omega) hF'
      rw [laws_FnLastDeadline.l1]
      rw [if_pos hlt]
      by_cases hf : f = true
      · rw [if_pos hf, if_neg (by omega), if_pos (by omega), if_pos (by omega)]
        refine hgo true ?_
        rw [hF, hf, Bool.true_or, Bool.true_or]
      · have hff : f = false := by simpa using hf
        rw [if_neg hf, if_neg (by omega), if_pos (by omega), if_pos (by omega)]
        refine hgo (a == d) ?_
        rw [hF, hff, Bool.false_or, hstep]
    · exact hend k f a (by omega) ha1 hlt hF
def dueAny (d : Int) (x : Tk) : Bool := dueFrom d x.f1 x.f2
theorem la_outer (l : List Tk) (hok : Ok l) (t d : Int) (ht0 : 0 ≤ t) (ht : t ≤ 3000) (hdd : d = lastD l t) : ∀ (m j k : Nat), j + m = l.length → 4000 * m + 10 ≤ k →
    laws_FnLastDeadline.l0 k l t d ((d == 0) || (l.take j).any (dueAny d)) (j : Int) = some true := by
  have hlen := hok.len
  have hb := lastD_bd hok t ht0
  rw [← hdd] at hb
  intro m
  induction m with
  | zero =>
    intro j k hj hk
    obtain ⟨k, rfl⟩ : ∃ m, k = m + 1 := ⟨k - 1, by omega⟩
    rw [laws_FnLastDeadline.l0]
    rw [if_neg (by omega), List.take_of_length_le (by omega)]
    have hfound : ((d == 0) || l.any (dueAny d)) = true := by
      rw [Bool.or_eq_true, beq_iff_eq, List.any_eq_true]
      rcases lastD_due hok t with h | ⟨x, hx, h1, h2⟩
      · exact .inl (by omega)
      · refine .inr ⟨x, hx, ?_⟩
        unfold dueAny dueFrom
        rw [hdd, decide_eq_true h1, h2]
        rfl
    rw [hfound, if_pos rfl, alive_eq]
    by_cases h : d < t
    · rw [if_pos h]; rfl
    · rw [if_neg h, if_pos (by omega), if_pos (by omega)]; rfl
  | succ m ih =>
    intro j k hj hk
    obtain ⟨k, rfl⟩ : ∃ m, k = m + 1 := ⟨k - 1, by omega⟩
    have hr := hok.rd j (by omega)
    rw [laws_FnLastDeadline.l0]
    rw [if_pos (by omega), if_pos (by omega)]
    refine la_inner l hok t d (by omega) hb.1 hb.2 (4000 * m + 10) j (by omega) ((d == 0) || (l.take (j + 1)).any (dueAny d)) (fun k' hk' => ih (j + 1) k' (by omega) hk') (fun a h1 h2 h3 => ?_) 3001 k _ _ (by have := hr; simp only [rdT] at this; omega) (by omega) (Int.le_refl _) (by simp [rdT]) (by have := hr; simp only [rdT] at this; omega) ?_
    · rw [hdd]; exact lastD_max hok t (rdT_mem l j (by omega)) h1 h2 h3
    · rw [List.take_succ_eq_append_getElem (by omega), List.any_append, rdT_get l j (by omega), ← Bool.or_assoc]
      simp [dueAny, rd_T29, List.getElem?_eq_getElem (show j < l.length by omega)]

theorem drawLast (l0 : List Int) (h8 : ∀ x ∈ l0, (Lit.int .u8 x).wf = true) : ∃ l t, Bd l ∧ -1 ≤ t ∧ t ≤ 2295 ∧ ∀ k, 100 ≤ k → spec_DrawLastDeadline.f k l0 = some (l, t) := by
  obtain ⟨b, hb, ho⟩ := open_ev l0 h8
  obtain ⟨l, q, hl, _, _, hs⟩ := set_ev b hb 0 12 (by omega) (by omega)
  obtain ⟨r1, a1, b1, h1⟩ := pick_ev b hb q 40 (by omega) (by omega)
  obtain ⟨r2, a2, b2, h2⟩ := pick_ev b hb (q + 1) 256 (by omega) (by omega)
  obtain ⟨r3, a3, b3, h3⟩ := pick_ev b hb (q + 1 + 1) 6 (by omega) (by omega)
  have w1 : wrap64 (r2 * 9) = r2 * 9 := w64 (by omega) (by omega)
  have l3 : r3 < (([0, 0, 0, 0, 1, 2] : List Int).length : Int) := by simp; omega
  have p3 := rd_bd [0, 0, 0, 0, 1, 2] 0 2 r3 a3 l3 (by intro x hx; simp at hx; omega)
  generalize hR : rd [0, 0, 0, 0, 1, 2] r3 = R at p3
  have l4 : R < (([r1, -1, r2 * 9] : List Int).length : Int) := by simp; omega
  have p4 := rd_bd [r1, -1, r2 * 9] (-1) 2295 R p3.1 l4 (by intro x hx; simp at hx; omega)
  refine ⟨l, _, hl, p4.1, p4.2, fun k hk => ?_⟩
  obtain ⟨k, rfl⟩ : ∃ m, k = m + 1 := ⟨k - 1, by omega⟩
  unfold spec_DrawLastDeadline.f
  rw [ho]
  simp only [Option.bind_some]
  rw [hs (k + 1) (by omega)]
  simp only [Option.bind_some, h1, h2, w1, h3]
  rw [if_pos a3, if_pos l3, hR, if_pos p3.1, if_pos l4]

theorem FnLastDeadline : laws_FnLastDeadline.Pure := by
  intro l0 _ _ h8
  obtain ⟨K, hK⟩ : ∃ K, 10000000 ≤ K := ⟨_, Nat.le_refl _⟩
  refine ⟨K, ?_⟩
  unfold laws_FnLastDeadline.f
  by_cases hlong : (l0.length : Int) > 1048576
  · rw [if_pos hlong]
  rw [if_neg hlong]
  obtain ⟨l, t, hl, ht0, ht, hd⟩ := drawLast l0 h8
  have hlen := hl.len
  rw [hd K (by omega)]
  simp only [Option.bind_some]
  rw [implLastD_eq l t K (by omega), specLastD_eq l (by omega) t K (by omega), specSet_eq l (by omega) K (by omega), specHyp_eq l (by omega) K (by omega)]
  simp only [Option.bind_some]
  rw [if_pos trivial]
  obtain ⟨k, rfl⟩ : ∃ m, K = m + 1 := ⟨K - 1, by omega⟩
  by_cases h : setOk l = true
  · have hok := Ok.mk' h
    have hb := hyp_bd hok
    rw [if_pos h]
    by_cases hneg : t < 0
    · rw [if_pos hneg, laws_FnLastDeadline.j0]
      rw [if_pos rfl, if_pos (by unfold lastO; rw [if_pos h, if_neg (by omega)]), alive_eq]
      rfl
    · rw [if_neg hneg, laws_FnLastDeadline.j0]
      unfold hypO
      rw [if_pos h, w64 (n := hyp l + 1) (by omega) (by omega)]
      by_cases hh : t > hyp l + 1
      · rw [decide_eq_true hh, if_pos rfl, if_pos (by unfold lastO; rw [if_pos h, if_neg (by omega)]), alive_eq]
        rfl
      · rw [decide_eq_false hh, if_neg (by simp)]
        have e : lastO l t = lastD l t := by unfold lastO; rw [if_pos h, if_pos (by omega)]
        rw [e]
        have := hok.len
        have := la_outer l hok t _ (by omega) (by omega) rfl l.length 0 k (by omega) (by omega)
        simpa using this
  · rw [if_neg h, laws_FnLastDeadline.j0]
    rw [if_pos rfl, if_pos (by unfold lastO; rw [if_neg h]), alive_eq]
    rfl

end Go.Proofs.Ythpnfipkgfbbeaa.Pure
