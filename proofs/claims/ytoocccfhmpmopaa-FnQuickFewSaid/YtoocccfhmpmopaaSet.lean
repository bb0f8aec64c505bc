import Derived.Test.YtoocccfhmpmopaaValid
import Derived.Test.YtoocccfhmpmopaaFimplXSetValid
import Derived.Test.YtoocccfhmpmopaaFspecXSetValid
import Derived.Test.YtoocccfhmpmopaaFspecXl20Set
set_option linter.unusedSimpArgs false
set_option linter.unusedVariables false
namespace Go.Proofs.Ytoocccfhmpmopaa.Pu
open Go.RowKit Go.Proofs.Ytoocccfhmpmopaa.Q Go.Proofs.YtoocccfhmpmopaaW.PrintWords Go.Proofs.YtoocccfhmpmopaaW.PrintLast

abbrev Tk := S35
def tok (t : Tk) : Bool := tv t.f0 t.f1 t.f2
def setOk (l : List Tk) : Bool := decide ((l.length : Int) ≤ 5) && l.all tok
abbrev rdT (l : List Tk) (i : Int) : Tk := rd_T35 l i

theorem drop_rd (l : List Tk) (j : Nat) (h : j < l.length) : l.drop j = rdT l (j : Int) :: l.drop (j + 1) := by
  rw [List.drop_eq_getElem_cons h]
  simp only [rdT, rd_T35, Int.toNat_natCast, List.getD_eq_getElem?_getD, List.getElem?_eq_getElem h, Option.getD_some]
theorem rdT_mem (l : List Tk) (j : Nat) (h : j < l.length) : rdT l (j : Int) ∈ l := by
  simp only [rdT, rd_T35, Int.toNat_natCast, List.getD_eq_getElem?_getD, List.getElem?_eq_getElem h, Option.getD_some]
  exact List.getElem_mem h
theorem rdT_get (l : List Tk) (j : Nat) (h : j < l.length) : rdT l (j : Int) = l[j] := by
  simp only [rdT, rd_T35, Int.toNat_natCast, List.getD_eq_getElem?_getD, List.getElem?_eq_getElem h, Option.getD_some]

theorem implSet_eq (l : List Tk) : impl_SetValid.f l = some (setOk l) := by
  unfold impl_SetValid.f setOk
  congr 2
  rw [List.not_any_eq_all_not]
  congr 1
  funext x
  unfold badTask tok
  rw [implTask_eq]
  cases tv x.f0 x.f1 x.f2 <;> rfl

theorem specSet_loop (l : List Tk) (hl : l.length ≤ 1000000) : ∀ (d j k : Nat), j + d = l.length → d < k → spec_SetValid.l0 k l (j : Int) = some ((l.drop j).all tok && decide ((l.length : Int) ≤ 5)) := by
  intro d
  induction d with
  | zero =>
    intro j k hj hk
    obtain ⟨k, rfl⟩ : ∃ m, k = m + 1 := ⟨k - 1, by omega⟩
    simp only [spec_SetValid.l0]
    rw [if_neg (by omega), List.drop_eq_nil_of_le (by omega)]
    rfl
  | succ d ih =>
    intro j k hj hk
    obtain ⟨k, rfl⟩ : ∃ m, k = m + 1 := ⟨k - 1, by omega⟩
    simp only [spec_SetValid.l0]
    rw [if_pos (by omega), if_pos (by omega), specTask_eq, drop_rd l j (by omega)]
    simp only [Option.bind_some, List.all_cons]
    rw [w64 (by omega) (by omega), show ((j : Int) + 1) = ((j + 1 : Nat) : Int) from by omega, ih (j + 1) k (by omega) (by omega)]
    unfold tok
    cases h : tv (rd_T35 l (j : Int)).f0 (rd_T35 l (j : Int)).f1 (rd_T35 l (j : Int)).f2 with
    | true => simp only [if_true, rdT, h, Bool.true_and]
    | false => simp only [rdT, h, Bool.false_and]; rfl
theorem specSet_eq (l : List Tk) (hl : l.length ≤ 1000000) (k : Nat) (hk : l.length < k) : spec_SetValid.f k l = some (setOk l) := by
  unfold spec_SetValid.f setOk
  rw [show (0 : Int) = ((0 : Nat) : Int) from rfl, specSet_loop l hl l.length 0 k (by omega) hk, Bool.and_comm]
  rfl

/-- What a valid set is. -/
structure Ok (l : List Tk) : Prop where
  len : l.length ≤ 5
  all : ∀ t ∈ l, 1 ≤ t.f0 ∧ t.f0 ≤ 8 ∧ t.f0 ≤ t.f1 ∧ t.f1 ≤ t.f2 ∧ t.f2 ≤ 12
theorem setOk_iff (l : List Tk) : setOk l = true ↔ Ok l := by
  unfold setOk
  rw [Bool.and_eq_true, decide_eq_true_eq, List.all_eq_true]
  constructor
  · rintro ⟨h1, h2⟩
    exact ⟨by omega, fun t ht => tv_true (h2 t ht)⟩
  · rintro ⟨h1, h2⟩
    exact ⟨by omega, fun t ht => tv_mk (h2 t ht)⟩
theorem Ok.mk' {l : List Tk} (h : setOk l = true) : Ok l := (setOk_iff l).mp h
theorem setOk_no {l : List Tk} (h : ¬ Ok l) : setOk l = false := by
  cases e : setOk l with
  | false => rfl
  | true => exact absurd (Ok.mk' e) h
theorem Ok.rd {l : List Tk} (h : Ok l) (j : Nat) (hj : j < l.length) : 1 ≤ (rdT l (j : Int)).f0 ∧ (rdT l (j : Int)).f0 ≤ 8 ∧ (rdT l (j : Int)).f0 ≤ (rdT l (j : Int)).f1 ∧ (rdT l (j : Int)).f1 ≤ (rdT l (j : Int)).f2 ∧ (rdT l (j : Int)).f2 ≤ 12 := h.all _ (rdT_mem l j hj)

/-- What a drawn set is. -/
structure Bd (l : List Tk) : Prop where
  len : l.length ≤ 12
  fld : ∀ t ∈ l, (-1 ≤ t.f0 ∧ t.f0 ≤ 13) ∧ (-1 ≤ t.f1 ∧ t.f1 ≤ 13) ∧ (-1 ≤ t.f2 ∧ t.f2 ≤ 13)
theorem Bd.rd {l : List Tk} (h : Bd l) (j : Nat) (hj : j < l.length) : (-1 ≤ (rdT l (j : Int)).f0 ∧ (rdT l (j : Int)).f0 ≤ 13) ∧ (-1 ≤ (rdT l (j : Int)).f1 ∧ (rdT l (j : Int)).f1 ≤ 13) ∧ (-1 ≤ (rdT l (j : Int)).f2 ∧ (rdT l (j : Int)).f2 ≤ 13) := h.fld _ (rdT_mem l j hj)
def fldOk (t : Tk) : Prop := (-1 ≤ t.f0 ∧ t.f0 ≤ 13) ∧ (-1 ≤ t.f1 ∧ t.f1 ≤ 13) ∧ (-1 ≤ t.f2 ∧ t.f2 ≤ 13)
theorem fld_snoc {l : List Tk} (h : ∀ t ∈ l, fldOk t) {x : Tk} (hx : fldOk x) : ∀ t ∈ l ++ [x], fldOk t := by
  intro t ht
  rw [List.mem_append, List.mem_singleton] at ht
  rcases ht with ht | rfl
  · exact h t ht
  · exact hx

theorem set_l1 (b : List Int) (hb : Bytes b) : ∀ (d : Nat) (l : List Tk) (p : Int), 6 - l.length ≤ d → l.length ≤ 6 → (∀ t ∈ l, fldOk t) → 0 ≤ p → p ≤ 890000 - 20 * (d : Int) →
    ∃ l' q, l'.length ≤ 7 ∧ (∀ t ∈ l', fldOk t) ∧ p ≤ q ∧ q ≤ p + 20 * (d + 1 : Int) ∧ ∀ k, d + 3 ≤ k → spec_l20Set.l1 k l b p = some (l', q) := by
  intro d
  induction d with
  | zero =>
    intro l p hd hl hf hp0 hp
    obtain ⟨c, dd, e, q, hq1, hq2, hc, hdd, he, _, ht⟩ := task_ev b hb p 2 hp0 (by omega)
    refine ⟨l ++ [⟨c, dd, e⟩], q, by simp; omega, fld_snoc hf ⟨hc, hdd, he⟩, hq1, by omega, fun k hk => ?_⟩
    obtain ⟨k, rfl⟩ : ∃ m, k = m + 1 + 2 := ⟨k - 3, by omega⟩
    simp only [spec_l20Set.l1]
    rw [if_neg (by omega), show k + 2 = k + 2 from rfl, ht k]
    simp only [Option.bind_some]
    rw [if_pos (by omega)]
  | succ d ih =>
    intro l p hd hl hf hp0 hp
    by_cases hlt : l.length ≤ 5
    · obtain ⟨c, dd, e, q, hq1, hq2, hc, hdd, he, _, ht⟩ := task_ev b hb p 0 hp0 (by omega)
      obtain ⟨l', q', h1, h2, h3, h4, h5⟩ := ih (l ++ [⟨c, dd, e⟩]) q (by simp; omega) (by simp; omega) (fld_snoc hf ⟨hc, hdd, he⟩) (by omega) (by omega)
      refine ⟨l', q', h1, h2, by omega, by omega, fun k hk => ?_⟩
      obtain ⟨k, rfl⟩ : ∃ m, k = m + 1 + 2 := ⟨k - 3, by omega⟩
      simp only [spec_l20Set.l1]
      rw [if_pos (by omega), ht k]
      simp only [Option.bind_some]
      rw [if_pos (by omega)]
      exact h5 (k + 2) (by omega)
    · obtain ⟨c, dd, e, q, hq1, hq2, hc, hdd, he, _, ht⟩ := task_ev b hb p 2 hp0 (by omega)
      refine ⟨l ++ [⟨c, dd, e⟩], q, by simp; omega, fld_snoc hf ⟨hc, hdd, he⟩, hq1, by omega, fun k hk => ?_⟩
      obtain ⟨k, rfl⟩ : ∃ m, k = m + 1 + 2 := ⟨k - 3, by omega⟩
      simp only [spec_l20Set.l1]
      rw [if_neg (by omega), ht k]
      simp only [Option.bind_some]
      rw [if_pos (by omega)]

theorem set_l0 (b : List Int) (hb : Bytes b) (n : Int) : ∀ (d : Nat) (l : List Tk) (p : Int), d + l.length ≤ 5 → (∀ t ∈ l, fldOk t) → 0 ≤ p → p ≤ 880000 - 20 * (d : Int) →
    ∃ l' q, l'.length ≤ 7 ∧ (∀ t ∈ l', fldOk t) ∧ (n ≤ 0 → l'.length ≤ 5) ∧ p ≤ q ∧ q ≤ p + 20 * (d + 10 : Int) ∧ ∀ k, d + 20 ≤ k → spec_l20Set.l0 k n l (d : Int) b p = some (l', q) := by
  intro d
  induction d with
  | zero =>
    intro l p hd hf hp0 hp
    obtain ⟨o, q, hq1, hq2, ho⟩ := odd_ev b hb p n hp0 (by omega)
    cases o with
    | false =>
      refine ⟨l, q, by omega, hf, fun _ => by omega, hq1, by omega, fun k hk => ?_⟩
      obtain ⟨k, rfl⟩ : ∃ m, k = m + 1 + 1 := ⟨k - 2, by omega⟩
      simp only [spec_l20Set.l0]
      rw [if_neg (by omega), ho k]
      rfl
    | true =>
      obtain ⟨s1, c1, d1, g1⟩ := pick_ev b hb q 3 (by omega) (by omega)
      have hn : ¬ n ≤ 0 := by
        intro h
        have := ho 0
        unfold spec_l20Rd_odd.f at this
        rw [if_neg (by omega)] at this
        simp at this
      by_cases z0 : s1 = 0
      · obtain ⟨l', q', h1, h2, h3, h4, h5⟩ := set_l1 b hb 6 l (q + 1) (by omega) (by omega) hf (by omega) (by omega)
        refine ⟨l', q', h1, h2, fun h => absurd h hn, by omega, by omega, fun k hk => ?_⟩
        obtain ⟨k, rfl⟩ : ∃ m, k = m + 1 + 1 := ⟨k - 2, by omega⟩
        simp only [spec_l20Set.l0]
        rw [if_neg (by omega), ho k]
        simp only [Option.bind_some, if_true, g1]
        rw [if_pos z0]
        exact h5 _ (by omega)
      · obtain ⟨c, dd, e, q', hq3, hq4, hc, hdd, he, _, ht⟩ := task_ev b hb (q + 1) 2 (by omega) (by omega)
        refine ⟨l ++ [⟨c, dd, e⟩], q', by simp; omega, fld_snoc hf ⟨hc, hdd, he⟩, fun h => absurd h hn, by omega, by omega, fun k hk => ?_⟩
        obtain ⟨k, rfl⟩ : ∃ m, k = m + 2 + 1 := ⟨k - 3, by omega⟩
        simp only [spec_l20Set.l0]
        rw [if_neg (by omega), ho (k + 1)]
        simp only [Option.bind_some, if_true]
        rw [g1 (k + 1)]
        simp only [Option.bind_some]
        rw [if_neg z0, ht k]
        simp only [Option.bind_some]
        rw [if_pos (by omega)]
  | succ d ih =>
    intro l p hd hf hp0 hp
    obtain ⟨c, dd, e, q, hq1, hq2, hc, hdd, he, _, ht⟩ := task_ev b hb p 0 hp0 (by omega)
    obtain ⟨l', q', h1, h2, h2', h3, h4, h5⟩ := ih (l ++ [⟨c, dd, e⟩]) q (by simp; omega) (fld_snoc hf ⟨hc, hdd, he⟩) (by omega) (by omega)
    refine ⟨l', q', h1, h2, h2', by omega, by omega, fun k hk => ?_⟩
    obtain ⟨k, rfl⟩ : ∃ m, k = m + 2 + 1 := ⟨k - 3, by omega⟩
    simp only [spec_l20Set.l0]
    rw [if_pos (by omega), ht k]
    simp only [Option.bind_some]
    rw [if_pos (by omega), w64 (by omega) (by omega), show (((d + 1 : Nat) : Int) - 1) = (d : Int) from by omega]
    exact h5 (k + 2) (by omega)

/-- A set is drawn. -/
theorem set_ev (b : List Int) (hb : Bytes b) (p n : Int) (hp0 : 0 ≤ p) (hp : p ≤ 800000) :
    ∃ l q, Bd l ∧ p ≤ q ∧ q ≤ p + 400 ∧ ∀ k, 40 ≤ k → spec_l20Set.f k b p n = some (l, q) := by
  obtain ⟨r, a1, b1, h1⟩ := pick_ev b hb p 6 hp0 (by omega)
  obtain ⟨d, rfl⟩ := Int.eq_ofNat_of_zero_le a1
  obtain ⟨l', q', g1, g2, _, g3, g4, g5⟩ := set_l0 b hb n d [] (p + 1) (by simp; omega) (by simp) (by omega) (by omega)
  refine ⟨l', q', ⟨by omega, g2⟩, by omega, by omega, fun k hk => ?_⟩
  unfold spec_l20Set.f
  obtain ⟨k, rfl⟩ : ∃ m, k = m + 1 := ⟨k - 1, by omega⟩
  rw [h1 k]
  simp only [Option.bind_some]
  exact g5 _ (by omega)

end Go.Proofs.Ytoocccfhmpmopaa.Pu
