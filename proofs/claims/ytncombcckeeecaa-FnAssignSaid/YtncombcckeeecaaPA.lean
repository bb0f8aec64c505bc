import Derived.Test.YtncombcckeeecaaPO
import Derived.Test.YtncombcckeeecaaFspecXl20Task
import Derived.Test.YtncombcckeeecaaFspecXl20Set
import Derived.Test.YtncombcckeeecaaFimplXSetValid
import Derived.Test.YtncombcckeeecaaFspecXSetValid
set_option linter.unusedSimpArgs false
set_option linter.unusedVariables false
namespace Go.Proofs.Ytncombcckeeecaa.Pu
open Go.RowKit Go.Proofs.Ytncombcckeeecaa.Q Go.Proofs.YtncombcckeeecaaW.PrintWords Go.Proofs.YtncombcckeeecaaW.PrintLast

theorem task_ev (b : List Int) (hb : Bytes b) (p n : Int) (hp0 : 0 ≤ p) (hp : p ≤ 900000) :
    ∃ c d e q, p ≤ q ∧ q ≤ p + 20 ∧ (-1 ≤ c ∧ c ≤ 13) ∧ (-1 ≤ d ∧ d ≤ 13) ∧ (-1 ≤ e ∧ e ≤ 13) ∧ (n ≤ 0 → 1 ≤ c ∧ c ≤ d ∧ d ≤ e ∧ e ≤ 12 ∧ c ≤ 8) ∧ ∀ k, spec_l20Task.f (k + 2) b p n = some (c, d, e, q) := by
  obtain ⟨r1, a1, b1, h1⟩ := pick_ev b hb p 12 hp0 (by omega)
  have w1 : wrap64 (1 + r1) = 1 + r1 := w64 (by omega) (by omega)
  obtain ⟨r2, a2, b2, h2⟩ := pick_ev b hb (p + 1) 8 (by omega) (by omega)
  have l2 : r2 < (([2, 3, 4, 6, 8, 12, 1 + r1, 5] : List Int).length : Int) := by simp; omega
  have p2 := rd_bd [2, 3, 4, 6, 8, 12, 1 + r1, 5] 1 12 r2 a2 l2 (by intro x hx; simp at hx; omega)
  obtain ⟨P, hP⟩ : ∃ P, rd [2, 3, 4, 6, 8, 12, 1 + r1, 5] r2 = P := ⟨_, rfl⟩
  rw [hP] at p2
  obtain ⟨r3, a3, b3, h3⟩ := pick_ev b hb (p + 1 + 1) P (by omega) (by omega)
  have w3 : wrap64 (1 + r3) = 1 + r3 := w64 (by omega) (by omega)
  have w3' : wrap64 (P - 1) = P - 1 := w64 (by omega) (by omega)
  have m3 := mx_bd 1 (P - 1)
  obtain ⟨r4, a4, b4, h4⟩ := pick_ev b hb (p + 1 + 1 + 1) 3 (by omega) (by omega)
  have l4 : r4 < (([P, 1 + r3, mx 1 (P - 1)] : List Int).length : Int) := by simp; omega
  have p4 := rd_bd [P, 1 + r3, mx 1 (P - 1)] 1 P r4 a4 l4 (by intro x hx; simp at hx; omega)
  obtain ⟨D, hD⟩ : ∃ D, rd [P, 1 + r3, mx 1 (P - 1)] r4 = D := ⟨_, rfl⟩
  rw [hD] at p4
  have t2 : Int.tdiv D 2 = D / 2 := Int.tdiv_eq_ediv_of_nonneg (by omega)
  have t3 : Int.tdiv D 3 = D / 3 := Int.tdiv_eq_ediv_of_nonneg (by omega)
  have w5 : wrap64 (D / 2) = D / 2 := w64 (by omega) (by omega)
  have w6 : wrap64 (D / 3) = D / 3 := w64 (by omega) (by omega)
  have m5 := mx_bd 1 (D / 2)
  have m6 := mx_bd 1 (D / 3)
  obtain ⟨r5, a5, b5, h5⟩ := pick_ev b hb (p + 1 + 1 + 1 + 1) 3 (by omega) (by omega)
  have l5 : r5 < (([D, mx 1 (D / 2), mx 1 (D / 3)] : List Int).length : Int) := by simp; omega
  have p5 := rd_bd [D, mx 1 (D / 2), mx 1 (D / 3)] 1 D r5 a5 l5 (by intro x hx; simp at hx; omega)
  obtain ⟨E, hE⟩ : ∃ E, rd [D, mx 1 (D / 2), mx 1 (D / 3)] r5 = E := ⟨_, rfl⟩
  rw [hE] at p5
  have m7 := mn_bd 8 E
  obtain ⟨r6, a6, b6, h6⟩ := pick_ev b hb (p + 1 + 1 + 1 + 1 + 1) (mn 8 E) (by omega) (by omega)
  have w7 : wrap64 (1 + r6) = 1 + r6 := w64 (by omega) (by omega)
  have main : ∀ k, spec_l20Task.f (k + 1) b p n = spec_l20Task.j0 (k + 1) n b (p + 1 + 1 + 1 + 1 + 1 + 1) (1 + r6) D P := by
    intro k
    unfold spec_l20Task.f
    simp only [h1, Option.bind_some, w1, h2]
    rw [if_pos a2, if_pos l2]
    simp only [hP, h3, Option.bind_some, w3, w3', h4]
    rw [if_pos a4, if_pos l4]
    simp only [hD, Option.bind_some, t2, t3, w5, w6, h5]
    rw [if_pos a5, if_pos l5]
    simp only [hE, h6, Option.bind_some, w7]
  have fin : (1 ≤ 1 + r6 ∧ 1 + r6 ≤ D ∧ D ≤ P ∧ P ≤ 12 ∧ 1 + r6 ≤ 8) := by omega
  by_cases hn : n > 0
  · obtain ⟨o, q, hq1, hq2, ho⟩ := odd_ev b hb (p + 1 + 1 + 1 + 1 + 1 + 1) n (by omega) (by omega)
    cases o with
    | false =>
      refine ⟨1 + r6, D, P, q, by omega, by omega, by omega, by omega, by omega, fun _ => fin, fun k => ?_⟩
      rw [main, spec_l20Task.j0, ho]
      rfl
    | true =>
      obtain ⟨s1, c1, d1, g1⟩ := pick_ev b hb q 3 (by omega) (by omega)
      by_cases z0 : s1 = 0
      · obtain ⟨s2, c2, d2, g2⟩ := pick_ev b hb (q + 1) 4 (by omega) (by omega)
        have w8 : wrap64 (D + 1) = D + 1 := w64 (by omega) (by omega)
        have l8 : s2 < (([0, -1, 9, D + 1] : List Int).length : Int) := by simp; omega
        have p8 := rd_bd [0, -1, 9, D + 1] (-1) 13 s2 c2 l8 (by intro x hx; simp at hx; omega)
        refine ⟨_, D, P, q + 1 + 1, by omega, by omega, p8, by omega, by omega, fun h => by omega, fun k => ?_⟩
        rw [main, spec_l20Task.j0, ho]
        simp only [Option.bind_some, if_true, g1, w8, g2]
        rw [if_pos z0, if_pos c2, if_pos l8]
      · by_cases z1 : s1 = 1
        · obtain ⟨s2, c2, d2, g2⟩ := pick_ev b hb (q + 1) 3 (by omega) (by omega)
          have w8 : wrap64 (P + 1) = P + 1 := w64 (by omega) (by omega)
          have l8 : s2 < (([0, P + 1, -1] : List Int).length : Int) := by simp; omega
          have p8 := rd_bd [0, P + 1, -1] (-1) 13 s2 c2 l8 (by intro x hx; simp at hx; omega)
          refine ⟨1 + r6, _, P, q + 1 + 1, by omega, by omega, by omega, p8, by omega, fun h => by omega, fun k => ?_⟩
          rw [main, spec_l20Task.j0, ho]
          simp only [Option.bind_some, if_true, g1, w8, g2]
          rw [if_neg z0, if_pos z1, if_pos c2, if_pos l8]
        · obtain ⟨s2, c2, d2, g2⟩ := pick_ev b hb (q + 1) 3 (by omega) (by omega)
          have l8 : s2 < (([0, 13, -1] : List Int).length : Int) := by simp; omega
          have p8 := rd_bd [0, 13, -1] (-1) 13 s2 c2 l8 (by intro x hx; simp at hx; omega)
          refine ⟨1 + r6, D, _, q + 1 + 1, by omega, by omega, by omega, by omega, p8, fun h => by omega, fun k => ?_⟩
          rw [main, spec_l20Task.j0, ho]
          simp only [Option.bind_some, if_true, g1, g2]
          rw [if_neg z0, if_neg z1, if_pos c2, if_pos l8]
  · refine ⟨1 + r6, D, P, p + 1 + 1 + 1 + 1 + 1 + 1, by omega, by omega, by omega, by omega, by omega, fun _ => fin, fun k => ?_⟩
    rw [main, spec_l20Task.j0]
    unfold spec_l20Rd_odd.f
    rw [if_neg hn]
    rfl

end Go.Proofs.Ytncombcckeeecaa.Pu

set_option linter.unusedSimpArgs false
set_option linter.unusedVariables false
namespace Go.Proofs.Ytncombcckeeecaa.Pu
open Go.RowKit Go.Proofs.Ytncombcckeeecaa.Q Go.Proofs.YtncombcckeeecaaW.PrintWords Go.Proofs.YtncombcckeeecaaW.PrintLast

abbrev Tk := S34
def tok (t : Tk) : Bool := tv t.f0 t.f1 t.f2
def setOk (l : List Tk) : Bool := decide ((l.length : Int) ≤ 5) && l.all tok
abbrev rdT (l : List Tk) (i : Int) : Tk := rd_T34 l i

theorem drop_rd (l : List Tk) (j : Nat) (h : j < l.length) : l.drop j = rdT l (j : Int) :: l.drop (j + 1) := by
  rw [List.drop_eq_getElem_cons h]
  simp only [rdT, rd_T34, Int.toNat_natCast, List.getD_eq_getElem?_getD, List.getElem?_eq_getElem h, Option.getD_some]
theorem rdT_mem (l : List Tk) (j : Nat) (h : j < l.length) : rdT l (j : Int) ∈ l := by
  simp only [rdT, rd_T34, Int.toNat_natCast, List.getD_eq_getElem?_getD, List.getElem?_eq_getElem h, Option.getD_some]
  exact List.getElem_mem h
theorem rdT_get (l : List Tk) (j : Nat) (h : j < l.length) : rdT l (j : Int) = l[j] := by
  simp only [rdT, rd_T34, Int.toNat_natCast, List.getD_eq_getElem?_getD, List.getElem?_eq_getElem h, Option.getD_some]

theorem implSet_eq (l : List Tk) : impl_SetValid.f l = some (setOk l) := by
  unfold impl_SetValid.f setOk
  congr 2
  rw [List.not_any_eq_all_not]
  congr 1
  funext x
  unfold badTask tok
  rw [implTask_eq]
  cases tv x.f0 x.f1 x.f2 <;> rfl
theorem specSet_loop (l : List Tk) (hl : l.length ≤ 1000000) : ∀ (d j k : Nat), j + d = l.length → d < k → spec_SetValid.l0 k l (j : Int) = some ((l.drop j).all tok && decide ((l.length : Int) ≤ 5)) := by
  intro d
  induction d with
  | zero =>
    intro j k hj hk
    obtain ⟨k, rfl⟩ : ∃ m, k = m + 1 := ⟨k - 1, by omega⟩
    simp only [spec_SetValid.l0]
    rw [if_neg (by omega), List.drop_eq_nil_of_le (by omega)]
    rfl
  | succ d ih =>
    intro j k hj hk
    obtain ⟨k, rfl⟩ : ∃ m, k = m + 1 := ⟨k - 1, by omega⟩
    simp only [spec_SetValid.l0]
    rw [if_pos (by omega), if_pos (by omega), specTask_eq, drop_rd l j (by omega)]
    simp only [Option.bind_some, List.all_cons]
    rw [w64 (by omega) (by omega), show ((j : Int) + 1) = ((j + 1 : Nat) : Int) from by omega, ih (j + 1) k (by omega) (by omega)]
    unfold tok
    cases h : tv (rd_T34 l (j : Int)).f0 (rd_T34 l (j : Int)).f1 (rd_T34 l (j : Int)).f2 with
    | true => simp only [if_true, rdT, h, Bool.true_and]
    | false => simp only [rdT, h, Bool.false_and]; rfl
theorem specSet_eq (l : List Tk) (hl : l.length ≤ 1000000) (k : Nat) (hk : l.length < k) : spec_SetValid.f k l = some (setOk l) := by
  unfold spec_SetValid.f setOk
  rw [show (0 : Int) = ((0 : Nat) : Int) from rfl, specSet_loop l hl l.length 0 k (by omega) hk, Bool.and_comm]
  rfl

/-- What a valid set is. -/
structure Ok (l : List Tk) : Prop where
  len : l.length ≤ 5
  all : ∀ t ∈ l, 1 ≤ t.f0 ∧ t.f0 ≤ 8 ∧ t.f0 ≤ t.f1 ∧ t.f1 ≤ t.f2 ∧ t.f2 ≤ 12
theorem setOk_iff (l : List Tk) : setOk l = true ↔ Ok l := by
  unfold setOk
  rw [Bool.and_eq_true, decide_eq_true_eq, List.all_eq_true]
  constructor
  · rintro ⟨h1, h2⟩
    exact ⟨by omega, fun t ht => tv_true (h2 t ht)⟩
  · rintro ⟨h1, h2⟩
    exact ⟨by omega, fun t ht => tv_mk (h2 t ht)⟩
theorem Ok.mk' {l : List Tk} (h : setOk l = true) : Ok l := (setOk_iff l).mp h
theorem setOk_no {l : List Tk} (h : ¬ Ok l) : setOk l = false := by
  cases e : setOk l with
  | false => rfl
  | true => exact absurd (Ok.mk' e) h
theorem Ok.rd {l : List Tk} (h : Ok l) (j : Nat) (hj : j < l.length) : 1 ≤ (rdT l (j : Int)).f0 ∧ (rdT l (j : Int)).f0 ≤ 8 ∧ (rdT l (j : Int)).f0 ≤ (rdT l (j : Int)).f1 ∧ (rdT l (j : Int)).f1 ≤ (rdT l (j : Int)).f2 ∧ (rdT l (j : Int)).f2 ≤ 12 := h.all _ (rdT_mem l j hj)

/-- What a drawn set is. -/
structure Bd (l : List Tk) : Prop where
  len : l.length ≤ 12
  fld : ∀ t ∈ l, (-1 ≤ t.f0 ∧ t.f0 ≤ 13) ∧ (-1 ≤ t.f1 ∧ t.f1 ≤ 13) ∧ (-1 ≤ t.f2 ∧ t.f2 ≤ 13)
theorem Bd.rd {l : List Tk} (h : Bd l) (j : Nat) (hj : j < l.length) : (-1 ≤ (rdT l (j : Int)).f0 ∧ (rdT l (j : Int)).f0 ≤ 13) ∧ (-1 ≤ (rdT l (j : Int)).f1 ∧ (rdT l (j : Int)).f1 ≤ 13) ∧ (-1 ≤ (rdT l (j : Int)).f2 ∧ (rdT l (j : Int)).f2 ≤ 13) := h.fld _ (rdT_mem l j hj)
def fldOk (t : Tk) : Prop := (-1 ≤ t.f0 ∧ t.f0 ≤ 13) ∧ (-1 ≤ t.f1 ∧ t.f1 ≤ 13) ∧ (-1 ≤ t.f2 ∧ t.f2 ≤ 13)
theorem fld_snoc {l : List Tk} (h : ∀ t ∈ l, fldOk t) {x : Tk} (hx : fldOk x) : ∀ t ∈ l ++ [x], fldOk t := by
  intro t ht
  rw [List.mem_append, List.mem_singleton] at ht
  rcases ht with ht | rfl
  · exact h t ht
  · exact hx

theorem set_l1 (b : List Int) (hb : Bytes b) : ∀ (d : Nat) (l : List Tk) (p : Int), 6 - l.length ≤ d → l.length ≤ 6 → (∀ t ∈ l, fldOk t) → 0 ≤ p → p ≤ 890000 - 20 * (d : Int) →
    ∃ l' q, l'.length ≤ 7 ∧ (∀ t ∈ l', fldOk t) ∧ p ≤ q ∧ q ≤ p + 20 * (d + 1 : Int) ∧ ∀ k, d + 3 ≤ k → spec_l20Set.l1 k l b p = some (l', q) := by
  intro d
  induction d with
  | zero =>
    intro l p hd hl hf hp0 hp
    obtain ⟨c, dd, e, q, hq1, hq2, hc, hdd, he, _, ht⟩ := task_ev b hb p 2 hp0 (by omega)
    refine ⟨l ++ [⟨c, dd, e⟩], q, by simp; omega, fld_snoc hf ⟨hc, hdd, he⟩, hq1, by omega, fun k hk => ?_⟩
    obtain ⟨k, rfl⟩ : ∃ m, k = m + 1 + 2 := ⟨k - 3, by omega⟩
    simp only [spec_l20Set.l1]
    rw [if_neg (by omega), show k + 2 = k + 2 from rfl, ht k]
    simp only [Option.bind_some]
    rw [if_pos (by omega)]
  | succ d ih =>
    intro l p hd hl hf hp0 hp
    by_cases hlt : l.length ≤ 5
    · obtain ⟨c, dd, e, q, hq1, hq2, hc, hdd, he, _, ht⟩ := task_ev b hb p 0 hp0 (by omega)
      obtain ⟨l', q', h1, h2, h3, h4, h5⟩ := ih (l ++ [⟨c, dd, e⟩]) q (by simp; omega) (by simp; omega) (fld_snoc hf ⟨hc, hdd, he⟩) (by omega) (by omega)
      refine ⟨l', q', h1, h2, by omega, by omega, fun k hk => ?_⟩
      obtain ⟨k, rfl⟩ : ∃ m, k = m + 1 + 2 := ⟨k - 3, by omega⟩
      simp only [spec_l20Set.l1]
      rw [if_pos (by omega), ht k]
      simp only [Option.bind_some]
      rw [if_pos (by omega)]
      exact h5 (k + 2) (by omega)
    · obtain ⟨c, dd, e, q, hq1, hq2, hc, hdd, he, _, ht⟩ := task_ev b hb p 2 hp0 (by omega)
      refine ⟨l ++ [⟨c, dd, e⟩], q, by simp; omega, fld_snoc hf ⟨hc, hdd, he⟩, hq1, by omega, fun k hk => ?_⟩
      obtain ⟨k, rfl⟩ : ∃ m, k = m + 1 + 2 := ⟨k - 3, by omega⟩
      simp only [spec_l20Set.l1]
      rw [if_neg (by omega), ht k]
      simp only [Option.bind_some]
      rw [if_pos (by omega)]

theorem set_l0 (b : List Int) (hb : Bytes b) (n : Int) : ∀ (d : Nat) (l : List Tk) (p : Int), d + l.length ≤ 5 → (∀ t ∈ l, fldOk t) → 0 ≤ p → p ≤ 880000 - 20 * (d : Int) →
    ∃ l' q, l'.length ≤ 7 ∧ (∀ t ∈ l', fldOk t) ∧ (n ≤ 0 → l'.length ≤ 5) ∧ p ≤ q ∧ q ≤ p + 20 * (d + 10 : Int) ∧ ∀ k, d + 20 ≤ k → spec_l20Set.l0 k n l (d : Int) b p = some (l', q) := by
  intro d
  induction d with
  | zero =>
    intro l p hd hf hp0 hp
    obtain ⟨o, q, hq1, hq2, ho⟩ := odd_ev b hb p n hp0 (by omega)
    cases o with
    | false =>
      refine ⟨l, q, by omega, hf, fun _ => by omega, hq1, by omega, fun k hk => ?_⟩
      obtain ⟨k, rfl⟩ : ∃ m, k = m + 1 + 1 := ⟨k - 2, by omega⟩
      simp only [spec_l20Set.l0]
      rw [if_neg (by omega), ho k]
      rfl
    | true =>
      obtain ⟨s1, c1, d1, g1⟩ := pick_ev b hb q 3 (by omega) (by omega)
      have hn : ¬ n ≤ 0 := by
        intro h
        have := ho 0
        unfold spec_l20Rd_odd.f at this
        rw [if_neg (by omega)] at this
        simp at this
      by_cases z0 : s1 = 0
      · obtain ⟨l', q', h1, h2, h3, h4, h5⟩ := set_l1 b hb 6 l (q + 1) (by omega) (by omega) hf (by omega) (by omega)
        refine ⟨l', q', h1, h2, fun h => absurd h hn, by omega, by omega, fun k hk => ?_⟩
        obtain ⟨k, rfl⟩ : ∃ m, k = m + 1 + 1 := ⟨k - 2, by omega⟩
        simp only [spec_l20Set.l0]
        rw [if_neg (by omega), ho k]
        simp only [Option.bind_some, if_true, g1]
        rw [if_pos z0]
        exact h5 _ (by omega)
      · obtain ⟨c, dd, e, q', hq3, hq4, hc, hdd, he, _, ht⟩ := task_ev b hb (q + 1) 2 (by omega) (by omega)
        refine ⟨l ++ [⟨c, dd, e⟩], q', by simp; omega, fld_snoc hf ⟨hc, hdd, he⟩, fun h => absurd h hn, by omega, by omega, fun k hk => ?_⟩
        obtain ⟨k, rfl⟩ : ∃ m, k = m + 2 + 1 := ⟨k - 3, by omega⟩
        simp only [spec_l20Set.l0]
        rw [if_neg (by omega), ho (k + 1)]
        simp only [Option.bind_some, if_true]
        rw [g1 (k + 1)]
        simp only [Option.bind_some]
        rw [if_neg z0, ht k]
        simp only [Option.bind_some]
        rw [if_pos (by omega)]
  | succ d ih =>
    intro l p hd hf hp0 hp
    obtain ⟨c, dd, e, q, hq1, hq2, hc, hdd, he, _, ht⟩ := task_ev b hb p 0 hp0 (by omega)
    obtain ⟨l', q', h1, h2, h2', h3, h4, h5⟩ := ih (l ++ [⟨c, dd, e⟩]) q (by simp; omega) (fld_snoc hf ⟨hc, hdd, he⟩) (by omega) (by omega)
    refine ⟨l', q', h1, h2, h2', by omega, by omega, fun k hk => ?_⟩
    obtain ⟨k, rfl⟩ : ∃ m, k = m + 2 + 1 := ⟨k - 3, by omega⟩
    simp only [spec_l20Set.l0]
    rw [if_pos (by omega), ht k]
    simp only [Option.bind_some]
    rw [if_pos (by omega), w64 (by omega) (by omega), show (((d + 1 : Nat) : Int) - 1) = (d : Int) from by omega]
    exact h5 (k + 2) (by omega)

/-- A set is drawn. -/
theorem set_ev (b : List Int) (hb : Bytes b) (p n : Int) (hp0 : 0 ≤ p) (hp : p ≤ 800000) :
    ∃ l q, Bd l ∧ p ≤ q ∧ q ≤ p + 400 ∧ ∀ k, 40 ≤ k → spec_l20Set.f k b p n = some (l, q) := by
  obtain ⟨r, a1, b1, h1⟩ := pick_ev b hb p 6 hp0 (by omega)
  obtain ⟨d, rfl⟩ := Int.eq_ofNat_of_zero_le a1
  obtain ⟨l', q', g1, g2, _, g3, g4, g5⟩ := set_l0 b hb n d [] (p + 1) (by simp; omega) (by simp) (by omega) (by omega)
  refine ⟨l', q', ⟨by omega, g2⟩, by omega, by omega, fun k hk => ?_⟩
  unfold spec_l20Set.f
  obtain ⟨k, rfl⟩ : ∃ m, k = m + 1 := ⟨k - 1, by omega⟩
  rw [h1 k]
  simp only [Option.bind_some]
  exact g5 _ (by omega)

end Go.Proofs.Ytncombcckeeecaa.Pu

set_option linter.unusedSimpArgs false
set_option linter.unusedVariables false
namespace Go.Proofs.Ytncombcckeeecaa.Pu
open Go.RowKit Go.Proofs.Ytncombcckeeecaa.Q Go.Proofs.YtncombcckeeecaaW.PrintWords Go.Proofs.YtncombcckeeecaaW.PrintLast

/-- A set without its task at a place. -/
def wo (l : List Tk) (j : Nat) : List Tk := l.take j ++ l.drop (j + 1)
theorem wo_mem {l : List Tk} {j : Nat} {t : Tk} (h : t ∈ wo l j) : t ∈ l := by
  unfold wo at h
  rw [List.mem_append] at h
  rcases h with h | h
  · exact List.mem_of_mem_take h
  · exact List.mem_of_mem_drop h
theorem wo_len {l : List Tk} {j : Nat} (hj : j < l.length) : (wo l j).length + 1 = l.length := by
  unfold wo
  rw [List.length_append, List.length_take, List.length_drop]; omega
theorem Ok.wo {l : List Tk} (h : Ok l) {j : Nat} (hj : j < l.length) : Ok (wo l j) :=
  ⟨by have := wo_len hj; have := h.len; omega, fun t ht => h.all t (wo_mem ht)⟩

end Go.Proofs.Ytncombcckeeecaa.Pu
