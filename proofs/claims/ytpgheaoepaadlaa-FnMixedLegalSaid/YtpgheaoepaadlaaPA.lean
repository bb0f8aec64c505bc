import Derived.Test.YtpgheaoepaadlaaPO
import Derived.Test.YtpgheaoepaadlaaFspecXSetValid
set_option linter.unusedSimpArgs false
set_option linter.unusedVariables false
namespace Go.Proofs.Ytpgheaoepaadlaa.Pu
open Go.RowKit Go.Proofs.Ytpgheaoepaadlaa.Q Go.Proofs.YtpgheaoepaadlaaW.PrintWords Go.Proofs.YtpgheaoepaadlaaW.PrintLast

abbrev Tk := S66
def tok (t : Tk) : Bool := tv t.f0 t.f1 t.f2
def setOk (l : List Tk) : Bool := decide ((l.length : Int) ≤ 5) && l.all tok
abbrev rdT (l : List Tk) (i : Int) : Tk := rd_T66 l i

theorem drop_rd (l : List Tk) (j : Nat) (h : j < l.length) : l.drop j = rdT l (j : Int) :: l.drop (j + 1) := by
  rw [List.drop_eq_getElem_cons h]
  simp only [rdT, rd_T66, Int.toNat_natCast, List.getD_eq_getElem?_getD, List.getElem?_eq_getElem h, Option.getD_some]
theorem rdT_mem (l : List Tk) (j : Nat) (h : j < l.length) : rdT l (j : Int) ∈ l := by
  simp only [rdT, rd_T66, Int.toNat_natCast, List.getD_eq_getElem?_getD, List.getElem?_eq_getElem h, Option.getD_some]
  exact List.getElem_mem h
theorem rdT_get (l : List Tk) (j : Nat) (h : j < l.length) : rdT l (j : Int) = l[j] := by
  simp only [rdT, rd_T66, Int.toNat_natCast, List.getD_eq_getElem?_getD, List.getElem?_eq_getElem h, Option.getD_some]

theorem specSet_loop (l : List Tk) (hl : l.length ≤ 1000000) : ∀ (d j k : Nat), j + d = l.length → d < k → spec_SetValid.l0 k l (j : Int) = some ((l.drop j).all tok && decide ((l.length : Int) ≤ 5)) := by
  intro d
  induction d with
  | zero =>
    intro j k hj hk
    obtain ⟨k, rfl⟩ : ∃ m, k = m + 1 := ⟨k - 1, by omega⟩
    simp only [spec_SetValid.l0]
    rw [if_neg (by omega), List.drop_eq_nil_of_le (by omega)]
    rfl
  | succ d ih =>
    intro j k hj hk
    obtain ⟨k, rfl⟩ : ∃ m, k = m + 1 := ⟨k - 1, by omega⟩
    simp only [spec_SetValid.l0]
    rw [if_pos (by omega), if_pos (by omega), specTask_eq, drop_rd l j (by omega)]
    simp only [Option.bind_some, List.all_cons]
    rw [w64 (by omega) (by omega), show ((j : Int) + 1) = ((j + 1 : Nat) : Int) from by omega, ih (j + 1) k (by omega) (by omega)]
    unfold tok
    cases h : tv (rd_T66 l (j : Int)).f0 (rd_T66 l (j : Int)).f1 (rd_T66 l (j : Int)).f2 with
    | true => simp only [if_true, rdT, h, Bool.true_and]
    | false => simp only [rdT, h, Bool.false_and]; rfl
theorem specSet_eq (l : List Tk) (hl : l.length ≤ 1000000) (k : Nat) (hk : l.length < k) : spec_SetValid.f k l = some (setOk l) := by
  unfold spec_SetValid.f setOk
  rw [show (0 : Int) = ((0 : Nat) : Int) from rfl, specSet_loop l hl l.length 0 k (by omega) hk, Bool.and_comm]
  rfl

/-- What a valid set is. -/
structure Ok (l : List Tk) : Prop where
  len : l.length ≤ 5
  all : ∀ t ∈ l, 1 ≤ t.f0 ∧ t.f0 ≤ 8 ∧ t.f0 ≤ t.f1 ∧ t.f1 ≤ t.f2 ∧ t.f2 ≤ 12
theorem setOk_iff (l : List Tk) : setOk l = true ↔ Ok l := by
  unfold setOk
  rw [Bool.and_eq_true, decide_eq_true_eq, List.all_eq_true]
  constructor
  · rintro ⟨h1, h2⟩
    exact ⟨by omega, fun t ht => tv_true (h2 t ht)⟩
  · rintro ⟨h1, h2⟩
    exact ⟨by omega, fun t ht => tv_mk (h2 t ht)⟩
theorem Ok.mk' {l : List Tk} (h : setOk l = true) : Ok l := (setOk_iff l).mp h
theorem setOk_no {l : List Tk} (h : ¬ Ok l) : setOk l = false := by
  cases e : setOk l with
  | false => rfl
  | true => exact absurd (Ok.mk' e) h
theorem Ok.rd {l : List Tk} (h : Ok l) (j : Nat) (hj : j < l.length) : 1 ≤ (rdT l (j : Int)).f0 ∧ (rdT l (j : Int)).f0 ≤ 8 ∧ (rdT l (j : Int)).f0 ≤ (rdT l (j : Int)).f1 ∧ (rdT l (j : Int)).f1 ≤ (rdT l (j : Int)).f2 ∧ (rdT l (j : Int)).f2 ≤ 12 := h.all _ (rdT_mem l j hj)


end Go.Proofs.Ytpgheaoepaadlaa.Pu

set_option linter.unusedSimpArgs false
set_option linter.unusedVariables false
namespace Go.Proofs.Ytpgheaoepaadlaa.Pu
open Go.RowKit Go.Proofs.Ytpgheaoepaadlaa.Q Go.Proofs.YtpgheaoepaadlaaW.PrintWords Go.Proofs.YtpgheaoepaadlaaW.PrintLast

/-- A set without its task at a place. -/
def wo (l : List Tk) (j : Nat) : List Tk := l.take j ++ l.drop (j + 1)
theorem wo_mem {l : List Tk} {j : Nat} {t : Tk} (h : t ∈ wo l j) : t ∈ l := by
  unfold wo at h
  rw [List.mem_append] at h
  rcases h with h | h
  · exact List.mem_of_mem_take h
  · exact List.mem_of_mem_drop h
theorem wo_len {l : List Tk} {j : Nat} (hj : j < l.length) : (wo l j).length + 1 = l.length := by
  unfold wo
  rw [List.length_append, List.length_take, List.length_drop]; omega
theorem Ok.wo {l : List Tk} (h : Ok l) {j : Nat} (hj : j < l.length) : Ok (wo l j) :=
  ⟨by have := wo_len hj; have := h.len; omega, fun t ht => h.all t (wo_mem ht)⟩

end Go.Proofs.Ytpgheaoepaadlaa.Pu
