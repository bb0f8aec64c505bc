import Derived.Test.YtpgheaoepaadlaaPO
import Derived.Test.YtpgheaoepaadlaaFimplXServersValid
import Derived.Test.YtpgheaoepaadlaaFspecXServersValid
import Derived.Test.YtpgheaoepaadlaaFspecXl20Servers
set_option linter.unusedSimpArgs false
set_option linter.unusedVariables false
namespace Go.Proofs.Ytpgheaoepaadlaa.Pu
open Go.RowKit Go.Proofs.Ytpgheaoepaadlaa.Q Go.Proofs.YtpgheaoepaadlaaW.PrintWords Go.Proofs.YtpgheaoepaadlaaW.PrintLast

abbrev Sv := S27
abbrev rdV (l : List Sv) (i : Int) : Sv := rd_T27 l i
def sok (x : Sv) : Bool := decide (1 ≤ x.f0 ∧ x.f0 ≤ x.f1 ∧ x.f1 ≤ 12)
def servOk (l : List Sv) : Bool := decide ((l.length : Int) ≤ 2) && l.all sok
theorem rdV_get (l : List Sv) (j : Nat) (h : j < l.length) : rdV l (j : Int) = l[j] := by
  unfold rdV rd_T27
  rw [Int.toNat_natCast, List.getD_eq_getElem?_getD, List.getElem?_eq_getElem h, Option.getD_some]
theorem bad_sok (x : Sv) : bad_impl_ServersValid x = !(sok x) := by
  unfold bad_impl_ServersValid impl_ServersValid_1.f sok
  rw [in_eq]
  simp only [Option.bind_some]
  by_cases h : 1 ≤ x.f0 ∧ x.f0 ≤ x.f1
  · rw [decide_eq_true h, if_pos rfl]
    by_cases h2 : x.f1 ≤ 12
    · rw [decide_eq_true (show 1 ≤ x.f0 ∧ x.f0 ≤ x.f1 ∧ x.f1 ≤ 12 from ⟨h.1, h.2, h2⟩), decide_eq_false (by omega)]; rfl
    · rw [decide_eq_false (show ¬ (1 ≤ x.f0 ∧ x.f0 ≤ x.f1 ∧ x.f1 ≤ 12) from fun h' => h2 h'.2.2), decide_eq_true (by omega)]; rfl
  · rw [decide_eq_false h, if_neg (by simp), decide_eq_false (fun h' => h ⟨h'.1, h'.2.1⟩)]; rfl
theorem any_not {α : Type} {p q : α → Bool} (h : ∀ x, p x = !(q x)) : ∀ l : List α, (!(l.any p)) = l.all q
  | [] => rfl
  | x :: l => by rw [List.any_cons, List.all_cons, Bool.not_or, any_not h l, h, Bool.not_not]
theorem implServ_eq (l : List Sv) : impl_ServersValid.f l = some (servOk l) := by
  unfold impl_ServersValid.f servOk
  rw [any_not bad_sok]
theorem all_drop {α : Type} (p : α → Bool) (l : List α) (j : Nat) (h : j < l.length) : (l.drop j).all p = (p l[j] && (l.drop (j + 1)).all p) := by
  rw [List.drop_eq_getElem_cons h, List.all_cons]
theorem specServ_loop (l : List Sv) (hl : l.length ≤ 1000000) : ∀ (d j : Nat), j + d = l.length → Ex (fun k => spec_ServersValid.l0 k l (j : Int)) (fun x => x = ((l.drop j).all sok && decide ((l.length : Int) ≤ 2))) := by
  intro d
  induction d with
  | zero =>
    intro j hj
    refine Ex.step ?_
    simp only [spec_ServersValid.l0]
    refine Ex.neg (by omega) (Ex.val ?_)
    rw [List.drop_of_length_le (by omega)]; rfl
  | succ d ih =>
    intro j hj
    refine Ex.step ?_
    simp only [spec_ServersValid.l0, l1In_eq, Option.bind_some]
    have ej : l[j]'(by omega) = rd_T27 l (j : Int) := (rdV_get l j (by omega)).symm
    refine Ex.pos (by omega) (Ex.pos (by omega) ?_)
    rw [all_drop sok l j (by omega), ej, w64 (by omega) (by omega)]
    refine Ex.ite (fun h1 => Ex.ite (fun h2 => ?_) (fun h2 => Ex.val ?_)) (fun h1 => Ex.val ?_)
    · have e : sok (rd_T27 l (j : Int)) = true := decide_eq_true (by have := of_decide_eq_true h1; have := of_decide_eq_true h2; omega)
      rw [e, Bool.true_and]
      exact ih (j + 1) (by omega)
    · have e : sok (rd_T27 l (j : Int)) = false := decide_eq_false (fun h => h2 (decide_eq_true (by omega)))
      rw [e]; rfl
    · have e : sok (rd_T27 l (j : Int)) = false := decide_eq_false (fun h => h1 (decide_eq_true (by omega)))
      rw [e]; rfl
theorem specServ_ex (l : List Sv) (hl : l.length ≤ 1000000) : Ex (fun k => spec_ServersValid.f k l) (fun x => x = servOk l) := by
  refine Ex.mono (specServ_loop l hl l.length 0 (by omega)) (fun r hr => ?_)
  rw [hr, servOk, List.drop_zero, Bool.and_comm]
theorem servOk_iff (l : List Sv) : servOk l = true ↔ l.length ≤ 2 ∧ ∀ x ∈ l, 1 ≤ x.f0 ∧ x.f0 ≤ x.f1 ∧ x.f1 ≤ 12 := by
  unfold servOk sok
  rw [Bool.and_eq_true, List.all_eq_true, decide_eq_true_iff]
  simp only [decide_eq_true_iff]
  exact ⟨fun ⟨a, b⟩ => ⟨by omega, b⟩, fun ⟨a, b⟩ => ⟨by omega, b⟩⟩

/-! the draw -/
theorem servers_l0 {b : List Int} (hb : Bytes b) (n : Int) : ∀ (d : Nat) (l : List Sv) (p : Int), d + l.length ≤ 2 → 0 ≤ p → p ≤ 900000 - 20 * (d : Int) → Ex (fun k => spec_l20Servers.l0 k n l (d : Int) b p) (fun x => x.1.length ≤ 3 ∧ p ≤ x.2 ∧ x.2 ≤ p + 20 * (d + 1 : Int)) := by
  intro d
  induction d with
  | zero =>
    intro l p hl hp0 hp
    refine Ex.step ?_
    simp only [spec_l20Servers.l0]
    refine Ex.neg (by omega) (Ex.bind (odd_ex hb hp0 (by omega)) ?_)
    rintro ⟨o, q⟩ ⟨h1, h2, h3⟩
    simp only [] at h1 h2 h3 ⊢
    refine Ex.ite (fun _ => ?_) (fun _ => Ex.val ⟨by simp only []; omega, by simp only []; omega, by simp only []; omega⟩)
    simp only [Option.bind_some]
    refine Ex.bind (pick_ex hb (by omega) (by omega)) ?_
    rintro ⟨r, q2⟩ ⟨g1, g2, g3⟩
    simp only [] at g1 g2 g3 ⊢
    exact Ex.pos g1 (Ex.pos (by simp; omega) (Ex.pos (by omega) (Ex.val ⟨by simp only [List.length_append, List.length_singleton]; omega, by simp only []; omega, by simp only []; omega⟩)))
  | succ d ih =>
    intro l p hl hp0 hp
    refine Ex.step ?_
    simp only [spec_l20Servers.l0, Option.bind_some]
    refine Ex.pos (by omega) (Ex.bind (pick_ex hb hp0 (by omega)) ?_)
    rintro ⟨r1, q1⟩ ⟨g1, g2, g3⟩
    refine Ex.bind (pick_ex hb (by simp only [] at *; omega) (by simp only [] at *; omega)) ?_
    rintro ⟨r2, q2⟩ ⟨a1, a2, a3⟩
    simp only [] at g1 g2 g3 a1 a2 a3 ⊢
    refine Ex.pos a1 (Ex.pos (by simp; omega) (Ex.bind (pick_ex hb (by omega) (by omega)) ?_))
    rintro ⟨r3, q3⟩ ⟨c1, c2, c3⟩
    simp only [] at c1 c2 c3 ⊢
    refine Ex.pos (by omega) ?_
    rw [w64 (n := ((d + 1 : Nat) : Int) - 1) (by omega) (by omega), show (((d + 1 : Nat) : Int) - 1) = (d : Int) from by omega]
    refine Ex.mono (ih _ q3 ?_ (by omega) (by omega)) (fun x hx => ⟨hx.1, by omega, by omega⟩)
    rw [List.length_append, List.length_singleton]; omega
theorem servers_ex {b : List Int} (hb : Bytes b) {p n : Int} (hp0 : 0 ≤ p) (hp : p ≤ 800000) : Ex (fun k => spec_l20Servers.f k b p n) (fun x => x.1.length ≤ 3 ∧ p ≤ x.2 ∧ x.2 ≤ p + 100) := by
  unfold spec_l20Servers.f
  refine Ex.bind (pick_ex hb hp0 (by omega)) ?_
  rintro ⟨r, q⟩ ⟨h1, h2, h3⟩
  simp only [] at h1 h2 h3 ⊢
  obtain ⟨d, rfl⟩ := Int.eq_ofNat_of_zero_le h1
  exact Ex.mono (servers_l0 hb n d [] q (by simp; omega) (by omega) (by omega)) (fun x hx => ⟨hx.1, by omega, by omega⟩)

end Go.Proofs.Ytpgheaoepaadlaa.Pu
