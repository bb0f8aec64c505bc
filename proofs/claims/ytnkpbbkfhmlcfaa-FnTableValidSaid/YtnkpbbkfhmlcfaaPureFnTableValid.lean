/- The statement FnTableValid of the given program holds for every input: for every code of at most 2^20 bytes (and for longer ones at once) the law returns true. No further condition. -/
import Derived.Test.YtnkpbbkfhmlcfaaTabDraw
import Derived.Test.YtnkpbbkfhmlcfaaTabIdle
import Derived.Test.YtnkpbbkfhmlcfaaUtil
import Derived.Test.YtnkpbbkfhmlcfaaFlawsXFnTableValid
set_option linter.unusedSimpArgs false
set_option linter.unusedVariables false
namespace Go.Proofs.Ytnkpbbkfhmlcfaa.Pure
open Go.RowKit Go.Proofs.Ytnkpbbkfhmlcfaa.Q Go.Proofs.Ytnkpbbkfhmlcfaa.Pu Go.Proofs.YtnkpbbkfhmlcfaaW.PrintWords Go.Proofs.YtnkpbbkfhmlcfaaW.PrintLast

theorem tv_l1 {l : List Tk} {tb : List Int} (h : Tv l tb) {j : Nat} (hj : j < l.length) (rest : Ex (fun k => laws_FnTableValid.l0 k l tb ((j + 1 : Nat) : Int)) (fun x => x = true)) :
    ∀ (d t : Nat) (n : Int), t + d = tb.length → 0 ≤ n → n ≤ t → n + cntR tb (j : Int) d (t : Int) = lterm (hyp l) (rd_T42 l (j : Int)) → Ex (fun k => laws_FnTableValid.l1 k l tb (j : Int) n (t : Int)) (fun x => x = true) := by
  have hx := ok_rdT h.ok hj
  have hlen := h.ok.len
  have hm := h.max
  have hL := h.len
  have hb := hyp_bd h.ok
  unfold TkOk at hx
  intro d
  induction d with
  | zero =>
    intro t n ht n0 n1 he
    simp only [cntR, Int.add_zero] at he
    have hq : 0 ≤ (tb.length : Int) / (rd_T42 l (j : Int)).f2 := Int.ediv_nonneg (by omega) (by omega)
    have hq2 : (tb.length : Int) / (rd_T42 l (j : Int)).f2 ≤ tb.length := Int.ediv_le_self _ (by omega)
    have m : 0 ≤ (rd_T42 l (j : Int)).f0 * ((tb.length : Int) / (rd_T42 l (j : Int)).f2) ∧ (rd_T42 l (j : Int)).f0 * ((tb.length : Int) / (rd_T42 l (j : Int)).f2) ≤ 8 * 720 := ⟨Int.mul_nonneg (by omega) hq, Int.mul_le_mul (by omega) (by omega) hq (by omega)⟩
    refine Ex.step ?_
    simp only [laws_FnTableValid.l1]
    rw [w64 (n := (tb.length : Int) / (rd_T42 l (j : Int)).f2) (by omega) (by omega), w64 (n := (rd_T42 l (j : Int)).f0 * ((tb.length : Int) / (rd_T42 l (j : Int)).f2)) (by omega) (by omega), w64 (n := (j : Int) + 1) (by omega) (by omega)]
    refine Ex.neg (by omega) (Ex.pos (by omega) (Ex.pos (by omega) (Ex.neg (by omega) (Ex.pos ?_ rest))))
    rw [he]; unfold lterm; rw [hL, Int.mul_comm]
  | succ d ih =>
    intro t n ht n0 n1 he
    simp only [cntR] at he
    refine Ex.step ?_
    simp only [laws_FnTableValid.l1]
    rw [w64 (n := (t : Int) + 1) (by omega) (by omega), w64 (n := n + 1) (by omega) (by omega)]
    refine Ex.pos (by omega) (Ex.pos (by omega) (Ex.ite (fun hh => ?_) (fun hh => ?_)))
    · rw [if_pos hh] at he
      exact ih (t + 1) (n + 1) (by omega) (by omega) (by omega) (by rw [show ((t + 1 : Nat) : Int) = (t : Int) + 1 from by omega]; omega)
    · rw [if_neg hh] at he
      exact ih (t + 1) n (by omega) (by omega) (by omega) (by rw [show ((t + 1 : Nat) : Int) = (t : Int) + 1 from by omega]; omega)
theorem tv_l0 {l : List Tk} {tb : List Int} (hv : tvO l tb = true) : ∀ (d j : Nat), j + d = l.length → Ex (fun k => laws_FnTableValid.l0 k l tb (j : Int)) (fun x => x = true) := by
  have h := Tv.mk' hv
  have hlen := h.ok.len
  have hm := h.max
  have hL := h.len
  have hb := hyp_bd h.ok
  intro d
  induction d with
  | zero =>
    intro j hj
    refine Ex.step ?_
    simp only [laws_FnTableValid.l0]
    refine Ex.neg (by omega) (Ex.bind (P := fun x => x = utO l) (Ex.at_ 300000 (fun k hk => implUtil_eq l k hk) rfl) ?_)
    intro x hx
    rw [hx]
    refine Ex.bind (implIdle_ex l tb (by omega)) ?_
    intro y hy
    rw [hy]
    have e : ((idO l tb).length : Int) = hyp l - ld l := by unfold idO; rw [if_pos hv, idl_len, h.idle]
    have hu := (ut_spec h.ok).cross
    have hld := ld_bd h.ok
    have eu : utO l = redI (ld l) (hyp l) := by unfold utO; rw [if_pos ((setOk_iff l).mpr h.ok)]
    have hg := gcdI_spec (ld l) (hyp l) hld.1 (by omega)
    have hub : 0 ≤ (utO l).1 ∧ (utO l).1 ≤ ld l ∧ 1 ≤ (utO l).2 ∧ (utO l).2 ≤ hyp l := by rw [eu]; unfold redI; simp only []; omega
    have hidle : 0 ≤ hyp l - ld l := by rw [← e]; omega
    generalize utO l = U at *
    have m1 : 0 ≤ (hyp l - ld l) * U.2 ∧ (hyp l - ld l) * U.2 ≤ 720 * 720 := ⟨Int.mul_nonneg hidle (by omega), Int.mul_le_mul (by omega) (by omega) (by omega) (by omega)⟩
    have key : (hyp l - ld l) * U.2 = hyp l * (U.2 - U.1) := by
      rw [Int.sub_mul, Int.mul_sub, Int.mul_comm (hyp l) U.1, hu]
    refine Ex.val ?_
    rw [e, hL, w64 (n := (hyp l - ld l) * U.2) (by omega) (by omega), w64 (n := U.2 - U.1) (by omega) (by omega), w64 (n := hyp l * (U.2 - U.1)) (by omega) (by omega), key, beq_self_eq_true]
  | succ d ih =>
    intro j hj
    refine Ex.step ?_
    simp only [laws_FnTableValid.l0]
    refine Ex.pos (by omega) ?_
    exact tv_l1 h (by omega) (ih (j + 1) (by omega)) tb.length 0 0 (by omega) (by omega) (by omega) (by rw [Int.zero_add, show ((0 : Nat) : Int) = 0 from rfl]; exact h.cnt (by omega))
theorem FnTableValid : laws_FnTableValid.Pure := by
  intro l0 _ _ h8
  refine Ex.get ?_
  unfold laws_FnTableValid.f
  refine Ex.ite (fun _ => Ex.val rfl) (fun _ => Ex.bind (drawTv_ex l0 h8) ?_)
  rintro ⟨l, tb⟩ ⟨hl, ht⟩
  have hlen := hl.len
  simp only [] at hl ht hlen ⊢
  refine Ex.bind (implTv_ex l tb) ?_
  rintro _ rfl
  refine Ex.bind (specTv_ex l (by omega) tb) ?_
  rintro _ rfl
  simp only [alive_eq, Option.bind_some]
  exact Ex.neg (by simp) (Ex.ite (fun h => tv_l0 h l.length 0 (by omega)) (fun _ => Ex.val rfl))

end Go.Proofs.Ytnkpbbkfhmlcfaa.Pure
