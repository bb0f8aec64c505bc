/- The statement FnWcetMonotone of the given program holds for every input: for every code of at most 2^20 bytes (and for longer ones at once) the law returns true. No further condition. -/
import Derived.Test.YtalohoomhmjheaaPgmD
import Derived.Test.YtalohoomhmjheaaPgmB
import Derived.Test.YtalohoomhmjheaaFspecXDrawBcet
import Derived.Test.YtalohoomhmjheaaFlawsXFnWcetMonotone
set_option linter.unusedSimpArgs false
set_option linter.unusedVariables false
namespace Go.Proofs.Ytalohoomhmjheaa.Pure
open Go.RowKit Go.Proofs.Ytalohoomhmjheaa.Q Go.Proofs.Ytalohoomhmjheaa.Pu Go.Proofs.YtalohoomhmjheaaW.PrintWords Go.Proofs.YtalohoomhmjheaaW.PrintLast

theorem drawBc_ex (l0 : List Int) (h8 : ∀ x ∈ l0, (Lit.int .u8 x).wf = true) : Ex (fun k => spec_DrawBcet.f k l0) (fun x => x.length ≤ 13) := by
  obtain ⟨b, hb, ho⟩ := open_ev l0 h8
  unfold spec_DrawBcet.f
  rw [ho]
  simp only [Option.bind_some]
  exact Ex.bind (prog_ex hb 9) (fun x hx => Ex.val hx)
theorem FnWcetMonotone : laws_FnWcetMonotone.Pure := by
  intro l0 h1 h2 h8
  refine Ex.get ?_
  unfold laws_FnWcetMonotone.f
  refine Ex.ite (fun _ => Ex.val rfl) (fun _ => Ex.bind (drawBc_ex l0 h8) (fun l hl => ?_))
  refine Ex.bind (implBcet_ex l) (fun x hx => Ex.bind (specBcet_ex l) (fun y hy => ?_))
  have exy : x = y := by
    by_cases h : PV l
    · rw [hx.1 h, hy.1 h]
    · rw [hx.2 h, hy.2 h]
  simp only [Option.bind_some, List.nil_append, List.length_nil, alive_eq]
  refine Ex.pos exy (Ex.bind (specPV_ex l) (fun v hv => Ex.ite (fun h => ?_) (fun h => Ex.pos (hx.2 (fun g => h (hv.mpr g))) (Ex.val rfl))))
  have hp := hv.mp h
  have h1 := hp.pos
  have h12 := hp.len
  have hbx := hx.1 hp
  have vb := V_bd hp.nv (l.length - 1) (by omega)
  have m0 := Int.emod_nonneg (l0.length : Int) (show (l.length : Int) ≠ 0 by omega)
  have m1 := Int.emod_lt_of_pos (l0.length : Int) (show (0 : Int) < (l.length : Int) by omega)
  obtain ⟨i, hi⟩ : ∃ i : Nat, (l0.length : Int) % (l.length : Int) = (i : Int) := ⟨((l0.length : Int) % (l.length : Int)).toNat, by omega⟩
  rw [hi] at m0 m1 ⊢
  have yes : Ex (fun k => laws_FnWcetMonotone.j0 k l x (i : Int) l true) (fun r => r = true) := by
    refine Ex.step ?_
    simp only [laws_FnWcetMonotone.j0]
    refine Ex.pos trivial (Ex.bind (implWcet_ex l) (fun z hz => Ex.val ?_))
    rw [hz.1 hp, decide_eq_true_eq]; omega
  refine Ex.neg (by omega) (Ex.pos (by omega) (Ex.pos (by omega) (Ex.pos (by omega) (Ex.ite (fun k1 => ?_) (fun _ => yes)))))
  by_cases e9 : (rd_T28 l (i : Int)).f1 = 9
  · rw [show ((rd_T28 l (i : Int)).f1 == 9) = true from beq_iff_eq.mpr e9]; exact yes
  · rw [show ((rd_T28 l (i : Int)).f1 == 9) = false from beq_eq_false_iff_ne.mpr e9]
    refine Ex.step ?_
    simp only [laws_FnWcetMonotone.j0, Option.bind_some, Int.toNat_natCast]
    have hn := hp.nv i (by omega)
    have hc : (rd_T28 l (i : Int)).f1 ≤ 9 ∧ 0 ≤ (rd_T28 l (i : Int)).f1 := by unfold nvP at hn; omega
    rw [w64 (n := (rd_T28 l (i : Int)).f1 + 1) (by omega) (by omega)]
    have eu : l.set i ⟨(rd_T28 l (i : Int)).f0, (rd_T28 l (i : Int)).f1 + 1, (rd_T28 l (i : Int)).f2, (rd_T28 l (i : Int)).f3, (rd_T28 l (i : Int)).f4⟩ = up l i := rfl
    rw [eu]
    refine Ex.neg (by decide) (Ex.pos (by omega) (Ex.pos (by omega) (Ex.bind (implWcet_ex l) (fun z hz => Ex.pos (by rw [hz.1 hp]; omega) (Ex.bind (implPV_ex (up l i)) (fun p hpv => Ex.ite (fun g => ?_) (fun _ => Ex.val rfl)))))))
    have hu := hpv.mp g
    have uv := up_V hp.nv hu.nv (l.length - 1) (by omega)
    have el := up_len l i
    refine Ex.bind (implBcet_ex (up l i)) (fun q hq => Ex.pos (by rw [hq.1 hu, el]; omega) (Ex.bind (implWcet_ex (up l i)) (fun r hr => Ex.bind (implWcet_ex l) (fun s hs => Ex.val ?_))))
    rw [hr.1 hu, hs.1 hp, el, decide_eq_true_eq]; omega

end Go.Proofs.Ytalohoomhmjheaa.Pure
