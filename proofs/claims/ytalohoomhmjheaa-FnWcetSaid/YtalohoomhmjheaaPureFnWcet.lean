/- The statement FnWcet of the given program holds for every input: for every code of at most 2^20 bytes (and for longer ones at once) the law returns true. No further condition. -/
import Derived.Test.YtalohoomhmjheaaRunD
import Derived.Test.YtalohoomhmjheaaPgmB
import Derived.Test.YtalohoomhmjheaaFlawsXFnWcet
set_option linter.unusedSimpArgs false
set_option linter.unusedVariables false
namespace Go.Proofs.Ytalohoomhmjheaa.Pure
open Go.RowKit Go.Proofs.Ytalohoomhmjheaa.Q Go.Proofs.Ytalohoomhmjheaa.Pu Go.Proofs.YtalohoomhmjheaaW.PrintWords Go.Proofs.YtalohoomhmjheaaW.PrintLast

/-- Every node takes at least one tick at best. -/
theorem V_best {l : List Nd} (hv : NV l) : ∀ j : Nat, j < l.length → 1 ≤ V bF l j := by
  intro j
  induction j using Nat.strongRecOn with
  | _ j ih =>
  intro hj
  rcases V_cases rfl (hv j hj) with ⟨k, c, hg⟩ | ⟨a, b, ha, hb, _, _, k, hg⟩ | ⟨a, ha, _, k, c, hL, hg⟩
  · obtain ⟨x, y, e⟩ := hg bF
    rw [e, bF_1 k]; omega
  · have ia := ih a ha (by omega)
    have ib := ih b hb (by omega)
    have m2 := mn_bd (V bF l a) (V bF l b)
    rw [hg bF]
    rcases k with ⟨k, c⟩ | ⟨k, c⟩
    · rw [bF_2 k]; omega
    · rw [bF_3 k]; omega
  · obtain ⟨y, e⟩ := hg bF
    rw [e, bF_4 k]; omega
theorem FnWcet : laws_FnWcet.Pure := by
  intro l0 h1 h2 h8
  refine Ex.get ?_
  unfold laws_FnWcet.f
  refine Ex.ite (fun _ => Ex.val rfl) (fun _ => Ex.bind (drawRun_ex l0 h8) ?_)
  rintro ⟨l, ch⟩ ⟨hl, hc⟩
  simp only [] at hl hc ⊢
  refine Ex.bind (implRun_ex l ch) (fun x hx => Ex.bind (specRun_ex l ch) (fun y hy => ?_))
  have exy : x = y := by
    by_cases h : PV l
    · rw [hx.1 h, hy.1 h]
    · rw [hx.2 h, hy.2 h]
  refine Ex.pos exy (Ex.bind (specPV_ex l) (fun v hv => Ex.ite (fun h => ?_) (fun h => ?_)))
  · have hp := hv.mp h
    have h1 := hp.pos
    have hf := hp.fit
    have rb := runV_bd hp.nv l.length (l.length - 1) ch (by omega) (by omega)
    have e : timeT l ch = (runV l l.length (l.length - 1) ch).1 := rfl
    have vb := V_best hp.nv (l.length - 1) (by omega)
    have hx1 := hx.1 hp
    refine Ex.bind (implBcet_ex l) (fun a ha => Ex.pos (by rw [ha.1 hp]; omega) (Ex.bind (implWcet_ex l) (fun b hb => Ex.pos (by rw [hb.1 hp]; omega) (Ex.bind (implBcet_ex l) (fun c hc => Ex.pos (by rw [hc.1 hp]; omega) (Ex.bind (implWcet_ex l) (fun d hd => Ex.val ?_)))))))
    rw [hd.1 hp, decide_eq_true_eq]; exact hf
  · have hn : ¬ PV l := fun g => h (hv.mpr g)
    simp only [alive_eq, Option.bind_some]
    exact Ex.pos (hx.2 hn) (Ex.bind (implWcet_ex l) (fun b hb => Ex.pos (hb.2 hn) (Ex.bind (implBcet_ex l) (fun a ha => Ex.pos (ha.2 hn) (Ex.val rfl)))))

end Go.Proofs.Ytalohoomhmjheaa.Pure
