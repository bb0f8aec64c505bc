import Derived.Test.YtncombcckeeecaaRespV
import Derived.Test.YtncombcckeeecaaFimplXFixedFeasible
import Derived.Test.YtncombcckeeecaaFspecXDrawFixedFeasible
set_option linter.unusedSimpArgs false
set_option linter.unusedVariables false
namespace Go.Proofs.Ytncombcckeeecaa.Pu
open Go.RowKit Go.Proofs.Ytncombcckeeecaa.Q Go.Proofs.YtncombcckeeecaaW.PrintWords Go.Proofs.YtncombcckeeecaaW.PrintLast

/-- Every task meets its deadline. -/
def Fits (l : List Tk) (o : List Int) (j : Nat) : Prop := ∀ i : Nat, j ≤ i → i < o.length → ∃ R, 0 ≤ R ∧ RespIs (rdT l (rd o (i : Int))).f0 (rdT l (rd o (i : Int))).f1 (itf ((o.take i).map (rdT l))) R
theorem implFF_ex (l : List Tk) (hl : l.length ≤ 1000) (o : List Int) (ho : o.length ≤ 1000) : Ex (fun k => impl_FixedFeasible.f k l o) (fun x => x = true ↔ (OrdP l o ∧ Fits l o 0)) := by
  unfold impl_FixedFeasible.f
  refine Ex.bind (implOrd_ex l hl o ho) ?_
  intro x hx
  refine Ex.ite (fun h => ?_) (fun h => Ex.val ⟨fun g => (by cases g), fun g => absurd (hx.mpr g.1) h⟩)
  have hp := hx.mp h
  refine Ex.bind (implRT_ex l hl o ho) ?_
  intro r hr
  obtain ⟨r1, r2⟩ := hr.1 hp
  have hok := hp.ok.len
  refine Ex.bind (P := fun x => x = true ↔ (-1 : Int) ∈ r) ?_ (fun y hy => Ex.val ?_)
  · unfold slices_Contains_int_int.f
    refine Ex.bind (index_ex r (-1) (by omega)) ?_
    intro z hz
    refine Ex.val ?_
    rw [decide_eq_true_iff]
    exact hz.nonneg
  · have key : Fits l o 0 ↔ (-1 : Int) ∉ r := by
      constructor
      · intro g hm
        obtain ⟨i, hi, e⟩ := mem_rdO.mp hm
        obtain ⟨j, hj, ej⟩ := mem_rdO.mp (hp.has (x := (i : Int)) (by omega) (by omega))
        obtain ⟨R, h0, hR⟩ := g j (by omega) hj
        have hat := hp.idx.at hj
        have := (r2 j hj).uniq (hp.ok.at' hat.1 hat.2).1 hR
        rw [ej, e] at this
        omega
      · intro g i _ hi
        have hat := hp.idx.at hi
        have hx := hp.ok.at' hat.1 hat.2
        refine ⟨_, ?_, r2 i hi⟩
        have hb := (r2 i hi).bd hx.1
        by_cases e : rd r (rd o (i : Int)) = -1
        · exfalso; apply g
          rw [← e]
          exact rd_mem r _ hat.1 (by omega)
        · omega
    rw [key]
    cases y with
    | true => exact ⟨fun g => (by cases g), fun g => absurd (hy.mp rfl) g.2⟩
    | false => exact ⟨fun _ => ⟨hp, fun g => (by have := hy.mpr g; cases this)⟩, fun _ => rfl⟩
theorem draw_ex (l0 : List Int) (h8 : ∀ x ∈ l0, (Lit.int .u8 x).wf = true) : Ex (fun k => spec_DrawFixedFeasible.f k l0) (fun x => x.1.length ≤ 12 ∧ x.2.length ≤ 13) := by
  obtain ⟨b, hb, ho⟩ := open_ev l0 h8
  obtain ⟨l, q, hl, h1, h2, hs⟩ := set_ev b hb 0 20 (by omega) (by omega)
  have hlen := hl.len
  unfold spec_DrawFixedFeasible.f spec_DrawResponseTimes.f
  refine Ex.bind (P := fun x => x.1.length ≤ 12 ∧ x.2.length ≤ 13) ?_ (fun x hx => Ex.val hx)
  simp only [ho, Option.bind_some]
  refine Ex.bind (P := fun x => x = (l, q)) (Ex.at_ 40 hs rfl) ?_
  intro x hx
  rw [hx]
  refine Ex.bind (order_ex hb l.length (by omega) 12 (by omega) (by omega)) (fun y hy => Ex.val ⟨hlen, by simp only []; omega⟩)

end Go.Proofs.Ytncombcckeeecaa.Pu
