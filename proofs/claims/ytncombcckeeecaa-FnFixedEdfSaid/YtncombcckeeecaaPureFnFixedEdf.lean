/- The statement FnFixedEdf of the given program holds for every input: for every code of at most 2^20 bytes (and for longer ones at once) the law returns true. No further condition. -/
import Derived.Test.YtncombcckeeecaaRespV
import Derived.Test.YtncombcckeeecaaImplEdf
import Derived.Test.YtncombcckeeecaaFlawsXFnFixedEdf
set_option linter.unusedSimpArgs false
set_option linter.unusedVariables false
namespace Go.Proofs.Ytncombcckeeecaa.Pure
open Go.RowKit Go.Proofs.Ytncombcckeeecaa.Q Go.Proofs.Ytncombcckeeecaa.Pu Go.Proofs.YtncombcckeeecaaW.PrintWords Go.Proofs.YtncombcckeeecaaW.PrintLast

/-- Every task meets its deadline. -/
def Fits (l : List Tk) (o : List Int) (j : Nat) : Prop := ∀ i : Nat, j ≤ i → i < o.length → ∃ R, 0 ≤ R ∧ RespIs (rdT l (rd o (i : Int))).f0 (rdT l (rd o (i : Int))).f1 (itf ((o.take i).map (rdT l))) R
theorem specFits_loop {l : List Tk} {o : List Int} (h : OrdP l o) : ∀ (d j : Nat), j + d = o.length → Ex (fun k => spec_l4Fits.l0 k l o (j : Int)) (fun x => x = true ↔ Fits l o j) := by
  have hlen := h.idx.len
  intro d
  induction d with
  | zero =>
    intro j hj
    refine Ex.step ?_
    simp only [spec_l4Fits.l0]
    exact Ex.neg (by omega) (Ex.val ⟨fun _ i h1 h2 => by omega, fun _ => rfl⟩)
  | succ d ih =>
    intro j hj
    have hat := h.idx.at (show j < o.length by omega)
    have hx := h.ok.at' hat.1 hat.2
    refine Ex.step ?_
    simp only [spec_l4Fits.l0]
    rw [w64 (n := (j : Int) + 1) (by omega) (by omega), Int.toNat_natCast]
    refine Ex.pos (by omega) (Ex.pos (by omega) (Ex.pos (by omega) (Ex.bind (specResp_ex (h.idx.take j) hat.1 hat.2) ?_)))
    intro t ht
    refine Ex.ite (fun hn => Ex.val ⟨fun g => (by cases g), fun g => ?_⟩) (fun hn => ?_)
    · obtain ⟨R, h0, hR⟩ := g j (Nat.le_refl _) (by omega)
      have := ht.uniq hx.1 hR
      omega
    · refine Ex.mono (ih (j + 1) (by omega)) (fun y hy => ?_)
      rw [hy]
      exact from_iff (P := fun i => ∃ R, 0 ≤ R ∧ RespIs (rdT l (rd o (i : Int))).f0 (rdT l (rd o (i : Int))).f1 (itf ((o.take i).map (rdT l))) R) ⟨t, by omega, ht⟩
theorem specFF_ex (l : List Tk) (hl : l.length ≤ 1000) (o : List Int) (ho : o.length ≤ 1000) : Ex (fun k => spec_FixedFeasible.f k l o) (fun x => x = true ↔ (OrdP l o ∧ Fits l o 0)) := by
  unfold spec_FixedFeasible.f
  refine Ex.bind (specOrd_ex l hl o ho) ?_
  intro x hx
  refine Ex.ite (fun h => ?_) (fun h => Ex.val ⟨fun g => (by cases g), fun g => absurd (hx.mpr g.1) h⟩)
  have hp := hx.mp h
  refine Ex.bind (P := fun x => x = true ↔ Fits l o 0) ?_ (fun y hy => Ex.val ?_)
  · unfold spec_l4Fits.f
    exact specFits_loop hp o.length 0 (by omega)
  · rw [hy]; exact ⟨fun g => ⟨hp, g⟩, fun g => g.2⟩
theorem implFF_ex (l : List Tk) (hl : l.length ≤ 1000) (o : List Int) (ho : o.length ≤ 1000) : Ex (fun k => impl_FixedFeasible.f k l o) (fun x => x = true ↔ (OrdP l o ∧ Fits l o 0)) := by
  unfold impl_FixedFeasible.f
  refine Ex.bind (implOrd_ex l hl o ho) ?_
  intro x hx
  refine Ex.ite (fun h => ?_) (fun h => Ex.val ⟨fun g => (by cases g), fun g => absurd (hx.mpr g.1) h⟩)
  have hp := hx.mp h
  refine Ex.bind (implRT_ex l hl o ho) ?_
  intro r hr
  obtain ⟨r1, r2⟩ := hr.1 hp
  have hok := hp.ok.len
  refine Ex.bind (P := fun x => x = true ↔ (-1 : Int) ∈ r) ?_ (fun y hy => Ex.val ?_)
  · unfold slices_Contains_int_int.f
    refine Ex.bind (index_ex r (-1) (by omega)) ?_
    intro z hz
    refine Ex.val ?_
    rw [decide_eq_true_iff]
    exact hz.nonneg
  · have key : Fits l o 0 ↔ (-1 : Int) ∉ r := by
      constructor
      · intro g hm
        obtain ⟨i, hi, e⟩ := mem_rdO.mp hm
        obtain ⟨j, hj, ej⟩ := mem_rdO.mp (hp.has (x := (i : Int)) (by omega) (by omega))
        obtain ⟨R, h0, hR⟩ := g j (by omega) hj
        have hat := hp.idx.at hj
        have := (r2 j hj).uniq (hp.ok.at' hat.1 hat.2).1 hR
        rw [ej, e] at this
        omega
      · intro g i _ hi
        have hat := hp.idx.at hi
        have hx := hp.ok.at' hat.1 hat.2
        refine ⟨_, ?_, r2 i hi⟩
        have hb := (r2 i hi).bd hx.1
        by_cases e : rd r (rd o (i : Int)) = -1
        · exfalso; apply g
          rw [← e]
          exact rd_mem r _ hat.1 (by omega)
        · omega
    rw [key]
    cases y with
    | true => exact ⟨fun g => (by cases g), fun g => absurd (hy.mp rfl) g.2⟩
    | false => exact ⟨fun _ => ⟨hp, fun g => (by have := hy.mpr g; cases this)⟩, fun _ => rfl⟩
theorem fits_edf {l : List Tk} {o : List Int} (h : OrdP l o) (hf : Fits l o 0) : edf l = true := by
  rw [edf_iff]
  refine ⟨h.ok, fun s h1 h2 => ?_⟩
  have hd : dem l s = dem (o.map (rdT l)) s := (sumT_perm h.tasks).symm
  rw [hd]
  have := fix_all (hs := o.map (rdT l)) h.idx.tasks (fun k hk => ?_) (o.map (rdT l)).length (Nat.le_refl _) s (by omega)
  · rwa [List.take_length] at this
  · rw [List.length_map] at hk
    obtain ⟨R, h0, hR⟩ := hf k (by omega) hk
    refine ⟨R, h0, ?_⟩
    rw [List.getElem_map, ← rd_getO o k hk, ← List.map_take]
    exact hR
theorem draw_ex (l0 : List Int) (h8 : ∀ x ∈ l0, (Lit.int .u8 x).wf = true) : Ex (fun k => spec_DrawFixedFeasible.f k l0) (fun x => x.1.length ≤ 12 ∧ x.2.length ≤ 13) := by
  obtain ⟨b, hb, ho⟩ := open_ev l0 h8
  obtain ⟨l, q, hl, h1, h2, hs⟩ := set_ev b hb 0 20 (by omega) (by omega)
  have hlen := hl.len
  unfold spec_DrawFixedFeasible.f spec_DrawResponseTimes.f
  refine Ex.bind (P := fun x => x.1.length ≤ 12 ∧ x.2.length ≤ 13) ?_ (fun x hx => Ex.val hx)
  simp only [ho, Option.bind_some]
  refine Ex.bind (P := fun x => x = (l, q)) (Ex.at_ 40 hs rfl) ?_
  intro x hx
  rw [hx]
  refine Ex.bind (order_ex hb l.length (by omega) 12 (by omega) (by omega)) (fun y hy => Ex.val ⟨hlen, by simp only []; omega⟩)
theorem FnFixedEdf : laws_FnFixedEdf.Pure := by
  intro l0 h1 h2 h8
  refine Ex.get ?_
  unfold laws_FnFixedEdf.f
  refine Ex.ite (fun _ => Ex.val rfl) (fun _ => Ex.bind (draw_ex l0 h8) ?_)
  rintro ⟨l, o⟩ ⟨hl, ho⟩
  simp only [] at hl ho ⊢
  refine Ex.bind (implFF_ex l (by omega) o (by omega)) ?_
  intro x hx
  refine Ex.bind (specFF_ex l (by omega) o (by omega)) ?_
  intro y hy
  have exy := bool_iff hx hy
  refine Ex.neg (by rw [exy]; simp) (Ex.ite (fun h => ?_) (fun h => ?_))
  · have := fits_edf (hx.mp h).1 (hx.mp h).2
    refine Ex.bind (P := fun z => z = true) (Ex.at_ 300000 (fun k hk => ?_) rfl) (fun z hz => Ex.pos hz (Ex.val rfl))
    rw [implEdf_eq l k hk, this]
  · rw [alive_eq]; exact Ex.val rfl

end Go.Proofs.Ytncombcckeeecaa.Pure
