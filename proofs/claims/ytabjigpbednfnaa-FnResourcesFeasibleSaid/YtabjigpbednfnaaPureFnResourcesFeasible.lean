/- The statement FnResourcesFeasible of the given program holds for every input: for every code of at most 2^20 bytes (and for longer ones at once) the law returns true. No further condition. -/
import Derived.Test.YtabjigpbednfnaaSecB
import Derived.Test.YtabjigpbednfnaaSecD
import Derived.Test.YtabjigpbednfnaaPB
import Derived.Test.YtabjigpbednfnaaImplDem
import Derived.Test.YtabjigpbednfnaaSpecDem
import Derived.Test.YtabjigpbednfnaaImplEdf
import Derived.Test.YtabjigpbednfnaaFimplXResourcesFeasible
import Derived.Test.YtabjigpbednfnaaFspecXResourcesFeasible
import Derived.Test.YtabjigpbednfnaaFspecXDrawResourcesFeasible
import Derived.Test.YtabjigpbednfnaaFlawsXFnResourcesFeasible
set_option linter.unusedSimpArgs false
set_option linter.unusedVariables false
namespace Go.Proofs.Ytabjigpbednfnaa.Pure
open Go.RowKit Go.Proofs.Ytabjigpbednfnaa.Q Go.Proofs.Ytabjigpbednfnaa.Pu Go.Proofs.YtabjigpbednfnaaW.PrintWords Go.Proofs.YtabjigpbednfnaaW.PrintLast

/-- The processor demand with blocking fits every interval. -/
def RfP (l : List Tk) (sc : List Sc) : Prop := SecOk l sc ∧ ∀ s, 1 ≤ s → s ≤ hyp l → dem l s + blkV l sc s ≤ s
theorem implHyp_exR (l : List Tk) (h : Ok l) : Ex (fun k => impl_hyper.f k l) (fun x => x = hyp l) := Ex.at_ 20 (fun k hk => implHyper_eq l h k hk) rfl
theorem implRf_loop {l : List Tk} {sc : List Sc} (h : SecOk l sc) : ∀ (n : Nat) (t : Int), t + n = hyp l + 1 → 1 ≤ t → Ex (fun k => impl_ResourcesFeasible.l0 k l sc t) (fun x => x = true ↔ ∀ s, t ≤ s → s ≤ hyp l → dem l s + blkV l sc s ≤ s) := by
  have hok := h.set
  have hh := hyp_bd hok
  intro n
  induction n with
  | zero =>
    intro t ht h1
    refine Ex.step ?_
    simp only [impl_ResourcesFeasible.l0]
    refine Ex.bind (implHyp_exR l hok) ?_
    rintro _ rfl
    exact Ex.neg (by omega) (Ex.val (siff_yes (fun s g1 g2 => by omega)))
  | succ n ih =>
    intro t ht h1
    have hd := dem_bd hok t (by omega)
    have hb := blkV_le8 h t
    have hb0 := (blkV_spec l sc t).1
    refine Ex.step ?_
    simp only [impl_ResourcesFeasible.l0]
    refine Ex.bind (implHyp_exR l hok) ?_
    rintro _ rfl
    refine Ex.pos (by omega) (Ex.bind (P := fun x => x = dem l t) (Ex.at_ 20 (fun k hk => implDem_eq l hok t (by omega) (by omega) k hk) rfl) ?_)
    rintro _ rfl
    refine Ex.bind (implBlk_ex h t) ?_
    rintro _ rfl
    rw [w64 (n := dem l t + blkV l sc t) (by omega) (by omega), w64 (n := t + 1) (by omega) (by omega)]
    refine Ex.ite (fun g => Ex.val (siff_no (fun h' => by have := h' t (by omega) (by omega); omega))) (fun g => ?_)
    exact Ex.mono (ih (t + 1) (by omega) (by omega)) (fun r hr => hr.trans ⟨fun h' s g1 g2 => by
      by_cases e : s = t
      · rw [e]; omega
      · exact h' s (by omega) g2, fun h' s g1 g2 => h' s (by omega) g2⟩)
theorem specRf_loop {l : List Tk} {sc : List Sc} (h : SecOk l sc) : ∀ (n : Nat) (t : Int), t + n = hyp l + 1 → 1 ≤ t → Ex (fun k => spec_ResourcesFeasible.l0 k l sc (hyp l) t) (fun x => x = true ↔ ∀ s, t ≤ s → s ≤ hyp l → dem l s + blkV l sc s ≤ s) := by
  have hok := h.set
  have hh := hyp_bd hok
  intro n
  induction n with
  | zero =>
    intro t ht h1
    refine Ex.step ?_
    simp only [spec_ResourcesFeasible.l0]
    exact Ex.neg (by omega) (Ex.val (siff_yes (fun s g1 g2 => by omega)))
  | succ n ih =>
    intro t ht h1
    have hd := dem_bd hok t (by omega)
    have hb := blkV_le8 h t
    have hb0 := (blkV_spec l sc t).1
    refine Ex.step ?_
    simp only [spec_ResourcesFeasible.l0]
    refine Ex.pos (by omega) (Ex.bind (P := fun x => x = dem l t) (Ex.at_ 20 (fun k hk => specDem_eq l hok t (by omega) (by omega) k hk) rfl) ?_)
    rintro _ rfl
    refine Ex.bind (specBlk_ex h t) ?_
    rintro _ rfl
    rw [w64 (n := dem l t + blkV l sc t) (by omega) (by omega), w64 (n := t + 1) (by omega) (by omega)]
    refine Ex.ite (fun g => Ex.val (siff_no (fun h' => by have := h' t (by omega) (by omega); omega))) (fun g => ?_)
    exact Ex.mono (ih (t + 1) (by omega) (by omega)) (fun r hr => hr.trans ⟨fun h' s g1 g2 => by
      by_cases e : s = t
      · rw [e]; omega
      · exact h' s (by omega) g2, fun h' s g1 g2 => h' s (by omega) g2⟩)
theorem implRf_ex (l : List Tk) (hl : l.length ≤ 1000) (sc : List Sc) : Ex (fun k => impl_ResourcesFeasible.f k l sc) (fun x => x = true ↔ RfP l sc) := by
  unfold impl_ResourcesFeasible.f
  refine Ex.bind (implSec_ex l hl sc) (fun b hb => Ex.ite (fun h => ?_) (fun h => Ex.val (siff_no (fun h' => h (hb.mpr h'.1)))))
  have hs := hb.mp h
  have hh := hyp_bd hs.set
  exact Ex.mono (implRf_loop hs (hyp l).toNat 1 (by omega) (by omega)) (fun r hr => hr.trans ⟨fun h' => ⟨hs, h'⟩, fun h' => h'.2⟩)
theorem specRf_ex (l : List Tk) (hl : l.length ≤ 1000) (sc : List Sc) : Ex (fun k => spec_ResourcesFeasible.f k l sc) (fun x => x = true ↔ RfP l sc) := by
  unfold spec_ResourcesFeasible.f
  refine Ex.bind (specSec_ex l hl sc) (fun b hb => Ex.ite (fun h => ?_) (fun h => Ex.val (siff_no (fun h' => h (hb.mpr h'.1)))))
  have hs := hb.mp h
  have hh := hyp_bd hs.set
  refine Ex.bind (P := fun x => x = hyp l) (Ex.at_ 20 (fun k hk => specHyper_eq l hs.set k hk) rfl) ?_
  rintro _ rfl
  exact Ex.mono (specRf_loop hs (hyp l).toNat 1 (by omega) (by omega)) (fun r hr => hr.trans ⟨fun h' => ⟨hs, h'⟩, fun h' => h'.2⟩)
/-- Without sections nothing blocks. -/
theorem blk_zero (l : List Tk) (t : Int) : blkV l (List.replicate (l.length : Int).toNat z31) t = 0 := by
  rcases (blkV_spec l (List.replicate (l.length : Int).toNat z31) t).2.2 with h | ⟨i, g1, g2, g3⟩
  · exact h
  · have := g2.2.1
    rw [rdS_rep _ i _ (by omega)] at this
    exact absurd this (by decide)
theorem rf_zero (l : List Tk) : RfP l (List.replicate (l.length : Int).toNat z31) ↔ edf l = true := by
  rw [edf_iff]
  constructor
  · exact fun h => ⟨h.1.set, fun s g1 g2 => by have := h.2 s g1 g2; rw [blk_zero] at this; omega⟩
  · exact fun h => ⟨sec_rep h.1, fun s g1 g2 => by have := h.2 s g1 g2; rw [blk_zero]; omega⟩
/-- To drop a section only raises the ceilings. -/
theorem uses_set {sc : List Sc} {i j : Nat} (hj : j < sc.length) {r : Int} (h : uses (sc.set i ⟨0, 0, 0⟩) r j) : uses sc r j := by
  unfold uses at h ⊢
  rw [rdS_set sc i j _ hj] at h
  by_cases e : i = j
  · rw [if_pos e] at h; exact absurd h.1 (by decide)
  · rw [if_neg e] at h; exact h
theorem ceil_set (l : List Tk) {sc : List Sc} (hlen : sc.length = l.length) (i : Nat) (r : Int) : ceilV l sc r ≤ ceilV l (sc.set i ⟨0, 0, 0⟩) r := by
  obtain ⟨a1, a2, _⟩ := ceilV_spec l sc r
  rcases (ceilV_spec l (sc.set i ⟨0, 0, 0⟩) r).2.2 with h | ⟨j, g1, g2, g3⟩
  · omega
  · have := a2 j g1 (uses_set (by omega) g2)
    omega
theorem blk_set (l : List Tk) {sc : List Sc} (hlen : sc.length = l.length) (i : Nat) (t : Int) : blkV l (sc.set i ⟨0, 0, 0⟩) t ≤ blkV l sc t := by
  obtain ⟨a1, a2, _⟩ := blkV_spec l sc t
  rcases (blkV_spec l (sc.set i ⟨0, 0, 0⟩) t).2.2 with h | ⟨j, g1, g2, g3⟩
  · omega
  · unfold blks at g2
    rw [rdS_set sc i j _ (by omega)] at g2 g3
    by_cases e : i = j
    · rw [if_pos e] at g2; exact absurd g2.2.1 (by decide)
    · rw [if_neg e] at g2 g3
      have hc := ceil_set l hlen i (rd_T31 sc (j : Int)).f2
      have := a2 j g1 ⟨g2.1, g2.2.1, by omega⟩
      omega
theorem rf_put {l : List Tk} {sc : List Sc} (h : RfP l sc) (i : Nat) (hi : i < l.length) : RfP l (sc.set i ⟨0, 0, 0⟩) := by
  have hr := h.1.set.rd i hi
  unfold rdT at hr
  refine ⟨h.1.put ⟨fun _ => ⟨rfl, rfl⟩, ⟨by decide, by show (0 : Int) ≤ _; omega⟩, ⟨by decide, by show (0 : Int) ≤ _ - 0; omega⟩, ⟨by decide, by decide⟩⟩, fun s g1 g2 => ?_⟩
  have := h.2 s g1 g2
  have := blk_set l h.1.len i s
  omega
theorem edf_exR (l : List Tk) : Ex (fun k => impl_EdfFeasible.f k l) (fun x => x = edf l) := Ex.at_ 300000 (fun k hk => implEdf_eq l k hk) rfl
theorem rf_edf {l : List Tk} {sc : List Sc} (h : RfP l sc) : edf l = true := (edf_iff l).mpr ⟨h.1.set, fun s g1 g2 => by have := h.2 s g1 g2; have := (blkV_spec l sc s).1; omega⟩
theorem law_lR {l : List Tk} {sc : List Sc} (h : RfP l sc) : ∀ (d i : Nat), i + d = sc.length → Ex (fun k => laws_FnResourcesFeasible.l0 k l sc (i : Int)) (fun x => x = true) := by
  have h5 := h.1.set.len
  have hlen := h.1.len
  intro d
  induction d with
  | zero =>
    intro i hi
    refine Ex.step ?_
    simp only [laws_FnResourcesFeasible.l0]
    refine Ex.neg (by omega) (Ex.bind (edf_exR l) ?_)
    rintro _ rfl
    exact Ex.val (rf_edf h)
  | succ d ih =>
    intro i hi
    refine Ex.step ?_
    simp only [laws_FnResourcesFeasible.l0, Option.bind_some, List.nil_append, List.length_nil, Int.toNat_natCast]
    rw [swx (by omega)]
    refine Ex.pos (by omega) (Ex.pos (by omega) (Ex.pos (by omega) (Ex.pos (by omega) (Ex.bind (implRf_ex l (by omega) _) (fun b hb => ?_)))))
    exact Ex.pos (hb.mpr (rf_put h i (by omega))) (ih (i + 1) (by omega))
theorem FnResourcesFeasible : laws_FnResourcesFeasible.Pure := by
  intro l0 h1 h2 h8
  refine Ex.get ?_
  unfold laws_FnResourcesFeasible.f
  refine Ex.ite (fun _ => Ex.val rfl) (fun _ => Ex.bind (P := fun x => x.1.length ≤ 12) ?_ ?_)
  · unfold spec_DrawResourcesFeasible.f
    exact Ex.bind (drawC_ex l0 h8) (fun x hx => Ex.val hx.1)
  rintro ⟨l, sc⟩ hl
  simp only [] at hl ⊢
  refine Ex.bind (implRf_ex l (by omega) sc) (fun x hx => Ex.bind (specRf_ex l (by omega) sc) (fun y hy => ?_))
  have exy : x = y := bool_eqS hx hy
  refine Ex.neg (by rw [exy]; cases y <;> decide) (Ex.pos (by omega) (Ex.pos (by omega) (Ex.bind (implRf_ex l (by omega) _) (fun z hz => Ex.bind (edf_exR l) ?_))))
  rintro _ rfl
  have ez : z = edf l := bool_eqS hz (rf_zero l).symm
  rw [ez, show (edf l != edf l) = false by cases edf l <;> rfl]
  refine Ex.step ?_
  simp only [laws_FnResourcesFeasible.j0, alive_eq, Option.bind_some]
  refine Ex.neg (by decide) (Ex.ite (fun h => law_lR (hx.mp h) sc.length 0 (by omega)) (fun _ => Ex.val rfl))

end Go.Proofs.Ytabjigpbednfnaa.Pure
