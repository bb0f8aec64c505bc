/- The statement FnSectionsValid of the given program holds for every input: for every code of at most 2^20 bytes (and for longer ones at once) the law returns true. No further condition. -/
import Derived.Test.YtabjigpbednfnaaSec
import Derived.Test.YtabjigpbednfnaaFlawsXFnSectionsValid
set_option linter.unusedSimpArgs false
set_option linter.unusedVariables false
namespace Go.Proofs.Ytabjigpbednfnaa.Pure
open Go.RowKit Go.Proofs.Ytabjigpbednfnaa.Q Go.Proofs.Ytabjigpbednfnaa.Pu Go.Proofs.YtabjigpbednfnaaW.PrintWords Go.Proofs.YtabjigpbednfnaaW.PrintLast

theorem law_l0 {l : List Tk} {sc : List Sc} (h : SecOk l sc) : ∀ (d i : Nat), i + d = sc.length → Ex (fun k => laws_FnSectionsValid.l0 k l sc (i : Int)) (fun r => r = true) := by
  have h5 := h.set.len
  have hlen := h.len
  intro d
  induction d with
  | zero =>
    intro i hi
    refine Ex.step ?_
    simp only [laws_FnSectionsValid.l0]
    exact Ex.neg (by omega) (Ex.val rfl)
  | succ d ih =>
    intro i hi
    have next := ih (i + 1) (by omega)
    have hr := h.set.rd i (by omega)
    have hs := h.at_ i (by omega)
    unfold rdT at hr
    have j2 : ∀ sc' : List Sc, SecOk l sc' → Ex (fun k => laws_FnSectionsValid.j2 k l sc (i : Int) sc') (fun r => r = true) := fun sc' h' => Ex.step (by
      simp only [laws_FnSectionsValid.j2, Option.bind_some, List.nil_append, List.length_nil, Int.toNat_natCast]
      rw [swx (by omega)]
      unfold sP at hs
      refine Ex.pos (by omega) (Ex.pos (by omega) (Ex.pos (by omega) (Ex.pos (by omega) (Ex.pos (by omega) (Ex.bind (implSec_ex l (by omega) sc') (fun x hx => Ex.pos (hx.mpr h') (Ex.bind (implSec_ex l (by omega) _) (fun y hy => Ex.neg (fun hy' => ?_) next))))))))
      have hbad := (hy.mp hy').at_ i (by rw [List.length_set]; omega)
      rw [rdS_set sc i i _ (by omega), if_pos rfl] at hbad
      have e : wrap64 (wrap64 ((rd_T33 l (i : Int)).f0 - (rd_T31 sc (i : Int)).f0) + 1) = (rd_T33 l (i : Int)).f0 - (rd_T31 sc (i : Int)).f0 + 1 := by rw [w64 (n := (rd_T33 l (i : Int)).f0 - (rd_T31 sc (i : Int)).f0) (by omega) (by omega), w64 (by omega) (by omega)]
      rw [e] at hbad
      have h3 := hbad.2.2.1.2
      simp only [] at h3
      omega)
    refine Ex.step ?_
    simp only [laws_FnSectionsValid.l0, Option.bind_some, List.nil_append, List.length_nil, Int.toNat_natCast]
    rw [swx (by omega)]
    refine Ex.pos (by omega) (Ex.pos (by omega) (Ex.ite (fun _ => next) (fun h0 => Ex.pos (by omega) (Ex.pos (by omega) ?_))))
    unfold sP at hs
    rw [w64 (n := (rd_T31 sc (i : Int)).f1 - 1) (by omega) (by omega), rdS_set sc i i _ (by omega), if_pos rfl]
    refine Ex.ite (fun h1 => j2 _ ?_) (fun h1 => j2 _ ?_)
    · rw [List.set_set]
      exact h.put ⟨fun _ => ⟨rfl, rfl⟩, ⟨by show (0 : Int) ≤ 0; omega, by show (0 : Int) ≤ _; omega⟩, ⟨by show (0 : Int) ≤ 0; omega, by show (0 : Int) ≤ _ - 0; omega⟩, ⟨by show (0 : Int) ≤ 0; omega, by show (0 : Int) ≤ 2; omega⟩⟩
    · simp only [] at h1
      exact h.put ⟨fun h2 => absurd h2 h1, ⟨by show 0 ≤ (rd_T31 sc (i : Int)).f1 - 1; omega, by show (rd_T31 sc (i : Int)).f1 - 1 ≤ _; omega⟩, ⟨by show 0 ≤ (rd_T31 sc (i : Int)).f0; omega, by show (rd_T31 sc (i : Int)).f0 ≤ _ - ((rd_T31 sc (i : Int)).f1 - 1); omega⟩, hs.2.2.2⟩
theorem drawV_ex (l0 : List Int) (h8 : ∀ x ∈ l0, (Lit.int .u8 x).wf = true) : Ex (fun k => spec_DrawSectionsValid.f k l0) (fun x => x.1.length ≤ 12 ∧ x.2.length ≤ 14) := by
  obtain ⟨b, hb, ho⟩ := open_ev l0 h8
  unfold spec_DrawSectionsValid.f
  rw [ho]
  simp only [Option.bind_some]
  obtain ⟨l, q, hl, q0, q1, hs⟩ := set_ev b hb 0 16 (by omega) (by omega)
  have hbl := hl.len
  refine Ex.bind (Ex.at_ 40 hs (P := fun x => x = (l, q)) rfl) ?_
  intro x hx
  rw [hx]
  simp only []
  exact Ex.bind (secs_ex hbl hb 2 (by omega) (by omega)) (fun y hy => Ex.val ⟨by simp only []; omega, hy.1⟩)
theorem FnSectionsValid : laws_FnSectionsValid.Pure := by
  intro l0 h1 h2 h8
  refine Ex.get ?_
  unfold laws_FnSectionsValid.f
  refine Ex.ite (fun _ => Ex.val rfl) (fun _ => Ex.bind (drawV_ex l0 h8) ?_)
  rintro ⟨l, sc⟩ ⟨hl, hsl⟩
  simp only [] at hl hsl ⊢
  refine Ex.bind (implSec_ex l (by omega) sc) ?_
  intro x hx
  refine Ex.bind (specSec_ex l (by omega) sc) ?_
  intro y hy
  refine Ex.neg (by rw [bool_eqS hx hy]; simp) (Ex.pos (by omega) (Ex.pos (by omega) (Ex.bind (implSec_ex l (by omega) _) (fun z hz => Ex.bind (Ex.at_ 1001 (fun k hk => specSet_eq l (by omega) k (by omega)) (P := fun x => x = setOk l) rfl) (fun w hw => ?_)))))
  have e : z = w := bool_eqS (P := Ok l) (hz.trans ⟨fun h => h.set, fun h => sec_rep h⟩) (by rw [hw]; exact setOk_iff l)
  refine Ex.step ?_
  simp only [laws_FnSectionsValid.j0]
  refine Ex.neg (by rw [e]; simp) (Ex.ite (fun h => ?_) (fun h => ?_))
  · exact law_l0 (hx.mp h) sc.length 0 (by omega)
  · rw [alive_eq]; exact Ex.val rfl

end Go.Proofs.Ytabjigpbednfnaa.Pure
