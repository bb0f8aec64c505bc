/- The statement FnRunProgram of the given program holds for every input: for every code of at most 2^20 bytes (and for longer ones at once) the law returns true. No further condition. -/
import Derived.Test.YtalohoomhmjheaaRunD
import Derived.Test.YtalohoomhmjheaaFlawsXFnRunProgram
set_option linter.unusedSimpArgs false
set_option linter.unusedVariables false
namespace Go.Proofs.Ytalohoomhmjheaa.Pure
open Go.RowKit Go.Proofs.Ytalohoomhmjheaa.Q Go.Proofs.Ytalohoomhmjheaa.Pu Go.Proofs.YtalohoomhmjheaaW.PrintWords Go.Proofs.YtalohoomhmjheaaW.PrintLast

def sft (c : Int) : Int := if c > (-1000) then (if c < 1000 then c + 60 else c) else c
theorem sft_mod (c : Int) {m : Int} (h1 : 1 ≤ m) (h5 : m ≤ 5) : c % m = sft c % m := by
  have e : (c + 60) % m = c % m := by
    rcases (show m = 1 ∨ m = 2 ∨ m = 3 ∨ m = 4 ∨ m = 5 by omega) with rfl | rfl | rfl | rfl | rfl <;> omega
  unfold sft
  split
  · split
    · exact e.symm
    · rfl
  · rfl
theorem rd_out (c : List Int) (i : Nat) (h : c.length ≤ i) : rd c (i : Int) = 0 := by
  unfold rd
  rw [Int.toNat_natCast, List.getD_eq_getElem?_getD, List.getElem?_eq_none h]; rfl
theorem sim_sft (c : List Int) : Sim c (c.map sft) := fun i m h1 h2 => by
  by_cases h : i < c.length
  · rw [rdI_get c i h, rdI_get _ i (by rw [List.length_map]; exact h), List.getElem_map]
    exact sft_mod _ h1 h2
  · rw [rd_out c i (by omega), rd_out _ i (by rw [List.length_map]; omega)]
theorem sim_zero (c : List Int) (n : Nat) : Sim c (c ++ List.replicate n 0) := fun i m h1 h2 => by
  by_cases h : i < c.length
  · rw [rdI_get c i h, rdI_get _ i (by rw [List.length_append]; omega), List.getElem_append_left]
  · rw [rd_out c i (by omega)]
    by_cases h' : i < c.length + n
    · rw [rdI_get _ i (by rw [List.length_append, List.length_replicate]; exact h'), List.getElem_append_right (by omega), List.getElem_replicate]
    · rw [rd_out _ i (by rw [List.length_append, List.length_replicate]; omega)]
theorem runLaw_l0 {l : List Nd} {ch zs : List Int} (hc : ch.length ≤ 40) {n : Int} (hz : ∀ x, ((PV l → x = timeT l zs) ∧ (¬ PV l → x = -1)) → x = n) (hs : ∀ x, ((PV l → x = timeT l (ch.map sft)) ∧ (¬ PV l → x = -1)) → x = n) : ∀ (d j : Nat), j + d = ch.length → Ex (fun k => laws_FnRunProgram.l0 k l ch n zs ((ch.take j).map sft) (j : Int)) (fun x => x = true) := by
  intro d
  induction d with
  | zero =>
    intro j hd
    refine Ex.step ?_
    simp only [laws_FnRunProgram.l0, alive_eq, Option.bind_some]
    rw [List.take_of_length_le (by omega)]
    refine Ex.neg (by omega) (Ex.bind (implRun_ex l zs) (fun x hx => Ex.pos (hz x hx) (Ex.bind (implRun_ex l (ch.map sft)) (fun y hy => Ex.pos (hs y hy) (Ex.val rfl)))))
  | succ d ih =>
    intro j hd
    have e : (ch.take (j + 1)).map sft = (ch.take j).map sft ++ [sft (rd ch (j : Int))] := by
      rw [List.take_succ_eq_append_getElem (show j < ch.length by omega), List.map_append, rdI_get ch j (by omega)]; rfl
    have next := ih (j + 1) (by omega)
    rw [e] at next
    have hlen : ((ch.take j).map sft).length < 17592186044416 := by rw [List.length_map, List.length_take]; omega
    refine Ex.step ?_
    simp only [laws_FnRunProgram.l0]
    rw [pnx j (by omega)]
    unfold sft at next
    refine Ex.pos (by omega) (Ex.pos (by omega) (Ex.ite (fun g1 => Ex.ite (fun g2 => ?_) (fun g2 => ?_)) (fun g1 => ?_)))
    · rw [if_pos g1, if_pos g2] at next
      rw [w64 (n := rd ch (j : Int) + 60) (by omega) (by omega)]
      exact Ex.pos hlen next
    · rw [if_pos g1, if_neg g2] at next
      exact Ex.pos hlen next
    · rw [if_neg g1] at next
      exact Ex.pos hlen next
theorem FnRunProgram : laws_FnRunProgram.Pure := by
  intro l0 h1 h2 h8
  refine Ex.get ?_
  unfold laws_FnRunProgram.f
  refine Ex.ite (fun _ => Ex.val rfl) (fun _ => Ex.bind (drawRun_ex l0 h8) ?_)
  rintro ⟨l, ch⟩ ⟨hl, hc⟩
  simp only [] at hl hc ⊢
  refine Ex.bind (implRun_ex l ch) (fun x hx => Ex.bind (specRun_ex l ch) (fun y hy => ?_))
  have exy : x = y := by
    by_cases h : PV l
    · rw [hx.1 h, hy.1 h]
    · rw [hx.2 h, hy.2 h]
  have same : ∀ c, Sim ch c → ∀ z, ((PV l → z = timeT l c) ∧ (¬ PV l → z = -1)) → z = x := fun c hs z hz => by
    by_cases h : PV l
    · rw [hz.1 h, hx.1 h, timeT_sim h hs]
    · rw [hz.2 h, hx.2 h]
  simp only [Option.bind_some, List.nil_append, List.length_nil]
  exact Ex.pos exy (Ex.pos (by omega) (Ex.pos (by omega) (runLaw_l0 hc (same _ (sim_zero ch 700)) (same _ (sim_sft ch)) ch.length 0 (by omega))))

end Go.Proofs.Ytalohoomhmjheaa.Pure
