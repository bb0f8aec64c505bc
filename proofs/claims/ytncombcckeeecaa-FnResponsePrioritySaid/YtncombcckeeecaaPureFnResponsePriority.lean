/- The statement FnResponsePriority of the given program holds for every input: for every code of at most 2^20 bytes (and for longer ones at once) the law returns true. No further condition. -/
import Derived.Test.YtncombcckeeecaaRespS
import Derived.Test.YtncombcckeeecaaFlawsXFnResponsePriority
set_option linter.unusedSimpArgs false
set_option linter.unusedVariables false
set_option linter.unusedSectionVars false
namespace Go.Proofs.Ytncombcckeeecaa.Pure
open Go.RowKit Go.Proofs.Ytncombcckeeecaa.Q Go.Proofs.Ytncombcckeeecaa.Pu Go.Proofs.YtncombcckeeecaaW.PrintWords Go.Proofs.YtncombcckeeecaaW.PrintLast

/-- Two neighbours of an order change places. -/
def swp (o : List Int) (M : Nat) : List Int := (o.set (M + 1) (rd o (M : Int))).set M (rd o ((M + 1 : Nat) : Int))
def sg (M i : Nat) : Nat := if i = M then M + 1 else if i = M + 1 then M else i
theorem rd_swp (o : List Int) {M : Nat} (hM : M + 1 < o.length) (i : Nat) : rd (swp o M) (i : Int) = rd o ((sg M i : Nat) : Int) := by
  unfold swp sg
  have a := rd_setO (o.set (M + 1) (rd o (M : Int))) (M : Int) (i : Int) (rd o ((M + 1 : Nat) : Int)) (by omega) (by rw [List.length_set]; omega) (by omega)
  have b := rd_setO o ((M + 1 : Nat) : Int) (i : Int) (rd o (M : Int)) (by omega) (by omega) (by omega)
  rw [Int.toNat_natCast] at a b
  rw [a, b]
  by_cases h1 : i = M
  · rw [if_pos (by omega), if_pos h1]
  · rw [if_neg (by omega), if_neg h1]
    by_cases h2 : i = M + 1
    · rw [if_pos (by omega), if_pos h2]
    · rw [if_neg (by omega), if_neg h2]
theorem swp_len (o : List Int) (M : Nat) : (swp o M).length = o.length := by unfold swp; rw [List.length_set, List.length_set]
theorem sg_inj {M i j : Nat} (h : sg M i = sg M j) : i = j := by
  unfold sg at h
  split at h <;> split at h <;> (try split at h) <;> (try split at h) <;> omega
theorem sg_lt {M i n : Nat} (hM : M + 1 < n) (hi : i < n) : sg M i < n := by
  unfold sg; split
  · omega
  · split <;> omega
theorem swp_ok {l : List Tk} {o : List Int} (h : OrdP l o) {M : Nat} (hM : M + 1 < o.length) : OrdP l (swp o M) := by
  refine ⟨h.ok, by rw [swp_len]; exact h.len, fun x hx => ?_, ?_⟩
  · obtain ⟨i, hi, e⟩ := mem_rdO.mp hx
    rw [swp_len] at hi
    rw [rd_swp o hM i] at e
    rw [← e]
    exact h.idx.at (sg_lt hM hi)
  · rw [List.Nodup, List.pairwise_iff_getElem]
    intro i j hi hj hij e
    rw [← rd_getO _ i hi, ← rd_getO _ j hj, rd_swp o hM, rd_swp o hM] at e
    rw [swp_len] at hi hj
    have := sg_inj (h.inj (sg_lt hM hi) (sg_lt hM hj) e)
    omega
theorem swp_take (o : List Int) {M : Nat} : (swp o M).take M = o.take M := by
  unfold swp
  rw [List.take_set_of_le (Nat.le_refl _), List.take_set_of_le (by omega)]
section
variable {l : List Tk} {o a b : List Int} (hp : OrdP l o) {M : Nat} (hM : M + 1 < o.length) (ha : RT l o a) (hb : RT l (swp o M) b)
include hp hM ha hb
theorem up_ : 0 ≤ rd a (rd o ((M + 1 : Nat) : Int)) → 0 ≤ rd b (rd o ((M + 1 : Nat) : Int)) ∧ rd b (rd o ((M + 1 : Nat) : Int)) ≤ rd a (rd o ((M + 1 : Nat) : Int)) := by
  intro h0
  have hat := hp.idx.at hM
  have hx := hp.ok.at' hat.1 hat.2
  have hat' := hp.idx.at (show M < o.length by omega)
  have hx' := hp.ok.at' hat'.1 hat'.2
  have ra := ha.2 (M + 1) hM
  have rb := hb.2 M (by rw [swp_len]; omega)
  rw [rd_swp o hM, show sg M M = M + 1 from by unfold sg; rw [if_pos rfl], swp_take] at rb
  refine ra.less hx.1 (Int.le_refl _) rb (fun r hr => ?_) h0
  rw [map_take_succ (by omega), itf_snoc]
  have hC := hx.1
  have := (iterm_bd hx' (r := r) (by omega)).1
  omega
theorem down_ : 0 ≤ rd b (rd o (M : Int)) → 0 ≤ rd a (rd o (M : Int)) ∧ rd a (rd o (M : Int)) ≤ rd b (rd o (M : Int)) := by
  intro h0
  have hat := hp.idx.at hM
  have hx := hp.ok.at' hat.1 hat.2
  have hat' := hp.idx.at (show M < o.length by omega)
  have hx' := hp.ok.at' hat'.1 hat'.2
  have ra := ha.2 M (by omega)
  have rb := hb.2 (M + 1) (by rw [swp_len]; omega)
  rw [map_take_succ (by rw [swp_len]; omega), rd_swp o hM M, rd_swp o hM (M + 1), show sg M (M + 1) = M from by unfold sg; rw [if_neg (by omega), if_pos rfl], show sg M M = M + 1 from by unfold sg; rw [if_pos rfl], swp_take] at rb
  refine rb.less hx'.1 (Int.le_refl _) ra (fun r hr => ?_) h0
  rw [itf_snoc]
  have hC := hx'.1
  have := (iterm_bd hx (r := r) (by omega)).1
  omega
end
theorem FnResponsePriority : laws_FnResponsePriority.Pure := by
  intro l0 h1 h2 h8
  refine Ex.get ?_
  unfold laws_FnResponsePriority.f
  refine Ex.ite (fun _ => Ex.val rfl) (fun hbig => Ex.bind (drawR_ex l0 h8) ?_)
  rintro ⟨l, o⟩ ⟨hl, ho⟩
  simp only [] at hl ho ⊢
  refine Ex.bind (implRT_ex l (by omega) o (by omega)) ?_
  intro a ha
  refine Ex.bind (specRT_ex l (by omega) o (by omega)) ?_
  intro a' ha'
  rw [← ha.uniq ha']
  have hal := ha.len (by omega)
  refine Ex.bind (sameIntsO_ex a hal) ?_
  intro s hs
  refine Ex.pos hs (Ex.ite (fun h => ?_) (fun h => ?_))
  · rw [alive_eq]; exact Ex.val rfl
  · have hp : OrdP l o := Classical.byContradiction fun hp => h (by rw [ha.2 hp]; decide)
    have hra := ha.1 hp
    have hlen := hra.1
    have hol := hp.len
    have m0 := Int.emod_nonneg (l0.length : Int) (show (o.length : Int) - 1 ≠ 0 by omega)
    have m1 := Int.emod_lt_of_pos (l0.length : Int) (show 0 < (o.length : Int) - 1 by omega)
    rw [w64 (n := (o.length : Int) - 1) (by omega) (by omega)]
    generalize hm : (l0.length : Int) % ((o.length : Int) - 1) = m at m0 m1 ⊢
    obtain ⟨M, rfl⟩ := Int.eq_ofNat_of_zero_le m0
    rw [w64 (n := 1 + (M : Int)) (by omega) (by omega), w64 (n := 1 + (M : Int) - 1) (by omega) (by omega)]
    rw [show 1 + (M : Int) - 1 = (M : Int) by omega, show 1 + (M : Int) = ((M + 1 : Nat) : Int) by omega]
    have hM : M + 1 < o.length := by omega
    have hi := hp.idx.at hM
    have hj := hp.idx.at (show M < o.length by omega)
    simp only [Option.bind_some, List.nil_append, List.length_nil, Nat.zero_add, Int.toNat_natCast]
    refine Ex.neg (by omega) (Ex.pos (by omega) (Ex.pos (by omega) (Ex.pos (by omega) (Ex.pos (by omega) (Ex.pos (by omega) (Ex.pos (by omega) (Ex.pos (by omega) (Ex.bind (implRT_ex l (by omega) (swp o M) (by rw [swp_len]; omega)) ?_))))))))
    intro b hb
    have hrb := hb.1 (swp_ok hp hM)
    have hbl := hrb.1
    have u := up_ hp hM hra hrb
    have d := down_ hp hM hra hrb
    have jp : Ex (fun _ => if 0 ≤ rd o (M : Int) then (if rd o (M : Int) < (b.length : Int) then (if rd b (rd o (M : Int)) < 0 then some true else (if rd o (M : Int) < (a.length : Int) then (if rd a (rd o (M : Int)) ≥ 0 then some (decide (rd a (rd o (M : Int)) ≤ rd b (rd o (M : Int)))) else some false) else none)) else none) else none) (fun x => x = true) := by
      refine Ex.pos hj.1 (Ex.pos (by omega) (Ex.ite (fun _ => Ex.val rfl) (fun hn => ?_)))
      have := d (by omega)
      exact Ex.pos (by omega) (Ex.pos this.1 (Ex.val (decide_eq_true this.2)))
    refine Ex.step ?_
    simp only [laws_FnResponsePriority.j0]
    refine Ex.pos hi.1 (Ex.pos (by omega) (Ex.ite (fun _ => jp) (fun hn => ?_)))
    have := u (by omega)
    exact Ex.pos (by omega) (Ex.pos this.1 (Ex.pos this.2 jp))

end Go.Proofs.Ytncombcckeeecaa.Pure
