/- The statement FnDemandImplicit of the given program holds for every input: for every code of at most 2^20 bytes (and for longer ones at once) the law returns true. No further condition. -/
import Derived.Test.YthpnfipkgfbbeaaImplDemand
import Derived.Test.YthpnfipkgfbbeaaSpecDemand
import Derived.Test.YthpnfipkgfbbeaaImplHyp
import Derived.Test.YthpnfipkgfbbeaaDrawDem
import Derived.Test.YthpnfipkgfbbeaaFlawsXFnDemandImplicit
set_option linter.unusedSimpArgs false
set_option linter.unusedVariables false
namespace Go.Proofs.Ythpnfipkgfbbeaa.Pure
open Go.RowKit Go.Proofs.Ythpnfipkgfbbeaa.Q Go.Proofs.Ythpnfipkgfbbeaa.Pu Go.Proofs.YthpnfipkgfbbeaaW.PrintWords Go.Proofs.YthpnfipkgfbbeaaW.PrintLast

/-- A task with an implicit deadline. -/
def late (t : Tk) : Tk := ⟨t.f0, t.f2, t.f2⟩
theorem late_loop (t : Int) (B : Nat) (l : List Tk) (hl : l.length ≤ 1000) (hend : ∀ k, B ≤ k → laws_FnDemandImplicit.l0 k t (l.map late) (l.length : Int) = some true) :
    ∀ (d j k : Nat), j + d = l.length → B + d ≤ k → laws_FnDemandImplicit.l0 k t ((l.take j).map late ++ l.drop j) (j : Int) = some true := by
  intro d
  induction d with
  | zero =>
    intro j k hj hk
    rw [List.take_of_length_le (by omega), List.drop_eq_nil_of_le (by omega), List.append_nil, show (j : Int) = (l.length : Int) from by omega]
    exact hend k (by omega)
  | succ d ih =>
    intro j k hj hk
    obtain ⟨k, rfl⟩ : ∃ m, k = m + 1 := ⟨k - 1, by omega⟩
    have en : wrap64 ((j : Int) + 1) = ((j + 1 : Nat) : Int) := by rw [w64 (by omega) (by omega)]; omega
    have hlen : ((l.take j).map late ++ l.drop j).length = l.length := by rw [List.length_append, List.length_map, List.length_take, List.length_drop]; omega
    have hget : rd_T29 ((l.take j).map late ++ l.drop j) (j : Int) = rdT l (j : Int) := by
      have h1 := rdT_get ((l.take j).map late ++ l.drop j) j (by omega)
      have h2 := rdT_get l j (by omega)
      simp only [rdT] at h1 h2 ⊢
      rw [h1, h2, List.getElem_append_right (by rw [List.length_map, List.length_take]; omega), List.getElem_drop]
      congr 1
      rw [List.length_map, List.length_take]; omega
    have hset : ((l.take j).map late ++ l.drop j).set j (late (rdT l (j : Int))) = (l.take (j + 1)).map late ++ l.drop (j + 1) := by
      rw [drop_rd l j (by omega), List.set_append_right _ _ (by rw [List.length_map, List.length_take]; omega), List.length_map, List.length_take, show j - min j l.length = 0 from by omega, List.set_cons_zero, List.take_succ_eq_append_getElem (by omega), List.map_append, rdT_get l j (by omega)]
      simp
    rw [laws_FnDemandImplicit.l0]
    rw [if_pos (by omega), if_pos (by omega), en, hget]
    have := ih (j + 1) k (by omega) (by omega)
    rw [← hset] at this
    simp only [late] at this ⊢
    simpa only [Int.toNat_natCast] using this

theorem late_ok {l : List Tk} : ∀ t ∈ l.map late, t.f1 = t.f2 := by
  intro t ht
  rw [List.mem_map] at ht
  obtain ⟨x, _, rfl⟩ := ht
  rfl
theorem dterm_late {x : Tk} (h : TkOk x) (he : x.f1 = x.f2) (t : Int) (ht : 0 ≤ t) : dterm t x = t / x.f2 * x.f0 := by
  unfold TkOk at h
  unfold dterm
  rw [he]
  by_cases h1 : x.f2 ≤ t
  · rw [if_pos h1]
    congr 1
    have : t / x.f2 = ((t - x.f2) + x.f2 * 1) / x.f2 := by congr 1; omega
    rw [this, Int.add_mul_ediv_left _ _ (by omega)]
  · rw [if_neg h1, Int.ediv_eq_zero_of_lt (by omega) (by omega)]; omega
theorem dem_add {l : List Tk} (hok : Ok l) (he : ∀ t ∈ l, t.f1 = t.f2) (a b : Int) (ha : 0 ≤ a) (hb : 0 ≤ b) : dem l a + dem l b ≤ dem l (a + b) := by
  unfold dem
  rw [← sumT_add]
  refine sumT_mono l fun x hx => ?_
  have h := hok.all x hx
  rw [dterm_late h (he x hx) a ha, dterm_late h (he x hx) b hb, dterm_late h (he x hx) (a + b) (by omega), ← Int.add_mul]
  refine Int.mul_le_mul_of_nonneg_right ?_ (by omega)
  rw [Int.le_ediv_iff_mul_le (by omega), Int.add_mul]
  have h1 := Int.ediv_mul_le a (b := x.f2) (by omega)
  have h2 := Int.ediv_mul_le b (b := x.f2) (by omega)
  omega

theorem di_loop (l : List Tk) (hok : Ok l) (he : ∀ t ∈ l, t.f1 = t.f2) (t : Int) (ht0 : 0 ≤ t) (hth : t ≤ hyp l) : ∀ (m : Nat) (a : Int) (k : Nat), 60 ≤ a + m → 2 * m + 30 ≤ k → 0 ≤ a → laws_FnDemandImplicit.l1 k t l a = some true := by
  have hb := hyp_bd hok
  intro m
  induction m with
  | zero =>
    intro a k ha hk h0
    obtain ⟨k, rfl⟩ : ∃ m, k = m + 1 + 1 := ⟨k - 2, by omega⟩
    rw [laws_FnDemandImplicit.l1]
    have hf : laws_FnDemandImplicit.j3 (k + 1) t l a false = some true := by
      rw [laws_FnDemandImplicit.j3]
      rw [if_neg (by simp), alive_eq]; rfl
    by_cases hle : a ≤ t
    · rw [if_pos hle, decide_eq_false (by omega)]; exact hf
    · rw [if_neg hle]; exact hf
  | succ m ih =>
    intro a k ha hk h0
    obtain ⟨k, rfl⟩ : ∃ m, k = m + 1 + 1 := ⟨k - 2, by omega⟩
    have hf : laws_FnDemandImplicit.j3 (k + 1) t l a false = some true := by
      rw [laws_FnDemandImplicit.j3]
      rw [if_neg (by simp), alive_eq]; rfl
    rw [laws_FnDemandImplicit.l1]
    by_cases hle : a ≤ t
    · rw [if_pos hle]
      by_cases h60 : a < 60
      · have d1 := dem_bd hok a h0
        have d2 := dem_bd hok (t - a) (by omega)
        have hadd := dem_add hok he a (t - a) h0 (by omega)
        rw [show a + (t - a) = t from by omega] at hadd
        rw [decide_eq_true h60, laws_FnDemandImplicit.j3]
        rw [if_pos rfl, w64 (n := t - a) (by omega) (by omega), implDemand_eq l a k (by omega), implDemand_eq l (t - a) k (by omega), implDemand_eq l t k (by omega), demO_in hok (by omega) (by omega), demO_in hok (by omega) (by omega), demO_in hok (by omega) (by omega)]
        simp only [Option.bind_some]
        rw [w64 (n := dem l a + dem l (t - a)) (by omega) (by omega), if_neg (by omega), w64 (n := a + 1) (by omega) (by omega)]
        exact ih (a + 1) k (by omega) (by omega) (by omega)
      · rw [decide_eq_false h60]; exact hf
    · rw [if_neg hle]; exact hf

theorem FnDemandImplicit : laws_FnDemandImplicit.Pure := by
  intro l0 _ _ h8
  obtain ⟨K, hK⟩ : ∃ K, 10000000 ≤ K := ⟨_, Nat.le_refl _⟩
  refine ⟨K, ?_⟩
  unfold laws_FnDemandImplicit.f
  by_cases hlong : (l0.length : Int) > 1048576
  · rw [if_pos hlong]
  rw [if_neg hlong]
  obtain ⟨l, t, hl, ht0, ht, hd⟩ := drawDem l0 h8
  have hlen := hl.len
  rw [hd K (by omega), Option.bind_some, implDemand_eq l t K (by omega), Option.bind_some, specDemand_eq l (by omega) t K (by omega), Option.bind_some, if_pos rfl, Option.bind_some, if_pos (by simp only [List.length_nil]; omega), List.nil_append]
  have hmain := late_loop t 1000 l (by omega) ?_ l.length 0 K (by omega) (by omega)
  · simpa using hmain
  intro k hk
  obtain ⟨k, rfl⟩ : ∃ m, k = m + 1 + 1 := ⟨k - 2, by omega⟩
  have hlm : (l.map late).length = l.length := List.length_map ..
  have hT : laws_FnDemandImplicit.j1 (k + 1) t (l.map late) true = some true := by
    rw [laws_FnDemandImplicit.j1]
    rw [if_pos rfl, alive_eq]; rfl
  rw [laws_FnDemandImplicit.l0]
  rw [if_neg (by rw [hlm]; omega), implSet_eq]
  simp only [Option.bind_some]
  by_cases h : setOk (l.map late) = true
  · have hok := Ok.mk' h
    rw [if_pos h]
    by_cases hneg : t < 0
    · rw [if_pos hneg]; exact hT
    · rw [if_neg hneg, implHyp_eq _ (k + 1) (by omega)]
      simp only [Option.bind_some]
      unfold hypO
      rw [if_pos h]
      by_cases hh : t > hyp (l.map late)
      · rw [decide_eq_true hh]; exact hT
      · rw [decide_eq_false hh, laws_FnDemandImplicit.j1]
        rw [if_neg (by simp)]
        exact di_loop _ hok late_ok t (by omega) (by omega) 60 0 k (by omega) (by omega) (by omega)
  · rw [if_neg h]; exact hT

end Go.Proofs.Ythpnfipkgfbbeaa.Pure
