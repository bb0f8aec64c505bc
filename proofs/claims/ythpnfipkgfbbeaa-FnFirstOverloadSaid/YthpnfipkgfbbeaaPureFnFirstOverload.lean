/- The statement FnFirstOverload of the given program holds for every input: for every code of at most 2^20 bytes (and for longer ones at once) the law returns true. No further condition. -/
import Derived.Test.YthpnfipkgfbbeaaImplDemand
import Derived.Test.YthpnfipkgfbbeaaImplHyp
import Derived.Test.YthpnfipkgfbbeaaImplFirst
import Derived.Test.YthpnfipkgfbbeaaSpecFirst
import Derived.Test.YthpnfipkgfbbeaaFlawsXFnFirstOverload
set_option linter.unusedSimpArgs false
set_option linter.unusedVariables false
namespace Go.Proofs.Ythpnfipkgfbbeaa.Pure
open Go.RowKit Go.Proofs.Ythpnfipkgfbbeaa.Q Go.Proofs.Ythpnfipkgfbbeaa.Pu Go.Proofs.YthpnfipkgfbbeaaW.PrintWords Go.Proofs.YthpnfipkgfbbeaaW.PrintLast

/-- A task has a deadline at a time. -/
def dueAt (t : Int) (x : Tk) : Bool := decide (x.f1 ≤ t) && ((t - x.f1) % x.f2 == 0)
theorem dterm_same {x : Tk} (h : TkOk x) {t : Int} (ht : 1 ≤ t) (hd : dueAt t x = false) : dterm t x = dterm (t - 1) x := by
  unfold TkOk at h
  unfold dueAt at hd
  unfold dterm
  by_cases h1 : x.f1 ≤ t
  · rw [decide_eq_true h1, Bool.true_and, beq_eq_false_iff_ne] at hd
    by_cases h2 : x.f1 ≤ t - 1
    · rw [if_pos h1, if_pos h2]
      congr 2
      have e1 := Int.emod_add_mul_ediv (t - x.f1) x.f2
      have b1 := Int.emod_nonneg (t - x.f1) (show x.f2 ≠ 0 from by omega)
      have b2 := Int.emod_lt_of_pos (t - x.f1) (show 0 < x.f2 from by omega)
      rw [show t - 1 - x.f1 = ((t - x.f1) % x.f2 - 1) + x.f2 * ((t - x.f1) / x.f2) from by omega, Int.add_mul_ediv_left _ _ (by omega), Int.ediv_eq_zero_of_lt (a := (t - x.f1) % x.f2 - 1) (by omega) (by omega)]
      omega
    · exfalso
      have : t - x.f1 = 0 := by omega
      rw [this] at hd
      simp at hd
  · rw [if_neg h1, if_neg (by omega)]
theorem due_of_over {l : List Tk} (hok : Ok l) {t : Int} (ht : 1 ≤ t) (h1 : dem l (t - 1) ≤ t - 1) (h2 : t < dem l t) : l.any (dueAt t) = true := by
  cases e : l.any (dueAt t) with
  | true => rfl
  | false =>
    rw [List.any_eq_false] at e
    have : dem l t = dem l (t - 1) := by
      unfold dem
      exact sumT_congr l fun x hx => dterm_same (hok.all x hx) ht (by simpa using e x hx)
    omega

theorem fo_l1 (l : List Tk) (hok : Ok l) (t : Int) (ht0 : 1 ≤ t) (hth : t ≤ hyp l) (hov : t < dem l t) (hany : l.any (dueAt t) = true) : ∀ (d j k : Nat) (acc : Bool), j + d = l.length → d + 30 ≤ k → acc = (l.take j).any (dueAt t) →
    laws_FnFirstOverload.l1 k l t acc (j : Int) = some true := by
  have hlen := hok.len
  have hb := hyp_bd hok
  intro d
  induction d with
  | zero =>
    intro j k acc hj hk ha
    obtain ⟨k, rfl⟩ : ∃ m, k = m + 1 := ⟨k - 1, by omega⟩
    rw [laws_FnFirstOverload.l1]
    rw [if_neg (by omega), ha, List.take_of_length_le (by omega), if_pos hany, implDemand_eq l t k (by omega), demO_in hok (by omega) hth]
    simp only [Option.bind_some]
    rw [if_pos (by omega), alive_eq]
    rfl
  | succ d ih =>
    intro j k acc hj hk ha
    obtain ⟨k, rfl⟩ : ∃ m, k = m + 1 := ⟨k - 1, by omega⟩
    have en : wrap64 ((j : Int) + 1) = ((j + 1 : Nat) : Int) := by rw [w64 (by omega) (by omega)]; omega
    have hr := hok.rd j (by omega)
    have hacc : (acc || dueAt t (rdT l (j : Int))) = (l.take (j + 1)).any (dueAt t) := by
      rw [ha, List.take_succ_eq_append_getElem (by omega), List.any_append, rdT_get l j (by omega)]
      simp
    rw [laws_FnFirstOverload.l1]
    rw [if_pos (by omega), en]
    by_cases h : acc = true
    · rw [if_pos h]
      rw [h, Bool.true_or] at hacc
      exact ih (j + 1) k _ (by omega) (by omega) hacc
    · rw [if_neg h, if_pos (by omega)]
      have : acc = false := by simpa using h
      rw [this, Bool.false_or] at hacc
      unfold dueAt at hacc
      simp only [rdT] at hacc hr
      by_cases hle : (rd_T29 l (j : Int)).f1 ≤ t
      · rw [if_pos hle, if_neg (by omega), w64 (n := t - (rd_T29 l (j : Int)).f1) (by omega) (by omega), tmod_pos (by omega)]
        rw [decide_eq_true hle, Bool.true_and] at hacc
        exact ih (j + 1) k _ (by omega) (by omega) hacc
      · rw [if_neg hle]
        rw [decide_eq_false hle, Bool.false_and] at hacc
        exact ih (j + 1) k _ (by omega) (by omega) hacc

theorem fo_l0 (l : List Tk) (hok : Ok l) (last : Int) (hlast : last ≤ hyp l + 1) (hno : ∀ s, 1 ≤ s → s < last → dem l s ≤ s) (B : Nat)
    (hend : ∀ k s, B ≤ k → laws_FnFirstOverload.j2 k l (fov l) last s false = some true) : ∀ (m : Nat) (s : Int) (k : Nat), 2001 ≤ s + m → 1 ≤ s → B + 2 * m + 30 ≤ k → laws_FnFirstOverload.l0 k l (fov l) last s = some true := by
  have hb := hyp_bd hok
  intro m
  induction m with
  | zero =>
    intro s k hm h1 hk
    obtain ⟨k, rfl⟩ : ∃ m, k = m + 1 := ⟨k - 1, by omega⟩
    rw [laws_FnFirstOverload.l0]
    by_cases h : s < last
    · rw [if_pos h, decide_eq_false (by omega)]; exact hend k s (by omega)
    · rw [if_neg h]; exact hend k s (by omega)
  | succ m ih =>
    intro s k hm h1 hk
    obtain ⟨k, rfl⟩ : ∃ m, k = m + 1 + 1 := ⟨k - 2, by omega⟩
    rw [laws_FnFirstOverload.l0]
    by_cases h : s < last
    · rw [if_pos h]
      by_cases h2 : s ≤ 2000
      · rw [decide_eq_true h2, laws_FnFirstOverload.j2]
        rw [if_pos rfl, implDemand_eq l s k (by omega), demO_in hok (by omega) (by omega)]
        simp only [Option.bind_some]
        rw [if_neg (by have := hno s h1 h; omega), w64 (n := s + 1) (by omega) (by omega)]
        exact ih (s + 1) k (by omega) (by omega) (by omega)
      · rw [decide_eq_false h2]; exact hend _ s (by omega)
    · rw [if_neg h]; exact hend _ s (by omega)

theorem FnFirstOverload : laws_FnFirstOverload.Pure := by
  intro l0 _ _ h8
  obtain ⟨K, hK⟩ : ∃ K, 10000000 ≤ K := ⟨_, Nat.le_refl _⟩
  refine ⟨K, ?_⟩
  unfold laws_FnFirstOverload.f
  by_cases hlong : (l0.length : Int) > 1048576
  · rw [if_pos hlong]
  rw [if_neg hlong]
  obtain ⟨b, hb, ho⟩ := open_ev l0 h8
  obtain ⟨l, q, hl, _, _, hs⟩ := set_ev b hb 0 12 (by omega) (by omega)
  have hlen := hl.len
  unfold spec_DrawFirstOverload.f
  rw [ho]
  simp only [Option.bind_some]
  rw [hs K (by omega)]
  simp only [Option.bind_some]
  rw [implFirst_eq l K (by omega), specFirst_eq l (by omega) K (by omega), specSet_eq l (by omega) K (by omega)]
  simp only [Option.bind_some]
  rw [if_pos trivial]
  by_cases h : setOk l = true
  · have hok := Ok.mk' h
    have hb := hyp_bd hok
    rw [if_pos h, if_pos h]
    rcases fov_spec l with ⟨e, hn⟩ | ⟨h1, h2, h3, h4⟩
    · rw [if_pos (by omega), implHyp_eq l K (by omega)]
      simp only [Option.bind_some]
      unfold hypO
      rw [if_pos h, w64 (n := hyp l + 1) (by omega) (by omega)]
      obtain ⟨k, rfl⟩ : ∃ m, K = m + 1 := ⟨K - 1, by omega⟩
      rw [laws_FnFirstOverload.j0]
      refine fo_l0 l hok _ (by omega) (fun s a b => hn s a (by omega)) 100 (fun k s hk => ?_) 2000 1 k (by omega) (by omega) (by omega)
      obtain ⟨k, rfl⟩ : ∃ m, k = m + 1 := ⟨k - 1, by omega⟩
      rw [laws_FnFirstOverload.j2]
      rw [if_neg (by simp), if_pos (by omega), alive_eq]
      rfl
    · rw [if_neg (by omega)]
      obtain ⟨k, rfl⟩ : ∃ m, K = m + 1 := ⟨K - 1, by omega⟩
      rw [laws_FnFirstOverload.j0]
      refine fo_l0 l hok _ (by omega) h4 100 (fun k s hk => ?_) 2000 1 k (by omega) (by omega) (by omega)
      obtain ⟨k, rfl⟩ : ∃ m, k = m + 1 := ⟨k - 1, by omega⟩
      rw [laws_FnFirstOverload.j2]
      rw [if_neg (by simp), if_neg (by omega)]
      refine fo_l1 l hok (fov l) h1 h2 h3 (due_of_over hok h1 ?_ h3) l.length 0 k false (by omega) (by omega) (by simp)
      by_cases he : fov l = 1
      · rw [he, dem_zero hok (by omega)]; omega
      · exact h4 _ (by omega) (by omega)
  · rw [if_neg h, if_neg h]
    rfl

end Go.Proofs.Ythpnfipkgfbbeaa.Pure
