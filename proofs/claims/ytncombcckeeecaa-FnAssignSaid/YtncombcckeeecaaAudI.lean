import Derived.Test.YtncombcckeeecaaAud
set_option linter.unusedSimpArgs false
set_option linter.unusedVariables false
namespace Go.Proofs.Ytncombcckeeecaa.Pu
open Go.RowKit Go.Proofs.Ytncombcckeeecaa.Q Go.Proofs.YtncombcckeeecaaW.PrintWords Go.Proofs.YtncombcckeeecaaW.PrintLast

theorem ex_all {Q : Nat → Int → Prop} : ∀ (s : List Int), (∀ i ∈ s, ∃ K, ∀ k, K ≤ k → Q k i) → ∃ K, ∀ k, K ≤ k → ∀ i ∈ s, Q k i
  | [], _ => ⟨0, fun k _ i hi => absurd hi (by simp)⟩
  | x :: s, h => by
    obtain ⟨K, hK⟩ := h x (List.mem_cons_self ..)
    obtain ⟨L, hL⟩ := ex_all s (fun i hi => h i (List.mem_cons_of_mem _ hi))
    refine ⟨K + L, fun k hk i hi => ?_⟩
    rcases List.mem_cons.mp hi with e | e
    · rw [e]; exact hK k (by omega)
    · exact hL k (by omega) i e
theorem fit_iff {l : List Tk} {H : List Int} {i y : Int} (h1 : 1 ≤ (rdT l i).f0) (hy : RespIs (rdT l i).f0 (rdT l i).f1 (itf (H.map (rdT l))) y) : 0 ≤ y ↔ Fit l H i := by
  constructor
  · intro h; exact ⟨y, h, hy⟩
  · rintro ⟨R, h0, hR⟩
    have := hy.uniq h1 hR
    omega
theorem rsp_ok {l : List Tk} {p : List Int → Int → Bool} (hp : Tells l p) {left : List Int} (hL : Lf l left) : ∃ K, ∀ k, K ≤ k → ∀ i ∈ left, (rsp k l left i).isSome = true ∧ rspB k l left i = p left i := by
  refine ex_all left (fun i hi => ?_)
  have hat := hL.rng i hi
  have hC := (hL.ok.at' hat.1 hat.2).1
  obtain ⟨y, hy, K, hK⟩ := implResp_ex (hL.sub (List.filter_sublist (p := fun x => !(x == i)))).idx hat.1 hat.2
  refine ⟨K, fun k hk => ?_⟩
  have e : rsp k l left i = some y := hK k hk
  refine ⟨by rw [e]; rfl, ?_⟩
  unfold rspB
  rw [e, Option.getD_some]
  exact bool_iff (P := 0 ≤ y) decide_eq_true_iff ((hp left i).trans (fit_iff hC hy).symm)
theorem asg_ex {l : List Tk} {p : List Int → Int → Bool} (hp : Tells l p) : ∀ (m : Nat) (left low : List Int), left.length = m → Lf l left → Ex (fun k => asgL k l m left (List.replicate m 0 ++ low)) (fun x => x = aud p m left low) := by
  intro m
  induction m with
  | zero =>
    intro left low hl hL
    exact Ex.at_ 0 (fun k _ => by rw [asgL]; rfl) rfl
  | succ m ih =>
    intro left low hl hL
    obtain ⟨K, hK⟩ := rsp_ok hp hL
    have hall : ∀ k, K ≤ k → left.all (fun i => (rsp k l left i).isSome) = true := fun k hk => List.all_eq_true.mpr (fun i hi => (hK k hk i hi).1)
    have hidx : ∀ k, K ≤ k → idxOf_I (rspB k l left) left = idxOf_I (p left) left := fun k hk => idxOf_congr (fun i hi => (hK k hk i hi).2)
    rcases idx_cases (p left) left with ⟨h1, h2⟩ | ⟨n, h1, h2, h3⟩
    · refine Ex.at_ K (r := ([], false)) (fun k hk => ?_) ?_
      · rw [asgL, if_pos (hall k hk), hidx k hk, if_pos (by omega)]
      · rw [aud, if_pos (by omega)]
    · obtain ⟨r, hr, L, hLL⟩ := ih (cutAt left (n : Int)) (rd left (n : Int) :: low) (by have := cut_len h1; omega) (hL.sub (cut_sub left n))
      refine Ex.at_ (K + L) (r := r) (fun k hk => ?_) ?_
      · have e := hLL k (by omega)
        rw [asgL, if_pos (hall k (by omega)), hidx k (by omega), h2, if_neg (by omega)]
        have hs : (List.replicate (m + 1) (0 : Int) ++ low).set m (rd left (n : Int)) = List.replicate m 0 ++ rd left (n : Int) :: low := by
          rw [List.replicate_succ', List.append_assoc, List.set_append_right _ _ (by rw [List.length_replicate]; exact Nat.le_refl _), List.length_replicate, Nat.sub_self]
          rfl
        rw [hs]
        exact e
      · rw [aud, h2, if_neg (by omega)]; exact hr
theorem upto_get {n j : Nat} (h : j < (upto n).length) : (upto n)[j] = (j : Int) := by simp [upto]
theorem upto_ext {n : Nat} {x : List Int} (h : x.length = n) (hx : ∀ i : Nat, i < n → rd x (i : Int) = (i : Int)) : x = upto n := by
  apply List.ext_getElem
  · rw [len_upto, h]
  · intro i h1 h2
    rw [← rd_getO x i h1, hx i (by omega), upto_get]
theorem ind_loop (n : Nat) (hn : n ≤ 1000) : ∀ (d j : Nat) (x : List Int), j + d = n → x.length = n → (∀ i : Nat, i < j → rd x (i : Int) = (i : Int)) → Ex (fun k => impl_indices.l0 k x (n : Int) (j : Int)) (fun y => y = upto n) := by
  intro d
  induction d with
  | zero =>
    intro j x hj hl hx
    refine Ex.step ?_
    simp only [impl_indices.l0]
    exact Ex.neg (by omega) (Ex.val (upto_ext hl (fun i hi => hx i (by omega))))
  | succ d ih =>
    intro j x hj hl hx
    refine Ex.step ?_
    simp only [impl_indices.l0]
    rw [w64 (n := (j : Int) + 1) (by omega) (by omega)]
    refine Ex.pos (by omega) (Ex.pos (by omega) (Ex.pos (by omega) (ih (j + 1) _ (by omega) (by rw [List.length_set]; exact hl) (fun i hi => ?_))))
    rw [rd_setO x (j : Int) (i : Int) (j : Int) (by omega) (by omega) (by omega)]
    by_cases e : i = j
    · rw [if_pos (by rw [e]), e]
    · rw [if_neg (by omega)]; exact hx i (by omega)
theorem ind_ex (n : Nat) (hn : n ≤ 1000) : Ex (fun k => impl_indices.f k (n : Int)) (fun y => y = upto n) := by
  unfold impl_indices.f
  rw [Int.toNat_natCast]
  refine Ex.pos (by omega) (Ex.pos (by omega) ?_)
  simp only [Option.bind_some, List.length_replicate]
  exact ind_loop n hn n 0 _ (by omega) List.length_replicate (fun i hi => by omega)
theorem implAsg_ex {l : List Tk} {p : List Int → Int → Bool} (hp : Tells l p) (hok : Ok l) : Ex (fun k => impl_AssignPriorities.f k l) (fun x => x = aud p l.length (upto l.length) []) := by
  unfold impl_AssignPriorities.f
  rw [implSet_eq, (setOk_iff l).mpr hok]
  simp only [Option.bind_some]
  have := hok.len
  refine Ex.pos trivial (Ex.bind (ind_ex l.length (by omega)) ?_)
  intro y hy
  rw [hy]
  have h := asg_ex hp l.length (upto l.length) [] (len_upto _) (lf_upto hok)
  rwa [List.append_nil] at h
theorem implAsg_no {l : List Tk} (h : ¬ Ok l) : Ex (fun k => impl_AssignPriorities.f k l) (fun x => x = ([], false)) := by
  unfold impl_AssignPriorities.f
  rw [implSet_eq, setOk_no h]
  simp only [Option.bind_some]
  exact Ex.neg (by simp) (Ex.val rfl)

end Go.Proofs.Ytncombcckeeecaa.Pu
