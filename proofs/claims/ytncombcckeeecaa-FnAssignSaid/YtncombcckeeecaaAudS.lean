import Derived.Test.YtncombcckeeecaaAudI
import Derived.Test.YtncombcckeeecaaFspecXAssignPriorities
set_option linter.unusedSimpArgs false
set_option linter.unusedVariables false
namespace Go.Proofs.Ytncombcckeeecaa.Pu
open Go.RowKit Go.Proofs.Ytncombcckeeecaa.Q Go.Proofs.YtncombcckeeecaaW.PrintWords Go.Proofs.YtncombcckeeecaaW.PrintLast

/-- Is not yet placed. -/
def nin (low : List Int) (i : Int) : Bool := !(decide (i ∈ low))
/-- Who is left. -/
def rest (n : Nat) (low : List Int) : List Int := (upto n).filter (nin low)
theorem rest_cons (n : Nat) (low : List Int) (x : Int) : rest n (x :: low) = (rest n low).filter (fun y => !(y == x)) := by
  unfold rest
  rw [List.filter_filter]
  congr 1
  funext y
  unfold nin
  by_cases h : y = x <;> simp [h]
theorem rest_nil (n : Nat) : rest n [] = upto n := by
  unfold rest
  rw [List.filter_eq_self]
  intro x _; simp [nin]
theorem upto_take {n j : Nat} (h : j < n) : (upto n).take (j + 1) = (upto n).take j ++ [(j : Int)] := by
  rw [List.take_succ_eq_append_getElem (by rw [len_upto]; exact h), upto_get]
theorem upto_drop {n j : Nat} (h : j < n) : (upto n).drop j = (j : Int) :: (upto n).drop (j + 1) := by
  rw [List.drop_eq_getElem_cons (by rw [len_upto]; exact h), upto_get]
theorem others_loop (n : Nat) (hn : n ≤ 1000) (x : Int) (low : List Int) (hl : low.length ≤ 1000) : ∀ (d j : Nat), j + d = n → Ex (fun k => spec_l4Others.l0 k (n : Int) x low (((upto n).take j).filter (fun y => !(y == x) && nin low y)) (j : Int)) (fun y => y = (rest n low).filter (fun y => !(y == x))) := by
  intro d
  induction d with
  | zero =>
    intro j hj
    refine Ex.step ?_
    simp only [spec_l4Others.l0]
    refine Ex.neg (by omega) (Ex.val ?_)
    rw [List.take_of_length_le (by rw [len_upto]; omega)]
    unfold rest
    rw [List.filter_filter]
  | succ d ih =>
    intro j hj
    have ih' := ih (j + 1) (by omega)
    rw [upto_take (by omega), List.filter_append] at ih'
    have hlen : (((upto n).take j).filter (fun y => !(y == x) && nin low y)).length ≤ 1000 := by
      have h1 := List.length_filter_le (fun y => !(y == x) && nin low y) ((upto n).take j)
      rw [List.length_take] at h1
      omega
    refine Ex.step ?_
    simp only [spec_l4Others.l0]
    rw [w64 (n := (j : Int) + 1) (by omega) (by omega)]
    refine Ex.pos (by omega) (Ex.ite (fun h => ?_) (fun h => ?_))
    · rw [List.filter_cons_of_neg (by simp [h]), List.filter_nil, List.append_nil] at ih'
      exact ih'
    · refine Ex.bind (l4Index_ex low (j : Int) hl) ?_
      intro z hz
      refine Ex.ite (fun h2 => Ex.pos (by omega) ?_) (fun h2 => ?_)
      · have hm : (j : Int) ∉ low := fun g => by have := hz.mpr g; omega
        rw [List.filter_cons_of_pos (by simp [h, nin, hm]), List.filter_nil] at ih'
        exact ih'
      · have hm : (j : Int) ∈ low := hz.mp (by omega)
        rw [List.filter_cons_of_neg (by simp [nin, hm]), List.filter_nil, List.append_nil] at ih'
        exact ih'
theorem others_ex (n : Nat) (hn : n ≤ 1000) (x : Int) (low : List Int) (hl : low.length ≤ 1000) : Ex (fun k => spec_l4Others.f k (n : Int) x low) (fun y => y = (rest n low).filter (fun y => !(y == x))) := by
  unfold spec_l4Others.f
  exact others_loop n hn x low hl n 0 (by omega)
def fnd (low : List Int) (q : Int → Bool) (s : List Int) : Int := ((s.filter (nin low)).find? q).getD (-1)
theorem asg_l1 {l : List Tk} {p : List Int → Int → Bool} (hp : Tells l p) (hok : Ok l) (low : List Int) (hl : low.length ≤ 1000) {P : List Int × Bool → Prop} {g : Int}
    (hg : g = fnd low (p (rest l.length low)) (upto l.length)) (hno : g < 0 → P ([], false)) (hyes : ¬ g < 0 → Ex (fun k => spec_AssignPriorities.l0 k l (g :: low)) P) :
    ∀ (d : Nat), d ≤ l.length → Ex (fun k => spec_AssignPriorities.l1 k l low (fnd low (p (rest l.length low)) ((upto l.length).drop d)) ((d : Int) - 1)) P := by
  have h5 := hok.len
  have hlf : Lf l (rest l.length low) := (lf_upto hok).sub List.filter_sublist
  intro d
  induction d with
  | zero =>
    intro _
    refine Ex.step ?_
    simp only [spec_AssignPriorities.l1]
    rw [List.drop_zero, ← hg]
    refine Ex.neg (by omega) (Ex.ite (fun h => Ex.val (hno h)) (fun h => ?_))
    simp only [Option.bind_some]
    exact Ex.pos (by rw [List.length_singleton]; omega) (hyes h)
  | succ d ih =>
    intro hd
    have ih' := ih (by omega)
    rw [upto_drop (by omega)] at ih'
    refine Ex.step ?_
    simp only [spec_AssignPriorities.l1]
    rw [show ((d + 1 : Nat) : Int) - 1 = (d : Int) by omega, w64 (n := (d : Int) - 1) (by omega) (by omega)]
    refine Ex.pos (by omega) (Ex.bind (l4Index_ex low (d : Int) hl) ?_)
    intro z hz
    refine Ex.ite (fun h => ?_) (fun h => ?_)
    · have hm : (d : Int) ∉ low := fun g => by have := hz.mpr g; omega
      refine Ex.bind (others_ex l.length (by omega) (d : Int) low hl) ?_
      intro o ho
      rw [ho]
      have htk := hok.at' (i := (d : Int)) (by omega) (by omega)
      refine Ex.bind (specResp_ex (hlf.sub (List.filter_sublist (p := fun y => !(y == (d : Int))))).idx (task := (d : Int)) (by omega) (by omega)) ?_
      intro y hy
      have e := (fit_iff htk.1 hy).trans (hp (rest l.length low) (d : Int)).symm
      have f1 : fnd low (p (rest l.length low)) ((d : Int) :: (upto l.length).drop (d + 1)) = if p (rest l.length low) (d : Int) = true then (d : Int) else fnd low (p (rest l.length low)) ((upto l.length).drop (d + 1)) := by
        unfold fnd
        rw [List.filter_cons_of_pos (by simp [nin, hm]), List.find?_cons]
        cases p (rest l.length low) (d : Int) <;> rfl
      rw [f1] at ih'
      refine Ex.ite (fun h2 => ?_) (fun h2 => ?_)
      · rw [if_pos (e.mp h2)] at ih'; exact ih'
      · rw [if_neg (fun g => h2 (e.mpr g))] at ih'; exact ih'
    · have hm : (d : Int) ∈ low := hz.mp (by omega)
      have f1 : fnd low (p (rest l.length low)) ((d : Int) :: (upto l.length).drop (d + 1)) = fnd low (p (rest l.length low)) ((upto l.length).drop (d + 1)) := by
        unfold fnd
        rw [List.filter_cons_of_neg (by simp [nin, hm])]
      rw [f1] at ih'
      exact ih'
theorem find_idx (q : Int → Bool) {left : List Int} (h0 : ∀ x ∈ left, 0 ≤ x) : (idxOf_I q left = -1 ∧ (left.find? q).getD (-1) = -1) ∨ ∃ n : Nat, n < left.length ∧ idxOf_I q left = (n : Int) ∧ (left.find? q).getD (-1) = rd left (n : Int) := by
  unfold idxOf_I
  cases e : left.findIdx? q with
  | none =>
    rw [List.findIdx?_eq_none_iff] at e
    refine Or.inl ⟨rfl, ?_⟩
    rw [List.find?_eq_none.mpr (fun x hx => by rw [e x hx]; simp)]
    rfl
  | some n =>
    rw [List.findIdx?_eq_some_iff_getElem] at e
    obtain ⟨h, hq, hb⟩ := e
    refine Or.inr ⟨n, h, rfl, ?_⟩
    have : left.find? q = some left[n] := by
      rw [List.find?_eq_some_iff_getElem]
      refine ⟨hq, n, h, rfl, fun j hj => ?_⟩
      have := hb j hj
      simpa using this
    rw [this, Option.getD_some, rd_getO left n h]
theorem asg_l0 {l : List Tk} {p : List Int → Int → Bool} (hp : Tells l p) (hok : Ok l) : ∀ (m : Nat) (low : List Int), low.length + m = l.length → (rest l.length low).length = m → Ex (fun k => spec_AssignPriorities.l0 k l low) (fun x => x = aud p m (rest l.length low) low) := by
  have h5 := hok.len
  intro m
  induction m with
  | zero =>
    intro low hl hr
    refine Ex.step ?_
    simp only [spec_AssignPriorities.l0]
    exact Ex.neg (by omega) (Ex.val rfl)
  | succ m ih =>
    intro low hl hr
    have hlf : Lf l (rest l.length low) := (lf_upto hok).sub List.filter_sublist
    refine Ex.step ?_
    simp only [spec_AssignPriorities.l0]
    rw [w64 (n := (l.length : Int) - 1) (by omega) (by omega)]
    refine Ex.pos (by omega) ?_
    have key := asg_l1 hp hok low (by omega) (P := fun x => x = aud p (m + 1) (rest l.length low) low) (g := fnd low (p (rest l.length low)) (upto l.length)) rfl
    have hf : fnd low (p (rest l.length low)) (upto l.length) = ((rest l.length low).find? (p (rest l.length low))).getD (-1) := rfl
    rcases find_idx (p (rest l.length low)) (fun x hx => (hlf.rng x hx).1) with ⟨h1, h2⟩ | ⟨n, h1, h2, h3⟩
    · have := key (fun _ => by rw [aud, if_pos (by omega)]) (fun h => absurd (by rw [hf, h2]; omega) h) l.length (Nat.le_refl _)
      rwa [List.drop_of_length_le (by rw [len_upto]; exact Nat.le_refl _)] at this
    · have hx := hlf.idx.at h1
      have hcut : rest l.length (rd (rest l.length low) (n : Int) :: low) = cutAt (rest l.length low) (n : Int) := by rw [rest_cons, cut_filter hlf.nd h1]
      have hnext := ih (rd (rest l.length low) (n : Int) :: low) (by rw [List.length_cons]; omega) (by rw [hcut]; have := cut_len h1; omega)
      rw [hcut] at hnext
      have := key (fun h => absurd h (by rw [hf, h3]; omega)) (fun _ => by rw [hf, h3, aud, h2, if_neg (by omega)]; exact hnext) l.length (Nat.le_refl _)
      rwa [List.drop_of_length_le (by rw [len_upto]; exact Nat.le_refl _)] at this
theorem specAsg_ex {l : List Tk} {p : List Int → Int → Bool} (hp : Tells l p) (hok : Ok l) : Ex (fun k => spec_AssignPriorities.f k l) (fun x => x = aud p l.length (upto l.length) []) := by
  unfold spec_AssignPriorities.f
  have h5 := hok.len
  refine Ex.bind (specSet_exO l (by omega)) ?_
  intro x hx
  rw [hx]
  refine Ex.pos ((setOk_iff l).mpr hok) ?_
  have h := asg_l0 hp hok l.length [] (by simp) (by rw [rest_nil, len_upto])
  rwa [rest_nil] at h
theorem specAsg_no {l : List Tk} (hl : l.length ≤ 1000) (h : ¬ Ok l) : Ex (fun k => spec_AssignPriorities.f k l) (fun x => x = ([], false)) := by
  unfold spec_AssignPriorities.f
  refine Ex.bind (specSet_exO l (by omega)) ?_
  intro x hx
  rw [hx]
  exact Ex.neg (by rw [setOk_no h]; simp) (Ex.val rfl)

end Go.Proofs.Ytncombcckeeecaa.Pu
