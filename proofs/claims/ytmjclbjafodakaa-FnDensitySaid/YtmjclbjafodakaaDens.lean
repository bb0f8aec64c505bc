import Derived.Test.YtmjclbjafodakaaSetMath
import Derived.Test.YtmjclbjafodakaaFimplXDensityFeasible
import Derived.Test.YtmjclbjafodakaaFspecXDensityFeasible
set_option linter.unusedSimpArgs false
set_option linter.unusedVariables false
namespace Go.Proofs.Ytmjclbjafodakaa.Pu
open Go.RowKit Go.Proofs.Ytmjclbjafodakaa.Q Go.Proofs.YtmjclbjafodakaaW.PrintWords Go.Proofs.YtmjclbjafodakaaW.PrintLast

theorem nx (j : Nat) (h : j ≤ 1000) : wrap64 ((j : Int) + 1) = ((j + 1 : Nat) : Int) := by rw [w64 (by omega) (by omega)]; omega
/-- A task whose period is its deadline. -/
def dto (t : Tk) : Tk := ⟨t.f0, t.f1, t.f1⟩
theorem Ok.dto {l : List Tk} (h : Ok l) : Ok (l.map Pu.dto) :=
  ⟨by rw [List.length_map]; exact h.len, fun t ht => by
    rw [List.mem_map] at ht
    obtain ⟨x, hx, rfl⟩ := ht
    have := h.all x hx
    unfold Pu.dto; dsimp only; omega⟩
/-- The greatest of a number and the values of a list. -/
def mxF (g : Tk → Int) : Int → List Tk → Int
  | m, [] => m
  | m, t :: r => mxF g (mx m (g t)) r
theorem mxF_le (g : Tk → Int) (B : Int) : ∀ (l : List Tk) (m : Int), mxF g m l ≤ B ↔ m ≤ B ∧ ∀ t ∈ l, g t ≤ B
  | [], m => by simp [mxF]
  | t :: r, m => by
    simp only [mxF, List.mem_cons, forall_eq_or_imp]
    rw [mxF_le g B r]
    have := mx_bd m (g t)
    constructor
    · rintro ⟨h1, h2⟩; exact ⟨by omega, by omega, h2⟩
    · rintro ⟨h1, h2, h3⟩; exact ⟨by omega, h3⟩
theorem mxF_mul (g : Tk → Int) (c : Int) (hc : 0 ≤ c) : ∀ (l : List Tk) (m : Int), mxF (fun t => g t * c) (m * c) l = mxF g m l * c
  | [], m => rfl
  | t :: r, m => by
    simp only [mxF]
    rw [← mxF_mul g c hc r]
    congr 1
    have h1 := mx_bd (m * c) (g t * c)
    have h2 := mx_bd m (g t)
    rcases h2.2.2 with e | e
    · have := Int.mul_le_mul_of_nonneg_right (show g t ≤ m from by omega) hc
      rw [e]; omega
    · have := Int.mul_le_mul_of_nonneg_right (show m ≤ g t from by omega) hc
      rw [e]; omega
theorem mxF_congr {g h : Tk → Int} : ∀ (l : List Tk) (m : Int), (∀ t ∈ l, g t = h t) → mxF g m l = mxF h m l
  | [], m, _ => rfl
  | t :: r, m, H => by
    simp only [mxF]
    rw [H t (by simp), mxF_congr r _ (fun x hx => H x (by simp [hx]))]
/-- The density of a task, over a scale. -/
def dnt (s : Int) (x : Tk) : Int := s / x.f1 * x.f0
theorem dnt_bd {x : Tk} (h : TkOk x) (s : Int) (hs : 0 ≤ s) : 0 ≤ dnt s x ∧ dnt s x ≤ s := by
  unfold TkOk at h
  unfold dnt
  have q0 : 0 ≤ s / x.f1 := Int.ediv_nonneg hs (by omega)
  have q1 := Int.ediv_mul_le s (b := x.f1) (by omega)
  have q2 : s / x.f1 * x.f0 ≤ s / x.f1 * x.f1 := Int.mul_le_mul_of_nonneg_left (by omega) q0
  exact ⟨Int.mul_nonneg q0 (by omega), by omega⟩
theorem dstep {x : Tk} (h : TkOk x) (s : Int) (hs : 0 ≤ s) (hs2 : s ≤ 1000000) : ∃ y, dnt s x = y ∧ 0 ≤ y ∧ y ≤ s ∧ ¬ x.f1 = 0 ∧ wrap64 (wrap64 (Int.tdiv s x.f1) * x.f0) = y ∧ wrap64 (x.f0 * wrap64 (Int.tdiv s x.f1)) = y := by
  have hb := dnt_bd h s hs
  unfold TkOk at h
  have q0 : 0 ≤ s / x.f1 := Int.ediv_nonneg hs (by omega)
  have q1 : s / x.f1 ≤ s := Int.ediv_le_self _ hs
  have e : wrap64 (Int.tdiv s x.f1) = s / x.f1 := by rw [tdiv_pos hs]; exact w64 (by omega) (by omega)
  have e2 : dnt s x = s / x.f1 * x.f0 := rfl
  rw [e, Int.mul_comm x.f0, ← e2]
  generalize dnt s x = y at hb
  exact ⟨y, rfl, hb.1, hb.2, by omega, w64 (by omega) (by omega), w64 (by omega) (by omega)⟩
def dnS (s : Int) (l : List Tk) : Int := sumT (dnt s) l
def dnM (s : Int) (l : List Tk) : Int := mxF (dnt s) 0 l
theorem dnS_bd {l : List Tk} (h : Ok l) (s : Int) (hs : 0 ≤ s) : 0 ≤ dnS s l ∧ dnS s l ≤ 5 * s := by
  unfold dnS
  refine ⟨sumT_nonneg l fun x hx => (dnt_bd (h.all x hx) s hs).1, ?_⟩
  have h1 := sumT_le (g := dnt s) s l fun x hx => (dnt_bd (h.all x hx) s hs).2
  have h2 : (l.length : Int) * s ≤ 5 * s := Int.mul_le_mul_of_nonneg_right (by have := h.len; omega) hs
  omega
theorem dnM_bd {l : List Tk} (h : Ok l) (s : Int) (hs : 0 ≤ s) : 0 ≤ dnM s l ∧ dnM s l ≤ s := by
  unfold dnM
  exact ⟨((mxF_le _ _ l 0).mp (Int.le_refl _)).1, (mxF_le _ _ l 0).mpr ⟨hs, fun x hx => (dnt_bd (h.all x hx) s hs).2⟩⟩
/-- DensityFeasible. -/
def dens (l : List Tk) (c : Int) : Bool := setOk l && (decide (1 ≤ c ∧ c ≤ 5) && decide (dnS 27720 l + (c - 1) * dnM 27720 l ≤ c * 27720))

theorem dens_step (l : List Tk) (c s m sc : Int) (j : Nat) (hj : j < l.length) : s + sumT (dnt sc) (l.drop j) = (s + dnt sc (rdT l (j : Int))) + sumT (dnt sc) (l.drop (j + 1)) ∧ mxF (dnt sc) m (l.drop j) = mxF (dnt sc) (mx m (dnt sc (rdT l (j : Int)))) (l.drop (j + 1)) := by
  rw [drop_rd l j hj]
  simp only [sumT, mxF]
  exact ⟨by omega, trivial⟩
theorem implDens_loop (l : List Tk) (hok : Ok l) (c : Int) (hc : 1 ≤ c ∧ c ≤ 5) (sc : Int) (hsc : 1 ≤ sc ∧ sc ≤ 248832) (S M : Int) (hl0 : ∀ k s m i, impl_DensityFeasible.l0 (k + 1) c s m l (l.length : Int) i = if i < (l.length : Int) then (if 0 ≤ i then (if i < (l.length : Int) then (if ((rd_T29 l i).f1) = 0 then (none) else (impl_DensityFeasible.l0 k c (wrap64 (s + (wrap64 ((wrap64 (Int.tdiv sc ((rd_T29 l i).f1))) * ((rd_T29 l i).f0))))) (mx m (wrap64 ((wrap64 (Int.tdiv sc ((rd_T29 l i).f1))) * ((rd_T29 l i).f0)))) l (l.length : Int) (wrap64 (i + 1)))) else (none)) else (none)) else (some (decide (s ≤ (wrap64 ((wrap64 (c * sc)) - (wrap64 ((wrap64 (c - 1)) * m)))))))) : ∀ (d j k : Nat) (s m : Int), j + d = l.length → d < k → 0 ≤ s → s ≤ (j : Int) * 248832 → 0 ≤ m → m ≤ 248832 → s + sumT (dnt sc) (l.drop j) = S → mxF (dnt sc) m (l.drop j) = M →
    impl_DensityFeasible.l0 k c s m l (l.length : Int) (j : Int) = some (decide (S + (c - 1) * M ≤ c * sc)) := by
  have hlen := hok.len
  intro d
  induction d with
  | zero =>
    intro j k s m hj hk h0 h1 h2 h3 hS hM
    obtain ⟨k, rfl⟩ : ∃ m, k = m + 1 := ⟨k - 1, by omega⟩
    rw [List.drop_eq_nil_of_le (by omega)] at hS hM
    simp only [sumT, mxF] at hS hM
    subst hM
    have b1 : 0 ≤ (c - 1) * m := Int.mul_nonneg (by omega) h2
    have b2 : (c - 1) * m ≤ 4 * 248832 := Int.mul_le_mul (by omega) h3 h2 (by omega)
    have b3 : 0 ≤ c * sc := Int.mul_nonneg (by omega) (by omega)
    have b4 : c * sc ≤ 5 * 248832 := Int.mul_le_mul (by omega) (by omega) (by omega) (by omega)
    have e1 : wrap64 (c - 1) = c - 1 := w64 (by omega) (by omega)
    have e2 : wrap64 ((c - 1) * m) = (c - 1) * m := w64 (by omega) (by omega)
    have e3 : wrap64 (c * sc) = c * sc := w64 (by omega) (by omega)
    have e4 : wrap64 (c * sc - (c - 1) * m) = c * sc - (c - 1) * m := w64 (by omega) (by omega)
    rw [hl0]
    rw [if_neg (by omega), e3, e1, e2, e4]
    refine congrArg some (decide_eq_decide.mpr ?_)
    omega
  | succ d ih =>
    intro j k s m hj hk h0 h1 h2 h3 hS hM
    obtain ⟨k, rfl⟩ : ∃ m, k = m + 1 := ⟨k - 1, by omega⟩
    obtain ⟨y, hy, y0, y1, hne, ew, _⟩ := dstep (x := rdT l (j : Int)) (hok.rd j (by omega)) sc (by omega) (by omega)
    obtain ⟨g1, g2⟩ := dens_step l c s m sc j (by omega)
    rw [g1, hy] at hS
    rw [g2, hy] at hM
    simp only [rdT] at hne ew
    rw [hl0]
    rw [if_pos (by omega), if_pos (by omega), if_pos (by omega), if_neg hne, ew, w64 (n := s + y) (by omega) (by omega), nx j (by omega)]
    have hm := mx_bd m y
    exact ih (j + 1) k (s + y) (mx m y) (by omega) (by omega) (by omega) (by omega) (by omega) (by omega) hS hM
theorem implDens_eq (l : List Tk) (c : Int) (k : Nat) (hk : 20 ≤ k) : impl_DensityFeasible.f k l c = some (dens l c) := by
  obtain ⟨k, rfl⟩ : ∃ m, k = m + 1 := ⟨k - 1, by omega⟩
  unfold impl_DensityFeasible.f dens
  rw [implSet_eq, Option.bind_some]
  by_cases h : setOk l = true
  · have hok := Ok.mk' h
    have hlen := hok.len
    rw [if_pos h, h, Bool.true_and]
    unfold impl_isCores.f
    rw [in_eq, Option.bind_some, Option.bind_some, impl_DensityFeasible.j0]
    by_cases hc : 1 ≤ c ∧ c ≤ 5
    · rw [decide_eq_true hc, if_neg (by simp), Bool.true_and]
      exact implDens_loop l hok c hc 27720 (by decide) (dnS 27720 l) (dnM 27720 l) (fun k s m i => by rw [impl_DensityFeasible.l0]) l.length 0 k 0 0 (by omega) (by omega) (by decide) (by decide) (by decide) (by decide) (by rw [List.drop_zero, Int.zero_add]; rfl) (by rw [List.drop_zero]; rfl)
    · rw [decide_eq_false hc, if_pos (by simp), Bool.false_and]
  · have h0 : setOk l = false := by simpa using h
    rw [if_neg h, impl_DensityFeasible.j0, if_pos rfl, h0, Bool.false_and]

theorem specDens_l1 (l : List Tk) (hok : Ok l) (c : Int) (hc : 1 ≤ c ∧ c ≤ 5) (sc : Int) (hsc : 1 ≤ sc ∧ sc ≤ 248832) (S M : Int) : ∀ (d j k : Nat) (s m : Int), j + d = l.length → d < k → 0 ≤ s → s ≤ (j : Int) * 248832 → 0 ≤ m → m ≤ 248832 → s + sumT (dnt sc) (l.drop j) = S → mxF (dnt sc) m (l.drop j) = M →
    spec_DensityFeasible.l1 k l c sc s m (j : Int) = some (decide (S + (c - 1) * M ≤ c * sc)) := by
  have hlen := hok.len
  intro d
  induction d with
  | zero =>
    intro j k s m hj hk h0 h1 h2 h3 hS hM
    obtain ⟨k, rfl⟩ : ∃ m, k = m + 1 := ⟨k - 1, by omega⟩
    rw [List.drop_eq_nil_of_le (by omega)] at hS hM
    simp only [sumT, mxF] at hS hM
    subst hM
    have b1 : 0 ≤ (c - 1) * m := Int.mul_nonneg (by omega) h2
    have b2 : (c - 1) * m ≤ 4 * 248832 := Int.mul_le_mul (by omega) h3 h2 (by omega)
    have b3 : 0 ≤ c * sc := Int.mul_nonneg (by omega) (by omega)
    have b4 : c * sc ≤ 5 * 248832 := Int.mul_le_mul (by omega) (by omega) (by omega) (by omega)
    have e1 : wrap64 (c - 1) = c - 1 := w64 (by omega) (by omega)
    have e2 : wrap64 ((c - 1) * m) = (c - 1) * m := w64 (by omega) (by omega)
    have e3 : wrap64 (c * sc) = c * sc := w64 (by omega) (by omega)
    have e4 : wrap64 (s + (c - 1) * m) = s + (c - 1) * m := w64 (by omega) (by omega)
    rw [spec_DensityFeasible.l1]
    rw [if_neg (by omega), e1, e2, e3, e4]
    refine congrArg some (decide_eq_decide.mpr ?_)
    omega
  | succ d ih =>
    intro j k s m hj hk h0 h1 h2 h3 hS hM
    obtain ⟨k, rfl⟩ : ∃ m, k = m + 1 := ⟨k - 1, by omega⟩
    obtain ⟨y, hy, y0, y1, hne, _, ew⟩ := dstep (x := rdT l (j : Int)) (hok.rd j (by omega)) sc (by omega) (by omega)
    obtain ⟨g1, g2⟩ := dens_step l c s m sc j (by omega)
    rw [g1, hy] at hS
    rw [g2, hy] at hM
    simp only [rdT] at hne ew
    rw [spec_DensityFeasible.l1]
    rw [if_pos (by omega), if_pos (by omega), if_neg hne, ew, w64 (n := s + y) (by omega) (by omega), nx j (by omega)]
    have hm := mx_bd m y
    exact ih (j + 1) k (s + y) (mx m y) (by omega) (by omega) (by omega) (by omega) (by omega) (by omega) hS hM
theorem specDens_l0 (l : List Tk) (hok : Ok l) (c : Int) (hc : 1 ≤ c ∧ c ≤ 5) : ∀ (d j k h : Nat), j + d = l.length → 20 + d < k → 0 < h → h ≤ 12 ^ j → hypF h ((l.drop j).map dto) = hypN (l.map dto) →
    spec_DensityFeasible.l0 k l c (h : Int) (j : Int) = some (decide (dnS (hyp (l.map dto)) l + (c - 1) * dnM (hyp (l.map dto)) l ≤ c * hyp (l.map dto))) := by
  have hlen := hok.len
  intro d
  induction d with
  | zero =>
    intro j k h hj hk h0 hh hx
    obtain ⟨k, rfl⟩ : ∃ m, k = m + 1 := ⟨k - 1, by omega⟩
    rw [List.drop_eq_nil_of_le (by omega)] at hx
    have hx : h = hypN (l.map dto) := hx
    subst hx
    have := specDens_l1 l hok c hc (hyp (l.map dto)) (hyp_bd hok.dto) (dnS (hyp (l.map dto)) l) (dnM (hyp (l.map dto)) l) l.length 0 k 0 0 (by omega) (by omega) (by decide) (by decide) (by decide) (by decide) (by rw [List.drop_zero, Int.zero_add]; rfl) (by rw [List.drop_zero]; rfl)
    rw [spec_DensityFeasible.l0]
    rw [if_neg (by omega)]
    exact this
  | succ d ih =>
    intro j k h hj hk h0 hh hx
    obtain ⟨k, rfl⟩ : ∃ m, k = m + 1 := ⟨k - 1, by omega⟩
    have hr := hok.rd j (by omega)
    obtain ⟨P, hP⟩ := Int.eq_ofNat_of_zero_le (show 0 ≤ (rdT l (j : Int)).f1 from by omega)
    have hpow : 12 ^ j ≤ 12 ^ 4 := Nat.pow_le_pow_right (by omega) (by omega)
    have hp4 : (12 : Nat) ^ 4 = 20736 := by decide
    have hg : 0 < Nat.gcd h P := Nat.gcd_pos_of_pos_left _ h0
    have hdl : h / Nat.gcd h P ≤ h := Nat.div_le_self _ _
    have hl1 : Nat.lcm h P ≤ h * P := lcm_le _ _ h0
    have hl2 : h * P ≤ h * 12 := Nat.mul_le_mul_left _ (by omega)
    rw [drop_rd l j (by omega)] at hx
    simp only [List.map_cons, hypF] at hx
    rw [show (dto (rdT l (j : Int))).f2.toNat = P from by unfold dto; dsimp only; omega] at hx
    rw [spec_DensityFeasible.l0]
    rw [if_pos (by omega), if_pos (by omega)]
    rw [show (rd_T29 l (j : Int)).f1 = (P : Int) from hP, specGcd k P h (by omega), Option.bind_some]
    rw [if_neg (by omega)]
    rw [tdiv_nat, w64n (h / Nat.gcd h P) (Nat.le_trans hdl (by omega)), show ((h / Nat.gcd h P : Nat) : Int) * (P : Int) = ((Nat.lcm h P : Nat) : Int) from by rw [← div_gcd_mul, Int.natCast_mul], w64 (n := ((Nat.lcm h P : Nat) : Int)) (by omega) (by omega), nx j (by omega)]
    exact ih (j + 1) k (Nat.lcm h P) (by omega) (by omega) (lcm_pos' h0 (by omega)) (by rw [Nat.pow_succ]; omega) hx

theorem dvd27720 {D : Int} (h1 : 1 ≤ D) (h2 : D ≤ 12) : D ∣ 27720 := by
  have : D = 1 ∨ D = 2 ∨ D = 3 ∨ D = 4 ∨ D = 5 ∨ D = 6 ∨ D = 7 ∨ D = 8 ∨ D = 9 ∨ D = 10 ∨ D = 11 ∨ D = 12 := by omega
  rcases this with rfl | rfl | rfl | rfl | rfl | rfl | rfl | rfl | rfl | rfl | rfl | rfl <;> decide
theorem dens_scale {l : List Tk} (hok : Ok l) (c : Int) : (dnS (hyp (l.map dto)) l + (c - 1) * dnM (hyp (l.map dto)) l ≤ c * hyp (l.map dto)) ↔ (dnS 27720 l + (c - 1) * dnM 27720 l ≤ c * 27720) := by
  have hb := hyp_bd hok.dto
  have hd : hyp (l.map dto) ∣ 27720 := by
    refine hyp_min hok.dto 27720 (by omega) fun t ht => ?_
    have := hok.dto.all t ht
    exact dvd27720 (by omega) (by omega)
  obtain ⟨m, hm⟩ := hd
  have hm0 : 1 ≤ m := by
    rcases Int.lt_or_le m 1 with h | h
    · have : hyp (l.map dto) * m ≤ hyp (l.map dto) * 0 := Int.mul_le_mul_of_nonneg_left (by omega) (by omega)
      omega
    · exact h
  have ht : ∀ t ∈ l, dnt 27720 t = dnt (hyp (l.map dto)) t * m := by
    intro t ht
    have h1 := hok.all t ht
    obtain ⟨q, hq⟩ := hyp_dvd_mem hok.dto (dto t) (List.mem_map_of_mem ht)
    have hq : hyp (l.map dto) = t.f1 * q := hq
    unfold dnt
    rw [hm, hq, Int.mul_assoc, Int.mul_ediv_cancel_left _ (by omega), Int.mul_ediv_cancel_left _ (by omega)]
    ac_rfl
  have e1 : dnS 27720 l = dnS (hyp (l.map dto)) l * m := by
    unfold dnS
    rw [← sumT_mul]
    exact sumT_congr l ht
  have e2 : dnM 27720 l = dnM (hyp (l.map dto)) l * m := by
    unfold dnM
    rw [← mxF_mul _ m (by omega), Int.zero_mul]
    exact mxF_congr l 0 ht
  rw [e1, e2, show c * 27720 = c * hyp (l.map dto) * m from by rw [Int.mul_assoc, ← hm], ← Int.mul_assoc, ← Int.add_mul]
  constructor
  · intro h; exact Int.mul_le_mul_of_nonneg_right h (by omega)
  · intro h; exact Int.le_of_mul_le_mul_right h (by omega)
theorem specDens_eq (l : List Tk) (hl : l.length ≤ 1000) (c : Int) (k : Nat) (hk : 2000 ≤ k) : spec_DensityFeasible.f k l c = some (dens l c) := by
  obtain ⟨k, rfl⟩ : ∃ m, k = m + 1 := ⟨k - 1, by omega⟩
  unfold spec_DensityFeasible.f dens
  rw [specSet_eq l (by omega) (k + 1) (by omega), Option.bind_some]
  by_cases h : setOk l = true
  · have hok := Ok.mk' h
    have hlen := hok.len
    rw [if_pos h, h, Bool.true_and, l1In_eq, Option.bind_some, spec_DensityFeasible.j0]
    by_cases hc : 1 ≤ c ∧ c ≤ 5
    · rw [decide_eq_true hc, if_neg (by simp), Bool.true_and]
      have := specDens_l0 l hok c hc l.length 0 k 1 (by omega) (by omega) (by omega) (by simp) (by rw [List.drop_zero]; rfl)
      rw [← decide_eq_decide.mpr (dens_scale hok c)]
      exact this
    · rw [decide_eq_false hc, if_pos (by simp), Bool.false_and]
  · have h0 : setOk l = false := by simpa using h
    rw [if_neg h, spec_DensityFeasible.j0, if_pos rfl, h0, Bool.false_and]

theorem dens_iff (l : List Tk) (c : Int) : dens l c = true ↔ Ok l ∧ (1 ≤ c ∧ c ≤ 5) ∧ dnS 27720 l + (c - 1) * dnM 27720 l ≤ c * 27720 := by
  unfold dens
  rw [Bool.and_eq_true, Bool.and_eq_true, setOk_iff, decide_eq_true_eq, decide_eq_true_eq]
theorem dens_wo {l : List Tk} {c : Int} (h : dens l c = true) {j : Nat} (hj : j < l.length) : dens (wo l j) c = true := by
  rw [dens_iff] at h ⊢
  obtain ⟨hok, hc, h⟩ := h
  refine ⟨hok.wo hj, hc, ?_⟩
  have e1 : dnS 27720 (wo l j) = dnS 27720 l - dnt 27720 l[j] := sumT_erase _ l j hj
  have e2 : dnM 27720 (wo l j) ≤ dnM 27720 l := by
    have a := (mxF_le (dnt 27720) (dnM 27720 l) l 0).mp (Int.le_refl _)
    exact (mxF_le _ _ _ _).mpr ⟨a.1, fun t ht => a.2 t (wo_mem ht)⟩
  have e3 := (dnt_bd (hok.all _ (List.getElem_mem hj)) 27720 (by omega)).1
  have e4 : (c - 1) * dnM 27720 (wo l j) ≤ (c - 1) * dnM 27720 l := Int.mul_le_mul_of_nonneg_left e2 (by omega)
  omega
theorem dens_more {l : List Tk} {c : Int} (h : dens l c = true) (hc5 : c ≠ 5) : dens l (c + 1) = true := by
  rw [dens_iff] at h ⊢
  obtain ⟨hok, hc, h⟩ := h
  refine ⟨hok, by omega, ?_⟩
  have hm := dnM_bd hok 27720 (by omega)
  have e : (c + 1 - 1) * dnM 27720 l = (c - 1) * dnM 27720 l + dnM 27720 l := by
    rw [show c + 1 - 1 = (c - 1) + 1 from by omega, Int.add_mul, Int.one_mul]
  omega
theorem dens_edf {l : List Tk} (h : dens l 1 = true) : edf l = true := by
  rw [dens_iff] at h
  obtain ⟨hok, _, h⟩ := h
  have h : dnS 27720 l ≤ 27720 := by simpa using h
  rw [edf_iff]
  refine ⟨hok, fun s h1 _ => ?_⟩
  have hs : dem l s * 27720 ≤ s * dnS 27720 l := by
    unfold dem dnS
    rw [← sumT_mul, Int.mul_comm s, ← sumT_mul]
    refine sumT_mono l fun x hx => ?_
    have hk := hok.all x hx
    obtain ⟨q, hq⟩ := dvd27720 (D := x.f1) (by omega) (by omega)
    have hq0 : 0 ≤ q := by
      rcases Int.lt_or_le q 0 with h0 | h0
      · have : x.f1 * q < 0 := Int.mul_neg_of_pos_of_neg (by omega) h0
        omega
      · exact h0
    unfold dterm dnt
    rw [hq, Int.mul_ediv_cancel_left _ (by omega)]
    by_cases hd : x.f1 ≤ s
    · rw [if_pos hd]
      have a1 : (s - x.f1) / x.f2 * x.f2 ≤ s - x.f1 := Int.ediv_mul_le _ (by omega)
      have a0 : 0 ≤ (s - x.f1) / x.f2 := Int.ediv_nonneg (by omega) (by omega)
      have a2 : (s - x.f1) / x.f2 * x.f1 ≤ (s - x.f1) / x.f2 * x.f2 := Int.mul_le_mul_of_nonneg_left (by omega) a0
      have a3 : ((s - x.f1) / x.f2 + 1) * x.f1 ≤ s := by rw [Int.add_mul, Int.one_mul]; omega
      have a4 : ((s - x.f1) / x.f2 + 1) * x.f1 * (x.f0 * q) ≤ s * (x.f0 * q) := Int.mul_le_mul_of_nonneg_right a3 (Int.mul_nonneg (by omega) hq0)
      have e1 : ((s - x.f1) / x.f2 + 1) * x.f0 * (x.f1 * q) = ((s - x.f1) / x.f2 + 1) * x.f1 * (x.f0 * q) := by ac_rfl
      have e2 : q * x.f0 * s = s * (x.f0 * q) := by ac_rfl
      rw [e1, e2]; exact a4
    · rw [if_neg hd, Int.zero_mul]
      exact Int.mul_nonneg (Int.mul_nonneg hq0 (by omega)) (by omega)
  have h2 : s * dnS 27720 l ≤ s * 27720 := Int.mul_le_mul_of_nonneg_left h (by omega)
  exact Int.le_of_mul_le_mul_right (Int.le_trans hs h2) (by omega)

end Go.Proofs.Ytmjclbjafodakaa.Pu
