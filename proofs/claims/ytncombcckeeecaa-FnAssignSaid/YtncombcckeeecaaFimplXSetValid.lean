-- written by mp.py, a program of this session's, out of the kit's print program and the translation
import Derived.Test.YtncombcckeeecaaF0
import Derived.Test.YtncombcckeeecaaFA
namespace Go.Proofs.Ytncombcckeeecaa.Q
open Go.RowKit Go.Proofs.YtncombcckeeecaaW.PrintWords Go.Proofs.YtncombcckeeecaaW.PrintLast Go.Proofs.YtncombcckeeecaaW.PrintMore
attribute [local go_sem] max2_int min2_int max_two min_two max_three min_three max_four min_four   -- for this text's walks alone
set_option linter.unusedVariables false
set_option linter.unusedSimpArgs false

/-! ### impl_SetValid: function 50 -/
def idxOf_T34 (p : S34 → Bool) (l : List S34) : Int := match l.findIdx? p with | some i => (i : Int) | none => -1
theorem idxOf_T34_hit {p : S34 → Bool} {l : List S34} {k : Nat} (hk : k < l.length) (h : p (rd_T34 l (k : Int)) = true) (hb : ∀ j, j < k → p (rd_T34 l (j : Int)) = false) : idxOf_T34 p l = (k : Int) := by
  have e : l.findIdx? p = some k := by
    rw [List.findIdx?_eq_some_iff_getElem]
    refine ⟨hk, ?_, fun j hj => ?_⟩
    · have := h; simp only [rd_T34, Int.toNat_natCast, List.getD_eq_getElem?_getD, List.getElem?_eq_getElem hk, Option.getD_some] at this; exact this
    · have := hb j hj; simp only [rd_T34, Int.toNat_natCast, List.getD_eq_getElem?_getD, List.getElem?_eq_getElem (show j < l.length by omega), Option.getD_some] at this; simp [this]
  unfold idxOf_T34; rw [e]
theorem idxOf_T34_miss {p : S34 → Bool} {l : List S34} (hb : ∀ j, j < l.length → p (rd_T34 l (j : Int)) = false) : idxOf_T34 p l = -1 := by
  have e : l.findIdx? p = none := by
    rw [List.findIdx?_eq_none_iff]
    intro x hx
    obtain ⟨j, hj, rfl⟩ := List.getElem_of_mem hx
    have := hb j hj; simp only [rd_T34, Int.toNat_natCast, List.getD_eq_getElem?_getD, List.getElem?_eq_getElem hj, Option.getD_some] at this; exact this
  unfold idxOf_T34; rw [e]
theorem idxOf_T34_any (p : S34 → Bool) (l : List S34) : decide (0 ≤ idxOf_T34 p l) = l.any p := by
  unfold idxOf_T34
  cases h : l.findIdx? p with
  | none =>
    rw [List.findIdx?_eq_none_iff] at h
    have : l.any p = false := by rw [List.any_eq_false]; intro x hx; simp [h x hx]
    simp [this]
  | some i =>
    rw [List.findIdx?_eq_some_iff_getElem] at h
    obtain ⟨hi, hp, _⟩ := h
    have : l.any p = true := by rw [List.any_eq_true]; exact ⟨_, List.getElem_mem hi, hp⟩
    simp [this]
set_option maxHeartbeats 8000000 in
set_option maxRecDepth 100000 in
theorem idxFunc_T34.calls (G : Nat) (hG : Enters Try.prog G) (lb : Array Value) (p : S34 → Bool) (A0 : Option Addr) (c0 : Nat) (l0 : List S34) (w : World) (hr0 : Kd.C k34 w A0 l0.length l0) (hbig : l0.length ≤ 9223372036854775807)
    (hp : ∀ (W : World) (k : Nat), k < l0.length → Below w.heap.size w W → Calls Try.prog G (#[.agg #[.int .i64 (rd_T34 l0 (k : Int)).f0, .int .i64 (rd_T34 l0 (k : Int)).f1, .int .i64 (rd_T34 l0 (k : Int)).f2]] ++ lb) W fun e w' => e = .returned (.bool (p (rd_T34 l0 (k : Int)))) ∧ Below w.heap.size w w') :
    Calls Try.prog 95 #[.slice A0 l0.length c0, .func (.func G) #[] lb] w fun e w' => e = .returned (.int .i64 (idxOf_T34 p l0)) ∧ Below w.heap.size w w' := by
  have hu := Try.underlying34
  have eG := hG
  unfold Enters at eG
  clear hG
  have HR0 := Aside0.mk hr0
  have HP := Aside0.mk hp
  clear hr0 hp
  go_enter Try.func95, Try.ntmps95
  go_wp2
  go_loopg [5, 8] l0.length (fun gg _ s8 wr => ∃ kk : Nat, kk ≤ l0.length ∧ l0.length - kk ≤ gg ∧ s8 = .int .i64 kk ∧ Aside0 (Below w.heap.size w wr) ∧ Aside0 (∀ j, j < kk → p (rd_T34 l0 (j : Int)) = false))
  case atStart => exact ⟨0, Nat.zero_le _, by omega, rfl, ⟨Below.refl _ w⟩, ⟨fun j hj => absurd hj (Nat.not_lt_zero _)⟩⟩
  case round =>
    obtain ⟨kk, hkk, hg, rfl, BW, A⟩ := hrel
    by_cases hlt : kk < l0.length
    · obtain ⟨ad, e0, hx0, hx1, hx2⟩ := at_T34 HR0.out (kk : Int) (by omega) (by omega)
      cases e0
      replace hx0 := (BW.out.cell (World.block_lt_of_cell? w _ hx0)).trans hx0
      replace hx1 := (BW.out.cell (World.block_lt_of_cell? w _ hx1)).trans hx1
      replace hx2 := (BW.out.cell (World.block_lt_of_cell? w _ hx2)).trans hx2
      simp only [Int.toNat_natCast] at hx0 hx1 hx2
      have hcall := HP.out wr kk hlt BW.out
      have hltz : (kk : Int) < (l0.length : Int) := by omega
      generalize hy : rd_T34 l0 (kk : Int) = y at hx0 hx1 hx2 hcall
      have B : Aside0 (rd_T34 l0 (kk : Int) = y) := ⟨hy⟩
      clear hy
      cases hq : p y with
      | true =>
        rw [hq] at hcall
        go_wp2_with (go_at_fn G; refine hcall.mono ?_; rintro e w' ⟨rfl, hb'⟩)
        go_ret
        rw [idxOf_T34_hit hlt (by rw [B.out]; exact hq) A.out]
        exact ⟨rfl, hb'⟩
      | false =>
        rw [hq] at hcall
        have hA : Aside0 (∀ j, j < kk + 1 → p (rd_T34 l0 (j : Int)) = false) := by
          refine ⟨fun j hj => ?_⟩
          by_cases h : j = kk
          · rw [h, B.out]; exact hq
          · exact A.out j (by omega)
        go_wp2_with (go_at_fn G; refine hcall.mono ?_; rintro e w' ⟨rfl, hb'⟩)
        go_roundg (l0.length - (kk + 1))
        case measure => omega
        case rel => exact ⟨kk + 1, by omega, by omega, by go_num, ⟨hb'⟩, ⟨hA.out⟩⟩
    · have : kk = l0.length := by omega
      subst this
      go_wp2
      go_ret
      rw [idxOf_T34_miss A.out]
      exact ⟨rfl, BW.out⟩
set_option maxHeartbeats 8000000 in
set_option maxRecDepth 100000 in
theorem contFunc_T34.calls (G : Nat) (hG : Enters Try.prog G) (lb : Array Value) (p : S34 → Bool) (A0 : Option Addr) (c0 : Nat) (l0 : List S34) (w : World) (hr0 : Kd.C k34 w A0 l0.length l0) (hbig : l0.length ≤ 9223372036854775807)
    (hp : ∀ (W : World) (k : Nat), k < l0.length → Below w.heap.size w W → Calls Try.prog G (#[.agg #[.int .i64 (rd_T34 l0 (k : Int)).f0, .int .i64 (rd_T34 l0 (k : Int)).f1, .int .i64 (rd_T34 l0 (k : Int)).f2]] ++ lb) W fun e w' => e = .returned (.bool (p (rd_T34 l0 (k : Int)))) ∧ Below w.heap.size w w') :
    Calls Try.prog 86 #[.slice A0 l0.length c0, .func (.func G) #[] lb] w fun e w' => e = .returned (.bool (l0.any p)) ∧ Below w.heap.size w w' := by
  have HC := idxFunc_T34.calls G hG lb p A0 c0 l0 w hr0 hbig hp
  have HI := Aside0.mk (idxOf_T34_any p l0)
  clear hp hr0
  obtain ⟨i, hi⟩ : ∃ i, idxOf_T34 p l0 = i := ⟨_, rfl⟩
  rw [hi] at HC HI
  clear hi
  go_enter Try.func86, Try.ntmps86
  go_wp2_with (go_at_call 95; refine HC.mono ?_; rintro e w2 ⟨rfl, hb⟩)
  go_ret
  rw [← HI.out]
  exact ⟨rfl, hb⟩
/-- 'impl.SetValid$1': the test of one task, as the library's ContainsFunc asks it. -/
def badTask (x : S34) : Bool := !(impl_TaskValid.f x.f0 x.f1 x.f2 == some true)
def impl_SetValid.f (l0 : List S34) : Option Bool := some (decide ((l0.length : Int) ≤ 5) && !(l0.any badTask))
theorem impl_TaskValid.total (a b c : Int) : ∃ r, impl_TaskValid.f a b c = some r := by
  unfold impl_TaskValid.f impl_in.f
  repeat' split
  all_goals first | exact ⟨_, rfl⟩ | (simp only [Option.bind_some]; repeat' split) 
  all_goals exact ⟨_, rfl⟩
set_option maxHeartbeats 8000000 in
set_option maxRecDepth 100000 in
theorem impl_SetValid_1.calls (x : S34) (w : World) :
    Calls Try.prog 87 #[.agg #[.int .i64 x.f0, .int .i64 x.f1, .int .i64 x.f2]] w fun e w' => e = .returned (.bool (badTask x)) ∧ Below w.heap.size w w' := by
  have hu := Try.underlying34
  obtain ⟨r, hr⟩ := impl_TaskValid.total x.f0 x.f1 x.f2
  have HR := Aside0.mk (show badTask x = !r by unfold badTask; rw [hr]; cases r <;> rfl)
  have A1 := Aside0.mk hr
  clear hr
  obtain ⟨b, hb⟩ : ∃ b, badTask x = b := ⟨_, rfl⟩
  rw [hb] at HR ⊢
  clear hb
  obtain ⟨x0, x1, x2⟩ := x
  go_enter Try.func87, Try.ntmps87
  go_wp2_with (go_at_call 53; (with_reducible refine (impl_TaskValid.calls x0 x1 x2 r _ A1.out).mono ?_); rintro e w2 ⟨rfl, hb⟩)
  go_ret
  rw [HR.out]
  exact ⟨rfl, below_step (below_alloc (Below.refl w.heap.size w) _) hb⟩
set_option maxHeartbeats 8000000 in
set_option maxRecDepth 100000 in
theorem impl_SetValid.calls (A0 : Option Addr) (c0 : Nat) (l0 : List S34) (r : Bool) (w : World) (hr0 : Kd.C k34 w A0 l0.length l0) (hc0 : l0.length ≤ c0) (h : impl_SetValid.f l0 = some r) :
    Calls Try.prog 50 #[.slice A0 l0.length c0] w fun e w' => e = .returned (.bool r) ∧ Below w.heap.size w w' := by
  have H := Aside0.mk (Option.some.inj h)
  clear h
  by_cases hlen : l0.length ≤ 5
  · have hd : decide ((l0.length : Int) ≤ 5) = true := decide_eq_true (by omega)
    have hcon := contFunc_T34.calls 87 (enters_of Try.func87 (by kernel_rfl) rfl) #[] badTask A0 c0 l0 w hr0 (by omega) (fun W k _ hB => (impl_SetValid_1.calls _ W).mono fun e w' ⟨he, hb⟩ => ⟨he, below_step hB hb⟩)
    have H1 : Aside0 ((!l0.any badTask) = r) := ⟨by have := H.out; rw [hd] at this; simpa using this⟩
    clear H hr0 hc0
    obtain ⟨b, hb⟩ : ∃ b, l0.any badTask = b := ⟨_, rfl⟩
    rw [hb] at hcon H1
    clear hb
    go_enter Try.func50, Try.ntmps50
    go_wp2_with (go_at_call 86; refine hcon.mono ?_; rintro e w2 ⟨rfl, hb⟩)
    go_ret
    rw [← H1.out]
    exact ⟨rfl, hb⟩
  · have hd : decide ((l0.length : Int) ≤ 5) = false := decide_eq_false (by omega)
    have H1 : Aside0 (false = r) := ⟨by have := H.out; rw [hd] at this; simpa using this⟩
    clear H hr0 hc0
    go_enter Try.func50, Try.ntmps50
    go_wp2
    go_ret
    rw [← H1.out]
    exact ⟨rfl, Below.refl _ _⟩

end Go.Proofs.Ytncombcckeeecaa.Q
