-- written by mp.py, a program of this session's, out of the kit's print program and the translation
import Derived.Test.YtncombcckeeecaaF0
namespace Go.Proofs.Ytncombcckeeecaa.Q
open Go.RowKit Go.Proofs.YtncombcckeeecaaW.PrintWords Go.Proofs.YtncombcckeeecaaW.PrintLast Go.Proofs.YtncombcckeeecaaW.PrintMore
attribute [local go_sem] max2_int min2_int max_two min_two max_three min_three max_four min_four   -- for this text's walks alone
set_option linter.unusedVariables false
set_option linter.unusedSimpArgs false

/-! ### slices_IndexFunc_int_int: function 60 -/
def idxOf_I (p : Int → Bool) (l : List Int) : Int := match l.findIdx? p with | some i => (i : Int) | none => -1
theorem idxOf_I_hit {p : Int → Bool} {l : List Int} {k : Nat} (hk : k < l.length) (h : p (rd l (k : Int)) = true) (hb : ∀ j, j < k → p (rd l (j : Int)) = false) : idxOf_I p l = (k : Int) := by
  have e : l.findIdx? p = some k := by
    rw [List.findIdx?_eq_some_iff_getElem]
    refine ⟨hk, ?_, fun j hj => ?_⟩
    · have := h; simp only [rd, Int.toNat_natCast, List.getD_eq_getElem?_getD, List.getElem?_eq_getElem hk, Option.getD_some] at this; exact this
    · have := hb j hj; simp only [rd, Int.toNat_natCast, List.getD_eq_getElem?_getD, List.getElem?_eq_getElem (show j < l.length by omega), Option.getD_some] at this; simp [this]
  unfold idxOf_I; rw [e]
theorem idxOf_I_miss {p : Int → Bool} {l : List Int} (hb : ∀ j, j < l.length → p (rd l (j : Int)) = false) : idxOf_I p l = -1 := by
  have e : l.findIdx? p = none := by
    rw [List.findIdx?_eq_none_iff]
    intro x hx
    obtain ⟨j, hj, rfl⟩ := List.getElem_of_mem hx
    have := hb j hj; simp only [rd, Int.toNat_natCast, List.getD_eq_getElem?_getD, List.getElem?_eq_getElem hj, Option.getD_some] at this; exact this
  unfold idxOf_I; rw [e]
theorem idxOf_I_any (p : Int → Bool) (l : List Int) : decide (0 ≤ idxOf_I p l) = l.any p := by
  unfold idxOf_I
  cases h : l.findIdx? p with
  | none =>
    rw [List.findIdx?_eq_none_iff] at h
    have : l.any p = false := by rw [List.any_eq_false]; intro x hx; simp [h x hx]
    simp [this]
  | some i =>
    rw [List.findIdx?_eq_some_iff_getElem] at h
    obtain ⟨hi, hp, _⟩ := h
    have : l.any p = true := by rw [List.any_eq_true]; exact ⟨_, List.getElem_mem hi, hp⟩
    simp [this]
set_option maxHeartbeats 8000000 in
set_option maxRecDepth 100000 in
theorem idxFunc_I.calls (G : Nat) (hG : Enters Try.prog G) (lb : Array Value) (p : Int → Bool) (A0 : Option Addr) (c0 : Nat) (l0 : List Int) (w : World) (hr0 : Kd.C (Kd.int .i64) w A0 l0.length l0) (hbig : l0.length ≤ 9223372036854775807)
    (hp : ∀ (W : World) (k : Nat), k < l0.length → Below w.heap.size w W → Calls Try.prog G (#[.int .i64 (rd l0 (k : Int))] ++ lb) W fun e w' => e = .returned (.bool (p (rd l0 (k : Int)))) ∧ Below w.heap.size w w') :
    Calls Try.prog 60 #[.slice A0 l0.length c0, .func (.func G) #[] lb] w fun e w' => e = .returned (.int .i64 (idxOf_I p l0)) ∧ Below w.heap.size w w' := by
  have hu := Try.underlying3
  have eG := hG
  unfold Enters at eG
  clear hG
  have HR0 := Aside0.mk hr0
  have HP := Aside0.mk hp
  clear hr0 hp
  go_enter Try.func60, Try.ntmps60
  go_wp2
  go_loopg [5, 8] l0.length (fun gg _ s8 wr => ∃ kk : Nat, kk ≤ l0.length ∧ l0.length - kk ≤ gg ∧ s8 = .int .i64 kk ∧ Aside0 (Below w.heap.size w wr) ∧ Aside0 (∀ j, j < kk → p (rd l0 (j : Int)) = false))
  case atStart => exact ⟨0, Nat.zero_le _, by omega, rfl, ⟨Below.refl _ w⟩, ⟨fun j hj => absurd hj (Nat.not_lt_zero _)⟩⟩
  case round =>
    obtain ⟨kk, hkk, hg, rfl, BW, A⟩ := hrel
    by_cases hlt : kk < l0.length
    · obtain ⟨ad, e0, hx0⟩ := Kd.at_int HR0.out (kk : Int) (by omega) (by omega)
      cases e0
      replace hx0 := (BW.out.cell (World.block_lt_of_cell? w _ hx0)).trans hx0
      simp only [Int.toNat_natCast] at hx0
      have hcall := HP.out wr kk hlt BW.out
      have hltz : (kk : Int) < (l0.length : Int) := by omega
      generalize hy : rd l0 (kk : Int) = y at hx0 hcall
      have B : Aside0 (rd l0 (kk : Int) = y) := ⟨hy⟩
      clear hy
      cases hq : p y with
      | true =>
        rw [hq] at hcall
        go_wp2_with (go_at_fn G; refine hcall.mono ?_; rintro e w' ⟨rfl, hb'⟩)
        go_ret
        rw [idxOf_I_hit hlt (by rw [B.out]; exact hq) A.out]
        exact ⟨rfl, hb'⟩
      | false =>
        rw [hq] at hcall
        have hA : Aside0 (∀ j, j < kk + 1 → p (rd l0 (j : Int)) = false) := by
          refine ⟨fun j hj => ?_⟩
          by_cases h : j = kk
          · rw [h, B.out]; exact hq
          · exact A.out j (by omega)
        go_wp2_with (go_at_fn G; refine hcall.mono ?_; rintro e w' ⟨rfl, hb'⟩)
        go_roundg (l0.length - (kk + 1))
        case measure => omega
        case rel => exact ⟨kk + 1, by omega, by omega, by go_num, ⟨hb'⟩, ⟨hA.out⟩⟩
    · have : kk = l0.length := by omega
      subst this
      go_wp2
      go_ret
      rw [idxOf_I_miss A.out]
      exact ⟨rfl, BW.out⟩

end Go.Proofs.Ytncombcckeeecaa.Q
