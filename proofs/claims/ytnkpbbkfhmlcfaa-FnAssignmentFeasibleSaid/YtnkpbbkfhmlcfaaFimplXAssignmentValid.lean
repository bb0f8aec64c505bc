-- written by mp.py, a program of this session's, out of the kit's print program and the translation
import Derived.Test.YtnkpbbkfhmlcfaaF0
import Derived.Test.YtnkpbbkfhmlcfaaFA
import Derived.Test.YtnkpbbkfhmlcfaaFimplXSetValid
import Derived.Test.YtnkpbbkfhmlcfaaFimplXisCores
import Derived.Test.YtnkpbbkfhmlcfaaFslicesXContainsFuncXintXint
namespace Go.Proofs.Ytnkpbbkfhmlcfaa.Q
open Go.RowKit Go.Proofs.YtnkpbbkfhmlcfaaW.PrintWords Go.Proofs.YtnkpbbkfhmlcfaaW.PrintLast Go.Proofs.YtnkpbbkfhmlcfaaW.PrintMore
attribute [local go_sem] max2_int min2_int max_two min_two max_three min_three max_four min_four   -- for this text's walks alone
set_option linter.unusedVariables false
set_option linter.unusedSimpArgs false

/-! ### impl_AssignmentValid: function 19 -/
theorem impl_in.total_AV (a b c : Int) : ∃ r, impl_in.f a b c = some r := by unfold impl_in.f; split <;> exact ⟨_, rfl⟩
/-- The test of one entry, as the library's ContainsFunc asks it. -/
def badCore (cores c : Int) : Bool := !(impl_in.f c 0 (wrap64 (cores - 1)) == some true)
def impl_AssignmentValid.f (l0 : List S42) (a1 : Int) (l2 : List Int) : Option Bool := (impl_SetValid.f l0).bind fun b1 => if b1 = true then (impl_isCores.f a1).bind fun b2 => (if b2 = true then (if l2.length = l0.length then some (!(l2.any (badCore a1))) else some false) else some false) else some false
set_option maxHeartbeats 8000000 in
set_option maxRecDepth 100000 in
theorem badCore.calls (cores c : Int) (b : Nat) (w : World) (hc : w.cell? ⟨b, 0, none⟩ = some (.int .i64 cores)) :
    Calls Try.prog 50 #[.int .i64 c, .pointer (some ⟨b, 0, none⟩)] w fun e w' => e = .returned (.bool (badCore cores c)) ∧ Below w.heap.size w w' := by
  obtain ⟨r, hr⟩ := impl_in.total_AV c 0 (wrap64 (cores - 1))
  have HR := Aside0.mk (show badCore cores c = !r by unfold badCore; rw [hr]; cases r <;> rfl)
  have A1 := Aside0.mk hr
  clear hr
  obtain ⟨v, hv⟩ : ∃ v, wrap64 (cores - 1) = v := ⟨_, rfl⟩
  rw [hv] at A1
  have hw : IntKind.i64.wrap (cores - 1) = v := (i64_w _).trans hv
  clear hv
  obtain ⟨q, hq⟩ : ∃ q, badCore cores c = q := ⟨_, rfl⟩
  rw [hq] at HR ⊢
  clear hq
  go_enter Try.func50, Try.ntmps50
  go_wp2_with (go_at_call 44; refine (impl_in.calls c 0 v r _ A1.out).mono ?_; rintro e w2 ⟨rfl, ⟨nd, rfl⟩⟩)
  go_ret
  rw [HR.out]
  exact ⟨rfl, pw_below_drewN (Below.refl _ _) _⟩
set_option maxHeartbeats 8000000 in
set_option maxRecDepth 100000 in
theorem impl_AssignmentValid.calls (A0 : Option Addr) (c0 : Nat) (l0 : List (S42)) (a1 : Int) (A2 : Option Addr) (c2 : Nat) (l2 : List Int) (r : Bool) (w : World) (hr0 : Kd.C k42 w A0 l0.length l0) (hc0 : l0.length ≤ c0) (hr2 : Kd.C (Kd.int .i64) w A2 l2.length l2) (hc2 : l2.length ≤ c2) (h : impl_AssignmentValid.f l0 a1 l2 = some r) :
    Calls Try.prog 19 #[.slice A0 l0.length c0, .int .i64 a1, .slice A2 l2.length c2] w fun e w' => e = .returned (.bool r) ∧ Below w.heap.size w w' := by
  unfold impl_AssignmentValid.f at h
  obtain ⟨b1, hb1, h⟩ := Option.bind_eq_some_iff.mp h
  have hset := fun W hB => impl_SetValid.calls A0 c0 l0 b1 W (Kd.C_below hr0 hB) hc0 hb1
  clear hb1
  have HC2 := Aside0.mk hr2
  clear hr0 hc0 hr2 hc2
  cases b1 with
  | false =>
    rw [if_neg (by simp)] at h
    obtain rfl := Option.some.inj h
    clear h
    go_enter Try.func19, Try.ntmps19
    go_wp2_with (go_at_call 42; refine (hset _ (below_alloc (Below.refl w.heap.size w) _)).mono ?_; rintro e w2 ⟨rfl, hb⟩)
    go_ret
    exact ⟨rfl, below_step (below_alloc (Below.refl w.heap.size w) _) hb⟩
  | true =>
    rw [if_pos rfl] at h
    obtain ⟨b2, hb2, h⟩ := Option.bind_eq_some_iff.mp h
    have hcor := fun W => impl_isCores.calls a1 b2 W hb2
    clear hb2
    cases b2 with
    | false =>
      rw [if_neg (by simp)] at h
      obtain rfl := Option.some.inj h
      clear h
      go_enter Try.func19, Try.ntmps19
      go_wp2_with (first | (go_at_call 42; refine (hset _ (below_alloc (Below.refl w.heap.size w) _)).mono ?_; rintro e w2 ⟨rfl, hb⟩; have hx0 : w2.cell? ⟨w.heap.size, 0, none⟩ = some (.int .i64 a1) := (hb.cell (p := ⟨w.heap.size, 0, none⟩) (by simp)).trans (by simp [go_sem]); have HB := Aside0.mk (below_step (below_alloc (Below.refl w.heap.size w) _) hb); clear hb) | (go_at_call 48; refine (hcor _).mono ?_; rintro e w3 ⟨rfl, ⟨nd, rfl⟩⟩))
      go_ret
      exact ⟨rfl, pw_below_drewN HB.out _⟩
    | true =>
      rw [if_pos rfl] at h
      by_cases hl : l2.length = l0.length
      · rw [if_pos hl] at h
        have H1 := Aside0.mk (Option.some.inj h)
        clear h
        have hd : ((l2.length : Int) == (l0.length : Int)) = true := by rw [beq_iff_eq]; omega
        have HL := Aside0.mk hl
        clear hl
        have hcon := fun (W : World) (hB : Below w.heap.size w W) (hx : W.cell? ⟨w.heap.size, 0, none⟩ = some (.int .i64 a1)) => contFunc_I.calls 50 (enters_of Try.func50 (by kernel_rfl) rfl) #[.pointer (some ⟨w.heap.size, 0, none⟩)] (badCore a1) A2 c2 l2 W (Kd.C_below HC2.out hB) HC2.out.2.1 (fun W2 k _ hB2 => (badCore.calls a1 _ w.heap.size W2 ((hB2.cell (World.block_lt_of_cell? W _ hx)).trans hx)).mono fun e w' ⟨he, hb⟩ => ⟨he, below_step hB2 hb⟩)
        obtain ⟨q, hq⟩ : ∃ q, l2.any (badCore a1) = q := ⟨_, rfl⟩
        rw [hq] at hcon H1
        clear hq
        go_enter Try.func19, Try.ntmps19
        go_wp2_with (first | (go_at_call 42; refine (hset _ (below_alloc (Below.refl w.heap.size w) _)).mono ?_; rintro e w2 ⟨rfl, hb⟩; have hx0 : w2.cell? ⟨w.heap.size, 0, none⟩ = some (.int .i64 a1) := (hb.cell (p := ⟨w.heap.size, 0, none⟩) (by simp)).trans (by simp [go_sem]); have HB := Aside0.mk (below_step (below_alloc (Below.refl w.heap.size w) _) hb); clear hb) | (go_at_call 48; refine (hcor _).mono ?_; rintro e w3 ⟨rfl, ⟨nd, rfl⟩⟩) | (go_at_call 49; refine (hcon _ (pw_below_drewN HB.out _) (by simpa [go_sem] using hx0)).mono ?_; rintro e w4 ⟨rfl, hb4⟩))
        go_ret
        rw [← H1.out]
        exact ⟨rfl, below_step (pw_below_drewN HB.out _) hb4⟩
      · rw [if_neg hl] at h
        obtain rfl := Option.some.inj h
        clear h
        have hd : ((l2.length : Int) == (l0.length : Int)) = false := by rw [beq_eq_false_iff_ne]; omega
        clear hl
        go_enter Try.func19, Try.ntmps19
        go_wp2_with (first | (go_at_call 42; refine (hset _ (below_alloc (Below.refl w.heap.size w) _)).mono ?_; rintro e w2 ⟨rfl, hb⟩; have hx0 : w2.cell? ⟨w.heap.size, 0, none⟩ = some (.int .i64 a1) := (hb.cell (p := ⟨w.heap.size, 0, none⟩) (by simp)).trans (by simp [go_sem]); have HB := Aside0.mk (below_step (below_alloc (Below.refl w.heap.size w) _) hb); clear hb) | (go_at_call 48; refine (hcor _).mono ?_; rintro e w3 ⟨rfl, ⟨nd, rfl⟩⟩))
        go_ret
        exact ⟨rfl, pw_below_drewN HB.out _⟩

end Go.Proofs.Ytnkpbbkfhmlcfaa.Q
