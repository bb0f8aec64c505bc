-- written by mp.py, a program of this session's, out of the kit's print program and the translation
import Derived.Test.YtpgheaoepaadlaaF0
import Derived.Test.YtpgheaoepaadlaaFA
import Derived.Test.YtpgheaoepaadlaaFimplXMixedValid
import Derived.Test.YtpgheaoepaadlaaFimplXordered
import Derived.Test.YtpgheaoepaadlaaFimplXspaced
import Derived.Test.YtpgheaoepaadlaaFslicesXContainsFuncXimplXJobXimplXJob
namespace Go.Proofs.Ytpgheaoepaadlaa.Q
open Go.RowKit Go.Proofs.YtpgheaoepaadlaaW.PrintWords Go.Proofs.YtpgheaoepaadlaaW.PrintLast Go.Proofs.YtpgheaoepaadlaaW.PrintMore
attribute [local go_sem] max2_int min2_int max_two min_two max_three min_three max_four min_four   -- for this text's walks alone
set_option linter.unusedVariables false
set_option linter.unusedSimpArgs false

/-! ### impl_MixedLegal: function 29 -/
/-- A job whose deadline is not its task's. -/
def badM (l0 : List S39) (x : S57) : Bool := !(x.f2 == wrap64 (x.f1 + (rd_T39 l0 x.f0).f2))
def impl_MixedLegal.f (k : Nat) (l0 : List S39) (l1 : List S57) : Option Bool := (impl_MixedValid.f l0).bind fun b1 => if b1 = true then (impl_ordered.f (fun t => some (rd_T39 l0 t).f1) k l1 (l0.length : Int) 0).bind fun b2 => (if b2 = true then (if spB (fun t => (rd_T39 l0 t).f2) l1 = true then some (!(l1.any (badM l0))) else some false) else some false) else some false
theorem impl_MixedLegal.mono : ∀ a0 a1 k, LeO (impl_MixedLegal.f k a0 a1) (impl_MixedLegal.f (k + 1) a0 a1) := by
  intro a0 a1 k
  unfold impl_MixedLegal.f
  refine LeO.bind (LeO.refl _) (fun b1 => ?_)
  refine LeO.ite ?_ (LeO.refl _)
  exact LeO.bind (impl_ordered.mono _ _ _ _ k) (fun b2 => LeO.refl _)
set_option maxHeartbeats 8000000 in
set_option maxRecDepth 100000 in
theorem ML1.calls (l0 : List S39) (A0 : Option Addr) (c0 b : Nat) (w : World) (t : Int) (h0 : 0 ≤ t) (h1 : t < (l0.length : Int)) (hx : w.cell? ⟨b, 0, none⟩ = some (.slice A0 l0.length c0)) (hr : Kd.C k39 w A0 l0.length l0) :
    Calls Try.prog 50 #[.int .i64 t, .pointer (some ⟨b, 0, none⟩)] w fun e w' => e = .returned (.int .i64 (rd_T39 l0 t).f1) ∧ w = w' := by
  have hu := Try.underlying39
  obtain ⟨ad, e0, hx0, hx1, hx2, hx3⟩ := at_T39 hr t h0 h1
  cases e0
  have d0 := decide_eq_true h0
  have d1 := decide_eq_true h1
  have HR := Aside0.mk hr
  clear hr
  go_enter Try.func50, Try.ntmps50
  go_wp2
  go_ret
  exact ⟨rfl, rfl⟩
set_option maxHeartbeats 8000000 in
set_option maxRecDepth 100000 in
theorem ML2.calls (l0 : List S39) (A0 : Option Addr) (c0 b : Nat) (w : World) (t : Int) (h0 : 0 ≤ t) (h1 : t < (l0.length : Int)) (hx : w.cell? ⟨b, 0, none⟩ = some (.slice A0 l0.length c0)) (hr : Kd.C k39 w A0 l0.length l0) :
    Calls Try.prog 53 #[.int .i64 t, .pointer (some ⟨b, 0, none⟩)] w fun e w' => e = .returned (.int .i64 (rd_T39 l0 t).f2) ∧ w = w' := by
  have hu := Try.underlying39
  obtain ⟨ad, e0, hx0, hx1, hx2, hx3⟩ := at_T39 hr t h0 h1
  cases e0
  have d0 := decide_eq_true h0
  have d1 := decide_eq_true h1
  have HR := Aside0.mk hr
  clear hr
  go_enter Try.func53, Try.ntmps53
  go_wp2
  go_ret
  exact ⟨rfl, rfl⟩
set_option maxHeartbeats 8000000 in
set_option maxRecDepth 100000 in
theorem ML3.calls (l0 : List S39) (A0 : Option Addr) (c0 b : Nat) (w : World) (x : S57) (h0 : 0 ≤ x.f0) (h1 : x.f0 < (l0.length : Int)) (hx : w.cell? ⟨b, 0, none⟩ = some (.slice A0 l0.length c0)) (hr : Kd.C k39 w A0 l0.length l0) :
    Calls Try.prog 55 #[.agg #[.int .i64 x.f0, .int .i64 x.f1, .int .i64 x.f2, .int .i64 x.f3], .pointer (some ⟨b, 0, none⟩)] w fun e w' => e = .returned (.bool (badM l0 x)) ∧ Below w.heap.size w w' := by
  have hu := Try.underlying39
  obtain ⟨x0, x1, x2, x3⟩ := x
  simp only [] at h0 h1
  obtain ⟨ad, e0, hx0, hx1, hx2, hx3⟩ := at_T39 hr x0 h0 h1
  cases e0
  have hb := World.block_lt_of_cell? w _ hx
  have g0 := World.block_lt_of_cell? w _ hx0
  have d0 := decide_eq_true h0
  have d1 := decide_eq_true h1
  have e : badM l0 ⟨x0, x1, x2, x3⟩ = !(x2 == wrap64 (x1 + (rd_T39 l0 x0).f2)) := rfl
  rw [e]
  obtain ⟨v, hv⟩ : ∃ v, wrap64 (x1 + (rd_T39 l0 x0).f2) = v := ⟨_, rfl⟩
  rw [hv]
  have hw : IntKind.i64.wrap (x1 + (rd_T39 l0 x0).f2) = v := (i64_w _).trans hv
  clear hv
  have HR := Aside0.mk hr
  clear hr e
  go_enter Try.func55, Try.ntmps55
  go_wp2
  go_quiet (fail)
  go_wp2
  go_ret
  exact ⟨rfl, by repeat (first | exact Below.refl _ _ | apply below_alloc | apply pw_below_drewN | apply below_drew1)⟩
theorem mixValid_len {l : List S39} (h : impl_MixedValid.f l = some true) : l.length ≤ 5 := by
  unfold impl_MixedValid.f at h
  have h1 := Option.some.inj h
  rw [Bool.and_eq_true] at h1
  have h2 := of_decide_eq_true h1.1
  omega
set_option maxHeartbeats 8000000 in
set_option maxRecDepth 100000 in
theorem impl_MixedLegal.calls (k : Nat) (A0 : Option Addr) (c0 : Nat) (l0 : List (S39)) (A1 : Option Addr) (c1 : Nat) (l1 : List (S57)) (r : Bool) (w : World) (hr0 : Kd.C k39 w A0 l0.length l0) (hc0 : l0.length ≤ c0) (hr1 : Kd.C k57 w A1 l1.length l1) (hc1 : l1.length ≤ c1) (h : impl_MixedLegal.f k l0 l1 = some r) :
    Calls Try.prog 29 #[.slice A0 l0.length c0, .slice A1 l1.length c1] w fun e w' => e = .returned (.bool r) ∧ Below w.heap.size w w' := by
  unfold impl_MixedLegal.f at h
  obtain ⟨b1, hb1, h⟩ := Option.bind_eq_some_iff.mp h
  have hset := fun W hB => impl_MixedValid.calls A0 c0 l0 b1 W (Kd.C_below hr0 hB) hc0 hb1
  have HC0 := Aside0.mk hr0
  have HC1 := Aside0.mk hr1
  have HL0 := Aside0.mk hc0
  have HL1 := Aside0.mk hc1
  have hb1' := Aside0.mk hb1
  clear hb1 hr0 hc0 hr1 hc1
  cases b1 with
  | false =>
    rw [if_neg (by simp)] at h
    obtain rfl := Option.some.inj h
    clear h
    go_enter Try.func29, Try.ntmps29
    go_wp2_with (go_at_call 18; refine (hset _ (below_alloc (Below.refl w.heap.size w) _)).mono ?_; rintro e w2 ⟨rfl, hb⟩)
    go_ret
    exact ⟨rfl, below_step (below_alloc (Below.refl w.heap.size w) _) hb⟩
  | true =>
    rw [if_pos rfl] at h
    obtain ⟨b2, hb2, h⟩ := Option.bind_eq_some_iff.mp h
    have hord := fun (W : World) (hB : Below w.heap.size w W) (hx : W.cell? ⟨w.heap.size, 0, none⟩ = some (.slice A0 l0.length c0)) => impl_ordered.calls (fun t => some (rd_T39 l0 t).f1) 50 (enters_of Try.func50 (by kernel_rfl) rfl) #[.pointer (some ⟨w.heap.size, 0, none⟩)] k A1 c1 l1 (l0.length : Int) 0 b2 W (Kd.C_below HC1.out hB) HL1.out (fun W2 t r2 hi hB2 hM => by
      obtain rfl := Option.some.inj hM
      have hi' := hi
      unfold impl_in.f at hi'
      have ln := HC0.out.2.1
      have h0 : 0 ≤ t := by by_cases h' : t ≥ 0; exact h'; rw [if_neg h'] at hi'; exact absurd hi' (by simp)
      have h1 : t ≤ wrap64 ((l0.length : Int) - 1) := by rw [if_pos h0] at hi'; simpa using hi'
      have h2 : t < (l0.length : Int) := by unfold wrap64 at h1; omega
      exact (ML1.calls l0 A0 c0 w.heap.size W2 t h0 h2 ((hB2.cell (World.block_lt_of_cell? W _ hx)).trans hx) (Kd.C_below HC0.out (below_step hB hB2))).mono fun e w' ⟨he, hw⟩ => ⟨he, 0, by rw [← hw]; rfl⟩) hb2
    cases b2 with
    | false =>
      rw [if_neg (by simp)] at h
      obtain rfl := Option.some.inj h
      clear h
      go_enter Try.func29, Try.ntmps29
      go_wp2_with (first | (go_at_call 18; refine (hset _ (below_alloc (Below.refl w.heap.size w) _)).mono ?_; rintro e w2 ⟨rfl, hb⟩; have hx0 : w2.cell? ⟨w.heap.size, 0, none⟩ = some (.slice A0 l0.length c0) := (hb.cell (p := ⟨w.heap.size, 0, none⟩) (by simp)).trans (by simp [go_sem]); have HB := Aside0.mk (below_step (below_alloc (Below.refl w.heap.size w) _) hb); clear hb) | (go_at_call 49; refine (hord _ HB.out hx0).mono ?_; rintro e w3 ⟨rfl, hb⟩; replace hx0 := (hb.cell (World.block_lt_of_cell? w2 _ hx0)).trans hx0; replace HB := Aside0.mk (below_step HB.out hb); clear hb))
      go_ret
      exact ⟨rfl, HB.out⟩
    | true =>
      rw [if_pos rfl] at h
      have hsl := ordered_l0_sees HC1.out.2.1 k 0 hb2
      have hse := fun j hj => hsl.2 j (Nat.zero_le j) hj
      have hln : l0.length ≤ 9223372036854775807 := HC0.out.2.1
      have hrg : ∀ j : Nat, j < l1.length → 0 ≤ (rd_T57 l1 (j : Int)).f0 ∧ (rd_T57 l1 (j : Int)).f0 < (l0.length : Int) := fun j hj => by
        have h1 := (hse j hj).1
        unfold wrap64 at h1
        omega
      have hv5 := mixValid_len hb1'.out
      have h60 := hsl.1
      have hspc := fun (W : World) (hB : Below w.heap.size w W) (hx : W.cell? ⟨w.heap.size, 0, none⟩ = some (.slice A0 l0.length c0)) => impl_spaced.calls 53 (enters_of Try.func53 (by kernel_rfl) rfl) #[.pointer (some ⟨w.heap.size, 0, none⟩)] (fun t => (rd_T39 l0 t).f2) A1 c1 l1 W (Kd.C_below HC1.out hB) (by omega) (fun j hj => ⟨⟨(hrg j hj).1, by have := (hrg j hj).2; omega⟩, ⟨(hse j hj).2.1, by have := (hse j hj).2.2; omega⟩⟩) (fun W2 j hj hB2 => ML2.calls l0 A0 c0 w.heap.size W2 _ (hrg j hj).1 (hrg j hj).2 ((hB2.cell (World.block_lt_of_cell? W _ hx)).trans hx) (Kd.C_below HC0.out (below_step hB hB2)))
      have hcon := fun (W : World) (hB : Below w.heap.size w W) (hx : W.cell? ⟨w.heap.size, 0, none⟩ = some (.slice A0 l0.length c0)) => contFunc_T57.calls 55 (enters_of Try.func55 (by kernel_rfl) rfl) #[.pointer (some ⟨w.heap.size, 0, none⟩)] (badM l0) A1 c1 l1 W (Kd.C_below HC1.out hB) (by omega) (fun W2 j hj hB2 => (ML3.calls l0 A0 c0 w.heap.size W2 _ (hrg j hj).1 (hrg j hj).2 ((hB2.cell (World.block_lt_of_cell? W _ hx)).trans hx) (Kd.C_below HC0.out (below_step hB hB2))).mono fun e w' ⟨he, hb⟩ => ⟨he, below_step hB2 hb⟩)
      clear hsl hse hrg hln hv5 h60
      cases hs : spB (fun t => (rd_T39 l0 t).f2) l1 with
      | false =>
        rw [hs] at h hspc
        clear hs
        rw [if_neg (by simp)] at h
        obtain rfl := Option.some.inj h
        clear h hcon
        go_enter Try.func29, Try.ntmps29
        go_wp2_with (first | (go_at_call 18; refine (hset _ (below_alloc (Below.refl w.heap.size w) _)).mono ?_; rintro e w2 ⟨rfl, hb⟩; have hx0 : w2.cell? ⟨w.heap.size, 0, none⟩ = some (.slice A0 l0.length c0) := (hb.cell (p := ⟨w.heap.size, 0, none⟩) (by simp)).trans (by simp [go_sem]); have HB := Aside0.mk (below_step (below_alloc (Below.refl w.heap.size w) _) hb); clear hb) | (go_at_call 49; refine (hord _ HB.out hx0).mono ?_; rintro e w3 ⟨rfl, hb⟩; replace hx0 := (hb.cell (World.block_lt_of_cell? w2 _ hx0)).trans hx0; replace HB := Aside0.mk (below_step HB.out hb); clear hb) | (go_at_call 51; refine (hspc _ HB.out hx0).mono ?_; rintro e w4 ⟨rfl, hb⟩; replace hx0 := (hb.cell (World.block_lt_of_cell? w3 _ hx0)).trans hx0; replace HB := Aside0.mk (below_step HB.out hb); clear hb))
        go_ret
        exact ⟨rfl, HB.out⟩
      | true =>
        rw [hs] at h hspc
        clear hs
        rw [if_pos rfl] at h
        have H1 := Aside0.mk (Option.some.inj h)
        clear h
        obtain ⟨q, hq⟩ : ∃ q, l1.any (badM l0) = q := ⟨_, rfl⟩
        rw [hq] at hcon H1
        clear hq
        go_enter Try.func29, Try.ntmps29
        go_wp2_with (first | (go_at_call 18; refine (hset _ (below_alloc (Below.refl w.heap.size w) _)).mono ?_; rintro e w2 ⟨rfl, hb⟩; have hx0 : w2.cell? ⟨w.heap.size, 0, none⟩ = some (.slice A0 l0.length c0) := (hb.cell (p := ⟨w.heap.size, 0, none⟩) (by simp)).trans (by simp [go_sem]); have HB := Aside0.mk (below_step (below_alloc (Below.refl w.heap.size w) _) hb); clear hb) | (go_at_call 49; refine (hord _ HB.out hx0).mono ?_; rintro e w3 ⟨rfl, hb⟩; replace hx0 := (hb.cell (World.block_lt_of_cell? w2 _ hx0)).trans hx0; replace HB := Aside0.mk (below_step HB.out hb); clear hb) | (go_at_call 51; refine (hspc _ HB.out hx0).mono ?_; rintro e w4 ⟨rfl, hb⟩; replace hx0 := (hb.cell (World.block_lt_of_cell? w3 _ hx0)).trans hx0; replace HB := Aside0.mk (below_step HB.out hb); clear hb) | (go_at_call 54; refine (hcon _ HB.out hx0).mono ?_; rintro e w5 ⟨rfl, hb⟩; replace HB := Aside0.mk (below_step HB.out hb); clear hb))
        go_ret
        rw [← H1.out]
        exact ⟨rfl, HB.out⟩

end Go.Proofs.Ytpgheaoepaadlaa.Q
