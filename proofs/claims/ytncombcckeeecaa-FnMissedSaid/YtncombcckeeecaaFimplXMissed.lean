-- written by mp.py, a program of this session's, out of the kit's print program and the translation
import Derived.Test.YtncombcckeeecaaF0
import Derived.Test.YtncombcckeeecaaFimplXmissed
namespace Go.Proofs.Ytncombcckeeecaa.Q
open Go.RowKit Go.Proofs.YtncombcckeeecaaW.PrintWords Go.Proofs.YtncombcckeeecaaW.PrintLast Go.Proofs.YtncombcckeeecaaW.PrintMore
attribute [local go_sem] max2_int min2_int max_two min_two max_three min_three max_four min_four   -- for this text's walks alone
set_option linter.unusedVariables false
set_option linter.unusedSimpArgs false

/-! ### impl_Missed: function 40 -/
def impl_Missed.f (k : Nat) (l0 : List (S44)) (l1_0 : List Int) (l1_1 : List Int) : Option (List Int) := (impl_missed.f k l0 l1_1).bind fun t102 => (some t102)
theorem impl_Missed.mono : ∀ a0 a1 a2 k, LeO (impl_Missed.f k a0 a1 a2) (impl_Missed.f (k + 1) a0 a1 a2) := by
  intro a0 a1 a2 k
  unfold impl_Missed.f
  repeat' first
      | (with_reducible exact impl_missed.mono _ _ _)
      | (with_reducible exact LeO.refl _)
      | (with_reducible exact LeO.none _)
      | (with_reducible refine LeO.ite ?_ ?_)
      | (with_reducible refine LeO.bind ?_ (fun _ => ?_))
      | exact impl_missed.mono _ _ _
      | exact LeO.none _
      | refine LeO.ite ?_ ?_
      | refine LeO.bind ?_ (fun _ => ?_)
set_option maxHeartbeats 8000000 in
set_option maxRecDepth 100000 in
theorem impl_Missed.calls (k : Nat) (A0 : Option Addr) (c0 : Nat) (l0 : List (S44)) (A1_0 : Option Addr) (c1_0 : Nat) (l1_0 : List Int) (A1_1 : Option Addr) (c1_1 : Nat) (l1_1 : List Int) (r : List Int) (w : World) (hr0 : Kd.C k44 w A0 l0.length l0) (hc0 : l0.length ≤ c0) (hr1_0 : Kd.C (Kd.int .i64) w A1_0 l1_0.length l1_0) (hc1_0 : l1_0.length ≤ c1_0) (hr1_1 : Kd.C (Kd.int .i64) w A1_1 l1_1.length l1_1) (hc1_1 : l1_1.length ≤ c1_1) (h : impl_Missed.f k l0 l1_0 l1_1 = some r) :
    Calls Try.prog 40 #[.slice A0 l0.length c0, .agg #[.slice A1_0 l1_0.length c1_0, .slice A1_1 l1_1.length c1_1]] w fun e w' => ∃ v0_ : Value, e = .returned (v0_) ∧ Kd.Q (Kd.int .i64) 3 w' w.heap.size (fun _ => True) v0_ r ∧ Below w.heap.size w w' := by
  have hu52 := Try.underlying52
  have HR0 := Aside0.mk hr0
  have HC0 := Aside0.mk hc0
  clear hr0 hc0
  have HR1_0 := Aside0.mk hr1_0
  have HC1_0 := Aside0.mk hc1_0
  clear hr1_0 hc1_0
  have HR1_1 := Aside0.mk hr1_1
  have HC1_1 := Aside0.mk hc1_1
  clear hr1_1 hc1_1
  have HB := Aside0.mk (Below.refl w.heap.size w)
  have H : ((impl_missed.f k l0 l1_1).bind fun t102 => (some t102)) = some r := h
  clear h
  replace H := Option.bind_eq_some_iff.mp H
  obtain ⟨t102, A30, H⟩ := H
  replace H : (some t102) = some r := H
  have A3 := Aside0.mk A30
  clear A30
  obtain rfl := Option.some.inj H
  go_enter Try.func40, Try.ntmps40
  go_wp2_with (first | ((with_reducible refine gate_dst (N := 3) rfl ?_); refine box_event ?hg (N := 3) ?hd (cs := #[.slice A1_0 l1_0.length c1_0, .slice A1_1 l1_1.length c1_1]) (t := 52) ?hr ?_; (case hd => rfl); (case hg => rfl); (case hr => first | (go_simp; done) | (go_simp; rfl)); intro gb101 hg w4 hbox hb; have n0_ := Aside0.mk (below_step (bm HB.out) hb); have n1_ := Aside0.mk (hbox); have n2_ := Aside0.mk ((by rw [hg]; exact (below_size (bm HB.out)) : w.heap.size ≤ gb101)); have n3_ := Aside0.mk ((by rw [hg]; exact (below_size (bm HB.out)) : w.heap.size ≤ gb101)); clear HB; have HB := n0_; have BK101 := n1_; have GW101 := n2_; have GE101 := n3_; clear n0_ n1_ n2_ n3_; clear hb hbox hg; have hcz5_0 : w4.cell? ⟨gb101, 0, none⟩ = some (.slice A1_0 l1_0.length c1_0) := (blk_cell BK101.out 0).trans rfl; have hcz5_1 : w4.cell? ⟨gb101, 1, none⟩ = some (.slice A1_1 l1_1.length c1_1) := (blk_cell BK101.out 1).trans rfl; have hfz5_0 := blk_frozen BK101.out 0; have hfz5_1 := blk_frozen BK101.out 1) | ((with_reducible refine gate_callee (f := 82) rfl ?_); refine goesL_ (some 8) rfl rfl Try.func82 (by kernel_rfl) rfl #[.slice A0 l0.length c0, .slice A1_1 l1_1.length c1_1] rfl (by (try simp only [List.map_toArray, List.map_cons, List.map_nil]); first | done | rfl | (simp only [List.length_drop, List.length_take]; rfl)) ?_; (with_reducible refine (impl_missed.calls k _ _ l0 _ _ l1_1 t102 _ ?side1 ?side2 ?side3 ?side4 A3.out).mono ?_); (case side1 => exact cm ((Kd.C_below HR0.out HB.out))); (case side2 => exact HC0.out); (case side3 => exact cm ((Kd.C_below HR1_1.out HB.out))); (case side4 => exact HC1_1.out); rintro e w6 ⟨v103, rfl, ho0, hb⟩; refine ⟨_, rfl, ?_⟩; have n0_ := Aside0.mk (Kd.Q_lower ho0 (below_size (bs HB.out GE101.out GE101.out GE101.out))); have n1_ := Aside0.mk (blk_below (g := gb101) (o := .cells #[.slice A1_0 l1_0.length c1_0, .slice A1_1 l1_1.length c1_1] 52 (0, 0)) (km BK101.out) hb); have n2_ := Aside0.mk (below_step (bs HB.out GE101.out GE101.out GE101.out) hb); clear BK101; clear HB; have HO104 := n0_; have BK101 := n1_; have HB := n2_; clear n0_ n1_ n2_; (try clear hb); (try clear hb2); (try clear hk); (try clear hi); (try clear ho0)))
  go_ret
  exact ⟨_, by first | rfl | (simp [errW_none, errW_some] <;> rfl) | (simp [*, errW_none, errW_some] <;> rfl), by (with_reducible repeat (first | apply Kd.Q_alloc | apply Kd.Q_drewN | apply Kd.Q_drew)); exact HO104.out, bs HB.out GE101.out GE101.out GE101.out⟩

end Go.Proofs.Ytncombcckeeecaa.Q
