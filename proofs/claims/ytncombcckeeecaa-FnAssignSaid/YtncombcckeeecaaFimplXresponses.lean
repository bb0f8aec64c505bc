-- written by mp.py, a program of this session's, out of the kit's print program and the translation
import Derived.Test.YtncombcckeeecaaF0
import Derived.Test.YtncombcckeeecaaFimplXresponse
namespace Go.Proofs.Ytncombcckeeecaa.Q
open Go.RowKit Go.Proofs.YtncombcckeeecaaW.PrintWords Go.Proofs.YtncombcckeeecaaW.PrintLast Go.Proofs.YtncombcckeeecaaW.PrintMore
attribute [local go_sem] max2_int min2_int max_two min_two max_three min_three max_four min_four   -- for this text's walks alone
set_option linter.unusedVariables false
set_option linter.unusedSimpArgs false

/-! ### impl_responses: function 54 -/
def impl_responses.l0 : Nat → List (S34) → List Int → List Int → List Int → List Int → Int → Int → Option (List Int)
  | 0, _, _, _, _, _, _, _ => none
  | k + 1, x0, x1, x2, x7, x13, x14, x15 => if x15 < x14 then (if 0 ≤ x15 then (if x15 < (x13.length : Int) then (if x15 ≤ (x2.length : Int) then ((impl_response.f k x0 x1 (rd x13 x15) (x2.take (x15 : Int).toNat)).bind fun t106 => (if 0 ≤ (rd x13 x15) then (if (rd x13 x15) < (x7.length : Int) then (impl_responses.l0 k x0 x1 x2 (x7.set ((rd x13 x15) : Int).toNat t106) x13 x14 (wrap64 (x15 + 1))) else (none)) else (none))) else (none)) else (none)) else (none)) else (some x7)
def impl_responses.f (k : Nat) (l0 : List (S34)) (l1 : List Int) (l2 : List Int) : Option (List Int) := if 0 ≤ (l0.length : Int) then (if ((l0.length : Int) : Int).toNat ≤ 35184372088832 then (impl_responses.l0 k l0 l1 l2 (List.replicate ((l0.length : Int) : Int).toNat 0) l2 (l2.length : Int) 0) else (none)) else (none)
theorem impl_responses.mono_l : ∀ k, (∀ y0 y1 y2 y3 y4 y5 y6, LeO (impl_responses.l0 k y0 y1 y2 y3 y4 y5 y6) (impl_responses.l0 (k + 1) y0 y1 y2 y3 y4 y5 y6))
  | 0 => fun _ _ _ _ _ _ _ r h => by simp [impl_responses.l0] at h
  | k + 1 => by
    have ih0 := impl_responses.mono_l k
    · intro y0 y1 y2 y3 y4 y5 y6
      unfold impl_responses.l0
      repeat' first
      | (with_reducible exact ih0 _ _ _ _ _ _ _)
      | (with_reducible exact impl_response.mono _ _ _ _ _)
      | (with_reducible exact LeO.refl _)
      | (with_reducible exact LeO.none _)
      | (with_reducible refine LeO.ite ?_ ?_)
      | (with_reducible refine LeO.bind ?_ (fun _ => ?_))
      | exact ih0 _ _ _ _ _ _ _
      | exact impl_response.mono _ _ _ _ _
      | exact LeO.none _
      | refine LeO.ite ?_ ?_
      | refine LeO.bind ?_ (fun _ => ?_)
theorem impl_responses.mono : ∀ a0 a1 a2 k, LeO (impl_responses.f k a0 a1 a2) (impl_responses.f (k + 1) a0 a1 a2) := by
  intro a0 a1 a2 k
  have ih0 := impl_responses.mono_l k
  unfold impl_responses.f
  repeat' first
      | (with_reducible exact ih0 _ _ _ _ _ _ _)
      | (with_reducible exact impl_response.mono _ _ _ _ _)
      | (with_reducible exact LeO.refl _)
      | (with_reducible exact LeO.none _)
      | (with_reducible refine LeO.ite ?_ ?_)
      | (with_reducible refine LeO.bind ?_ (fun _ => ?_))
      | exact ih0 _ _ _ _ _ _ _
      | exact impl_response.mono _ _ _ _ _
      | exact LeO.none _
      | refine LeO.ite ?_ ?_
      | refine LeO.bind ?_ (fun _ => ?_)
set_option maxHeartbeats 8000000 in
set_option maxRecDepth 100000 in
theorem impl_responses.calls (k : Nat) (A0 : Option Addr) (c0 : Nat) (l0 : List (S34)) (A1 : Option Addr) (c1 : Nat) (l1 : List Int) (A2 : Option Addr) (c2 : Nat) (l2 : List Int) (r : List Int) (w : World) (hr0 : Kd.C k34 w A0 l0.length l0) (hc0 : l0.length ≤ c0) (hr1 : Kd.C (Kd.int .i64) w A1 l1.length l1) (hc1 : l1.length ≤ c1) (hr2 : Kd.C (Kd.int .i64) w A2 l2.length l2) (hc2 : l2.length ≤ c2) (h : impl_responses.f k l0 l1 l2 = some r) :
    Calls Try.prog 54 #[.slice A0 l0.length c0, .slice A1 l1.length c1, .slice A2 l2.length c2] w fun e w' => ∃ v0_ : Value, e = .returned (v0_) ∧ Kd.R (Kd.int .i64) 3 w' w.heap.size (fun _ => True) v0_ r ∧ Below w.heap.size w w' := by
  (have HR0 := Aside0.mk hr0); (have HC0 := Aside0.mk hc0); clear hr0 hc0; (have HR1 := Aside0.mk hr1); (have HC1 := Aside0.mk hc1); clear hr1 hc1; (have HR2 := Aside0.mk hr2); (have HC2 := Aside0.mk hc2); clear hr2 hc2; (have HB := Aside0.mk (Below.refl w.heap.size w)); (have H : (if 0 ≤ (l0.length : Int) then (if ((l0.length : Int) : Int).toNat ≤ 35184372088832 then (impl_responses.l0 k l0 l1 l2 (List.replicate ((l0.length : Int) : Int).toNat 0) l2 (l2.length : Int) 0) else (none)) else (none)) = some r := h); clear h; (by_cases c4 : 0 ≤ (l0.length : Int))
  · (rw [if_pos c4] at H); (have c4b0 := eq_true c4); (have c4b1 : decide (0 ≤ (l0.length : Int)) = true := decide_eq_true c4); clear c4; (by_cases c5 : ((l0.length : Int) : Int).toNat ≤ 35184372088832)
    · (rw [if_pos c5] at H); (have c5b0 := eq_true c5); (have c5b1 : decide (((l0.length : Int) : Int).toNat ≤ 35184372088832) = true := decide_eq_true c5); clear c5; (obtain ⟨y101, hy101⟩ : ∃ y_ : List Int, y_ = (List.replicate ((l0.length : Int) : Int).toNat 0) := ⟨_, rfl⟩); (replace H : (impl_responses.l0 k l0 l1 l2 y101 l2 (l2.length : Int) 0) = some r := by first | (rw [hy101]; with_reducible exact H) | (have H2_ := (Option.bind_some _ _).symm.trans H; rw [hy101]; with_reducible exact H2_) | (have H2_ := (Option.bind_some _ _).symm.trans H; with_reducible exact H2_) | with_reducible exact H | (rw [hy101]; exact H) | exact H); (have Ny101 := Aside0.mk hy101); clear hy101; (have H' := Aside0.mk H); clear H; (go_enter Try.func54, Try.ntmps54); (go_wp2_with (first | ((with_reducible refine gate_dst (N := 12) rfl ?_); refine Kd.R_make (Kd.int .i64) _ 3 rfl (N := 12) rfl 24 _ _ rfl (l0.length : Int) rfl rfl Try.underlying24 (.int .i64 0) 8 info3 rfl (by decide) (by omega) 0 (ok := fun _ => True) (okp := fun _ => True) rfl (fun _ hk => hk) trivial (of_decide_eq_true (by first | (with_reducible assumption) | assumption)) (Nat.le_trans (Nat.mul_le_mul_right _ (of_decide_eq_true (by first | (with_reducible assumption) | assumption) : (l0.length : Int).toNat ≤ 35184372088832)) (by omega)) (Below.refl _ _) (Nat.le_refl _) ?_; intro v102 w6 ho7 hb hg_ hnew_; clear hg_ hnew_; (first | rw [← Ny101.out] at ho7 | (simp only [Int.reduceToNat] at ho7; rw [← Ny101.out] at ho7)); have n0_ := Aside0.mk (Kd.R_lower ho7 (below_size (bm HB.out))); have n1_ := Aside0.mk (below_step (bm HB.out) hb); clear HB; have HO103 := n0_; have HB := n1_; clear n0_ n1_; clear hb ho7))); (go_loopg [15] k (fun kq v15 w' => ∃ (x7_1 : List Int) (x15_1 : Int), v15 = .int .i64 x15_1 ∧ Aside0 (impl_responses.l0 kq l0 l1 l2 x7_1 l2 (l2.length : Int) x15_1 = some r) ∧ Aside0 (kq ≤ k) ∧ Aside0 (Kd.R (Kd.int .i64) 3 w' w.heap.size (fun _ => True) v102 x7_1) ∧ Aside0 (Below w.heap.size w w')))
      case atStart => exact ⟨(y101), (0), (by first | rfl | (simp; done) | (simp [*]; done)), H', ⟨Nat.le_refl _⟩, ⟨by (with_reducible repeat (first | apply Kd.R_alloc | apply Kd.R_drewN | apply Kd.R_drew)); exact HO103.out⟩, ⟨bm HB.out⟩⟩
      case round =>
        clear H'; (try clear c1); (try clear c2); (try clear p2); (try clear c4); (try clear c4b0); (try clear c4b1); (try clear c5); (try clear c5b0); (try clear c5b1); (obtain ⟨x7_1, x15_1, rfl, HA, HK1, HO_7, HB⟩ := hrel)
        cases gk with
        | zero => exact absurd HA.out (by simp [impl_responses.l0])
        | succ k1 =>
          (have H := HA.out); clear HA; (simp only [impl_responses.l0] at H); (by_cases c8 : x15_1 < (l2.length : Int))
          · (rw [if_pos c8] at H); (have c8b0 : decide (x15_1 < (l2.length : Int)) = true := decide_eq_true c8); clear c8; (by_cases c9 : 0 ≤ x15_1)
            · (rw [if_pos c9] at H); (have c9b0 : decide (0 ≤ x15_1) = true := decide_eq_true c9); clear c9; (by_cases c10 : x15_1 < (l2.length : Int))
              · (rw [if_pos c10] at H); (have c10b0 : decide (x15_1 < (l2.length : Int)) = true := decide_eq_true c10); clear c10; (have c11b0 := eq_true (of_decide_eq_true (by first | (with_reducible assumption) | assumption) : 0 ≤ x15_1)); (by_cases c12 : x15_1 ≤ (l2.length : Int))
                · (rw [if_pos c12] at H); (have c12b0 := eq_true c12); (have c12b1 : decide (x15_1 ≤ (l2.length : Int)) = true := decide_eq_true c12); clear c12; (replace H := Option.bind_eq_some_iff.mp H); (obtain ⟨t106, A130, H⟩ := H); (replace H : (if 0 ≤ (rd l2 x15_1) then (if (rd l2 x15_1) < (x7_1.length : Int) then (impl_responses.l0 k1 l0 l1 l2 (x7_1.set ((rd l2 x15_1) : Int).toNat t106) l2 (l2.length : Int) (wrap64 (x15_1 + 1))) else (none)) else (none)) = some r := H); (have A13 := Aside0.mk A130); clear A130; (by_cases c14 : 0 ≤ (rd l2 x15_1))
                  · (rw [if_pos c14] at H); (have c14b0 : decide (0 ≤ (rd l2 x15_1)) = true := decide_eq_true c14); clear c14; (by_cases c15 : (rd l2 x15_1) < (x7_1.length : Int))
                    · (rw [if_pos c15] at H); (have c15b0 : decide ((rd l2 x15_1) < (x7_1.length : Int)) = true := decide_eq_true c15); clear c15; (obtain ⟨y107, hy107⟩ : ∃ y_ : List Int, y_ = (x7_1.set ((rd l2 x15_1) : Int).toNat t106) := ⟨_, rfl⟩); (replace H : (impl_responses.l0 k1 l0 l1 l2 y107 l2 (l2.length : Int) (wrap64 (x15_1 + 1))) = some r := by first | (rw [hy107]; with_reducible exact H) | (have H2_ := (Option.bind_some _ _).symm.trans H; rw [hy107]; with_reducible exact H2_) | (have H2_ := (Option.bind_some _ _).symm.trans H; with_reducible exact H2_) | with_reducible exact H | (rw [hy107]; exact H) | exact H); (have Ny107 := Aside0.mk hy107); clear hy107; (have H' := Aside0.mk H); clear H; (have p104 : 0 ≤ (x15_1 : Int) := of_decide_eq_true (by first | (with_reducible assumption) | assumption)); (have q104 : x15_1 < (l2.length : Int) := of_decide_eq_true (by first | (with_reducible assumption) | assumption)); (obtain ⟨ad104, e104, hx104_0⟩ := Kd.at_int HR2.out x15_1 p104 q104); (cases e104); (replace hx104_0 := (HB.out.cell (World.block_lt_of_cell? w _ hx104_0)).trans hx104_0); (replace p104 := eq_true p104); (replace q104 := eq_true q104); (obtain ⟨i017, hi017, _, hsz17, _⟩ := info_parts info3); (obtain ⟨hcut17, hA17, hC17⟩ := print_take_of (P := Try.prog) (Value.int .i64) 0 24 3 .i64 Try.underlying24 hi017 hsz17 (some ad104) c2 l2 x15_1 (of_decide_eq_true (by first | (with_reducible assumption) | assumption)) (of_decide_eq_true (by first | (with_reducible assumption) | assumption)) HC2.out); (have HR105 := Aside0.mk (Kd.C_of_reads (h1 := fun _ => rfl) (hA17 _ (Kd.reads_of_C HR2.out)))); (have HC105 := Aside0.mk hC17); clear hA17 hC17 hi017 hsz17; (go_wp2_with (first | ((with_reducible refine gate_callee (f := 65) rfl ?_); refine goesL_ (some 28) rfl rfl Try.func65 (by kernel_rfl) rfl #[.slice A0 l0.length c0, .slice A1 l1.length c1, .int .i64 (rd l2 x15_1), .slice (some ad104) (l2.take (x15_1 : Int).toNat).length c2] rfl (by (try simp only [List.map_toArray, List.map_cons, List.map_nil]); first | done | (rw [show (l2.take (x15_1 : Int).toNat).length = x15_1.toNat from (by rw [List.length_take]; have h_ : (x15_1 : Int) ≤ (l2.length : Int) := of_decide_eq_true (by first | (with_reducible assumption) | assumption); omega)] <;> rfl) | rfl | (simp only [List.length_drop, List.length_take]; rfl)) ?_; (with_reducible refine (impl_response.calls k1 _ _ l0 _ _ l1 (rd l2 x15_1) _ _ (l2.take (x15_1 : Int).toNat) t106 _ ?side1 ?side2 ?side3 ?side4 ?side5 ?side6 A13.out).mono ?_); (case side1 => exact cm ((Kd.C_below HR0.out HB.out))); (case side2 => exact HC0.out); (case side3 => exact cm ((Kd.C_below HR1.out HB.out))); (case side4 => exact HC1.out); (case side5 => exact cm ((Kd.C_below HR105.out HB.out))); (case side6 => exact HC105.out); rintro e w' ⟨rfl, ⟨nd, rfl⟩⟩; refine ⟨_, rfl, ?_⟩; (try (rw [drewN_self wr]; generalize hq_ : World.drewN wr _ = wr; have n0_ : Aside0 (Kd.R (Kd.int .i64) 3 wr w.heap.size (fun _ => True) v102 x7_1) := ⟨by rw [← hq_]; exact (rm HO_7.out)⟩; have n1_ : Aside0 (Below w.heap.size w wr) := ⟨by rw [← hq_]; exact (bm HB.out)⟩; clear HO_7 HB hq_; have HO_7 := n0_; have HB := n1_; clear n0_ n1_)); have p16 : 0 ≤ ((rd l2 x15_1) : Int) := of_decide_eq_true (by first | (with_reducible assumption) | assumption); have q16 : ((rd l2 x15_1) : Int) < ((x7_1.length : Int) : Int) := of_decide_eq_true (by first | (with_reducible assumption) | assumption); obtain ⟨go16, co16, eo16, gb16, gl16, cl16, HG16⟩ := Kd.R_form HO_7.out (by omega); (first | cases eo16 | (injection eo16 with ea_ en_ ec_; (first | subst ea_ | (injection ea_ with ea_; subst ea_)); subst ec_; clear en_)); have GB16 := Aside0.mk gb16; have GG16 := Aside0.mk HG16; clear gb16 gl16 HG16; obtain ⟨hx16_0, hf16_0⟩ := Kd.R_celln 0 HO_7.out ((rd l2 x15_1) : Int) p16 q16; replace p16 := eq_true p16; replace q16 := eq_true q16; obtain ⟨hy18_, hz18_⟩ := Kd.R_celln 0 HO_7.out ((rd l2 x15_1) : Int) (of_decide_eq_true (by first | (with_reducible assumption) | assumption)) (of_decide_eq_true (by first | (with_reducible assumption) | assumption)); have HP18 := Kd.R_putg HO_7.out ((rd l2 x15_1) : Int) t106) | ((with_reducible refine gate_store (t := 3) (p := 29) rfl ?_); refine store_event (t := 3) (p := 29) (v := ?vo_w19) (w1 := (wr.setCell ⟨go16, ((rd l2 x15_1) : Int).toNat, none⟩ (.int .i64 t106))) ?hg ?ho ?hn ?hr ?_; (case ho => rfl); (case hg => rfl); (case hn => rfl); (case hr => first | (go_simp; done) | (go_simp; rfl)); intro w19 hw; have hg : wr.grownBy w19 (some go16) := (by rw [hw]; exact HP18.2); have hp_ : Kd.R (Kd.int .i64) 3 w19 w.heap.size (fun _ => True) (.slice (some ⟨go16, 0, none⟩) x7_1.length co16) y107 := (by rw [hw, Ny107.out]; exact HP18.1); clear HP18; have n0_ := Aside0.mk (hp_); have n1_ := Aside0.mk ((by rw [hw]; exact below_set (HB.out) GB16.out : Below w.heap.size w w19)); clear HO_7; clear HB; have HO_7 := n0_; have HB := n1_; clear n0_ n1_; clear hg hw hp_))); (go_roundg k1)
                      case measure => have := HK1.out; omega
                      case rel => exact ⟨(y107), (wrap64 (x15_1 + 1)), (by first | rfl | (simp; done) | (simp [*]; done)), H', ⟨by have := HK1.out; omega⟩, ⟨by (with_reducible repeat (first | apply Kd.R_alloc | apply Kd.R_drewN | apply Kd.R_drew)); exact HO_7.out⟩, ⟨bm HB.out⟩⟩
                    · (rw [if_neg c15] at H); (exact absurd H (by simp))
                  · (rw [if_neg c14] at H); (exact absurd H (by simp))
                · (rw [if_neg c12] at H); (exact absurd H (by simp))
              · (rw [if_neg c10] at H); (exact absurd H (by simp))
            · (rw [if_neg c9] at H); (exact absurd H (by simp))
          · (rw [if_neg c8] at H); (have c8b0 : decide (x15_1 < (l2.length : Int)) = false := decide_eq_false c8); clear c8; (obtain rfl := Option.some.inj H); (go_wp2); (go_ret); (exact ⟨_, by first | rfl | (simp [errW_none, errW_some] <;> rfl) | (simp [*, errW_none, errW_some] <;> rfl), by (with_reducible repeat (first | apply Kd.R_alloc | apply Kd.R_drewN | apply Kd.R_drew)); exact HO_7.out, bm HB.out⟩)
    · (rw [if_neg c5] at H); (exact absurd H (by simp))
  · (rw [if_neg c4] at H); (exact absurd H (by simp))

end Go.Proofs.Ytncombcckeeecaa.Q
