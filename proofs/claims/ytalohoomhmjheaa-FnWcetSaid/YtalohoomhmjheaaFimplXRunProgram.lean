-- written by mp.py, a program of this session's, out of the kit's print program and the translation
import Derived.Test.YtalohoomhmjheaaF0
import Derived.Test.YtalohoomhmjheaaFimplXProgramValid
namespace Go.Proofs.Ytalohoomhmjheaa.Q
open Go.RowKit Go.Proofs.YtalohoomhmjheaaW.PrintWords Go.Proofs.YtalohoomhmjheaaW.PrintLast Go.Proofs.YtalohoomhmjheaaW.PrintMore
attribute [local go_sem] max2_int min2_int max_two min_two max_three min_three max_four min_four   -- for this text's walks alone
set_option linter.unusedVariables false
set_option linter.unusedSimpArgs false

/-! ### impl_RunProgram: function 16 -/
/-- The value that a choice gives. -/
def takeV (ch : List Int) (m : Int) : Int := if ch.length = 0 then 0 else Int.tmod (wrap64 (Int.tmod (rd ch 0) m + m)) m
theorem wrap64_max (x : Int) : wrap64 x ≤ 9223372036854775807 := by unfold wrap64; omega
theorem takeV_max (ch : List Int) {m : Int} (hm : 1 ≤ m) (h : m ≤ 9223372036854775807) : takeV ch m ≤ 9223372036854775806 := by
  unfold takeV
  by_cases hl : ch.length = 0
  · rw [if_pos hl]; omega
  · rw [if_neg hl]
    have := Int.tmod_lt_of_pos (wrap64 (Int.tmod (rd ch 0) m + m)) (show 0 < m by omega)
    generalize Int.tmod (wrap64 (Int.tmod (rd ch 0) m + m)) m = z at *
    omega
def execLoop (g : List Int → Option (Int × List Int)) (cost : Int) : Nat → Int → List Int → Option (Int × List Int)
  | 0, t, ch => some (t, ch)
  | m + 1, t, ch => (g ch).bind fun x => execLoop g cost m (wrap64 (t + wrap64 (cost + x.1))) x.2
def impl_execute.f : Nat → List S28 → Int → List Int → Option (Int × List Int)
  | 0, _, _, _ => none
  | k + 1, l, p, ch => if 0 ≤ p ∧ p < (l.length : Int) then (
      if (rd_T28 l p).f0 = 2 then (impl_execute.f k l (rd_T28 l p).f2 ch).bind fun x => (impl_execute.f k l (rd_T28 l p).f3 x.2).bind fun y => some (wrap64 (x.1 + y.1), y.2)
      else if (rd_T28 l p).f0 = 3 then (if takeV ch 2 = 0 then impl_execute.f k l (rd_T28 l p).f2 (ch.drop 1) else impl_execute.f k l (rd_T28 l p).f3 (ch.drop 1)).bind fun x => some (wrap64 ((rd_T28 l p).f1 + x.1), x.2)
      else if (rd_T28 l p).f0 = 4 then (if 1 ≤ wrap64 ((rd_T28 l p).f4 + 1) then execLoop (fun c => impl_execute.f k l (rd_T28 l p).f2 c) (rd_T28 l p).f1 (takeV ch (wrap64 ((rd_T28 l p).f4 + 1))).toNat (rd_T28 l p).f1 (ch.drop 1) else none)
      else some ((rd_T28 l p).f1, ch)) else none
def impl_RunProgram.f (k : Nat) (l0 : List S28) (l1 : List Int) : Option Int := (impl_ProgramValid.f k l0).bind fun b => if b = true then (impl_execute.f k l0 (wrap64 ((l0.length : Int) - 1)) l1).bind fun x => some x.1 else some (-1)
theorem execLoop_mono {g g' : List Int → Option (Int × List Int)} (h : ∀ c, LeO (g c) (g' c)) (cost : Int) : ∀ (m : Nat) (t : Int) (ch : List Int), LeO (execLoop g cost m t ch) (execLoop g' cost m t ch)
  | 0, _, _ => LeO.refl _
  | m + 1, t, ch => by
    unfold execLoop
    exact LeO.bind (h ch) (fun x => execLoop_mono h cost m _ _)
theorem impl_execute.mono : ∀ (k : Nat) (l : List S28) (p : Int) (ch : List Int), LeO (impl_execute.f k l p ch) (impl_execute.f (k + 1) l p ch)
  | 0, _, _, _ => LeO.none _
  | k + 1, l, p, ch => by
    have ih := impl_execute.mono k l
    rw [impl_execute.f, impl_execute.f.eq_2 l p ch (k + 1)]
    refine LeO.ite (LeO.ite ?_ (LeO.ite ?_ (LeO.ite (LeO.ite ?_ (LeO.refl _)) (LeO.refl _)))) (LeO.refl _)
    · exact LeO.bind (ih _ _) (fun x => LeO.bind (ih _ _) (fun y => LeO.refl _))
    · exact LeO.bind (LeO.ite (ih _ _) (ih _ _)) (fun x => LeO.refl _)
    · exact execLoop_mono (fun c => ih _ c) _ _ _ _
theorem impl_RunProgram.mono : ∀ a0 a1 k, LeO (impl_RunProgram.f k a0 a1) (impl_RunProgram.f (k + 1) a0 a1) := by
  intro a0 a1 k
  unfold impl_RunProgram.f
  exact LeO.bind (impl_ProgramValid.mono _ _) (fun b => LeO.ite (LeO.bind (impl_execute.mono _ _ _ _) (fun x => LeO.refl _)) (LeO.refl _))
/-- The choices that are left lie in the box, the first block behind w0. -/
def ChS (w0 W : World) (ch : List Int) : Prop := ∃ (A : Option Addr) (c : Nat), W.heap[w0.heap.size]? = some (.cells #[.slice A ch.length c] 31 (0, 0)) ∧ Kd.C (Kd.int .i64) w0 A ch.length ch ∧ ch.length ≤ c
theorem ChS.alloc {w0 W : World} {ch : List Int} (h : ChS w0 W ch) (o : Obj) : ChS w0 (W.alloc o) ch := by
  obtain ⟨A, c, h1, h2, h3⟩ := h
  exact ⟨A, c, blk_alloc h1 o, h2, h3⟩
theorem ChS.lt {w0 W : World} {ch : List Int} (h : ChS w0 W ch) : w0.heap.size < W.heap.size := by
  obtain ⟨A, c, h1, h2, h3⟩ := h
  exact blk_lt h1
theorem grow_refl (W : World) (r : Option Nat) : W.grownBy W r := ⟨rfl, rfl, rfl, Nat.le_refl _, fun _ _ _ => rfl⟩
theorem grow_trans {a b c : World} {r : Option Nat} (h : a.grownBy b r) (k : b.grownBy c r) : a.grownBy c r := ⟨k.os.trans h.os, k.tape.trans h.tape, k.output.trans h.output, Nat.le_trans h.size k.size, fun i hi hr => (k.block i (Nat.lt_of_lt_of_le hi h.size) hr).trans (h.block i hi hr)⟩
theorem grow_alloc {a b : World} {r : Option Nat} (h : a.grownBy b r) (o : Obj) : a.grownBy (b.alloc o) r := grow_trans h ⟨rfl, rfl, rfl, by simp, fun i hi _ => Below.heap_alloc _ _ _ hi⟩
theorem grow_drewN {a b : World} {r : Option Nat} (h : a.grownBy b r) (n : Nat) : a.grownBy (b.drewN n) r := ⟨h.os, h.tape, h.output, h.size, h.block⟩
theorem grow_drew {a b : World} {r : Option Nat} (h : a.grownBy b r) : a.grownBy b.drew r := ⟨h.os, h.tape, h.output, h.size, h.block⟩
theorem grow_cell {a b : World} {g : Nat} (h : a.grownBy b (some g)) {p : Addr} (hp : p.block < a.heap.size) (hne : p.block ≠ g) : b.cell? p = a.cell? p := World.cell?_of_block (h.block p.block hp (fun e => hne (Option.some.inj e)))
theorem ChS.drewN {w0 W : World} {ch : List Int} (h : ChS w0 W ch) (n : Nat) : ChS w0 (W.drewN n) ch := h
theorem grow_below {w0 a b : World} (h : Below w0.heap.size w0 a) (hg : a.grownBy b (some w0.heap.size)) : Below w0.heap.size w0 b := h.grown hg h.size (fun k e => by cases e; exact Nat.le_refl _)
set_option maxHeartbeats 8000000 in
set_option maxRecDepth 100000 in
theorem RP1.calls (w0 : World) (a0 m : Int) (hm : 1 ≤ m) (ch : List Int) (W : World) (hB : Below w0.heap.size w0 W) (hS : ChS w0 W ch) :
    Calls Try.prog 29 #[.int .i64 a0, .int .i64 m, .pointer (some ⟨w0.heap.size, 0, none⟩)] W fun e w' => e = .returned (.int .i64 (takeV ch m)) ∧ W.grownBy w' (some w0.heap.size) ∧ ChS w0 w' (ch.drop 1) := by
  ((obtain ⟨A, c, hblk, hrow, hcap⟩ := hS); (have hbx : W.cell? ⟨w0.heap.size, 0, none⟩ = some (.slice A ch.length c) := (blk_cell hblk 0).trans rfl); (have hfz := blk_frozen hblk 0); (have HBLK := Aside0.mk hblk); (have HROW := Aside0.mk hrow); (have HCAP := Aside0.mk hcap); (by_cases hl : ch.length = 0)); (· (have e0 : takeV ch m = 0 := by unfold takeV; rw [if_pos hl]); (have e1 : ch.drop 1 = ch := by rw [List.length_eq_zero_iff.mp hl]; rfl); (rw [e0, e1]); (have hd : ((ch.length : Int) == 0) = true := by rw [beq_iff_eq]; omega); clear hblk hrow hcap hl e0 e1 hB; (go_enter Try.func29, Try.ntmps29); (go_wp2); (go_ret); (exact ⟨rfl, grow_refl _ _, ⟨A, c, HBLK.out, HROW.out, HCAP.out⟩⟩)); (· (have hd : ((ch.length : Int) == 0) = false := by rw [beq_eq_false_iff_ne]; omega); (obtain ⟨ad, ea, hx0⟩ := Kd.at_int hrow 0 (by omega) (by omega)); (cases ea); (replace hx0 := (hB.cell (World.block_lt_of_cell? w0 _ hx0)).trans hx0); (have hx1 : W.cell? ad = some (.int .i64 (rd ch 0)) := hx0); (obtain ⟨v, hv⟩ : ∃ v, takeV ch m = v := ⟨_, rfl⟩); (have hv1 : Int.tmod (wrap64 (Int.tmod (rd ch 0) m + m)) m = v := by rw [← hv]; unfold takeV; rw [if_neg hl]); (rw [hv]); (obtain ⟨i0, hi0, _, hsz, _⟩ := info_parts info3); (have hcut := cut_from (P := Try.prog) 31 3 .i64 Try.underlying31 hi0 1 hsz (some ad) ch.length c 1 (by omega) (by omega)); (have hr := Kd.C_drop (m := (1 : Int).toNat) (c := c) hrow (show (1 : Int).toNat ≤ ch.length by omega) hcap); (obtain ⟨A1, hA1⟩ : ∃ A1, A1 = (if c = (1 : Int).toNat then (some ad) else ((some ad) : Option Addr).map (·.add ((1 : Int).toNat * 1))) := ⟨_, rfl⟩); (obtain ⟨c1, hc1⟩ : ∃ c1, c1 = c - (1 : Int).toNat := ⟨_, rfl⟩); (have hy : (ch.drop 1).length = ch.length - (1 : Int).toNat := by rw [List.length_drop]; rfl); (rw [← hy, ← hA1, ← hc1] at hcut); (have HROW1 := Aside0.mk (show Kd.C (Kd.int .i64) w0 A1 (ch.drop 1).length (ch.drop 1) from by rw [hA1]; exact hr)); (have HCAP1 := Aside0.mk (show (ch.drop 1).length ≤ c1 by rw [hy, hc1]; omega)); (have hl0 : (0 : Int) < (ch.length : Int) := by omega); (have hl1 : 0 < ch.length := by omega); (obtain ⟨rv, hrv⟩ : ∃ rv, rd ch 0 = rv := ⟨_, rfl⟩); (rw [hrv] at hx0 hx1 hv1); (obtain ⟨q1, hq1⟩ : ∃ q, Int.tmod rv m = q := ⟨_, rfl⟩); (obtain ⟨q2, hq2⟩ : ∃ q, wrap64 (q1 + m) = q := ⟨_, rfl⟩); (have hq2w : IntKind.i64.wrap (q1 + m) = q2 := (i64_w _).trans hq2); (rw [hq1, hq2] at hv1); (have hmne : m ≠ 0 := by omega); (have hm0 : (m == 0) = false := beq_eq_false_iff_ne.mpr hmne); clear hr hA1 hc1 hy hblk hrow hcap hl hv hrv hB hi0 hsz; (go_enter Try.func29, Try.ntmps29); (go_wp2); (go_ret); (exact ⟨rfl, ⟨rfl, rfl, rfl, by simp [World.setCell], fun k hk hne => Below.heap_setCell _ _ _ _ (fun e => hne (by rw [e]))⟩, ⟨A1, c1, by rw [List.length_drop]; exact blk_put HBLK.out 0 _ rfl, HROW1.out, HCAP1.out⟩⟩))
set_option maxHeartbeats 8000000 in
set_option maxRecDepth 100000 in
theorem impl_execute.calls (w0 : World) (A0 : Option Addr) (c0 : Nat) (l0 : List S28) (hr0 : Kd.C k28 w0 A0 l0.length l0) : ∀ (k : Nat) (p : Int) (ch : List Int) (r : Int) (ch' : List Int) (W : World), Below w0.heap.size w0 W → ChS w0 W ch → impl_execute.f k l0 p ch = some (r, ch') →
    Calls Try.prog 28 #[.slice A0 l0.length c0, .int .i64 p, .func (.func 29) #[] #[.pointer (some ⟨w0.heap.size, 0, none⟩)]] W fun e w' => e = .returned (.int .i64 r) ∧ W.grownBy w' (some w0.heap.size) ∧ ChS w0 w' ch' := by
  (have hu := Try.underlying28); (have HR0 := Aside0.mk hr0); clear hr0; intro k
  induction k with
  | zero => intro p ch r ch' W hB hS h; exact absurd h (by simp [impl_execute.f])
  | succ k ih =>
    intro p ch r ch' W hB hS h; (rw [impl_execute.f] at h); (by_cases hp : 0 ≤ p ∧ p < (l0.length : Int))
    · (rw [if_pos hp] at h); (obtain ⟨ad, e0, hx0, hx1, hx2, hx3, hx4⟩ := at_T28 HR0.out p hp.1 hp.2); (cases e0); (replace hx0 := (hB.cell (World.block_lt_of_cell? w0 _ hx0)).trans hx0); (replace hx1 := (hB.cell (World.block_lt_of_cell? w0 _ hx1)).trans hx1); (replace hx2 := (hB.cell (World.block_lt_of_cell? w0 _ hx2)).trans hx2); (replace hx3 := (hB.cell (World.block_lt_of_cell? w0 _ hx3)).trans hx3); (replace hx4 := (hB.cell (World.block_lt_of_cell? w0 _ hx4)).trans hx4); (generalize (rd_T28 l0 p).f0 = K at h hx0); (generalize (rd_T28 l0 p).f1 = C at h hx1); (generalize (rd_T28 l0 p).f2 = a at h hx2); (generalize (rd_T28 l0 p).f3 = b at h hx3); (generalize (rd_T28 l0 p).f4 = Lb at h hx4); (have g0 := hp.1); (have g1 := hp.2); (have d0 := decide_eq_true hp.1); (have d1 := decide_eq_true hp.2); (have HLT := Aside0.mk hS.lt); (have HB := Aside0.mk hB); (have HS := Aside0.mk hS); (have HG := Aside0.mk (grow_refl W (some w0.heap.size))); (have eR := enters_of Try.func29 (by kernel_rfl) rfl); (unfold Enters at eR); clear hB hS hp; (by_cases k2 : K = 2)
      · (subst k2); (rw [if_pos rfl] at h); (obtain ⟨⟨r1, s1⟩, e1, h⟩ := Option.bind_eq_some_iff.mp h); (obtain ⟨⟨r2, s2⟩, e2, h⟩ := Option.bind_eq_some_iff.mp h); (simp only [Option.some.injEq, Prod.mk.injEq] at h); (obtain ⟨rfl, rfl⟩ := h); (have q1 := Aside0.mk (fun W' (g : Below w0.heap.size w0 W') (s : ChS w0 W' ch) => ih a ch r1 s1 W' g s e1)); (have q2 := Aside0.mk (fun W' (g : Below w0.heap.size w0 W') (s : ChS w0 W' s1) => ih b s1 r2 s2 W' g s e2)); clear ih e1 e2; (go_enter Try.func28, Try.ntmps28)
        go_wp2_with (first
          | (go_at_call 28; (with_reducible refine (q1.out _ (below_alloc HB.out _) (HS.out.alloc _)).mono ?_); rintro e w2 ⟨rfl, hg, hs⟩; have hz3 : w2.cell? ⟨W.heap.size, 3, none⟩ = some (.int .i64 b) := (grow_cell (p := ⟨W.heap.size, 3, none⟩) hg (by simp) (by have := HLT.out; simp; omega)).trans (by simp [go_sem]); have HB2 := Aside0.mk (grow_below (below_alloc HB.out _) hg); have HG2 := Aside0.mk (grow_trans (grow_alloc HG.out _) hg); have HS2 := Aside0.mk hs; clear hg hs)
          | (go_at_call 28; (with_reducible refine (q2.out _ HB2.out HS2.out).mono ?_); rintro e w3 ⟨rfl, hg, hs⟩; have HG3 := Aside0.mk (grow_trans HG2.out hg); have HS3 := Aside0.mk hs; clear hg hs))
        (go_ret); (exact ⟨rfl, HG3.out, HS3.out⟩)
      (rw [if_neg k2] at h); (have k2b : (K == 2) = false := beq_eq_false_iff_ne.mpr k2); clear k2; (by_cases k3 : K = 3)
      · (subst k3); (rw [if_pos rfl] at h); (obtain ⟨⟨r1, s1⟩, e1, h⟩ := Option.bind_eq_some_iff.mp h); (simp only [Option.some.injEq, Prod.mk.injEq] at h); (obtain ⟨rfl, rfl⟩ := h); (have qc := Aside0.mk (fun W' (g : Below w0.heap.size w0 W') (s : ChS w0 W' ch) => RP1.calls w0 p 2 (by decide) ch W' g s)); (obtain ⟨tv, htv⟩ : ∃ v, takeV ch 2 = v := ⟨_, rfl⟩); (rw [htv] at e1 qc); clear htv; (by_cases hz : tv = 0)
        · (subst hz); (rw [if_pos rfl] at e1); (have q1 := Aside0.mk (fun W' (g : Below w0.heap.size w0 W') (s : ChS w0 W' (ch.drop 1)) => ih a (ch.drop 1) r1 s1 W' g s e1)); clear ih e1; (go_enter Try.func28, Try.ntmps28)
          go_wp2_with (first
            | (go_at_call 29; refine (qc.out _ (below_alloc HB.out _) (HS.out.alloc _)).mono ?_; rintro e w2 ⟨rfl, hg, hs⟩; have hz1 : w2.cell? ⟨W.heap.size, 1, none⟩ = some (.int .i64 C) := (grow_cell (p := ⟨W.heap.size, 1, none⟩) hg (by simp) (by have := HLT.out; simp; omega)).trans (by simp [go_sem]); have hz2 : w2.cell? ⟨W.heap.size, 2, none⟩ = some (.int .i64 a) := (grow_cell (p := ⟨W.heap.size, 2, none⟩) hg (by simp) (by have := HLT.out; simp; omega)).trans (by simp [go_sem]); have HB2 := Aside0.mk (grow_below (below_alloc HB.out _) hg); have HG2 := Aside0.mk (grow_trans (grow_alloc HG.out _) hg); have HS2 := Aside0.mk hs; have HW2 := Aside0.mk (Nat.lt_of_lt_of_le (show W.heap.size < (W.alloc _).heap.size by simp) hg.size); clear hg hs))
          go_region_held3 (fun w' => w'.cell? ⟨W.heap.size, 1, none⟩ = some (.int .i64 C) ∧ w'.cell? ⟨W.heap.size, 2, none⟩ = some (.int .i64 a)) (go_keep)
            (first | (go_at_call 28; (with_reducible refine (q1.out _ ?gb ?gs).mono ?_); (case gb => exact below_drew1 HB2.out); (case gs => exact HS2.out); rintro e w3 ⟨rfl, hg, hs⟩; have hy1 : w3.cell? ⟨W.heap.size, 1, none⟩ = some (.int .i64 C) := (grow_cell (p := ⟨W.heap.size, 1, none⟩) hg HW2.out (by have := HLT.out; simp; omega)).trans hz1; have hy2 : w3.cell? ⟨W.heap.size, 2, none⟩ = some (.int .i64 a) := (grow_cell (p := ⟨W.heap.size, 2, none⟩) hg HW2.out (by have := HLT.out; simp; omega)).trans hz2; have HG3 := Aside0.mk (grow_trans (grow_drew HG2.out) hg); have HS3 := Aside0.mk hs; clear hg hs))
          (all_goals go_wp2); (all_goals go_ret); (all_goals exact ⟨by rw [← i64_w]; rfl, HG3.out, HS3.out⟩)
        · (rw [if_neg hz] at e1); (have hzb : (tv == 0) = false := beq_eq_false_iff_ne.mpr hz); (have q1 := Aside0.mk (fun W' (g : Below w0.heap.size w0 W') (s : ChS w0 W' (ch.drop 1)) => ih b (ch.drop 1) r1 s1 W' g s e1)); clear ih e1 hz; (go_enter Try.func28, Try.ntmps28)
          go_wp2_with (first
            | (go_at_call 29; refine (qc.out _ (below_alloc HB.out _) (HS.out.alloc _)).mono ?_; rintro e w2 ⟨rfl, hg, hs⟩; have hz1 : w2.cell? ⟨W.heap.size, 1, none⟩ = some (.int .i64 C) := (grow_cell (p := ⟨W.heap.size, 1, none⟩) hg (by simp) (by have := HLT.out; simp; omega)).trans (by simp [go_sem]); have hz2 : w2.cell? ⟨W.heap.size, 3, none⟩ = some (.int .i64 b) := (grow_cell (p := ⟨W.heap.size, 3, none⟩) hg (by simp) (by have := HLT.out; simp; omega)).trans (by simp [go_sem]); have HB2 := Aside0.mk (grow_below (below_alloc HB.out _) hg); have HG2 := Aside0.mk (grow_trans (grow_alloc HG.out _) hg); have HS2 := Aside0.mk hs; have HW2 := Aside0.mk (Nat.lt_of_lt_of_le (show W.heap.size < (W.alloc _).heap.size by simp) hg.size); clear hg hs))
          go_region_held3 (fun w' => w'.cell? ⟨W.heap.size, 1, none⟩ = some (.int .i64 C) ∧ w'.cell? ⟨W.heap.size, 3, none⟩ = some (.int .i64 b)) (go_keep)
            (first | (go_at_call 28; (with_reducible refine (q1.out _ ?gb ?gs).mono ?_); (case gb => exact below_drew1 HB2.out); (case gs => exact HS2.out); rintro e w3 ⟨rfl, hg, hs⟩; have hy1 : w3.cell? ⟨W.heap.size, 1, none⟩ = some (.int .i64 C) := (grow_cell (p := ⟨W.heap.size, 1, none⟩) hg HW2.out (by have := HLT.out; simp; omega)).trans hz1; have hy2 : w3.cell? ⟨W.heap.size, 3, none⟩ = some (.int .i64 b) := (grow_cell (p := ⟨W.heap.size, 3, none⟩) hg HW2.out (by have := HLT.out; simp; omega)).trans hz2; have HG3 := Aside0.mk (grow_trans (grow_drew HG2.out) hg); have HS3 := Aside0.mk hs; clear hg hs))
          (all_goals go_wp2); (all_goals go_ret); (all_goals exact ⟨by rw [← i64_w]; rfl, HG3.out, HS3.out⟩)
      (rw [if_neg k3] at h); (have k3b : (K == 3) = false := beq_eq_false_iff_ne.mpr k3); clear k3; (by_cases k4 : K = 4)
      · (subst k4); (rw [if_pos rfl] at h); (by_cases hm : 1 ≤ wrap64 (Lb + 1))
        · (rw [if_pos hm] at h); (have hmx := wrap64_max (Lb + 1)); (obtain ⟨M, hM⟩ : ∃ M, wrap64 (Lb + 1) = M := ⟨_, rfl⟩); (have hMw : IntKind.i64.wrap (Lb + 1) = M := (i64_w _).trans hM); (rw [hM] at h hm hmx); clear hM; (have qc := Aside0.mk (fun W' (g : Below w0.heap.size w0 W') (s : ChS w0 W' ch) => RP1.calls w0 p M hm ch W' g s)); (have htm := takeV_max ch hm hmx); (obtain ⟨tv, htv⟩ : ∃ v, takeV ch M = v := ⟨_, rfl⟩); (rw [htv] at h qc htm); clear htv hm hmx; (obtain ⟨N, hN⟩ : ∃ N, tv.toNat = N := ⟨_, rfl⟩); (rw [hN] at h); (have HI := Aside0.mk ih); (have HH := Aside0.mk h); clear ih h; (go_enter Try.func28, Try.ntmps28)
          go_wp2_with (first
            | (go_at_call 29; refine (qc.out _ (below_alloc HB.out _) (HS.out.alloc _)).mono ?_; rintro e w2 ⟨rfl, hg, hs⟩; have hz1 : w2.cell? ⟨W.heap.size, 1, none⟩ = some (.int .i64 C) := (grow_cell (p := ⟨W.heap.size, 1, none⟩) hg (by simp) (by have := HLT.out; simp; omega)).trans (by simp [go_sem]); have hz2 : w2.cell? ⟨W.heap.size, 2, none⟩ = some (.int .i64 a) := (grow_cell (p := ⟨W.heap.size, 2, none⟩) hg (by simp) (by have := HLT.out; simp; omega)).trans (by simp [go_sem]); have HB2 := Aside0.mk (grow_below (below_alloc HB.out _) hg); have HG2 := Aside0.mk (grow_trans (grow_alloc HG.out _) hg); have HS2 := Aside0.mk hs; have HW2 := Aside0.mk (Nat.lt_of_lt_of_le (show W.heap.size < (W.alloc _).heap.size by simp) hg.size); clear hg hs))
          go_loopg [9, 62] N (fun gg v9 v62 wr => ∃ (kk : Nat) (tt : Int) (cc : List Int), kk ≤ N ∧ N - kk ≤ gg ∧ v9 = .int .i64 tt ∧ v62 = .int .i64 kk ∧ Aside0 (execLoop (fun c => impl_execute.f k l0 a c) C (N - kk) tt cc = some (r, ch')) ∧ Aside0 (ChS w0 wr cc) ∧ Aside0 (Below w0.heap.size w0 wr) ∧ Aside0 (W.grownBy wr (some w0.heap.size)) ∧ Aside0 (W.heap.size < wr.heap.size) ∧ Aside0 (wr.cell? ⟨W.heap.size, 1, none⟩ = some (.int .i64 C) ∧ wr.cell? ⟨W.heap.size, 2, none⟩ = some (.int .i64 a)))
          case atStart => exact ⟨0, C, ch.drop 1, Nat.zero_le _, by omega, rfl, rfl, ⟨HH.out⟩, ⟨HS2.out⟩, ⟨HB2.out⟩, ⟨HG2.out⟩, ⟨HW2.out⟩, ⟨hz1, hz2⟩⟩
          case round =>
            (obtain ⟨kk, tt, cc, hkk, hgg, rfl, rfl, HE, HS3, HB3, HG3, HW3, HZ3⟩ := hrel); clear hz1 hz2; (by_cases hlt : (kk : Int) < tv)
            · (have hE := HE.out); (rw [show N - kk = (N - (kk + 1)) + 1 by omega] at hE); (unfold execLoop at hE); (obtain ⟨⟨r1, s1⟩, e1, e2⟩ := Option.bind_eq_some_iff.mp hE); (have q1 := Aside0.mk (fun W' (g : Below w0.heap.size w0 W') (s : ChS w0 W' cc) => HI.out a cc r1 s1 W' g s e1)); (have HE2 := Aside0.mk e2); clear hE e1 e2; (have hz1 := HZ3.out.1); (have hz2 := HZ3.out.2); (go_wp2)
              go_region_held3 (fun w' => w'.cell? ⟨W.heap.size, 1, none⟩ = some (.int .i64 C) ∧ w'.cell? ⟨W.heap.size, 2, none⟩ = some (.int .i64 a)) (go_keep)
                (first | (go_at_call 28; (with_reducible refine (q1.out _ ?gb ?gs).mono ?_); (case gb => exact below_drew1 HB3.out); (case gs => exact HS3.out); rintro e w3 ⟨rfl, hg, hs⟩; have hy1 : w3.cell? ⟨W.heap.size, 1, none⟩ = some (.int .i64 C) := (grow_cell (p := ⟨W.heap.size, 1, none⟩) hg HW3.out (by have := HLT.out; simp; omega)).trans hz1; have hy2 : w3.cell? ⟨W.heap.size, 2, none⟩ = some (.int .i64 a) := (grow_cell (p := ⟨W.heap.size, 2, none⟩) hg HW3.out (by have := HLT.out; simp; omega)).trans hz2; have HG4 := Aside0.mk (grow_trans (grow_drew HG3.out) hg); have HB4 := Aside0.mk (grow_below (below_drew1 HB3.out) hg); have HW4 := Aside0.mk (Nat.lt_of_lt_of_le HW3.out hg.size); have HS4 := Aside0.mk hs; clear hg hs))
              (all_goals go_wp2); (all_goals go_roundg (N - (kk + 1)))
              case measure => omega
              case rel => exact ⟨kk + 1, _, s1, by omega, by omega, rfl, by go_num, ⟨by rw [i64_w, i64_w]; exact HE2.out⟩, ⟨HS4.out⟩, ⟨HB4.out⟩, ⟨HG4.out⟩, ⟨HW4.out⟩, ⟨hy1, hy2⟩⟩
            · (have hE := HE.out); (rw [show N - kk = 0 by omega] at hE); (unfold execLoop at hE); (simp only [Option.some.injEq, Prod.mk.injEq] at hE); (obtain ⟨rfl, rfl⟩ := hE); (go_wp2); (go_ret); (exact ⟨rfl, HG3.out, HS3.out⟩)
        · rw [if_neg hm] at h; exact absurd h (by simp)
      · (rw [if_neg k4] at h); (have k4b : (K == 4) = false := beq_eq_false_iff_ne.mpr k4); clear k4; (simp only [Option.some.injEq, Prod.mk.injEq] at h); (obtain ⟨rfl, rfl⟩ := h); clear ih; (go_enter Try.func28, Try.ntmps28); (go_wp2); (go_ret); (exact ⟨rfl, grow_alloc HG.out _, HS.out.alloc _⟩)
    · rw [if_neg hp] at h; exact absurd h (by simp)
set_option maxHeartbeats 8000000 in
set_option maxRecDepth 100000 in
theorem impl_RunProgram.calls (k : Nat) (A0 : Option Addr) (c0 : Nat) (l0 : List (S28)) (A1 : Option Addr) (c1 : Nat) (l1 : List Int) (r : Int) (w : World) (hr0 : Kd.C k28 w A0 l0.length l0) (hc0 : l0.length ≤ c0) (hr1 : Kd.C (Kd.int .i64) w A1 l1.length l1) (hc1 : l1.length ≤ c1) (h : impl_RunProgram.f k l0 l1 = some r) :
    Calls Try.prog 16 #[.slice A0 l0.length c0, .slice A1 l1.length c1] w fun e w' => e = .returned (.int .i64 r) ∧ Below w.heap.size w w' := by
  (unfold impl_RunProgram.f at h); (obtain ⟨b, hb, h⟩ := Option.bind_eq_some_iff.mp h); (have hv := Aside0.mk (fun W hB => impl_ProgramValid.calls k A0 c0 l0 b W (Kd.C_below hr0 hB) hc0 hb)); (have hal := below_alloc (Below.refl w.heap.size w) (.cells #[.slice A1 l1.length c1] 31 (0, 0))); (have hnew : (w.alloc (.cells #[.slice A1 l1.length c1] 31 (0, 0))).heap[w.heap.size]? = some (.cells #[.slice A1 l1.length c1] 31 (0, 0)) := blk_new _ _); (have HAL := Aside0.mk hal); (have HNEW := Aside0.mk hnew); (have HR1 := Aside0.mk hr1); (have HC1 := Aside0.mk hc1)
  cases b with
  | false =>
    (rw [if_neg (by simp)] at h); (obtain rfl := Option.some.inj h); clear h hb hr0 hc0 hr1 hc1 hal hnew; (go_enter Try.func16, Try.ntmps16); (go_wp2_with (go_at_call 8; refine (hv.out _ HAL.out).mono ?_; rintro e w2 ⟨rfl, hb⟩)); (go_ret)
    exact ⟨rfl, below_step HAL.out hb⟩
  | true =>
    (rw [if_pos rfl] at h); (obtain ⟨⟨r1, s1⟩, e1, h⟩ := Option.bind_eq_some_iff.mp h); (obtain rfl := Option.some.inj h); (obtain ⟨P, hP⟩ : ∃ P, wrap64 ((l0.length : Int) - 1) = P := ⟨_, rfl⟩); (have hPw : IntKind.i64.wrap ((l0.length : Int) - 1) = P := (i64_w _).trans hP); (rw [hP] at e1); (have hx := Aside0.mk (fun W' (g : Below w.heap.size w W') (s : ChS w W' l1) => impl_execute.calls w A0 c0 l0 hr0 k P l1 r1 s1 W' g s e1)); clear h hb hr0 hc0 hr1 hc1 hal hnew hP e1; (go_enter Try.func16, Try.ntmps16)
    go_wp2_with (first
      | (go_at_call 8; refine (hv.out _ HAL.out).mono ?_; rintro e w2 ⟨rfl, hb⟩; have HS := Aside0.mk (show ChS w w2 l1 from ⟨A1, c1, (hb.block w.heap.size (by simp)).trans HNEW.out, HR1.out, HC1.out⟩); have HB := Aside0.mk (below_step HAL.out hb); clear hb)
      | (go_at_call 28; (with_reducible refine (hx.out _ HB.out HS.out).mono ?_); rintro e w3 ⟨rfl, hg, hs⟩; have HG := Aside0.mk (grow_below HB.out hg); clear hg hs))
    (go_ret); (exact ⟨rfl, HG.out⟩)

end Go.Proofs.Ytalohoomhmjheaa.Q
