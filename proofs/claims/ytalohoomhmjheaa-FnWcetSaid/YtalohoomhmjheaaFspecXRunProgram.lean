-- written by mp.py, a program of this session's, out of the kit's print program and the translation
import Derived.Test.YtalohoomhmjheaaF0
import Derived.Test.YtalohoomhmjheaaFspecXProgramValid
namespace Go.Proofs.Ytalohoomhmjheaa.Q
open Go.RowKit Go.Proofs.YtalohoomhmjheaaW.PrintWords Go.Proofs.YtalohoomhmjheaaW.PrintLast Go.Proofs.YtalohoomhmjheaaW.PrintMore
attribute [local go_sem] max2_int min2_int max_two min_two max_three min_three max_four min_four   -- for this text's walks alone
set_option linter.unusedVariables false
set_option linter.unusedSimpArgs false

/-! ### spec_RunProgram: function 17 -/
/-- The value that a choice gives. -/
def takeS (ch : List Int) (m : Int) : Int := if ch.length = 0 then 0 else Int.tmod (wrap64 (Int.tmod (rd ch 0) m + m)) m
theorem wrap64_maxS (x : Int) : wrap64 x ≤ 9223372036854775807 := by unfold wrap64; omega
theorem takeS_max (ch : List Int) {m : Int} (hm : 1 ≤ m) (h : m ≤ 9223372036854775807) : takeS ch m ≤ 9223372036854775806 := by
  unfold takeS
  by_cases hl : ch.length = 0
  · rw [if_pos hl]; omega
  · rw [if_neg hl]
    have := Int.tmod_lt_of_pos (wrap64 (Int.tmod (rd ch 0) m + m)) (show 0 < m by omega)
    generalize Int.tmod (wrap64 (Int.tmod (rd ch 0) m + m)) m = z at *
    omega
def specLoop (g : List Int → Option (Int × List Int)) (cost : Int) : Nat → Int → List Int → Option (Int × List Int)
  | 0, t, ch => some (t, ch)
  | m + 1, t, ch => (g ch).bind fun x => specLoop g cost m (wrap64 (wrap64 (t + cost) + x.1)) x.2
def spec_l8Run.f : Nat → List S28 → Int → List Int → Option (Int × List Int)
  | 0, _, _, _ => none
  | k + 1, l, p, ch => if 0 ≤ p ∧ p < (l.length : Int) then (
      if (rd_T28 l p).f0 = 1 then some ((rd_T28 l p).f1, ch)
      else if (rd_T28 l p).f0 = 2 then (spec_l8Run.f k l (rd_T28 l p).f2 ch).bind fun x => (spec_l8Run.f k l (rd_T28 l p).f3 x.2).bind fun y => some (wrap64 (x.1 + y.1), y.2)
      else if (rd_T28 l p).f0 = 3 then (if takeS ch 2 = 1 then spec_l8Run.f k l (rd_T28 l p).f3 (ch.drop 1) else spec_l8Run.f k l (rd_T28 l p).f2 (ch.drop 1)).bind fun x => some (wrap64 ((rd_T28 l p).f1 + x.1), x.2)
      else (if 1 ≤ wrap64 ((rd_T28 l p).f4 + 1) then specLoop (fun c => spec_l8Run.f k l (rd_T28 l p).f2 c) (rd_T28 l p).f1 (takeS ch (wrap64 ((rd_T28 l p).f4 + 1))).toNat (rd_T28 l p).f1 (ch.drop 1) else none)) else none
def spec_RunProgram.f (k : Nat) (l0 : List S28) (l1 : List Int) : Option Int := (spec_ProgramValid.f k l0).bind fun b => if b = true then (spec_l8Run.f k l0 (wrap64 ((l0.length : Int) - 1)) l1).bind fun x => some x.1 else some (-1)
theorem specLoop_mono {g g' : List Int → Option (Int × List Int)} (h : ∀ c, LeO (g c) (g' c)) (cost : Int) : ∀ (m : Nat) (t : Int) (ch : List Int), LeO (specLoop g cost m t ch) (specLoop g' cost m t ch)
  | 0, _, _ => LeO.refl _
  | m + 1, t, ch => by
    unfold specLoop
    exact LeO.bind (h ch) (fun x => specLoop_mono h cost m _ _)
theorem spec_l8Run.mono : ∀ (k : Nat) (l : List S28) (p : Int) (ch : List Int), LeO (spec_l8Run.f k l p ch) (spec_l8Run.f (k + 1) l p ch)
  | 0, _, _, _ => LeO.none _
  | k + 1, l, p, ch => by
    have ih := spec_l8Run.mono k l
    rw [spec_l8Run.f, spec_l8Run.f.eq_2 l p ch (k + 1)]
    refine LeO.ite (LeO.ite (LeO.refl _) (LeO.ite ?_ (LeO.ite ?_ (LeO.ite ?_ (LeO.refl _))))) (LeO.refl _)
    · exact LeO.bind (ih _ _) (fun x => LeO.bind (ih _ _) (fun y => LeO.refl _))
    · exact LeO.bind (LeO.ite (ih _ _) (ih _ _)) (fun x => LeO.refl _)
    · exact specLoop_mono (fun c => ih _ c) _ _ _ _
theorem spec_RunProgram.mono : ∀ a0 a1 k, LeO (spec_RunProgram.f k a0 a1) (spec_RunProgram.f (k + 1) a0 a1) := by
  intro a0 a1 k
  unfold spec_RunProgram.f
  exact LeO.bind (spec_ProgramValid.mono _ _) (fun b => LeO.ite (LeO.bind (spec_l8Run.mono _ _ _ _) (fun x => LeO.refl _)) (LeO.refl _))
/-- A list of choices that is only read. -/
structure RdC (w0 : World) (A : Option Addr) (c : Nat) (ch : List Int) : Prop where
  row : Kd.C (Kd.int .i64) w0 A ch.length ch
  cap : ch.length ≤ c
/-- What a run answers: its time, and the choices that are left. -/
def RunAns (w0 W : World) (r : Int) (ch' : List Int) (e : Ending) (w' : World) : Prop := ∃ (A' : Option Addr) (c' : Nat), e = .returned (.tuple #[.int .i64 r, .slice A' ch'.length c']) ∧ RdC w0 A' c' ch' ∧ Below W.heap.size W w'
set_option maxHeartbeats 8000000 in
set_option maxRecDepth 100000 in
theorem TK.calls (w0 : World) (m : Int) (hm : 1 ≤ m) (A : Option Addr) (c : Nat) (ch : List Int) (W : World) (hB : Below w0.heap.size w0 W) (hS : RdC w0 A c ch) :
    Calls Try.prog 32 #[.slice A ch.length c, .int .i64 m] W (RunAns w0 W (takeS ch m) (ch.drop 1)) := by
  (obtain ⟨hrow, hcap⟩ := hS); (have HROW := Aside0.mk hrow); (have HCAP := Aside0.mk hcap); (by_cases hl : ch.length = 0); (· (have e0 : takeS ch m = 0 := by unfold takeS; rw [if_pos hl]); (have e1 : ch.drop 1 = ch := by rw [List.length_eq_zero_iff.mp hl]; rfl); (rw [e0, e1]); (have hd : ((ch.length : Int) == 0) = true := by rw [beq_iff_eq]; omega); clear hrow hcap hl e0 e1 hB; (go_enter Try.func32, Try.ntmps32); (go_wp2); (go_ret2); (exact ⟨A, c, rfl, ⟨HROW.out, HCAP.out⟩, Below.refl _ _⟩)); (· (have hd : ((ch.length : Int) == 0) = false := by rw [beq_eq_false_iff_ne]; omega); (obtain ⟨ad, ea, hx0⟩ := Kd.at_int hrow 0 (by omega) (by omega)); (cases ea); (replace hx0 := (hB.cell (World.block_lt_of_cell? w0 _ hx0)).trans hx0); (have hx1 : W.cell? ad = some (.int .i64 (rd ch 0)) := hx0); (obtain ⟨v, hv⟩ : ∃ v, takeS ch m = v := ⟨_, rfl⟩); (have hv1 : Int.tmod (wrap64 (Int.tmod (rd ch 0) m + m)) m = v := by rw [← hv]; unfold takeS; rw [if_neg hl]); (rw [hv]); (obtain ⟨i0, hi0, _, hsz, _⟩ := info_parts info3); (have hcut := cut_from (P := Try.prog) 31 3 .i64 Try.underlying31 hi0 1 hsz (some ad) ch.length c 1 (by omega) (by omega)); (have hr := Kd.C_drop (m := (1 : Int).toNat) (c := c) hrow (show (1 : Int).toNat ≤ ch.length by omega) hcap); (obtain ⟨A1, hA1⟩ : ∃ A1, A1 = (if c = (1 : Int).toNat then (some ad) else ((some ad) : Option Addr).map (·.add ((1 : Int).toNat * 1))) := ⟨_, rfl⟩); (obtain ⟨c1, hc1⟩ : ∃ c1, c1 = c - (1 : Int).toNat := ⟨_, rfl⟩); (have hy : (ch.drop 1).length = ch.length - (1 : Int).toNat := by rw [List.length_drop]; rfl); (rw [← hy, ← hA1, ← hc1] at hcut); (have HROW1 := Aside0.mk (show Kd.C (Kd.int .i64) w0 A1 (ch.drop 1).length (ch.drop 1) from by rw [hA1]; exact hr)); (have HCAP1 := Aside0.mk (show (ch.drop 1).length ≤ c1 by rw [hy, hc1]; omega)); (have hl0 : (0 : Int) < (ch.length : Int) := by omega); (have hl1 : 0 < ch.length := by omega); (obtain ⟨rv, hrv⟩ : ∃ rv, rd ch 0 = rv := ⟨_, rfl⟩); (rw [hrv] at hx0 hx1 hv1); (obtain ⟨q1, hq1⟩ : ∃ q, Int.tmod rv m = q := ⟨_, rfl⟩); (obtain ⟨q2, hq2⟩ : ∃ q, wrap64 (q1 + m) = q := ⟨_, rfl⟩); (have hq2w : IntKind.i64.wrap (q1 + m) = q2 := (i64_w _).trans hq2); (rw [hq1, hq2] at hv1); (have hmne : m ≠ 0 := by omega); (have hm0 : (m == 0) = false := beq_eq_false_iff_ne.mpr hmne); clear hr hA1 hc1 hy hrow hcap hl hv hrv hB hi0 hsz; (go_enter Try.func32, Try.ntmps32); (go_wp2); (go_quiet (fail)); (go_wp2); (go_ret2); (exact ⟨A1, c1, by rw [List.length_drop]; rfl, ⟨HROW1.out, HCAP1.out⟩, pw_below_drewN (Below.refl _ _) _⟩))
set_option maxHeartbeats 8000000 in
set_option maxRecDepth 100000 in
theorem spec_l8Run.calls (w0 : World) (A0 : Option Addr) (c0 : Nat) (l0 : List S28) (hr0 : Kd.C k28 w0 A0 l0.length l0) : ∀ (k : Nat) (p : Int) (A : Option Addr) (c : Nat) (ch : List Int) (r : Int) (ch' : List Int) (W : World), Below w0.heap.size w0 W → RdC w0 A c ch → spec_l8Run.f k l0 p ch = some (r, ch') →
    Calls Try.prog 30 #[.slice A0 l0.length c0, .int .i64 p, .slice A ch.length c] W (RunAns w0 W r ch') := by
  (have hu := Try.underlying28); (have HR0 := Aside0.mk hr0); clear hr0; intro k
  induction k with
  | zero => intro p A c ch r ch' W hB hS h; exact absurd h (by simp [spec_l8Run.f])
  | succ k ih =>
    intro p A c ch r ch' W hB hS h; (rw [spec_l8Run.f] at h); (by_cases hp : 0 ≤ p ∧ p < (l0.length : Int))
    · ((rw [if_pos hp] at h); (obtain ⟨ad, e0, hx0, hx1, hx2, hx3, hx4⟩ := at_T28 HR0.out p hp.1 hp.2); (cases e0); (replace hx0 := (hB.cell (World.block_lt_of_cell? w0 _ hx0)).trans hx0); (replace hx1 := (hB.cell (World.block_lt_of_cell? w0 _ hx1)).trans hx1); (replace hx2 := (hB.cell (World.block_lt_of_cell? w0 _ hx2)).trans hx2); (replace hx3 := (hB.cell (World.block_lt_of_cell? w0 _ hx3)).trans hx3); (replace hx4 := (hB.cell (World.block_lt_of_cell? w0 _ hx4)).trans hx4); (generalize (rd_T28 l0 p).f0 = K at h hx0); (generalize (rd_T28 l0 p).f1 = C at h hx1); (generalize (rd_T28 l0 p).f2 = a at h hx2); (generalize (rd_T28 l0 p).f3 = b at h hx3); (generalize (rd_T28 l0 p).f4 = Lb at h hx4); (have g0 := hp.1); (have g1 := hp.2); (have d0 := decide_eq_true hp.1); (have d1 := decide_eq_true hp.2); (have HB := Aside0.mk hB); (have HS := Aside0.mk hS); clear hB hS hp; (by_cases k1 : K = 1)); (· (subst k1); (rw [if_pos rfl] at h); (simp only [Option.some.injEq, Prod.mk.injEq] at h); (obtain ⟨rfl, rfl⟩ := h); clear ih; (go_enter Try.func30, Try.ntmps30); (go_wp2); (go_ret2); (exact ⟨A, c, rfl, HS.out, below_alloc (Below.refl _ _) _⟩)); ((rw [if_neg k1] at h); (have k1b : (K == 1) = false := beq_eq_false_iff_ne.mpr k1); clear k1; (by_cases k2 : K = 2))
      · (subst k2); (rw [if_pos rfl] at h); (obtain ⟨⟨r1, s1⟩, e1, h⟩ := Option.bind_eq_some_iff.mp h); (obtain ⟨⟨r2, s2⟩, e2, h⟩ := Option.bind_eq_some_iff.mp h); (simp only [Option.some.injEq, Prod.mk.injEq] at h); (obtain ⟨rfl, rfl⟩ := h); (have q1 := Aside0.mk (fun W' (g : Below w0.heap.size w0 W') => ih a A c ch r1 s1 W' g HS.out e1)); (have q2 := Aside0.mk (fun A' c' W' (g : Below w0.heap.size w0 W') (s : RdC w0 A' c' s1) => ih b A' c' s1 r2 s2 W' g s e2)); clear ih e1 e2; (go_enter Try.func30, Try.ntmps30)
        go_wp2_with (first
          | (go_at_call 30; (with_reducible refine (q1.out _ (below_alloc HB.out _)).mono ?_); rintro e w2 ⟨A2, c2, rfl, hs, hb⟩; have hz3 : w2.cell? ⟨W.heap.size, 3, none⟩ = some (.int .i64 b) := (hb.cell (p := ⟨W.heap.size, 3, none⟩) (by simp)).trans (by simp [go_sem]); have HB2 := Aside0.mk (below_step (below_alloc HB.out _) hb); have HT2 := Aside0.mk (below_step (below_alloc (Below.refl W.heap.size W) _) hb); have HS2 := Aside0.mk hs; clear hs hb)
          | (go_at_call 30; (with_reducible refine (q2.out A2 c2 _ HB2.out HS2.out).mono ?_); rintro e w3 ⟨A3, c3, rfl, hs, hb⟩; have HT3 := Aside0.mk (below_step HT2.out hb); have HS3 := Aside0.mk hs; clear hs hb))
        (go_ret2); (exact ⟨A3, c3, rfl, HS3.out, HT3.out⟩)
      (rw [if_neg k2] at h); (have k2b : (K == 2) = false := beq_eq_false_iff_ne.mpr k2); clear k2; (by_cases k3 : K = 3)
      · (subst k3); (rw [if_pos rfl] at h); (obtain ⟨⟨r1, s1⟩, e1, h⟩ := Option.bind_eq_some_iff.mp h); (simp only [Option.some.injEq, Prod.mk.injEq] at h); (obtain ⟨rfl, rfl⟩ := h); (have qc := Aside0.mk (fun W' (g : Below w0.heap.size w0 W') => TK.calls w0 2 (by decide) A c ch W' g HS.out)); (obtain ⟨tv, htv⟩ : ∃ v, takeS ch 2 = v := ⟨_, rfl⟩); (obtain ⟨cd, hcd⟩ : ∃ x, ch.drop 1 = x := ⟨_, rfl⟩); (rw [htv] at e1 qc); (rw [hcd] at e1 qc); clear htv hcd; (by_cases hz : tv = 1)
        · (subst hz); (rw [if_pos rfl] at e1); (have q1 := Aside0.mk (fun A' c' W' (g : Below w0.heap.size w0 W') (s : RdC w0 A' c' cd) => ih b A' c' cd r1 s1 W' g s e1)); clear ih e1; (go_enter Try.func30, Try.ntmps30)
          go_wp2_with (first
            | (go_at_call 32; (with_reducible refine (qc.out _ (below_alloc HB.out _)).mono ?_); rintro e w2 ⟨A2, c2, rfl, hs, hb⟩; have hz1 : w2.cell? ⟨W.heap.size, 1, none⟩ = some (.int .i64 C) := (hb.cell (p := ⟨W.heap.size, 1, none⟩) (by simp)).trans (by simp [go_sem]); have hz2 : w2.cell? ⟨W.heap.size, 2, none⟩ = some (.int .i64 a) := (hb.cell (p := ⟨W.heap.size, 2, none⟩) (by simp)).trans (by simp [go_sem]); have hz3 : w2.cell? ⟨W.heap.size, 3, none⟩ = some (.int .i64 b) := (hb.cell (p := ⟨W.heap.size, 3, none⟩) (by simp)).trans (by simp [go_sem]); have HB2 := Aside0.mk (below_step (below_alloc HB.out _) hb); have HT2 := Aside0.mk (below_step (below_alloc (Below.refl W.heap.size W) _) hb); have HS2 := Aside0.mk hs; clear hs hb)
            | (go_at_call 30; (with_reducible refine (q1.out A2 c2 _ HB2.out HS2.out).mono ?_); rintro e w3 ⟨A3, c3, rfl, hs, hb⟩; have hy1 : w3.cell? ⟨W.heap.size, 1, none⟩ = some (.int .i64 C) := (hb.cell (World.block_lt_of_cell? w2 _ hz1)).trans hz1; have HT3 := Aside0.mk (below_step HT2.out hb); have HS3 := Aside0.mk hs; clear hs hb))
          (go_ret2); (exact ⟨A3, c3, rfl, HS3.out, HT3.out⟩)
        · (rw [if_neg hz] at e1); (have hzb : (tv == 1) = false := beq_eq_false_iff_ne.mpr hz); (have q1 := Aside0.mk (fun A' c' W' (g : Below w0.heap.size w0 W') (s : RdC w0 A' c' cd) => ih a A' c' cd r1 s1 W' g s e1)); clear ih e1 hz; (go_enter Try.func30, Try.ntmps30)
          go_wp2_with (first
            | (go_at_call 32; (with_reducible refine (qc.out _ (below_alloc HB.out _)).mono ?_); rintro e w2 ⟨A2, c2, rfl, hs, hb⟩; have hz1 : w2.cell? ⟨W.heap.size, 1, none⟩ = some (.int .i64 C) := (hb.cell (p := ⟨W.heap.size, 1, none⟩) (by simp)).trans (by simp [go_sem]); have hz2 : w2.cell? ⟨W.heap.size, 2, none⟩ = some (.int .i64 a) := (hb.cell (p := ⟨W.heap.size, 2, none⟩) (by simp)).trans (by simp [go_sem]); have hz3 : w2.cell? ⟨W.heap.size, 3, none⟩ = some (.int .i64 b) := (hb.cell (p := ⟨W.heap.size, 3, none⟩) (by simp)).trans (by simp [go_sem]); have HB2 := Aside0.mk (below_step (below_alloc HB.out _) hb); have HT2 := Aside0.mk (below_step (below_alloc (Below.refl W.heap.size W) _) hb); have HS2 := Aside0.mk hs; clear hs hb)
            | (go_at_call 30; (with_reducible refine (q1.out A2 c2 _ HB2.out HS2.out).mono ?_); rintro e w3 ⟨A3, c3, rfl, hs, hb⟩; have hy1 : w3.cell? ⟨W.heap.size, 1, none⟩ = some (.int .i64 C) := (hb.cell (World.block_lt_of_cell? w2 _ hz1)).trans hz1; have HT3 := Aside0.mk (below_step HT2.out hb); have HS3 := Aside0.mk hs; clear hs hb))
          (go_ret2); (exact ⟨A3, c3, rfl, HS3.out, HT3.out⟩)
      (rw [if_neg k3] at h); (have k3b : (K == 3) = false := beq_eq_false_iff_ne.mpr k3); clear k3; (by_cases hm : 1 ≤ wrap64 (Lb + 1))
      · (rw [if_pos hm] at h); (have hmx := wrap64_maxS (Lb + 1)); (obtain ⟨M, hM⟩ : ∃ M, wrap64 (Lb + 1) = M := ⟨_, rfl⟩); (have hMw : IntKind.i64.wrap (Lb + 1) = M := (i64_w _).trans hM); (rw [hM] at h hm hmx); clear hM; (have qc := Aside0.mk (fun W' (g : Below w0.heap.size w0 W') => TK.calls w0 M hm A c ch W' g HS.out)); (have htm := takeS_max ch hm hmx); (obtain ⟨tv, htv⟩ : ∃ v, takeS ch M = v := ⟨_, rfl⟩); (rw [htv] at h qc htm); clear htv hm hmx; (obtain ⟨N, hN⟩ : ∃ N, tv.toNat = N := ⟨_, rfl⟩); (rw [hN] at h); (have HI := Aside0.mk ih); (have HH := Aside0.mk h); clear ih h; (go_enter Try.func30, Try.ntmps30)
        go_wp2_with (first
          | (go_at_call 32; (with_reducible refine (qc.out _ (below_alloc HB.out _)).mono ?_); rintro e w2 ⟨A2, c2, rfl, hs, hb⟩; have hz1 : w2.cell? ⟨W.heap.size, 1, none⟩ = some (.int .i64 C) := (hb.cell (p := ⟨W.heap.size, 1, none⟩) (by simp)).trans (by simp [go_sem]); have hz2 : w2.cell? ⟨W.heap.size, 2, none⟩ = some (.int .i64 a) := (hb.cell (p := ⟨W.heap.size, 2, none⟩) (by simp)).trans (by simp [go_sem]); have HB2 := Aside0.mk (below_step (below_alloc HB.out _) hb); have HT2 := Aside0.mk (below_step (below_alloc (Below.refl W.heap.size W) _) hb); have HS2 := Aside0.mk hs; clear hs hb))
        go_loopg [19, 20, 21] N (fun gg v19 v20 v21 wr => ∃ (kk : Nat) (tt : Int) (cc : List Int) (A3 : Option Addr) (c3 : Nat), kk ≤ N ∧ N - kk ≤ gg ∧ v19 = .slice A3 cc.length c3 ∧ v20 = .int .i64 tt ∧ v21 = .int .i64 kk ∧ Aside0 (specLoop (fun c => spec_l8Run.f k l0 a c) C (N - kk) tt cc = some (r, ch')) ∧ Aside0 (RdC w0 A3 c3 cc) ∧ Aside0 (Below w0.heap.size w0 wr) ∧ Aside0 (Below W.heap.size W wr) ∧ Aside0 (wr.cell? ⟨W.heap.size, 1, none⟩ = some (.int .i64 C) ∧ wr.cell? ⟨W.heap.size, 2, none⟩ = some (.int .i64 a)))
        case atStart => exact ⟨0, C, ch.drop 1, A2, c2, Nat.zero_le _, by omega, by first | rfl | (rw [List.length_drop]), rfl, rfl, ⟨HH.out⟩, ⟨HS2.out⟩, ⟨HB2.out⟩, ⟨HT2.out⟩, ⟨hz1, hz2⟩⟩
        case round =>
          (obtain ⟨kk, tt, cc, A3, c3, hkk, hgg, rfl, rfl, rfl, HE, HS3, HB3, HT3, HZ3⟩ := hrel); clear hz1 hz2; (by_cases hlt : (kk : Int) < tv)
          · (have hE := HE.out); (rw [show N - kk = (N - (kk + 1)) + 1 by omega] at hE); (unfold specLoop at hE); (obtain ⟨⟨r1, s1⟩, e1, e2⟩ := Option.bind_eq_some_iff.mp hE); (have q1 := Aside0.mk (fun W' (g : Below w0.heap.size w0 W') => HI.out a A3 c3 cc r1 s1 W' g HS3.out e1)); (have HE2 := Aside0.mk e2); clear hE e1 e2; (have hz1 := HZ3.out.1); (have hz2 := HZ3.out.2)
            go_wp2_with (first
              | (go_at_call 30; (with_reducible refine (q1.out _ HB3.out).mono ?_); rintro e w4 ⟨A4, c4, rfl, hs, hb⟩; have hy1 : w4.cell? ⟨W.heap.size, 1, none⟩ = some (.int .i64 C) := (hb.cell (World.block_lt_of_cell? _ _ hz1)).trans hz1; have hy2 : w4.cell? ⟨W.heap.size, 2, none⟩ = some (.int .i64 a) := (hb.cell (World.block_lt_of_cell? _ _ hz2)).trans hz2; have HB4 := Aside0.mk (below_step HB3.out hb); have HT4 := Aside0.mk (below_step HT3.out hb); have HS4 := Aside0.mk hs; clear hs hb))
            go_roundg (N - (kk + 1))
            case measure => omega
            case rel => exact ⟨kk + 1, _, s1, A4, c4, by omega, by omega, rfl, rfl, by go_num, ⟨by first | exact HE2.out | (simp only [i64_w]; exact HE2.out)⟩, ⟨HS4.out⟩, ⟨HB4.out⟩, ⟨HT4.out⟩, ⟨hy1, hy2⟩⟩
          · (have hE := HE.out); (rw [show N - kk = 0 by omega] at hE); (unfold specLoop at hE); (simp only [Option.some.injEq, Prod.mk.injEq] at hE); (obtain ⟨rfl, rfl⟩ := hE); (go_wp2); (go_ret2); (exact ⟨A3, c3, rfl, HS3.out, HT3.out⟩)
      · rw [if_neg hm] at h; exact absurd h (by simp)
    · rw [if_neg hp] at h; exact absurd h (by simp)
set_option maxHeartbeats 8000000 in
set_option maxRecDepth 100000 in
theorem spec_RunProgram.calls (k : Nat) (A0 : Option Addr) (c0 : Nat) (l0 : List (S28)) (A1 : Option Addr) (c1 : Nat) (l1 : List Int) (r : Int) (w : World) (hr0 : Kd.C k28 w A0 l0.length l0) (hc0 : l0.length ≤ c0) (hr1 : Kd.C (Kd.int .i64) w A1 l1.length l1) (hc1 : l1.length ≤ c1) (h : spec_RunProgram.f k l0 l1 = some r) :
    Calls Try.prog 17 #[.slice A0 l0.length c0, .slice A1 l1.length c1] w fun e w' => e = .returned (.int .i64 r) ∧ Below w.heap.size w w' := by
  (unfold spec_RunProgram.f at h); (obtain ⟨b, hb, h⟩ := Option.bind_eq_some_iff.mp h); (have hv := Aside0.mk (spec_ProgramValid.calls k A0 c0 l0 b w hr0 hc0 hb)); (have HRC := Aside0.mk (RdC.mk (A := A1) (c := c1) hr1 hc1))
  cases b with
  | false =>
    (rw [if_neg (by simp)] at h); (obtain rfl := Option.some.inj h); clear h hb hr0 hc0 hr1 hc1; (go_enter Try.func17, Try.ntmps17); (go_wp2_with (go_at_call 9; refine hv.out.mono ?_; rintro e w2 ⟨rfl, hb⟩)); (go_ret)
    exact ⟨rfl, hb⟩
  | true =>
    (rw [if_pos rfl] at h); (obtain ⟨⟨r1, s1⟩, e1, h⟩ := Option.bind_eq_some_iff.mp h); (obtain rfl := Option.some.inj h); (obtain ⟨P, hP⟩ : ∃ P, wrap64 ((l0.length : Int) - 1) = P := ⟨_, rfl⟩); (have hPw : IntKind.i64.wrap ((l0.length : Int) - 1) = P := (i64_w _).trans hP); (rw [hP] at e1); (have hx := Aside0.mk (fun W' (g : Below w.heap.size w W') => spec_l8Run.calls w A0 c0 l0 hr0 k P A1 c1 l1 r1 s1 W' g HRC.out e1)); clear h hb hr0 hc0 hr1 hc1 hP e1; (go_enter Try.func17, Try.ntmps17)
    go_wp2_with (first
      | (go_at_call 9; refine hv.out.mono ?_; rintro e w2 ⟨rfl, hb⟩; have HB := Aside0.mk hb; clear hb)
      | (go_at_call 30; (with_reducible refine (hx.out _ HB.out).mono ?_); rintro e w3 ⟨A3, c3, rfl, hs, hb⟩; have HG := Aside0.mk (below_step HB.out hb); clear hs hb))
    (go_ret); (exact ⟨rfl, HG.out⟩)

end Go.Proofs.Ytalohoomhmjheaa.Q
