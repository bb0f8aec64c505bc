-- written by mp.py, a program of this session's, out of the kit's print program and the translation
import Derived.Test.YtncombcckeeecaaF0
import Derived.Test.YtncombcckeeecaaFimplXSetValid
import Derived.Test.YtncombcckeeecaaFimplXresponse
import Derived.Test.YtncombcckeeecaaFimplXindices
import Derived.Test.YtncombcckeeecaaFslicesXIndexFuncXintXint
import Derived.Test.YtncombcckeeecaaFslicesXDeleteFuncXintXint
import Derived.Test.YtncombcckeeecaaFslicesXCloneXintXint
import Derived.Test.YtncombcckeeecaaFslicesXDeleteXintXint
namespace Go.Proofs.Ytncombcckeeecaa.Q
open Go.RowKit Go.Proofs.YtncombcckeeecaaW.PrintWords Go.Proofs.YtncombcckeeecaaW.PrintLast Go.Proofs.YtncombcckeeecaaW.PrintMore
attribute [local go_sem] max2_int min2_int max_two min_two max_three min_three max_four min_four   -- for this text's walks alone
set_option linter.unusedVariables false
set_option linter.unusedSimpArgs false

/-! ### impl_AssignPriorities: function 27 -/
set_option maxHeartbeats 8000000 in
set_option maxRecDepth 100000 in
theorem AP11.calls (i b : Nat) (x y : Int) (W : World) (hx : W.cell? ⟨b, 0, none⟩ = some (.int .i64 x)) :
    Calls Try.prog 64 #[.int .i64 y, .pointer (some ⟨b, 0, none⟩)] W fun e w' => e = .returned (.bool (y == x)) ∧ W = w' := by
  (obtain ⟨r, hr⟩ : ∃ r, (y == x) = r := ⟨_, rfl⟩); (rw [hr]); (go_enter Try.func64, Try.ntmps64); (go_wp2); (go_ret); (exact ⟨rfl, rfl⟩)
/-- The response of task i below all the others of left. -/
def rsp (k : Nat) (l0 : List S34) (left : List Int) (i : Int) : Option Int := impl_response.f k l0 (List.replicate l0.length 0) i (left.filter (fun x => !(x == i)))
def rspB (k : Nat) (l0 : List S34) (left : List Int) (i : Int) : Bool := decide (0 ≤ (rsp k l0 left i).getD (-1))
def asgL (k : Nat) (l0 : List S34) : Nat → List Int → List Int → Option (List Int × Bool)
  | 0, _, out => some (out, true)
  | m + 1, left, out => if left.all (fun i => (rsp k l0 left i).isSome) = true then (if idxOf_I (rspB k l0 left) left < 0 then some ([], false) else asgL k l0 m (left.take (idxOf_I (rspB k l0 left) left).toNat ++ left.drop ((idxOf_I (rspB k l0 left) left).toNat + 1)) (out.set m (rd left (idxOf_I (rspB k l0 left) left)))) else none
def impl_AssignPriorities.f (k : Nat) (l0 : List S34) : Option (List Int × Bool) := (impl_SetValid.f l0).bind fun b => if b = true then (impl_indices.f k (l0.length : Int)).bind fun left => asgL k l0 l0.length left (List.replicate l0.length 0) else some ([], false)
theorem rsp_mono (k : Nat) (l0 : List S34) (left : List Int) (i : Int) : LeO (rsp k l0 left i) (rsp (k + 1) l0 left i) := impl_response.mono _ _ _ _ _
theorem leo_some {α : Type} {a b : Option α} (h : LeO a b) (hs : a.isSome = true) : b = a := by
  cases a with
  | none => simp at hs
  | some x => exact h x rfl
theorem idxOf_congr {p q : Int → Bool} {l : List Int} (h : ∀ x ∈ l, p x = q x) : idxOf_I p l = idxOf_I q l := by
  have e : l.findIdx? p = l.findIdx? q := by
    induction l with
    | nil => rfl
    | cons a r ih =>
      rw [List.findIdx?_cons, List.findIdx?_cons, h a List.mem_cons_self, ih (fun x hx => h x (List.mem_cons_of_mem _ hx))]
  unfold idxOf_I
  rw [e]
theorem asgL_mono (k : Nat) (l0 : List S34) : ∀ (m : Nat) (left out : List Int), LeO (asgL k l0 m left out) (asgL (k + 1) l0 m left out)
  | 0, _, _ => LeO.refl _
  | m + 1, left, out => by
    rw [asgL, asgL]
    by_cases h : left.all (fun i => (rsp k l0 left i).isSome) = true
    · have hs : ∀ i ∈ left, rsp (k + 1) l0 left i = rsp k l0 left i := fun i hi => leo_some (rsp_mono k l0 left i) (List.all_eq_true.mp h i hi)
      have h' : left.all (fun i => (rsp (k + 1) l0 left i).isSome) = true := List.all_eq_true.mpr (fun i hi => by rw [hs i hi]; exact List.all_eq_true.mp h i hi)
      have e : idxOf_I (rspB (k + 1) l0 left) left = idxOf_I (rspB k l0 left) left := idxOf_congr (fun x hx => by unfold rspB; rw [hs x hx])
      rw [if_pos h, if_pos h', e]
      exact LeO.ite (LeO.refl _) (asgL_mono k l0 m _ _)
    · rw [if_neg h]; exact LeO.none _
theorem impl_AssignPriorities.mono : ∀ a0 k, LeO (impl_AssignPriorities.f k a0) (impl_AssignPriorities.f (k + 1) a0) := by
  intro a0 k
  unfold impl_AssignPriorities.f
  refine LeO.bind (LeO.refl _) (fun b => LeO.ite (LeO.bind (impl_indices.mono _ _) (fun left => asgL_mono _ _ _ _ _)) (LeO.refl _))
theorem grow_cellA {a b : World} {g : Nat} (h : a.grownBy b (some g)) {p : Addr} (hp : p.block < a.heap.size) (hne : p.block ≠ g) : b.cell? p = a.cell? p := World.cell?_of_block (h.block p.block hp (fun e => hne (Option.some.inj e)))
theorem C_made (W : World) (m e : Nat) (hm : m ≤ 1000000) : Kd.C (Kd.int .i64) (W.alloc (.cells (madeCells #[.int .i64 0] m) e)) (some ⟨W.heap.size, 0, none⟩) (List.replicate m (0 : Int)).length (List.replicate m 0) := by
  have hs : (W.alloc (.cells (madeCells #[.int .i64 0] m) e)).ownsRow 0 e 1 (.slice (some ⟨W.heap.size, 0, none⟩) m m) m (madeCells #[.int .i64 0] m).toList := World.ownsRow_lit (base := 0) (e := e) (size := 1) W (madeCells #[.int .i64 0] m) m (Nat.zero_le _) (by simp [maxLen]; omega) (by simp [size_madeCells])
  refine Kd.C_of_reads (d := (0 : Int)) (h1 := fun _ => rfl) ⟨rfl, by rw [List.length_replicate]; omega, fun _ => ⟨_, rfl, fun j hj => ?_⟩⟩
  rw [List.length_replicate] at hj
  refine hs.cells (g := W.heap.size) rfl j _ ?_
  simp [madeCells, hj, Nat.mod_one, List.getD_eq_getElem?_getD]
/-- An own row of whole numbers that is not empty: a block whose first cells hold them. -/
theorem R_row {W : World} {base : Nat} {ok : Nat → Prop} {v : Value} {xs : List Int} (h : Kd.R (Kd.int .i64) 3 W base ok v xs) (hp : 0 < xs.length) : ∃ g c, v = .slice (some ⟨g, 0, none⟩) xs.length c ∧ Row W g xs ∧ xs.length ≤ c ∧ base ≤ g ∧ g < W.heap.size := by
  obtain ⟨g, c, rfl, hb, hl, _⟩ := Kd.R_form h hp
  refine ⟨g, c, rfl, fun j hj => ?_, (Kd.R_reads' h).2.1, hb, hl⟩
  have h1 := Kd.R_celln 0 h (j : Int) (by omega) (by omega)
  rw [Int.toNat_natCast] at h1
  exact h1
set_option maxHeartbeats 8000000 in
set_option maxRecDepth 100000 in
theorem AP1.calls (k : Nat) (l0 : List S34) (A0 : Option Addr) (c0 : Nat) (left : List Int) (gl cl b4 b1 : Nat) (i r : Int) (W : World) (hx4 : W.cell? ⟨b4, 0, none⟩ = some (.slice (some ⟨gl, 0, none⟩) left.length cl)) (hx1 : W.cell? ⟨b1, 0, none⟩ = some (.slice A0 l0.length c0)) (hL : Row W gl left) (hcl : left.length ≤ cl) (hll : 0 < left.length ∧ left.length ≤ 5) (hr0 : Kd.C k34 W A0 l0.length l0) (hc0 : l0.length ≤ c0) (hl5 : l0.length ≤ 5) (h : rsp k l0 left i = some r) :
    Calls Try.prog 61 #[.int .i64 i, .pointer (some ⟨b4, 0, none⟩), .pointer (some ⟨b1, 0, none⟩)] W fun e w' => e = .returned (.bool (decide (0 ≤ r))) ∧ Below W.heap.size W w' := by
  (unfold rsp at h); (have hclone := Aside0.mk (fun W1 (hB : Below W.heap.size W W1) => slices_Clone_int_int.calls (some ⟨gl, 0, none⟩) cl left left W1 ((hL.grown hB).reads (by omega)) hcl (by unfold slices_Clone_int_int.f; rw [if_pos (by omega)]))); (have hh := Aside0.mk h); (have HL := Aside0.mk hL); (have HR0 := Aside0.mk hr0); (have HC0 := Aside0.mk hc0); (have HLL := Aside0.mk hll); (have HL5 := Aside0.mk hl5); (have hb4 := World.block_lt_of_cell? W _ hx4); (have hb1 := World.block_lt_of_cell? W _ hx1); (have e11 := enters_of Try.func64 (by kernel_rfl) rfl); (have E11 := Aside0.mk e11); clear h hL hr0 hc0 hll hl5 hcl e11; (obtain ⟨others, ho⟩ : ∃ o, left.filter (fun x => !(x == i)) = o := ⟨_, rfl⟩); (have HO := Aside0.mk ho); (rw [ho] at hh); clear ho; (go_enter Try.func61, Try.ntmps61)
  go_wp2_with (first
    | (go_at_call 63; refine (hclone.out _ (below_alloc (Below.refl W.heap.size W) _)).mono ?_; rintro e w2 ⟨v2, rfl, hrr, hb⟩; obtain ⟨g2, c2, rfl, hrow, hc2, hg2, hg2l⟩ := R_row hrr HLL.out.1; have hzi : w2.cell? ⟨W.heap.size, 0, none⟩ = some (.int .i64 i) := (hb.cell (p := ⟨W.heap.size, 0, none⟩) (by simp)).trans (by simp [go_sem]); have HB2 := Aside0.mk (below_step (below_alloc (Below.refl W.heap.size W) _) hb); have HROW := Aside0.mk hrow; have HG2 := Aside0.mk (show W.heap.size + 1 ≤ g2 from by simpa using hg2); have HG2L := Aside0.mk hg2l; have HC2 := Aside0.mk hc2; clear hrr hb hrow hg2 hg2l hc2)
    | (go_at_call 62; refine (delFunc_I.calls 64 E11.out #[.pointer (some ⟨W.heap.size, 0, none⟩)] (fun x => x == i) g2 c2 left w2 HROW.out HG2L.out HC2.out (by have := HLL.out.2; omega) (fun W3 j hj hg => AP11.calls 0 W.heap.size i _ W3 ((grow_cellA hg (p := ⟨W.heap.size, 0, none⟩) (by have := HG2.out; have := HG2L.out; show W.heap.size < w2.heap.size; omega) (by have := HG2.out; show W.heap.size ≠ g2; omega)).trans hzi))).mono ?_; rintro e w3 ⟨rfl, hg3, hr3⟩; rw [HO.out] at hr3; rw [HO.out]; have hz1 : w3.cell? ⟨W.heap.size, 0, none⟩ = some (.int .i64 i) := (grow_cellA hg3 (p := ⟨W.heap.size, 0, none⟩) (by have := HG2.out; have := HG2L.out; show W.heap.size < w2.heap.size; omega) (by have := HG2.out; show W.heap.size ≠ g2; omega)).trans hzi; have HB3 := Aside0.mk (HB2.out.grown hg3 HB2.out.size (fun k e => by cases e; have := HG2.out; omega)); have HR3 := Aside0.mk hr3; have HG3 := Aside0.mk (show g2 < w3.heap.size from Nat.lt_of_lt_of_le HG2L.out hg3.size); clear hg3 hr3))
  (have hzs : w3.cell? ⟨b1, 0, none⟩ = some (.slice A0 l0.length c0) := (HB3.out.cell hb1).trans hx1); (have hmk := run_make_row' (P := Try.prog) 24 3 (.int .i64 0) 8 Try.underlying24 info3 rfl .i64 .i64 l0.length (by have := HL5.out; omega) (by have := HL5.out; omega))
  go_region_held3 (fun w' => w'.cell? ⟨b1, 0, none⟩ = some (.slice A0 l0.length c0) ∧ w'.cell? ⟨W.heap.size, 0, none⟩ = some (.int .i64 i)) (go_keep)
    (first | (go_at_call 65; have hcm := Aside0.mk (C_made w3 l0.length 3 (by have := HL5.out; omega)); have hBm := Aside0.mk (below_drew1 (below_alloc (Below.refl w3.heap.size w3) (.cells (madeCells #[.int .i64 0] l0.length) 3))); have hBW := Aside0.mk (below_drew1 (below_alloc HB3.out (.cells (madeCells #[.int .i64 0] l0.length) 3))); have hcall := Aside0.mk (impl_response.calls k A0 c0 l0 (some ⟨w3.heap.size, 0, none⟩) (List.replicate l0.length (0 : Int)).length (List.replicate l0.length 0) i (some ⟨g2, 0, none⟩) c2 others r (w3.alloc (.cells (madeCells #[.int .i64 0] l0.length) 3)).drew (Kd.C_below HR0.out hBW.out) HC0.out (Kd.C_below hcm.out (below_drew1 (Below.refl _ _))) (Nat.le_refl _) ((HR3.out.grown hBm.out).reads (by rw [← HO.out]; have := List.length_filter_le (fun x => !(x == i)) left; have := HLL.out.2; omega)) (by rw [← HO.out]; have := List.length_filter_le (fun x => !(x == i)) left; have := HC2.out; omega) hh.out); rw [List.length_replicate] at hcall; refine hcall.out.mono ?_; rintro e w4 ⟨rfl, hd⟩; have HB4 := Aside0.mk (below_step hBW.out hd.below); have hz41 : w4.cell? ⟨b1, 0, none⟩ = some (.slice A0 l0.length c0) := (HB4.out.cell hb1).trans hx1; have hz42 : w4.cell? ⟨W.heap.size, 0, none⟩ = some (.int .i64 i) := ((below_step hBm.out hd.below).cell (World.block_lt_of_cell? w3 _ hz1)).trans hz1; clear hd hcall hBm hBW hcm))
  (all_goals go_wp2); (all_goals go_ret); (all_goals exact ⟨rfl, HB4.out⟩)
theorem AP1_pred (k : Nat) (l0 : List S34) (A0 : Option Addr) (c0 : Nat) (left : List Int) (gl cl b4 b1 : Nat) (W W3 : World) (hB : Below W.heap.size W W3) (hx4 : W.cell? ⟨b4, 0, none⟩ = some (.slice (some ⟨gl, 0, none⟩) left.length cl)) (hx1 : W.cell? ⟨b1, 0, none⟩ = some (.slice A0 l0.length c0)) (hL : Row W gl left) (hcl : left.length ≤ cl) (hll : 0 < left.length ∧ left.length ≤ 5) (hr0 : Kd.C k34 W A0 l0.length l0) (hc0 : l0.length ≤ c0) (hl5 : l0.length ≤ 5) (hall : left.all (fun i => (rsp k l0 left i).isSome) = true) (j : Nat) (hj : j < left.length) :
    Calls Try.prog 61 #[.int .i64 (rd left (j : Int)), .pointer (some ⟨b4, 0, none⟩), .pointer (some ⟨b1, 0, none⟩)] W3 fun e w' => e = .returned (.bool (rspB k l0 left (rd left (j : Int)))) ∧ Below W3.heap.size W3 w' := by
  have hm : rd left (j : Int) ∈ left := by
    have := rd_some hj
    exact List.mem_of_getElem? this
  obtain ⟨r, hr⟩ := Option.isSome_iff_exists.1 (List.all_eq_true.1 hall _ hm)
  have e : rspB k l0 left (rd left (j : Int)) = decide (0 ≤ r) := by unfold rspB; rw [hr]; rfl
  rw [e]
  exact AP1.calls k l0 A0 c0 left gl cl b4 b1 _ r W3 ((hB.cell (World.block_lt_of_cell? W _ hx4)).trans hx4) ((hB.cell (World.block_lt_of_cell? W _ hx1)).trans hx1) (hL.grown hB) hcl hll (Kd.C_below hr0 hB) hc0 hl5 hr
theorem R_cap {W : World} {base : Nat} {ok : Nat → Prop} {A : Option Addr} {n c : Nat} {xs : List Int} (h : Kd.R (Kd.int .i64) 3 W base ok (.slice A n c) xs) : c ≤ 9223372036854775807 := by
  obtain ⟨inner, ho⟩ := Kd.R_own h
  rcases ho.2 with ⟨he, _⟩ | ⟨g', cap', cur, he, _, _, h1, h2, _⟩
  · injection he with _ _ h3
    subst h3; omega
  · injection he with _ _ h3
    subst h3
    simpa [maxLen] using h2
theorem Row_heap {w w' : World} {g : Nat} {l : List Int} (h : Row w g l) (e : w'.heap[g]? = w.heap[g]?) : Row w' g l := fun j hj => ⟨(World.cell?_of_block (a := ⟨g, j, none⟩) e).trans (h j hj).1, (World.frozen?_of_block (a := ⟨g, j, none⟩) e).trans (h j hj).2⟩
theorem indices_len0 : ∀ (k : Nat) (x : List Int) (a b : Int) (r : List Int), impl_indices.l0 k x a b = some r → r.length = x.length
  | 0, _, _, _, _, h => by simp [impl_indices.l0] at h
  | k + 1, x, a, b, r, h => by
    rw [impl_indices.l0] at h
    split at h
    · split at h
      · split at h
        · rw [indices_len0 k _ _ _ _ h, List.length_set]
        · exact absurd h (by simp)
      · exact absurd h (by simp)
    · injection h with h; rw [h]
theorem indices_len (k : Nat) (n : Nat) (r : List Int) (h : impl_indices.f k (n : Int) = some r) : r.length = n := by
  unfold impl_indices.f at h
  split at h
  · split at h
    · rw [Option.bind_some] at h
      rw [indices_len0 _ _ _ _ _ h, List.length_replicate, Int.toNat_natCast]
    · exact absurd h (by simp)
  · exact absurd h (by simp)
set_option maxHeartbeats 8000000 in
set_option maxRecDepth 100000 in
theorem impl_AssignPriorities.calls (k : Nat) (A0 : Option Addr) (c0 : Nat) (l0 : List S34) (r1 : List Int) (r2 : Bool) (W : World) (hr0 : Kd.C k34 W A0 l0.length l0) (hc0 : l0.length ≤ c0) (h : impl_AssignPriorities.f k l0 = some (r1, r2)) :
    Calls Try.prog 27 #[.slice A0 l0.length c0] W fun e w' => ∃ v0_ : Value, e = .returned (.tuple #[v0_, .bool r2]) ∧ Kd.R (Kd.int .i64) 3 w' W.heap.size (fun _ => True) v0_ r1 ∧ Below W.heap.size W w' := by
  (unfold impl_AssignPriorities.f at h); (obtain ⟨sv, hsv, h⟩ := Option.bind_eq_some_iff.1 h); (have HSV := Aside0.mk (fun W1 (hB : Below W.heap.size W W1) => impl_SetValid.calls A0 c0 l0 sv W1 (Kd.C_below hr0 hB) hc0 hsv)); (have HR0 := Aside0.mk hr0); (have HC0 := Aside0.mk hc0); (have e1 := enters_of Try.func61 (by kernel_rfl) rfl); (have E1 := Aside0.mk e1)
  have hl5 : sv = true → l0.length ≤ 5 := by
    (intro e; subst e); (unfold impl_SetValid.f at hsv); (have := Option.some.inj hsv); (simp only [Bool.and_eq_true, decide_eq_true_eq] at this); (omega)
  clear hr0 hc0 hsv e1
  cases sv with
  | false =>
    (rw [if_neg (by simp)] at h); (injection h with h); (injection h with h1 h2); (subst h1; subst h2); (go_enter Try.func27, Try.ntmps27)
    go_wp2_with (first
      | (go_at_call 50; refine (HSV.out _ (by first | exact below_alloc (below_alloc (Below.refl W.heap.size W) _) _ | exact below_alloc (Below.refl W.heap.size W) _)).mono ?_; rintro e w2 ⟨rfl, hb⟩; have HB2 := Aside0.mk (below_step (below_alloc (Below.refl W.heap.size W) _) hb); clear hb))
    all_goals go_ret2
    all_goals exact ⟨_, rfl, Kd.R_nil _ _ _ _ _, HB2.out⟩
  | true =>
    (rw [if_pos rfl] at h); (obtain ⟨left, hleft, h⟩ := Option.bind_eq_some_iff.1 h); (have HL5 := Aside0.mk (hl5 rfl)); (have HI := Aside0.mk (fun W1 => impl_indices.calls k (l0.length : Int) left W1 hleft)); (have HA := Aside0.mk h); (have HLN := Aside0.mk (indices_len k l0.length left hleft)); clear h hleft hl5; (go_enter Try.func27, Try.ntmps27)
    go_wp2_with (first
      | (go_at_call 50; refine (HSV.out _ (by first | exact below_alloc (below_alloc (Below.refl W.heap.size W) _) _ | exact below_alloc (Below.refl W.heap.size W) _)).mono ?_; rintro e w2 ⟨rfl, hb⟩; have hz2 : w2.cell? ⟨W.heap.size, 0, none⟩ = some (.slice A0 l0.length c0) := (hb.cell (p := ⟨W.heap.size, 0, none⟩) (by simp)).trans (by simp [go_sem]); have HB2 := Aside0.mk (below_step (below_alloc (Below.refl W.heap.size W) _) hb); have HB2' := Aside0.mk (show W.heap.size < w2.heap.size from World.block_lt_of_cell? w2 _ hz2); clear hb)
      | (go_at_call 59; refine (HI.out _).mono ?_; rintro e w3 ⟨vl, rfl, hrl, hb⟩; have hz3 : w3.cell? ⟨W.heap.size, 0, none⟩ = some (.slice A0 l0.length c0) := (hb.cell (p := ⟨W.heap.size, 0, none⟩) HB2'.out).trans hz2; obtain ⟨AL, cL, rfl⟩ := Kd.R_slice hrl; have HRL := Aside0.mk hrl; have HB3 := Aside0.mk (below_step HB2.out hb); have hlt3 := World.block_lt_of_cell? w3 _ hz3; have HLT3 := Aside0.mk (show W.heap.size < w3.heap.size from hlt3); have hz3a : (w3.alloc (.cells #[.slice AL left.length cL] 24)).cell? ⟨W.heap.size, 0, none⟩ = some (.slice A0 l0.length c0) := (World.cell?_alloc_lt _ _ _ hlt3).trans hz3; clear hb hrl hlt3)
      | ((with_reducible refine gate_dst (N := 16) rfl ?_); refine Kd.R_make (Kd.int .i64) W.heap.size 3 rfl (N := 16) rfl 24 _ _ rfl (l0.length : Int) rfl rfl Try.underlying24 (.int .i64 0) 8 info3 rfl (by decide) (by omega) 0 (ok := fun b => b = w3.heap.size + 1) (okp := fun _ => False) (w0 := W) rfl (fun _ hk => hk.elim) (by simp) (by omega) (by have := HL5.out; omega) (below_alloc HB3.out _) (by have := HLT3.out; simp; omega) ?_; intro vo w4 ho hb4 hg4 hnew; rw [Int.toNat_natCast] at ho; obtain ⟨Ao, co, rfl⟩ := Kd.R_slice ho; have HO4 := Aside0.mk ho; have HB4 := Aside0.mk hb4; have hz4 : w4.cell? ⟨W.heap.size, 0, none⟩ = some (.slice A0 l0.length c0) := (World.cell?_of_block (hg4.block W.heap.size (World.block_lt_of_cell? _ _ hz3a) (by simp))).trans hz3a; have hzL : w4.cell? ⟨w3.heap.size, 0, none⟩ = some (.slice AL left.length cL) := (World.cell?_of_block (hg4.block w3.heap.size (by simp) (by simp))).trans (by simp [go_sem]); have hzF : w4.frozen? ⟨w3.heap.size, 0, none⟩ = false := (World.frozen?_of_block (a := ⟨w3.heap.size, 0, none⟩) (hg4.block w3.heap.size (by simp) (by simp))).trans (by simp [go_sem]); have HR4 := Aside0.mk (Kd.R_below (Kd.R_alloc HRL.out (.cells #[.slice AL left.length cL] 24)) (Below.grown (Below.refl _ _) hg4 (Nat.le_refl _) (by simp))); clear ho hb4 hg4 hnew))
    have HROW := Aside0.mk (show 0 < l0.length → ∃ gl, AL = some ⟨gl, 0, none⟩ ∧ Row w4 gl left ∧ W.heap.size < gl ∧ gl < w3.heap.size ∧ left.length ≤ cL from fun hp => by
      (obtain ⟨g, c, hv, hr, hc, hb, hlt⟩ := R_row HR4.out (by rw [HLN.out]; exact hp)); (injection hv with h1 h2 h3); (subst h1; subst h3); (obtain ⟨g', c', hv', _, _, hb', hlt'⟩ := R_row HRL.out (by rw [HLN.out]; exact hp)); (injection hv' with h1 h2 h3); (injection h1 with h1; injection h1 with h1); (subst h1); (exact ⟨g, rfl, hr, Nat.lt_of_lt_of_le HB2'.out hb', hlt', hc⟩))
    (rw [List.length_replicate] at *); (go_loopg [6] l0.length (fun gg v6 wr => ∃ (m : Nat) (lf out : List Int), v6 = .int .i64 ((m : Int) - 1) ∧ m ≤ gg ∧ m ≤ l0.length ∧ lf.length = m ∧ out.length = l0.length ∧ Aside0 (asgL k l0 m lf out = some (r1, r2)) ∧ Aside0 (Kd.R (Kd.int .i64) 3 wr W.heap.size (fun b => b = w3.heap.size + 1) (.slice Ao l0.length co) out) ∧ Aside0 (Below W.heap.size W wr) ∧ wr.cell? ⟨W.heap.size, 0, none⟩ = some (.slice A0 l0.length c0) ∧ wr.cell? ⟨w3.heap.size, 0, none⟩ = some (.slice AL m cL) ∧ wr.frozen? ⟨w3.heap.size, 0, none⟩ = false ∧ Aside0 (∀ gl, AL = some ⟨gl, 0, none⟩ → Row wr gl lf)))
    case atStart =>
      have e : wrap64 ((l0.length : Int) - 1) = (l0.length : Int) - 1 := by have := HL5.out; unfold wrap64; omega
      have hrow : ∀ gl, AL = some ⟨gl, 0, none⟩ → Row w4 gl left := by
        (intro gl e; (by_cases hp : 0 < l0.length)); (· (obtain ⟨g, e2, hr, _⟩ := HROW.out hp); (rw [e2] at e); (cases e); (exact hr)); (· intro j hj; (exact absurd hj (by have := HLN.out; omega)))
      exact ⟨l0.length, left, List.replicate l0.length 0, by rw [e], Nat.le_refl _, Nat.le_refl _, HLN.out, List.length_replicate, HA, HO4, HB4, hz4, by rw [← HLN.out]; exact hzL, hzF, ⟨hrow⟩⟩
    case round =>
      obtain ⟨m, lf, out, rfl, hmg, hml, hlf, hol, HA1, HO1, HB1, hzS, hzB, hzF, HRW⟩ := hrel
      cases m with
      | zero =>
        (have e := HA1.out); (rw [asgL] at e); (injection e with e); (injection e with e1 e2); (subst e1; subst e2); (go_wp2); (all_goals go_ret2)
        all_goals exact ⟨_, rfl, Kd.R_mono HO1.out (fun _ _ => trivial), HB1.out⟩
      | succ m =>
        (obtain ⟨gl, rfl, _, hgl1, hgl2, hgc⟩ := HROW.out (by omega)); (have hRL := HRW.out gl rfl); (rw [show (((m + 1 : Nat) : Int) - 1) = (m : Int) from by omega]); (have e := HA1.out); (rw [asgL] at e); (by_cases hall : lf.all (fun i => (rsp k l0 lf i).isSome) = true)
        · (rw [if_pos hall] at e); (have hm0 : (0 : Int) ≤ (m : Int) := by omega); (have hp : ∀ (W3 : World) (j : Nat), j < lf.length → Below wr.heap.size wr W3 → Calls Try.prog 61 (#[.int .i64 (rd lf (j : Int))] ++ #[.pointer (some ⟨w3.heap.size, 0, none⟩), .pointer (some ⟨W.heap.size, 0, none⟩)]) W3 fun e w' => e = .returned (.bool (rspB k l0 lf (rd lf (j : Int)))) ∧ Below wr.heap.size wr w' := fun W3 j hj hB => (AP1_pred k l0 A0 c0 lf gl cL w3.heap.size W.heap.size wr W3 hB (by rw [hlf]; exact hzB) hzS hRL (by have := HLN.out; omega) (by have := HL5.out; omega) (Kd.C_below HR0.out HB1.out) HC0.out HL5.out hall j hj).mono (fun _ _ q => ⟨q.1, below_step hB q.2⟩)); (have HP := Aside0.mk (idxFunc_I.calls 61 E1.out #[.pointer (some ⟨w3.heap.size, 0, none⟩), .pointer (some ⟨W.heap.size, 0, none⟩)] (rspB k l0 lf) (some ⟨gl, 0, none⟩) cL lf wr (hRL.reads (by have := HL5.out; omega)) (by have := HL5.out; omega) hp)); clear hp; (rw [hlf] at HP); (obtain ⟨a, ha⟩ : ∃ a, idxOf_I (rspB k l0 lf) lf = a := ⟨_, rfl⟩); (rw [ha] at HP e); (have Hz : ∀ w5, Below wr.heap.size wr w5 → w5.cell? ⟨W.heap.size, 0, none⟩ = some (.slice A0 l0.length c0) ∧ w5.cell? ⟨w3.heap.size, 0, none⟩ = some (.slice (some ⟨gl, 0, none⟩) (m + 1) cL) := fun w5 hb => ⟨(hb.cell (World.block_lt_of_cell? wr _ hzS)).trans hzS, (hb.cell (World.block_lt_of_cell? wr _ hzB)).trans hzB⟩); (by_cases ha0 : a < 0)
          · (rw [if_pos ha0] at e); (injection e with e); (injection e with e1 e2); (subst e1; subst e2)
            go_wp2_with (first
              | (go_at_call 60; refine HP.out.mono ?_; rintro e w5 ⟨rfl, hb⟩; have HB5 := Aside0.mk (below_step HB1.out hb); clear hb))
            (all_goals go_ret2); (all_goals exact ⟨_, rfl, Kd.R_nil _ _ _ _ _, HB5.out⟩)
          · rw [if_neg ha0] at e
            have hac : a.toNat < lf.length ∧ a = (a.toNat : Int) := by
              (rcases idxOf_cases (rspB k l0 lf) lf with q | ⟨q1, q2⟩); (· omega); (· omega)
            (obtain ⟨n, hn⟩ : ∃ n : Nat, a.toNat = n := ⟨_, rfl⟩); (rw [hn] at e hac); (obtain ⟨hnl, rfl⟩ := hac); (obtain ⟨go, co', hov, hgo0, _, _⟩ := Kd.R_form HO1.out (by omega)); (injection hov with hov1 hov2 hov3); (subst hov1; subst hov3); (have hgo : go = w3.heap.size + 1 := HO1.out.1 go rfl); (have hx := rd_some hnl); (have hn0 : (0 : Int) ≤ (n : Int) := by omega); (have hnm : (n : Int) < ((m + 1 : Nat) : Int) := by omega); (have hml2 : (m : Int) < (l0.length : Int) := by omega); (obtain ⟨x, hxx⟩ : ∃ x, rd lf (n : Int) = x := ⟨_, rfl⟩); (rw [hxx] at hx e); (have HE := Aside0.mk e); (have HX := Aside0.mk hx); (have HGO := Aside0.mk hgo); (have HXX := Aside0.mk hxx); (have HNL := Aside0.mk hnl); (have HLF := Aside0.mk hlf); (have HOL := Aside0.mk hol); clear e hx hgo hxx hn ha hnl hall hRL hov2
            go_wp2_with (first
              | (go_at_call 60; refine HP.out.mono ?_; rintro e w5 ⟨rfl, hb⟩; obtain ⟨hs5, hl5⟩ := Hz w5 hb; have ho5 := Kd.R_below HO1.out hb; have HO5 := Aside0.mk ho5; have hoc := Kd.R_celln 0 ho5 (m : Int) hm0 hml2; have hr5 := (HRW.out gl rfl).grown hb; have hxc := hr5.cell HX.out; have HR5 := Aside0.mk hr5; clear ho5 hr5; rw [Int.toNat_natCast] at hoc; obtain ⟨hoc1, hoc2⟩ := hoc; have HB5 := Aside0.mk (below_step HB1.out hb); have hl6 : (w5.setCell ⟨go, m, none⟩ (.int .i64 x)).cell? ⟨w3.heap.size, 0, none⟩ = some (.slice (some ⟨gl, 0, none⟩) (m + 1) cL) := (World.cell?_of_block (Below.heap_setCell w5 ⟨go, m, none⟩ (.int .i64 x) w3.heap.size (by have := HGO.out; show w3.heap.size ≠ go; omega))).trans hl5; have HS5 := Aside0.mk hs5; have hf6 : (w5.setCell ⟨go, m, none⟩ (.int .i64 x)).frozen? ⟨w3.heap.size, 0, none⟩ = false := (World.frozen?_of_block (a := ⟨w3.heap.size, 0, none⟩) (Below.heap_setCell w5 ⟨go, m, none⟩ (.int .i64 x) w3.heap.size (by have := HGO.out; show w3.heap.size ≠ go; omega))).trans ((hb.frozen (p := ⟨w3.heap.size, 0, none⟩) (World.block_lt_of_cell? wr _ hzB)).trans hzF); clear hb)
              | (go_at_call 66; rw [show wrap64 ((n : Int) + 1) = ((n + 1 : Nat) : Int) from by have := HNL.out; have := HLF.out; have := HL5.out; unfold wrap64; omega]; have hdel := Aside0.mk (delete_I.calls gl cL n lf (w5.setCell ⟨go, m, none⟩ (.int .i64 x)) (Row_heap HR5.out (Below.heap_setCell w5 ⟨go, m, none⟩ (.int .i64 x) gl (by have := HGO.out; show gl ≠ go; omega))) (by have := HLN.out; have := HLF.out; omega) (R_cap HRL.out) HNL.out); rw [show (lf.take n ++ lf.drop (n + 1)).length = m from by have := HNL.out; have := HLF.out; rw [List.length_append, List.length_take, List.length_drop]; omega, HLF.out] at hdel; refine hdel.out.mono ?_; rintro e w7 ⟨rfl, hg7, hr7⟩; have HO6 := Aside0.mk (Kd.R_putg HO5.out (m : Int) x); have hl7 : w7.cell? ⟨w3.heap.size, 0, none⟩ = some (.slice (some ⟨gl, 0, none⟩) (m + 1) cL) := (World.cell?_of_block (hg7.block w3.heap.size (World.block_lt_of_cell? _ _ hl6) (by simp; omega))).trans hl6; have hf7 : w7.frozen? ⟨w3.heap.size, 0, none⟩ = false := (World.frozen?_of_block (a := ⟨w3.heap.size, 0, none⟩) (hg7.block w3.heap.size (World.block_lt_of_cell? _ _ hl6) (by simp; omega))).trans hf6; have HG7 := Aside0.mk hg7; have HR7 := Aside0.mk hr7; clear hg7 hr7 hdel))
            go_roundg m
            case measure => omega
            case rel =>
              ((have hbs : W.heap.size < w3.heap.size := HLT3.out); (have hG := HGO.out); (have hlt7 := World.block_lt_of_cell? w7 _ hl7); (have hw6 : ∀ b, b ≠ go → (w5.setCell ⟨go, m, none⟩ (.int .i64 x)).heap[b]? = w5.heap[b]? := fun b hb => Below.heap_setCell w5 ⟨go, m, none⟩ (.int .i64 x) b hb); (have hw8 : ∀ b, b ≠ w3.heap.size → (w7.setCell ⟨w3.heap.size, 0, none⟩ (.slice (some ⟨gl, 0, none⟩) m cL)).heap[b]? = w7.heap[b]? := fun b hb => Below.heap_setCell w7 ⟨w3.heap.size, 0, none⟩ (.slice (some ⟨gl, 0, none⟩) m cL) b hb); (have hlt6 : W.heap.size < (w5.setCell ⟨go, m, none⟩ (.int .i64 x)).heap.size := by have := World.block_lt_of_cell? _ _ hl6; simp at this ⊢; omega); (have hHR := HR7.out); (refine ⟨m, lf.take n ++ lf.drop (n + 1), out.set m x, ?_, Nat.le_refl _, by omega, by have := HNL.out; have := HLF.out; rw [List.length_append, List.length_take, List.length_drop]; omega, by rw [List.length_set]; exact HOL.out, ?_, ?_, ?_, ?_, ?_, ?_, ?_⟩)); (· rw [show wrap64 ((m : Int) - 1) = (m : Int) - 1 from by have := HL5.out; unfold wrap64; omega]); (· exact ⟨by have e := HE.out; exact e⟩); (· (have h6 := HO6.out.1); (rw [Int.toNat_natCast] at h6); (exact ⟨Kd.R_step (Kd.R_step h6 (fun b hk hb => HG7.out.block b hb (by rw [hk]; simp; omega))) (fun b hk hb => hw8 b (by rw [hk]; omega))⟩)); (· exact ⟨((HB5.out.setCell (p := ⟨go, m, none⟩) (by show W.heap.size ≤ go; omega) _).grown HG7.out (Nat.le_of_lt hlt6) (fun b e => (by cases e; omega))).setCell (p := ⟨w3.heap.size, 0, none⟩) (by show W.heap.size ≤ w3.heap.size; omega) _⟩); (· exact (World.cell?_of_block (a := ⟨W.heap.size, 0, none⟩) (hw8 W.heap.size (by omega))).trans ((World.cell?_of_block (a := ⟨W.heap.size, 0, none⟩) (HG7.out.block W.heap.size hlt6 (by simp; omega))).trans ((World.cell?_of_block (a := ⟨W.heap.size, 0, none⟩) (hw6 W.heap.size (by omega))).trans HS5.out))); (· simp [go_sem, hl7, hf7]); (· simp [go_sem, hl7, hf7]); (· exact ⟨fun g e => (by cases e; exact Row_heap hHR (hw8 gl (by omega)))⟩)
        · rw [if_neg hall] at e; exact absurd e (by simp)

end Go.Proofs.Ytncombcckeeecaa.Q
