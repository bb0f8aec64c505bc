-- written by mp.py, a program of this session's, out of the kit's print program and the translation
import Derived.Test.YtpgheaoepaadlaaF0
import Derived.Maps.OwnSet
import Derived.Test.YtpgheaoepaadlaaFimplXrelease
namespace Go.Proofs.Ytpgheaoepaadlaa.Q
open Go.RowKit Go.Proofs.YtpgheaoepaadlaaW.PrintWords Go.Proofs.YtpgheaoepaadlaaW.PrintLast Go.Proofs.YtpgheaoepaadlaaW.PrintMore
attribute [local go_sem] max2_int min2_int max_two min_two max_three min_three max_four min_four   -- for this text's walks alone
set_option linter.unusedVariables false
set_option linter.unusedSimpArgs false

/-! ### impl_spaced: function 51 -/
/-- The last release among the jobs of a task. -/
def lastR (t : Int) : List S57 → Option Int
  | [] => none
  | x :: r => match lastR t r with
    | some b => some b
    | none => if x.f0 = t then some x.f1 else none
theorem lastR_snoc (t : Int) (x : S57) : ∀ l : List S57, lastR t (l ++ [x]) = if x.f0 = t then some x.f1 else lastR t l
  | [] => by by_cases h : x.f0 = t <;> simp [lastR, h]
  | y :: l => by
    rw [List.cons_append, lastR, lastR_snoc t x l]
    by_cases h : x.f0 = t
    · simp [h]
    · simp only [h, if_false]; rfl
theorem lastR_mem {t b : Int} : ∀ {l : List S57}, lastR t l = some b → ∃ x ∈ l, x.f0 = t ∧ x.f1 = b
  | [], h => by simp [lastR] at h
  | y :: l, h => by
    rw [lastR] at h
    cases e : lastR t l with
    | some c =>
      rw [e] at h
      obtain ⟨x, hx, h1, h2⟩ := lastR_mem e
      exact ⟨x, List.mem_cons_of_mem _ hx, h1, by rw [h2]; exact Option.some.inj h⟩
    | none =>
      rw [e] at h
      by_cases h' : y.f0 = t
      · simp only [h', if_true] at h; exact ⟨y, List.mem_cons_self, h', Option.some.inj h⟩
      · simp only [h', if_false] at h; exact absurd h (by simp)
/-- A job comes at least a period behind the one before it of the same task. -/
def spAt (per : Int → Int) (l : List S57) (j : Nat) : Bool :=
  match lastR (rd_T57 l (j : Int)).f0 (l.take j) with
  | some b => !(decide (wrap64 ((rd_T57 l (j : Int)).f1 - b) < per (rd_T57 l (j : Int)).f0))
  | none => true
def spB (per : Int → Int) (l : List S57) : Bool := decide (∀ j, j < l.length → spAt per l j = true)
/-- What the map of the last releases reads as. -/
structure MapIs (D : DataW Unit) (l : List S57) : Prop where
  map : Maps.IsMap D
  has : ∀ t : Int, Maps.has D (.int .i64 t) = (lastR t l).isSome
  at_ : ∀ t b : Int, lastR t l = some b → D.atKey (.int .i64 t) (.lit (.int .i64 0)) = .lit (.int .i64 b)
theorem MapIs.nil : MapIs (.map []) [] := ⟨⟨[], rfl⟩, fun t => rfl, fun t b h => by simp [lastR] at h⟩
theorem MapIs.put {D : DataW Unit} {l : List S57} (h : MapIs D l) (x : S57) : MapIs (D.put (.int .i64 x.f0) (.lit (.int .i64 x.f1))) (l ++ [x]) := by
  refine ⟨h.map.put _ _, fun t => ?_, fun t b hb => ?_⟩
  · rw [lastR_snoc]
    by_cases e : x.f0 = t
    · subst e; rw [if_pos rfl, Maps.has_put_same h.map (by simp [WideAt.IsKeyLit])]; rfl
    · rw [if_neg e, Maps.has_put_other (fun h' => e (by injection h' with _ h2; exact h2.symm)), h.has]
  · rw [lastR_snoc] at hb
    by_cases e : x.f0 = t
    · subst e
      rw [if_pos rfl] at hb
      rw [Maps.atKey_put_same h.map (by simp [WideAt.IsKeyLit]), Option.some.inj hb]
    · rw [if_neg e] at hb
      rw [Maps.atKey_put_other (fun h' => e (by injection h' with _ h2; exact h2.symm))]; exact h.at_ t b hb
theorem ownsMap_below {P : Program} {kt : TypeId} {R : Value → Option (DataW Unit × List MemPlace)} {W W' : World} {b n B : Nat} {D : DataW Unit} (h : W.ownsMap P kt R b n D) (hB : Below B W W') (hb : b < B) : W'.ownsMap P kt R b n D := by
  obtain ⟨es, clock, h1, r⟩ := h
  exact ⟨es, clock, (hB.block b hb).trans h1, r⟩
theorem law_spaced : Maps.Keyed Try.prog 3 := Maps.int_keyed Try.underlying3
theorem zero_spaced (w : World) : (zeroValue 3).run Try.prog w = .ok (.int .i64 0) w := by kernel_rfl
theorem wf_small {n : Int} (h0 : 0 ≤ n) (h1 : n ≤ 1000000) : (Lit.int .i64 n).wf = true := WalkArith.wf_i64 (by omega)
theorem rd_take {l : List S57} {j : Nat} (h : j < l.length) : l.take (j + 1) = l.take j ++ [rd_T57 l (j : Int)] := by
  rw [List.take_succ_eq_append_getElem h]
  unfold rd_T57
  rw [Int.toNat_natCast, List.getD_eq_getElem?_getD, List.getElem?_eq_getElem h, Option.getD_some]
set_option maxHeartbeats 8000000 in
set_option maxRecDepth 100000 in
theorem impl_spaced.calls (GP : Nat) (hGP : Enters Try.prog GP) (lb : Array Value) (per : Int → Int) (A0 : Option Addr) (c0 : Nat) (l0 : List S57) (w : World) (hr0 : Kd.C k57 w A0 l0.length l0) (hbig : l0.length ≤ 1000000)
    (hk : ∀ j : Nat, j < l0.length → (0 ≤ (rd_T57 l0 (j : Int)).f0 ∧ (rd_T57 l0 (j : Int)).f0 ≤ 1000000) ∧ (0 ≤ (rd_T57 l0 (j : Int)).f1 ∧ (rd_T57 l0 (j : Int)).f1 ≤ 1000000))
    (hp : ∀ (W : World) (j : Nat), j < l0.length → Below w.heap.size w W → Calls Try.prog GP (#[.int .i64 (rd_T57 l0 (j : Int)).f0] ++ lb) W fun e w' => e = .returned (.int .i64 (per (rd_T57 l0 (j : Int)).f0)) ∧ W = w') :
    Calls Try.prog 51 #[.slice A0 l0.length c0, .func (.func 52) #[] #[], .func (.func GP) #[] lb] w fun e w' => e = .returned (.bool (spB per l0)) ∧ Below w.heap.size w w' := by
  have hu := Try.underlying57
  have eG := hGP
  unfold Enters at eG
  clear hGP
  have HR0 := Aside0.mk hr0
  have HP := Aside0.mk hp
  have HK := Aside0.mk hk
  clear hr0 hp hk
  have hmm := @run_makeMap Try.prog
  go_enter Try.func51, Try.ntmps51
  go_wp2
  go_loopg [16] l0.length (fun gg v16 wr => ∃ (kk : Nat) (D : DataW Unit), kk ≤ l0.length ∧ l0.length - kk ≤ gg ∧ v16 = .int .i64 kk ∧ Aside0 (Below w.heap.size w wr ∧ w.heap.size < wr.heap.size) ∧ Aside0 (∀ j, j < kk → spAt per l0 j = true) ∧ Aside0 (MapIs D (l0.take kk)) ∧ Aside0 (wr.ownsMap Try.prog 3 (plainElem Try.prog 3) w.heap.size kk D))
  case atStart => exact ⟨0, .map [], Nat.zero_le _, by omega, rfl, ⟨below_alloc (Below.refl _ w) _, by simp⟩, ⟨fun j hj => absurd hj (Nat.not_lt_zero _)⟩, ⟨MapIs.nil⟩, ⟨World.ownsMap_made _ _ _ _⟩⟩
  case round =>
    obtain ⟨kk, D, hkk, hg, rfl, BW, A, HM, HO⟩ := hrel
    by_cases hlt : kk < l0.length
    · have hkr := HK.out kk hlt
      obtain ⟨ad, e0, hx0, hx1, hx2, hx3⟩ := at_T57 HR0.out (kk : Int) (by omega) (by omega)
      cases e0
      replace hx0 := (BW.out.1.cell (World.block_lt_of_cell? w _ hx0)).trans hx0
      replace hx1 := (BW.out.1.cell (World.block_lt_of_cell? w _ hx1)).trans hx1
      replace hx2 := (BW.out.1.cell (World.block_lt_of_cell? w _ hx2)).trans hx2
      replace hx3 := (BW.out.1.cell (World.block_lt_of_cell? w _ hx3)).trans hx3
      simp only [Int.toNat_natCast] at hx0 hx1 hx2 hx3
      have hcall := fun (W : World) (h : Below w.heap.size w W) => HP.out W kk hlt h
      have hltz : (kk : Int) < (l0.length : Int) := by omega
      have hsp : spAt per l0 kk = match lastR (rd_T57 l0 (kk : Int)).f0 (l0.take kk) with | some b => !(decide (wrap64 ((rd_T57 l0 (kk : Int)).f1 - b) < per (rd_T57 l0 (kk : Int)).f0)) | none => true := rfl
      have hMP := HM.out.put (rd_T57 l0 (kk : Int))
      rw [← rd_take hlt] at hMP
      have hrel := fun W => impl_release.calls (rd_T57 l0 (kk : Int)).f0 (rd_T57 l0 (kk : Int)).f1 (rd_T57 l0 (kk : Int)).f2 (rd_T57 l0 (kk : Int)).f3 _ W rfl
      generalize hy : rd_T57 l0 (kk : Int) = y at hkr hx0 hx1 hx2 hx3 hcall hsp hMP hrel
      have B : Aside0 (rd_T57 l0 (kk : Int) = y) := ⟨hy⟩
      clear hy
      have hhas := HM.out.has y.f0
      have hkey : keyOf Try.prog 3 (.int .i64 y.f0) = some (.int .i64 y.f0) := Maps.keyOf_int_mk Try.underlying3 (wf_small hkr.1.1 hkr.1.2)
      have hwf1 := wf_small hkr.2.1 hkr.2.2
      have hb0 : wr.heap.size ≠ w.heap.size := by have := BW.out.2; omega
      have HWR := Aside0.mk hb0
      have HMP := Aside0.mk hMP
      have HKEY := Aside0.mk hkey
      have HWF := Aside0.mk hwf1
      have HKR := Aside0.mk hkr
      clear hMP hkey hwf1 hb0 hkr
      cases hl : lastR y.f0 (l0.take kk) with
      | none =>
        rw [hl] at hsp hhas
        have HSP := Aside0.mk (show spAt per l0 kk = true from hsp)
        have HHAS := Aside0.mk (show Maps.has D (.int .i64 y.f0) = false from hhas)
        clear hl hsp hhas hcall
        go_wp2_with (first
          | (go_at_call 52; refine (hrel _).mono ?_; rintro e w2 ⟨rfl, hb2⟩; have hj0 : w2.cell? ⟨wr.heap.size, 0, none⟩ = some (.int .i64 y.f0) := (hb2.cell (p := ⟨wr.heap.size, 0, none⟩) (by simp)).trans (by simp [go_sem]); have HB2 := Aside0.mk (below_step (below_alloc BW.out.1 _) hb2); have HO2 := Aside0.mk (ownsMap_below HO.out (below_step (below_alloc (Below.refl wr.heap.size wr) _) hb2) BW.out.2); have HZ := Aside0.mk (Nat.lt_of_lt_of_le BW.out.2 (Nat.le_trans (below_alloc (Below.refl wr.heap.size wr) _).size hb2.size)); clear hb2)
          | (at_lookup; refine wpList_lookup_own_ok_int _ rfl _ _ 94 rfl 3 3 .i64 law_spaced Try.underlying94 Try.underlying3 (zero_spaced _) w.heap.size kk _ rfl HO2.out _ _ rfl HKEY.out ?_; intro c hat hwc; rw [HHAS.out]; clear hat hwc)
          | (at_mapUpdate; refine wpList_mapUpdate_own _ rfl _ _ _ 94 rfl 3 3 law_spaced Try.underlying94 _ w.heap.size kk _ rfl HO2.out (by unfold maxLen; omega) _ _ _ rfl rfl HKEY.out _ [] (plainElem_int Try.underlying3 HWF.out) ?_; intro w3 hown3 hgrow3))
        go_roundg (l0.length - (kk + 1))
        case measure => omega
        case rel => exact ⟨kk + 1, _, by omega, by omega, by go_num, ⟨HB2.out.grown hgrow3 HB2.out.size (fun j hj => by cases hj; exact Nat.le_refl _), Nat.lt_of_lt_of_le HZ.out hgrow3.size⟩, ⟨fun j hj => by
          by_cases h : j = kk
          · rw [h, HSP.out]
          · exact A.out j (by omega)⟩, ⟨HMP.out⟩, ⟨hown3⟩⟩
      | some b =>
        have hat0 := HM.out.at_ y.f0 b hl
        rw [hl] at hsp hhas
        replace hsp : spAt per l0 kk = !(decide (wrap64 (y.f1 - b) < per y.f0)) := hsp
        have HHAS := Aside0.mk (show Maps.has D (.int .i64 y.f0) = true from hhas)
        have HAT := Aside0.mk hat0
        replace hcall := fun (W : World) (h : Below w.heap.size w W) => hcall W h
        obtain ⟨pv, hpv⟩ : ∃ pv, per y.f0 = pv := ⟨_, rfl⟩
        obtain ⟨v, hv⟩ : ∃ v, wrap64 (y.f1 - b) = v := ⟨_, rfl⟩
        rw [hpv] at hsp hcall
        rw [hv] at hsp
        have hw : IntKind.i64.wrap (y.f1 - b) = v := (i64_w _).trans hv
        clear hl hhas hat0 hpv
        by_cases hlt2 : v < pv
        · have hd : decide (v < pv) = true := decide_eq_true hlt2
          have HSP := Aside0.mk (show spAt per l0 kk = false by rw [hsp, hd]; rfl)
          clear hsp hlt2
          go_wp2_with (first
            | (go_at_call 52; refine (hrel _).mono ?_; rintro e w2 ⟨rfl, hb2⟩; have hj0 : w2.cell? ⟨wr.heap.size, 0, none⟩ = some (.int .i64 y.f0) := (hb2.cell (p := ⟨wr.heap.size, 0, none⟩) (by simp)).trans (by simp [go_sem]); have HB2 := Aside0.mk (below_step (below_alloc BW.out.1 _) hb2); have HO2 := Aside0.mk (ownsMap_below HO.out (below_step (below_alloc (Below.refl wr.heap.size wr) _) hb2) BW.out.2); have HZ := Aside0.mk (Nat.lt_of_lt_of_le BW.out.2 (Nat.le_trans (below_alloc (Below.refl wr.heap.size wr) _).size hb2.size)); clear hb2)
            | (at_lookup; refine wpList_lookup_own_ok_int _ rfl _ _ 94 rfl 3 3 .i64 law_spaced Try.underlying94 Try.underlying3 (zero_spaced _) w.heap.size kk _ rfl HO2.out _ _ rfl HKEY.out ?_; intro c hat hwc; rw [HHAS.out]; obtain rfl : c = b := (by have e_ := hat.symm.trans HAT.out; injection e_ with e_; injection e_ with _ e_); clear hat hwc)
            | (at_mapUpdate; refine wpList_mapUpdate_own _ rfl _ _ _ 94 rfl 3 3 law_spaced Try.underlying94 _ w.heap.size kk _ rfl HO2.out (by unfold maxLen; omega) _ _ _ rfl rfl HKEY.out _ [] (plainElem_int Try.underlying3 HWF.out) ?_; intro w3 hown3 hgrow3)
            | (go_at_fn GP; refine (hcall _ HB2.out).mono ?_; rintro e w' ⟨rfl, rfl⟩))
          go_ret
          have e : spB per l0 = false := decide_eq_false (fun h => by have h1 := h kk hlt; rw [HSP.out] at h1; exact absurd h1 (by simp))
          rw [e]
          exact ⟨rfl, HB2.out⟩
        · have hd : decide (v < pv) = false := decide_eq_false hlt2
          have HSP := Aside0.mk (show spAt per l0 kk = true by rw [hsp, hd]; rfl)
          clear hsp hlt2
          go_wp2_with (first
            | (go_at_call 52; refine (hrel _).mono ?_; rintro e w2 ⟨rfl, hb2⟩; have hj0 : w2.cell? ⟨wr.heap.size, 0, none⟩ = some (.int .i64 y.f0) := (hb2.cell (p := ⟨wr.heap.size, 0, none⟩) (by simp)).trans (by simp [go_sem]); have HB2 := Aside0.mk (below_step (below_alloc BW.out.1 _) hb2); have HO2 := Aside0.mk (ownsMap_below HO.out (below_step (below_alloc (Below.refl wr.heap.size wr) _) hb2) BW.out.2); have HZ := Aside0.mk (Nat.lt_of_lt_of_le BW.out.2 (Nat.le_trans (below_alloc (Below.refl wr.heap.size wr) _).size hb2.size)); clear hb2)
            | (at_lookup; refine wpList_lookup_own_ok_int _ rfl _ _ 94 rfl 3 3 .i64 law_spaced Try.underlying94 Try.underlying3 (zero_spaced _) w.heap.size kk _ rfl HO2.out _ _ rfl HKEY.out ?_; intro c hat hwc; rw [HHAS.out]; obtain rfl : c = b := (by have e_ := hat.symm.trans HAT.out; injection e_ with e_; injection e_ with _ e_); clear hat hwc)
            | (at_mapUpdate; refine wpList_mapUpdate_own _ rfl _ _ _ 94 rfl 3 3 law_spaced Try.underlying94 _ w.heap.size kk _ rfl HO2.out (by unfold maxLen; omega) _ _ _ rfl rfl HKEY.out _ [] (plainElem_int Try.underlying3 HWF.out) ?_; intro w3 hown3 hgrow3)
            | (go_at_fn GP; refine (hcall _ HB2.out).mono ?_; rintro e w' ⟨rfl, rfl⟩))
          go_roundg (l0.length - (kk + 1))
          case measure => omega
          case rel => exact ⟨kk + 1, _, by omega, by omega, by go_num, ⟨HB2.out.grown hgrow3 HB2.out.size (fun j hj => by cases hj; exact Nat.le_refl _), Nat.lt_of_lt_of_le HZ.out hgrow3.size⟩, ⟨fun j hj => by
            by_cases h : j = kk
            · rw [h, HSP.out]
            · exact A.out j (by omega)⟩, ⟨HMP.out⟩, ⟨hown3⟩⟩
    · have : kk = l0.length := by omega
      subst this
      go_wp2
      go_ret
      have e : spB per l0 = true := decide_eq_true A.out
      rw [e]
      exact ⟨rfl, BW.out.1⟩

end Go.Proofs.Ytpgheaoepaadlaa.Q
