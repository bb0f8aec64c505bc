-- written by mp.py, a program of this session's, out of the kit's print program and the translation
import Derived.Test.YtncombcckeeecaaF0
import Derived.Lib.SliceRun
import Derived.Test.YtncombcckeeecaaFslicesXIndexFuncXintXint
namespace Go.Proofs.Ytncombcckeeecaa.Q
open Go.RowKit Go.Proofs.YtncombcckeeecaaW.PrintWords Go.Proofs.YtncombcckeeecaaW.PrintLast Go.Proofs.YtncombcckeeecaaW.PrintMore
attribute [local go_sem] max2_int min2_int max_two min_two max_three min_three max_four min_four   -- for this text's walks alone
set_option linter.unusedVariables false
set_option linter.unusedSimpArgs false

/-! ### slices_DeleteFunc_int_int: function 62 -/
/-- The row while it is filtered: what stays of the first j, and what lies behind. -/
def dl (q : Int → Bool) (xs ys : List Int) (j : Nat) : List Int := (xs.take j).filter q ++ ys.drop ((xs.take j).filter q).length
theorem dl_cnt (q : Int → Bool) (xs : List Int) (j : Nat) : ((xs.take j).filter q).length ≤ j := Nat.le_trans (List.length_filter_le _ _) (by rw [List.length_take]; omega)
theorem dl_len (q : Int → Bool) (xs ys : List Int) (j : Nat) (h : j ≤ ys.length) : (dl q xs ys j).length = ys.length := by
  have := dl_cnt q xs j
  unfold dl
  rw [List.length_append, List.length_drop]; omega
theorem dl_get (q : Int → Bool) (xs pad : List Int) (j i : Nat) (hj : j ≤ i) (hi : i < xs.length) : (dl q xs (xs ++ pad) j)[i]? = some (rd xs (i : Int)) := by
  have := dl_cnt q xs j
  unfold dl
  rw [List.getElem?_append_right (by omega), List.getElem?_drop, show ((xs.take j).filter q).length + (i - ((xs.take j).filter q).length) = i by omega, List.getElem?_append_left hi, List.getElem?_eq_getElem hi]
  unfold rd
  rw [Int.toNat_natCast, List.getD_eq_getElem?_getD, List.getElem?_eq_getElem hi, Option.getD_some]
theorem dl_take (q : Int → Bool) (xs : List Int) (j : Nat) (h : j < xs.length) : (xs.take (j + 1)).filter q = (xs.take j).filter q ++ (if q (rd xs (j : Int)) = true then [rd xs (j : Int)] else []) := by
  have e : rd xs (j : Int) = xs[j] := by
    unfold rd
    rw [Int.toNat_natCast, List.getD_eq_getElem?_getD, List.getElem?_eq_getElem h, Option.getD_some]
  rw [List.take_succ_eq_append_getElem h, List.filter_append, e]
  congr 1
  by_cases hq : q xs[j] = true
  · rw [if_pos hq]; simp [hq]
  · rw [if_neg hq]; simp [hq]
theorem dl_keep (q : Int → Bool) (xs ys : List Int) (j : Nat) (h : j < xs.length) (hy : xs.length ≤ ys.length) (hq : q (rd xs (j : Int)) = true) : dl q xs ys (j + 1) = (dl q xs ys j).set ((xs.take j).filter q).length (rd xs (j : Int)) ∧ ((xs.take (j + 1)).filter q).length = ((xs.take j).filter q).length + 1 := by
  have hc := dl_cnt q xs j
  have ht := dl_take q xs j h
  rw [if_pos hq] at ht
  refine ⟨?_, by rw [ht, List.length_append, List.length_singleton]⟩
  unfold dl
  rw [ht, List.length_append, List.length_singleton, List.set_append_right _ _ (Nat.le_refl _), Nat.sub_self, List.drop_eq_getElem_cons (show ((xs.take j).filter q).length < ys.length by omega), List.set_cons_zero, List.append_assoc]
  rfl
theorem dl_skip (q : Int → Bool) (xs ys : List Int) (j : Nat) (h : j < xs.length) (hq : q (rd xs (j : Int)) = false) : dl q xs ys (j + 1) = dl q xs ys j ∧ ((xs.take (j + 1)).filter q).length = ((xs.take j).filter q).length := by
  have ht := dl_take q xs j h
  rw [if_neg (by simp [hq]), List.append_nil] at ht
  unfold dl
  rw [ht]
  exact ⟨rfl, rfl⟩
/-- A row's cells hold these numbers, and may be written. -/
def Row (w : World) (g : Nat) (l : List Int) : Prop := ∀ j, j < l.length → w.cell? ⟨g, j, none⟩ = some (.int .i64 (rd l (j : Int))) ∧ w.frozen? ⟨g, j, none⟩ = false
theorem rd_some {l : List Int} {j : Nat} (h : j < l.length) : l[j]? = some (rd l (j : Int)) := by
  unfold rd
  rw [Int.toNat_natCast, List.getD_eq_getElem?_getD, List.getElem?_eq_getElem h, Option.getD_some]
theorem rd_eq {l : List Int} {j : Nat} {n : Int} (h : l[j]? = some n) : rd l (j : Int) = n := by
  unfold rd
  rw [Int.toNat_natCast, List.getD_eq_getElem?_getD, h, Option.getD_some]
theorem Row.cell {w : World} {g : Nat} {l : List Int} (h : Row w g l) {i : Nat} {n : Int} (e : l[i]? = some n) : w.cell? ⟨g, i, none⟩ = some (.int .i64 n) := by
  have h1 := (h i (List.getElem?_eq_some_iff.mp e).1).1
  rw [rd_eq e] at h1
  exact h1
theorem Row.put {w : World} {g : Nat} {l : List Int} (h : Row w g l) (i : Nat) (n : Int) (hi : i < l.length) : Row (w.setCell ⟨g, i, none⟩ (.int .i64 n)) g (l.set i n) := fun j hj => by
  rw [List.length_set] at hj
  obtain ⟨hc, hf⟩ := h j hj
  have hs : w.setCell ⟨g, i, none⟩ (.int .i64 n) = w.setCells g i [.int .i64 n] := rfl
  rw [hs]
  refine ⟨?_, (World.frozen?_setCells g _ _ _ _).trans hf⟩
  by_cases e : i = j
  · subst e
    rw [rd_eq (show (l.set i n)[i]? = some n by rw [List.getElem?_set_self (by omega)])]
    have h1 := World.cell?_setCells_in g [Value.int .i64 n] i w (fun k hk => by
      have : k = 0 := by simpa using hk
      subst this
      rw [Nat.add_zero, hc]; rfl) 0 (by simp)
    exact h1
  · rw [World.cell?_setCells_out g _ _ _ _ (fun _ _ => by simp; omega), hc, rd_eq (show (l.set i n)[j]? = some (rd l (j : Int)) by rw [List.getElem?_set_ne e]; exact rd_some hj)]
theorem grow_set {a b : World} {g : Nat} (h : a.grownBy b (some g)) (i : Nat) (v : Value) : a.grownBy (b.setCell ⟨g, i, none⟩ v) (some g) := ⟨h.os, h.tape, h.output, by simpa [World.setCell] using h.size, fun k hk hne => (Below.heap_setCell _ _ _ _ (fun e => hne (by rw [e]))).trans (h.block k hk hne)⟩
theorem Row.reads {w : World} {g : Nat} {l : List Int} (h : Row w g l) (hm : l.length ≤ 9223372036854775807) : Kd.C (Kd.int .i64) w (some ⟨g, 0, none⟩) l.length l := by
  refine Kd.C_of_reads (d := (0 : Int)) (h1 := fun _ => rfl) ⟨rfl, hm, fun _ => ⟨_, rfl, fun i hi => ?_⟩⟩
  have h1 := h.cell (i := i) (n := l.getD i 0) (by rw [List.getElem?_eq_getElem hi, List.getD_eq_getElem?_getD, List.getElem?_eq_getElem hi]; rfl)
  have e : (⟨g, 0, none⟩ : Addr).add i = ⟨g, i, none⟩ := by
    unfold Addr.add
    by_cases hz : i = 0
    · rw [if_pos hz, hz]
    · rw [if_neg hz]; simp
  rw [e]
  exact h1
theorem Row.clears {w : World} {g : Nat} {F l : List Int} (h : Row w g (F ++ l)) (vs : List Value) : Row (w.setCells g F.length vs) g F := fun j hj => by
  obtain ⟨hc, hf⟩ := h j (by rw [List.length_append]; omega)
  refine ⟨?_, (World.frozen?_setCells g _ _ _ _).trans hf⟩
  rw [World.cell?_setCells_out g _ _ _ _ (fun _ _ => .inl hj), hc, rd_eq (show (F ++ l)[j]? = some (rd F (j : Int)) by rw [List.getElem?_append_left hj]; exact rd_some hj)]
theorem Row.grown {w W : World} {g : Nat} {l : List Int} (h : Row w g l) (hb : Below w.heap.size w W) : Row W g l := fun j hj => by
  obtain ⟨hc, hf⟩ := h j hj
  have hl := World.block_lt_of_cell? w _ hc
  refine ⟨(hb.cell hl).trans hc, ?_⟩
  have e := hb.block g hl
  unfold World.frozen? at hf ⊢
  rw [e]; exact hf
theorem grow_clear {a : World} {g : Nat} : ∀ (vs : List Value) (b : World) (o : Nat), a.grownBy b (some g) → a.grownBy (b.setCells g o vs) (some g) := by
  intro vs
  induction vs with
  | nil => intro b o h; exact h
  | cons v vs ih => intro b o h; exact ih _ (o + 1) (grow_set h o v)
theorem dl_pre (q : Int → Bool) (xs pad : List Int) (j : Nat) (h : j ≤ xs.length) (hq : ∀ i, i < j → q (rd xs (i : Int)) = true) : dl q xs (xs ++ pad) j = xs ++ pad ∧ ((xs.take j).filter q).length = j := by
  have e : (xs.take j).filter q = xs.take j := List.filter_eq_self.mpr (fun x hx => by
    obtain ⟨i, hi, rfl⟩ := List.getElem_of_mem hx
    rw [List.length_take] at hi
    have := hq i (by omega)
    unfold rd at this
    rw [Int.toNat_natCast, List.getD_eq_getElem?_getD, List.getElem?_eq_getElem (show i < xs.length by omega), Option.getD_some] at this
    rw [List.getElem_take]; exact this)
  have hl : (xs.take j).length = j := by rw [List.length_take]; omega
  unfold dl
  rw [e, hl]
  refine ⟨?_, rfl⟩
  rw [← List.take_append_of_le_length (l₂ := pad) h, List.take_append_drop]
theorem idxOf_cases (p : Int → Bool) (l : List Int) : (idxOf_I p l = -1 ∧ l.filter (fun x => !p x) = l) ∨ ∃ k : Nat, k < l.length ∧ idxOf_I p l = (k : Int) ∧ p (rd l (k : Int)) = true ∧ ∀ j : Nat, j < k → p (rd l (j : Int)) = false := by
  unfold idxOf_I
  cases h : l.findIdx? p with
  | none =>
    rw [List.findIdx?_eq_none_iff] at h
    exact .inl ⟨rfl, List.filter_eq_self.mpr (fun x hx => by simp [h x hx])⟩
  | some i =>
    rw [List.findIdx?_eq_some_iff_getElem] at h
    obtain ⟨hi, hp, hb⟩ := h
    have er : ∀ j (hj : j < l.length), rd l (j : Int) = l[j] := fun j hj => by
      unfold rd
      rw [Int.toNat_natCast, List.getD_eq_getElem?_getD, List.getElem?_eq_getElem hj, Option.getD_some]
    refine .inr ⟨i, hi, rfl, by rw [er i hi]; exact hp, fun j hj => ?_⟩
    rw [er j (by omega)]
    simpa using hb j hj
theorem add_off (g m : Nat) : (⟨g, 0, none⟩ : Addr).add m = ⟨g, m, none⟩ := by
  unfold Addr.add
  by_cases hz : m = 0
  · rw [if_pos hz, hz]
  · rw [if_neg hz]; simp
theorem zero_delI (w : World) : (zeroValue 3).run Try.prog w = .ok (.int .i64 0) w := by kernel_rfl
theorem below_grow {w W : World} (h : Below w.heap.size w W) (r : Option Nat) : w.grownBy W r := ⟨h.os, h.tape, h.output, h.size, fun k hk _ => h.block k hk⟩
set_option maxHeartbeats 8000000 in
set_option maxRecDepth 100000 in
theorem delFunc_I.calls (G : Nat) (hG : Enters Try.prog G) (lb : Array Value) (p : Int → Bool) (g c : Nat) (xs : List Int) (w : World) (hb : Row w g xs) (hgl : g < w.heap.size) (hc : xs.length ≤ c) (hmx : xs.length ≤ 1000000) (hp : ∀ (W : World) (k : Nat), k < xs.length → w.grownBy W (some g) → Calls Try.prog G (#[.int .i64 (rd xs (k : Int))] ++ lb) W fun e w' => e = .returned (.bool (p (rd xs (k : Int)))) ∧ W = w') :
    Calls Try.prog 62 #[.slice (some ⟨g, 0, none⟩) xs.length c, .func (.func G) #[] lb] w fun e w' => e = .returned (.slice (some ⟨g, 0, none⟩) (xs.filter (fun x => !p x)).length c) ∧ w.grownBy w' (some g) ∧ Row w' g (xs.filter (fun x => !p x)) := by
  ((have hu := Try.underlying3); (have eG := hG); (unfold Enters at eG); (have hidx := idxFunc_I.calls G hG lb p (some ⟨g, 0, none⟩) c xs w (hb.reads (by omega)) (by omega) (fun W k hk hB => (hp W k hk (below_grow hB _)).mono fun e w' ⟨he, hw⟩ => ⟨he, hw ▸ hB⟩)); (have hcs := idxOf_cases p xs); (obtain ⟨ix, hix⟩ : ∃ z, idxOf_I p xs = z := ⟨_, rfl⟩); (rw [hix] at hidx hcs); (have HBK := Aside0.mk hb); (have HP := Aside0.mk hp); (have HIX := Aside0.mk hidx); (have HGL := Aside0.mk hgl); (obtain ⟨i0, hi0, _, hsz, _⟩ := info_parts info3); (have HC := Aside0.mk hc); (have HMX := Aside0.mk hmx); clear hb hp hidx hix hG hgl; (rcases hcs with ⟨rfl, hfl⟩ | ⟨k, hk, rfl, hpk, hpb⟩)); (· (rw [hfl]); clear hfl hi0 hsz hc hmx; (go_enter Try.func62, Try.ntmps62); (go_wp2_with (go_at_call 60; refine HIX.out.mono ?_; rintro e w2 ⟨rfl, hb2⟩)); (go_ret); (exact ⟨rfl, below_grow hb2 _, HBK.out.grown hb2⟩))
  · (obtain ⟨q, hq⟩ : ∃ q : Int → Bool, (fun x => !p x) = q := ⟨_, rfl⟩); (have hqx : ∀ x, q x = !p x := fun x => by rw [← hq]); (rw [hq]); (have hpre := dl_pre q xs [] (k) (by omega) (fun i hi => by rw [hqx, hpb i hi]; rfl)); (have hsk := dl_skip q xs (xs ++ []) k hk (by rw [hqx, hpk]; rfl)); (have HPRE := Aside0.mk (show dl q xs (xs ++ []) (k + 1) = xs ++ [] ∧ ((xs.take (k + 1)).filter q).length = k from ⟨hsk.1.trans hpre.1, hsk.2.trans hpre.2⟩)); (have HQX := Aside0.mk hqx); (have HI0 := Aside0.mk hi0); (have HSZ := Aside0.mk hsz); clear hq hqx hpre hsk hpk hpb hi0 hsz hc hmx; (have hkz : ¬ ((k : Int) = -1) := by omega); (have hkb : ((k : Int) == -1) = false := beq_eq_false_iff_ne.mpr hkz); (have hkn : k < xs.length := hk); clear hk hkz
    have hk1 : IntKind.i64.wrap ((k : Int) + 1) = ((k + 1 : Nat) : Int) := by
      (have := HC.out; have := HMX.out); (rw [i64_w]; unfold wrap64; omega)
    (have HK1 := Aside0.mk hkn); (go_enter Try.func62, Try.ntmps62); (go_wp2_with (go_at_call 60; refine HIX.out.mono ?_; rintro e w2 ⟨rfl, hb2⟩; have HW2 := Aside0.mk hb2; clear hb2)); (go_loopg [5, 6] xs.length (fun gg v5 v6 wr => ∃ (j m : Nat), m < j ∧ j ≤ xs.length ∧ xs.length - j ≤ gg ∧ v5 = .int .i64 m ∧ v6 = .int .i64 j ∧ Aside0 (((xs.take j).filter q).length = m) ∧ Aside0 (Row wr g (dl q xs (xs ++ []) j)) ∧ Aside0 (w.grownBy wr (some g))))
    case atStart => exact ⟨k + 1, k, by omega, by omega, by omega, rfl, by first | rfl | go_num, ⟨HPRE.out.2⟩, ⟨by rw [HPRE.out.1, List.append_nil]; exact HBK.out.grown HW2.out⟩, ⟨below_grow HW2.out _⟩⟩
    case round =>
      (obtain ⟨j, m, hmj, hjn, hgg, rfl, rfl, HM, HI, HG⟩ := hrel); (have hcl := HC.out); (have hmx := HMX.out); (have hylen : (xs ++ []).length = xs.length := by rw [List.append_nil]); (by_cases hlt : j < xs.length)
      · (have hx0 := HI.out.cell (dl_get q xs [] j j (Nat.le_refl _) hlt)); (have hcall := HP.out wr j hlt HG.out); (have hltz : (j : Int) < (xs.length : Int) := by omega); (have hj0 : (0 : Int) ≤ (j : Int) := by omega); (obtain ⟨y, hy⟩ : ∃ y, rd xs (j : Int) = y := ⟨_, rfl⟩); (rw [hy] at hx0 hcall); (have HY := Aside0.mk hy); clear hy
        cases hpy : p y with
        | true =>
          (rw [hpy] at hcall); (have HSK := Aside0.mk (dl_skip q xs (xs ++ []) j hlt (by rw [HY.out, HQX.out, hpy]; rfl))); clear hpy hylen; (go_wp2_with (go_at_fn G; refine hcall.mono ?_; rintro e w' ⟨rfl, rfl⟩)); (go_roundg (xs.length - (j + 1)))
          case measure => omega
          case rel => exact ⟨j + 1, m, by omega, by omega, by omega, rfl, by go_num, ⟨HSK.out.2.trans HM.out⟩, ⟨by rw [HSK.out.1]; exact HI.out⟩, ⟨HG.out⟩⟩
        | false =>
          (rw [hpy] at hcall); (have HKP := Aside0.mk (dl_keep q xs (xs ++ []) j hlt (by omega) (by rw [HY.out, HQX.out, hpy]; rfl))); (have hml : m < (dl q xs (xs ++ []) j).length := by rw [dl_len _ _ _ _ (by omega)]; omega); (have hm0 := HI.out.cell (List.getElem?_eq_getElem hml)); (have hmf := (HI.out m hml).2); (have HML := Aside0.mk hml); (generalize (dl q xs (xs ++ []) j)[m] = o at hm0); (have hmn : (m : Int) < (xs.length : Int) := by omega); (have hm00 : (0 : Int) ≤ (m : Int) := by omega); clear hpy hml hylen; (go_wp2_with (go_at_fn G; refine hcall.mono ?_; rintro e w' ⟨rfl, rfl⟩)); (go_roundg (xs.length - (j + 1)))
          case measure => omega
          case rel => exact ⟨j + 1, m + 1, by omega, by omega, by omega, by go_num, by go_num, ⟨HKP.out.2.trans (by rw [HM.out])⟩, ⟨by rw [HKP.out.1, HM.out, HY.out]; exact HI.out.put m y HML.out⟩, ⟨grow_set HG.out m _⟩⟩
      · (have hjn2 : j = xs.length := by omega); (subst hjn2); (have hF : (xs.take xs.length).filter q = xs.filter q := by rw [List.take_length]); (have HF := Aside0.mk hF); (have hm2 := HM.out); (rw [hF] at hm2); (have hdl : (dl q xs (xs ++ []) xs.length).length = xs.length := by rw [dl_len _ _ _ _ (by omega), hylen]); (have hcut0 := cut_from (P := Try.prog) 24 3 .i64 Try.underlying24 HI0.out 1 HSZ.out (some ⟨g, 0, none⟩) xs.length c (m : Int) (by omega) (by omega))
        have hcut : ∀ W : World, (Instr.slice 24 (.slice (some ⟨g, 0, none⟩) xs.length c) (some (.int .i64 (m : Int))) none none).run Try.prog W = .ok (.slice (some ⟨g, m, none⟩) (xs.length - m) (c - m)) W := fun W => by
          (have := hcut0 W); (rw [Int.toNat_natCast, if_neg (by omega)] at this); (simp only [Option.map_some, Nat.mul_one, add_off] at this); (exact this)
        (have hcut2 := cut_to (P := Try.prog) 24 3 .i64 Try.underlying24 HI0.out (some ⟨g, 0, none⟩) xs.length c (m : Int) (by omega) (by omega) (by omega)); (rw [Int.toNat_natCast] at hcut2); (have hcell : ∀ i, i < xs.length → ∃ o, wr.cell? ⟨g, i, none⟩ = some (.int .i64 o) := fun i hi => ⟨_, HI.out.cell (List.getElem?_eq_getElem (by rw [hdl]; exact hi))⟩); (have hclr := fun ty => Lib.run_clear_slice (P := Try.prog) wr 24 3 ty (.int .i64 0) Try.underlying24 (fun w => zero_delI w) rfl rfl g m (xs.length - m) (c - m) (by omega) (fun i hi => by obtain ⟨o, ho⟩ := hcell (m + i) (by omega); rw [ho]; rfl) (fun i hi => (HI.out (m + i) (by rw [hdl]; omega)).2)); (have HDL := Aside0.mk hdl); (have HM2 := Aside0.mk hm2); (have HYL := Aside0.mk hylen); clear hcut0 hcell hF hm2 hdl hylen; (go_wp2); (go_ret); (refine ⟨by rw [HM2.out]; rfl, grow_clear _ _ _ HG.out, ?_⟩); (have h1 := HI.out); (unfold dl at h1); (rw [HF.out] at h1); (have h2 := h1.clears (List.replicate (xs.length - m) (.int .i64 0))); (rw [HM2.out] at h2); (exact h2)

end Go.Proofs.Ytncombcckeeecaa.Q
