import Derived.Test.YtpgheaoepaadlaaJobsO
import Derived.Test.YtpgheaoepaadlaaJobsS
import Derived.Test.YtpgheaoepaadlaaMixed
import Derived.Test.YtpgheaoepaadlaaFimplXMixedLegal
import Derived.Test.YtpgheaoepaadlaaFspecXMixedLegal
set_option linter.unusedSimpArgs false
set_option linter.unusedVariables false
namespace Go.Proofs.Ytpgheaoepaadlaa.Pu
open Go.RowKit Go.Proofs.Ytpgheaoepaadlaa.Q Go.Proofs.YtpgheaoepaadlaaW.PrintWords Go.Proofs.YtpgheaoepaadlaaW.PrintLast

def hiM (l : List Mx) (t : Int) : Int := (rd_T39 l t).f1
def perM (l : List Mx) (t : Int) : Int := (rd_T39 l t).f2
abbrev LegM (l : List Mx) (js : List Jb) : Prop := Leg (l.length : Int) (hiM l) (perM l) (perM l) js
theorem implMixL_ex (l : List Mx) (js : List Jb) (hj : js.length ≤ 9000000) : Ex (fun k => impl_MixedLegal.f k l js) (fun r => r = true ↔ (mixOk l = true ∧ LegM l js)) := by
  unfold impl_MixedLegal.f
  simp only [implMix_eq, Option.bind_some]
  refine Ex.ite (fun h1 => ?_) (fun h1 => Ex.val (iff_no (fun h => h1 h.1)))
  have hok := (mixOk_iff l).mp h1
  refine Ex.bind (ord_ex (M := fun t => some (rd_T39 l t).f1) (cost := hiM l) (fun t => rfl) js hj (l.length : Int) 0 (by omega) (by omega)) (fun b hb => ?_)
  refine Ex.ite (fun h2 => ?_) (fun h2 => Ex.val (iff_no (fun h => h2 (hb.mpr ⟨h.2.len, fun i hi => ⟨h.2.a i hi, h.2.p i hi⟩⟩))))
  have ho := hb.mp h2
  have hs := spB_iff (per := perM l) (l := js) (fun i hi => (ho.2 i hi).1)
  refine Ex.ite (fun h3 => Ex.val ?_) (fun h3 => Ex.val (iff_no (fun h => h3 (hs.mpr h.2.s))))
  rw [any_iff']
  refine ⟨fun h => ⟨h1, ⟨ho.1, fun i hi => (ho.2 i hi).1, fun i hi => (ho.2 i hi).2, hs.mp h3, fun j hj => ?_⟩⟩, fun h x hx => ?_⟩
  · have := h _ (rdJ_mem js j hj)
    unfold badM at this
    rw [Bool.not_eq_false', beq_iff_eq] at this
    exact this
  · obtain ⟨j, hj, rfl⟩ := List.getElem_of_mem hx
    unfold badM
    rw [Bool.not_eq_false', beq_iff_eq]
    have := h.2.d j hj
    rw [rdJ_get js j hj] at this
    exact this
/-- The plain tasks of a mixed system, and a job of one tick. -/
def pl (x : Mx) : Tk := ⟨1, x.f2, x.f2⟩
def sh (x : Jb) : Jb := ⟨x.f0, x.f1, x.f2, 1⟩
theorem rd_pl {l : List Mx} {t : Int} (h0 : 0 ≤ t) (h1 : t < (l.length : Int)) : rd_T66 (l.map pl) t = pl (rd_T39 l t) := by
  obtain ⟨j, rfl⟩ := Int.eq_ofNat_of_zero_le h0
  unfold rd_T66
  rw [rdM_get l j (by omega), Int.toNat_natCast, List.getD_eq_getElem?_getD, List.getElem?_eq_getElem (by rw [List.length_map]; omega), Option.getD_some, List.getElem_map]
theorem rd_sh {js : List Jb} {j : Nat} (h : j < js.length) : rd_T57 (js.map sh) (j : Int) = sh (rd_T57 js (j : Int)) := by
  rw [rdJ_get _ j (by rw [List.length_map]; exact h), rdJ_get js j h, List.getElem_map]
theorem ok_pl {l : List Mx} (h : mixOk l = true) : Ok (l.map pl) := by
  have hl := (mixOk_iff l).mp h
  refine ⟨by rw [List.length_map]; exact hl.1, fun t ht => ?_⟩
  obtain ⟨x, hx, rfl⟩ := List.mem_map.mp ht
  have := hl.2 x hx
  unfold MxOk at this
  unfold pl
  dsimp only
  omega
/-- Execution times aside, the jobs are legal for the plain tasks. -/
theorem leg_iff (l : List Mx) (js : List Jb) : LegM l js ↔ ((∀ j : Nat, j < js.length → (0 ≤ (rd_T57 js (j : Int)).f0 ∧ (rd_T57 js (j : Int)).f0 < (l.length : Int)) ∧ (1 ≤ (rd_T57 js (j : Int)).f3 ∧ (rd_T57 js (j : Int)).f3 ≤ hiM l (rd_T57 js (j : Int)).f0)) ∧ LegT (l.map pl) (js.map sh)) := by
  have hn : ((l.map pl).length : Int) = (l.length : Int) := by rw [List.length_map]
  have hjn : (js.map sh).length = js.length := List.length_map _
  have hp : ∀ j : Nat, j < js.length → (pO (js.map sh) j ↔ pO js j) := fun j hj => by
    unfold pO
    rw [rd_sh hj, rd_sh (show j - 1 < js.length by omega)]
    exact Iff.rfl
  have hlst : ∀ t j, lstR t ((js.map sh).take j) = lstR t (js.take j) := fun t j => lstR_congr t (by rw [← List.map_take, List.map_map]; rfl)
  have hper : ∀ j : Nat, j < js.length → (0 ≤ (rd_T57 js (j : Int)).f0 ∧ (rd_T57 js (j : Int)).f0 < (l.length : Int)) → costT (l.map pl) (rd_T57 js (j : Int)).f0 = 1 ∧ perT (l.map pl) (rd_T57 js (j : Int)).f0 = perM l (rd_T57 js (j : Int)).f0 ∧ ddlT (l.map pl) (rd_T57 js (j : Int)).f0 = perM l (rd_T57 js (j : Int)).f0 := fun j hj h => by
    unfold costT perT ddlT perM
    rw [rd_pl h.1 h.2]
    exact ⟨rfl, rfl, rfl⟩
  constructor
  · intro h
    refine ⟨fun j hj => ⟨(h.a j hj).1, (h.a j hj).2.2⟩, ⟨by rw [hjn]; exact h.len, fun j hj => ?_, fun j hj => ?_, fun j hj => ?_, fun j hj => ?_⟩⟩
    · rw [hjn] at hj
      have ha := h.a j hj
      rw [rd_sh hj]
      refine ⟨by rw [hn]; exact ha.1, ha.2.1, ?_⟩
      show (1 : Int) ≤ 1 ∧ (1 : Int) ≤ costT (l.map pl) (rd_T57 js (j : Int)).f0
      rw [(hper j hj ha.1).1]; omega
    · rw [hjn] at hj
      exact (hp j hj).mpr (h.p j hj)
    · rw [hjn] at hj
      have ha := h.a j hj
      intro b hb
      rw [rd_sh hj] at hb ⊢
      rw [hlst] at hb
      show perT (l.map pl) (rd_T57 js (j : Int)).f0 ≤ (rd_T57 js (j : Int)).f1 - b
      rw [(hper j hj ha.1).2.1]
      exact h.s j hj b hb
    · rw [hjn] at hj
      have ha := h.a j hj
      rw [rd_sh hj]
      show (rd_T57 js (j : Int)).f2 = wrap64 ((rd_T57 js (j : Int)).f1 + ddlT (l.map pl) (rd_T57 js (j : Int)).f0)
      rw [(hper j hj ha.1).2.2]
      exact h.d j hj
  · rintro ⟨hr, h⟩
    refine ⟨by have := h.len; rw [hjn] at this; exact this, fun j hj => ?_, fun j hj => ?_, fun j hj => ?_, fun j hj => ?_⟩
    · have ha := h.a j (by rw [hjn]; exact hj)
      rw [rd_sh hj] at ha
      exact ⟨(hr j hj).1, ha.2.1, (hr j hj).2⟩
    · exact (hp j hj).mp (h.p j (by rw [hjn]; exact hj))
    · intro b hb
      have hs := h.s j (by rw [hjn]; exact hj) b (by rw [rd_sh hj, hlst]; exact hb)
      rw [rd_sh hj] at hs
      have hs' : perT (l.map pl) (rd_T57 js (j : Int)).f0 ≤ (rd_T57 js (j : Int)).f1 - b := hs
      rw [(hper j hj (hr j hj).1).2.1] at hs'
      exact hs'
    · have hd := h.d j (by rw [hjn]; exact hj)
      rw [rd_sh hj] at hd
      have hd' : (rd_T57 js (j : Int)).f2 = wrap64 ((rd_T57 js (j : Int)).f1 + ddlT (l.map pl) (rd_T57 js (j : Int)).f0) := hd
      rw [(hper j hj (hr j hj).1).2.2] at hd'
      exact hd'
theorem rdJ_set (l : List Jb) (i j : Nat) (v : Jb) (hj : j < l.length) : rd_T57 (l.set i v) (j : Int) = if i = j then v else rd_T57 l (j : Int) := by
  rw [rdJ_get _ j (by rw [List.length_set]; exact hj), rdJ_get l j hj, List.getElem_set]
def rg (l : List Mx) (x : Jb) : Prop := (0 ≤ x.f0 ∧ x.f0 < (l.length : Int)) ∧ (1 ≤ x.f3 ∧ x.f3 ≤ hiM l x.f0)
theorem specMixL_l1 {l : List Mx} (hv : mixOk l = true) (js : List Jb) (hj : js.length ≤ 9000000) : ∀ (d j : Nat) (c : List Jb), j + d = js.length → c.length = js.length → (∀ i : Nat, i < js.length → rd_T57 c (i : Int) = if i < j then sh (rd_T57 js (i : Int)) else rd_T57 js (i : Int)) → (∀ i : Nat, i < j → rg l (rd_T57 js (i : Int))) →
    Ex (fun k => spec_MixedLegal.l1 k l (l.map pl) c (j : Int)) (fun r => r = true ↔ LegM l js) := by
  have h5 := ((mixOk_iff l).mp hv).1
  intro d
  induction d with
  | zero =>
    intro j c hd hc ht hr
    have ec : c = js.map sh := by
      refine List.ext_getElem (by rw [List.length_map]; exact hc) (fun i h1 h2 => ?_)
      have := ht i (by omega)
      rw [if_pos (by omega), rdJ_get c i h1, rdJ_get js i (by omega)] at this
      rw [this, List.getElem_map]
    refine Ex.step ?_
    simp only [spec_MixedLegal.l1]
    refine Ex.neg (by omega) (Ex.bind (specJobs_ex (l.map pl) (by rw [List.length_map]; omega) c (by omega)) (fun b hb => Ex.val ?_))
    rw [hb, ec, leg_iff]
    exact ⟨fun h => ⟨fun i hi => hr i (by omega), h.2⟩, fun h => ⟨ok_pl hv, h.2⟩⟩
  | succ d ih =>
    intro j c hd hc ht hr
    have e := ht j (by omega)
    rw [if_neg (by omega)] at e
    refine Ex.step ?_
    simp only [spec_MixedLegal.l1, l1In_eq, Option.bind_some, Int.toNat_natCast]
    rw [e, jw1 (by omega), w64 (n := (l.length : Int) - 1) (by omega) (by omega)]
    have no : ¬ rg l (rd_T57 js (j : Int)) → ¬ LegM l js := fun h h' => h (((leg_iff l js).mp h').1 j (by omega))
    refine Ex.pos (by omega) (Ex.pos (by omega) (Ex.ite (fun g1 => ?_) (fun g1 => Ex.val (iff_no (no (fun h => g1 (decide_eq_true ⟨h.1.1, by have := h.1.2; omega⟩)))))))
    have k1 := of_decide_eq_true g1
    refine Ex.pos k1.1 (Ex.pos (by omega) (Ex.ite (fun g2 => ?_) (fun g2 => Ex.val (iff_no (no (fun h => g2 (decide_eq_true h.2)))))))
    have k2 := of_decide_eq_true g2
    refine ih (j + 1) _ (by omega) (by rw [List.length_set]; exact hc) (fun i hi => ?_) (fun i hi => ?_)
    · rw [rdJ_set c j i _ (by omega)]
      by_cases q : j = i
      · subst q; rw [if_pos rfl, if_pos (by omega)]; rfl
      · rw [if_neg q, ht i hi]
        by_cases q2 : i < j
        · rw [if_pos q2, if_pos (by omega)]
        · rw [if_neg q2, if_neg (by omega)]
    · by_cases q : i = j
      · rw [q]; exact ⟨⟨k1.1, by omega⟩, k2⟩
      · exact hr i (by omega)
theorem specMixL_l0 {l : List Mx} (hv : mixOk l = true) (js : List Jb) (hj : js.length ≤ 9000000) : ∀ (d j : Nat), j + d = l.length → Ex (fun k => spec_MixedLegal.l0 k l js ((l.take j).map pl) (j : Int)) (fun r => r = true ↔ LegM l js) := by
  have h5 := ((mixOk_iff l).mp hv).1
  intro d
  induction d with
  | zero =>
    intro j hd
    refine Ex.step ?_
    simp only [spec_MixedLegal.l0, Option.bind_some, List.nil_append, List.length_nil]
    rw [List.take_of_length_le (by omega)]
    exact Ex.neg (by omega) (Ex.pos (by omega) (specMixL_l1 hv js hj js.length 0 js (by omega) rfl (fun i hi => by rw [if_neg (by omega)]) (fun i hi => by omega)))
  | succ d ih =>
    intro j hd
    refine Ex.step ?_
    simp only [spec_MixedLegal.l0]
    rw [jw1 (by omega)]
    have e : (l.take j).map pl ++ [(⟨1, (rd_T39 l (j : Int)).f2, (rd_T39 l (j : Int)).f2⟩ : Tk)] = (l.take (j + 1)).map pl := by
      rw [List.take_succ_eq_append_getElem (show j < l.length by omega), List.map_append, rdM_get l j (by omega)]; rfl
    rw [e]
    exact Ex.pos (by omega) (Ex.pos (by omega) (Ex.pos (by rw [List.length_map, List.length_take]; omega) (ih (j + 1) (by omega))))
theorem specMixL_ex (l : List Mx) (hl : l.length ≤ 100000000) (js : List Jb) (hj : js.length ≤ 9000000) : Ex (fun k => spec_MixedLegal.f k l js) (fun r => r = true ↔ (mixOk l = true ∧ LegM l js)) := by
  unfold spec_MixedLegal.f
  refine Ex.bind (specMix_ex l (by omega)) ?_
  rintro _ rfl
  refine Ex.ite (fun h => ?_) (fun h => Ex.val (iff_no (fun g => h g.1)))
  have := specMixL_l0 h js hj l.length 0 (by omega)
  rw [List.take_zero] at this
  exact Ex.mono this (fun r hr => hr.trans ⟨fun g => ⟨h, g⟩, fun g => g.2⟩)

end Go.Proofs.Ytpgheaoepaadlaa.Pu
