import Derived.Test.YtabjigpbednfnaaPA
import Derived.Test.YtabjigpbednfnaaPO
import Derived.Test.YtabjigpbednfnaaFimplXSectionsValid
import Derived.Test.YtabjigpbednfnaaFspecXSectionsValid
import Derived.Test.YtabjigpbednfnaaFspecXl20Sections
set_option linter.unusedSimpArgs false
set_option linter.unusedVariables false
namespace Go.Proofs.Ytabjigpbednfnaa.Pu
open Go.RowKit Go.Proofs.Ytabjigpbednfnaa.Q Go.Proofs.YtabjigpbednfnaaW.PrintWords Go.Proofs.YtabjigpbednfnaaW.PrintLast

abbrev Sc := S31
theorem rdS_get (l : List Sc) (j : Nat) (h : j < l.length) : rd_T31 l (j : Int) = l[j] := by
  unfold rd_T31
  rw [Int.toNat_natCast, List.getD_eq_getElem?_getD, List.getElem?_eq_getElem h, Option.getD_some]
theorem rdS_set (l : List Sc) (i j : Nat) (x : Sc) (hj : j < l.length) : rd_T31 (l.set i x) (j : Int) = if i = j then x else rd_T31 l (j : Int) := by
  rw [rdS_get _ j (by rw [List.length_set]; exact hj), rdS_get l j hj, List.getElem_set]
theorem rdS_rep (n j : Nat) (x : Sc) (hj : j < n) : rd_T31 (List.replicate n x) (j : Int) = x := by
  rw [rdS_get _ j (by simpa using hj), List.getElem_replicate]
theorem swx {j : Nat} (h : j ≤ 1000000) : wrap64 ((j : Int) + 1) = ((j + 1 : Nat) : Int) := by rw [w64 (by omega) (by omega)]; omega
theorem siff_no {P : Prop} (h : ¬ P) : (false = true) ↔ P := ⟨fun h' => by simp at h', fun h' => absurd h' h⟩
theorem siff_yes {P : Prop} (h : P) : (true = true) ↔ P := ⟨fun _ => h, fun _ => rfl⟩
/-- A section fits a task of this cost. -/
def sP (C : Int) (s : Sc) : Prop := (s.f1 = 0 → s.f0 = 0 ∧ s.f2 = 0) ∧ (0 ≤ s.f1 ∧ s.f1 ≤ C) ∧ (0 ≤ s.f0 ∧ s.f0 ≤ C - s.f1) ∧ (0 ≤ s.f2 ∧ s.f2 ≤ 2)
structure SecOk (l : List Tk) (sc : List Sc) : Prop where
  set : Ok l
  len : sc.length = l.length
  at_ : ∀ j : Nat, j < sc.length → sP (rd_T33 l (j : Int)).f0 (rd_T31 sc (j : Int))
theorem SecOk.put {l : List Tk} {sc : List Sc} (h : SecOk l sc) {i : Nat} {x : Sc} (hx : sP (rd_T33 l (i : Int)).f0 x) : SecOk l (sc.set i x) := ⟨h.set, by rw [List.length_set]; exact h.len, fun j hj => by
  rw [List.length_set] at hj
  rw [rdS_set sc i j x hj]
  by_cases e : i = j
  · rw [if_pos e, ← e]; exact hx
  · rw [if_neg e]; exact h.at_ j hj⟩
theorem implSec_loop {l : List Tk} (ho : Ok l) {sc : List Sc} (hlen : sc.length = l.length) : ∀ (d j : Nat), j + d = sc.length → Ex (fun k => impl_SectionsValid.l0 k l sc (sc.length : Int) (j : Int)) (fun r => r = true ↔ ∀ i : Nat, j ≤ i → i < sc.length → sP (rd_T33 l (i : Int)).f0 (rd_T31 sc (i : Int))) := by
  have h5 := ho.len
  intro d
  induction d with
  | zero =>
    intro j hj
    refine Ex.step ?_
    simp only [impl_SectionsValid.l0]
    exact Ex.neg (by omega) (Ex.val (siff_yes (fun i h1 h2 => by omega)))
  | succ d ih =>
    intro j hj
    have hr := ho.rd j (by omega)
    unfold rdT at hr
    refine Ex.step ?_
    simp only [impl_SectionsValid.l0, in_eq, Option.bind_some]
    rw [swx (by omega)]
    have next := ih (j + 1) (by omega)
    generalize hC : (rd_T33 l (j : Int)).f0 = C at hr
    generalize hx : rd_T31 sc (j : Int) = x
    have no : ¬ sP C x → ¬ (∀ i : Nat, j ≤ i → i < sc.length → sP (rd_T33 l (i : Int)).f0 (rd_T31 sc (i : Int))) := fun h h' => h (by have := h' j (Nat.le_refl _) (by omega); rw [hC, hx] at this; exact this)
    have yes : sP C x → Ex (fun k => impl_SectionsValid.l0 k l sc (sc.length : Int) ((j + 1 : Nat) : Int)) (fun r => r = true ↔ ∀ i : Nat, j ≤ i → i < sc.length → sP (rd_T33 l (i : Int)).f0 (rd_T31 sc (i : Int))) := fun h => Ex.mono next (fun r hr => hr.trans ⟨fun h' i hi hil => by
      by_cases e : i = j
      · rw [e, hC, hx]; exact h
      · exact h' i (by omega) hil, fun h' i hi hil => h' i (by omega) hil⟩)
    have rest : (x.f1 = 0 → x.f0 = 0 ∧ x.f2 = 0) → Ex (fun k => if (j : Int) < (l.length : Int) then (if decide (0 ≤ x.f1 ∧ x.f1 ≤ C) = true then (if decide (0 ≤ x.f0 ∧ x.f0 ≤ wrap64 (C - x.f1)) = true then (if decide (0 ≤ x.f2 ∧ x.f2 ≤ 2) = true then impl_SectionsValid.l0 k l sc (sc.length : Int) ((j + 1 : Nat) : Int) else some false) else some false) else some false) else none) (fun r => r = true ↔ ∀ i : Nat, j ≤ i → i < sc.length → sP (rd_T33 l (i : Int)).f0 (rd_T31 sc (i : Int))) := fun hz => by
      refine Ex.pos (by omega) (Ex.ite (fun h1 => ?_) (fun h1 => Ex.val (siff_no (no (fun h => h1 (decide_eq_true h.2.1))))))
      have g1 := of_decide_eq_true h1
      rw [w64 (n := C - x.f1) (by omega) (by omega)]
      exact Ex.ite (fun h2 => Ex.ite (fun h3 => yes ⟨hz, g1, of_decide_eq_true h2, of_decide_eq_true h3⟩) (fun h3 => Ex.val (siff_no (no (fun h => h3 (decide_eq_true h.2.2.2)))))) (fun h2 => Ex.val (siff_no (no (fun h => h2 (decide_eq_true h.2.2.1)))))
    refine Ex.pos (by omega) (Ex.pos (by omega) (Ex.pos (by omega) (Ex.ite (fun h0 => Ex.ite (fun hb => Ex.val (siff_no (no (fun h => ?_)))) (fun hb => rest (fun _ => ?_))) (fun h0 => rest (fun h => absurd h h0)))))
    · have := h.1 h0
      rw [this.1, this.2, h0] at hb
      exact absurd hb (by decide)
    · by_cases e0 : x.f0 = 0
      · by_cases e2 : x.f2 = 0
        · exact ⟨e0, e2⟩
        · exact absurd (by simp [e2]) hb
      · exact absurd (by simp [e0]) hb
theorem implSec_ex (l : List Tk) (hl : l.length ≤ 1000) (sc : List Sc) : Ex (fun k => impl_SectionsValid.f k l sc) (fun r => r = true ↔ SecOk l sc) := by
  unfold impl_SectionsValid.f
  simp only [implSet_eq, Option.bind_some]
  refine Ex.ite (fun h => Ex.step ?_) (fun h => Ex.step ?_)
  · have ho := (setOk_iff l).mp h
    simp only [impl_SectionsValid.j0]
    by_cases e : sc.length = l.length
    · refine Ex.neg (by rw [bne_iff_ne]; omega) (Ex.mono (implSec_loop ho e sc.length 0 (by omega)) (fun r hr => hr.trans ⟨fun h' => ⟨ho, e, fun j hj => h' j (Nat.zero_le _) hj⟩, fun h' i _ hi => h'.at_ i hi⟩))
    · exact Ex.pos (by rw [bne_iff_ne]; omega) (Ex.val (siff_no (fun h' => e h'.len)))
  · simp only [impl_SectionsValid.j0]
    exact Ex.pos (by simp) (Ex.val (siff_no (fun h' => h ((setOk_iff l).mpr h'.set))))
theorem specSec_loop {l : List Tk} (ho : Ok l) {sc : List Sc} (hlen : sc.length = l.length) : ∀ (d j : Nat), j + d = sc.length → Ex (fun k => spec_SectionsValid.l0 k l sc (j : Int)) (fun r => r = true ↔ ∀ i : Nat, j ≤ i → i < sc.length → sP (rd_T33 l (i : Int)).f0 (rd_T31 sc (i : Int))) := by
  have h5 := ho.len
  intro d
  induction d with
  | zero =>
    intro j hj
    refine Ex.step ?_
    simp only [spec_SectionsValid.l0]
    exact Ex.neg (by omega) (Ex.val (siff_yes (fun i h1 h2 => by omega)))
  | succ d ih =>
    intro j hj
    have hr := ho.rd j (by omega)
    unfold rdT at hr
    refine Ex.step ?_
    simp only [spec_SectionsValid.l0, l1In_eq, Option.bind_some]
    rw [swx (by omega)]
    have next := ih (j + 1) (by omega)
    generalize hC : (rd_T33 l (j : Int)).f0 = C at hr
    generalize hx : rd_T31 sc (j : Int) = x
    have no : ¬ sP C x → ¬ (∀ i : Nat, j ≤ i → i < sc.length → sP (rd_T33 l (i : Int)).f0 (rd_T31 sc (i : Int))) := fun h h' => h (by have := h' j (Nat.le_refl _) (by omega); rw [hC, hx] at this; exact this)
    have yes : sP C x → Ex (fun k => spec_SectionsValid.l0 k l sc ((j + 1 : Nat) : Int)) (fun r => r = true ↔ ∀ i : Nat, j ≤ i → i < sc.length → sP (rd_T33 l (i : Int)).f0 (rd_T31 sc (i : Int))) := fun h => Ex.mono next (fun r hr => hr.trans ⟨fun h' i hi hil => by
      by_cases e : i = j
      · rw [e, hC, hx]; exact h
      · exact h' i (by omega) hil, fun h' i hi hil => h' i (by omega) hil⟩)
    have rest : (x.f1 = 0 → x.f0 = 0 ∧ x.f2 = 0) → Ex (fun k => if (j : Int) < (l.length : Int) then (if decide (0 ≤ x.f1 ∧ x.f1 ≤ C) = true then (if decide (0 ≤ x.f0 ∧ x.f0 ≤ wrap64 (C - x.f1)) = true then (if decide (0 ≤ x.f2 ∧ x.f2 ≤ 2) = true then spec_SectionsValid.l0 k l sc ((j + 1 : Nat) : Int) else some false) else some false) else some false) else none) (fun r => r = true ↔ ∀ i : Nat, j ≤ i → i < sc.length → sP (rd_T33 l (i : Int)).f0 (rd_T31 sc (i : Int))) := fun hz => by
      refine Ex.pos (by omega) (Ex.ite (fun h1 => ?_) (fun h1 => Ex.val (siff_no (no (fun h => h1 (decide_eq_true h.2.1))))))
      have g1 := of_decide_eq_true h1
      rw [w64 (n := C - x.f1) (by omega) (by omega)]
      exact Ex.ite (fun h2 => Ex.ite (fun h3 => yes ⟨hz, g1, of_decide_eq_true h2, of_decide_eq_true h3⟩) (fun h3 => Ex.val (siff_no (no (fun h => h3 (decide_eq_true h.2.2.2)))))) (fun h2 => Ex.val (siff_no (no (fun h => h2 (decide_eq_true h.2.2.1)))))
    refine Ex.pos (by omega) (Ex.pos (by omega) (Ex.ite (fun h0 => Ex.ite (fun e0 => Ex.ite (fun e2 => rest (fun _ => ⟨e0, e2⟩)) (fun e2 => Ex.val (siff_no (no (fun h => e2 (h.1 h0).2))))) (fun e0 => Ex.val (siff_no (no (fun h => e0 (h.1 h0).1))))) (fun h0 => rest (fun h => absurd h h0))))
theorem specSec_ex (l : List Tk) (hl : l.length ≤ 1000) (sc : List Sc) : Ex (fun k => spec_SectionsValid.f k l sc) (fun r => r = true ↔ SecOk l sc) := by
  unfold spec_SectionsValid.f
  refine Ex.bind (Ex.at_ 1001 (fun k hk => specSet_eq l (by omega) k (by omega)) (P := fun x => x = setOk l) rfl) ?_
  intro v hv
  rw [hv]
  refine Ex.ite (fun h => Ex.step ?_) (fun h => Ex.step ?_)
  · have ho := (setOk_iff l).mp h
    simp only [spec_SectionsValid.j0]
    by_cases e : sc.length = l.length
    · refine Ex.neg (by rw [bne_iff_ne]; omega) (Ex.mono (specSec_loop ho e sc.length 0 (by omega)) (fun r hr => hr.trans ⟨fun h' => ⟨ho, e, fun j hj => h' j (Nat.zero_le _) hj⟩, fun h' i _ hi => h'.at_ i hi⟩))
    · exact Ex.pos (by rw [bne_iff_ne]; omega) (Ex.val (siff_no (fun h' => e h'.len)))
  · simp only [spec_SectionsValid.j0]
    exact Ex.pos (by simp) (Ex.val (siff_no (fun h' => h ((setOk_iff l).mpr h'.set))))
theorem sec_rep {l : List Tk} (ho : Ok l) : SecOk l (List.replicate (l.length : Int).toNat z31) := by
  have e : ((l.length : Int)).toNat = l.length := by omega
  rw [e]
  refine ⟨ho, by simp, fun j hj => ?_⟩
  rw [List.length_replicate] at hj
  have hr := ho.rd j hj
  unfold rdT at hr
  rw [rdS_rep _ j _ hj]
  exact ⟨fun _ => ⟨rfl, rfl⟩, ⟨by decide, by show (0 : Int) ≤ _; omega⟩, ⟨by decide, by show (0 : Int) ≤ _ - 0; omega⟩, ⟨by decide, by decide⟩⟩
theorem bool_eqS {x y : Bool} {P : Prop} (hx : x = true ↔ P) (hy : y = true ↔ P) : x = y := by
  cases x <;> cases y <;> first | rfl | (have := hy.mpr (hx.mp rfl); simp at this) | (have := hx.mpr (hy.mp rfl); simp at this)
theorem secs_j2 {b : List Int} (hb : Bytes b) {sc : List Sc} (h : sc.length ≤ 13) {c : Bool} (hc : c = false → 0 < sc.length) {p : Int} (hp0 : 0 ≤ p) (hp : p ≤ 900000) : Ex (fun k => spec_l20Sections.j2 k sc c b p) (fun x => x.1.length ≤ 14 ∧ 0 ≤ x.2 ∧ x.2 ≤ 910000) := by
  refine Ex.step ?_
  simp only [spec_l20Sections.j2, Option.bind_some]
  refine Ex.ite (fun _ => Ex.pos (by omega) (Ex.val ⟨by simp only [List.length_append, List.length_singleton]; omega, by simp only []; omega, by simp only []; omega⟩)) (fun h1 => ?_)
  have hpos := hc (by simpa using h1)
  refine Ex.bind (pick_ex hb hp0 (by omega)) ?_
  rintro ⟨r, q⟩ ⟨a1, a2, a3⟩
  simp only [] at a1 a2 a3 ⊢
  refine Ex.bind (pick_ex hb (by omega) (by omega)) ?_
  rintro ⟨r2, q2⟩ ⟨c1, c2, c3⟩
  simp only [] at c1 c2 c3 ⊢
  exact Ex.pos c1 (Ex.pos (by simp; omega) (Ex.pos a1 (Ex.pos (by omega) (Ex.val ⟨by simp only [List.length_set]; omega, by simp only []; omega, by simp only []; omega⟩))))
theorem secs_l0 {l : List Tk} (hl : l.length ≤ 12) {b : List Int} (hb : Bytes b) (n : Int) : ∀ (d j : Nat) (sc : List Sc) (p : Int), j + d = l.length → sc.length = j → 0 ≤ p → p ≤ 10 * (j : Int) + 800000 → Ex (fun k => spec_l20Sections.l0 k l n sc (j : Int) b p) (fun x => x.1.length ≤ 14 ∧ 0 ≤ x.2 ∧ x.2 ≤ 910000) := by
  intro d
  induction d with
  | zero =>
    intro j sc p hj hs hp0 hp
    refine Ex.step ?_
    simp only [spec_l20Sections.l0]
    refine Ex.neg (by omega) (Ex.bind (odd_ex hb hp0 (by omega)) ?_)
    rintro ⟨o, q⟩ ⟨h1, h2, h3⟩
    simp only [] at h1 h2 h3 ⊢
    refine Ex.ite (fun _ => Ex.ite (fun h4 => secs_j2 hb (by omega) (fun h => by simp at h) (by omega) (by omega)) (fun h4 => ?_)) (fun _ => Ex.val ⟨by simp only []; omega, by simp only []; omega, by simp only []; omega⟩)
    refine Ex.bind (pick_ex hb (by omega) (by omega)) ?_
    rintro ⟨r, q2⟩ ⟨a1, a2, a3⟩
    simp only [] at a1 a2 a3 ⊢
    exact secs_j2 hb (by omega) (fun _ => by omega) (by omega) (by omega)
  | succ d ih =>
    intro j sc p hj hs hp0 hp
    have j1 : ∀ (c : Bool) (q : Int), p ≤ q → q ≤ p + 1 → Ex (fun k => spec_l20Sections.j1 k l n sc (j : Int) c b q 0 0 0) (fun x => x.1.length ≤ 14 ∧ 0 ≤ x.2 ∧ x.2 ≤ 910000) := fun c q h0 h1 => Ex.step (by
      simp only [spec_l20Sections.j1]
      rw [swx (by omega)]
      refine Ex.ite (fun _ => Ex.pos (by omega) (Ex.pos (by omega) (Ex.bind (pick_ex hb (by omega) (by omega)) ?_))) (fun _ => Ex.pos (by omega) (ih (j + 1) _ q (by omega) (by rw [List.length_append, List.length_singleton]; omega) (by omega) (by omega)))
      rintro ⟨r, q1⟩ ⟨a1, a2, a3⟩
      simp only [] at a1 a2 a3 ⊢
      refine Ex.bind (pick_ex hb (by omega) (by omega)) ?_
      rintro ⟨r2, q2⟩ ⟨c1, c2, c3⟩
      simp only [] at c1 c2 c3 ⊢
      refine Ex.bind (pick_ex hb (by omega) (by omega)) ?_
      rintro ⟨r3, q3⟩ ⟨d1, d2, d3⟩
      simp only [] at d1 d2 d3 ⊢
      exact Ex.pos (by omega) (ih (j + 1) _ q3 (by omega) (by rw [List.length_append, List.length_singleton]; omega) (by omega) (by omega)))
    refine Ex.step ?_
    simp only [spec_l20Sections.l0]
    refine Ex.pos (by omega) (Ex.pos (by omega) (Ex.ite (fun _ => ?_) (fun _ => j1 false p (by omega) (by omega))))
    refine Ex.bind (pick_ex hb (by omega) (by omega)) ?_
    rintro ⟨r, q1⟩ ⟨a1, a2, a3⟩
    simp only [] at a1 a2 a3 ⊢
    exact j1 _ q1 (by omega) (by omega)
theorem secs_ex {l : List Tk} (hl : l.length ≤ 12) {b : List Int} (hb : Bytes b) (n : Int) {p : Int} (hp0 : 0 ≤ p) (hp : p ≤ 800000) : Ex (fun k => spec_l20Sections.f k b p l n) (fun x => x.1.length ≤ 14 ∧ 0 ≤ x.2 ∧ x.2 ≤ 910000) := by
  unfold spec_l20Sections.f
  exact secs_l0 hl hb n l.length 0 [] p (by omega) rfl hp0 (by omega)

end Go.Proofs.Ytabjigpbednfnaa.Pu
