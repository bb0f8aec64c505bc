import Derived.Test.YtalohoomhmjheaaPgmV
import Derived.Test.YtalohoomhmjheaaFspecXl20Prog
set_option linter.unusedSimpArgs false
set_option linter.unusedVariables false
namespace Go.Proofs.Ytalohoomhmjheaa.Pu
open Go.RowKit Go.Proofs.Ytalohoomhmjheaa.Q Go.Proofs.YtalohoomhmjheaaW.PrintWords Go.Proofs.YtalohoomhmjheaaW.PrintLast

/-- What the maker has so far: a list that is not empty, of at most 12 nodes, whose first node alone is a valid program. -/
structure Mk (l : List Nd) : Prop where
  pos : 1 ≤ l.length
  len : l.length ≤ 12
  one : PV (l.take 1)
theorem Mk.app {l : List Nd} (h : Mk l) (h12 : l.length < 12) (x : Nd) : Mk (l ++ [x]) := ⟨by rw [List.length_append]; have := h.pos; omega, by rw [List.length_append, List.length_singleton]; omega, by
  rw [List.take_append_of_le_length h.pos]; exact h.one⟩
theorem Mk.cut {l : List Nd} (h : Mk l) (h1 : 2 ≤ l.length) : Mk (l.take (l.length - 1)) := ⟨by rw [List.length_take]; omega, by rw [List.length_take]; have := h.len; omega, by
  rw [List.take_take, Nat.min_eq_left (by omega)]; exact h.one⟩
theorem first_PV {c : Int} (h1 : 1 ≤ c) (h9 : c ≤ 9) : PV [(⟨1, c, 0, 0, 0⟩ : Nd)] := by
  have e : rd_T28 [(⟨1, c, 0, 0, 0⟩ : Nd)] ((0 : Nat) : Int) = ⟨1, c, 0, 0, 0⟩ := rfl
  have hv : NV [(⟨1, c, 0, 0, 0⟩ : Nd)] := fun j hj => by
    have : j = 0 := by simp at hj; omega
    subst this
    rw [e]
    exact .inl ⟨rfl, ⟨h1, h9⟩, rfl, rfl, rfl⟩
  refine ⟨by simp, by simp, hv, ?_⟩
  have := V_bd hv 0 (by simp)
  simp only [Bd] at this
  show V wF _ 0 ≤ 600
  omega
theorem prog_l2 {b : List Int} {p : Int} : ∀ (d : Nat) (l : List Nd), l.length + d = 12 → 1 ≤ l.length → Ex (fun k => spec_l20Prog.l2 k l b p) (fun x => x.1.length ≤ 13 ∧ x.2 = p) := by
  intro d
  induction d with
  | zero =>
    intro l hl h1
    refine Ex.step ?_
    simp only [spec_l20Prog.l2]
    exact Ex.neg (by omega) (Ex.val ⟨by simp only []; omega, rfl⟩)
  | succ d ih =>
    intro l hl h1
    refine Ex.step ?_
    simp only [spec_l20Prog.l2]
    exact Ex.pos (by omega) (Ex.pos (by omega) (ih _ (by rw [List.length_append, List.length_singleton]; omega) (by rw [List.length_append]; omega)))
theorem prog_end {b : List Int} (hb : Bytes b) {p : Int} (hp0 : 0 ≤ p) (hp : p ≤ 900000) (s : Int) (l : List Nd) (hm : Mk l) : Ex (fun k => (spec_l20Rd_odd.f k b p s).bind fun bt145 => (if bt145.1 = true then ((spec_l20Rd_pick.f k b bt145.2 5).bind fun bt147 => (if bt147.1 = 0 then (some ((([] : List Nd)), bt147.2)) else (if bt147.1 = 1 then (if l.length < 3518437208883 then (some ((l ++ [(⟨2, 0, (l.length : Int), 0, 0⟩ : Nd)]), bt147.2)) else (none)) else (if bt147.1 = 2 then ((spec_l20Rd_pick.f k b bt147.2 (l.length : Int)).bind fun bt155 => ((some (([0, 5] : List Int) : List Int)).bind fun y157 => ((spec_l20Rd_pick.f k b bt155.2 2).bind fun bt160 => (if 0 ≤ bt160.1 then (if bt160.1 < (y157.length : Int) then (if 0 ≤ bt155.1 then (if bt155.1 < (l.length : Int) then (some ((l.set (bt155.1 : Int).toNat (⟨rd y157 bt160.1, (rd_T28 l bt155.1).f1, (rd_T28 l bt155.1).f2, (rd_T28 l bt155.1).f3, (rd_T28 l bt155.1).f4⟩ : Nd)), bt160.2)) else (none)) else (none)) else (none)) else (none))))) else (if bt147.1 = 3 then ((spec_l20Rd_pick.f k b bt147.2 (l.length : Int)).bind fun bt164 => ((some (([(-1), 10, 0] : List Int) : List Int)).bind fun y166 => ((spec_l20Rd_pick.f k b bt164.2 3).bind fun bt169 => (if 0 ≤ bt169.1 then (if bt169.1 < (y166.length : Int) then (if 0 ≤ bt164.1 then (if bt164.1 < (l.length : Int) then (some ((l.set (bt164.1 : Int).toNat (⟨(rd_T28 l bt164.1).f0, rd y166 bt169.1, (rd_T28 l bt164.1).f2, (rd_T28 l bt164.1).f3, (rd_T28 l bt164.1).f4⟩ : Nd)), bt169.2)) else (none)) else (none)) else (none)) else (none))))) else (spec_l20Prog.l2 k l b bt147.2)))))) else (some (l, bt145.2)))) (fun x => x.1.length ≤ 13 ∧ 0 ≤ x.2 ∧ x.2 ≤ 900010) := by
  have h1 := hm.pos
  have h12 := hm.len
  refine Ex.bind (odd_ex hb (by omega) (by omega)) ?_
  rintro ⟨o, q1⟩ ⟨a1, a2, _⟩
  simp only [] at a1 a2 ⊢
  refine Ex.ite (fun _ => Ex.bind (pick_ex hb (by omega) (by omega)) ?_) (fun _ => Ex.val ⟨by simp only []; omega, by simp only []; omega, by simp only []; omega⟩)
  rintro ⟨r2, q2⟩ ⟨c1, c2, c3⟩
  simp only [Option.bind_some] at c1 c2 c3 ⊢
  refine Ex.ite (fun _ => Ex.val ⟨by simp, by simp only []; omega, by simp only []; omega⟩) (fun _ => Ex.ite (fun _ => Ex.pos (by omega) (Ex.val ⟨by simp only [List.length_append, List.length_singleton]; omega, by simp only []; omega, by simp only []; omega⟩)) (fun _ => Ex.ite (fun _ => Ex.bind (pick_ex hb (by omega) (by omega)) ?_) (fun _ => Ex.ite (fun _ => Ex.bind (pick_ex hb (by omega) (by omega)) ?_) (fun _ => Ex.mono (prog_l2 (12 - l.length) l (by omega) h1) (fun x hx => ⟨hx.1, by rw [hx.2]; omega, by rw [hx.2]; omega⟩)))))
  · rintro ⟨r3, q3⟩ ⟨e1, e2, e3⟩
    simp only [] at e1 e2 e3 ⊢
    refine Ex.bind (pick_ex hb (by omega) (by omega)) ?_
    rintro ⟨r4, q4⟩ ⟨f1, f2, f3⟩
    simp only [] at f1 f2 f3 ⊢
    exact Ex.pos (by omega) (Ex.pos (by simp; omega) (Ex.pos (by omega) (Ex.pos (by omega) (Ex.val ⟨by simp only [List.length_set]; omega, by simp only []; omega, by simp only []; omega⟩))))
  · rintro ⟨r3, q3⟩ ⟨e1, e2, e3⟩
    simp only [] at e1 e2 e3 ⊢
    refine Ex.bind (pick_ex hb (by omega) (by omega)) ?_
    rintro ⟨r4, q4⟩ ⟨f1, f2, f3⟩
    simp only [] at f1 f2 f3 ⊢
    exact Ex.pos (by omega) (Ex.pos (by simp; omega) (Ex.pos (by omega) (Ex.pos (by omega) (Ex.val ⟨by simp only [List.length_set]; omega, by simp only []; omega, by simp only []; omega⟩))))
theorem prog_l1 {b : List Int} (hb : Bytes b) {p : Int} (hp0 : 0 ≤ p) (hp : p ≤ 900000) (s : Int) : ∀ (d : Nat) (l : List Nd), l.length = d + 1 → Mk l → Ex (fun k => spec_l20Prog.l1 k s l b p) (fun x => x.1.length ≤ 13 ∧ 0 ≤ x.2 ∧ x.2 ≤ 900010) := by
  intro d
  induction d with
  | zero =>
    intro l hl hm
    have hpv : PV l := by have := hm.one; rwa [List.take_of_length_le (by omega)] at this
    refine Ex.step ?_
    simp only [spec_l20Prog.l1]
    exact Ex.bind (specPV_ex l) (fun v hv => Ex.pos (hv.mpr hpv) (prog_end hb hp0 hp s l hm))
  | succ d ih =>
    intro l hl hm
    refine Ex.step ?_
    simp only [spec_l20Prog.l1]
    refine Ex.bind (specPV_ex l) (fun v hv => Ex.ite (fun _ => prog_end hb hp0 hp s l hm) (fun _ => ?_))
    rw [w64 (n := (l.length : Int) - 1) (by have := hm.len; omega) (by have := hm.len; omega), show ((l.length : Int) - 1).toNat = l.length - 1 by omega]
    exact Ex.pos (by omega) (Ex.pos (by omega) (ih _ (by rw [List.length_take]; omega) (hm.cut (by omega))))
theorem prog_l0 {b : List Int} (hb : Bytes b) (s : Int) : ∀ (d : Nat) (l : List Nd) (p : Int), l.length + d ≤ 12 → Mk l → 0 ≤ p → p ≤ 100 * (l.length : Int) → Ex (fun k => spec_l20Prog.l0 k s l (d : Int) b p) (fun x => x.1.length ≤ 13 ∧ 0 ≤ x.2 ∧ x.2 ≤ 900010) := by
  intro d
  induction d with
  | zero =>
    intro l p hd hm hp0 hp
    refine Ex.step ?_
    simp only [spec_l20Prog.l0]
    exact Ex.neg (by omega) (prog_l1 hb hp0 (by have := hm.len; omega) s (l.length - 1) l (by have := hm.pos; omega) hm)
  | succ d ih =>
    intro l p hd hm hp0 hp
    have hl1 := hm.pos
    have next : ∀ (x : Nd) (q : Int), p ≤ q → q ≤ p + 10 → Ex (fun k => spec_l20Prog.l0 k s (l ++ [x]) (wrap64 (((d + 1 : Nat) : Int) - 1)) b q) (fun x => x.1.length ≤ 13 ∧ 0 ≤ x.2 ∧ x.2 ≤ 900010) := fun x q h1 h2 => by
      rw [w64 (by omega) (by omega), show ((d + 1 : Nat) : Int) - 1 = (d : Int) by omega]
      exact ih _ q (by rw [List.length_append, List.length_singleton]; omega) (hm.app (by omega) x) (by omega) (by rw [List.length_append, List.length_singleton]; omega)
    refine Ex.step ?_
    simp only [spec_l20Prog.l0]
    refine Ex.pos (by omega) (Ex.bind (pick_ex hb (by omega) (by omega)) ?_)
    rintro ⟨r1, q1⟩ ⟨a1, a2, a3⟩
    simp only [] at a1 a2 a3 ⊢
    refine Ex.ite (fun _ => Ex.bind (pick_ex hb (by omega) (by omega)) ?_) (fun _ => Ex.ite (fun _ => Ex.bind (pick_ex hb (by omega) (by omega)) ?_) (fun _ => Ex.ite (fun _ => Ex.bind (pick_ex hb (by omega) (by omega)) ?_) (fun _ => Ex.bind (pick_ex hb (by omega) (by omega)) ?_)))
    · rintro ⟨r2, q2⟩ ⟨c1, c2, c3⟩
      simp only [] at c1 c2 c3 ⊢
      exact Ex.pos (by omega) (next _ _ (by omega) (by omega))
    · rintro ⟨r2, q2⟩ ⟨c1, c2, c3⟩
      simp only [] at c1 c2 c3 ⊢
      refine Ex.bind (pick_ex hb (by omega) (by omega)) ?_
      rintro ⟨r3, q3⟩ ⟨e1, e2, e3⟩
      simp only [] at e1 e2 e3 ⊢
      exact Ex.pos (by omega) (next _ _ (by omega) (by omega))
    · rintro ⟨r2, q2⟩ ⟨c1, c2, c3⟩
      simp only [] at c1 c2 c3 ⊢
      refine Ex.bind (pick_ex hb (by omega) (by omega)) ?_
      rintro ⟨r3, q3⟩ ⟨e1, e2, e3⟩
      simp only [] at e1 e2 e3 ⊢
      refine Ex.bind (pick_ex hb (by omega) (by omega)) ?_
      rintro ⟨r4, q4⟩ ⟨f1, f2, f3⟩
      simp only [] at f1 f2 f3 ⊢
      exact Ex.pos (by omega) (next _ _ (by omega) (by omega))
    · rintro ⟨r2, q2⟩ ⟨c1, c2, c3⟩
      simp only [] at c1 c2 c3 ⊢
      refine Ex.bind (pick_ex hb (by omega) (by omega)) ?_
      rintro ⟨r3, q3⟩ ⟨e1, e2, e3⟩
      simp only [] at e1 e2 e3 ⊢
      refine Ex.bind (pick_ex hb (by omega) (by omega)) ?_
      rintro ⟨r4, q4⟩ ⟨f1, f2, f3⟩
      simp only [] at f1 f2 f3 ⊢
      exact Ex.pos (by omega) (next _ _ (by omega) (by omega))
theorem prog_ex {b : List Int} (hb : Bytes b) (s : Int) : Ex (fun k => spec_l20Prog.f k b 0 s) (fun x => x.1.length ≤ 13 ∧ 0 ≤ x.2 ∧ x.2 ≤ 900010) := by
  unfold spec_l20Prog.f
  refine Ex.bind (pick_ex hb (by omega) (by omega)) ?_
  rintro ⟨r1, q1⟩ ⟨a1, a2, a3⟩
  simp only [] at a1 a2 a3 ⊢
  refine Ex.bind (pick_ex hb (by omega) (by omega)) ?_
  rintro ⟨r2, q2⟩ ⟨c1, c2, c3⟩
  simp only [] at c1 c2 c3 ⊢
  rw [w64 (n := 1 + r1) (by omega) (by omega)]
  have hone := first_PV (c := 1 + r1) (by omega) (by omega)
  have := prog_l0 hb s r2.toNat [(⟨1, 1 + r1, 0, 0, 0⟩ : Nd)] q2 (by simp; omega) ⟨by simp, by simp, hone⟩ (by omega) (by simp; omega)
  rw [show ((r2.toNat : Nat) : Int) = r2 by omega] at this
  exact this

end Go.Proofs.Ytalohoomhmjheaa.Pu
