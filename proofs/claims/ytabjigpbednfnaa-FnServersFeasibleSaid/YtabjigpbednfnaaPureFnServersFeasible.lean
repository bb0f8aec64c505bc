/- The statement FnServersFeasible of the given program holds for every input: for every code of at most 2^20 bytes (and for longer ones at once) the law returns true. No further condition. -/
import Derived.Test.YtabjigpbednfnaaSvF
import Derived.Test.YtabjigpbednfnaaUtil
import Derived.Test.YtabjigpbednfnaaImplEdf
import Derived.Test.YtabjigpbednfnaaFlawsXFnServersFeasible
set_option linter.unusedSimpArgs false
set_option linter.unusedVariables false
namespace Go.Proofs.Ytabjigpbednfnaa.Pure
open Go.RowKit Go.Proofs.Ytabjigpbednfnaa.Q Go.Proofs.Ytabjigpbednfnaa.Pu Go.Proofs.YtabjigpbednfnaaW.PrintWords Go.Proofs.YtabjigpbednfnaaW.PrintLast

theorem implEdf_exS (l : List Tk) : Ex (fun k => impl_EdfFeasible.f k l) (fun x => x = edf l) := Ex.at_ 300000 (fun k hk => implEdf_eq l k hk) rfl
theorem servOk_ok {s : List Sv} (h : servOk s = true) {a : Sv} (ha : a ∈ s) : 1 ≤ a.f0 ∧ a.f0 ≤ 12 ∧ 1 ≤ a.f1 ∧ a.f1 ≤ 12 := sv_bd (((servOk_iff s).mp h).2 a ha)
theorem sDN {s : List Sv} (h : servOk s = true) : 1 ≤ sD s ∧ sD s ≤ 144 ∧ 0 ≤ sN s ∧ sN s ≤ 288 := by
  have hv := (servOk_iff s).mp h
  match s, h, hv with
  | [], _, _ => simp [sD, sN]
  | [a], h, _ =>
    have ha := servOk_ok h (a := a) (by simp)
    simp only [sD, sN]; omega
  | [a, b], h, _ =>
    have ha := servOk_ok h (a := a) (by simp)
    have hb := servOk_ok h (a := b) (by simp)
    have m1 := mul_bdS (show 0 ≤ a.f1 by omega) ha.2.2.2 (show 0 ≤ b.f1 by omega) hb.2.2.2
    have m0 : 1 ≤ a.f1 * b.f1 := Int.mul_pos (show 0 < a.f1 by omega) (show 0 < b.f1 by omega)
    have m2 := mul_bdS (show 0 ≤ b.f1 by omega) hb.2.2.2 (show 0 ≤ a.f0 by omega) ha.2.1
    have m3 := mul_bdS (show 0 ≤ a.f1 by omega) ha.2.2.2 (show 0 ≤ b.f0 by omega) hb.2.1
    simp only [sD, sN]; omega
  | a :: b :: c :: r, _, hv => exact absurd hv.1 (by simp)
/-- One server less. -/
theorem sf_less {l : List Tk} {s : List Sv} {P : Int} {s' : List Sv} (hs' : servOk s' = true) (hP : 1 ≤ P) (hD : sD s = P * sD s') {B : Int} (hB : 0 ≤ B) (hN : sN s = P * sN s' + sD s' * B) (h : sfO l s = true) : sfO l s' = true := by
  rw [sfO_iff] at h ⊢
  obtain ⟨h1, h2, h3⟩ := h
  refine ⟨h1, hs', fun t t1 t2 => ?_⟩
  have := h3 t t1 t2
  have hd := sDN hs'
  rw [hD, hN] at this
  have e1 : dem l t * (P * sD s') + t * (P * sN s' + sD s' * B) = P * (dem l t * sD s' + t * sN s') + t * (sD s' * B) := by
    rw [Int.mul_add, Int.mul_add, Int.mul_left_comm, Int.mul_left_comm t P]; omega
  have e2 : t * (P * sD s') = P * (t * sD s') := Int.mul_left_comm ..
  rw [e1, e2] at this
  have p : 0 ≤ t * (sD s' * B) := Int.mul_nonneg (by omega) (Int.mul_nonneg (by omega) hB)
  exact Int.le_of_mul_le_mul_left (by omega) (show 0 < P by omega)
theorem sf_edf {l : List Tk} {s : List Sv} (h : sfO l s = true) : edf l = true := by
  rw [sfO_iff] at h
  obtain ⟨h1, h2, h3⟩ := h
  rw [edf_iff]
  refine ⟨h1, fun t t1 t2 => ?_⟩
  have := h3 t t1 t2
  have hd := sDN h2
  have p : 0 ≤ t * sN s := Int.mul_nonneg (by omega) (by omega)
  exact Int.le_of_mul_le_mul_right (show dem l t * sD s ≤ t * sD s by omega) (by omega)
theorem sf_nil (l : List Tk) : sfO l [] = edf l := by
  rw [Bool.eq_iff_iff, sfO_iff, edf_iff]
  simp only [sD, sN]
  constructor
  · rintro ⟨a, _, c⟩; exact ⟨a, fun t h1 h2 => by have := c t h1 h2; omega⟩
  · rintro ⟨a, c⟩; exact ⟨a, rfl, fun t h1 h2 => by have := c t h1 h2; omega⟩
/-- The total of utilization and bandwidth. -/
theorem sf_util {l : List Tk} {s : List Sv} (h : sfO l s = true) : (utO l).1 * sD s + (utO l).2 * sN s ≤ (utO l).2 * sD s := by
  rw [sfO_iff] at h
  obtain ⟨hok, h2, h3⟩ := h
  have hu := (ut_spec hok).cross
  have hh := hyp_bd hok
  have := h3 (hyp l) (by omega) (by omega)
  rw [dem_hyper hok] at this
  have hpos : 0 ≤ (utO l).2 := by
    have : utO l = redI (ld l) (hyp l) := by unfold utO; rw [if_pos ((setOk_iff l).mpr hok)]
    rw [this]
    have := gcdI_spec (ld l) (hyp l) (ld_bd hok).1 (by omega)
    unfold redI; simp only []; omega
  have key := Int.mul_le_mul_of_nonneg_left this hpos
  refine Int.le_of_mul_le_mul_left (a := hyp l) ?_ (by omega)
  have e1 : hyp l * ((utO l).1 * sD s + (utO l).2 * sN s) = (utO l).2 * (ld l * sD s + hyp l * sN s) := by
    rw [Int.mul_add, Int.mul_add, ← Int.mul_assoc, Int.mul_comm (hyp l) (utO l).1, hu, Int.mul_comm (ld l) (utO l).2, Int.mul_assoc, Int.mul_left_comm (hyp l)]
  have e2 : hyp l * ((utO l).2 * sD s) = (utO l).2 * (hyp l * sD s) := Int.mul_left_comm ..
  rw [e1, e2]; exact key
theorem last_ex {l : List Tk} {s : List Sv} (h : sfO l s = true) (x y : Int) (hxy : x ≤ y) : Ex (fun k => (impl_EdfFeasible.f k l).bind fun t => if t = true then some (decide (x ≤ y)) else some false) (fun x => x = true) := by
  refine Ex.bind (implEdf_exS l) ?_
  rintro _ rfl
  exact Ex.pos (sf_edf h) (Ex.val (decide_eq_true hxy))
theorem FnServersFeasible : laws_FnServersFeasible.Pure := by
  intro l0 _ _ h8
  refine Ex.get ?_
  unfold laws_FnServersFeasible.f spec_DrawServersFeasible.f
  refine Ex.ite (fun _ => Ex.val rfl) (fun _ => ?_)
  obtain ⟨b, hb, ho⟩ := open_ev l0 h8
  simp only [ho, Option.bind_some]
  refine Ex.bind (P := fun (x : List Tk × List Sv) => x.1.length ≤ 12 ∧ x.2.length ≤ 3) (Ex.bind (P := fun (x : List Tk × Int) => x.1.length ≤ 12 ∧ 0 ≤ x.2 ∧ x.2 ≤ 400) ?_ ?_) ?_
  · obtain ⟨l, q, hl, h1, h2, hs⟩ := set_ev b hb 0 16 (by omega) (by omega)
    exact Ex.at_ 40 hs ⟨hl.len, h1, by omega⟩
  · rintro ⟨l, q⟩ ⟨hl, h1, h2⟩
    simp only [] at hl h1 h2 ⊢
    refine Ex.bind (servers_ex hb (by omega) (by omega)) ?_
    rintro ⟨s, q2⟩ ⟨g1, g2, g3⟩
    exact Ex.val ⟨hl, g1⟩
  · rintro ⟨l, s⟩ ⟨hl, hs⟩
    simp only [] at hl hs ⊢
    refine Ex.bind (implSf_ex l s) ?_
    rintro _ rfl
    refine Ex.bind (specSf_ex l (by omega) s (by omega)) ?_
    rintro _ rfl
    refine Ex.neg (by simp) (Ex.bind (implSf_ex l []) ?_)
    rintro _ rfl
    refine Ex.bind (implEdf_exS l) ?_
    rintro _ rfl
    rw [sf_nil, show (edf l != edf l) = false from by simp]
    refine Ex.step ?_
    simp only [laws_FnServersFeasible.j0, alive_eq, Option.bind_some]
    refine Ex.neg (by simp) (Ex.ite (fun h => ?_) (fun _ => Ex.val rfl))
    refine Ex.bind (P := fun x => x = utO l) (Ex.at_ 300000 (fun k hk => implUtil_eq l k hk) rfl) ?_
    rintro _ rfl
    have hsf := (sfO_iff l s).mp h
    have hu := sf_util h
    have hok := hsf.1
    have hv := (servOk_iff s).mp hsf.2.1
    have hub : 0 ≤ (utO l).1 ∧ (utO l).1 ≤ 9953280 ∧ 1 ≤ (utO l).2 ∧ (utO l).2 ≤ 248832 := by
      have e : utO l = redI (ld l) (hyp l) := by unfold utO; rw [if_pos ((setOk_iff l).mpr hok)]
      rw [e]
      have hh := hyp_bd hok
      have hld := ld_bd hok
      have := gcdI_spec (ld l) (hyp l) hld.1 (by omega)
      unfold redI; simp only []; omega
    generalize utO l = U at hu hub ⊢
    obtain ⟨u, v⟩ := U
    simp only [] at hu hub ⊢
    match s, h, hsf, hv, hu with
    | [], h, hsf, _, hu =>
      simp only [sD, sN] at hu
      refine Ex.step ?_
      simp only [laws_FnServersFeasible.l0, Option.bind_some]
      exact Ex.neg (by simp) (last_ex h u v (by omega))
    | [a], h, hsf, hv, hu =>
      have ha := servOk_ok hsf.2.1 (a := a) (by simp)
      have w1 : wrap64 ((0 : Int) + 1) = 1 := by rw [w64 (by omega) (by omega)]; rfl
      have m1 := mul_bdS hub.1 hub.2.1 (show 0 ≤ a.f1 by omega) ha.2.2.2
      have m2 := mul_bdS (show 0 ≤ v by omega) hub.2.2.2 (show 0 ≤ a.f0 by omega) ha.2.1
      have m3 := mul_bdS (show 0 ≤ v by omega) hub.2.2.2 (show 0 ≤ a.f1 by omega) ha.2.2.2
      simp only [sD, sN] at hu
      have less : sfO l [] = true := sf_less (s := [a]) (P := a.f1) rfl ha.2.2.1 (by simp [sD]) (B := a.f0) (by omega) (by simp [sD, sN]) h
      refine Ex.step ?_
      simp only [laws_FnServersFeasible.l0, Option.bind_some, w1]
      refine Ex.pos (by simp) (Ex.pos (by omega) (Ex.pos (by simp) (Ex.pos (by simp) (Ex.pos (by omega) (Ex.pos (by simp) (Ex.pos (by simp) ?_))))))
      refine Ex.bind (implSf_ex l []) ?_
      rintro _ rfl
      refine Ex.pos less (Ex.step ?_)
      simp only [laws_FnServersFeasible.l0, Option.bind_some]
      rw [show rd_T49 [a] 0 = a from rfl, w64 (n := u * a.f1) (by omega) (by omega), w64 (n := v * a.f0) (by omega) (by omega), w64 (n := u * a.f1 + v * a.f0) (by omega) (by omega), w64 (n := v * a.f1) (by omega) (by omega)]
      exact Ex.neg (by simp) (last_ex h _ _ (by omega))
    | [a, c], h, hsf, hv, hu =>
      have ha := servOk_ok hsf.2.1 (a := a) (by simp)
      have hc := servOk_ok hsf.2.1 (a := c) (by simp)
      have w1 : wrap64 ((0 : Int) + 1) = 1 := by rw [w64 (by omega) (by omega)]; rfl
      have w2 : wrap64 ((1 : Int) + 1) = 2 := by rw [w64 (by omega) (by omega)]; rfl
      have m1 := mul_bdS hub.1 hub.2.1 (show 0 ≤ a.f1 by omega) ha.2.2.2
      have m2 := mul_bdS (show 0 ≤ v by omega) hub.2.2.2 (show 0 ≤ a.f0 by omega) ha.2.1
      have m3 := mul_bdS (show 0 ≤ v by omega) hub.2.2.2 (show 0 ≤ a.f1 by omega) ha.2.2.2
      have n1 := mul_bdS (show 0 ≤ u * a.f1 + v * a.f0 by omega) (show u * a.f1 + v * a.f0 ≤ 1000000000 by omega) (show 0 ≤ c.f1 by omega) hc.2.2.2
      have n2 := mul_bdS m3.1 m3.2 (show 0 ≤ c.f0 by omega) hc.2.1
      have n3 := mul_bdS m3.1 m3.2 (show 0 ≤ c.f1 by omega) hc.2.2.2
      have hfin : (u * a.f1 + v * a.f0) * c.f1 + v * a.f1 * c.f0 ≤ v * a.f1 * c.f1 := by
        simp only [sD, sN] at hu
        have e1 : (u * a.f1 + v * a.f0) * c.f1 + v * a.f1 * c.f0 = u * (a.f1 * c.f1) + v * (c.f1 * a.f0 + a.f1 * c.f0) := by
          rw [Int.add_mul, Int.mul_add, Int.mul_assoc, Int.mul_assoc, Int.mul_assoc, Int.mul_comm c.f1 a.f0]; omega
        rw [e1, Int.mul_assoc]; exact hu
      have okc : servOk [c] = true := (servOk_iff _).mpr ⟨by simp, fun x hx => hv.2 x (by simp at hx ⊢; exact .inr hx)⟩
      have oka : servOk [a] = true := (servOk_iff _).mpr ⟨by simp, fun x hx => hv.2 x (by simp at hx ⊢; exact .inl hx)⟩
      have lessA : sfO l [c] = true := sf_less (s := [a, c]) (P := a.f1) okc ha.2.2.1 (by simp [sD]) (B := a.f0) (by omega) (by simp only [sD, sN]; omega) h
      have lessC : sfO l [a] = true := sf_less (s := [a, c]) (P := c.f1) oka hc.2.2.1 (by simp only [sD]; exact Int.mul_comm ..) (B := c.f0) (by omega) (by simp only [sD, sN]) h
      refine Ex.step ?_
      simp only [laws_FnServersFeasible.l0, Option.bind_some, w1]
      refine Ex.pos (by simp) (Ex.pos (by omega) (Ex.pos (by simp) (Ex.pos (by simp) (Ex.pos (by omega) (Ex.pos (by simp) (Ex.pos (by simp) ?_))))))
      refine Ex.bind (implSf_ex l [c]) ?_
      rintro _ rfl
      refine Ex.pos lessA (Ex.step ?_)
      simp only [laws_FnServersFeasible.l0, Option.bind_some, w2]
      refine Ex.pos (by simp) (Ex.pos (by omega) (Ex.pos (by simp) (Ex.pos (by simp) (Ex.pos (by omega) (Ex.pos (by simp) (Ex.pos (by simp) ?_))))))
      refine Ex.bind (implSf_ex l [a]) ?_
      rintro _ rfl
      refine Ex.pos lessC (Ex.step ?_)
      simp only [laws_FnServersFeasible.l0, Option.bind_some]
      rw [show rd_T49 [a, c] 0 = a from rfl, show rd_T49 [a, c] 1 = c from rfl, w64 (n := u * a.f1) (by omega) (by omega), w64 (n := v * a.f0) (by omega) (by omega), w64 (n := u * a.f1 + v * a.f0) (by omega) (by omega), w64 (n := v * a.f1) (by omega) (by omega), w64 (n := (u * a.f1 + v * a.f0) * c.f1) (by omega) (by omega), w64 (n := v * a.f1 * c.f0) (by omega) (by omega), w64 (n := (u * a.f1 + v * a.f0) * c.f1 + v * a.f1 * c.f0) (by omega) (by omega), w64 (n := v * a.f1 * c.f1) (by omega) (by omega)]
      exact Ex.neg (by simp) (last_ex h _ _ hfin)
    | a :: c :: d :: r, _, _, hv, _ => exact absurd hv.1 (by simp)

end Go.Proofs.Ytabjigpbednfnaa.Pure
