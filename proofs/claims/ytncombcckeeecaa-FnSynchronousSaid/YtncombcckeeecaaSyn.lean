import Derived.Test.YtncombcckeeecaaJobsS
import Derived.Test.YtncombcckeeecaaPB
import Derived.Test.YtncombcckeeecaaFimplXSynchronous
import Derived.Test.YtncombcckeeecaaFspecXSynchronous
set_option linter.unusedSimpArgs false
set_option linter.unusedVariables false
namespace Go.Proofs.Ytncombcckeeecaa.Pu
open Go.RowKit Go.Proofs.Ytncombcckeeecaa.Q Go.Proofs.YtncombcckeeecaaW.PrintWords Go.Proofs.YtncombcckeeecaaW.PrintLast

/-- One tick of the synchronous pattern, and all ticks. -/
def synI (lim now : Int) : List Tk → Int → List Jb → List Jb
  | [], _, js => js
  | t :: r, i, js => synI lim now r (i + 1) (if now % t.f2 = 0 ∧ now + t.f1 ≤ lim ∧ js.length < 60 then js ++ [(⟨i, now, now + t.f1, t.f0⟩ : Jb)] else js)
def synN (l : List Tk) (lim : Int) : Nat → Int → List Jb → List Jb
  | 0, _, js => js
  | d + 1, now, js => synN l lim d (now + 1) (synI lim now l 0 js)
theorem synI_len (lim now : Int) : ∀ (r : List Tk) (i : Int) (js : List Jb), js.length ≤ 60 → (synI lim now r i js).length ≤ 60
  | [], _, js, h => h
  | t :: r, i, js, h => by
    rw [synI]
    refine synI_len lim now r (i + 1) _ ?_
    split
    · rw [List.length_append, List.length_singleton]; omega
    · exact h
theorem tmod_zero_iff {a b : Int} (h : 0 ≤ a) : Int.tmod a b = 0 ↔ a % b = 0 := by rw [Int.tmod_eq_emod_of_nonneg h]
theorem implSyn_loop {l : List Tk} (ho : Ok l) (lim : Int) (hlim : lim ≤ 120) : ∀ (d : Nat) (now : Nat) (js : List Jb), (now : Int) + d = lim → js.length ≤ 60 → Ex (fun k => impl_Synchronous.l0 k l lim js (now : Int)) (fun x => x = synN l lim d (now : Int) js) := by
  have hlen := ho.len
  intro d
  induction d with
  | zero =>
    intro now js hn hj
    refine Ex.step ?_
    simp only [impl_Synchronous.l0]
    exact Ex.neg (by omega) (Ex.val rfl)
  | succ d ih =>
    intro now js hn hj
    have inner : ∀ (e i : Nat) (js : List Jb), i + e = l.length → js.length ≤ 60 → Ex (fun k => impl_Synchronous.l1 k l lim js (now : Int) l (l.length : Int) (i : Int)) (fun x => x = synN l lim d ((now : Int) + 1) (synI lim (now : Int) (l.drop i) (i : Int) js)) := by
      intro e
      induction e with
      | zero =>
        intro i js hi hj
        rw [List.drop_of_length_le (by omega)]
        refine Ex.step ?_
        simp only [impl_Synchronous.l1]
        rw [jw1 (j := now) (by omega)]
        have := ih (now + 1) js (by omega) hj
        rw [show ((now + 1 : Nat) : Int) = (now : Int) + 1 by omega] at this ⊢
        exact Ex.neg (by omega) this
      | succ e ihe =>
        intro i js hi hj
        have hr := ho.rd i (by omega)
        rw [drop_rd l i (by omega), synI]
        unfold rdT at hr ⊢
        refine Ex.step ?_
        simp only [impl_Synchronous.l1]
        rw [jw1 (j := i) (by omega), w64 (n := (now : Int) + (rd_T34 l (i : Int)).f1) (by omega) (by omega), show ((i : Int) + 1) = ((i + 1 : Nat) : Int) by omega]
        refine Ex.pos (by omega) (Ex.pos (by omega) (Ex.pos (by omega) (Ex.neg (by omega) (Ex.ite (fun h1 => Ex.ite (fun h2 => Ex.ite (fun h3 => Ex.pos (by omega) ?_) (fun h3 => ?_)) (fun h2 => ?_)) (fun h1 => ?_)))))
        · have hc : (now : Int) % (rd_T34 l (i : Int)).f2 = 0 ∧ (now : Int) + (rd_T34 l (i : Int)).f1 ≤ lim ∧ js.length < 60 := ⟨(tmod_zero_iff (by omega)).mp h1, h2, by omega⟩
          rw [if_pos hc]
          exact ihe (i + 1) _ (by omega) (by rw [List.length_append, List.length_singleton]; omega)
        · rw [if_neg (fun h => h3 (by omega))]; exact ihe (i + 1) js (by omega) hj
        · rw [if_neg (fun h => h2 h.2.1)]; exact ihe (i + 1) js (by omega) hj
        · rw [if_neg (fun h => h1 ((tmod_zero_iff (by omega)).mpr h.1))]; exact ihe (i + 1) js (by omega) hj
    refine Ex.step ?_
    simp only [impl_Synchronous.l0]
    rw [synN]
    exact Ex.pos (by omega) (inner l.length 0 js (by omega) hj)
theorem specSyn_loop {l : List Tk} (ho : Ok l) (lim : Int) (hlim : lim ≤ 120) : ∀ (d : Nat) (now : Nat) (js : List Jb), (now : Int) + d = lim → js.length ≤ 60 → Ex (fun k => spec_Synchronous.l0 k l lim js (now : Int)) (fun x => x = synN l lim d (now : Int) js) := by
  have hlen := ho.len
  intro d
  induction d with
  | zero =>
    intro now js hn hj
    refine Ex.step ?_
    simp only [spec_Synchronous.l0]
    exact Ex.neg (by omega) (Ex.val rfl)
  | succ d ih =>
    intro now js hn hj
    have inner : ∀ (e i : Nat) (js : List Jb), i + e = l.length → js.length ≤ 60 → Ex (fun k => spec_Synchronous.l1 k l lim js (now : Int) (i : Int)) (fun x => x = synN l lim d ((now : Int) + 1) (synI lim (now : Int) (l.drop i) (i : Int) js)) := by
      intro e
      induction e with
      | zero =>
        intro i js hi hj
        rw [List.drop_of_length_le (by omega)]
        refine Ex.step ?_
        simp only [spec_Synchronous.l1]
        rw [jw1 (j := now) (by omega)]
        have := ih (now + 1) js (by omega) hj
        rw [show ((now + 1 : Nat) : Int) = (now : Int) + 1 by omega] at this ⊢
        exact Ex.neg (by omega) this
      | succ e ihe =>
        intro i js hi hj
        have hr := ho.rd i (by omega)
        rw [drop_rd l i (by omega), synI]
        unfold rdT at hr ⊢
        refine Ex.step ?_
        simp only [spec_Synchronous.l1]
        rw [jw1 (j := i) (by omega), w64 (n := (now : Int) + (rd_T34 l (i : Int)).f1) (by omega) (by omega), show ((i : Int) + 1) = ((i + 1 : Nat) : Int) by omega]
        refine Ex.pos (by omega) (Ex.pos (by omega) (Ex.neg (by omega) (Ex.ite (fun h1 => Ex.ite (fun h2 => Ex.ite (fun h3 => Ex.pos (by omega) ?_) (fun h3 => ?_)) (fun h2 => ?_)) (fun h1 => ?_))))
        · have hc : (now : Int) % (rd_T34 l (i : Int)).f2 = 0 ∧ (now : Int) + (rd_T34 l (i : Int)).f1 ≤ lim ∧ js.length < 60 := ⟨(tmod_zero_iff (by omega)).mp h1, h2, by omega⟩
          rw [if_pos hc]
          exact ihe (i + 1) _ (by omega) (by rw [List.length_append, List.length_singleton]; omega)
        · rw [if_neg (fun h => h3 (by omega))]; exact ihe (i + 1) js (by omega) hj
        · rw [if_neg (fun h => h2 h.2.1)]; exact ihe (i + 1) js (by omega) hj
        · rw [if_neg (fun h => h1 ((tmod_zero_iff (by omega)).mpr h.1))]; exact ihe (i + 1) js (by omega) hj
    refine Ex.step ?_
    simp only [spec_Synchronous.l0]
    rw [synN]
    exact Ex.pos (by omega) (inner l.length 0 js (by omega) hj)
def synO (l : List Tk) (lim : Int) : List Jb := if setOk l = true ∧ 0 ≤ lim ∧ lim ≤ 120 then synN l lim lim.toNat 0 [] else []
theorem implSyn_ex (l : List Tk) (lim : Int) : Ex (fun k => impl_Synchronous.f k l lim) (fun x => x = synO l lim) := by
  unfold impl_Synchronous.f synO
  simp only [implSet_eq, in_eq, Option.bind_some]
  refine Ex.ite (fun h => Ex.step ?_) (fun h => Ex.step ?_)
  · simp only [impl_Synchronous.j0]
    by_cases hl : 0 ≤ lim ∧ lim ≤ 120
    · rw [decide_eq_true hl, if_pos ⟨h, hl⟩]
      exact Ex.neg (by simp) (implSyn_loop ((setOk_iff l).mp h) lim hl.2 lim.toNat 0 [] (by omega) (by simp))
    · rw [decide_eq_false hl, if_neg (fun h' => hl h'.2)]
      exact Ex.pos (by simp) (Ex.val rfl)
  · simp only [impl_Synchronous.j0]
    rw [if_neg (fun h' => h h'.1)]
    exact Ex.pos (by simp) (Ex.val rfl)
theorem specSyn_ex (l : List Tk) (hl : l.length ≤ 1000) (lim : Int) : Ex (fun k => spec_Synchronous.f k l lim) (fun x => x = synO l lim) := by
  unfold spec_Synchronous.f synO
  simp only [l1In_eq, Option.bind_some]
  refine Ex.bind (Ex.at_ 1001 (fun k hk => specSet_eq l (by omega) k (by omega)) (P := fun x => x = setOk l) rfl) ?_
  intro x hx
  rw [hx]
  refine Ex.ite (fun h => Ex.step ?_) (fun h => Ex.step ?_)
  · simp only [spec_Synchronous.j0]
    by_cases hl : 0 ≤ lim ∧ lim ≤ 120
    · rw [decide_eq_true hl, if_pos ⟨h, hl⟩]
      exact Ex.neg (by simp) (specSyn_loop ((setOk_iff l).mp h) lim hl.2 lim.toNat 0 [] (by omega) (by simp))
    · rw [decide_eq_false hl, if_neg (fun h' => hl h'.2)]
      exact Ex.pos (by simp) (Ex.val rfl)
  · simp only [spec_Synchronous.j0]
    rw [if_neg (fun h' => h h'.1)]
    exact Ex.pos (by simp) (Ex.val rfl)
/-- The next release at or behind now. -/
def nr (P now : Int) : Int := (now + P - 1) / P * P
theorem nr_mul {P now : Int} (hP : 1 ≤ P) (h : now % P = 0) : nr P now = now ∧ nr P (now + 1) = now + P := by
  have e := Int.mul_ediv_add_emod now P
  rw [h, Int.add_zero, Int.mul_comm] at e
  unfold nr
  constructor
  · rw [show now + P - 1 = (P - 1) + now / P * P by omega, Int.add_mul_ediv_right _ _ (by omega), Int.ediv_eq_zero_of_lt (by omega) (by omega), Int.zero_add]; exact e
  · rw [show now + 1 + P - 1 = 0 + (now / P + 1) * P by rw [Int.add_mul]; omega, Int.add_mul_ediv_right _ _ (by omega), Int.zero_ediv, Int.zero_add, Int.add_mul]; omega
theorem nr_not {P now : Int} (hP : 1 ≤ P) (h : now % P ≠ 0) : nr P (now + 1) = nr P now := by
  have e := Int.mul_ediv_add_emod now P
  have r0 := Int.emod_nonneg now (show P ≠ 0 by omega)
  have r1 := Int.emod_lt_of_pos now (show 0 < P by omega)
  rw [Int.mul_comm] at e
  have q1 : (now + 1 + P - 1) / P = now / P + 1 := by
    rw [show now + 1 + P - 1 = now % P + (now / P + 1) * P by rw [Int.add_mul]; omega, Int.add_mul_ediv_right _ _ (by omega), Int.ediv_eq_zero_of_lt r0 r1]; omega
  have q2 : (now + P - 1) / P = now / P + 1 := by
    rw [show now + P - 1 = (now % P - 1) + (now / P + 1) * P by rw [Int.add_mul]; omega, Int.add_mul_ediv_right _ _ (by omega), Int.ediv_eq_zero_of_lt (a := now % P - 1) (by omega) (by omega)]; omega
  unfold nr
  rw [q1, q2]
theorem nr_ge {P now : Int} (hP : 1 ≤ P) : now ≤ nr P now := by
  unfold nr
  have e := Int.mul_ediv_add_emod (now + P - 1) P
  have r1 := Int.emod_lt_of_pos (now + P - 1) (show 0 < P by omega)
  rw [Int.mul_comm] at e
  omega
/-- What a task still asks for from now on. -/
def rR (lim now : Int) (t : Tk) : Int := rem lim (nr t.f2 now + t.f1) t.f2 t.f0
def sumC : List Jb → Int
  | [] => 0
  | x :: r => x.f3 + sumC r
theorem sumC_snoc (x : Jb) : ∀ l : List Jb, sumC (l ++ [x]) = sumC l + x.f3
  | [] => by simp [sumC]
  | y :: l => by rw [List.cons_append, sumC, sumC_snoc x l, sumC]; omega
structure Sy (l : List Tk) (lim : Int) (js : List Jb) (now i : Int) : Prop where
  leg : LegT l js
  lt : ∀ y ∈ js, y.f1 < now ∨ (y.f1 = now ∧ y.f0 < i)
  mul : ∀ y ∈ js, y.f1 % perT l y.f0 = 0
  fld : ∀ y ∈ js, y.f2 ≤ lim ∧ y.f3 = costT l y.f0
theorem Sy.step {l : List Tk} (ho : Ok l) {lim : Int} (hlim : lim ≤ 120) {now : Int} (hn0 : 0 ≤ now) {i : Nat} (hi : i < l.length) {js : List Jb} (h : Sy l lim js now (i : Int)) (hc : now % (rd_T34 l (i : Int)).f2 = 0 ∧ now + (rd_T34 l (i : Int)).f1 ≤ lim ∧ js.length < 60) : Sy l lim (js ++ [(⟨(i : Int), now, now + (rd_T34 l (i : Int)).f1, (rd_T34 l (i : Int)).f0⟩ : Jb)]) now ((i : Int) + 1) := by
  have hr := ho.rd i hi
  unfold rdT at hr
  refine ⟨h.leg.snoc hc.2.2 ⟨⟨by show (0 : Int) ≤ (i : Int); omega, by show (i : Int) < (l.length : Int); omega⟩, ⟨hn0, by show now ≤ 119; omega⟩, ⟨hr.1, Int.le_refl _⟩⟩ (fun y hy => h.lt y hy) (fun b hb => ?_) ?_, fun y hy => ?_, fun y hy => ?_, fun y hy => ?_⟩
  · obtain ⟨y, hy, e0, e1⟩ := lastR_mem hb
    have h1 := h.lt y hy
    have h2 := h.mul y hy
    have e0' : y.f0 = (i : Int) := e0
    rw [e0', e1] at h2
    have hlt : b < now := by rw [e1, e0'] at h1; omega
    show (rd_T34 l (i : Int)).f2 ≤ now - b
    have h3 : (now - b) % (rd_T34 l (i : Int)).f2 = 0 := by
      have h2' : b % (rd_T34 l (i : Int)).f2 = 0 := h2
      rw [Int.sub_emod, hc.1, h2']; simp
    exact Int.le_of_dvd (by omega) (Int.dvd_of_emod_eq_zero h3)
  · show now + (rd_T34 l (i : Int)).f1 = wrap64 (now + (rd_T34 l (i : Int)).f1)
    rw [w64 (by omega) (by omega)]
  all_goals
    rw [List.mem_append, List.mem_singleton] at hy
    rcases hy with hy | rfl
  · have := h.lt y hy; omega
  · right; exact ⟨rfl, by show (i : Int) < (i : Int) + 1; omega⟩
  · exact h.mul y hy
  · exact hc.1
  · exact h.fld y hy
  · exact ⟨hc.2.1, rfl⟩
def SumP (l : List Tk) (lim : Int) (js : List Jb) (X : Int) : Prop := js.length = 60 ∨ sumC js + X = dem l lim
theorem rR_step {lim now : Int} {t : Tk} (ht : TkOk t) (js : List Jb) (hj : js.length ≤ 60) (i : Int) : js.length = 60 ∨ (if now % t.f2 = 0 ∧ now + t.f1 ≤ lim ∧ js.length < 60 then t.f0 else 0) + rR lim (now + 1) t = rR lim now t := by
  unfold TkOk at ht
  by_cases h60 : js.length = 60
  · exact .inl h60
  right
  unfold rR
  by_cases h1 : now % t.f2 = 0
  · have hm := nr_mul (show 1 ≤ t.f2 by omega) h1
    rw [hm.1, hm.2]
    by_cases h2 : now + t.f1 ≤ lim
    · rw [if_pos ⟨h1, h2, by omega⟩, rem_step (by omega) h2, show now + t.f2 + t.f1 = now + t.f1 + t.f2 by omega]
    · rw [if_neg (fun h => h2 h.2.1), rem_end (by omega), rem_end (by omega)]; rfl
  · rw [if_neg (fun h => h1 h.1), nr_not (by omega) h1, Int.zero_add]
theorem synI_ok {l : List Tk} (ho : Ok l) {lim : Int} (hlim : lim ≤ 120) {now : Int} (hn0 : 0 ≤ now) : ∀ (e i : Nat) (js : List Jb), i + e = l.length → Sy l lim js now (i : Int) → SumP l lim js (sumT (rR lim now) (l.drop i) + sumT (rR lim (now + 1)) (l.take i)) → Sy l lim (synI lim now (l.drop i) (i : Int) js) (now + 1) 0 ∧ SumP l lim (synI lim now (l.drop i) (i : Int) js) (sumT (rR lim (now + 1)) l) := by
  intro e
  induction e with
  | zero =>
    intro i js hi hs hp
    rw [List.drop_of_length_le (by omega)] at hp ⊢
    rw [List.take_of_length_le (by omega)] at hp
    refine ⟨⟨hs.leg, fun y hy => ?_, hs.mul, hs.fld⟩, ?_⟩
    · obtain ⟨j, hj, rfl⟩ := List.getElem_of_mem hy
      have h1 := hs.lt _ hy
      have h2 := (hs.leg.a j hj).1.2
      rw [rdJ_get js j hj] at h2
      omega
    · unfold SumP at hp ⊢
      rw [synI]
      simp only [sumT, Int.zero_add] at hp
      exact hp
  | succ e ih =>
    intro i js hi hs hp
    have hr := ho.rd i (by omega)
    have h60 := hs.leg.len
    have etake : l.take (i + 1) = l.take i ++ [rdT l (i : Int)] := by
      rw [List.take_succ_eq_append_getElem (by omega), rdT_get l i (by omega)]
    rw [drop_rd l i (by omega)] at hp ⊢
    rw [synI, show (i : Int) + 1 = ((i + 1 : Nat) : Int) by omega]
    have hst := rR_step (lim := lim) (now := now) (t := rdT l (i : Int)) (by unfold TkOk; omega) js h60 (i : Int)
    have hsum : ∀ js' : List Jb, js'.length = 60 ∨ (sumC js' = sumC js + (if now % (rdT l (i : Int)).f2 = 0 ∧ now + (rdT l (i : Int)).f1 ≤ lim ∧ js.length < 60 then (rdT l (i : Int)).f0 else 0) ∧ js.length ≠ 60) → SumP l lim js' (sumT (rR lim now) (l.drop (i + 1)) + sumT (rR lim (now + 1)) (l.take (i + 1))) := fun js' h => by
      rcases h with h | h
      · exact .inl h
      · right
        rcases hp with hp | hp
        · exact absurd hp h.2
        · rcases hst with hst | hst
          · exact absurd hst h.2
          · rw [etake, sumT_append]
            simp only [sumT] at hp ⊢
            rw [h.1]; omega
    by_cases hc : now % (rdT l (i : Int)).f2 = 0 ∧ now + (rdT l (i : Int)).f1 ≤ lim ∧ js.length < 60
    · rw [if_pos hc]
      refine ih (i + 1) _ (by omega) ?_ (hsum _ (.inr ⟨?_, by omega⟩))
      · have := hs.step ho hlim hn0 (by omega) hc
        rw [show ((i + 1 : Nat) : Int) = (i : Int) + 1 by omega]
        exact this
      · rw [if_pos hc, sumC_snoc]
    · rw [if_neg hc]
      refine ih (i + 1) _ (by omega) ⟨hs.leg, fun y hy => by have := hs.lt y hy; omega, hs.mul, hs.fld⟩ (hsum _ ?_)
      by_cases h : js.length = 60
      · exact .inl h
      · exact .inr ⟨by rw [if_neg hc]; omega, h⟩
theorem synN_ok {l : List Tk} (ho : Ok l) {lim : Int} (hlim : lim ≤ 120) : ∀ (d : Nat) (now : Int) (js : List Jb), now + d = lim → 0 ≤ now → Sy l lim js now 0 → SumP l lim js (sumT (rR lim now) l) → Sy l lim (synN l lim d now js) lim 0 ∧ SumP l lim (synN l lim d now js) (sumT (rR lim lim) l)
  | 0, now, js, hn, h0, hs, hp => by
    have : now = lim := by omega
    subst this
    exact ⟨hs, hp⟩
  | d + 1, now, js, hn, h0, hs, hp => by
    rw [synN]
    have hx := synI_ok ho hlim h0 l.length 0 js (by omega) hs (by rw [List.drop_zero, List.take_zero]; simpa [sumT] using hp)
    rw [List.drop_zero] at hx
    exact synN_ok ho hlim d (now + 1) _ (by omega) (by omega) hx.1 hx.2
theorem sumT_zero {g : Tk → Int} : ∀ l : List Tk, (∀ t ∈ l, g t = 0) → sumT g l = 0
  | [], _ => rfl
  | t :: r, h => by rw [sumT, h t List.mem_cons_self, sumT_zero r (fun x hx => h x (List.mem_cons_of_mem _ hx))]; rfl
theorem syn_ok {l : List Tk} (ho : Ok l) {lim : Int} (h0 : 0 ≤ lim) (hlim : lim ≤ 120) : Sy l lim (synO l lim) lim 0 ∧ ((synO l lim).length = 60 ∨ sumC (synO l lim) = dem l lim) := by
  unfold synO
  rw [if_pos ⟨(setOk_iff l).mpr ho, h0, hlim⟩]
  have h := synN_ok ho hlim lim.toNat 0 [] (by omega) (by omega) ⟨Leg.nil, fun y hy => by simp at hy, fun y hy => by simp at hy, fun y hy => by simp at hy⟩ (.inr (by
    rw [sumC, Int.zero_add]
    unfold dem
    refine sumT_congr l (fun t ht => ?_)
    have hv := ho.all t ht
    unfold rR
    rw [(nr_mul (now := 0) (show 1 ≤ t.f2 by omega) (by simp)).1, Int.zero_add]
    exact rem_dterm lim t))
  refine ⟨h.1, h.2.imp id (fun h2 => ?_)⟩
  rw [sumT_zero l (fun t ht => by
    have hv := ho.all t ht
    unfold rR
    exact rem_end (by have := nr_ge (now := lim) (show 1 ≤ t.f2 by omega); omega)), Int.add_zero] at h2
  exact h2

end Go.Proofs.Ytncombcckeeecaa.Pu
