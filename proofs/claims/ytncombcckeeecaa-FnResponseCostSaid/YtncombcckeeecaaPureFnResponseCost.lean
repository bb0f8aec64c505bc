/- The statement FnResponseCost of the given program holds for every input: for every code of at most 2^20 bytes (and for longer ones at once) the law returns true. No further condition. -/
import Derived.Test.YtncombcckeeecaaRespS
import Derived.Test.YtncombcckeeecaaFlawsXFnResponseCost
set_option linter.unusedSimpArgs false
set_option linter.unusedVariables false
namespace Go.Proofs.Ytncombcckeeecaa.Pure
open Go.RowKit Go.Proofs.Ytncombcckeeecaa.Q Go.Proofs.Ytncombcckeeecaa.Pu Go.Proofs.YtncombcckeeecaaW.PrintWords Go.Proofs.YtncombcckeeecaaW.PrintLast

theorem law_loop (a b : List Int) (ha : a.length ≤ 1000) (hb : b.length = a.length) (hle : ∀ i : Nat, i < a.length → 0 ≤ rd a (i : Int) → 0 ≤ rd b (i : Int) ∧ rd b (i : Int) ≤ rd a (i : Int)) : ∀ (d j : Nat), j + d = a.length → Ex (fun k => laws_FnResponseCost.l0 k a b (j : Int)) (fun x => x = true) := by
  intro d
  induction d with
  | zero =>
    intro j hj
    refine Ex.step ?_
    simp only [laws_FnResponseCost.l0]
    exact Ex.neg (by omega) (Ex.val rfl)
  | succ d ih =>
    intro j hj
    have hj' := hle j (by omega)
    refine Ex.step ?_
    simp only [laws_FnResponseCost.l0]
    rw [w64 (n := (j : Int) + 1) (by omega) (by omega)]
    refine Ex.pos (by omega) (Ex.pos (by omega) (Ex.ite (fun h => ?_) (fun h => ih (j + 1) (by omega))))
    have := hj' h
    exact Ex.pos (by omega) (Ex.neg (by omega) (Ex.neg (by omega) (ih (j + 1) (by omega))))
theorem rdT_set (l : List Tk) (a b : Int) (v : Tk) (h0 : 0 ≤ a) (h1 : a < l.length) (hb : 0 ≤ b) : rdT (l.set a.toNat v) b = if b = a then v else rdT l b := by
  simp only [rdT, rd_T34]
  rw [List.getD_eq_getElem?_getD, List.getElem?_set]
  by_cases e : b = a
  · rw [if_pos (by rw [e]), if_pos e, if_pos (by omega), Option.getD_some]
  · rw [if_neg (by omega), if_neg e, List.getD_eq_getElem?_getD]
theorem sumT_map2 {g : Tk → Int} {f h : Int → Tk} : ∀ (o : List Int), (∀ x ∈ o, g (f x) ≤ g (h x)) → sumT g (o.map f) ≤ sumT g (o.map h)
  | [], _ => Int.le_refl _
  | x :: o, hh => by
    have := hh x (List.mem_cons_self ..)
    have ih := sumT_map2 (g := g) (f := f) (h := h) o (fun y hy => hh y (List.mem_cons_of_mem _ hy))
    simp only [List.map_cons, sumT]
    omega
theorem less_all {l : List Tk} {o a b : List Int} (hp : OrdP l o) {v : Tk} (hpos : 0 < o.length) (hv : 1 ≤ v.f0 ∧ v.f0 ≤ (rdT l (rd o 0)).f0 ∧ v.f1 = (rdT l (rd o 0)).f1 ∧ v.f2 = (rdT l (rd o 0)).f2) (ha : RT l o a) (hb : RO (l.set (rd o 0).toNat v) o b) : b.length = a.length ∧ ∀ i : Nat, i < a.length → 0 ≤ rd a (i : Int) → 0 ≤ rd b (i : Int) ∧ rd b (i : Int) ≤ rd a (i : Int) := by
  have h0 := hp.idx.at hpos
  have hx0 := hp.ok.at' h0.1 h0.2
  rw [show ((0 : Nat) : Int) = 0 from rfl] at h0 hx0
  have hvk : TkOk v := by unfold TkOk at hx0 ⊢; omega
  have hrd := fun i hi => rdT_set l (rd o 0) i v h0.1 h0.2 hi
  have hp' : OrdP (l.set (rd o 0).toNat v) o := by
    refine ⟨hp.ok.set hvk, by rw [List.length_set]; exact hp.len, fun x hx => by rw [List.length_set]; exact hp.rng x hx, hp.nd⟩
  obtain ⟨a1, a2⟩ := ha
  obtain ⟨b1, b2⟩ := hb.1 hp'
  rw [List.length_set] at b1
  refine ⟨by omega, fun i hi hn => ?_⟩
  obtain ⟨j, hj, e⟩ := mem_rdO.mp (hp.has (x := (i : Int)) (by omega) (by omega))
  have hat := hp.idx.at hj
  have hxj := hp.ok.at' hat.1 hat.2
  have ra := a2 j hj
  have rb := b2 j hj
  rw [e] at ra rb hxj
  have hsum : ∀ r, 1 ≤ r → itf ((o.take j).map (rdT (l.set (rd o 0).toNat v))) r ≤ itf ((o.take j).map (rdT l)) r := fun r hr => by
    unfold itf
    refine sumT_map2 (o.take j) (fun x hx => ?_)
    have hxr := hp.rng x (List.mem_of_mem_take hx)
    rw [hrd x hxr.1]
    by_cases e2 : x = rd o 0
    · rw [if_pos e2, e2]
      unfold iterm
      rw [hv.2.2.2]
      unfold TkOk at hx0
      exact Int.mul_le_mul_of_nonneg_left hv.2.1 (cdv_bd (by omega) (by omega)).1
    · rw [if_neg e2]; exact Int.le_refl _
  have hC : 1 ≤ (rdT l (i : Int)).f0 := hxj.1
  rw [hrd (i : Int) (by omega)] at rb
  by_cases e2 : (i : Int) = rd o 0
  · rw [if_pos e2] at rb
    rw [hv.2.2.1, show (rdT l (rd o 0)).f1 = (rdT l (i : Int)).f1 from by rw [e2]] at rb
    refine ra.less hv.1 (by rw [e2]; exact hv.2.1) ?_ (fun r hr => hsum r (by omega)) hn
    exact rb
  · rw [if_neg e2] at rb
    exact ra.less hC (Int.le_refl _) rb (fun r hr => hsum r (by omega)) hn
theorem withCost_ex (l : List Tk) (hl : l.length ≤ 1000) (i c : Int) (h0 : 0 ≤ i) (h1 : i < l.length) : laws_withCost.f l i c = some (l.set i.toNat ⟨c, (rdT l i).f1, (rdT l i).f2⟩) := by
  unfold laws_withCost.f
  simp only [Option.bind_some, List.nil_append, List.length_nil, Nat.zero_add]
  rw [if_pos (by omega), if_pos h0, if_pos h1]
theorem FnResponseCost : laws_FnResponseCost.Pure := by
  intro l0 h1 h2 h8
  refine Ex.get ?_
  unfold laws_FnResponseCost.f
  refine Ex.ite (fun _ => Ex.val rfl) (fun _ => Ex.bind (drawR_ex l0 h8) ?_)
  rintro ⟨l, o⟩ ⟨hl, ho⟩
  simp only [] at hl ho ⊢
  refine Ex.bind (implRT_ex l (by omega) o (by omega)) ?_
  intro a ha
  refine Ex.bind (specRT_ex l (by omega) o (by omega)) ?_
  intro a' ha'
  rw [← ha.uniq ha']
  have hal := ha.len (by omega)
  refine Ex.bind (sameIntsO_ex a hal) ?_
  intro s hs
  refine Ex.pos hs (Ex.ite (fun h => ?_) (fun h => ?_))
  · rw [alive_eq]; exact Ex.val rfl
  · have hp : OrdP l o := Classical.byContradiction fun hp => h (by rw [ha.2 hp]; rfl)
    have hlen := (ha.1 hp).1
    have hpos : 0 < o.length := by have := hp.len; omega
    have hat := hp.idx.at hpos
    rw [show ((0 : Nat) : Int) = 0 from rfl] at hat
    have hx := hp.ok.at' hat.1 hat.2
    have hC : wrap64 ((rd_T34 l (rd o 0)).f0 - 1) = (rdT l (rd o 0)).f0 - 1 := by
      show wrap64 ((rdT l (rd o 0)).f0 - 1) = _
      unfold TkOk at hx
      exact w64 (by omega) (by omega)
    rw [hC, withCost_ex l (by omega) _ _ hat.1 hat.2]
    have hm := mx_bd 1 ((rdT l (rd o 0)).f0 - 1)
    simp only [Option.bind_some]
    refine Ex.pos (by omega) (Ex.pos hat.1 (Ex.pos hat.2 (Ex.bind (implRT_ex _ (by rw [List.length_set]; omega) o (by omega)) ?_)))
    intro b hb
    have hc1 := hx.1
    obtain ⟨g1, g2⟩ := less_all (v := ⟨mx 1 ((rdT l (rd o 0)).f0 - 1), (rdT l (rd o 0)).f1, (rdT l (rd o 0)).f2⟩) hp hpos ⟨by show 1 ≤ mx 1 _; omega, by show mx 1 _ ≤ _; omega, rfl, rfl⟩ (ha.1 hp) hb
    exact law_loop a b hal g1 g2 a.length 0 (by omega)

end Go.Proofs.Ytncombcckeeecaa.Pure
