import Derived.Test.YtncombcckeeecaaOrdV
import Derived.Test.YtncombcckeeecaaFimplXResponseTimes
import Derived.Test.YtncombcckeeecaaFspecXl4Response
set_option linter.unusedSimpArgs false
set_option linter.unusedVariables false
namespace Go.Proofs.Ytncombcckeeecaa.Pu
open Go.RowKit Go.Proofs.Ytncombcckeeecaa.Q Go.Proofs.YtncombcckeeecaaW.PrintWords Go.Proofs.YtncombcckeeecaaW.PrintLast

theorem rd_repO (n : Nat) (i : Int) : rd (List.replicate n 0) i = 0 := by
  unfold rd
  rw [List.getD_eq_getElem?_getD, List.getElem?_replicate]
  split <;> rfl
theorem rd_setO (l : List Int) (a b v : Int) (h0 : 0 ≤ a) (h1 : a < l.length) (hb : 0 ≤ b) : rd (l.set a.toNat v) b = if b = a then v else rd l b := by
  unfold rd
  rw [List.getD_eq_getElem?_getD, List.getElem?_set]
  by_cases e : b = a
  · rw [if_pos (by rw [e]), if_pos e, if_pos (by omega), Option.getD_some]
  · rw [if_neg (by omega), if_neg e, List.getD_eq_getElem?_getD]
theorem itf_snoc (H : List Tk) (x : Tk) (r : Int) : itf (H ++ [x]) r = itf H r + iterm r x := by
  unfold itf; rw [sumT_append]; simp only [sumT]; omega
theorem itf_le {H : List Tk} (h : ∀ x ∈ H, TkOk x) {r : Int} (hr : 0 ≤ r) : itf H r ≤ H.length * ((r + 11) * 8) := sumT_le _ H (fun t ht => (iterm_bd (h t ht) hr).2)
/-- Indices of a valid set. -/
structure Idx (l : List Tk) (hi : List Int) : Prop where
  ok : Ok l
  len : hi.length ≤ 1000
  rng : ∀ x ∈ hi, 0 ≤ x ∧ x < l.length
theorem Ok.tk {l : List Tk} (h : Ok l) : ∀ t ∈ l, TkOk t := fun t ht => h.all t ht
theorem Ok.at' {l : List Tk} (h : Ok l) {i : Int} (h0 : 0 ≤ i) (h1 : i < l.length) : TkOk (rdT l i) := by
  obtain ⟨j, rfl⟩ := Int.eq_ofNat_of_zero_le h0
  exact h.tk _ (rdT_mem l j (by omega))
theorem Idx.tasks {l : List Tk} {hi : List Int} (h : Idx l hi) : ∀ t ∈ hi.map (rdT l), TkOk t := by
  intro t ht
  obtain ⟨x, hx, rfl⟩ := List.mem_map.mp ht
  have := h.rng x hx
  exact h.ok.at' this.1 this.2
theorem Idx.at {l : List Tk} {hi : List Int} (h : Idx l hi) {j : Nat} (hj : j < hi.length) : 0 ≤ rd hi (j : Int) ∧ rd hi (j : Int) < l.length := h.rng _ (by rw [rd_getO hi j hj]; exact List.getElem_mem hj)
theorem map_take_succ {l : List Tk} {hi : List Int} {j : Nat} (hj : j < hi.length) : (hi.take (j + 1)).map (rdT l) = (hi.take j).map (rdT l) ++ [rdT l (rd hi (j : Int))] := by
  rw [List.take_succ_eq_append_getElem hj, List.map_append, rd_getO hi j hj]; rfl
theorem Idx.take {l : List Tk} {hi : List Int} (h : Idx l hi) (j : Nat) : Idx l (hi.take j) := ⟨h.ok, by rw [List.length_take]; have := h.len; omega, fun x hx => h.rng x (List.mem_of_mem_take hx)⟩
/-- One term of the sum, as both programs reckon it. -/
theorem term_eq {t : Tk} (ht : TkOk t) {r acc : Int} (h0 : 0 ≤ r) (h1 : r ≤ 1000) (a0 : 0 ≤ acc) (a1 : acc ≤ 10000000) : wrap64 (acc + wrap64 (wrap64 (Int.tdiv (wrap64 (wrap64 (r + t.f2) - 1)) t.f2) * t.f0)) = acc + iterm r t := by
  have hb := iterm_bd ht h0
  have hc := cdv_bd h0 (show 1 ≤ t.f2 ∧ t.f2 ≤ 12 by unfold TkOk at ht; omega)
  unfold TkOk at ht
  rw [w64 (n := r + t.f2) (by omega) (by omega), w64 (n := r + t.f2 - 1) (by omega) (by omega), tdiv_pos (by omega)]
  rw [show (r + t.f2 - 1) / t.f2 = cdv r t.f2 from rfl, w64 (n := cdv r t.f2) (by omega) (by omega)]
  rw [show cdv r t.f2 * t.f0 = iterm r t from rfl, w64 (n := iterm r t) (by omega) (by omega), w64 (by omega) (by omega)]
section
variable {l : List Tk} {hi : List Int} (h : Idx l hi)
include h
theorem acc_bd {C r : Int} (c0 : 0 ≤ C) (c1 : C ≤ 8) (h0 : 0 ≤ r) (h1 : r ≤ 100) (j : Nat) : 0 ≤ C + itf ((hi.take j).map (rdT l)) r ∧ C + itf ((hi.take j).map (rdT l)) r ≤ 1000000 := by
  have a := itf_nonneg (h.take j).tasks h0
  have b := itf_le (h.take j).tasks h0
  have hl : (((hi.take j).map (rdT l)).length : Int) ≤ 1000 := by rw [List.length_map, List.length_take]; have := h.len; omega
  have := Int.mul_le_mul hl (show (r + 11) * 8 ≤ 888 by omega) (by omega) (by omega)
  omega
theorem specResp_l1 {task r : Int} (t0 : 0 ≤ task) (t1 : task < l.length) (h0 : 0 ≤ r) (h1 : r ≤ 100) {P : Int → Prop}
    (eqv : (rdT l task).f0 + itf (hi.map (rdT l)) r = r → P r) (rest : (rdT l task).f0 + itf (hi.map (rdT l)) r ≠ r → Ex (fun k => spec_l4Response.l0 k l hi task ((rdT l task).f0 + itf (hi.map (rdT l)) r)) P) :
    ∀ (d j : Nat), j + d = hi.length → Ex (fun k => spec_l4Response.l1 k l hi task r ((rdT l task).f0 + itf ((hi.take j).map (rdT l)) r) (j : Int)) P := by
  have htk := h.ok.at' t0 t1
  have hlen := h.len
  intro d
  induction d with
  | zero =>
    intro j hj
    refine Ex.step ?_
    simp only [spec_l4Response.l1]
    rw [List.take_of_length_le (by omega)]
    refine Ex.neg (by omega) (Ex.ite (fun e => Ex.val (eqv e)) (fun e => rest e))
  | succ d ih =>
    intro j hj
    have hat := h.at (show j < hi.length by omega)
    have hx := h.ok.at' hat.1 hat.2
    have hb := acc_bd h (C := (rdT l task).f0) (r := r) (by unfold TkOk at htk; omega) (by unfold TkOk at htk; omega) h0 h1 j
    have ih' := ih (j + 1) (by omega)
    rw [map_take_succ (by omega), itf_snoc, ← Int.add_assoc] at ih'
    refine Ex.step ?_
    simp only [spec_l4Response.l1]
    rw [w64 (n := (j : Int) + 1) (by omega) (by omega), term_eq hx h0 (by omega) hb.1 (by omega)]
    unfold TkOk at hx
    exact Ex.pos (by omega) (Ex.pos (by omega) (Ex.pos hat.1 (Ex.pos hat.2 (Ex.neg (by show ¬ (rdT l (rd hi (j : Int))).f2 = 0; omega) ih'))))
theorem specResp_l0 {task : Int} (t0 : 0 ≤ task) (t1 : task < l.length) : ∀ (d : Nat) (r : Int), (rdT l task).f1 + 1 - r ≤ d → RInv (rdT l task).f0 (itf (hi.map (rdT l))) r → Ex (fun k => spec_l4Response.l0 k l hi task r) (RespIs (rdT l task).f0 (rdT l task).f1 (itf (hi.map (rdT l)))) := by
  have htk := h.ok.at' t0 t1
  have hmono : ∀ r s, r ≤ s → itf (hi.map (rdT l)) r ≤ itf (hi.map (rdT l)) s := fun r s hrs => itf_mono h.tasks hrs
  intro d
  induction d with
  | zero =>
    intro r hd hr
    refine Ex.step ?_
    simp only [spec_l4Response.l0]
    exact Ex.pos t0 (Ex.pos t1 (Ex.neg (by show ¬ r ≤ (rdT l task).f1; omega) (Ex.val (hr.over (by omega)))))
  | succ d ih =>
    intro r hd hr
    refine Ex.step ?_
    simp only [spec_l4Response.l0]
    refine Ex.pos t0 (Ex.pos t1 (Ex.ite (fun hle => ?_) (fun hgt => Ex.val (hr.over (by show (rdT l task).f1 < r; exact Int.not_le.mp hgt)))))
    have hle' : r ≤ (rdT l task).f1 := hle
    have hc := hr.1
    unfold TkOk at htk
    have := specResp_l1 h t0 t1 (r := r) (by omega) (by omega) (P := RespIs (rdT l task).f0 (rdT l task).f1 (itf (hi.map (rdT l)))) (fun e => hr.hit hle' e) (fun e => ih _ (by have := hr.2.2; omega) (hr.next hmono)) hi.length 0 (by omega)
    rw [List.take_zero] at this
    simp only [List.map_nil, itf, sumT, Int.add_zero] at this
    exact this
theorem first_inv {task : Int} (t0 : 0 ≤ task) (t1 : task < l.length) : RInv (rdT l task).f0 (itf (hi.map (rdT l))) (rdT l task).f0 := by
  have htk := h.ok.at' t0 t1
  unfold TkOk at htk
  exact RInv.first (itf_nonneg h.tasks (by omega))
theorem specResp_ex {task : Int} (t0 : 0 ≤ task) (t1 : task < l.length) : Ex (fun k => spec_l4Response.f k l hi task) (RespIs (rdT l task).f0 (rdT l task).f1 (itf (hi.map (rdT l)))) := by
  unfold spec_l4Response.f
  exact Ex.pos t0 (Ex.pos t1 (specResp_l0 h t0 t1 ((rdT l task).f1 + 1).toNat _ (by have htk := h.ok.at' t0 t1; unfold TkOk at htk; show (rdT l task).f1 + 1 - (rdT l task).f0 ≤ _; omega) (first_inv h t0 t1)))
theorem implResp_l1 {task r : Int} (t0 : 0 ≤ task) (t1 : task < l.length) (h0 : 0 ≤ r) (h1 : r ≤ 100) {P : Int → Prop}
    (eqv : (rdT l task).f0 + itf (hi.map (rdT l)) r = r → P r) (rest : (rdT l task).f0 + itf (hi.map (rdT l)) r ≠ r → Ex (fun k => impl_response.l0 k l (List.replicate l.length 0) task hi ((rdT l task).f0 + itf (hi.map (rdT l)) r)) P) :
    ∀ (d j : Nat), j + d = hi.length → Ex (fun k => impl_response.l1 k l (List.replicate l.length 0) task hi r ((rdT l task).f0 + itf ((hi.take j).map (rdT l)) r) hi (hi.length : Int) (j : Int)) P := by
  have htk := h.ok.at' t0 t1
  have hlen := h.len
  intro d
  induction d with
  | zero =>
    intro j hj
    refine Ex.step ?_
    simp only [impl_response.l1]
    rw [List.take_of_length_le (by omega)]
    refine Ex.neg (by omega) (Ex.ite (fun e => Ex.pos t0 (Ex.pos (by rw [List.length_replicate]; exact t1) (Ex.val ?_))) (fun e => rest e))
    rw [rd_repO, Int.add_zero, w64 (by omega) (by omega)]
    exact eqv e
  | succ d ih =>
    intro j hj
    have hat := h.at (show j < hi.length by omega)
    have hx := h.ok.at' hat.1 hat.2
    have hb := acc_bd h (C := (rdT l task).f0) (r := r) (by unfold TkOk at htk; omega) (by unfold TkOk at htk; omega) h0 h1 j
    have ih' := ih (j + 1) (by omega)
    rw [map_take_succ (by omega), itf_snoc, ← Int.add_assoc] at ih'
    refine Ex.step ?_
    simp only [impl_response.l1, impl_ceil.f]
    rw [w64 (n := (j : Int) + 1) (by omega) (by omega), rd_repO, Int.add_zero, w64 (n := r) (by omega) (by omega)]
    refine Ex.pos (by omega) (Ex.pos (by omega) (Ex.pos (by omega) (Ex.pos hat.1 (Ex.pos (by rw [List.length_replicate]; exact hat.2) (Ex.pos hat.2 ?_)))))
    have hne : ¬ (rd_T34 l (rd hi (j : Int))).f2 = 0 := by show ¬ (rdT l (rd hi (j : Int))).f2 = 0; unfold TkOk at hx; omega
    rw [if_neg hne]
    simp only [Option.bind_some]
    rw [term_eq hx h0 (by omega) hb.1 (by omega)]
    exact ih'
theorem implResp_l0 {task : Int} (t0 : 0 ≤ task) (t1 : task < l.length) : ∀ (d : Nat) (r : Int), (rdT l task).f1 + 1 - r ≤ d → r ≤ 1000000 → RInv (rdT l task).f0 (itf (hi.map (rdT l))) r → Ex (fun k => impl_response.l0 k l (List.replicate l.length 0) task hi r) (RespIs (rdT l task).f0 (rdT l task).f1 (itf (hi.map (rdT l)))) := by
  have htk := h.ok.at' t0 t1
  have hmono : ∀ r s, r ≤ s → itf (hi.map (rdT l)) r ≤ itf (hi.map (rdT l)) s := fun r s hrs => itf_mono h.tasks hrs
  have hC : 1 ≤ (rdT l task).f0 := htk.1
  intro d
  induction d with
  | zero =>
    intro r hd hbig hr
    have hc := hr.1
    refine Ex.step ?_
    simp only [impl_response.l0]
    rw [rd_repO, Int.add_zero, w64 (n := r) (by omega) (by omega)]
    exact Ex.pos t0 (Ex.pos (by rw [List.length_replicate]; exact t1) (Ex.pos t1 (Ex.neg (by show ¬ r ≤ (rdT l task).f1; omega) (Ex.val (hr.over (by omega))))))
  | succ d ih =>
    intro r hd hbig hr
    have hc := hr.1
    refine Ex.step ?_
    simp only [impl_response.l0]
    rw [rd_repO, Int.add_zero, w64 (n := r) (by omega) (by omega)]
    refine Ex.pos t0 (Ex.pos (by rw [List.length_replicate]; exact t1) (Ex.pos t1 (Ex.ite (fun hle => ?_) (fun hgt => Ex.val (hr.over (by show (rdT l task).f1 < r; exact Int.not_le.mp hgt))))))
    have hle' : r ≤ (rdT l task).f1 := hle
    unfold TkOk at htk
    have hbd := (acc_bd h (C := (rdT l task).f0) (r := r) (by omega) (by omega) (by omega) (by omega) hi.length).2
    rw [List.take_length] at hbd
    have := implResp_l1 h t0 t1 (r := r) (by omega) (by omega) (P := RespIs (rdT l task).f0 (rdT l task).f1 (itf (hi.map (rdT l)))) (fun e => hr.hit hle' e) (fun e => ih _ (by have := hr.2.2; omega) hbd (hr.next hmono)) hi.length 0 (by omega)
    rw [List.take_zero] at this
    simp only [List.map_nil, itf, sumT, Int.add_zero] at this
    exact this
theorem implResp_ex {task : Int} (t0 : 0 ≤ task) (t1 : task < l.length) : Ex (fun k => impl_response.f k l (List.replicate l.length 0) task hi) (RespIs (rdT l task).f0 (rdT l task).f1 (itf (hi.map (rdT l)))) := by
  have htk := h.ok.at' t0 t1
  unfold TkOk at htk
  unfold impl_response.f
  exact Ex.pos t0 (Ex.pos t1 (implResp_l0 h t0 t1 ((rdT l task).f1 + 1).toNat _ (by show (rdT l task).f1 + 1 - (rdT l task).f0 ≤ _; omega) (by show (rdT l task).f0 ≤ _; omega) (first_inv h t0 t1)))
end
/-- The response times of the first n tasks of an order are told. -/
def RTn (l : List Tk) (o : List Int) (n : Nat) (out : List Int) : Prop := out.length = l.length ∧ ∀ i : Nat, i < n → RespIs (rdT l (rd o (i : Int))).f0 (rdT l (rd o (i : Int))).f1 (itf ((o.take i).map (rdT l))) (rd out (rd o (i : Int)))
def RT (l : List Tk) (o : List Int) (out : List Int) : Prop := RTn l o o.length out
theorem OrdP.idx {l : List Tk} {o : List Int} (h : OrdP l o) : Idx l o := ⟨h.ok, by have := h.len; have := h.ok.len; omega, h.rng⟩
theorem OrdP.inj {l : List Tk} {o : List Int} (h : OrdP l o) {i j : Nat} (hi : i < o.length) (hj : j < o.length) (e : rd o (i : Int) = rd o (j : Int)) : i = j := by
  have hp := h.nd
  rw [List.Nodup, List.pairwise_iff_getElem] at hp
  rw [rd_getO o i hi, rd_getO o j hj] at e
  by_cases h1 : i < j
  · exact absurd e (hp i j hi hj h1)
  · by_cases h2 : j < i
    · exact absurd e.symm (hp j i hj hi h2)
    · omega
theorem RTn.put {l : List Tk} {o : List Int} (h : OrdP l o) {n : Nat} (hn : n < o.length) {out : List Int} (hr : RTn l o n out) {t : Int} (ht : RespIs (rdT l (rd o (n : Int))).f0 (rdT l (rd o (n : Int))).f1 (itf ((o.take n).map (rdT l))) t) : RTn l o (n + 1) (out.set (rd o (n : Int)).toNat t) := by
  obtain ⟨h1, h2⟩ := hr
  have hat := h.idx.at hn
  refine ⟨by rw [List.length_set]; exact h1, fun i hi => ?_⟩
  have hai := h.idx.at (show i < o.length by omega)
  rw [rd_setO out _ _ _ hat.1 (by omega) hai.1]
  by_cases e : i = n
  · rw [if_pos (by rw [e]), e]; exact ht
  · rw [if_neg (fun e2 => e (h.inj (by omega) hn e2))]
    exact h2 i (by omega)
theorem RT.uniq {l : List Tk} {o : List Int} (h : OrdP l o) {a b : List Int} (ha : RT l o a) (hb : RT l o b) : a = b := by
  obtain ⟨a1, a2⟩ := ha
  obtain ⟨b1, b2⟩ := hb
  apply List.ext_getElem (by omega)
  intro i h1 h2
  obtain ⟨j, hj, e⟩ := mem_rdO.mp (h.has (x := (i : Int)) (by omega) (by omega))
  have hat := h.idx.at hj
  have hx := h.ok.at' hat.1 hat.2
  have := (a2 j hj).uniq hx.1 (b2 j hj)
  rwa [e, rd_getO a i h1, rd_getO b i h2] at this
theorem implResps_loop {l : List Tk} {o : List Int} (h : OrdP l o) : ∀ (d j : Nat) (out : List Int), j + d = o.length → RTn l o j out → Ex (fun k => impl_responses.l0 k l (List.replicate l.length 0) o out o (o.length : Int) (j : Int)) (RT l o) := by
  have hlen := h.idx.len
  intro d
  induction d with
  | zero =>
    intro j out hj hr
    refine Ex.step ?_
    simp only [impl_responses.l0]
    exact Ex.neg (by omega) (Ex.val (by unfold RT; rwa [show o.length = j by omega]))
  | succ d ih =>
    intro j out hj hr
    have hat := h.idx.at (show j < o.length by omega)
    have hol := hr.1
    refine Ex.step ?_
    simp only [impl_responses.l0]
    rw [w64 (n := (j : Int) + 1) (by omega) (by omega), Int.toNat_natCast]
    refine Ex.pos (by omega) (Ex.pos (by omega) (Ex.pos (by omega) (Ex.pos (by omega) (Ex.bind (implResp_ex (h.idx.take j) hat.1 hat.2) ?_))))
    intro t ht
    exact Ex.pos hat.1 (Ex.pos (by omega) (ih (j + 1) _ (by omega) (hr.put h (by omega) ht)))
theorem rt_zero (l : List Tk) (o : List Int) : RTn l o 0 (List.replicate l.length 0) := ⟨List.length_replicate, fun i hi => by omega⟩
def RO (l : List Tk) (o : List Int) (x : List Int) : Prop := (OrdP l o → RT l o x) ∧ (¬ OrdP l o → x = [])
theorem RO.uniq {l : List Tk} {o a b : List Int} (ha : RO l o a) (hb : RO l o b) : a = b := by
  by_cases h : OrdP l o
  · exact (ha.1 h).uniq h (hb.1 h)
  · rw [ha.2 h, hb.2 h]
theorem implRT_ex (l : List Tk) (hl : l.length ≤ 1000) (o : List Int) (ho : o.length ≤ 1000) : Ex (fun k => impl_ResponseTimes.f k l o) (RO l o) := by
  unfold impl_ResponseTimes.f
  refine Ex.bind (implOrd_ex l hl o ho) ?_
  intro x hx
  refine Ex.ite (fun h => ?_) (fun h => Ex.val ⟨fun h' => absurd (hx.mpr h') h, fun _ => rfl⟩)
  have hp := hx.mp h
  rw [Int.toNat_natCast]
  refine Ex.pos (by omega) (Ex.pos (by omega) (Ex.bind (P := RT l o) ?_ (fun y hy => Ex.val ⟨fun _ => hy, fun h' => absurd hp h'⟩)))
  unfold impl_responses.f
  rw [Int.toNat_natCast]
  exact Ex.pos (by omega) (Ex.pos (by omega) (implResps_loop hp o.length 0 _ (by omega) (rt_zero l o)))

end Go.Proofs.Ytncombcckeeecaa.Pu
