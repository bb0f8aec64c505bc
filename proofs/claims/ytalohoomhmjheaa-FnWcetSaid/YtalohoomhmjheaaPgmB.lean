import Derived.Test.YtalohoomhmjheaaPgmV
import Derived.Test.YtalohoomhmjheaaFimplXBcet
import Derived.Test.YtalohoomhmjheaaFspecXBcet
import Derived.Test.YtalohoomhmjheaaFimplXWcet
set_option linter.unusedSimpArgs false
set_option linter.unusedVariables false
namespace Go.Proofs.Ytalohoomhmjheaa.Pu
open Go.RowKit Go.Proofs.Ytalohoomhmjheaa.Q Go.Proofs.YtalohoomhmjheaaW.PrintWords Go.Proofs.YtalohoomhmjheaaW.PrintLast

theorem implWcet_ex (l : List Nd) : Ex (fun k => impl_Wcet.f k l) (fun x => (PV l → x = V wF l (l.length - 1)) ∧ (¬ PV l → x = -1)) := by
  unfold impl_Wcet.f
  refine Ex.bind (implPV_ex l) (fun b hb => Ex.ite (fun h => ?_) (fun h => Ex.val ⟨fun g => absurd (hb.mpr g) h, fun _ => rfl⟩))
  have hp := hb.mp h
  have h1 := hp.pos
  have h12 := hp.len
  rw [w64 (n := (l.length : Int) - 1) (by omega) (by omega), show (l.length : Int) - 1 = ((l.length - 1 : Nat) : Int) by omega]
  exact Ex.bind (implWorst_ex hp.len hp.nv) (fun x hx => Ex.pos (by omega) (Ex.pos (by omega) (Ex.val ⟨fun _ => hx.2 _ (by omega), fun g => absurd hp g⟩)))
theorem specBcet_ex (l : List Nd) : Ex (fun k => spec_Bcet.f k l) (fun x => (PV l → x = V bF l (l.length - 1)) ∧ (¬ PV l → x = -1)) := by
  unfold spec_Bcet.f
  refine Ex.bind (specPV_ex l) (fun b hb => Ex.ite (fun h => ?_) (fun h => Ex.val ⟨fun g => absurd (hb.mpr g) h, fun _ => rfl⟩))
  have hp := hb.mp h
  have h1 := hp.pos
  have h12 := hp.len
  have hf := hp.fit
  have vb := V_bd hp.nv (l.length - 1) (by omega)
  rw [w64 (n := (l.length : Int) - 1) (by omega) (by omega), show (l.length : Int) - 1 = ((l.length - 1 : Nat) : Int) by omega]
  refine Ex.bind (specCosts_ex hp.len hp.nv false) (fun x hx => Ex.pos (by omega) (Ex.pos (by omega) (Ex.val ⟨fun _ => ?_, fun g => absurd hp g⟩)))
  rw [hx.2 (l.length - 1) (by omega), if_neg (by decide), V_capB hp.nv _ (by omega), mn_le (by omega)]
theorem implBcet_ex (l : List Nd) : Ex (fun k => impl_Bcet.f k l) (fun x => (PV l → x = V bF l (l.length - 1)) ∧ (¬ PV l → x = -1)) := by
  unfold impl_Bcet.f
  refine Ex.bind (implPV_ex l) (fun b hb => Ex.ite (fun h => ?_) (fun h => Ex.val ⟨fun g => absurd (hb.mpr g) h, fun _ => rfl⟩))
  have hp := hb.mp h
  have h1 := hp.pos
  have h12 := hp.len
  have hv := hp.nv
  have loop : ∀ (d j : Nat) (c : List Int), j + d = l.length → c.length = l.length → Tells bF l c j → Ex (fun k => impl_Bcet.l0 k l c l (l.length : Int) (j : Int)) (fun x => (PV l → x = V bF l (l.length - 1)) ∧ (¬ PV l → x = -1)) := by
    intro d
    induction d with
    | zero =>
      intro j c hj hc ht
      refine Ex.step ?_
      simp only [impl_Bcet.l0]
      rw [w64 (n := (l.length : Int) - 1) (by omega) (by omega), show (l.length : Int) - 1 = ((l.length - 1 : Nat) : Int) by omega]
      exact Ex.neg (by omega) (Ex.pos (by omega) (Ex.pos (by omega) (Ex.val ⟨fun _ => ht _ (by omega), fun g => absurd hp g⟩)))
    | succ d ih =>
      intro j c hj hc ht
      have next : ∀ v, v = V bF l j → Ex (fun k => impl_Bcet.l0 k l (c.set j v) l (l.length : Int) ((j + 1 : Nat) : Int)) (fun x => (PV l → x = V bF l (l.length - 1)) ∧ (¬ PV l → x = -1)) := fun v e => ih (j + 1) _ (by omega) (by rw [List.length_set]; exact hc) (ht.put (by omega) e)
      have hb : ∀ a : Nat, a ≤ j → 0 ≤ V bF l a ∧ V bF l a ≤ 20000000000 := fun a ha => by
        have := V_bd hv a (by omega); have := Bd12 (show a ≤ 12 by omega); omega
      refine Ex.step ?_
      simp only [impl_Bcet.l0]
      refine Ex.pos (by omega) (Ex.pos (by omega) (Ex.pos (by omega) ?_))
      have j1 : ∀ t : Bool, (t = true ↔ (rd_T28 l (j : Int)).f0 = 1 ∨ (rd_T28 l (j : Int)).f0 = 4) → Ex (fun k => impl_Bcet.j1 k l c (j : Int) l (l.length : Int) (j : Int) (rd_T28 l (j : Int)).f0 t (rd_T28 l (j : Int)).f0 (rd_T28 l (j : Int)).f1 (rd_T28 l (j : Int)).f2 (rd_T28 l (j : Int)).f3 (rd_T28 l (j : Int)).f4) (fun x => (PV l → x = V bF l (l.length - 1)) ∧ (¬ PV l → x = -1)) := fun t htt => by
        refine Ex.step ?_
        simp only [impl_Bcet.j1, Int.toNat_natCast]
        rw [pnx j (by omega)]
        rcases V_cases rfl (hv j (by omega)) with ⟨k, c1, hg⟩ | ⟨a, b, ha, hb', ea, eb, k, hg⟩ | ⟨a, ha, ea, k, c1, hL, hg⟩
        · obtain ⟨x, y, e⟩ := hg bF
          rw [bF_1 k] at e
          exact Ex.pos (htt.mpr (.inl k)) (Ex.pos (by omega) (Ex.pos (by omega) (next _ e.symm)))
        · have e := hg bF
          have ba := hb a (by omega)
          have bb := hb b (by omega)
          have m := mn_bd (V bF l a) (V bF l b)
          rw [ea, eb, ht a ha, ht b hb']
          rcases k with ⟨k, c1⟩ | ⟨k, c1⟩
          · rw [bF_2 k] at e
            rw [w64 (n := V bF l a + V bF l b) (by omega) (by omega)]
            exact Ex.neg (fun g => by have := htt.mp g; omega) (Ex.pos k (Ex.pos (by omega) (Ex.pos (by omega) (Ex.pos (by omega) (Ex.pos (by omega) (Ex.pos (by omega) (Ex.pos (by omega) (next _ e.symm))))))))
          · rw [bF_3 k] at e
            rw [w64 (n := (rd_T28 l (j : Int)).f1 + mn (V bF l a) (V bF l b)) (by omega) (by omega)]
            exact Ex.neg (fun g => by have := htt.mp g; omega) (Ex.neg (by omega) (Ex.pos k (Ex.pos (by omega) (Ex.pos (by omega) (Ex.pos (by omega) (Ex.pos (by omega) (Ex.pos (by omega) (Ex.pos (by omega) (next _ e.symm)))))))))
        · obtain ⟨y, e⟩ := hg bF
          rw [bF_4 k] at e
          exact Ex.pos (htt.mpr (.inr k)) (Ex.pos (by omega) (Ex.pos (by omega) (next _ e.symm)))
      exact Ex.ite (fun g => j1 _ (by rw [beq_iff_eq]; omega)) (fun g => j1 _ (by rw [beq_iff_eq]; omega))
  exact Ex.pos (by omega) (Ex.pos (by omega) (loop l.length 0 _ (by omega) (by simp) (fun a ha => by omega)))
/-- The same program, where the leaf i costs one more. -/
def up (l : List Nd) (i : Nat) : List Nd := l.set i ⟨(rd_T28 l (i : Int)).f0, (rd_T28 l (i : Int)).f1 + 1, (rd_T28 l (i : Int)).f2, (rd_T28 l (i : Int)).f3, (rd_T28 l (i : Int)).f4⟩
theorem up_len (l : List Nd) (i : Nat) : (up l i).length = l.length := by unfold up; rw [List.length_set]
theorem up_rd (l : List Nd) (i j : Nat) (hj : j < l.length) : (rd_T28 (up l i) (j : Int)).f0 = (rd_T28 l (j : Int)).f0 ∧ (rd_T28 (up l i) (j : Int)).f2 = (rd_T28 l (j : Int)).f2 ∧ (rd_T28 (up l i) (j : Int)).f3 = (rd_T28 l (j : Int)).f3 ∧ (rd_T28 (up l i) (j : Int)).f4 = (rd_T28 l (j : Int)).f4 ∧ (rd_T28 l (j : Int)).f1 ≤ (rd_T28 (up l i) (j : Int)).f1 := by
  unfold up
  rw [rdNd_set l i j _ hj]
  by_cases e : i = j
  · subst e; rw [if_pos rfl]; exact ⟨rfl, rfl, rfl, rfl, by dsimp only; omega⟩
  · rw [if_neg e]; exact ⟨rfl, rfl, rfl, rfl, Int.le_refl _⟩
theorem up_V {l : List Nd} {i : Nat} (hv : NV l) (hv' : NV (up l i)) : ∀ j : Nat, j < l.length → V wF l j ≤ V wF (up l i) j ∧ V bF l j ≤ V bF (up l i) j := by
  intro j
  induction j using Nat.strongRecOn with
  | _ j ih =>
  intro hj
  have hj' : j < (up l i).length := by rw [up_len]; exact hj
  obtain ⟨u0, u2, u3, u4, u1⟩ := up_rd l i j hj
  rcases V_cases rfl (hv j hj) with ⟨k, c, hg⟩ | ⟨a, b, ha, hb, ea, eb, k, hg⟩ | ⟨a, ha, ea, k, c, hL, hg⟩
  · rcases V_cases rfl (hv' j hj') with ⟨k', c', hg'⟩ | ⟨a', b', ha', hb', ea', eb', k', hg'⟩ | ⟨a', ha', ea', k', c', hL', hg'⟩
    · obtain ⟨_, _, e1⟩ := hg wF
      obtain ⟨_, _, e2⟩ := hg bF
      obtain ⟨_, _, e3⟩ := hg' wF
      obtain ⟨_, _, e4⟩ := hg' bF
      rw [e1, e2, e3, e4, wF_1 k, bF_1 k, wF_1 k', bF_1 k']
      exact ⟨u1, u1⟩
    · omega
    · omega
  · rcases V_cases rfl (hv' j hj') with ⟨k', c', hg'⟩ | ⟨a', b', ha', hb', ea', eb', k', hg'⟩ | ⟨a', ha', ea', k', c', hL', hg'⟩
    · omega
    · have x1 : a' = a := by omega
      have x2 : b' = b := by omega
      subst x1 x2
      have ia := ih a' ha (by omega)
      have ib := ih b' hb (by omega)
      rw [hg wF, hg bF, hg' wF, hg' bF]
      have m1 := mx_bd (V wF l a') (V wF l b')
      have m2 := mn_bd (V bF l a') (V bF l b')
      have m3 := mx_bd (V wF (up l i) a') (V wF (up l i) b')
      have m4 := mn_bd (V bF (up l i) a') (V bF (up l i) b')
      rcases k with ⟨k, c⟩ | ⟨k, c⟩
      · rw [wF_2 k, bF_2 k, wF_2 (by omega), bF_2 (by omega)]; omega
      · rw [wF_3 k, bF_3 k, wF_3 (by omega), bF_3 (by omega)]; omega
    · omega
  · rcases V_cases rfl (hv' j hj') with ⟨k', c', hg'⟩ | ⟨a', b', ha', hb', ea', eb', k', hg'⟩ | ⟨a', ha', ea', k', c', hL', hg'⟩
    · omega
    · omega
    · have x1 : a' = a := by omega
      subst x1
      have ia := ih a' ha (by omega)
      obtain ⟨_, e1⟩ := hg wF
      obtain ⟨_, e2⟩ := hg bF
      obtain ⟨_, e3⟩ := hg' wF
      obtain ⟨_, e4⟩ := hg' bF
      rw [e1, e2, e3, e4, wF_4 k, bF_4 k, wF_4 k', bF_4 k', u4]
      have := Int.mul_le_mul_of_nonneg_left (show (rd_T28 l (j : Int)).f1 + V wF l a' ≤ (rd_T28 (up l i) (j : Int)).f1 + V wF (up l i) a' by omega) hL.1
      exact ⟨by omega, u1⟩

end Go.Proofs.Ytalohoomhmjheaa.Pu
