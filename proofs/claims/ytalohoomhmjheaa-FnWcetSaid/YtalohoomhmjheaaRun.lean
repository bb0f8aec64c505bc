import Derived.Test.YtalohoomhmjheaaPgmV
import Derived.Test.YtalohoomhmjheaaFimplXRunProgram
import Derived.Test.YtalohoomhmjheaaFspecXRunProgram
set_option linter.unusedSimpArgs false
set_option linter.unusedVariables false
namespace Go.Proofs.Ytalohoomhmjheaa.Pu
open Go.RowKit Go.Proofs.Ytalohoomhmjheaa.Q Go.Proofs.YtalohoomhmjheaaW.PrintWords Go.Proofs.YtalohoomhmjheaaW.PrintLast

/-- What the next choice selects among m ways. -/
def tk (ch : List Int) (m : Int) : Int := rd ch 0 % m
theorem tk_bd (ch : List Int) {m : Int} (h : 1 ≤ m) : 0 ≤ tk ch m ∧ tk ch m < m := ⟨Int.emod_nonneg _ (by omega), Int.emod_lt_of_pos _ (by omega)⟩
theorem tmod_twice (c : Int) {m : Int} (h : 1 ≤ m) (h9 : m ≤ 9) : Int.tmod (wrap64 (Int.tmod c m + m)) m = c % m := by
  have a1 := Int.tmod_lt_of_pos c (show 0 < m by omega)
  have a2 := Int.lt_tmod_of_pos c (show 0 < m by omega)
  rw [w64 (n := Int.tmod c m + m) (by omega) (by omega), Int.tmod_eq_emod_of_nonneg (by omega), Int.add_emod_right]
  rw [Int.tmod_def, Int.sub_mul_emod_self_left]
theorem takeV_eq (ch : List Int) {m : Int} (h : 1 ≤ m) (h9 : m ≤ 9) : takeV ch m = tk ch m := by
  unfold takeV tk
  by_cases hl : ch.length = 0
  · rw [if_pos hl, List.length_eq_zero_iff.mp hl]
    show (0 : Int) = (rd [] 0) % m
    unfold rd
    simp
  · rw [if_neg hl, tmod_twice _ h h9]
theorem takeS_eq (ch : List Int) {m : Int} (h : 1 ≤ m) (h9 : m ≤ 9) : takeS ch m = tk ch m := takeV_eq ch h h9
def loopV (g : List Int → Int × List Int) (cost : Int) : Nat → Int → List Int → Int × List Int
  | 0, t, ch => (t, ch)
  | m + 1, t, ch => loopV g cost m (t + (cost + (g ch).1)) (g ch).2
/-- A run of node j: its time, and the choices that are left. -/
def runV (l : List Nd) : Nat → Nat → List Int → Int × List Int
  | 0, _, ch => (0, ch)
  | n + 1, j, ch =>
    if (rd_T28 l (j : Int)).f0 = 1 then ((rd_T28 l (j : Int)).f1, ch)
    else if (rd_T28 l (j : Int)).f0 = 2 then ((runV l n (rd_T28 l (j : Int)).f2.toNat ch).1 + (runV l n (rd_T28 l (j : Int)).f3.toNat (runV l n (rd_T28 l (j : Int)).f2.toNat ch).2).1, (runV l n (rd_T28 l (j : Int)).f3.toNat (runV l n (rd_T28 l (j : Int)).f2.toNat ch).2).2)
    else if (rd_T28 l (j : Int)).f0 = 3 then (if tk ch 2 = 0 then ((rd_T28 l (j : Int)).f1 + (runV l n (rd_T28 l (j : Int)).f2.toNat (ch.drop 1)).1, (runV l n (rd_T28 l (j : Int)).f2.toNat (ch.drop 1)).2) else ((rd_T28 l (j : Int)).f1 + (runV l n (rd_T28 l (j : Int)).f3.toNat (ch.drop 1)).1, (runV l n (rd_T28 l (j : Int)).f3.toNat (ch.drop 1)).2))
    else loopV (runV l n (rd_T28 l (j : Int)).f2.toNat) (rd_T28 l (j : Int)).f1 (tk ch ((rd_T28 l (j : Int)).f4 + 1)).toNat (rd_T28 l (j : Int)).f1 (ch.drop 1)
theorem loopV_bd {g : List Int → Int × List Int} {cost B : Int} (hg : ∀ c, 0 ≤ (g c).1 ∧ (g c).1 ≤ B) (hc : 0 ≤ cost) : ∀ (m : Nat) (t : Int) (ch : List Int), t ≤ (loopV g cost m t ch).1 ∧ (loopV g cost m t ch).1 ≤ t + (m : Int) * (cost + B)
  | 0, t, ch => by simp [loopV]
  | m + 1, t, ch => by
    have h := loopV_bd hg hc m (t + (cost + (g ch).1)) (g ch).2
    have := hg ch
    rw [loopV]
    have e : ((m + 1 : Nat) : Int) * (cost + B) = (m : Int) * (cost + B) + (cost + B) := by rw [Int.natCast_add, Int.add_mul]; omega
    rw [e]
    omega
theorem runV_bd {l : List Nd} (hv : NV l) : ∀ (n j : Nat) (ch : List Int), j < n → j < l.length → V bF l j ≤ (runV l n j ch).1 ∧ (runV l n j ch).1 ≤ V wF l j := by
  intro n
  induction n with
  | zero => intro j ch h; omega
  | succ n ih =>
    intro j ch hj hl
    rw [runV]
    rcases V_cases rfl (hv j hl) with ⟨k, c, hg⟩ | ⟨a, b, ha, hb, ea, eb, k, hg⟩ | ⟨a, ha, ea, k, c, hL, hg⟩
    · obtain ⟨x, y, e⟩ := hg wF
      obtain ⟨x', y', e'⟩ := hg bF
      rw [if_pos k, e, e', wF_1 k, bF_1 k]
      exact ⟨Int.le_refl _, Int.le_refl _⟩
    · rw [ea, eb, Int.toNat_natCast, Int.toNat_natCast, hg wF, hg bF]
      have m1 := mx_bd (V wF l a) (V wF l b)
      have m2 := mn_bd (V bF l a) (V bF l b)
      rcases k with ⟨k, c⟩ | ⟨k, c⟩
      · rw [if_neg (by omega), if_pos k, wF_2 k, bF_2 k]
        have h1 := ih a ch (by omega) (by omega)
        have h2 := ih b (runV l n a ch).2 (by omega) (by omega)
        dsimp only
        omega
      · rw [if_neg (by omega), if_neg (by omega), if_pos k, wF_3 k, bF_3 k]
        have h1 := ih a (ch.drop 1) (by omega) (by omega)
        have h2 := ih b (ch.drop 1) (by omega) (by omega)
        by_cases ht : tk ch 2 = 0
        · rw [if_pos ht]; dsimp only; omega
        · rw [if_neg ht]; dsimp only; omega
    · obtain ⟨y, e⟩ := hg wF
      obtain ⟨y', e'⟩ := hg bF
      rw [if_neg (by omega), if_neg (by omega), if_neg (by omega), e, e', wF_4 k, bF_4 k, ea, Int.toNat_natCast]
      have vb := V_bd hv a (by omega)
      have hlp := loopV_bd (g := runV l n a) (cost := (rd_T28 l (j : Int)).f1) (B := V wF l a) (fun c => by have := ih a c (by omega) (by omega); omega) (by omega) (tk ch ((rd_T28 l (j : Int)).f4 + 1)).toNat (rd_T28 l (j : Int)).f1 (ch.drop 1)
      have ht := tk_bd ch (show 1 ≤ (rd_T28 l (j : Int)).f4 + 1 by omega)
      have hmul := Int.mul_le_mul_of_nonneg_right (show ((tk ch ((rd_T28 l (j : Int)).f4 + 1)).toNat : Int) ≤ (rd_T28 l (j : Int)).f4 by omega) (show 0 ≤ (rd_T28 l (j : Int)).f1 + V wF l a by omega)
      omega
theorem execLoop_ex {g : Nat → List Int → Option (Int × List Int)} {h : List Int → Int × List Int} {cost : Int} (hc : 0 ≤ cost ∧ cost ≤ 9) (hg : ∀ c, Ex (fun k => g k c) (fun x => x = h c)) (hb : ∀ c, 0 ≤ (h c).1 ∧ (h c).1 ≤ 20000000000) : ∀ (m : Nat) (t : Int) (ch : List Int), m ≤ 4 → 0 ≤ t → t ≤ 100000000000 * (5 - (m : Int)) → Ex (fun k => execLoop (g k) cost m t ch) (fun x => x = loopV h cost m t ch)
  | 0, t, ch, _, _, _ => Ex.val rfl
  | m + 1, t, ch, hm, h0, h1 => by
    simp only [execLoop, loopV]
    refine Ex.bind (hg ch) ?_
    intro x hx
    rw [hx]
    have := hb ch
    rw [w64 (n := cost + (h ch).1) (by omega) (by omega), w64 (n := t + (cost + (h ch).1)) (by omega) (by omega)]
    exact execLoop_ex hc hg hb m _ _ (by omega) (by omega) (by omega)
theorem specLoop_ex {g : Nat → List Int → Option (Int × List Int)} {h : List Int → Int × List Int} {cost : Int} (hc : 0 ≤ cost ∧ cost ≤ 9) (hg : ∀ c, Ex (fun k => g k c) (fun x => x = h c)) (hb : ∀ c, 0 ≤ (h c).1 ∧ (h c).1 ≤ 20000000000) : ∀ (m : Nat) (t : Int) (ch : List Int), m ≤ 4 → 0 ≤ t → t ≤ 100000000000 * (5 - (m : Int)) → Ex (fun k => specLoop (g k) cost m t ch) (fun x => x = loopV h cost m t ch)
  | 0, t, ch, _, _, _ => Ex.val rfl
  | m + 1, t, ch, hm, h0, h1 => by
    simp only [specLoop, loopV]
    refine Ex.bind (hg ch) ?_
    intro x hx
    rw [hx]
    have := hb ch
    rw [w64 (n := t + cost) (by omega) (by omega), w64 (n := t + cost + (h ch).1) (by omega) (by omega), Int.add_assoc]
    exact specLoop_ex hc hg hb m _ _ (by omega) (by omega) (by omega)
theorem execute_ex {l : List Nd} (h12 : l.length ≤ 12) (hv : NV l) : ∀ (n j : Nat) (ch : List Int), j < n → j < l.length → Ex (fun k => impl_execute.f k l (j : Int) ch) (fun x => x = runV l n j ch) := by
  intro n
  induction n with
  | zero => intro j ch h; omega
  | succ n ih =>
    intro j ch hj hl
    have bd : ∀ (a : Nat) (c : List Int), a < n → a < l.length → 0 ≤ (runV l n a c).1 ∧ (runV l n a c).1 ≤ 20000000000 := fun a c h1 h2 => by
      have := runV_bd hv n a c h1 h2; have := V_bd hv a h2; have := Bd12 (show a ≤ 12 by omega); omega
    refine Ex.step ?_
    simp only [impl_execute.f]
    rw [runV]
    refine Ex.pos (by omega) ?_
    rcases V_cases rfl (hv j hl) with ⟨k, c, hg⟩ | ⟨a, b, ha, hb, ea, eb, k, hg⟩ | ⟨a, ha, ea, k, c, hL, hg⟩
    · rw [if_pos k]
      exact Ex.neg (by omega) (Ex.neg (by omega) (Ex.neg (by omega) (Ex.val rfl)))
    · rw [ea, eb, Int.toNat_natCast, Int.toNat_natCast]
      rcases k with ⟨k, c⟩ | ⟨k, c⟩
      · rw [if_neg (by omega), if_pos k]
        refine Ex.pos k (Ex.bind (ih a ch (by omega) (by omega)) (fun x hx => ?_))
        rw [hx]
        refine Ex.bind (ih b _ (by omega) (by omega)) (fun y hy => ?_)
        rw [hy]
        have b1 := bd a ch (by omega) (by omega)
        have b2 := bd b (runV l n a ch).2 (by omega) (by omega)
        exact Ex.val (by rw [w64 (by omega) (by omega)])
      · rw [if_neg (by omega), if_neg (by omega), if_pos k]
        refine Ex.neg (by omega) (Ex.pos k ?_)
        simp only [takeV_eq ch (show (1 : Int) ≤ 2 by decide) (by decide)]
        by_cases ht : tk ch 2 = 0
        · rw [if_pos ht]
          simp only [if_pos ht]
          refine Ex.bind (ih a (ch.drop 1) (by omega) (by omega)) (fun x hx => ?_)
          rw [hx]
          have b1 := bd a (ch.drop 1) (by omega) (by omega)
          exact Ex.val (by rw [w64 (by omega) (by omega)])
        · rw [if_neg ht]
          simp only [if_neg ht]
          refine Ex.bind (ih b (ch.drop 1) (by omega) (by omega)) (fun x hx => ?_)
          rw [hx]
          have b1 := bd b (ch.drop 1) (by omega) (by omega)
          exact Ex.val (by rw [w64 (by omega) (by omega)])
    · rw [if_neg (by omega), if_neg (by omega), if_neg (by omega), ea, Int.toNat_natCast, w64 (n := (rd_T28 l (j : Int)).f4 + 1) (by omega) (by omega), takeV_eq ch (show 1 ≤ (rd_T28 l (j : Int)).f4 + 1 by omega) (by omega)]
      have ht := tk_bd ch (show 1 ≤ (rd_T28 l (j : Int)).f4 + 1 by omega)
      exact Ex.neg (by omega) (Ex.neg (by omega) (Ex.pos k (Ex.pos (by omega) (execLoop_ex (g := fun k c => impl_execute.f k l (a : Int) c) (by omega) (fun c => ih a c (by omega) (by omega)) (fun c => bd a c (by omega) (by omega)) _ _ _ (by omega) (by omega) (by omega)))))
theorem l8Run_ex {l : List Nd} (h12 : l.length ≤ 12) (hv : NV l) : ∀ (n j : Nat) (ch : List Int), j < n → j < l.length → Ex (fun k => spec_l8Run.f k l (j : Int) ch) (fun x => x = runV l n j ch) := by
  intro n
  induction n with
  | zero => intro j ch h; omega
  | succ n ih =>
    intro j ch hj hl
    have bd : ∀ (a : Nat) (c : List Int), a < n → a < l.length → 0 ≤ (runV l n a c).1 ∧ (runV l n a c).1 ≤ 20000000000 := fun a c h1 h2 => by
      have := runV_bd hv n a c h1 h2; have := V_bd hv a h2; have := Bd12 (show a ≤ 12 by omega); omega
    refine Ex.step ?_
    simp only [spec_l8Run.f]
    rw [runV]
    refine Ex.pos (by omega) ?_
    rcases V_cases rfl (hv j hl) with ⟨k, c, hg⟩ | ⟨a, b, ha, hb, ea, eb, k, hg⟩ | ⟨a, ha, ea, k, c, hL, hg⟩
    · rw [if_pos k]
      exact Ex.pos k (Ex.val rfl)
    · rw [ea, eb, Int.toNat_natCast, Int.toNat_natCast]
      rcases k with ⟨k, c⟩ | ⟨k, c⟩
      · rw [if_neg (by omega), if_pos k]
        refine Ex.neg (by omega) (Ex.pos k (Ex.bind (ih a ch (by omega) (by omega)) (fun x hx => ?_)))
        rw [hx]
        refine Ex.bind (ih b _ (by omega) (by omega)) (fun y hy => ?_)
        rw [hy]
        have b1 := bd a ch (by omega) (by omega)
        have b2 := bd b (runV l n a ch).2 (by omega) (by omega)
        exact Ex.val (by rw [w64 (by omega) (by omega)])
      · rw [if_neg (by omega), if_neg (by omega), if_pos k]
        refine Ex.neg (by omega) (Ex.neg (by omega) (Ex.pos k ?_))
        simp only [takeS_eq ch (show (1 : Int) ≤ 2 by decide) (by decide)]
        have t2 := tk_bd ch (show (1 : Int) ≤ 2 by decide)
        by_cases ht : tk ch 2 = 0
        · have ht1 : ¬ tk ch 2 = 1 := by omega
          rw [if_pos ht]
          simp only [if_neg ht1]
          refine Ex.bind (ih a (ch.drop 1) (by omega) (by omega)) (fun x hx => ?_)
          rw [hx]
          have b1 := bd a (ch.drop 1) (by omega) (by omega)
          exact Ex.val (by rw [w64 (by omega) (by omega)])
        · have ht1 : tk ch 2 = 1 := by omega
          rw [if_neg ht]
          simp only [if_pos ht1]
          refine Ex.bind (ih b (ch.drop 1) (by omega) (by omega)) (fun x hx => ?_)
          rw [hx]
          have b1 := bd b (ch.drop 1) (by omega) (by omega)
          exact Ex.val (by rw [w64 (by omega) (by omega)])
    · rw [if_neg (by omega), if_neg (by omega), if_neg (by omega), ea, Int.toNat_natCast, w64 (n := (rd_T28 l (j : Int)).f4 + 1) (by omega) (by omega), takeS_eq ch (show 1 ≤ (rd_T28 l (j : Int)).f4 + 1 by omega) (by omega)]
      have ht := tk_bd ch (show 1 ≤ (rd_T28 l (j : Int)).f4 + 1 by omega)
      exact Ex.neg (by omega) (Ex.neg (by omega) (Ex.neg (by omega) (Ex.pos (by omega) (specLoop_ex (g := fun k c => spec_l8Run.f k l (a : Int) c) (by omega) (fun c => ih a c (by omega) (by omega)) (fun c => bd a c (by omega) (by omega)) _ _ _ (by omega) (by omega) (by omega)))))
/-- The time of the program's run. -/
def timeT (l : List Nd) (ch : List Int) : Int := (runV l l.length (l.length - 1) ch).1
theorem implRun_ex (l : List Nd) (ch : List Int) : Ex (fun k => impl_RunProgram.f k l ch) (fun x => (PV l → x = timeT l ch) ∧ (¬ PV l → x = -1)) := by
  unfold impl_RunProgram.f
  refine Ex.bind (implPV_ex l) (fun b hb => Ex.ite (fun h => ?_) (fun h => Ex.val ⟨fun g => absurd (hb.mpr g) h, fun _ => rfl⟩))
  have hp := hb.mp h
  have h1 := hp.pos
  have h12 := hp.len
  rw [w64 (n := (l.length : Int) - 1) (by omega) (by omega), show (l.length : Int) - 1 = ((l.length - 1 : Nat) : Int) by omega]
  exact Ex.bind (execute_ex hp.len hp.nv l.length (l.length - 1) ch (by omega) (by omega)) (fun x hx => Ex.val ⟨fun _ => by rw [hx]; rfl, fun g => absurd hp g⟩)
theorem specRun_ex (l : List Nd) (ch : List Int) : Ex (fun k => spec_RunProgram.f k l ch) (fun x => (PV l → x = timeT l ch) ∧ (¬ PV l → x = -1)) := by
  unfold spec_RunProgram.f
  refine Ex.bind (specPV_ex l) (fun b hb => Ex.ite (fun h => ?_) (fun h => Ex.val ⟨fun g => absurd (hb.mpr g) h, fun _ => rfl⟩))
  have hp := hb.mp h
  have h1 := hp.pos
  have h12 := hp.len
  rw [w64 (n := (l.length : Int) - 1) (by omega) (by omega), show (l.length : Int) - 1 = ((l.length - 1 : Nat) : Int) by omega]
  exact Ex.bind (l8Run_ex hp.len hp.nv l.length (l.length - 1) ch (by omega) (by omega)) (fun x hx => Ex.val ⟨fun _ => by rw [hx]; rfl, fun g => absurd hp g⟩)
/-- Two lists of choices that select alike. -/
def Sim (c c' : List Int) : Prop := ∀ (i : Nat) (m : Int), 1 ≤ m → m ≤ 5 → rd c (i : Int) % m = rd c' (i : Int) % m
theorem rd_drop1 (c : List Int) (i : Nat) : rd (c.drop 1) (i : Int) = rd c ((i + 1 : Nat) : Int) := by
  unfold rd
  rw [Int.toNat_natCast, Int.toNat_natCast, List.getD_eq_getElem?_getD, List.getD_eq_getElem?_getD, List.getElem?_drop, Nat.add_comm]
theorem Sim.drop {c c' : List Int} (h : Sim c c') : Sim (c.drop 1) (c'.drop 1) := fun i m h1 h2 => by rw [rd_drop1, rd_drop1]; exact h (i + 1) m h1 h2
theorem Sim.tk {c c' : List Int} (h : Sim c c') {m : Int} (h1 : 1 ≤ m) (h2 : m ≤ 5) : Pu.tk c m = Pu.tk c' m := h 0 m h1 h2
theorem loopV_sim {g : List Int → Int × List Int} {cost : Int} (hg : ∀ c c', Sim c c' → (g c).1 = (g c').1 ∧ Sim (g c).2 (g c').2) : ∀ (m : Nat) (t : Int) (c c' : List Int), Sim c c' → (loopV g cost m t c).1 = (loopV g cost m t c').1 ∧ Sim (loopV g cost m t c).2 (loopV g cost m t c').2
  | 0, t, c, c', h => ⟨rfl, h⟩
  | m + 1, t, c, c', h => by
    rw [loopV, loopV, (hg c c' h).1]
    exact loopV_sim hg m _ _ _ (hg c c' h).2
theorem runV_sim {l : List Nd} (hv : NV l) : ∀ (n j : Nat) (c c' : List Int), j < n → j < l.length → Sim c c' → (runV l n j c).1 = (runV l n j c').1 ∧ Sim (runV l n j c).2 (runV l n j c').2 := by
  intro n
  induction n with
  | zero => intro j c c' h; omega
  | succ n ih =>
    intro j c c' hj hl hs
    rw [runV, runV]
    rcases V_cases rfl (hv j hl) with ⟨k, _, _⟩ | ⟨a, b, ha, hb, ea, eb, k, _⟩ | ⟨a, ha, ea, k, _, hL, _⟩
    · rw [if_pos k, if_pos k]; exact ⟨rfl, hs⟩
    · rw [ea, eb, Int.toNat_natCast, Int.toNat_natCast]
      rcases k with ⟨k, _⟩ | ⟨k, _⟩
      · have n1 : ¬ (rd_T28 l (j : Int)).f0 = 1 := by omega
        rw [if_neg n1, if_neg n1, if_pos k, if_pos k]
        have h1 := ih a c c' (by omega) (by omega) hs
        have h2 := ih b _ _ (by omega) (by omega) h1.2
        dsimp only
        exact ⟨by rw [h1.1, h2.1], h2.2⟩
      · have n1 : ¬ (rd_T28 l (j : Int)).f0 = 1 := by omega
        have n2 : ¬ (rd_T28 l (j : Int)).f0 = 2 := by omega
        rw [if_neg n1, if_neg n1, if_neg n2, if_neg n2, if_pos k, if_pos k, hs.tk (m := 2) (by decide) (by decide)]
        have h1 := ih a _ _ (by omega) (by omega) hs.drop
        have h2 := ih b _ _ (by omega) (by omega) hs.drop
        by_cases ht : Pu.tk c' 2 = 0
        · rw [if_pos ht, if_pos ht]; dsimp only; exact ⟨by rw [h1.1], h1.2⟩
        · rw [if_neg ht, if_neg ht]; dsimp only; exact ⟨by rw [h2.1], h2.2⟩
    · have n1 : ¬ (rd_T28 l (j : Int)).f0 = 1 := by omega
      have n2 : ¬ (rd_T28 l (j : Int)).f0 = 2 := by omega
      have n3 : ¬ (rd_T28 l (j : Int)).f0 = 3 := by omega
      rw [if_neg n1, if_neg n1, if_neg n2, if_neg n2, if_neg n3, if_neg n3, ea, Int.toNat_natCast, hs.tk (m := (rd_T28 l (j : Int)).f4 + 1) (by omega) (by omega)]
      exact loopV_sim (fun d d' hd => ih a d d' (by omega) (by omega) hd) _ _ _ _ hs.drop
theorem timeT_sim {l : List Nd} (hp : PV l) {c c' : List Int} (h : Sim c c') : timeT l c = timeT l c' := (runV_sim hp.nv l.length (l.length - 1) c c' (by have := hp.pos; omega) (by have := hp.pos; omega) h).1

end Go.Proofs.Ytalohoomhmjheaa.Pu
