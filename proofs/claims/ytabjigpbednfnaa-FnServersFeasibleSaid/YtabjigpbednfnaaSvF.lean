import Derived.Test.YtabjigpbednfnaaServ
import Derived.Test.YtabjigpbednfnaaPB
import Derived.Test.YtabjigpbednfnaaImplDem
import Derived.Test.YtabjigpbednfnaaSpecDem
import Derived.Test.YtabjigpbednfnaaFimplXServersFeasible
import Derived.Test.YtabjigpbednfnaaFspecXServersFeasible
set_option linter.unusedSimpArgs false
set_option linter.unusedVariables false
namespace Go.Proofs.Ytabjigpbednfnaa.Pu
open Go.RowKit Go.Proofs.Ytabjigpbednfnaa.Q Go.Proofs.YtabjigpbednfnaaW.PrintWords Go.Proofs.YtabjigpbednfnaaW.PrintLast

/-- P holds of the n numbers from c on. -/
def gS (P : Int → Bool) : Nat → Int → Bool
  | 0, _ => true
  | n + 1, c => P c && gS P n (c + 1)
theorem gS_iff (P : Int → Bool) : ∀ (n : Nat) (c : Int), gS P n c = true ↔ ∀ s, c ≤ s → s < c + n → P s = true
  | 0, c => ⟨fun _ s h1 h2 => by omega, fun _ => rfl⟩
  | n + 1, c => by
    simp only [gS, Bool.and_eq_true]
    rw [gS_iff P n (c + 1)]
    constructor
    · rintro ⟨h0, h⟩ s h1 h2
      by_cases e : s = c
      · rw [e]; exact h0
      · exact h s (by omega) (by omega)
    · exact fun h => ⟨h c (by omega) (by omega), fun s h1 h2 => h s (by omega) (by omega)⟩
theorem mul_bdS {a b A B : Int} (h0 : 0 ≤ a) (h1 : a ≤ A) (h2 : 0 ≤ b) (h3 : b ≤ B) : 0 ≤ a * b ∧ a * b ≤ A * B := ⟨Int.mul_nonneg h0 h2, Int.mul_le_mul h1 h3 h2 (by omega)⟩
def SvOk (x : Sv) : Prop := 1 ≤ x.f0 ∧ x.f0 ≤ x.f1 ∧ x.f1 ≤ 12
/-- The servers' bandwidth, as a fraction. -/
def sD : List Sv → Int
  | [a] => a.f1
  | [a, b] => a.f1 * b.f1
  | _ => 1
def sN : List Sv → Int
  | [a] => a.f0
  | [a, b] => b.f1 * a.f0 + a.f1 * b.f0
  | _ => 0
def sfP (l : List Tk) (D N t : Int) : Bool := decide (dem l t * D + t * N ≤ t * D)
def sfO (l : List Tk) (s : List Sv) : Bool := setOk l && (servOk s && gS (sfP l (sD s) (sN s)) (hypN l) 1)
theorem setOk_exS (l : List Tk) (hl : l.length ≤ 1000000) : Ex (fun k => spec_SetValid.f k l) (fun x => x = setOk l) := Ex.at_ (l.length + 1) (fun k hk => specSet_eq l hl k (by omega)) rfl
theorem implHyp_exS (l : List Tk) (h : Ok l) : Ex (fun k => impl_hyper.f k l) (fun x => x = hyp l) := Ex.at_ 20 (fun k hk => implHyper_eq l h k hk) rfl
theorem implSf_l2 {l : List Tk} (hok : Ok l) {D N : Int} (hD : 1 ≤ D ∧ D ≤ 144) (hN : 0 ≤ N ∧ N ≤ 288) : ∀ (n : Nat) (t : Int), t + n = hyp l + 1 → 1 ≤ t → Ex (fun k => impl_ServersFeasible.l2 k l D N t) (fun x => x = gS (sfP l D N) n t) := by
  have hh := hyp_bd hok
  intro n
  induction n with
  | zero =>
    intro t ht h1
    refine Ex.step ?_
    simp only [impl_ServersFeasible.l2]
    refine Ex.bind (implHyp_exS l hok) ?_
    rintro _ rfl
    exact Ex.neg (by omega) (Ex.val rfl)
  | succ n ih =>
    intro t ht h1
    have hd := dem_bd hok t (by omega)
    have m1 := mul_bdS hd.1 (show dem l t ≤ 10000000 by omega) (show 0 ≤ D by omega) hD.2
    have m2 := mul_bdS (show 0 ≤ t by omega) (show t ≤ 248832 by omega) hN.1 hN.2
    have m3 := mul_bdS (show 0 ≤ t by omega) (show t ≤ 248832 by omega) (show 0 ≤ D by omega) hD.2
    refine Ex.step ?_
    simp only [impl_ServersFeasible.l2]
    refine Ex.bind (implHyp_exS l hok) ?_
    rintro _ rfl
    refine Ex.pos (by omega) (Ex.bind (P := fun x => x = dem l t) (Ex.at_ 20 (fun k hk => implDem_eq l hok t (by omega) (by omega) k hk) rfl) ?_)
    rintro _ rfl
    rw [w64 (n := dem l t * D) (by omega) (by omega), w64 (n := t * N) (by omega) (by omega), w64 (n := dem l t * D + t * N) (by omega) (by omega), w64 (n := t * D) (by omega) (by omega), w64 (n := t + 1) (by omega) (by omega)]
    refine Ex.ite (fun h => Ex.val ?_) (fun h => ?_)
    · simp only [gS]; rw [show sfP l D N t = false from decide_eq_false (by omega)]; rfl
    · simp only [gS]; rw [show sfP l D N t = true from decide_eq_true (by omega), Bool.true_and]
      exact ih (t + 1) (by omega) (by omega)
theorem specSf_l2 {l : List Tk} (hok : Ok l) {D N : Int} (hD : 1 ≤ D ∧ D ≤ 144) (hN : 0 ≤ N ∧ N ≤ 288) : ∀ (n : Nat) (t : Int), t + n = hyp l + 1 → 1 ≤ t → Ex (fun k => spec_ServersFeasible.l2 k l D N (hyp l) t) (fun x => x = gS (sfP l D N) n t) := by
  have hh := hyp_bd hok
  intro n
  induction n with
  | zero =>
    intro t ht h1
    refine Ex.step ?_
    simp only [spec_ServersFeasible.l2]
    exact Ex.neg (by omega) (Ex.val rfl)
  | succ n ih =>
    intro t ht h1
    have hd := dem_bd hok t (by omega)
    have m1 := mul_bdS hd.1 (show dem l t ≤ 10000000 by omega) (show 0 ≤ D by omega) hD.2
    have m2 := mul_bdS (show 0 ≤ t by omega) (show t ≤ 248832 by omega) hN.1 hN.2
    have m3 := mul_bdS (show 0 ≤ t by omega) (show t ≤ 248832 by omega) (show 0 ≤ D by omega) hD.2
    refine Ex.step ?_
    simp only [spec_ServersFeasible.l2]
    refine Ex.pos (by omega) (Ex.bind (P := fun x => x = dem l t) (Ex.at_ 20 (fun k hk => specDem_eq l hok t (by omega) (by omega) k hk) rfl) ?_)
    rintro _ rfl
    rw [w64 (n := dem l t * D) (by omega) (by omega), w64 (n := t * N) (by omega) (by omega), w64 (n := dem l t * D + t * N) (by omega) (by omega), w64 (n := t * D) (by omega) (by omega), w64 (n := t + 1) (by omega) (by omega)]
    refine Ex.ite (fun h => Ex.val ?_) (fun h => ?_)
    · simp only [gS]; rw [show sfP l D N t = false from decide_eq_false (by omega)]; rfl
    · simp only [gS]; rw [show sfP l D N t = true from decide_eq_true (by omega), Bool.true_and]
      exact ih (t + 1) (by omega) (by omega)
theorem sv_bd {a : Sv} (h : SvOk a) : 1 ≤ a.f0 ∧ a.f0 ≤ 12 ∧ 1 ≤ a.f1 ∧ a.f1 ≤ 12 := by unfold SvOk at h; omega
theorem implSf_ex (l : List Tk) (s : List Sv) : Ex (fun k => impl_ServersFeasible.f k l s) (fun x => x = sfO l s) := by
  unfold impl_ServersFeasible.f
  simp only [implSet_eq, implServ_eq, Option.bind_some]
  have no : sfO l s = false → Ex (fun k => impl_ServersFeasible.j0 k l s true) (fun x => x = sfO l s) := fun e => by
    refine Ex.step ?_
    simp only [impl_ServersFeasible.j0]
    exact Ex.pos trivial (Ex.val e.symm)
  refine Ex.ite (fun h => ?_) (fun h => no ?_)
  · cases hs : servOk s with
    | false => exact no (by unfold sfO; rw [hs, h]; rfl)
    | true =>
      have hok := (setOk_iff l).mp h
      have hh := hyp_bd hok
      have hv := (servOk_iff s).mp hs
      unfold sfO
      rw [h, hs, Bool.true_and, Bool.true_and]
      refine Ex.step ?_
      simp only [impl_ServersFeasible.j0]
      refine Ex.neg (by simp) ?_
      have hn : (1 : Int) + (hypN l : Int) = hyp l + 1 := by unfold hyp; omega
      match s, hv with
      | [], _ =>
        refine Ex.step ?_
        simp only [impl_ServersFeasible.l0]
        refine Ex.neg (by simp) (Ex.step ?_)
        simp only [impl_ServersFeasible.l1]
        exact Ex.neg (by simp) (implSf_l2 hok (by (try simp only [sD]); omega) (by (try simp only [sN]); omega) _ 1 hn (by omega))
      | [a], hv =>
        have ha := sv_bd (hv.2 a (by simp))
        refine Ex.step ?_
        simp only [impl_ServersFeasible.l0]
        refine Ex.pos (by simp) (Ex.pos (by omega) (Ex.pos (by simp) (Ex.step ?_)))
        simp only [impl_ServersFeasible.l0]
        rw [show rd_T49 [a] 0 = a from rfl, w64 (n := 1 * a.f1) (by omega) (by omega), Int.one_mul]
        refine Ex.neg (by rw [w64 (by omega) (by omega)]; simp) (Ex.step ?_)
        simp only [impl_ServersFeasible.l1]
        rw [show rd_T49 [a] 0 = a from rfl, tdiv_pos (by omega), Int.ediv_self (by omega), w64 (n := 1) (by omega) (by omega), Int.one_mul, w64 (n := a.f0) (by omega) (by omega), Int.zero_add, w64 (n := a.f0) (by omega) (by omega)]
        refine Ex.pos (by simp) (Ex.pos (by omega) (Ex.pos (by simp) (Ex.neg (by omega) (Ex.step ?_))))
        simp only [impl_ServersFeasible.l1]
        refine Ex.neg (by rw [w64 (by omega) (by omega)]; simp) ?_
        exact implSf_l2 hok (by (try simp only [sD]); omega) (by (try simp only [sN]); omega) _ 1 hn (by omega)
      | [a, b], hv =>
        have ha := sv_bd (hv.2 a (by simp))
        have hb := sv_bd (hv.2 b (by simp))
        have m1 := mul_bdS (show 0 ≤ a.f1 by omega) ha.2.2.2 (show 0 ≤ b.f1 by omega) hb.2.2.2
        have m0 : 1 ≤ a.f1 * b.f1 := Int.mul_pos (show 0 < a.f1 by omega) (show 0 < b.f1 by omega)
        have m2 := mul_bdS (show 0 ≤ b.f1 by omega) hb.2.2.2 (show 0 ≤ a.f0 by omega) ha.2.1
        have m3 := mul_bdS (show 0 ≤ a.f1 by omega) ha.2.2.2 (show 0 ≤ b.f0 by omega) hb.2.1
        have w1 : wrap64 ((0 : Int) + 1) = 1 := by rw [w64 (by omega) (by omega)]; rfl
        have w2 : wrap64 ((1 : Int) + 1) = 2 := by rw [w64 (by omega) (by omega)]; rfl
        refine Ex.step ?_
        simp only [impl_ServersFeasible.l0]
        refine Ex.pos (by simp) (Ex.pos (by omega) (Ex.pos (by simp) (Ex.step ?_)))
        simp only [impl_ServersFeasible.l0, w1]
        refine Ex.pos (by simp) (Ex.pos (by omega) (Ex.pos (by simp) (Ex.step ?_)))
        simp only [impl_ServersFeasible.l0, w2]
        rw [show rd_T49 [a, b] 0 = a from rfl, show rd_T49 [a, b] 1 = b from rfl, w64 (n := 1 * a.f1) (by omega) (by omega), Int.one_mul, w64 (n := a.f1 * b.f1) (by omega) (by omega)]
        refine Ex.neg (by simp) (Ex.step ?_)
        simp only [impl_ServersFeasible.l1]
        refine Ex.pos (by simp) (Ex.pos (by omega) (Ex.pos (by simp) ?_))
        rw [show rd_T49 [a, b] 0 = a from rfl]
        refine Ex.neg (by omega) (Ex.step ?_)
        simp only [impl_ServersFeasible.l1, w1]
        refine Ex.pos (by simp) (Ex.pos (by omega) (Ex.pos (by simp) ?_))
        rw [show rd_T49 [a, b] 1 = b from rfl]
        refine Ex.neg (by omega) (Ex.step ?_)
        simp only [impl_ServersFeasible.l1, w2]
        rw [tdiv_pos (show 0 ≤ a.f1 * b.f1 by omega), tdiv_pos (show 0 ≤ a.f1 * b.f1 by omega), Int.mul_ediv_cancel_left _ (show a.f1 ≠ 0 by omega), Int.mul_ediv_cancel _ (show b.f1 ≠ 0 by omega)]
        rw [w64 (n := b.f1) (by omega) (by omega), w64 (n := b.f1 * a.f0) (by omega) (by omega), w64 (n := a.f1) (by omega) (by omega), w64 (n := a.f1 * b.f0) (by omega) (by omega), Int.zero_add, w64 (n := b.f1 * a.f0) (by omega) (by omega), w64 (n := b.f1 * a.f0 + a.f1 * b.f0) (by omega) (by omega)]
        refine Ex.neg (by simp) ?_
        exact implSf_l2 hok (by (try simp only [sD]); omega) (by (try simp only [sN]); omega) _ 1 hn (by omega)
      | a :: b :: c :: r, hv => exact absurd hv.1 (by simp)
  · unfold sfO; rw [show setOk l = false from by simpa using h]; rfl
/-- Both sides by one factor. -/
theorem sfP_scale (l : List Tk) (g D N t : Int) (hg : 1 ≤ g) : sfP l (g * D) (g * N) t = sfP l D N t := by
  unfold sfP
  rw [decide_eq_decide]
  have e1 : dem l t * (g * D) + t * (g * N) = g * (dem l t * D + t * N) := by
    rw [Int.mul_add, Int.mul_left_comm, Int.mul_left_comm t g N]
  have e2 : t * (g * D) = g * (t * D) := Int.mul_left_comm ..
  rw [e1, e2]
  exact ⟨fun h => Int.le_of_mul_le_mul_left h (by omega), fun h => Int.mul_le_mul_of_nonneg_left h (by omega)⟩
theorem gS_congr {P Q : Int → Bool} : ∀ (n : Nat) (c : Int), (∀ t, P t = Q t) → gS P n c = gS Q n c
  | 0, _, _ => rfl
  | n + 1, c, h => by simp only [gS]; rw [h c, gS_congr n (c + 1) h]
theorem specSf_ex (l : List Tk) (hl : l.length ≤ 1000000) (s : List Sv) (hsl : s.length ≤ 1000000) : Ex (fun k => spec_ServersFeasible.f k l s) (fun x => x = sfO l s) := by
  unfold spec_ServersFeasible.f
  have no : sfO l s = false → Ex (fun k => spec_ServersFeasible.j0 k l s true) (fun x => x = sfO l s) := fun e => by
    refine Ex.step ?_
    simp only [spec_ServersFeasible.j0]
    exact Ex.pos trivial (Ex.val e.symm)
  refine Ex.bind (setOk_exS l hl) ?_
  rintro _ rfl
  refine Ex.ite (fun h => ?_) (fun h => no ?_)
  · refine Ex.bind (specServ_ex s hsl) ?_
    rintro _ rfl
    cases hs : servOk s with
    | false => exact no (by unfold sfO; rw [hs, h]; rfl)
    | true =>
      have hok := (setOk_iff l).mp h
      have hh := hyp_bd hok
      have hv := (servOk_iff s).mp hs
      unfold sfO
      rw [h, hs, Bool.true_and, Bool.true_and]
      refine Ex.step ?_
      simp only [spec_ServersFeasible.j0]
      refine Ex.neg (by simp) ?_
      have hn : (1 : Int) + (hypN l : Int) = hyp l + 1 := by unfold hyp; omega
      have hyx : Ex (fun k => spec_l1Hyper.f k l) (fun x => x = hyp l) := Ex.at_ 20 (fun k hk => specHyper_eq l hok k hk) rfl
      match s, hv with
      | [], _ =>
        refine Ex.step ?_
        simp only [spec_ServersFeasible.l0]
        refine Ex.neg (by simp) (Ex.step ?_)
        simp only [spec_ServersFeasible.l1]
        refine Ex.neg (by simp) (Ex.bind hyx ?_)
        rintro _ rfl
        exact specSf_l2 hok (by (try simp only [sD]); omega) (by (try simp only [sN]); omega) _ 1 hn (by omega)
      | [a], hv =>
        have ha := sv_bd (hv.2 a (by simp))
        have w1 : wrap64 ((0 : Int) + 1) = 1 := by rw [w64 (by omega) (by omega)]; rfl
        refine Ex.step ?_
        simp only [spec_ServersFeasible.l0]
        rw [show rd_T49 [a] 0 = a from rfl]
        refine Ex.pos (by simp) (Ex.pos (by omega) (Ex.bind (P := fun x => x = 1) (Ex.at_ 20 (fun k hk => specGcdI 1 a.f1 (by omega) (by omega) k (by omega)) (by unfold gcdI; simp)) ?_))
        rintro _ rfl
        rw [tdiv_pos (by omega), show (1 : Int) / 1 = 1 from rfl, w64 (n := 1) (by omega) (by omega), Int.one_mul, w64 (n := a.f1) (by omega) (by omega), w1]
        refine Ex.neg (by omega) (Ex.step ?_)
        simp only [spec_ServersFeasible.l0]
        refine Ex.neg (by simp) (Ex.step ?_)
        simp only [spec_ServersFeasible.l1, w1]
        rw [show rd_T49 [a] 0 = a from rfl, tdiv_pos (by omega), Int.ediv_self (by omega), w64 (n := 1) (by omega) (by omega), Int.mul_one, w64 (n := a.f0) (by omega) (by omega), Int.zero_add, w64 (n := a.f0) (by omega) (by omega)]
        refine Ex.pos (by simp) (Ex.pos (by omega) (Ex.neg (by omega) (Ex.step ?_)))
        simp only [spec_ServersFeasible.l1]
        refine Ex.neg (by simp) (Ex.bind hyx ?_)
        rintro _ rfl
        exact specSf_l2 hok (by (try simp only [sD]); omega) (by (try simp only [sN]); omega) _ 1 hn (by omega)
      | [a, b], hv =>
        have ha := sv_bd (hv.2 a (by simp))
        have hb := sv_bd (hv.2 b (by simp))
        have w1 : wrap64 ((0 : Int) + 1) = 1 := by rw [w64 (by omega) (by omega)]; rfl
        have w2 : wrap64 ((1 : Int) + 1) = 2 := by rw [w64 (by omega) (by omega)]; rfl
        obtain ⟨g1, ea, eb, qa0, qa1, qb0, qb1, _⟩ := gcdI_spec a.f1 b.f1 (by omega) (by omega)
        obtain ⟨g, hg⟩ : ∃ g, gcdI a.f1 b.f1 = g := ⟨_, rfl⟩
        obtain ⟨qa, hqa⟩ : ∃ q, a.f1 / g = q := ⟨_, rfl⟩
        obtain ⟨qb, hqb⟩ : ∃ q, b.f1 / g = q := ⟨_, rfl⟩
        rw [hg] at g1 ea eb qa0 qa1 qb0 qb1
        rw [hqa] at ea qa0 qa1
        rw [hqb] at eb qb0 qb1
        have qa2 : 1 ≤ qa := by
          rcases Int.lt_or_le 0 qa with h' | h'
          · omega
          · have : qa = 0 := by omega
            rw [this, Int.mul_zero] at ea; omega
        have L0 := mul_bdS (show 0 ≤ qa by omega) (show qa ≤ 12 by omega) (show 0 ≤ b.f1 by omega) hb.2.2.2
        have L1 : 1 ≤ qa * b.f1 := Int.mul_pos (show 0 < qa by omega) (show 0 < b.f1 by omega)
        have eL : qa * b.f1 = a.f1 * qb := by
          conv => lhs; rw [eb]
          conv => rhs; rw [ea]
          rw [Int.mul_comm g qa, Int.mul_assoc]
        have m2 := mul_bdS (show 0 ≤ a.f0 by omega) ha.2.1 (show 0 ≤ qb by omega) (show qb ≤ 12 by omega)
        have m3 := mul_bdS (show 0 ≤ b.f0 by omega) hb.2.1 (show 0 ≤ qa by omega) (show qa ≤ 12 by omega)
        have d1 : qa * b.f1 / a.f1 = qb := by rw [eL]; exact Int.mul_ediv_cancel_left _ (by omega)
        have d2 : qa * b.f1 / b.f1 = qa := Int.mul_ediv_cancel _ (by omega)
        have ED : sD [a, b] = g * (qa * b.f1) := by
          simp only [sD]
          conv => lhs; rw [ea]
          rw [Int.mul_assoc]
        have EN : sN [a, b] = g * (a.f0 * qb + b.f0 * qa) := by
          simp only [sN]
          rw [Int.mul_add]
          conv => lhs; arg 1; rw [eb]
          conv => lhs; arg 2; rw [ea]
          rw [Int.mul_assoc, Int.mul_assoc, Int.mul_comm qb, Int.mul_comm qa]
        rw [gS_congr (hypN l) 1 (fun t => show sfP l (sD [a, b]) (sN [a, b]) t = sfP l (qa * b.f1) (a.f0 * qb + b.f0 * qa) t from by rw [ED, EN]; exact sfP_scale l g _ _ t g1)]
        refine Ex.step ?_
        simp only [spec_ServersFeasible.l0]
        rw [show rd_T49 [a, b] 0 = a from rfl]
        refine Ex.pos (by simp) (Ex.pos (by omega) (Ex.bind (P := fun x => x = 1) (Ex.at_ 20 (fun k hk => specGcdI 1 a.f1 (by omega) (by omega) k (by omega)) (by unfold gcdI; simp)) ?_))
        rintro _ rfl
        rw [tdiv_pos (by omega), show (1 : Int) / 1 = 1 from rfl, w64 (n := 1) (by omega) (by omega), Int.one_mul, w64 (n := a.f1) (by omega) (by omega), w1]
        refine Ex.neg (by omega) (Ex.step ?_)
        simp only [spec_ServersFeasible.l0, w2]
        rw [show rd_T49 [a, b] 1 = b from rfl]
        refine Ex.pos (by simp) (Ex.pos (by omega) (Ex.bind (P := fun x => x = g) (Ex.at_ 20 (fun k hk => specGcdI a.f1 b.f1 (by omega) (by omega) k (by omega)) hg) ?_))
        intro x hx
        rw [hx]
        refine Ex.neg (by omega) (Ex.step ?_)
        rw [tdiv_pos (by omega)]
        simp only [spec_ServersFeasible.l0]
        rw [hqa, w64 (n := qa) (by omega) (by omega), w64 (n := qa * b.f1) (by omega) (by omega)]
        refine Ex.neg (by simp) (Ex.step ?_)
        simp only [spec_ServersFeasible.l1, w1]
        rw [show rd_T49 [a, b] 0 = a from rfl]
        refine Ex.pos (by simp) (Ex.pos (by omega) (Ex.neg (by omega) (Ex.step ?_)))
        simp only [spec_ServersFeasible.l1, w2]
        rw [show rd_T49 [a, b] 1 = b from rfl]
        refine Ex.pos (by simp) (Ex.pos (by omega) (Ex.neg (by omega) (Ex.step ?_)))
        simp only [spec_ServersFeasible.l1]
        rw [tdiv_pos (show 0 ≤ qa * b.f1 by omega), tdiv_pos (show 0 ≤ qa * b.f1 by omega), d1, d2, w64 (n := qb) (by omega) (by omega), w64 (n := qa) (by omega) (by omega), w64 (n := a.f0 * qb) (by omega) (by omega), w64 (n := b.f0 * qa) (by omega) (by omega), Int.zero_add, w64 (n := a.f0 * qb) (by omega) (by omega), w64 (n := a.f0 * qb + b.f0 * qa) (by omega) (by omega)]
        refine Ex.neg (by simp) (Ex.bind hyx ?_)
        rintro _ rfl
        exact specSf_l2 hok ⟨L1, by omega⟩ ⟨by omega, by omega⟩ _ 1 hn (by omega)
      | a :: b :: c :: r, hv => exact absurd hv.1 (by simp)
  · unfold sfO; rw [show setOk l = false from by simpa using h]; rfl
theorem sfO_iff (l : List Tk) (s : List Sv) : sfO l s = true ↔ Ok l ∧ servOk s = true ∧ ∀ t, 1 ≤ t → t ≤ hyp l → dem l t * sD s + t * sN s ≤ t * sD s := by
  unfold sfO
  rw [Bool.and_eq_true, Bool.and_eq_true, setOk_iff, gS_iff]
  unfold sfP
  have e : hyp l = (hypN l : Int) := rfl
  simp only [decide_eq_true_iff]
  exact ⟨fun ⟨a, b, c⟩ => ⟨a, b, fun t h1 h2 => c t h1 (by omega)⟩, fun ⟨a, b, c⟩ => ⟨a, b, fun t h1 h2 => c t h1 (by omega)⟩⟩

end Go.Proofs.Ytabjigpbednfnaa.Pu
