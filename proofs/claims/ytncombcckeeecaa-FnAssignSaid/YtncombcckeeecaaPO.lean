import Derived.Test.YtncombcckeeecaaFA
set_option linter.unusedSimpArgs false
set_option linter.unusedVariables false
namespace Go.Proofs.Ytncombcckeeecaa.Pu
open Go.RowKit Go.Proofs.Ytncombcckeeecaa.Q Go.Proofs.YtncombcckeeecaaW.PrintWords Go.Proofs.YtncombcckeeecaaW.PrintLast

theorem w64 {n : Int} (h1 : -9223372036854775808 ≤ n) (h2 : n ≤ 9223372036854775807) : wrap64 n = n := by unfold wrap64; omega

theorem xor_i64 (a b : Int) (ha0 : 0 ≤ a) (ha : a < 4611686018427387904) (hb0 : 0 ≤ b) (hb : b < 4611686018427387904) : 0 ≤ Go.bits .xor .i64 a b ∧ Go.bits .xor .i64 a b < 4611686018427387904 := by
  obtain ⟨A, rfl⟩ := Int.eq_ofNat_of_zero_le ha0
  obtain ⟨B, rfl⟩ := Int.eq_ofNat_of_zero_le hb0
  have hx : A ^^^ B < 2 ^ 62 := Nat.xor_lt_two_pow (by omega) (by omega)
  have h1 : (BitVec.ofInt IntKind.i64.bits (A : Int)).toNat = A := by
    rw [BitVec.ofInt_natCast, BitVec.toNat_ofNat]; exact Nat.mod_eq_of_lt (by show A < 2 ^ 64; omega)
  have h2 : (BitVec.ofInt IntKind.i64.bits (B : Int)).toNat = B := by
    rw [BitVec.ofInt_natCast, BitVec.toNat_ofNat]; exact Nat.mod_eq_of_lt (by show B < 2 ^ 64; omega)
  have : Go.bits .xor .i64 (A : Int) (B : Int) = ((A ^^^ B : Nat) : Int) := by
    unfold Go.bits
    simp only []
    rw [BitVec.toNat_xor, h1, h2, IntKind.wrap_i64]
    omega
  rw [this]; omega

/-- What a reader's bytes are. -/
structure Bytes (b : List Int) : Prop where
  len : b.length ≤ 2000
  byte : ∀ x ∈ b, 0 ≤ x ∧ x ≤ 255
theorem Bytes.at_ {b : List Int} (h : Bytes b) (i : Int) : 0 ≤ rd b i ∧ rd b i ≤ 255 := by
  unfold rd
  rw [List.getD_eq_getElem?_getD]
  by_cases hi : i.toNat < b.length
  · rw [List.getElem?_eq_getElem hi, Option.getD_some]; exact h.byte _ (List.getElem_mem hi)
  · rw [List.getElem?_eq_none (by omega)]; simp

theorem tmod_bd (a n : Int) (h0 : 0 ≤ a) (hn : 1 ≤ n) : 0 ≤ Int.tmod a n ∧ Int.tmod a n < n := by
  rw [Int.tmod_eq_emod_of_nonneg h0]; exact ⟨Int.emod_nonneg _ (by omega), Int.emod_lt_of_pos _ (by omega)⟩

/-- A number is drawn: below n, or 0. -/
theorem pick_ev (b : List Int) (hb : Bytes b) (p n : Int) (hp0 : 0 ≤ p) (hp : p ≤ 1000000) :
    ∃ r, 0 ≤ r ∧ (r < n ∨ r = 0) ∧ ∀ k, spec_l20Rd_pick.f (k + 1) b p n = some (r, p + 1) := by
  have e1 : wrap64 (p + 1) = p + 1 := w64 (by omega) (by omega)
  by_cases hn : n < 1
  · refine ⟨0, by omega, Or.inr rfl, fun k => ?_⟩
    unfold spec_l20Rd_pick.f
    rw [if_pos hn, e1]
    simp only [spec_l20Rd_pick.j0]
    rfl
  by_cases hl : b.length = 0
  · refine ⟨0, by omega, Or.inr rfl, fun k => ?_⟩
    unfold spec_l20Rd_pick.f
    rw [if_neg hn, e1, hl]
    simp only [spec_l20Rd_pick.j0]
    rfl
  have e2 : wrap64 (p + 1 - 1) = p := by rw [w64 (by omega) (by omega)]; omega
  have hlen := hb.len
  by_cases hin : p < (b.length : Int)
  · have hr := hb.at_ p
    have e3 : wrap64 (rd b p) = rd b p := w64 (by omega) (by omega)
    refine ⟨Int.tmod (rd b p) n, (tmod_bd _ _ hr.1 (by omega)).1, Or.inl (tmod_bd _ _ hr.1 (by omega)).2, fun k => ?_⟩
    unfold spec_l20Rd_pick.f
    rw [if_neg hn, e1, show (((b.length : Int) == 0) = false) from beq_eq_false_iff_ne.mpr (by omega)]
    simp only [spec_l20Rd_pick.j0]
    rw [if_neg (by simp), e2, if_pos hin, if_pos hp0, if_neg (by omega), e3]
  · have hL : (1 : Int) ≤ (b.length : Int) := by omega
    have m1 := tmod_bd p (b.length : Int) hp0 hL
    have e4 : wrap64 (p * 7) = p * 7 := w64 (by omega) (by omega)
    have e5 : wrap64 (p * 7 + 3) = p * 7 + 3 := w64 (by omega) (by omega)
    have m2 := tmod_bd (p * 7 + 3) (b.length : Int) (by omega) hL
    have r1 := hb.at_ (Int.tmod p (b.length : Int))
    have r2 := hb.at_ (Int.tmod (p * 7 + 3) (b.length : Int))
    generalize hR1 : rd b (Int.tmod p (b.length : Int)) = R1 at r1
    generalize hR2 : rd b (Int.tmod (p * 7 + 3) (b.length : Int)) = R2 at r2
    have q0 : 0 ≤ Int.tdiv p (b.length : Int) := Int.tdiv_nonneg hp0 (by omega)
    have q1 : Int.tdiv p (b.length : Int) ≤ p := by
      rw [Int.tdiv_eq_ediv_of_nonneg hp0]; exact Int.ediv_le_self _ hp0
    generalize hQ : Int.tdiv p (b.length : Int) = Qq at q0 q1
    have f1 : wrap64 R1 = R1 := w64 (by omega) (by omega)
    have f2 : wrap64 R2 = R2 := w64 (by omega) (by omega)
    have f3 : wrap64 (R1 * 131) = R1 * 131 := w64 (by omega) (by omega)
    have f4 : wrap64 (R2 * 1117) = R2 * 1117 := w64 (by omega) (by omega)
    have f5 : wrap64 (R1 * 131 + R2 * 1117) = R1 * 131 + R2 * 1117 := w64 (by omega) (by omega)
    have f6 : wrap64 (p * 29) = p * 29 := w64 (by omega) (by omega)
    have f7 : wrap64 (R1 * 131 + R2 * 1117 + p * 29) = R1 * 131 + R2 * 1117 + p * 29 := w64 (by omega) (by omega)
    have f8 : wrap64 Qq = Qq := w64 (by omega) (by omega)
    have f9 : wrap64 (Qq * 53) = Qq * 53 := w64 (by omega) (by omega)
    have f10 : wrap64 (R1 * 131 + R2 * 1117 + p * 29 + Qq * 53) = R1 * 131 + R2 * 1117 + p * 29 + Qq * 53 := w64 (by omega) (by omega)
    have x0 : 0 ≤ R1 * 131 + R2 * 1117 + p * 29 + Qq * 53 := by omega
    have x1 : R1 * 131 + R2 * 1117 + p * 29 + Qq * 53 < 4611686018427387904 := by omega
    generalize hX : R1 * 131 + R2 * 1117 + p * 29 + Qq * 53 = X at x0 x1 f10
    have d0 : 0 ≤ Int.tdiv X 64 := Int.tdiv_nonneg x0 (by omega)
    have d1 : Int.tdiv X 64 ≤ X := by rw [Int.tdiv_eq_ediv_of_nonneg x0]; exact Int.ediv_le_self _ x0
    have f11 : wrap64 (Int.tdiv X 64) = Int.tdiv X 64 := w64 (by omega) (by omega)
    have hx := xor_i64 X (Int.tdiv X 64) x0 x1 d0 (by omega)
    refine ⟨Int.tmod (Go.bits .xor .i64 X (Int.tdiv X 64)) n, (tmod_bd _ _ hx.1 (by omega)).1, Or.inl (tmod_bd _ _ hx.1 (by omega)).2, fun k => ?_⟩
    unfold spec_l20Rd_pick.f
    rw [if_neg hn, e1, show (((b.length : Int) == 0) = false) from beq_eq_false_iff_ne.mpr (by omega)]
    simp only [spec_l20Rd_pick.j0]
    rw [if_neg (by simp), e2, if_neg hin, if_neg (by omega), if_pos m1.1, if_pos m1.2, e4, e5, if_pos m2.1, if_pos m2.2, if_neg (by omega), hR1, hR2, hQ, f1, f2, f3, f4, f5, f6, f7, f8, f9, hX, f10, f11]

theorem odd_ev (b : List Int) (hb : Bytes b) (p n : Int) (hp0 : 0 ≤ p) (hp : p ≤ 1000000) :
    ∃ r q, p ≤ q ∧ q ≤ p + 1 ∧ ∀ k, spec_l20Rd_odd.f (k + 1) b p n = some (r, q) := by
  by_cases h : n > 0
  · obtain ⟨r, _, _, hr⟩ := pick_ev b hb p n hp0 hp
    exact ⟨_, p + 1, by omega, by omega, fun k => by unfold spec_l20Rd_odd.f; rw [if_pos h, hr k]; rfl⟩
  · exact ⟨false, p, by omega, by omega, fun k => by unfold spec_l20Rd_odd.f; rw [if_neg h]⟩

end Go.Proofs.Ytncombcckeeecaa.Pu

set_option linter.unusedSimpArgs false
set_option linter.unusedVariables false
namespace Go.Proofs.Ytncombcckeeecaa.Pu
open Go.RowKit Go.Proofs.Ytncombcckeeecaa.Q Go.Proofs.YtncombcckeeecaaW.PrintWords Go.Proofs.YtncombcckeeecaaW.PrintLast

theorem rd_mem (l : List Int) (i : Int) (h0 : 0 ≤ i) (h : i < (l.length : Int)) : rd l i ∈ l := by
  unfold rd
  rw [List.getD_eq_getElem?_getD, List.getElem?_eq_getElem (show i.toNat < l.length by omega), Option.getD_some]
  exact List.getElem_mem _
theorem rd_bd (l : List Int) (lo hi i : Int) (h0 : 0 ≤ i) (h : i < (l.length : Int)) (hl : ∀ x ∈ l, lo ≤ x ∧ x ≤ hi) : lo ≤ rd l i ∧ rd l i ≤ hi := hl _ (rd_mem l i h0 h)
theorem mx_bd (a b : Int) : a ≤ mx a b ∧ b ≤ mx a b ∧ (mx a b = a ∨ mx a b = b) := by unfold mx; split <;> omega
theorem mn_bd (a b : Int) : mn a b ≤ a ∧ mn a b ≤ b ∧ (mn a b = a ∨ mn a b = b) := by unfold mn; split <;> omega

theorem open_ev (l0 : List Int) (h8 : ∀ x ∈ l0, (Lit.int .u8 x).wf = true) : ∃ b, Bytes b ∧ spec_l20Open.f l0 = some (b, 0) := by
  have hby : ∀ x ∈ l0, 0 ≤ x ∧ x ≤ 255 := fun x hx => by
    have := h8 x hx
    simp [Lit.wf, IntKind.min, IntKind.max, IntKind.signed, IntKind.bits] at this
    omega
  unfold spec_l20Open.f
  by_cases h : (l0.length : Int) > 2000
  · rw [if_pos h, if_pos (by omega)]
    exact ⟨_, ⟨by rw [List.length_take]; omega, fun x hx => hby x (List.mem_of_mem_take hx)⟩, rfl⟩
  · rw [if_neg h]
    exact ⟨_, ⟨by omega, hby⟩, rfl⟩

/-- A task is valid. -/
def tv (a b c : Int) : Bool := decide (1 ≤ a ∧ a ≤ 8 ∧ a ≤ b ∧ b ≤ c ∧ c ≤ 12)
theorem in_eq (a b c : Int) : impl_in.f a b c = some (decide (b ≤ a ∧ a ≤ c)) := by
  unfold impl_in.f
  by_cases h : a ≥ b
  · rw [if_pos h]; congr 1; rw [decide_eq_decide]; omega
  · rw [if_neg h]; congr 1; symm; rw [decide_eq_false_iff_not]; omega
theorem l1In_eq (a b c : Int) : spec_l1In.f a b c = some (decide (b ≤ a ∧ a ≤ c)) := in_eq a b c
theorem implTask_eq (a b c : Int) : impl_TaskValid.f a b c = some (tv a b c) := by
  unfold impl_TaskValid.f tv
  rw [in_eq, in_eq]
  simp only [Option.bind_some]
  by_cases h1 : 1 ≤ a ∧ a ≤ 8
  · rw [decide_eq_true h1]
    simp only [if_true]
    by_cases h2 : a ≤ b ∧ b ≤ c
    · rw [decide_eq_true h2]; simp only [if_true]; congr 1; rw [decide_eq_decide]; omega
    · rw [decide_eq_false h2]; simp only [Bool.false_eq_true, if_false]; congr 1; symm; rw [decide_eq_false_iff_not]; omega
  · rw [decide_eq_false h1]; simp only [Bool.false_eq_true, if_false]; congr 1; symm; rw [decide_eq_false_iff_not]; omega
theorem alive_eq : laws_alive.f = some true := by
  unfold laws_alive.f; rw [implTask_eq]; rfl
theorem tv_true {a b c : Int} (h : tv a b c = true) : 1 ≤ a ∧ a ≤ 8 ∧ a ≤ b ∧ b ≤ c ∧ c ≤ 12 := of_decide_eq_true h
theorem tv_mk {a b c : Int} (h : 1 ≤ a ∧ a ≤ 8 ∧ a ≤ b ∧ b ≤ c ∧ c ≤ 12) : tv a b c = true := decide_eq_true h
theorem tv_no {a b c : Int} (h : ¬ (1 ≤ a ∧ a ≤ 8 ∧ a ≤ b ∧ b ≤ c ∧ c ≤ 12)) : tv a b c = false := decide_eq_false h


end Go.Proofs.Ytncombcckeeecaa.Pu

set_option linter.unusedSimpArgs false
set_option linter.unusedVariables false
namespace Go.Proofs.Ytncombcckeeecaa.Pu
open Go.RowKit Go.Proofs.Ytncombcckeeecaa.Q Go.Proofs.YtncombcckeeecaaW.PrintWords Go.Proofs.YtncombcckeeecaaW.PrintLast

/-- With enough rounds, g answers something of which P holds. -/
def Ex {α : Type} (g : Nat → Option α) (P : α → Prop) : Prop := ∃ r, P r ∧ ∃ K, ∀ k, K ≤ k → g k = some r
section
variable {α β : Type} {P Q : α → Prop} {R : β → Prop} {c : Prop} [Decidable c] {a b g : Nat → Option α}
theorem Ex.val {r : α} (h : P r) : Ex (fun _ => some r) P := ⟨r, h, 0, fun _ _ => rfl⟩
theorem Ex.const {x : Option α} {r : α} (e : x = some r) (h : P r) : Ex (fun _ => x) P := ⟨r, h, 0, fun _ _ => e⟩
theorem Ex.at_ {r : α} (K : Nat) (e : ∀ k, K ≤ k → g k = some r) (h : P r) : Ex g P := ⟨r, h, K, e⟩
theorem Ex.bind {f : Nat → α → Option β} (h : Ex g P) (hf : ∀ r, P r → Ex (fun k => f k r) R) : Ex (fun k => (g k).bind (f k)) R := by
  obtain ⟨r, hr, K, hK⟩ := h
  obtain ⟨s, hs, L, hL⟩ := hf r hr
  refine ⟨s, hs, K + L, fun k hk => ?_⟩
  show (g k).bind (f k) = some s
  rw [hK k (by omega), Option.bind_some]
  exact hL k (by omega)
theorem Ex.ite (h1 : c → Ex a P) (h2 : ¬ c → Ex b P) : Ex (fun k => if c then a k else b k) P := by
  by_cases h : c
  · obtain ⟨r, hr, K, hK⟩ := h1 h
    exact ⟨r, hr, K, fun k hk => by show (if c then a k else b k) = some r; rw [if_pos h]; exact hK k hk⟩
  · obtain ⟨r, hr, K, hK⟩ := h2 h
    exact ⟨r, hr, K, fun k hk => by show (if c then a k else b k) = some r; rw [if_neg h]; exact hK k hk⟩
theorem Ex.pos (h : c) (h1 : Ex a P) : Ex (fun k => if c then a k else b k) P := Ex.ite (fun _ => h1) (fun h' => absurd h h')
theorem Ex.neg (h : ¬ c) (h1 : Ex b P) : Ex (fun k => if c then a k else b k) P := Ex.ite (fun h' => absurd h' h) (fun _ => h1)
theorem Ex.step (h : Ex (fun k => g (k + 1)) P) : Ex g P := by
  obtain ⟨r, hr, K, hK⟩ := h
  refine ⟨r, hr, K + 1, fun k hk => ?_⟩
  obtain ⟨k, rfl⟩ : ∃ m, k = m + 1 := ⟨k - 1, by omega⟩
  exact hK k (by omega)
theorem Ex.mono (h : Ex g P) (hPQ : ∀ r, P r → Q r) : Ex g Q := by
  obtain ⟨r, hr, K, hK⟩ := h
  exact ⟨r, hPQ r hr, K, hK⟩
theorem Ex.get {r : α} (h : Ex g (fun x => x = r)) : ∃ k, g k = some r := by
  obtain ⟨s, rfl, K, hK⟩ := h
  exact ⟨K, hK K (Nat.le_refl _)⟩
theorem Ex.congr {g' : Nat → Option α} (e : ∀ k, g k = g' k) (h : Ex g' P) : Ex g P := by
  have : g = g' := funext e
  rw [this]; exact h
end
theorem pick_ex {b : List Int} (hb : Bytes b) {p n : Int} (hp0 : 0 ≤ p) (hp : p ≤ 1000000) : Ex (fun k => spec_l20Rd_pick.f k b p n) (fun x => 0 ≤ x.1 ∧ (x.1 < n ∨ x.1 = 0) ∧ x.2 = p + 1) := by
  obtain ⟨r, h0, h1, h⟩ := pick_ev b hb p n hp0 hp
  refine ⟨(r, p + 1), ⟨h0, h1, rfl⟩, 1, fun k hk => ?_⟩
  obtain ⟨k, rfl⟩ : ∃ m, k = m + 1 := ⟨k - 1, by omega⟩
  exact h k
theorem odd_ex {b : List Int} (hb : Bytes b) {p n : Int} (hp0 : 0 ≤ p) (hp : p ≤ 1000000) : Ex (fun k => spec_l20Rd_odd.f k b p n) (fun x => p ≤ x.2 ∧ x.2 ≤ p + 1 ∧ (n ≤ 0 → x.1 = false)) := by
  by_cases h : n > 0
  · obtain ⟨r, h0, h1, hr⟩ := pick_ev b hb p n hp0 hp
    refine ⟨(r == wrap64 (n - 1), p + 1), ⟨by simp only []; omega, by simp only []; omega, fun h' => absurd h (by omega)⟩, 1, fun k hk => ?_⟩
    obtain ⟨k, rfl⟩ : ∃ m, k = m + 1 := ⟨k - 1, by omega⟩
    show spec_l20Rd_odd.f (k + 1) b p n = _
    unfold spec_l20Rd_odd.f
    rw [if_pos h, hr k]; rfl
  · refine ⟨(false, p), ⟨by simp only []; omega, by simp only []; omega, fun _ => rfl⟩, 1, fun k hk => ?_⟩
    show spec_l20Rd_odd.f k b p n = _
    unfold spec_l20Rd_odd.f
    rw [if_neg h]

end Go.Proofs.Ytncombcckeeecaa.Pu

set_option linter.unusedSimpArgs false
set_option linter.unusedVariables false
namespace Go.Proofs.Ytncombcckeeecaa.Pu
open Go.RowKit Go.Proofs.Ytncombcckeeecaa.Q Go.Proofs.YtncombcckeeecaaW.PrintWords Go.Proofs.YtncombcckeeecaaW.PrintLast

theorem specTask_eq (a b c : Int) : spec_TaskValid.f a b c = some (tv a b c) := by
  unfold spec_TaskValid.f tv
  rw [l1In_eq, l1In_eq, l1In_eq]
  simp only [Option.bind_some]
  by_cases h1 : 1 ≤ a ∧ a ≤ 8
  · rw [decide_eq_true h1]
    simp only [if_true]
    by_cases h2 : a ≤ b ∧ b ≤ c
    · rw [decide_eq_true h2]; simp only [if_true]; congr 1; rw [decide_eq_decide]; omega
    · rw [decide_eq_false h2]; simp only [Bool.false_eq_true, if_false]; congr 1; symm; rw [decide_eq_false_iff_not]; omega
  · rw [decide_eq_false h1]; simp only [Bool.false_eq_true, if_false]; congr 1; symm; rw [decide_eq_false_iff_not]; omega

end Go.Proofs.Ytncombcckeeecaa.Pu
