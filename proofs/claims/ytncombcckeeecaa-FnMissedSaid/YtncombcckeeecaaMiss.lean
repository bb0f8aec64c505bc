import Derived.Test.YtncombcckeeecaaJobsD
import Derived.Test.YtncombcckeeecaaFspecXDrawMissed
import Derived.Test.YtncombcckeeecaaFimplXMissed
import Derived.Test.YtncombcckeeecaaFspecXMissed
import Derived.Test.YtncombcckeeecaaFlawsXsameInts
set_option linter.unusedSimpArgs false
set_option linter.unusedVariables false
namespace Go.Proofs.Ytncombcckeeecaa.Pu
open Go.RowKit Go.Proofs.Ytncombcckeeecaa.Q Go.Proofs.YtncombcckeeecaaW.PrintWords Go.Proofs.YtncombcckeeecaaW.PrintLast

theorem sameInts_loop (l : List Int) (hl : l.length ≤ 1000) : ∀ (d j : Nat), j + d = l.length → Ex (fun k => laws_sameInts.l0 k l l (j : Int)) (fun x => x = true) := by
  intro d
  induction d with
  | zero =>
    intro j hj
    refine Ex.step ?_
    simp only [laws_sameInts.l0]
    exact Ex.neg (by omega) (Ex.val rfl)
  | succ d ih =>
    intro j hj
    refine Ex.step ?_
    simp only [laws_sameInts.l0]
    rw [w64 (n := (j : Int) + 1) (by omega) (by omega), show (j : Int) + 1 = ((j + 1 : Nat) : Int) from by omega]
    exact Ex.pos (by omega) (Ex.pos (by omega) (Ex.pos (by omega) (Ex.pos trivial (ih (j + 1) (by omega)))))
theorem sameInts_ex (l : List Int) (hl : l.length ≤ 1000) : Ex (fun k => laws_sameInts.f k l l) (fun x => x = true) := by
  unfold laws_sameInts.f
  exact Ex.pos rfl (sameInts_loop l hl l.length 0 (by omega))
/-- A job that is late or not finished. -/
def lateP (x : Jb) (f : Int) : Prop := x.f2 ≤ 120 ∧ (f < 0 ∨ f > x.f2)
instance (x : Jb) (f : Int) : Decidable (lateP x f) := by unfold lateP; infer_instance
def missL (js : List Jb) (fin : List Int) : Nat → Nat → List Int
  | 0, _ => []
  | d + 1, j => if lateP (rd_T44 js (j : Int)) (rd fin (j : Int)) then (j : Int) :: missL js fin d (j + 1) else missL js fin d (j + 1)
def missO (js : List Jb) (fin : List Int) : List Int := if fin.length = js.length then missL js fin js.length 0 else []
theorem missL_len (js : List Jb) (fin : List Int) : ∀ d j, (missL js fin d j).length ≤ d
  | 0, _ => by simp [missL]
  | d + 1, j => by
    have := missL_len js fin d (j + 1)
    rw [missL]
    split
    · rw [List.length_cons]; omega
    · omega
theorem missL_mem (js : List Jb) (fin : List Int) : ∀ (d j : Nat) (v : Int), v ∈ missL js fin d j ↔ ∃ i : Nat, j ≤ i ∧ i < j + d ∧ v = (i : Int) ∧ lateP (rd_T44 js (i : Int)) (rd fin (i : Int))
  | 0, j, v => ⟨fun h => by simp [missL] at h, fun ⟨i, h1, h2, _⟩ => by omega⟩
  | d + 1, j, v => by
    have ih := missL_mem js fin d (j + 1) v
    rw [missL]
    by_cases h : lateP (rd_T44 js (j : Int)) (rd fin (j : Int))
    · rw [if_pos h, List.mem_cons, ih]
      constructor
      · rintro (rfl | ⟨i, h1, h2, h3, h4⟩)
        · exact ⟨j, Nat.le_refl _, by omega, rfl, h⟩
        · exact ⟨i, by omega, by omega, h3, h4⟩
      · rintro ⟨i, h1, h2, h3, h4⟩
        by_cases e : i = j
        · left; rw [h3, e]
        · exact .inr ⟨i, by omega, by omega, h3, h4⟩
    · rw [if_neg h, ih]
      constructor
      · rintro ⟨i, h1, h2, h3, h4⟩; exact ⟨i, by omega, by omega, h3, h4⟩
      · rintro ⟨i, h1, h2, h3, h4⟩
        by_cases e : i = j
        · rw [e] at h4; exact absurd h4 h
        · exact ⟨i, by omega, by omega, h3, h4⟩
theorem missL_asc (js : List Jb) (fin : List Int) : ∀ (d j : Nat), (missL js fin d j).Pairwise (· < ·)
  | 0, _ => by simp [missL]
  | d + 1, j => by
    have ih := missL_asc js fin d (j + 1)
    rw [missL]
    split
    · rw [List.pairwise_cons]
      refine ⟨fun v hv => ?_, ih⟩
      obtain ⟨i, h1, h2, h3, _⟩ := (missL_mem js fin d (j + 1) v).mp hv
      omega
    · exact ih
theorem implMiss_loop (js : List Jb) (fin : List Int) (hl : js.length ≤ 100000) (hf : fin.length = js.length) : ∀ (d j : Nat) (acc : List Int), j + d = js.length → acc.length ≤ j → Ex (fun k => impl_missed.l0 k fin acc js (js.length : Int) (j : Int)) (fun x => x = acc ++ missL js fin d j) := by
  intro d
  induction d with
  | zero =>
    intro j acc hj ha
    refine Ex.step ?_
    simp only [impl_missed.l0]
    exact Ex.neg (by omega) (Ex.val (by simp [missL]))
  | succ d ih =>
    intro j acc hj ha
    refine Ex.step ?_
    simp only [impl_missed.l0]
    rw [jw1 (by omega)]
    have no : ¬ lateP (rd_T44 js (j : Int)) (rd fin (j : Int)) → Ex (fun k => impl_missed.l0 k fin acc js (js.length : Int) ((j + 1 : Nat) : Int)) (fun x => x = acc ++ missL js fin (d + 1) j) := fun h => by
      rw [missL, if_neg h]; exact ih (j + 1) acc (by omega) (by omega)
    have yes : lateP (rd_T44 js (j : Int)) (rd fin (j : Int)) → Ex (fun k => impl_missed.l0 k fin (acc ++ [(j : Int)]) js (js.length : Int) ((j + 1 : Nat) : Int)) (fun x => x = acc ++ missL js fin (d + 1) j) := fun h => by
      rw [missL, if_pos h]
      have := ih (j + 1) (acc ++ [(j : Int)]) (by omega) (by rw [List.length_append, List.length_singleton]; omega)
      rw [List.append_assoc, List.singleton_append] at this
      exact this
    refine Ex.pos (by omega) (Ex.pos (by omega) (Ex.pos (by omega) (Ex.ite (fun h1 => Ex.pos (by omega) (Ex.ite (fun h2 => Ex.pos (by omega) (yes ⟨h1, .inl h2⟩)) (fun h2 => Ex.ite (fun h3 => Ex.pos (by omega) (yes ⟨h1, .inr h3⟩)) (fun h3 => no (fun h => ?_))))) (fun h1 => no (fun h => h1 h.1)))))
    rcases h.2 with h' | h'
    · exact h2 h'
    · exact h3 h'
theorem implMiss_ex (js : List Jb) (hl : js.length ≤ 100000) (run fin : List Int) : Ex (fun k => impl_Missed.f k js run fin) (fun x => x = missO js fin) := by
  unfold impl_Missed.f
  refine Ex.bind (P := fun x => x = missO js fin) ?_ (fun x hx => Ex.val hx)
  unfold impl_missed.f missO
  refine Ex.ite (fun h => ?_) (fun h => Ex.val (by rw [if_neg (by omega)]))
  rw [if_pos (by omega)]
  exact Ex.mono (implMiss_loop js fin hl (by omega) js.length 0 [] (by omega) (by simp)) (fun x hx => by rw [hx, List.nil_append])
theorem specMiss_loop (js : List Jb) (run fin : List Int) (hl : js.length ≤ 100000) (hf : fin.length = js.length) : ∀ (d j : Nat) (acc : List Int), j + d = js.length → acc.length ≤ j → Ex (fun k => spec_l3Missed.l0 k js acc (j : Int) run fin) (fun x => x = acc ++ missL js fin d j) := by
  intro d
  induction d with
  | zero =>
    intro j acc hj ha
    refine Ex.step ?_
    simp only [spec_l3Missed.l0]
    exact Ex.neg (by omega) (Ex.val (by simp [missL]))
  | succ d ih =>
    intro j acc hj ha
    refine Ex.step ?_
    simp only [spec_l3Missed.l0]
    rw [jw1 (by omega)]
    have no : ¬ lateP (rd_T44 js (j : Int)) (rd fin (j : Int)) → Ex (fun k => spec_l3Missed.l0 k js acc ((j + 1 : Nat) : Int) run fin) (fun x => x = acc ++ missL js fin (d + 1) j) := fun h => by
      rw [missL, if_neg h]; exact ih (j + 1) acc (by omega) (by omega)
    have yes : lateP (rd_T44 js (j : Int)) (rd fin (j : Int)) → Ex (fun k => spec_l3Missed.l0 k js (acc ++ [(j : Int)]) ((j + 1 : Nat) : Int) run fin) (fun x => x = acc ++ missL js fin (d + 1) j) := fun h => by
      rw [missL, if_pos h]
      have := ih (j + 1) (acc ++ [(j : Int)]) (by omega) (by rw [List.length_append, List.length_singleton]; omega)
      rw [List.append_assoc, List.singleton_append] at this
      exact this
    refine Ex.pos (by omega) (Ex.pos (by omega) (Ex.ite (fun h1 => Ex.pos (by omega) (Ex.ite (fun h2 => Ex.pos (by omega) (yes ⟨h1, .inl h2⟩)) (fun h2 => Ex.ite (fun h3 => Ex.pos (by omega) (yes ⟨h1, .inr h3⟩)) (fun h3 => no (fun h => ?_))))) (fun h1 => no (fun h => h1 h.1))))
    rcases h.2 with h' | h'
    · exact h2 h'
    · exact h3 h'
theorem specMiss_ex (js : List Jb) (hl : js.length ≤ 100000) (run fin : List Int) : Ex (fun k => spec_Missed.f k js run fin) (fun x => x = missO js fin) := by
  unfold spec_Missed.f missO
  refine Ex.ite (fun h => ?_) (fun h => Ex.val (by rw [if_neg (by omega)]))
  rw [if_pos (by omega)]
  refine Ex.bind (P := fun x => x = missL js fin js.length 0) ?_ (fun x hx => Ex.val hx)
  unfold spec_l3Missed.f
  exact Ex.mono (specMiss_loop js run fin hl (by omega) js.length 0 [] (by omega) (by simp)) (fun x hx => by rw [hx, List.nil_append])
theorem best_loop (js : List Jb) (hl : js.length ≤ 100000) (lf ks : List Int) (h1 : lf.length = js.length) (h2 : ks.length = js.length) (now : Int) : ∀ (d j : Nat) (b : Int), j + d = js.length → -1 ≤ b → b < (js.length : Int) → Ex (fun k => spec_l3Best.l0 k js lf ks now b (j : Int)) (fun x => -1 ≤ x ∧ x < (js.length : Int)) := by
  intro d
  induction d with
  | zero =>
    intro j b hj hb0 hb
    refine Ex.step ?_
    simp only [spec_l3Best.l0]
    exact Ex.neg (by omega) (Ex.val ⟨hb0, hb⟩)
  | succ d ih =>
    intro j b hj hb0 hb
    refine Ex.step ?_
    simp only [spec_l3Best.l0]
    rw [jw1 (by omega)]
    have old := ih (j + 1) b (by omega) hb0 hb
    have new := ih (j + 1) (j : Int) (by omega) (by omega) (by omega)
    exact Ex.pos (by omega) (Ex.pos (by omega) (Ex.ite (fun _ => Ex.pos (by omega) (Ex.ite (fun _ => Ex.ite (fun _ => new) (fun h => Ex.pos (by omega) (Ex.pos (by omega) (Ex.pos (by omega) (Ex.ite (fun _ => new) (fun _ => old)))))) (fun _ => old))) (fun _ => old)))
theorem run_l1 (js : List Jb) (hl : js.length ≤ 100000) (ks : List Int) (h2 : ks.length = js.length) : ∀ (d now : Nat) (lf run fin : List Int), now + d = 120 → lf.length = js.length → fin.length = js.length → run.length ≤ now → Ex (fun k => spec_l3Run.l1 k js ks lf (now : Int) run fin) (fun x => x.2.length = js.length) := by
  intro d
  induction d with
  | zero =>
    intro now lf run fin hn h1 h3 h4
    refine Ex.step ?_
    simp only [spec_l3Run.l1]
    exact Ex.neg (by omega) (Ex.val h3)
  | succ d ih =>
    intro now lf run fin hn h1 h3 h4
    refine Ex.step ?_
    simp only [spec_l3Run.l1, Option.bind_some]
    unfold spec_l3Best.f
    refine Ex.pos (by omega) (Ex.bind (best_loop js hl lf ks h1 h2 now js.length 0 (-1) (by omega) (by omega) (by omega)) ?_)
    intro r hr
    rw [jw1 (by omega)]
    have hlen : (run ++ [r]).length ≤ now + 1 := by rw [List.length_append, List.length_singleton]; omega
    refine Ex.pos (by omega) (Ex.ite (fun h5 => Ex.pos (by omega) (Ex.pos (by omega) (Ex.ite (fun _ => Ex.pos (by omega) (ih (now + 1) _ _ _ (by omega) (by rw [List.length_set]; exact h1) (by rw [List.length_set]; exact h3) hlen)) (fun _ => ih (now + 1) _ _ _ (by omega) (by rw [List.length_set]; exact h1) h3 hlen)))) (fun _ => ih (now + 1) _ _ _ (by omega) h1 h3 hlen))
theorem run_l0 (js : List Jb) (hl : js.length ≤ 100000) (ks : List Int) (h2 : ks.length = js.length) : ∀ (d j : Nat) (lf fin : List Int), j + d = js.length → lf.length = j → fin.length = j → Ex (fun k => spec_l3Run.l0 k js ks lf (j : Int) fin) (fun x => x.2.length = js.length) := by
  intro d
  induction d with
  | zero =>
    intro j lf fin hj h1 h3
    refine Ex.step ?_
    simp only [spec_l3Run.l0]
    exact Ex.neg (by omega) (run_l1 js hl ks h2 120 0 lf [] fin (by omega) (by omega) (by omega) (by simp))
  | succ d ih =>
    intro j lf fin hj h1 h3
    refine Ex.step ?_
    simp only [spec_l3Run.l0]
    rw [jw1 (by omega)]
    exact Ex.pos (by omega) (Ex.pos (by omega) (Ex.pos (by omega) (Ex.pos (by omega) (ih (j + 1) _ _ (by omega) (by rw [List.length_append, List.length_singleton]; omega) (by rw [List.length_append, List.length_singleton]; omega)))))
theorem ddl_loop (js : List Jb) (hl : js.length ≤ 100000) : ∀ (d j : Nat) (acc : List Int), j + d = js.length → acc.length = j → Ex (fun k => spec_l3Deadlines.l0 k js acc (j : Int)) (fun x => x.length = js.length) := by
  intro d
  induction d with
  | zero =>
    intro j acc hj ha
    refine Ex.step ?_
    simp only [spec_l3Deadlines.l0]
    exact Ex.neg (by omega) (Ex.val (by omega))
  | succ d ih =>
    intro j acc hj ha
    refine Ex.step ?_
    simp only [spec_l3Deadlines.l0]
    rw [jw1 (by omega)]
    exact Ex.pos (by omega) (Ex.pos (by omega) (Ex.pos (by omega) (ih (j + 1) _ (by omega) (by rw [List.length_append, List.length_singleton]; omega))))
theorem runEdf_ex {l : List Tk} (ho : Ok l) {js : List Jb} (h : LegT l js) : Ex (fun k => spec_RunEdf.f k l js) (fun x => x.2.length = js.length) := by
  have h1 := ho.len
  have h2 := h.len
  unfold spec_RunEdf.f
  refine Ex.bind (specJobs_ex l (by omega) js (by omega)) (fun b hb => Ex.pos (hb.mpr ⟨ho, h⟩) ?_)
  unfold spec_l3Deadlines.f
  refine Ex.bind (ddl_loop js (by omega) js.length 0 [] (by omega) (by simp)) (fun ks hk => ?_)
  unfold spec_l3Run.f
  exact Ex.bind (run_l0 js (by omega) ks hk js.length 0 [] [] (by omega) (by simp) (by simp)) (fun x hx => Ex.val hx)
/-- A set of which no task may be spoilt is valid. -/
theorem set0_l0 {b : List Int} (hb : Bytes b) : ∀ (d : Nat) (l : List Tk) (p : Int), d + l.length ≤ 5 → (∀ t ∈ l, 1 ≤ t.f0 ∧ t.f0 ≤ 8 ∧ t.f0 ≤ t.f1 ∧ t.f1 ≤ t.f2 ∧ t.f2 ≤ 12) → 0 ≤ p → p ≤ 880000 - 20 * (d : Int) → Ex (fun k => spec_l20Set.l0 k 0 l (d : Int) b p) (fun x => Ok x.1 ∧ p ≤ x.2 ∧ x.2 ≤ p + 20 * (d + 1 : Int)) := by
  intro d
  induction d with
  | zero =>
    intro l p hl hv hp0 hp
    refine Ex.step ?_
    simp only [spec_l20Set.l0]
    refine Ex.neg (by omega) (Ex.bind (odd_ex hb hp0 (by omega)) ?_)
    rintro ⟨o, q⟩ ⟨h1, h2, h3⟩
    simp only [] at h1 h2 h3 ⊢
    rw [h3 (by omega)]
    exact Ex.neg (by simp) (Ex.val ⟨⟨by simp only []; omega, hv⟩, by simp only []; omega, by simp only []; omega⟩)
  | succ d ih =>
    intro l p hl hv hp0 hp
    obtain ⟨c, e, f, q, q0, q1, _, _, _, hval, ht⟩ := task_ev b hb p 0 hp0 (by omega)
    have hv0 := hval (by omega)
    refine Ex.step ?_
    simp only [spec_l20Set.l0]
    refine Ex.pos (by omega) (Ex.bind (Ex.at_ 2 (fun k hk => by obtain ⟨k, rfl⟩ : ∃ m, k = m + 2 := ⟨k - 2, by omega⟩; exact ht k) (P := fun x => x = (c, e, f, q)) rfl) ?_)
    intro x hx
    rw [hx, w64 (n := ((d + 1 : Nat) : Int) - 1) (by omega) (by omega), show ((d + 1 : Nat) : Int) - 1 = (d : Int) by omega]
    simp only []
    refine Ex.pos (by omega) (Ex.mono (ih _ q ?_ ?_ (by omega) (by omega)) (fun y hy => ⟨hy.1, by omega, by omega⟩))
    · rw [List.length_append, List.length_singleton]; omega
    · intro t ht'
      rw [List.mem_append, List.mem_singleton] at ht'
      rcases ht' with h | rfl
      · exact hv t h
      · exact ⟨by show 1 ≤ c; omega, by show c ≤ 8; omega, by show c ≤ e; omega, by show e ≤ f; omega, by show f ≤ 12; omega⟩
theorem set0_ex {b : List Int} (hb : Bytes b) {p : Int} (hp0 : 0 ≤ p) (hp : p ≤ 1000) : Ex (fun k => spec_l20Set.f k b p 0) (fun x => Ok x.1 ∧ p ≤ x.2 ∧ x.2 ≤ p + 200) := by
  unfold spec_l20Set.f
  refine Ex.bind (pick_ex hb hp0 (by omega)) ?_
  rintro ⟨r, q⟩ ⟨h1, h2, h3⟩
  simp only [] at h1 h2 h3 ⊢
  obtain ⟨d, rfl⟩ := Int.eq_ofNat_of_zero_le h1
  exact Ex.mono (set0_l0 hb d [] q (by simp; omega) (by simp) (by omega) (by omega)) (fun x hx => ⟨hx.1, by omega, by omega⟩)
theorem drawM_ex (l0 : List Int) (h8 : ∀ x ∈ l0, (Lit.int .u8 x).wf = true) : Ex (fun k => spec_DrawMissed.f k l0) (fun x => x.1.length ≤ 61 ∧ x.2.2.length ≤ 62) := by
  obtain ⟨b, hb, ho⟩ := open_ev l0 h8
  unfold spec_DrawMissed.f
  rw [ho]
  simp only [Option.bind_some]
  refine Ex.bind (set0_ex hb (by omega) (by omega)) ?_
  rintro ⟨l, q⟩ ⟨hl, q0, q1⟩
  simp only [] at hl q0 q1 ⊢
  refine Ex.bind (jobs_ex hl hb 0 (by omega) (by omega)) ?_
  rintro ⟨js, q2⟩ ⟨hj, p0, p1, hleg⟩
  simp only [] at hj p0 p1 hleg ⊢
  refine Ex.bind (runEdf_ex hl (hleg (by omega))) ?_
  rintro ⟨run, fin⟩ hf
  simp only [] at hf ⊢
  refine Ex.bind (pick_ex hb p0 (by omega)) ?_
  rintro ⟨r, q3⟩ ⟨a1, a2, a3⟩
  simp only [] at a1 a2 a3 ⊢
  refine Ex.ite (fun _ => Ex.pos (by omega) (Ex.val ⟨hj, by simp only [List.length_append, List.length_singleton]; omega⟩)) (fun _ => Ex.ite (fun _ => Ex.ite (fun h => ?_) (fun _ => Ex.val ⟨hj, by simp only []; omega⟩)) (fun _ => Ex.val ⟨hj, by simp only []; omega⟩))
  refine Ex.bind (pick_ex hb (by omega) (by omega)) ?_
  rintro ⟨r2, q4⟩ ⟨c1, c2, c3⟩
  simp only [] at c1 c2 c3 ⊢
  refine Ex.bind (pick_ex hb (by omega) (by omega)) ?_
  rintro ⟨r3, q5⟩ ⟨d1, d2, d3⟩
  simp only [] at d1 d2 d3 ⊢
  exact Ex.pos c1 (Ex.pos (by omega) (Ex.val ⟨hj, by simp only [List.length_set]; omega⟩))

end Go.Proofs.Ytncombcckeeecaa.Pu
