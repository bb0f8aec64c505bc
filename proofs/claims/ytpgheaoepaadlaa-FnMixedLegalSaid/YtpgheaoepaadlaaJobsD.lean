import Derived.Test.YtpgheaoepaadlaaJobsS
import Derived.Test.YtpgheaoepaadlaaFspecXl20Jobs
set_option linter.unusedSimpArgs false
set_option linter.unusedVariables false
namespace Go.Proofs.Ytpgheaoepaadlaa.Pu
open Go.RowKit Go.Proofs.Ytpgheaoepaadlaa.Q Go.Proofs.YtpgheaoepaadlaaW.PrintWords Go.Proofs.YtpgheaoepaadlaaW.PrintLast

/-- The drawn jobs so far: legal, the next releases known, all before (now, i). -/
structure Dj (l : List Tk) (js : List Jb) (x : List Int) (now i : Int) : Prop where
  leg : LegT l js
  nx : Nx l js x
  lt : ∀ y ∈ js, y.f1 < now ∨ (y.f1 = now ∧ y.f0 < i)
theorem Dj.next {l : List Tk} {js : List Jb} {x : List Int} {now i : Int} (h : Dj l js x now i) : Dj l js x now (i + 1) := ⟨h.leg, h.nx, fun y hy => by have := h.lt y hy; omega⟩
theorem Dj.tick {l : List Tk} {js : List Jb} {x : List Int} {now i : Int} (h : Dj l js x now i) (hi : ∀ y ∈ js, y.f0 < i) : Dj l js x (now + 1) 0 := ⟨h.leg, h.nx, fun y hy => by have := h.lt y hy; omega⟩
theorem Dj.put {l : List Tk} {js : List Jb} {x : List Int} {now : Int} {i : Nat} (ho : Ok l) (h : Dj l js x now (i : Int)) (h60 : js.length < 60) (hi : i < l.length) (hn0 : 0 ≤ now) (hn : now ≤ 119) (hx : ¬ (now < rd x (i : Int))) {e : Int} (he1 : 1 ≤ e) (he : e ≤ costT l (i : Int)) : Dj l (js ++ [(⟨(i : Int), now, wrap64 (now + ddlT l (i : Int)), e⟩ : Jb)]) (x.set i (now + perT l (i : Int))) now ((i : Int) + 1) := by
  refine ⟨h.leg.snoc h60 ⟨⟨by show (0 : Int) ≤ (i : Int); omega, by show (i : Int) < (l.length : Int); omega⟩, ⟨hn0, hn⟩, ⟨he1, he⟩⟩ (fun y hy => h.lt y hy) ?_ rfl, ?_, fun y hy => ?_⟩
  · rw [h.nx.at_ i hi] at hx
    exact (nxt_iff hn0).mp hx
  · exact h.nx.step (⟨(i : Int), now, wrap64 (now + ddlT l (i : Int)), e⟩ : Jb) (by show (0 : Int) ≤ (i : Int); omega) (by show (i : Int) < (l.length : Int); omega)
  · rw [List.mem_append, List.mem_singleton] at hy
    rcases hy with hy | rfl
    · have := h.lt y hy; omega
    · right; exact ⟨rfl, by show (i : Int) < (i : Int) + 1; omega⟩
/-- What the drawing of jobs answers: at most 61 jobs, and legal ones if none may be spoilt. -/
def DjR (l : List Tk) (n : Int) (x : List Jb × Int) : Prop := x.1.length ≤ 61 ∧ 0 ≤ x.2 ∧ x.2 ≤ 900000 ∧ (n ≤ 0 → LegT l x.1)
theorem jobs_l2 {l : List Tk} {b : List Int} : ∀ (d : Nat) (js : List Jb) (p : Int), d + js.length = 61 → 0 ≤ p → p ≤ 900000 → Ex (fun k => spec_l20Jobs.l2 k js b p) (fun x => x.1.length ≤ 61 ∧ 0 ≤ x.2 ∧ x.2 ≤ 900000) := by
  intro d
  induction d with
  | zero =>
    intro js p hd hp0 hp
    refine Ex.step ?_
    simp only [spec_l20Jobs.l2]
    exact Ex.neg (by omega) (Ex.val ⟨by simp only []; omega, hp0, hp⟩)
  | succ d ih =>
    intro js p hd hp0 hp
    refine Ex.step ?_
    simp only [spec_l20Jobs.l2]
    exact Ex.pos (by omega) (Ex.pos (by omega) (ih _ p (by rw [List.length_append, List.length_singleton]; omega) hp0 hp))
theorem jobs_j3 {l : List Tk} {b : List Int} (hb : Bytes b) {js : List Jb} (h60 : js.length ≤ 60) {p : Int} (hp0 : 0 ≤ p) (hp : p ≤ 890000) {c : Bool} (hc : c = true → 0 < js.length) : Ex (fun k => spec_l20Jobs.j3 k l js c b p) (fun x => x.1.length ≤ 61 ∧ 0 ≤ x.2 ∧ x.2 ≤ 900000 ∧ (c = false → x.1 = js)) := by
  refine Ex.step ?_
  simp only [spec_l20Jobs.j3, Option.bind_some]
  refine Ex.ite (fun h1 => ?_) (fun h1 => Ex.val ⟨by simp only []; omega, hp0, by simp only []; omega, fun _ => rfl⟩)
  have hpos := hc h1
  have hcf : c ≠ false := by rw [h1]; simp
  refine Ex.bind (pick_ex hb hp0 (by omega)) ?_
  rintro ⟨r, q⟩ ⟨a1, a2, a3⟩
  simp only [] at a1 a2 a3 ⊢
  refine Ex.bind (pick_ex hb (by omega) (by omega)) ?_
  rintro ⟨r2, q2⟩ ⟨c1, c2, c3⟩
  simp only [] at c1 c2 c3 ⊢
  have fin : ∀ (js' : List Jb) (q' : Int), js'.length ≤ 61 → 0 ≤ q' → q' ≤ 900000 → Ex (fun _ => some (js', q')) (fun x => x.1.length ≤ 61 ∧ 0 ≤ x.2 ∧ x.2 ≤ 900000 ∧ (c = false → x.1 = js)) := fun js' q' e1 e2 e3 => Ex.val ⟨e1, e2, e3, fun h => absurd h hcf⟩
  refine Ex.ite (fun h2 => ?_) (fun h2 => Ex.ite (fun h3 => ?_) (fun h3 => Ex.ite (fun h4 => ?_) (fun h4 => Ex.ite (fun h5 => ?_) (fun h5 => Ex.ite (fun h6 => ?_) (fun h6 => ?_)))))
  · refine Ex.bind (pick_ex hb (by omega) (by omega)) ?_
    rintro ⟨r3, q3⟩ ⟨d1, d2, d3⟩
    simp only [] at d1 d2 d3 ⊢
    exact Ex.pos d1 (Ex.pos (by simp; omega) (Ex.pos (by omega) (Ex.pos (by omega) (fin _ _ (by rw [List.length_set]; omega) (by omega) (by omega)))))
  · refine Ex.pos (by omega) (Ex.pos (by omega) (Ex.bind (pick_ex hb (by omega) (by omega)) ?_))
    rintro ⟨r3, q3⟩ ⟨d1, d2, d3⟩
    simp only [] at d1 d2 d3 ⊢
    exact Ex.pos d1 (Ex.pos (by simp; omega) (fin _ _ (by rw [List.length_set]; omega) (by omega) (by omega)))
  · exact Ex.pos (by omega) (Ex.pos (by omega) (fin _ _ (by rw [List.length_set]; omega) (by omega) (by omega)))
  · refine Ex.bind (pick_ex hb (by omega) (by omega)) ?_
    rintro ⟨r3, q3⟩ ⟨d1, d2, d3⟩
    simp only [] at d1 d2 d3 ⊢
    exact Ex.pos d1 (Ex.pos (by simp; omega) (Ex.pos (by omega) (Ex.pos (by omega) (fin _ _ (by rw [List.length_set]; omega) (by omega) (by omega)))))
  · exact Ex.pos (by omega) (Ex.pos (by omega) (Ex.pos (by omega) (fin _ _ (by rw [List.length_append, List.length_singleton]; omega) (by omega) (by omega))))
  · exact Ex.mono (jobs_l2 (l := l) (61 - js.length) js q2 (by omega) (by omega) (by omega)) (fun x hx => ⟨hx.1, hx.2.1, hx.2.2, fun h => absurd h hcf⟩)
theorem jobs_l01 {l : List Tk} (ho : Ok l) {b : List Int} (hb : Bytes b) (n : Int) (dense : Int) (hd0 : 0 ≤ dense) (hd2 : dense ≤ 2) : ∀ (d now : Nat), now + d = 100 →
    (∀ (js : List Jb) (x : List Int) (p : Int), Dj l js x (now : Int) 0 → 0 ≤ p → p ≤ 20 * (now : Int) + 100000 → Ex (fun k => spec_l20Jobs.l0 k l n js x dense (now : Int) b p) (DjR l n)) := by
  intro d
  induction d with
  | zero =>
    intro now hnow js x p h hp0 hp
    refine Ex.step ?_
    simp only [spec_l20Jobs.l0]
    refine Ex.neg (by omega) (Ex.bind (odd_ex hb hp0 (by omega)) ?_)
    rintro ⟨o, q⟩ ⟨h1, h2, h3⟩
    simp only [] at h1 h2 h3 ⊢
    refine Ex.ite (fun hh => ?_) (fun hh => ?_)
    · have hn : ¬ n ≤ 0 := fun h' => by rw [h3 h'] at hh; exact absurd hh (by simp)
      exact Ex.mono (jobs_j3 (l := l) hb h.leg.len (by omega) (by omega) (fun h' => by have := of_decide_eq_true h'; omega)) (fun x hx => ⟨hx.1, hx.2.1, hx.2.2.1, fun h' => absurd h' hn⟩)
    · exact Ex.mono (jobs_j3 (l := l) (c := false) hb h.leg.len (by omega) (by omega) (fun h' => by simp at h')) (fun x hx => ⟨hx.1, hx.2.1, hx.2.2.1, fun _ => by rw [hx.2.2.2 rfl]; exact h.leg⟩)
  | succ d ih =>
    intro now hnow
    have hlen := ho.len
    have inner : ∀ (e i : Nat), i + e = l.length → ∀ (js : List Jb) (x : List Int) (p : Int), Dj l js x (now : Int) (i : Int) → (∀ y ∈ js, y.f0 < (l.length : Int)) → 0 ≤ p → p ≤ 20 * (now : Int) + 3 * (i : Int) + 100000 → Ex (fun k => spec_l20Jobs.l1 k l n js x dense (now : Int) (i : Int) b p) (DjR l n) := by
      intro e
      induction e with
      | zero =>
        intro i hi js x p h hf hp0 hp
        refine Ex.step ?_
        simp only [spec_l20Jobs.l1]
        rw [jw1 (by omega)]
        refine Ex.neg (by omega) (ih (now + 1) (by omega) js x p ?_ hp0 (by omega))
        have := h.tick (fun y hy => by have := hf y hy; omega)
        rw [show ((now + 1 : Nat) : Int) = (now : Int) + 1 by omega]
        exact this
      | succ e ihe =>
        intro i hi js x p h hf hp0 hp
        have h60 := h.leg.len
        have hxl := h.nx.len
        have hi1 : ((i + 1 : Nat) : Int) = (i : Int) + 1 := by omega
        have skip : ∀ (q : Int), p ≤ q → q ≤ p + 3 → Ex (fun k => spec_l20Jobs.j2 k l n js x dense (now : Int) (i : Int) true b q) (DjR l n) := fun q hq0 hq => Ex.step (by
          simp only [spec_l20Jobs.j2]
          rw [jw1 (by omega)]
          exact Ex.pos (by simp) (ihe (i + 1) (by omega) js x q (by rw [hi1]; exact h.next) hf (by omega) (by omega)))
        have take : ∀ (q : Int), p ≤ q → q ≤ p + 1 → js.length ≠ 60 → ¬ ((now : Int) < rd x (i : Int)) → Ex (fun k => spec_l20Jobs.j2 k l n js x dense (now : Int) (i : Int) false b q) (DjR l n) := fun q hq0 hq hne hnx => Ex.step (by
          simp only [spec_l20Jobs.j2]
          have hr := ho.rd i (by omega)
          unfold rdT at hr
          have hwp : wrap64 ((now : Int) + (rd_T66 l (i : Int)).f2) = (now : Int) + perT l (i : Int) := w64 (by omega) (by omega)
          rw [jw1 (j := i) (by omega), hwp]
          refine Ex.neg (by simp) (Ex.pos (by omega) (Ex.pos (by omega) (Ex.bind (pick_ex hb (by omega) (by omega)) ?_)))
          rintro ⟨r1, q1⟩ ⟨a1, a2, a3⟩
          simp only [] at a1 a2 a3 ⊢
          have go : ∀ (e' q' : Int), 1 ≤ e' → e' ≤ costT l (i : Int) → p ≤ q' → q' ≤ p + 3 → Ex (fun k => if js.length < 4398046511104 then (if (i : Int) < (x.length : Int) then (spec_l20Jobs.l1 k l n (js ++ [(⟨(i : Int), (now : Int), wrap64 ((now : Int) + (rd_T66 l (i : Int)).f1), e'⟩ : Jb)]) (x.set ((i : Int) : Int).toNat ((now : Int) + perT l (i : Int))) dense (now : Int) ((i + 1 : Nat) : Int) b q') else none) else none) (DjR l n) := fun e' q' b1 b2 b3 b4 => by
            have hput := h.put ho (by omega) (show i < l.length by omega) (by omega) (by omega) hnx b1 b2
            refine Ex.pos (by omega) (Ex.pos (by omega) (ihe (i + 1) (by omega) _ _ q' ?_ ?_ (by omega) (by omega)))
            · rw [hi1, Int.toNat_natCast]; exact hput
            · intro y hy
              rw [List.mem_append, List.mem_singleton] at hy
              rcases hy with hy | rfl
              · exact hf y hy
              · show (i : Int) < (l.length : Int); omega
          refine Ex.ite (fun _ => ?_) (fun _ => go _ q1 (by omega) (Int.le_refl _) (by omega) (by omega))
          refine Ex.bind (pick_ex hb (by omega) (by omega)) ?_
          rintro ⟨r2, q2⟩ ⟨c1, c2, c3⟩
          simp only [] at c1 c2 c3 ⊢
          rw [w64 (n := 1 + r2) (by omega) (by omega)]
          exact go _ q2 (by omega) (by unfold costT; omega) (by omega) (by omega))
        refine Ex.step ?_
        simp only [spec_l20Jobs.l1]
        refine Ex.pos (by omega) (Ex.pos (by omega) (Ex.pos (by omega) (Ex.ite (fun _ => skip p (by omega) (by omega)) (fun h2 => Ex.ite (fun _ => skip p (by omega) (by omega)) (fun h3 => Ex.ite (fun _ => ?_) (fun _ => take p (by omega) (by omega) (by omega) h2))))))
        refine Ex.bind (pick_ex hb hp0 (by omega)) ?_
        rintro ⟨r1, q1⟩ ⟨a1, a2, a3⟩
        simp only [] at a1 a2 a3 ⊢
        by_cases h4 : r1 > 1
        · rw [decide_eq_true h4]; exact skip q1 (by omega) (by omega)
        · rw [decide_eq_false h4]; exact take q1 (by omega) (by omega) (by omega) h2
    intro js x p h hp0 hp
    refine Ex.step ?_
    simp only [spec_l20Jobs.l0]
    refine Ex.pos (by omega) (inner l.length 0 (by omega) js x p h ?_ hp0 (by omega))
    intro y hy
    obtain ⟨j, hj, rfl⟩ := List.getElem_of_mem hy
    have := (h.leg.a j hj).1.2
    rw [rdJ_get js j hj] at this
    exact this
theorem jobs_ex {l : List Tk} (ho : Ok l) {b : List Int} (hb : Bytes b) (n : Int) {p : Int} (hp0 : 0 ≤ p) (hp : p ≤ 90000) : Ex (fun k => spec_l20Jobs.f k b p l n) (DjR l n) := by
  unfold spec_l20Jobs.f
  have := ho.len
  refine Ex.pos (by omega) (Ex.pos (by omega) (Ex.bind (pick_ex hb hp0 (by omega)) ?_))
  rintro ⟨r, q⟩ ⟨h1, h2, h3⟩
  simp only [] at h1 h2 h3 ⊢
  exact jobs_l01 ho hb n r h1 (by omega) 100 0 (by omega) [] _ q ⟨Leg.nil, Nx.start l, fun y hy => by simp at hy⟩ (by omega) (by omega)

end Go.Proofs.Ytpgheaoepaadlaa.Pu
