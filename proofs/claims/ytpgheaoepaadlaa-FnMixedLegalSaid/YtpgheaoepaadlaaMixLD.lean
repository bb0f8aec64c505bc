import Derived.Test.YtpgheaoepaadlaaMixL
import Derived.Test.YtpgheaoepaadlaaJobsD
import Derived.Test.YtpgheaoepaadlaaMixDraw
import Derived.Test.YtpgheaoepaadlaaFspecXl20MixedJobs
import Derived.Test.YtpgheaoepaadlaaFspecXDrawMixedLegal
set_option linter.unusedSimpArgs false
set_option linter.unusedVariables false
namespace Go.Proofs.Ytpgheaoepaadlaa.Pu
open Go.RowKit Go.Proofs.Ytpgheaoepaadlaa.Q Go.Proofs.YtpgheaoepaadlaaW.PrintWords Go.Proofs.YtpgheaoepaadlaaW.PrintLast

theorem mj_l1 {l : List Mx} {b : List Int} (hb : Bytes b) (q : Bool) : ∀ (d j : Nat) (c : List Jb) (p : Int), j + d = c.length → c.length ≤ 61 → 0 ≤ p → p ≤ 900000 + 5 * (j : Int) → Ex (fun k => spec_l20MixedJobs.l1 k l q c (j : Int) b p) (fun x => x.1.length ≤ 61) := by
  intro d
  induction d with
  | zero =>
    intro j c p hd hc hp0 hp
    refine Ex.step ?_
    simp only [spec_l20MixedJobs.l1]
    exact Ex.neg (by omega) (Ex.val hc)
  | succ d ih =>
    intro j c p hd hc hp0 hp
    have next : ∀ (c' : List Jb) (p' : Int), c'.length = c.length → p ≤ p' → p' ≤ p + 5 → Ex (fun k => spec_l20MixedJobs.l1 k l q c' (wrap64 ((j : Int) + 1)) b p') (fun x => x.1.length ≤ 61) := fun c' p' h1 h2 h3 => by
      rw [jw1 (by omega)]
      exact ih (j + 1) c' p' (by omega) (by omega) (by omega) (by omega)
    have j4 : ∀ (c' : List Jb) (p' : Int), c'.length = c.length → p ≤ p' → p' ≤ p + 2 → Ex (fun k => spec_l20MixedJobs.j4 k l q c' (j : Int) b p') (fun x => x.1.length ≤ 61) := fun c' p' h1 h2 h3 => by
      refine Ex.step ?_
      simp only [spec_l20MixedJobs.j4]
      refine Ex.bind (pick_ex hb (by omega) (by omega)) ?_
      rintro ⟨r, q1⟩ ⟨a1, a2, a3⟩
      simp only [] at a1 a2 a3 ⊢
      refine Ex.ite (fun _ => Ex.pos (by omega) (Ex.pos (by omega) (Ex.bind (pick_ex hb (by omega) (by omega)) ?_))) (fun _ => next _ _ h1 (by omega) (by omega))
      rintro ⟨r2, q2⟩ ⟨c1, c2, c3⟩
      simp only [] at c1 c2 c3 ⊢
      exact next _ _ (by rw [List.length_set]; exact h1) (by omega) (by omega)
    have j3 : ∀ (c' : List Jb) (t : Int) (u : Bool) (p' : Int), 0 ≤ t → t < (l.length : Int) → c'.length = c.length → p ≤ p' → p' ≤ p + 1 → Ex (fun k => spec_l20MixedJobs.j3 k l q c' (j : Int) t u b p') (fun x => x.1.length ≤ 61) := fun c' t u p' t0 t1 h1 h2 h3 => by
      refine Ex.step ?_
      simp only [spec_l20MixedJobs.j3]
      exact Ex.ite (fun _ => Ex.pos t0 (Ex.pos t1 (Ex.pos (by omega) (Ex.pos (by omega) (j4 _ _ (by rw [List.length_set]; exact h1) (by omega) (by omega)))))) (fun _ => j4 _ _ h1 (by omega) (by omega))
    have j2 : ∀ (t : Int) (u : Bool), (u = false → 0 ≤ t ∧ t < (l.length : Int)) → Ex (fun k => spec_l20MixedJobs.j2 k l q c (j : Int) t u b p) (fun x => x.1.length ≤ 61) := fun t u hu => by
      refine Ex.step ?_
      simp only [spec_l20MixedJobs.j2, Option.bind_some]
      refine Ex.ite (fun _ => next _ _ rfl (by omega) (by omega)) (fun h => ?_)
      have ht := hu (by cases u <;> simp_all)
      refine Ex.pos ht.1 (Ex.pos ht.2 (Ex.pos (by omega) (Ex.pos (by omega) (Ex.ite (fun _ => j3 _ _ _ _ ht.1 ht.2 (by rw [List.length_set]) (by omega) (by omega)) (fun _ => Ex.bind (pick_ex hb (by omega) (by omega)) ?_)))))
      rintro ⟨r, q1⟩ ⟨a1, a2, a3⟩
      simp only [] at a1 a2 a3 ⊢
      exact j3 _ _ _ _ ht.1 ht.2 (by rw [List.length_set]) (by omega) (by omega)
    refine Ex.step ?_
    simp only [spec_l20MixedJobs.l1]
    exact Ex.pos (by omega) (Ex.pos (by omega) (Ex.ite (fun _ => j2 _ _ (fun h => by simp at h)) (fun h1 => Ex.ite (fun _ => j2 _ _ (fun h => by simp at h)) (fun h2 => j2 _ _ (fun _ => ⟨by omega, by omega⟩)))))
theorem mj_l0 {l : List Mx} (hv : mixOk l = true) {b : List Int} (hb : Bytes b) (q : Bool) (n : Int) {p : Int} (hp0 : 0 ≤ p) (hp : p ≤ 90000) : ∀ (d j : Nat), j + d = l.length → Ex (fun k => spec_l20MixedJobs.l0 k l q n ((l.take j).map pl) (j : Int) b p) (fun x => x.1.length ≤ 61) := by
  have h5 := ((mixOk_iff l).mp hv).1
  intro d
  induction d with
  | zero =>
    intro j hd
    refine Ex.step ?_
    simp only [spec_l20MixedJobs.l0]
    rw [List.take_of_length_le (by omega)]
    refine Ex.neg (by omega) (Ex.bind (jobs_ex (ok_pl hv) hb n hp0 (by omega)) ?_)
    rintro ⟨c, p'⟩ ⟨h1, h2, h3, _⟩
    simp only [] at h1 h2 h3 ⊢
    exact mj_l1 hb q c.length 0 c p' (by omega) h1 h2 (by omega)
  | succ d ih =>
    intro j hd
    refine Ex.step ?_
    simp only [spec_l20MixedJobs.l0]
    rw [jw1 (by omega)]
    have e : (l.take j).map pl ++ [(⟨1, (rd_T39 l (j : Int)).f2, (rd_T39 l (j : Int)).f2⟩ : Tk)] = (l.take (j + 1)).map pl := by
      rw [List.take_succ_eq_append_getElem (show j < l.length by omega), List.map_append, rdM_get l j (by omega)]; rfl
    rw [e]
    exact Ex.pos (by omega) (Ex.pos (by omega) (Ex.pos (by rw [List.length_map, List.length_take]; omega) (ih (j + 1) (by omega))))
theorem drawMixL_ex (l0 : List Int) (h8 : ∀ x ∈ l0, (Lit.int .u8 x).wf = true) : Ex (fun k => spec_DrawMixedLegal.f k l0) (fun x => x.1.length ≤ 7 ∧ x.2.length ≤ 61) := by
  obtain ⟨b, hb, ho⟩ := open_ev l0 h8
  unfold spec_DrawMixedLegal.f
  rw [ho]
  simp only [Option.bind_some]
  refine Ex.bind (mixed_ex hb (by omega) (by omega)) ?_
  rintro ⟨l, p⟩ ⟨h1, h2, h3⟩
  simp only [] at h1 h2 h3 ⊢
  refine Ex.bind (specMix_ex l (by omega)) ?_
  rintro _ rfl
  refine Ex.ite (fun h => ?_) (fun _ => Ex.val ⟨h1, by simp⟩)
  have := mj_l0 h hb false 2 (p := p) (by omega) (by omega) l.length 0 (by omega)
  rw [List.take_zero] at this
  unfold spec_l20MixedJobs.f
  exact Ex.bind this (fun x hx => Ex.val ⟨h1, hx⟩)

end Go.Proofs.Ytpgheaoepaadlaa.Pu
