import Derived.Test.YtpgheaoepaadlaaFA
import Derived.Deep.Slices
import Derived.Deep.Fields
import Derived.ChangeSame
import Derived.ChangeArms
-- a slice of laws.MixedTask that is read: its cells, told as a list of the print's own structs
set_option linter.unusedSimpArgs false
set_option linter.unusedVariables false
namespace Go.Proofs.Ytpgheaoepaadlaa.Pu
open Go.ChangeShapes Go.WideShapes Go.Deep Go.RowKit Go.Proofs.Ytpgheaoepaadlaa.Q Go.Proofs.YtpgheaoepaadlaaW.PrintWords Go.Proofs.YtpgheaoepaadlaaW.PrintLast
variable {H : Type} {enc : TypeId × Value → H} {W : World} {base : Nat} {spare : Nat → Bool} {held : Bool}

theorem row_read {fuel len cap : Nat} {a : Option Addr} {x : DataW H × List MemPlace} (h : DataW.trod enc Try.prog W base spare held fuel 30 (Value.cells (.slice a len cap)).toList = some x) :
    ∃ l : List S68, l.length = len ∧ len ≤ cap ∧ l.length ≤ 9223372036854775807 ∧ Kd.C k68 W a l.length l := by
  rcases open_slice Try.underlying30 h with ⟨hcs, _⟩ | ⟨ad, ln, cp, m, n, D, Pl, hcs, hb, hl, hm, hmm, hx, hi⟩
  · simp [Value.cells] at hcs
    obtain ⟨rfl, rfl, rfl⟩ := hcs
    exact ⟨[], rfl, Nat.le_refl _, by decide, rfl, by decide, fun h => absurd h (by decide)⟩
  · simp [Value.cells] at hcs
    obtain ⟨rfl, rfl, rfl⟩ := hcs
    have c3_ : Try.prog.cellsOf 3 = 1 := by kernel_rfl
    have c4_ : Try.prog.cellsOf 4 = 1 := by kernel_rfl
    have hC : Try.prog.cellsOf 68 = 4 := by kernel_rfl
    have hlm : len ≤ m := by rw [hmm]; split <;> omega
    have each : ∀ i : Nat, ∃ q : S68, i < m → W.cell? (ad.add (i * 4 + 0)) = some (.int .i64 q.f0) ∧ W.cell? (ad.add (i * 4 + 1)) = some (.int .i64 q.f1) ∧ W.cell? (ad.add (i * 4 + 2)) = some (.int .i64 q.f2) ∧ W.cell? (ad.add (i * 4 + 3)) = some (.bool q.f3) := by
      intro i
      by_cases him : i < m
      · obtain ⟨cs, hc, ht⟩ := hi i him
        rw [hC] at hc
        obtain ⟨ys, n', hn, hy, hlen, hyl, hf⟩ := DataW.trod_struct Try.underlying68 ht
        obtain ⟨_, hcl, hat⟩ := World.cells?_some hc
        obtain ⟨v0, v1, v2, v3, rfl⟩ : ∃ v0 v1 v2 v3, cs = [v0, v1, v2, v3] := by
          rcases cs with _ | ⟨v0, _ | ⟨v1, _ | ⟨v2, _ | ⟨v3, _ | ⟨v4, cs⟩⟩⟩⟩⟩ <;> first | exact ⟨_, _, _, _, rfl⟩ | (exfalso; simp at hcl; done) | (exfalso; simp at hcl; omega)
        have t0 : DataW.trod enc Try.prog W base spare held n' 3 [v0] = ys[0]? := by
          have h := hf 0 { name := "Low", type := 3, offset := 0, embedded := false, tag := "", pkgPath := "", byteOffset := 0 } rfl
          simp only [c3_] at h
          exact h
        have t1 : DataW.trod enc Try.prog W base spare held n' 3 [v1] = ys[1]? := by
          have h := hf 1 { name := "High", type := 3, offset := 1, embedded := false, tag := "", pkgPath := "", byteOffset := 8 } rfl
          simp only [c3_] at h
          exact h
        have t2 : DataW.trod enc Try.prog W base spare held n' 3 [v2] = ys[2]? := by
          have h := hf 2 { name := "Period", type := 3, offset := 2, embedded := false, tag := "", pkgPath := "", byteOffset := 16 } rfl
          simp only [c3_] at h
          exact h
        have t3 : DataW.trod enc Try.prog W base spare held n' 4 [v3] = ys[3]? := by
          have h := hf 3 { name := "Vital", type := 4, offset := 3, embedded := false, tag := "", pkgPath := "", byteOffset := 24 } rfl
          simp only [c4_] at h
          exact h
        have y0 : ∃ y, ys[0]? = some y := ⟨_, List.getElem?_eq_getElem (by rw [hyl]; decide)⟩
        have y1 : ∃ y, ys[1]? = some y := ⟨_, List.getElem?_eq_getElem (by rw [hyl]; decide)⟩
        have y2 : ∃ y, ys[2]? = some y := ⟨_, List.getElem?_eq_getElem (by rw [hyl]; decide)⟩
        have y3 : ∃ y, ys[3]? = some y := ⟨_, List.getElem?_eq_getElem (by rw [hyl]; decide)⟩
        obtain ⟨y0, e0⟩ := y0
        obtain ⟨y1, e1⟩ := y1
        obtain ⟨y2, e2⟩ := y2
        obtain ⟨y3, e3⟩ := y3
        rw [e0] at t0
        rw [e1] at t1
        rw [e2] at t2
        rw [e3] at t3
        obtain ⟨n0, c0, _⟩ := DataW.trod_int Try.underlying3 t0
        obtain ⟨n1, c1, _⟩ := DataW.trod_int Try.underlying3 t1
        obtain ⟨n2, c2, _⟩ := DataW.trod_int Try.underlying3 t2
        obtain ⟨n3, c3, _⟩ := DataW.trod_bool Try.underlying4 t3
        have k0 : v0 = .int .i64 n0 := by injection c0
        have k1 : v1 = .int .i64 n1 := by injection c1
        have k2 : v2 = .int .i64 n2 := by injection c2
        have k3 : v3 = .bool n3 := by injection c3
        subst k0 k1 k2 k3
        have at_ : ∀ j, j < 4 → W.cell? (ad.add (i * 4 + j)) = [Value.int .i64 n0, Value.int .i64 n1, Value.int .i64 n2, Value.bool n3][j]? := fun j hj => by
          rw [← Go.Deep.add_add]; exact hat j hj
        exact ⟨⟨n0, n1, n2, n3⟩, fun _ => ⟨at_ 0 (by decide), at_ 1 (by decide), at_ 2 (by decide), at_ 3 (by decide)⟩⟩
      · exact ⟨z68, fun h => absurd h him⟩
    obtain ⟨g, hg⟩ := Classical.axiomOfChoice each
    have hll : ((List.range len).map g).length = len := by rw [List.length_map, List.length_range]
    refine ⟨(List.range len).map g, hll, hl, by rw [hll]; unfold maxLen at hm; omega, rfl, by rw [hll]; unfold maxLen at hm; omega, fun _ => ⟨ad, rfl, fun j p hj => ⟨[.int .i64 p.f0, .int .i64 p.f1, .int .i64 p.f2, .bool p.f3], rfl, k68_mk W p, fun i u hu => ?_⟩⟩⟩
    obtain ⟨hjl, hp⟩ := List.getElem?_eq_some_iff.mp hj
    rw [List.getElem_map, List.getElem_range] at hp
    subst hp
    obtain ⟨a0, a1, a2, a3⟩ := hg j (by omega)
    match i, hu with
    | 0, hu => obtain rfl := Option.some.inj hu; exact a0
    | 1, hu => obtain rfl := Option.some.inj hu; exact a1
    | 2, hu => obtain rfl := Option.some.inj hu; exact a2
    | 3, hu => obtain rfl := Option.some.inj hu; exact a3
    | i + 4, hu => simp at hu

end Go.Proofs.Ytpgheaoepaadlaa.Pu
