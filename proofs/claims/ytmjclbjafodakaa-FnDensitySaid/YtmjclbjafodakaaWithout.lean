import Derived.Test.YtmjclbjafodakaaSet
import Derived.Test.YtmjclbjafodakaaFlawsXwithout
set_option linter.unusedSimpArgs false
set_option linter.unusedVariables false
namespace Go.Proofs.Ytmjclbjafodakaa.Pu
open Go.RowKit Go.Proofs.Ytmjclbjafodakaa.Q Go.Proofs.YtmjclbjafodakaaW.PrintWords Go.Proofs.YtmjclbjafodakaaW.PrintLast

/-- A set without its task at a place. -/
def wo (l : List Tk) (j : Nat) : List Tk := l.take j ++ l.drop (j + 1)
theorem without_eq (l : List Tk) (hl : l.length ≤ 1000) (j : Nat) (hj : j < l.length) : laws_without.f l (j : Int) = some (wo l j) := by
  have e : wrap64 ((j : Int) + 1) = ((j + 1 : Nat) : Int) := by rw [w64 (by omega) (by omega)]; omega
  have h1 : (List.take j l).length ≤ 1000 := by rw [List.length_take]; omega
  have h2 : (List.drop (j + 1) l).length ≤ 1000 := by rw [List.length_drop]; omega
  unfold laws_without.f
  rw [Option.bind_some, if_pos (by omega), if_pos (by omega), Option.bind_some, if_pos (by simp only [List.length_nil, Int.toNat_natCast]; omega), Option.bind_some, e, if_pos (by omega), if_pos (by omega), Option.bind_some]
  rw [if_pos (by simp only [List.length_append, List.length_nil, Int.toNat_natCast]; omega)]
  simp only [Int.toNat_natCast, List.nil_append]
  rfl
theorem wo_mem {l : List Tk} {j : Nat} {t : Tk} (h : t ∈ wo l j) : t ∈ l := by
  unfold wo at h
  rw [List.mem_append] at h
  rcases h with h | h
  · exact List.mem_of_mem_take h
  · exact List.mem_of_mem_drop h
theorem wo_len {l : List Tk} {j : Nat} (hj : j < l.length) : (wo l j).length + 1 = l.length := by
  unfold wo
  rw [List.length_append, List.length_take, List.length_drop]; omega
theorem Ok.wo {l : List Tk} (h : Ok l) {j : Nat} (hj : j < l.length) : Ok (wo l j) :=
  ⟨by have := wo_len hj; have := h.len; omega, fun t ht => h.all t (wo_mem ht)⟩

end Go.Proofs.Ytmjclbjafodakaa.Pu
