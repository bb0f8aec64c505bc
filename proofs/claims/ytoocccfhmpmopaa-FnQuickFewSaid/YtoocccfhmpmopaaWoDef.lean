import Derived.Test.YtoocccfhmpmopaaSet
set_option linter.unusedSimpArgs false
set_option linter.unusedVariables false
namespace Go.Proofs.Ytoocccfhmpmopaa.Pu
open Go.RowKit Go.Proofs.Ytoocccfhmpmopaa.Q Go.Proofs.YtoocccfhmpmopaaW.PrintWords Go.Proofs.YtoocccfhmpmopaaW.PrintLast

/-- A set without its task at a place. -/
def wo (l : List Tk) (j : Nat) : List Tk := l.take j ++ l.drop (j + 1)
theorem wo_mem {l : List Tk} {j : Nat} {t : Tk} (h : t ∈ wo l j) : t ∈ l := by
  unfold wo at h
  rw [List.mem_append] at h
  rcases h with h | h
  · exact List.mem_of_mem_take h
  · exact List.mem_of_mem_drop h
theorem wo_len {l : List Tk} {j : Nat} (hj : j < l.length) : (wo l j).length + 1 = l.length := by
  unfold wo
  rw [List.length_append, List.length_take, List.length_drop]; omega
theorem Ok.wo {l : List Tk} (h : Ok l) {j : Nat} (hj : j < l.length) : Ok (wo l j) :=
  ⟨by have := wo_len hj; have := h.len; omega, fun t ht => h.all t (wo_mem ht)⟩

end Go.Proofs.Ytoocccfhmpmopaa.Pu
