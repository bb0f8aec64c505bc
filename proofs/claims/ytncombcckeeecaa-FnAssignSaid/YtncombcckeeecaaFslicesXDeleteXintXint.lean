-- written by mp.py, a program of this session's, out of the kit's print program and the translation
import Derived.Test.YtncombcckeeecaaF0
import Derived.Shelf.Slices.Delete
import Derived.Test.YtncombcckeeecaaFslicesXDeleteFuncXintXint
namespace Go.Proofs.Ytncombcckeeecaa.Q
open Go.RowKit Go.Proofs.YtncombcckeeecaaW.PrintWords Go.Proofs.YtncombcckeeecaaW.PrintLast Go.Proofs.YtncombcckeeecaaW.PrintMore
attribute [local go_sem] max2_int min2_int max_two min_two max_three min_three max_four min_four   -- for this text's walks alone
set_option linter.unusedVariables false
set_option linter.unusedSimpArgs false

/-! ### slices_Delete_int_int: function 66 -/
/-- The kit's contract of slices.Delete is laid at this program: its numbers. -/
def renD : Go.Shelf.Ren := ⟨fun n => if n = 23 then 66 else n, fun n => if n = 22 then 24 else n, fun x => x⟩
theorem layD : Lays2.n23 Try.prog renD where
  mixed := by kernel_rfl
  f23 := by kernel_rfl
  t0 := by kernel_rfl
  a0 := fun w => by kernel_rfl
  z0 := fun w => by kernel_rfl
  v0 := fun w => by kernel_rfl
  t3 := by kernel_rfl
  a3 := fun w => by kernel_rfl
  z3 := fun w => by kernel_rfl
  v3 := fun w => by kernel_rfl
  t4 := by kernel_rfl
  a4 := fun w => by kernel_rfl
  z4 := fun w => by kernel_rfl
  v4 := fun w => by kernel_rfl
  t22 := by kernel_rfl
  a22 := fun w => by kernel_rfl
  z22 := fun w => by kernel_rfl
  v22 := fun w => by kernel_rfl
  i3 := by kernel_rfl
theorem Row.holds {w : World} {g : Nat} {l : List Int} (h : Row w g l) : Go.Sort.Holds (Value.int .i64) w g 0 l.toArray := fun j hj => by
  have hj' : j < l.length := by simpa using hj
  have h1 := h j hj'
  have e : rd l (j : Int) = l.toArray[j]! := by
    unfold rd
    rw [Int.toNat_natCast, List.getD_eq_getElem?_getD, List.getElem?_eq_getElem hj', Option.getD_some, getElem!_pos l.toArray j hj, List.getElem_toArray]
  rw [Nat.zero_add, ← e]
  exact h1
theorem Row.of {w : World} {g : Nat} {l : List Int} (h : Go.Sort.Holds (Value.int .i64) w g 0 l.toArray) : Row w g l := fun j hj => by
  have hj' : j < l.toArray.size := by simpa using hj
  have h1 := h j hj'
  have e : rd l (j : Int) = l.toArray[j]! := by
    unfold rd
    rw [Int.toNat_natCast, List.getD_eq_getElem?_getD, List.getElem?_eq_getElem hj, Option.getD_some, getElem!_pos l.toArray j hj', List.getElem_toArray]
  rw [Nat.zero_add, ← e] at h1
  exact h1
theorem Row.take {w : World} {g : Nat} {l l' : List Int} (h : Row w g (l ++ l')) : Row w g l := fun j hj => by
  have h1 := h j (by rw [List.length_append]; omega)
  have e : rd (l ++ l') (j : Int) = rd l (j : Int) := by
    unfold rd
    rw [Int.toNat_natCast, List.getD_eq_getElem?_getD, List.getD_eq_getElem?_getD, List.getElem?_append_left hj]
  rw [e] at h1
  exact h1
theorem grownBy_row {w : World} {g n : Nat} (d : Array Int) : w.grownBy (Go.Sort.putRow (Value.int .i64) (Go.Sort.ahead w n) g 0 d) (some g) := by
  refine ⟨rfl, rfl, rfl, by simp [Go.Sort.ahead], fun k hk hne => ?_⟩
  have : g ≠ k := fun e => hne (by rw [e])
  simp [Go.Sort.putRow, Go.Sort.mapBlock, Go.Sort.ahead, Array.getElem?_modify, this]
theorem delete_I.calls (g c i : Nat) (xs : List Int) (w : World) (hR : Row w g xs) (hc : xs.length ≤ c) (hm : c ≤ 9223372036854775807) (hi : i < xs.length) :
    Calls Try.prog 66 #[.slice (some ⟨g, 0, none⟩) xs.length c, .int .i64 (i : Int), .int .i64 ((i + 1 : Nat) : Int)] w fun e w' => e = .returned (.slice (some ⟨g, 0, none⟩) (xs.take i ++ xs.drop (i + 1)).length c) ∧ w.grownBy w' (some g) ∧ Row w' g (xs.take i ++ xs.drop (i + 1)) := by
  have hH := hR.holds
  have h : Calls Try.prog 66 _ w _ := Any.slices_Delete_int layD g 0 c i (i + 1) xs w hH hc (by omega) (by omega) (by omega)
  refine h.mono ?_
  rintro e w' ⟨rfl, q, rfl⟩
  refine ⟨by rw [List.length_append, List.length_take, List.length_drop]; congr 2; omega, grownBy_row _, ?_⟩
  have hA : Go.Sort.Holds (Value.int .i64) (Go.Sort.ahead w q) g 0 xs.toArray := hH
  exact Row.take (Row.of (Go.Sort.holds_putRow (Value.int .i64) (Go.Sort.ahead w q) g 0 xs.toArray _ hA (by simp; omega)))

end Go.Proofs.Ytncombcckeeecaa.Q
