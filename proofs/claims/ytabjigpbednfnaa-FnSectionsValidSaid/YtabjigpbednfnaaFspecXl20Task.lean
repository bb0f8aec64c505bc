-- written by mp.py, a program of this session's, out of the kit's print program and the translation
import Derived.Test.YtabjigpbednfnaaF0
import Derived.Test.YtabjigpbednfnaaFA
namespace Go.Proofs.Ytabjigpbednfnaa.Q
open Go.RowKit Go.Proofs.YtabjigpbednfnaaW.PrintWords Go.Proofs.YtabjigpbednfnaaW.PrintLast Go.Proofs.YtabjigpbednfnaaW.PrintMore
attribute [local go_sem] max2_int min2_int max_two min_two max_three min_three max_four min_four   -- for this text's walks alone
set_option linter.unusedVariables false
set_option linter.unusedSimpArgs false

/-! ### spec_l20Task: function 52 -/
def spec_l20Task.j0 : Nat → Int → List Int → Int → Int → Int → Int → Option (Int × Int × Int × Int)
  | 0, _, _, _, _, _, _ => none
  | k + 1, x1, x1000, x1001, x111000, x111001, x111002 => (spec_l20Rd_odd.f k x1000 x1001 x1).bind fun bt127 => (if bt127.1 = true then ((spec_l20Rd_pick.f k x1000 bt127.2 3).bind fun bt129 => (if bt129.1 = 0 then ((some (([0, (-1), 9, wrap64 (x111001 + 1)] : List Int) : List Int)).bind fun y131 => ((spec_l20Rd_pick.f k x1000 bt129.2 4).bind fun bt134 => (if 0 ≤ bt134.1 then (if bt134.1 < (y131.length : Int) then (some (rd y131 bt134.1, x111001, x111002, bt134.2)) else (none)) else (none)))) else (if bt129.1 = 1 then ((some (([0, wrap64 (x111002 + 1), (-1)] : List Int) : List Int)).bind fun y137 => ((spec_l20Rd_pick.f k x1000 bt129.2 3).bind fun bt140 => (if 0 ≤ bt140.1 then (if bt140.1 < (y137.length : Int) then (some (x111000, rd y137 bt140.1, x111002, bt140.2)) else (none)) else (none)))) else ((some (([0, 13, (-1)] : List Int) : List Int)).bind fun y143 => ((spec_l20Rd_pick.f k x1000 bt129.2 3).bind fun bt146 => (if 0 ≤ bt146.1 then (if bt146.1 < (y143.length : Int) then (some (x111000, x111001, rd y143 bt146.1, bt146.2)) else (none)) else (none))))))) else (some (x111000, x111001, x111002, bt127.2)))
def spec_l20Task.f (k : Nat) (s0_0 : List Int) (s0_1 : Int) (a1 : Int) : Option (Int × Int × Int × Int) := (spec_l20Rd_pick.f k s0_0 s0_1 12).bind fun bt102 => ((some (([2, 3, 4, 6, 8, 12, wrap64 (1 + bt102.1), 5] : List Int) : List Int)).bind fun y104 => ((spec_l20Rd_pick.f k s0_0 bt102.2 8).bind fun bt107 => (if 0 ≤ bt107.1 then (if bt107.1 < (y104.length : Int) then ((spec_l20Rd_pick.f k s0_0 bt107.2 (rd y104 bt107.1)).bind fun bt111 => ((some (([rd y104 bt107.1, wrap64 (1 + bt111.1), mx 1 (wrap64 ((rd y104 bt107.1) - 1))] : List Int) : List Int)).bind fun y113 => ((spec_l20Rd_pick.f k s0_0 bt111.2 3).bind fun bt116 => (if 0 ≤ bt116.1 then (if bt116.1 < (y113.length : Int) then ((some (([rd y113 bt116.1, mx 1 (wrap64 (Int.tdiv (rd y113 bt116.1) 2)), mx 1 (wrap64 (Int.tdiv (rd y113 bt116.1) 3))] : List Int) : List Int)).bind fun y119 => ((spec_l20Rd_pick.f k s0_0 bt116.2 3).bind fun bt122 => (if 0 ≤ bt122.1 then (if bt122.1 < (y119.length : Int) then ((spec_l20Rd_pick.f k s0_0 bt122.2 (mn 8 (rd y119 bt122.1))).bind fun bt125 => (spec_l20Task.j0 k a1 s0_0 bt125.2 (wrap64 (1 + bt125.1)) (rd y113 bt116.1) (rd y104 bt107.1))) else (none)) else (none)))) else (none)) else (none))))) else (none)) else (none))))
theorem spec_l20Task.mono_l : ∀ k, (∀ y0 y1 y2 y3 y4 y5, LeO (spec_l20Task.j0 k y0 y1 y2 y3 y4 y5) (spec_l20Task.j0 (k + 1) y0 y1 y2 y3 y4 y5))
  | 0 => fun _ _ _ _ _ _ r h => by simp [spec_l20Task.j0] at h
  | k + 1 => by
    have ih0 := spec_l20Task.mono_l k
    · intro y0 y1 y2 y3 y4 y5
      unfold spec_l20Task.j0
      repeat' first
      | (with_reducible exact ih0 _ _ _ _ _ _)
      | (with_reducible exact spec_l20Rd_odd.mono _ _ _ _)
      | (with_reducible exact spec_l20Rd_pick.mono _ _ _ _)
      | (with_reducible exact LeO.refl _)
      | (with_reducible exact LeO.none _)
      | (with_reducible refine LeO.ite ?_ ?_)
      | (with_reducible refine LeO.bind ?_ (fun _ => ?_))
      | exact ih0 _ _ _ _ _ _
      | exact spec_l20Rd_odd.mono _ _ _ _
      | exact spec_l20Rd_pick.mono _ _ _ _
      | exact LeO.none _
      | refine LeO.ite ?_ ?_
      | refine LeO.bind ?_ (fun _ => ?_)
theorem spec_l20Task.mono : ∀ a0 a1 a2 k, LeO (spec_l20Task.f k a0 a1 a2) (spec_l20Task.f (k + 1) a0 a1 a2) := by
  intro a0 a1 a2 k
  have ih0 := spec_l20Task.mono_l k
  unfold spec_l20Task.f
  repeat' first
      | (with_reducible exact ih0 _ _ _ _ _ _)
      | (with_reducible exact spec_l20Rd_odd.mono _ _ _ _)
      | (with_reducible exact spec_l20Rd_pick.mono _ _ _ _)
      | (with_reducible exact LeO.refl _)
      | (with_reducible exact LeO.none _)
      | (with_reducible refine LeO.ite ?_ ?_)
      | (with_reducible refine LeO.bind ?_ (fun _ => ?_))
      | exact ih0 _ _ _ _ _ _
      | exact spec_l20Rd_odd.mono _ _ _ _
      | exact spec_l20Rd_pick.mono _ _ _ _
      | exact LeO.none _
      | refine LeO.ite ?_ ?_
      | refine LeO.bind ?_ (fun _ => ?_)
def spec_l20Task.T2 : Bool × List (List Nat × List Nat) := (true, [([], []), ([0], [0]), ([], []), ([], []), ([3], [3]), ([2, 4], [2, 4]), ([5], [5]), ([], []), ([7], [7]), ([8], [8]), ([9], [9]), ([1, 6, 10], [1, 6, 10]), ([], []), ([12, 5], [12]), ([11, 13], [11, 13]), ([14], [14]), ([0, 1, 2, 3, 4, 5, 6, 7, 8, 9, 10, 11, 12, 13, 14, 15], []), ([16, 15, 13, 0, 1, 2, 3, 4, 5, 6, 7, 8, 9, 10, 11, 12, 13, 14, 15], [15, 16])])
def spec_l20Task.B2 : List Nat := [0, 1, 0, 0, 8, 28, 60, 0, 128, 384, 896, 2047, 0, 4156, 16383, 32767, 65535, 131071]
theorem spec_l20Task.tab2 : rtab .any (opsOf Try.f52 2) = spec_l20Task.T2 := by kernel_rfl
theorem spec_l20Task.bits2 : waitsOk spec_l20Task.T2.2 spec_l20Task.B2 = true := by kernel_rfl
def spec_l20Task.T3 : Bool × List (List Nat × List Nat) := (true, [([], []), ([], []), ([1], [1]), ([], []), ([3], [3]), ([4], [4]), ([5], [5]), ([], []), ([7], [7]), ([8], [8]), ([9], [9]), ([2, 6, 10], [2, 6, 10]), ([], []), ([12], [12]), ([11, 13], [11, 13]), ([14], [14]), ([15], [15]), ([0, 16, 13], [0, 16]), ([17], [17]), ([0, 1, 2, 3, 4, 5, 6, 7, 8, 9, 10, 11, 12, 13, 14, 15, 16, 17, 18], []), ([19, 18, 17, 0, 1, 2, 3, 4, 5, 6, 7, 8, 9, 10, 11, 12, 13, 14, 15, 16, 17, 18], [18, 19])])
def spec_l20Task.B3 : List Nat := [0, 0, 2, 0, 8, 24, 56, 0, 128, 384, 896, 2046, 0, 4096, 16382, 32766, 65534, 131071, 262143, 524287, 1048575]
theorem spec_l20Task.tab3 : rtab .any (opsOf Try.f52 3) = spec_l20Task.T3 := by kernel_rfl
theorem spec_l20Task.bits3 : waitsOk spec_l20Task.T3.2 spec_l20Task.B3 = true := by kernel_rfl
def spec_l20Task.T8 : Bool × List (List Nat × List Nat) := (true, [([], []), ([0], [0]), ([1], [1]), ([2], [2]), ([], []), ([4], [4]), ([3, 5], [3, 5]), ([6], [6]), ([0, 1, 2, 3, 4, 5, 6, 7], []), ([8, 7, 5, 0, 1, 2, 3, 4, 5, 6, 7], [7, 8])])
def spec_l20Task.B8 : List Nat := [0, 1, 3, 7, 0, 16, 63, 127, 255, 511]
theorem spec_l20Task.tab8 : rtab .any (opsOf Try.f52 8) = spec_l20Task.T8 := by kernel_rfl
theorem spec_l20Task.bits8 : waitsOk spec_l20Task.T8.2 spec_l20Task.B8 = true := by kernel_rfl
def spec_l20Task.T10 : Bool × List (List Nat × List Nat) := (true, [([], []), ([0], [0]), ([1], [1]), ([2], [2]), ([], []), ([4], [4]), ([3, 5], [3, 5]), ([6], [6]), ([0, 1, 2, 3, 4, 5, 6, 7], []), ([8, 7, 5, 0, 1, 2, 3, 4, 5, 6, 7], [7, 8])])
def spec_l20Task.B10 : List Nat := [0, 1, 3, 7, 0, 16, 63, 127, 255, 511]
theorem spec_l20Task.tab10 : rtab .any (opsOf Try.f52 10) = spec_l20Task.T10 := by kernel_rfl
theorem spec_l20Task.bits10 : waitsOk spec_l20Task.T10.2 spec_l20Task.B10 = true := by kernel_rfl
set_option maxHeartbeats 8000000 in
set_option maxRecDepth 100000 in
theorem spec_l20Task.calls (k : Nat) (g : Nat) (s0_0 : List Int) (s0_1 : Int) (a1 : Int) (r1 : Int) (r2 : Int) (r3 : Int) (r4 : Int) (w0 w : World) (hI : IsS64 w0 w g s0_0 s0_1) (hB : Below w0.heap.size w0 w) (h : spec_l20Task.f k s0_0 s0_1 a1 = some (r1, r2, r3, r4)) :
    Calls Try.prog 52 #[.pointer (some ⟨g, 0, none⟩), .int .i64 a1] w fun e w' => e = .returned (.agg #[.int .i64 r1, .int .i64 r2, .int .i64 r3]) ∧ IsS64 w0 w' g s0_0 r4 ∧ Below w0.heap.size w0 w' ∧ KeepBut w w' g none := by
  have hu33 := Try.underlying33
  have HI0 := Aside0.mk hI
  have HK := Aside0.mk (KeepBut.refl w g none)
  have HL := Aside0.mk hB.size
  clear hI
  have HW0 := Aside0.mk hB.size
  have HB := Aside0.mk hB
  clear hB
  have H : ((spec_l20Rd_pick.f k s0_0 s0_1 12).bind fun bt102 => ((some (([2, 3, 4, 6, 8, 12, wrap64 (1 + bt102.1), 5] : List Int) : List Int)).bind fun y104 => ((spec_l20Rd_pick.f k s0_0 bt102.2 8).bind fun bt107 => (if 0 ≤ bt107.1 then (if bt107.1 < (y104.length : Int) then ((spec_l20Rd_pick.f k s0_0 bt107.2 (rd y104 bt107.1)).bind fun bt111 => ((some (([rd y104 bt107.1, wrap64 (1 + bt111.1), mx 1 (wrap64 ((rd y104 bt107.1) - 1))] : List Int) : List Int)).bind fun y113 => ((spec_l20Rd_pick.f k s0_0 bt111.2 3).bind fun bt116 => (if 0 ≤ bt116.1 then (if bt116.1 < (y113.length : Int) then ((some (([rd y113 bt116.1, mx 1 (wrap64 (Int.tdiv (rd y113 bt116.1) 2)), mx 1 (wrap64 (Int.tdiv (rd y113 bt116.1) 3))] : List Int) : List Int)).bind fun y119 => ((spec_l20Rd_pick.f k s0_0 bt116.2 3).bind fun bt122 => (if 0 ≤ bt122.1 then (if bt122.1 < (y119.length : Int) then ((spec_l20Rd_pick.f k s0_0 bt122.2 (mn 8 (rd y119 bt122.1))).bind fun bt125 => (spec_l20Task.j0 k a1 s0_0 bt125.2 (wrap64 (1 + bt125.1)) (rd y113 bt116.1) (rd y104 bt107.1))) else (none)) else (none)))) else (none)) else (none))))) else (none)) else (none))))) = some (r1, r2, r3, r4) := h
  clear h
  replace H := Option.bind_eq_some_iff.mp H
  obtain ⟨⟨t102, t103⟩, A30, H⟩ := H
  replace H : ((some (([2, 3, 4, 6, 8, 12, wrap64 (1 + t102), 5] : List Int) : List Int)).bind fun y104 => ((spec_l20Rd_pick.f k s0_0 t103 8).bind fun bt107 => (if 0 ≤ bt107.1 then (if bt107.1 < (y104.length : Int) then ((spec_l20Rd_pick.f k s0_0 bt107.2 (rd y104 bt107.1)).bind fun bt111 => ((some (([rd y104 bt107.1, wrap64 (1 + bt111.1), mx 1 (wrap64 ((rd y104 bt107.1) - 1))] : List Int) : List Int)).bind fun y113 => ((spec_l20Rd_pick.f k s0_0 bt111.2 3).bind fun bt116 => (if 0 ≤ bt116.1 then (if bt116.1 < (y113.length : Int) then ((some (([rd y113 bt116.1, mx 1 (wrap64 (Int.tdiv (rd y113 bt116.1) 2)), mx 1 (wrap64 (Int.tdiv (rd y113 bt116.1) 3))] : List Int) : List Int)).bind fun y119 => ((spec_l20Rd_pick.f k s0_0 bt116.2 3).bind fun bt122 => (if 0 ≤ bt122.1 then (if bt122.1 < (y119.length : Int) then ((spec_l20Rd_pick.f k s0_0 bt122.2 (mn 8 (rd y119 bt122.1))).bind fun bt125 => (spec_l20Task.j0 k a1 s0_0 bt125.2 (wrap64 (1 + bt125.1)) (rd y113 bt116.1) (rd y104 bt107.1))) else (none)) else (none)))) else (none)) else (none))))) else (none)) else (none)))) = some (r1, r2, r3, r4) := H
  have A3 := Aside0.mk A30
  clear A30
  obtain ⟨y104, hy104⟩ : ∃ y_ : List Int, y_ = (([2, 3, 4, 6, 8, 12, wrap64 (1 + t102), 5] : List Int)) := ⟨_, rfl⟩
  replace H : ((spec_l20Rd_pick.f k s0_0 t103 8).bind fun bt107 => (if 0 ≤ bt107.1 then (if bt107.1 < (y104.length : Int) then ((spec_l20Rd_pick.f k s0_0 bt107.2 (rd y104 bt107.1)).bind fun bt111 => ((some (([rd y104 bt107.1, wrap64 (1 + bt111.1), mx 1 (wrap64 ((rd y104 bt107.1) - 1))] : List Int) : List Int)).bind fun y113 => ((spec_l20Rd_pick.f k s0_0 bt111.2 3).bind fun bt116 => (if 0 ≤ bt116.1 then (if bt116.1 < (y113.length : Int) then ((some (([rd y113 bt116.1, mx 1 (wrap64 (Int.tdiv (rd y113 bt116.1) 2)), mx 1 (wrap64 (Int.tdiv (rd y113 bt116.1) 3))] : List Int) : List Int)).bind fun y119 => ((spec_l20Rd_pick.f k s0_0 bt116.2 3).bind fun bt122 => (if 0 ≤ bt122.1 then (if bt122.1 < (y119.length : Int) then ((spec_l20Rd_pick.f k s0_0 bt122.2 (mn 8 (rd y119 bt122.1))).bind fun bt125 => (spec_l20Task.j0 k a1 s0_0 bt125.2 (wrap64 (1 + bt125.1)) (rd y113 bt116.1) (rd y104 bt107.1))) else (none)) else (none)))) else (none)) else (none))))) else (none)) else (none))) = some (r1, r2, r3, r4) := by first | (rw [hy104]; with_reducible exact H) | (have H2_ := (Option.bind_some _ _).symm.trans H; rw [hy104]; with_reducible exact H2_) | (have H2_ := (Option.bind_some _ _).symm.trans H; with_reducible exact H2_) | with_reducible exact H | (rw [hy104]; exact H) | exact H
  have Ny104 := Aside0.mk hy104
  clear hy104
  replace H := Option.bind_eq_some_iff.mp H
  obtain ⟨⟨t107, t108⟩, A40, H⟩ := H
  replace H : (if 0 ≤ t107 then (if t107 < (y104.length : Int) then ((spec_l20Rd_pick.f k s0_0 t108 (rd y104 t107)).bind fun bt111 => ((some (([rd y104 t107, wrap64 (1 + bt111.1), mx 1 (wrap64 ((rd y104 t107) - 1))] : List Int) : List Int)).bind fun y113 => ((spec_l20Rd_pick.f k s0_0 bt111.2 3).bind fun bt116 => (if 0 ≤ bt116.1 then (if bt116.1 < (y113.length : Int) then ((some (([rd y113 bt116.1, mx 1 (wrap64 (Int.tdiv (rd y113 bt116.1) 2)), mx 1 (wrap64 (Int.tdiv (rd y113 bt116.1) 3))] : List Int) : List Int)).bind fun y119 => ((spec_l20Rd_pick.f k s0_0 bt116.2 3).bind fun bt122 => (if 0 ≤ bt122.1 then (if bt122.1 < (y119.length : Int) then ((spec_l20Rd_pick.f k s0_0 bt122.2 (mn 8 (rd y119 bt122.1))).bind fun bt125 => (spec_l20Task.j0 k a1 s0_0 bt125.2 (wrap64 (1 + bt125.1)) (rd y113 bt116.1) (rd y104 t107))) else (none)) else (none)))) else (none)) else (none))))) else (none)) else (none)) = some (r1, r2, r3, r4) := H
  have A4 := Aside0.mk A40
  clear A40
  by_cases c5 : 0 ≤ t107
  · rw [if_pos c5] at H
    have c5b0 : decide (0 ≤ t107) = true := decide_eq_true c5
    clear c5
    by_cases c6 : t107 < (y104.length : Int)
    · rw [if_pos c6] at H
      have c6b0 : decide (t107 < (y104.length : Int)) = true := decide_eq_true c6
      clear c6
      replace H := Option.bind_eq_some_iff.mp H
      obtain ⟨⟨t111, t112⟩, A70, H⟩ := H
      replace H : ((some (([rd y104 t107, wrap64 (1 + t111), mx 1 (wrap64 ((rd y104 t107) - 1))] : List Int) : List Int)).bind fun y113 => ((spec_l20Rd_pick.f k s0_0 t112 3).bind fun bt116 => (if 0 ≤ bt116.1 then (if bt116.1 < (y113.length : Int) then ((some (([rd y113 bt116.1, mx 1 (wrap64 (Int.tdiv (rd y113 bt116.1) 2)), mx 1 (wrap64 (Int.tdiv (rd y113 bt116.1) 3))] : List Int) : List Int)).bind fun y119 => ((spec_l20Rd_pick.f k s0_0 bt116.2 3).bind fun bt122 => (if 0 ≤ bt122.1 then (if bt122.1 < (y119.length : Int) then ((spec_l20Rd_pick.f k s0_0 bt122.2 (mn 8 (rd y119 bt122.1))).bind fun bt125 => (spec_l20Task.j0 k a1 s0_0 bt125.2 (wrap64 (1 + bt125.1)) (rd y113 bt116.1) (rd y104 t107))) else (none)) else (none)))) else (none)) else (none)))) = some (r1, r2, r3, r4) := H
      have A7 := Aside0.mk A70
      clear A70
      obtain ⟨ji8, hji8⟩ : ∃ j_ : Int, (mx 1 (wrap64 ((rd y104 t107) - 1))) = j_ := ⟨_, rfl⟩
      replace H : ((some (([rd y104 t107, wrap64 (1 + t111), ji8] : List Int) : List Int)).bind fun y113 => ((spec_l20Rd_pick.f k s0_0 t112 3).bind fun bt116 => (if 0 ≤ bt116.1 then (if bt116.1 < (y113.length : Int) then ((some (([rd y113 bt116.1, mx 1 (wrap64 (Int.tdiv (rd y113 bt116.1) 2)), mx 1 (wrap64 (Int.tdiv (rd y113 bt116.1) 3))] : List Int) : List Int)).bind fun y119 => ((spec_l20Rd_pick.f k s0_0 bt116.2 3).bind fun bt122 => (if 0 ≤ bt122.1 then (if bt122.1 < (y119.length : Int) then ((spec_l20Rd_pick.f k s0_0 bt122.2 (mn 8 (rd y119 bt122.1))).bind fun bt125 => (spec_l20Task.j0 k a1 s0_0 bt125.2 (wrap64 (1 + bt125.1)) (rd y113 bt116.1) (rd y104 t107))) else (none)) else (none)))) else (none)) else (none)))) = some (r1, r2, r3, r4) := by first | (rw [hji8] at H; exact H) | (simp only [hji8] at H ⊢; exact H)
      (try rw [hji8] at A3)
      (try rw [hji8] at A4)
      (try rw [hji8] at A7)
      (try (have hji8l : 1 ≤ ji8 := by (rw [← hji8]; unfold mx; (repeat' split) <;> omega)))
      (try (have hji8m : 0 ≤ ji8 := by omega))
      have hji8_ : (if 1 < (wrap64 ((rd y104 t107) - 1)) then (wrap64 ((rd y104 t107) - 1)) else 1) = ji8 := hji8
      obtain ⟨y113, hy113⟩ : ∃ y_ : List Int, y_ = (([rd y104 t107, wrap64 (1 + t111), ji8] : List Int)) := ⟨_, rfl⟩
      replace H : ((spec_l20Rd_pick.f k s0_0 t112 3).bind fun bt116 => (if 0 ≤ bt116.1 then (if bt116.1 < (y113.length : Int) then ((some (([rd y113 bt116.1, mx 1 (wrap64 (Int.tdiv (rd y113 bt116.1) 2)), mx 1 (wrap64 (Int.tdiv (rd y113 bt116.1) 3))] : List Int) : List Int)).bind fun y119 => ((spec_l20Rd_pick.f k s0_0 bt116.2 3).bind fun bt122 => (if 0 ≤ bt122.1 then (if bt122.1 < (y119.length : Int) then ((spec_l20Rd_pick.f k s0_0 bt122.2 (mn 8 (rd y119 bt122.1))).bind fun bt125 => (spec_l20Task.j0 k a1 s0_0 bt125.2 (wrap64 (1 + bt125.1)) (rd y113 bt116.1) (rd y104 t107))) else (none)) else (none)))) else (none)) else (none))) = some (r1, r2, r3, r4) := by first | (rw [hy113]; with_reducible exact H) | (have H2_ := (Option.bind_some _ _).symm.trans H; rw [hy113]; with_reducible exact H2_) | (have H2_ := (Option.bind_some _ _).symm.trans H; with_reducible exact H2_) | with_reducible exact H | (rw [hy113]; exact H) | exact H
      have Ny113 := Aside0.mk hy113
      clear hy113
      replace H := Option.bind_eq_some_iff.mp H
      obtain ⟨⟨t116, t117⟩, A90, H⟩ := H
      replace H : (if 0 ≤ t116 then (if t116 < (y113.length : Int) then ((some (([rd y113 t116, mx 1 (wrap64 (Int.tdiv (rd y113 t116) 2)), mx 1 (wrap64 (Int.tdiv (rd y113 t116) 3))] : List Int) : List Int)).bind fun y119 => ((spec_l20Rd_pick.f k s0_0 t117 3).bind fun bt122 => (if 0 ≤ bt122.1 then (if bt122.1 < (y119.length : Int) then ((spec_l20Rd_pick.f k s0_0 bt122.2 (mn 8 (rd y119 bt122.1))).bind fun bt125 => (spec_l20Task.j0 k a1 s0_0 bt125.2 (wrap64 (1 + bt125.1)) (rd y113 t116) (rd y104 t107))) else (none)) else (none)))) else (none)) else (none)) = some (r1, r2, r3, r4) := H
      have A9 := Aside0.mk A90
      clear A90
      by_cases c10 : 0 ≤ t116
      · rw [if_pos c10] at H
        have c10b0 : decide (0 ≤ t116) = true := decide_eq_true c10
        clear c10
        by_cases c11 : t116 < (y113.length : Int)
        · rw [if_pos c11] at H
          have c11b0 : decide (t116 < (y113.length : Int)) = true := decide_eq_true c11
          clear c11
          have HC12 := Aside0.mk H
          clear H
          go_enter Try.func52, Try.ntmps52
          try go_wp2_with (first | ((with_reducible refine gate_dst (N := 4) rfl ?_); refine box_event ?hg (N := 4) ?hd (cs := #[.int .i64 0, .int .i64 0, .int .i64 0]) (t := 33) ?hr ?_; (case hd => rfl); (case hg => rfl); (case hr => first | (go_simp; done) | (go_simp; rfl)); intro gb101 hg w13 hbox hb; have n0_ := Aside0.mk (IsS64.below (by repeat (first | (with_reducible first | exact HI0.out | apply IsS64.alloc | apply IsS64.drewN | apply IsS64.drew | apply IsS64.set_1) | exact HI0.out)) hb); have n1_ := Aside0.mk (KeepBut.trans (by repeat (first | (with_reducible first | exact HK.out | apply KeepBut.set_ | apply keep_drewN | apply keep_drew | apply keep_alloc) | exact HK.out)) (KeepBut.of_below hb g none) (.inl rfl)); have n2_ := Aside0.mk (below_step (by repeat (first | (with_reducible first | exact HB.out | apply below_alloc | apply pw_below_drewN | apply below_drew1 | refine below_set ?_ (IsS64.ge HI0.out)) | exact HB.out)) hb); have n3_ := Aside0.mk (hbox); have n4_ := Aside0.mk ((by rw [hg]; exact (keep_size (w := w) (g := g) (row := none) (by repeat (first | (with_reducible first | exact HK.out | apply KeepBut.set_ | apply keep_drewN | apply keep_drew | apply keep_alloc) | exact HK.out))) : w.heap.size ≤ gb101)); have n5_ := Aside0.mk ((Nat.le_trans HW0.out (by rw [hg]; exact (keep_size (w := w) (g := g) (row := none) (by repeat (first | (with_reducible first | exact HK.out | apply KeepBut.set_ | apply keep_drewN | apply keep_drew | apply keep_alloc) | exact HK.out))) : w.heap.size ≤ gb101) : w0.heap.size ≤ gb101)); have n6_ := Aside0.mk ((by rw [hg]; exact Nat.ne_of_lt (IsS64.lt (show IsS64 w0 _ g s0_0 s0_1 from by repeat (first | (with_reducible first | exact HI0.out | apply IsS64.alloc | apply IsS64.drewN | apply IsS64.drew | apply IsS64.set_1) | exact HI0.out))) : g ≠ gb101)); have n7_ := Aside0.mk ((by rw [hg]; exact Nat.ne_of_gt (IsS64.lt (show IsS64 w0 _ g s0_0 s0_1 from by repeat (first | (with_reducible first | exact HI0.out | apply IsS64.alloc | apply IsS64.drewN | apply IsS64.drew | apply IsS64.set_1) | exact HI0.out))) : gb101 ≠ g)); clear HI0; clear HK; clear HB; have HI0 := n0_; have HK := n1_; have HB := n2_; have BK101 := n3_; have GW101 := n4_; have GE101 := n5_; have NB0_101 := n6_; have NB101_0 := n7_; clear n0_ n1_ n2_ n3_ n4_ n5_ n6_ n7_; clear hb hbox hg) | ((with_reducible refine gate_callee (f := 38) rfl ?_); refine goesL_ (some 7) rfl rfl Try.func38 (by kernel_rfl) rfl #[.pointer (some ⟨g, 0, none⟩), .int .i64 12] rfl (by (try simp only [List.map_toArray, List.map_cons, List.map_nil]); first | done | rfl | (simp only [List.length_drop, List.length_take]; rfl)) ?_; (with_reducible refine (spec_l20Rd_pick.calls k g s0_0 s0_1 12 t102 t103 w0 _ ?side1 ?side2 A3.out).mono ?_); (case side1 => repeat (first | (with_reducible first | exact HI0.out | apply IsS64.alloc | apply IsS64.drewN | apply IsS64.drew | apply IsS64.set_1 | refine IsS64.far ?_ NB0_101.out _) | exact HI0.out)); (case side2 => repeat (first | (with_reducible first | exact HB.out | apply below_alloc | apply pw_below_drewN | apply below_drew1 | refine below_set ?_ (IsS64.ge HI0.out) | refine below_set ?_ GE101.out) | exact HB.out)); rintro e w14 ⟨rfl, hi, hb, hk⟩; refine ⟨_, rfl, ?_⟩; have n0_ := Aside0.mk (KeepBut.blk hk (g' := gb101) (o := .cells #[.int .i64 0, .int .i64 0, .int .i64 0] 33 (0, 0)) (by (with_reducible repeat (first | refine blk_drewN ?_ _ | refine blk_drew ?_ | refine blk_alloc ?_ _)); exact BK101.out) NB101_0.out (by simp)); have n1_ := Aside0.mk (KeepBut.trans (by repeat (first | (with_reducible first | exact HK.out | apply KeepBut.set_ | apply keep_drewN | apply keep_drew | apply keep_alloc | refine keep_far ?_ GW101.out _) | exact HK.out)) hk (.inl rfl)); have n2_ := Aside0.mk (hb); have n3_ := Aside0.mk (hi); clear BK101; clear HK; clear HB; clear HI0; have BK101 := n0_; have HK := n1_; have HB := n2_; have HI0 := n3_; clear n0_ n1_ n2_ n3_; (try clear hb); (try clear hb2); (try clear hk); (try clear hi)) | ((with_reducible refine gate_dst (N := 9) rfl ?_); refine Kd.R_lit (Kd.int .i64) _ 3 ?hg (N := 9) ?hd (xs := ([2, 3, 4, 6, 8, 12, wrap64 (1 + t102), 5] : List Int)) (inner := [.int .i64 2, .int .i64 3, .int .i64 4, .int .i64 6, .int .i64 8, .int .i64 12, .int .i64 (wrap64 (1 + t102)), .int .i64 5]) (ok := fun _ => True) (okp := fun _ => True) ?hr ?hp (fun _ hk => hk) trivial (Below.refl _ _) (Nat.le_refl _) (by simp) ?_; (case hd => rfl); (case hg => rfl); (case hr => first | (go_simp; done) | (go_simp; rfl)); (case hp => exact (Reps.one (show Kd.M (Kd.int .i64) _ _ _ 2 [.int .i64 2] from rfl) (Reps.one (show Kd.M (Kd.int .i64) _ _ _ 3 [.int .i64 3] from rfl) (Reps.one (show Kd.M (Kd.int .i64) _ _ _ 4 [.int .i64 4] from rfl) (Reps.one (show Kd.M (Kd.int .i64) _ _ _ 6 [.int .i64 6] from rfl) (Reps.one (show Kd.M (Kd.int .i64) _ _ _ 8 [.int .i64 8] from rfl) (Reps.one (show Kd.M (Kd.int .i64) _ _ _ 12 [.int .i64 12] from rfl) (Reps.one (show Kd.M (Kd.int .i64) _ _ _ (wrap64 (1 + t102)) [.int .i64 (wrap64 (1 + t102))] from rfl) (Reps.one (show Kd.M (Kd.int .i64) _ _ _ 5 [.int .i64 5] from rfl) (Reps.none _ _)))))))))); intro v105 w15 ho16 hb hg_ hnew_; clear hg_ hnew_; (first | rw [← Ny104.out] at ho16 | (simp only [Int.reduceToNat] at ho16; rw [← Ny104.out] at ho16)); have n0_ := Aside0.mk (Kd.R_lower ho16 (keep_size (w := w) (g := g) (row := none) (by repeat (first | (with_reducible first | exact HK.out | apply KeepBut.set_ | apply keep_drewN | apply keep_drew | apply keep_alloc | refine keep_far ?_ GW101.out _) | exact HK.out)))); have n1_ := Aside0.mk (IsS64.below (by repeat (first | (with_reducible first | exact HI0.out | apply IsS64.alloc | apply IsS64.drewN | apply IsS64.drew | apply IsS64.set_1 | refine IsS64.far ?_ NB0_101.out _) | exact HI0.out)) hb); have n2_ := Aside0.mk (blk_below (g := gb101) (o := .cells #[.int .i64 0, .int .i64 0, .int .i64 0] 33 (0, 0)) (by (with_reducible repeat (first | refine blk_drewN ?_ _ | refine blk_drew ?_ | refine blk_alloc ?_ _)); exact BK101.out) hb); have n3_ := Aside0.mk (KeepBut.trans (by repeat (first | (with_reducible first | exact HK.out | apply KeepBut.set_ | apply keep_drewN | apply keep_drew | apply keep_alloc | refine keep_far ?_ GW101.out _) | exact HK.out)) (KeepBut.of_below hb g none) (.inl rfl)); have n4_ := Aside0.mk (below_step (by repeat (first | (with_reducible first | exact HB.out | apply below_alloc | apply pw_below_drewN | apply below_drew1 | refine below_set ?_ (IsS64.ge HI0.out) | refine below_set ?_ GE101.out) | exact HB.out)) hb); clear HI0; clear BK101; clear HK; clear HB; have HO106 := n0_; have HI0 := n1_; have BK101 := n2_; have HK := n3_; have HB := n4_; clear n0_ n1_ n2_ n3_ n4_; clear hb ho16) | ((with_reducible refine gate_callee (f := 38) rfl ?_); refine goesL_ (some 11) rfl rfl Try.func38 (by kernel_rfl) rfl #[.pointer (some ⟨g, 0, none⟩), .int .i64 8] rfl (by (try simp only [List.map_toArray, List.map_cons, List.map_nil]); first | done | rfl | (simp only [List.length_drop, List.length_take]; rfl)) ?_; (with_reducible refine (spec_l20Rd_pick.calls k g s0_0 t103 8 t107 t108 w0 _ ?side1 ?side2 A4.out).mono ?_); (case side1 => repeat (first | (with_reducible first | exact HI0.out | apply IsS64.alloc | apply IsS64.drewN | apply IsS64.drew | apply IsS64.set_1 | refine IsS64.far ?_ NB0_101.out _) | exact HI0.out)); (case side2 => repeat (first | (with_reducible first | exact HB.out | apply below_alloc | apply pw_below_drewN | apply below_drew1 | refine below_set ?_ (IsS64.ge HI0.out) | refine below_set ?_ GE101.out) | exact HB.out)); rintro e w17 ⟨rfl, hi, hb, hk⟩; refine ⟨_, rfl, ?_⟩; have n0_ := Aside0.mk (KeepBut.blk hk (g' := gb101) (o := .cells #[.int .i64 0, .int .i64 0, .int .i64 0] 33 (0, 0)) (by (with_reducible repeat (first | refine blk_drewN ?_ _ | refine blk_drew ?_ | refine blk_alloc ?_ _)); exact BK101.out) NB101_0.out (by simp)); have n1_ := Aside0.mk (Kd.R_mono (Kd.R_keep (IsS64.apart (show IsS64 w0 _ g s0_0 t103 from by repeat (first | (with_reducible first | exact HI0.out | apply IsS64.alloc | apply IsS64.drewN | apply IsS64.drew | apply IsS64.set_1 | refine IsS64.far ?_ NB0_101.out _) | exact HI0.out)) (by (with_reducible repeat (first | apply Kd.R_alloc | apply Kd.R_drewN | apply Kd.R_drew)); exact HO106.out) (by decide)) hk (fun _ h => h.2)) (fun _ h => h.1)); have n2_ := Aside0.mk (KeepBut.trans (by repeat (first | (with_reducible first | exact HK.out | apply KeepBut.set_ | apply keep_drewN | apply keep_drew | apply keep_alloc | refine keep_far ?_ GW101.out _) | exact HK.out)) hk (.inl rfl)); have n3_ := Aside0.mk (hb); have n4_ := Aside0.mk (hi); clear BK101; clear HO106; clear HK; clear HB; clear HI0; have BK101 := n0_; have HO106 := n1_; have HK := n2_; have HB := n3_; have HI0 := n4_; clear n0_ n1_ n2_ n3_ n4_; (try clear hb); (try clear hb2); (try clear hk); (try clear hi); obtain ⟨Ao18, co18, eo18⟩ := Kd.R_slice HO106.out; subst eo18; have p109 : 0 ≤ (t107 : Int) := of_decide_eq_true (by first | (with_reducible assumption) | assumption); have q109 : t107 < (y104.length : Int) := of_decide_eq_true (by first | (with_reducible assumption) | assumption); obtain ⟨ad109, e109, hx109_0⟩ := Kd.at_int (Kd.R_reads' HO106.out).2.2 t107 p109 q109; cases e109; replace p109 := eq_true p109; replace q109 := eq_true q109) | ((with_reducible refine gate_dst (N := 5) rfl ?_); refine box_event ?hg (N := 5) ?hd (cs := #[.int .i64 0, .int .i64 0, .int .i64 0]) (t := 33) ?hr ?_; (case hd => rfl); (case hg => rfl); (case hr => first | (go_simp; done) | (go_simp; rfl)); intro gb110 hg w19 hbox hb; have n0_ := Aside0.mk (Kd.R_below (by (with_reducible repeat (first | apply Kd.R_alloc | apply Kd.R_drewN | apply Kd.R_drew)); exact HO106.out) hb); have n1_ := Aside0.mk (IsS64.below (by repeat (first | (with_reducible first | exact HI0.out | apply IsS64.alloc | apply IsS64.drewN | apply IsS64.drew | apply IsS64.set_1 | refine IsS64.far ?_ NB0_101.out _) | exact HI0.out)) hb); have n2_ := Aside0.mk (blk_below (g := gb101) (o := .cells #[.int .i64 0, .int .i64 0, .int .i64 0] 33 (0, 0)) (by (with_reducible repeat (first | refine blk_drewN ?_ _ | refine blk_drew ?_ | refine blk_alloc ?_ _)); exact BK101.out) hb); have n3_ := Aside0.mk (KeepBut.trans (by repeat (first | (with_reducible first | exact HK.out | apply KeepBut.set_ | apply keep_drewN | apply keep_drew | apply keep_alloc | refine keep_far ?_ GW101.out _) | exact HK.out)) (KeepBut.of_below hb g none) (.inl rfl)); have n4_ := Aside0.mk (below_step (by repeat (first | (with_reducible first | exact HB.out | apply below_alloc | apply pw_below_drewN | apply below_drew1 | refine below_set ?_ (IsS64.ge HI0.out) | refine below_set ?_ GE101.out) | exact HB.out)) hb); have n5_ := Aside0.mk (hbox); have n6_ := Aside0.mk ((by rw [hg]; exact (keep_size (w := w) (g := g) (row := none) (by repeat (first | (with_reducible first | exact HK.out | apply KeepBut.set_ | apply keep_drewN | apply keep_drew | apply keep_alloc | refine keep_far ?_ GW101.out _) | exact HK.out))) : w.heap.size ≤ gb110)); have n7_ := Aside0.mk ((Nat.le_trans HW0.out (by rw [hg]; exact (keep_size (w := w) (g := g) (row := none) (by repeat (first | (with_reducible first | exact HK.out | apply KeepBut.set_ | apply keep_drewN | apply keep_drew | apply keep_alloc | refine keep_far ?_ GW101.out _) | exact HK.out))) : w.heap.size ≤ gb110) : w0.heap.size ≤ gb110)); have n8_ := Aside0.mk ((by rw [hg]; exact Nat.ne_of_lt (blk_lt (g := gb101) (o := .cells #[.int .i64 0, .int .i64 0, .int .i64 0] 33 (0, 0)) (by (with_reducible repeat (first | refine blk_drewN ?_ _ | refine blk_drew ?_ | refine blk_alloc ?_ _)); exact BK101.out)) : gb101 ≠ gb110)); have n9_ := Aside0.mk ((by rw [hg]; exact Nat.ne_of_gt (blk_lt (g := gb101) (o := .cells #[.int .i64 0, .int .i64 0, .int .i64 0] 33 (0, 0)) (by (with_reducible repeat (first | refine blk_drewN ?_ _ | refine blk_drew ?_ | refine blk_alloc ?_ _)); exact BK101.out)) : gb110 ≠ gb101)); have n10_ := Aside0.mk ((by rw [hg]; exact Nat.ne_of_lt (IsS64.lt (show IsS64 w0 _ g s0_0 t108 from by repeat (first | (with_reducible first | exact HI0.out | apply IsS64.alloc | apply IsS64.drewN | apply IsS64.drew | apply IsS64.set_1 | refine IsS64.far ?_ NB0_101.out _) | exact HI0.out))) : g ≠ gb110)); have n11_ := Aside0.mk ((by rw [hg]; exact Nat.ne_of_gt (IsS64.lt (show IsS64 w0 _ g s0_0 t108 from by repeat (first | (with_reducible first | exact HI0.out | apply IsS64.alloc | apply IsS64.drewN | apply IsS64.drew | apply IsS64.set_1 | refine IsS64.far ?_ NB0_101.out _) | exact HI0.out))) : gb110 ≠ g)); clear HO106; clear HI0; clear BK101; clear HK; clear HB; have HO106 := n0_; have HI0 := n1_; have BK101 := n2_; have HK := n3_; have HB := n4_; have BK110 := n5_; have GW110 := n6_; have GE110 := n7_; have NB101_110 := n8_; have NB110_101 := n9_; have NB0_110 := n10_; have NB110_0 := n11_; clear n0_ n1_ n2_ n3_ n4_ n5_ n6_ n7_ n8_ n9_ n10_ n11_; clear hb hbox hg; have hnb20 := NB110_101.out; have hnc20 := NB101_110.out; have hnb21 := NB110_0.out; have hnc21 := NB0_110.out; have hcz22_0 : w19.cell? ⟨gb110, 0, none⟩ = some (.int .i64 0) := (blk_cell BK110.out 0).trans rfl; have hcz22_1 : w19.cell? ⟨gb110, 1, none⟩ = some (.int .i64 0) := (blk_cell BK110.out 1).trans rfl; have hcz22_2 : w19.cell? ⟨gb110, 2, none⟩ = some (.int .i64 0) := (blk_cell BK110.out 2).trans rfl; have hfz22_0 := blk_frozen BK110.out 0; have hfz22_1 := blk_frozen BK110.out 1; have hfz22_2 := blk_frozen BK110.out 2))
          have pi118 : (0 ≤ (t116 : Int)) = True := eq_true (of_decide_eq_true (by first | (with_reducible assumption) | assumption))
          have qi118 : (t116 < (y113.length : Int)) = True := eq_true (of_decide_eq_true (by first | (with_reducible assumption) | assumption))
          have n0_ : Aside0 (Kd.R (Kd.int .i64) 3 (((w19.setCell ⟨gb110, 0, none⟩ (.int .i64 0)).setCell ⟨gb110, 1, none⟩ (.int .i64 0)).setCell ⟨gb110, 2, none⟩ (.int .i64 (rd y104 t107))) w.heap.size (fun _ => True) (.slice (some ad109) y104.length co18) y104) := ⟨by (with_reducible repeat (first | apply Kd.R_alloc | apply Kd.R_drewN | apply Kd.R_drew)); exact Kd.R_mono (Kd.R_far (p := ⟨gb110, 2, none⟩) (Kd.R_far (p := ⟨gb110, 1, none⟩) (Kd.R_far (p := ⟨gb110, 0, none⟩) (Kd.R_types HO106.out BK110.out (by decide)) (fun _ hk => hk.2) (.int .i64 0)) (fun _ hk => hk.2) (.int .i64 0)) (fun _ hk => hk.2) (.int .i64 (rd y104 t107))) (fun _ hk => trivial)⟩
          have n1_ : Aside0 ((((w19.setCell ⟨gb110, 0, none⟩ (.int .i64 0)).setCell ⟨gb110, 1, none⟩ (.int .i64 0)).setCell ⟨gb110, 2, none⟩ (.int .i64 (rd y104 t107))).heap[gb101]? = some (.cells #[.int .i64 0, .int .i64 0, .int .i64 0] 33 (0, 0))) := ⟨by (with_reducible repeat (first | refine blk_drewN ?_ _ | refine blk_drew ?_ | refine blk_alloc ?_ _)); refine blk_far ?_ NB101_110.out _; (with_reducible repeat (first | refine blk_drewN ?_ _ | refine blk_drew ?_ | refine blk_alloc ?_ _)); refine blk_far ?_ NB101_110.out _; (with_reducible repeat (first | refine blk_drewN ?_ _ | refine blk_drew ?_ | refine blk_alloc ?_ _)); refine blk_far ?_ NB101_110.out _; (with_reducible repeat (first | refine blk_drewN ?_ _ | refine blk_drew ?_ | refine blk_alloc ?_ _)); exact BK101.out⟩
          have n2_ : Aside0 ((((w19.setCell ⟨gb110, 0, none⟩ (.int .i64 0)).setCell ⟨gb110, 1, none⟩ (.int .i64 0)).setCell ⟨gb110, 2, none⟩ (.int .i64 (rd y104 t107))).heap[gb110]? = some (.cells #[.int .i64 0, .int .i64 0, .int .i64 (rd y104 t107)] 33 (0, 0))) := ⟨by (with_reducible repeat (first | refine blk_drewN ?_ _ | refine blk_drew ?_ | refine blk_alloc ?_ _)); refine blk_put (cs := #[.int .i64 0, .int .i64 0, .int .i64 0]) ?_ 2 _ rfl; (with_reducible repeat (first | refine blk_drewN ?_ _ | refine blk_drew ?_ | refine blk_alloc ?_ _)); refine blk_put (cs := #[.int .i64 0, .int .i64 0, .int .i64 0]) ?_ 1 _ rfl; (with_reducible repeat (first | refine blk_drewN ?_ _ | refine blk_drew ?_ | refine blk_alloc ?_ _)); refine blk_put (cs := #[.int .i64 0, .int .i64 0, .int .i64 0]) ?_ 0 _ rfl; (with_reducible repeat (first | refine blk_drewN ?_ _ | refine blk_drew ?_ | refine blk_alloc ?_ _)); exact BK110.out⟩
          have n3_ : Aside0 (IsS64 w0 (((w19.setCell ⟨gb110, 0, none⟩ (.int .i64 0)).setCell ⟨gb110, 1, none⟩ (.int .i64 0)).setCell ⟨gb110, 2, none⟩ (.int .i64 (rd y104 t107))) g s0_0 t108) := ⟨by repeat (first | (with_reducible first | exact HI0.out | apply IsS64.alloc | apply IsS64.drewN | apply IsS64.drew | apply IsS64.set_1 | refine IsS64.far ?_ NB0_101.out _ | refine IsS64.far ?_ NB0_110.out _) | exact HI0.out)⟩
          have n4_ : Aside0 (KeepBut w (((w19.setCell ⟨gb110, 0, none⟩ (.int .i64 0)).setCell ⟨gb110, 1, none⟩ (.int .i64 0)).setCell ⟨gb110, 2, none⟩ (.int .i64 (rd y104 t107))) g none) := ⟨by repeat (first | (with_reducible first | exact HK.out | apply KeepBut.set_ | apply keep_drewN | apply keep_drew | apply keep_alloc | refine keep_far ?_ GW101.out _ | refine keep_far ?_ GW110.out _) | exact HK.out)⟩
          have n5_ : Aside0 (Below w0.heap.size w0 (((w19.setCell ⟨gb110, 0, none⟩ (.int .i64 0)).setCell ⟨gb110, 1, none⟩ (.int .i64 0)).setCell ⟨gb110, 2, none⟩ (.int .i64 (rd y104 t107)))) := ⟨by repeat (first | (with_reducible first | exact HB.out | apply below_alloc | apply pw_below_drewN | apply below_drew1 | refine below_set ?_ (IsS64.ge HI0.out) | refine below_set ?_ GE101.out | refine below_set ?_ GE110.out) | exact HB.out)⟩
          (try clear HO106)
          (try clear BK101)
          (try clear BK110)
          (try clear HI0)
          (try clear HK)
          (try clear HB)
          generalize (((w19.setCell ⟨gb110, 0, none⟩ (.int .i64 0)).setCell ⟨gb110, 1, none⟩ (.int .i64 0)).setCell ⟨gb110, 2, none⟩ (.int .i64 (rd y104 t107))) = w23 at n0_ n1_ n2_ n3_ n4_ n5_ ⊢
          have HO106 := n0_
          have BK101 := n1_
          have BK110 := n2_
          have HI0 := n3_
          have HK := n4_
          have HB := n5_
          clear n0_ n1_ n2_ n3_ n4_ n5_
          have n0_ := Aside0.mk (Kd.R_drew HO106.out)
          have n1_ := Aside0.mk (blk_drew BK101.out)
          have n2_ := Aside0.mk (blk_drew BK110.out)
          have n3_ := Aside0.mk (IsS64.drew HI0.out)
          have n4_ := Aside0.mk (keep_drew HK.out)
          have n5_ := Aside0.mk (below_drew1 HB.out)
          clear HO106
          clear BK101
          clear BK110
          clear HI0
          clear HK
          clear HB
          have HO106 := n0_
          have BK101 := n1_
          have BK110 := n2_
          have HI0 := n3_
          have HK := n4_
          have HB := n5_
          clear n0_ n1_ n2_ n3_ n4_ n5_
          refine start_ (n := 18) (S := fun w' => w'.cell? ⟨gb110, 0, none⟩ = some (.int .i64 0) ∧ w'.cell? ⟨gb110, 1, none⟩ = some (.int .i64 0) ∧ w'.cell? ⟨gb110, 2, none⟩ = some (.int .i64 (rd y104 t107))) (ds := [17]) #[false, false, false, false, false, false, false, false, false, false, false, false, false, false, false, false, false, false] (by kernel_rfl) rfl rfl ⟨(blk_cell BK110.out 0).trans rfl, (blk_cell BK110.out 1).trans rfl, (blk_cell BK110.out 2).trans rfl⟩ (fun hHeld => ?_); refine with_tabW spec_l20Task.tab2 spec_l20Task.bits2 (fun HT_ HW_ => ?_)
          generalize w23.drew = w24 at HO106 BK101 BK110 HI0 HK HB hHeld ⊢
          refine pure_ (i := 0) (N := some 15) (v := ?_) (a' := ?_) #[true, false, false, false, false, false, false, false, false, false, false, false, false, false, false, false, false, false] rfl rfl (any_of HT_.out (by kernel_rfl)) (fun _ _ _ h => h) (Or.inl ⟨by rfl, ?_⟩) ?_ ?_
          rotate_left
          · intro w'
            go_simp
            with_reducible rfl
          rotate_left
          · simp only [Act.put, List.setIfInBounds_toArray, List.set_cons_zero, List.set_cons_succ, i64_w, i32_w]
            rfl
          refine pure_ (i := 2) (N := some 17) (v := ?_) (a' := ?_) #[true, false, true, false, false, false, false, false, false, false, false, false, false, false, false, false, false, false] rfl rfl (any_of HT_.out (by kernel_rfl)) (fun _ _ _ h => h) (Or.inl ⟨by rfl, ?_⟩) ?_ ?_
          rotate_left
          · intro w'
            go_simp
            with_reducible rfl
          rotate_left
          · simp only [Act.put, List.setIfInBounds_toArray, List.set_cons_zero, List.set_cons_succ, i64_w, i32_w]
            rfl
          refine pure_ (i := 3) (N := some 18) (v := ?_) (a' := ?_) #[true, false, true, true, false, false, false, false, false, false, false, false, false, false, false, false, false, false] rfl rfl (any_of HT_.out (by kernel_rfl)) (fun _ _ _ h => h) (Or.inl ⟨by rfl, ?_⟩) ?_ ?_
          rotate_left
          · intro w'
            go_simp
            with_reducible rfl
          rotate_left
          · simp only [Act.put, List.setIfInBounds_toArray, List.set_cons_zero, List.set_cons_succ, i64_w, i32_w]
            rfl
          refine pure_ (i := 7) (N := some 22) (v := ?_) (a' := ?_) #[true, false, true, true, false, false, false, true, false, false, false, false, false, false, false, false, false, false] rfl rfl (any_of HT_.out (by kernel_rfl)) (fun _ _ _ h => h) (Or.inl ⟨by rfl, ?_⟩) ?_ ?_
          rotate_left
          · intro w'
            go_simp
            with_reducible rfl
          rotate_left
          · simp only [Act.put, List.setIfInBounds_toArray, List.set_cons_zero, List.set_cons_succ, i64_w, i32_w]
            rfl
          refine pure_ (i := 12) (N := some 27) (v := ?_) (a' := ?_) #[true, false, true, true, false, false, false, true, false, false, false, false, true, false, false, false, false, false] rfl rfl (any_of HT_.out (by kernel_rfl)) (fun _ _ _ h => h) (Or.inl ⟨by rfl, ?_⟩) ?_ ?_
          rotate_left
          · intro w'
            go_simp
            with_reducible rfl
          rotate_left
          · simp only [Act.put, List.setIfInBounds_toArray, List.set_cons_zero, List.set_cons_succ, i64_w, i32_w]
            rfl
          refine take_ (i := 1) (N := some 16) (v := ?_) (a' := ?_) #[true, true, true, true, false, false, false, true, false, false, false, false, true, false, false, false, false, false] rfl rfl (take_ofW HT_.out HW_.out (by kernel_rfl)) (fun _ _ _ h => h) (Or.inl ⟨by rfl, ?_⟩) hHeld ?_ ?_
          rotate_left
          · rintro w' ⟨s0, s1, s2⟩
            go_simp
            with_reducible rfl
          rotate_left
          · simp only [Act.put, List.setIfInBounds_toArray, List.set_cons_zero, List.set_cons_succ, i64_w, i32_w]
            rfl
          refine take_ (i := 4) (N := some 19) (v := ?_) (a' := ?_) #[true, true, true, true, true, false, false, true, false, false, false, false, true, false, false, false, false, false] rfl rfl (take_ofW HT_.out HW_.out (by kernel_rfl)) (fun _ _ _ h => h) (Or.inl ⟨by rfl, ?_⟩) hHeld ?_ ?_
          rotate_left
          · rintro w' ⟨s0, s1, s2⟩
            go_simp
            with_reducible rfl
          rotate_left
          · simp only [Act.put, List.setIfInBounds_toArray, List.set_cons_zero, List.set_cons_succ, i64_w, i32_w]
            rfl
          refine take_ (i := 8) (N := some 23) (v := ?_) (a' := ?_) #[true, true, true, true, true, false, false, true, true, false, false, false, true, false, false, false, false, false] rfl rfl (take_ofW HT_.out HW_.out (by kernel_rfl)) (fun _ _ _ h => h) (Or.inl ⟨by rfl, ?_⟩) hHeld ?_ ?_
          rotate_left
          · rintro w' ⟨s0, s1, s2⟩
            go_simp
            with_reducible rfl
          rotate_left
          · simp only [Act.put, List.setIfInBounds_toArray, List.set_cons_zero, List.set_cons_succ, i64_w, i32_w]
            rfl
          refine pure_ (i := 9) (N := some 24) (v := ?_) (a' := ?_) #[true, true, true, true, true, false, false, true, true, true, false, false, true, false, false, false, false, false] rfl rfl (any_of HT_.out (by kernel_rfl)) (fun _ _ _ h => h) (Or.inl ⟨by rfl, ?_⟩) ?_ ?_
          rotate_left
          · intro w'
            go_simp
            with_reducible rfl
          rotate_left
          · simp only [Act.put, List.setIfInBounds_toArray, List.set_cons_zero, List.set_cons_succ, i64_w, i32_w]
            rfl
          refine pure_ (i := 10) (N := some 25) (v := ?_) (a' := ?_) #[true, true, true, true, true, false, false, true, true, true, true, false, true, false, false, false, false, false] rfl rfl (any_of HT_.out (by kernel_rfl)) (fun _ _ _ h => h) (Or.inl ⟨by rfl, ?_⟩) ?_ ?_
          rotate_left
          · intro w'
            go_simp
            with_reducible rfl
          rotate_left
          · simp only [Act.put, List.setIfInBounds_toArray, List.set_cons_zero, List.set_cons_succ, i64_w, i32_w]
            rfl
          refine one_ (i := 5) (N := some 20) #[true, true, true, true, true, true, false, true, true, true, true, false, true, false, false, false, false, false] rfl rfl (one_of HT_.out (by kernel_rfl)) (by decide) (fun K hK => ?_)
          refine goes_ Try.func38 (by kernel_rfl) rfl #[.pointer (some ⟨g, 0, none⟩), .int .i64 (rd y104 t107)] (by rfl) rfl rfl (by (try simp only [List.map_toArray, List.map_cons, List.map_nil]); first | done | rfl | (simp only [List.length_drop, List.length_take]; rfl)) ?_
          with_reducible refine (spec_l20Rd_pick.calls k g s0_0 t108 (rd y104 t107) t111 t112 w0 _ ?side1 ?side2 A7.out).mono ?_
          (case side1 => repeat (first | (with_reducible first | exact HI0.out | apply IsS64.alloc | apply IsS64.drewN | apply IsS64.drew | apply IsS64.set_1 | refine IsS64.far ?_ NB0_101.out _ | refine IsS64.far ?_ NB0_110.out _) | exact HI0.out))
          (case side2 => repeat (first | (with_reducible first | exact HB.out | apply below_alloc | apply pw_below_drewN | apply below_drew1 | refine below_set ?_ (IsS64.ge HI0.out) | refine below_set ?_ GE101.out | refine below_set ?_ GE110.out) | exact HB.out))
          rintro e w25 ⟨rfl, hi, hb, hk⟩
          refine ⟨_, rfl, ?_⟩
          have n0_ := Aside0.mk (KeepBut.blk hk (g' := gb101) (o := .cells #[.int .i64 0, .int .i64 0, .int .i64 0] 33 (0, 0)) (by (with_reducible repeat (first | refine blk_drewN ?_ _ | refine blk_drew ?_ | refine blk_alloc ?_ _)); exact BK101.out) NB101_0.out (by simp))
          have n1_ := Aside0.mk (Kd.R_mono (Kd.R_keep (IsS64.apart (show IsS64 w0 _ g s0_0 t108 from by repeat (first | (with_reducible first | exact HI0.out | apply IsS64.alloc | apply IsS64.drewN | apply IsS64.drew | apply IsS64.set_1 | refine IsS64.far ?_ NB0_101.out _ | refine IsS64.far ?_ NB0_110.out _) | exact HI0.out)) (by (with_reducible repeat (first | apply Kd.R_alloc | apply Kd.R_drewN | apply Kd.R_drew)); exact HO106.out) (by decide)) hk (fun _ h => h.2)) (fun _ h => h.1))
          have n2_ := Aside0.mk (KeepBut.blk hk (g' := gb110) (o := .cells #[.int .i64 0, .int .i64 0, .int .i64 (rd y104 t107)] 33 (0, 0)) (by (with_reducible repeat (first | refine blk_drewN ?_ _ | refine blk_drew ?_ | refine blk_alloc ?_ _)); exact BK110.out) NB110_0.out (by simp))
          have n3_ := Aside0.mk (KeepBut.trans (by repeat (first | (with_reducible first | exact HK.out | apply KeepBut.set_ | apply keep_drewN | apply keep_drew | apply keep_alloc | refine keep_far ?_ GW101.out _ | refine keep_far ?_ GW110.out _) | exact HK.out)) hk (.inl rfl))
          have n4_ := Aside0.mk (hb)
          have n5_ := Aside0.mk (hi)
          clear BK101
          clear HO106
          clear BK110
          clear HK
          clear HB
          clear HI0
          have BK101 := n0_
          have HO106 := n1_
          have BK110 := n2_
          have HK := n3_
          have HB := n4_
          have HI0 := n5_
          clear n0_ n1_ n2_ n3_ n4_ n5_
          (try clear hb)
          (try clear hb2)
          (try clear hk)
          (try clear hi)
          refine hK.out _ _ ⟨(blk_cell BK110.out 0).trans rfl, (blk_cell BK110.out 1).trans rfl, (blk_cell BK110.out 2).trans rfl⟩ (fun hHeld => ?_)
          clear hK K
          refine norm_ (a' := ?_) ?_ ?_
          rotate_left
          · show Act.put _ (some 20) _ = _
            simp only [Act.put, List.setIfInBounds_toArray, List.set_cons_zero, List.set_cons_succ, i64_w, i32_w]
            rfl
          refine pure_ (i := 6) (N := some 21) (v := ?_) (a' := ?_) #[true, true, true, true, true, true, true, true, true, true, true, false, true, false, false, false, false, false] rfl rfl (any_of HT_.out (by kernel_rfl)) (fun _ _ _ h => h) (Or.inl ⟨by rfl, ?_⟩) ?_ ?_
          rotate_left
          · intro w'
            go_simp
            with_reducible rfl
          rotate_left
          · simp only [Act.put, List.setIfInBounds_toArray, List.set_cons_zero, List.set_cons_succ, i64_w, i32_w]
            rfl
          refine join_ (σ := Value × Addr) 4 #[true, true, true, true, true, true, true, true, true, true, true, true, true, true, false, false, false, false] (fun s_ => [(26, s_.1), (28, .int .i64 t116)]) (fun s_ w' => (w'.cell? ⟨gb110, 0, none⟩ = some (.int .i64 0) ∧ w'.cell? ⟨gb110, 1, none⟩ = some (.int .i64 0) ∧ w'.cell? ⟨gb110, 2, none⟩ = some (.int .i64 (rd y104 t107))) ∧ (Kd.R (Kd.int .i64) 3 w' w.heap.size (fun k_ => some k_ ≠ (s_.1 : Value).ownBlock) (.slice (some ad109) y104.length co18) y104) ∧ (Kd.R (Kd.int .i64) 3 w' w.heap.size (fun k_ => some k_ ≠ (.slice (some ad109) y104.length co18 : Value).ownBlock) s_.1 y113) ∧ (∃ c_, (s_.1 : Value) = .slice (some s_.2) y113.length c_) ∧ (w'.heap[gb101]? = some (.cells #[.int .i64 0, .int .i64 0, .int .i64 0] 33 (0, 0))) ∧ (w'.heap[gb110]? = some (.cells #[.int .i64 0, .int .i64 0, .int .i64 (rd y104 t107)] 33 (0, 0))) ∧ (IsS64 w0 w' g s0_0 t117) ∧ (KeepBut w w' g none) ∧ (Below w0.heap.size w0 w')) ?_ ?_
          rotate_left
          · intro hCont
            refine two_ (i := 11) (j := 13) (Ni := some 26) (Nj := some 28) #[true, true, true, true, true, true, true, true, true, true, true, true, true, false, false, false, false, false] #[true, true, true, true, true, true, true, true, true, true, true, false, true, true, false, false, false, false] rfl rfl rfl rfl (two_of HT_.out (by kernel_rfl)) (by decide) (by decide) (fun K hK => ?_) (fun K hK => ?_)
            · skip
              refine Kd.R_lit_step (Kd.int .i64) _ 3 ?hg (N := 26) ?hd (xs := ([rd y104 t107, wrap64 (1 + t111), ji8] : List Int)) (inner := [.int .i64 (rd y104 t107), .int .i64 (wrap64 (1 + t111)), .int .i64 ji8]) (ok := fun _ => True) (okp := fun _ => True) ?hr ?hp (fun _ hk => hk) trivial (Below.refl _ _) (Nat.le_refl _) (by simp) ?_; (case hd => rfl); (case hg => rfl); (case hr => first | (go_simp; done) | (go_simp; rfl)); (case hp => exact (Reps.one (show Kd.M (Kd.int .i64) _ _ _ (rd y104 t107) [.int .i64 (rd y104 t107)] from rfl) (Reps.one (show Kd.M (Kd.int .i64) _ _ _ (wrap64 (1 + t111)) [.int .i64 (wrap64 (1 + t111))] from rfl) (Reps.one (show Kd.M (Kd.int .i64) _ _ _ ji8 [.int .i64 ji8] from rfl) (Reps.none _ _)))))
              intro v114 w26 ho27 hb hg_ hnew_
              clear hg_ hnew_
              (first | rw [← Ny113.out] at ho27 | (simp only [Int.reduceToNat] at ho27; rw [← Ny113.out] at ho27))
              have n0_ := Aside0.mk (Kd.R_elder' (by (with_reducible repeat (first | apply Kd.R_alloc | apply Kd.R_drewN | apply Kd.R_drew)); exact HO106.out) (Kd.R_base ho27) hb)
              have n1_ := Aside0.mk (Kd.R_lower (Kd.R_new' ho27 (Kd.R_lt (by (with_reducible repeat (first | apply Kd.R_alloc | apply Kd.R_drewN | apply Kd.R_drew)); exact HO106.out))) (keep_size (w := w) (g := g) (row := none) (by repeat (first | (with_reducible first | exact HK.out | apply KeepBut.set_ | apply keep_drewN | apply keep_drew | apply keep_alloc | refine keep_far ?_ GW101.out _ | refine keep_far ?_ GW110.out _) | exact HK.out))))
              have n2_ := Aside0.mk (IsS64.below (by repeat (first | (with_reducible first | exact HI0.out | apply IsS64.alloc | apply IsS64.drewN | apply IsS64.drew | apply IsS64.set_1 | refine IsS64.far ?_ NB0_101.out _ | refine IsS64.far ?_ NB0_110.out _) | exact HI0.out)) hb)
              have n3_ := Aside0.mk (blk_below (g := gb101) (o := .cells #[.int .i64 0, .int .i64 0, .int .i64 0] 33 (0, 0)) (by (with_reducible repeat (first | refine blk_drewN ?_ _ | refine blk_drew ?_ | refine blk_alloc ?_ _)); exact BK101.out) hb)
              have n4_ := Aside0.mk (blk_below (g := gb110) (o := .cells #[.int .i64 0, .int .i64 0, .int .i64 (rd y104 t107)] 33 (0, 0)) (by (with_reducible repeat (first | refine blk_drewN ?_ _ | refine blk_drew ?_ | refine blk_alloc ?_ _)); exact BK110.out) hb)
              have n5_ := Aside0.mk (KeepBut.trans (by repeat (first | (with_reducible first | exact HK.out | apply KeepBut.set_ | apply keep_drewN | apply keep_drew | apply keep_alloc | refine keep_far ?_ GW101.out _ | refine keep_far ?_ GW110.out _) | exact HK.out)) (KeepBut.of_below hb g none) (.inl rfl))
              have n6_ := Aside0.mk (below_step (by repeat (first | (with_reducible first | exact HB.out | apply below_alloc | apply pw_below_drewN | apply below_drew1 | refine below_set ?_ (IsS64.ge HI0.out) | refine below_set ?_ GE101.out | refine below_set ?_ GE110.out) | exact HB.out)) hb)
              clear HO106
              clear HI0
              clear BK101
              clear BK110
              clear HK
              clear HB
              have HO106 := n0_
              have HO115 := n1_
              have HI0 := n2_
              have BK101 := n3_
              have BK110 := n4_
              have HK := n5_
              have HB := n6_
              clear n0_ n1_ n2_ n3_ n4_ n5_ n6_
              clear hb ho27
              obtain ⟨Ao28, co28, eo28⟩ := Kd.R_slice HO115.out
              subst eo28
              obtain ⟨ado28, fo28, _⟩ := Kd.at_int (Kd.R_reads' HO115.out).2.2 0 (by decide) (by rw [Ny113.out]; simp)
              cases fo28
              refine hK.out _ _ ⟨(blk_cell BK110.out 0).trans rfl, (blk_cell BK110.out 1).trans rfl, (blk_cell BK110.out 2).trans rfl⟩ (fun hHeld => ?_)
              clear hK K
              refine norm_ (a' := ?_) ?_ ?_
              rotate_left
              · show Act.put _ (some 26) _ = _
                simp only [Act.put, List.setIfInBounds_toArray, List.set_cons_zero, List.set_cons_succ, i64_w, i32_w]
                rfl
              refine one_ (i := 13) (N := some 28) #[true, true, true, true, true, true, true, true, true, true, true, true, true, true, false, false, false, false] rfl rfl (one_of HT_.out (by kernel_rfl)) (by decide) (fun K hK => ?_)
              refine goes_ Try.func38 (by kernel_rfl) rfl #[.pointer (some ⟨g, 0, none⟩), .int .i64 3] (by rfl) rfl rfl (by (try simp only [List.map_toArray, List.map_cons, List.map_nil]); first | done | rfl | (simp only [List.length_drop, List.length_take]; rfl)) ?_
              with_reducible refine (spec_l20Rd_pick.calls k g s0_0 t112 3 t116 t117 w0 _ ?side1 ?side2 A9.out).mono ?_
              (case side1 => repeat (first | (with_reducible first | exact HI0.out | apply IsS64.alloc | apply IsS64.drewN | apply IsS64.drew | apply IsS64.set_1 | refine IsS64.far ?_ NB0_101.out _ | refine IsS64.far ?_ NB0_110.out _) | exact HI0.out))
              (case side2 => repeat (first | (with_reducible first | exact HB.out | apply below_alloc | apply pw_below_drewN | apply below_drew1 | refine below_set ?_ (IsS64.ge HI0.out) | refine below_set ?_ GE101.out | refine below_set ?_ GE110.out) | exact HB.out))
              rintro e w29 ⟨rfl, hi, hb, hk⟩
              refine ⟨_, rfl, ?_⟩
              have n0_ := Aside0.mk (KeepBut.blk hk (g' := gb101) (o := .cells #[.int .i64 0, .int .i64 0, .int .i64 0] 33 (0, 0)) (by (with_reducible repeat (first | refine blk_drewN ?_ _ | refine blk_drew ?_ | refine blk_alloc ?_ _)); exact BK101.out) NB101_0.out (by simp))
              have n1_ := Aside0.mk (Kd.R_mono (Kd.R_keep (IsS64.apart (show IsS64 w0 _ g s0_0 t112 from by repeat (first | (with_reducible first | exact HI0.out | apply IsS64.alloc | apply IsS64.drewN | apply IsS64.drew | apply IsS64.set_1 | refine IsS64.far ?_ NB0_101.out _ | refine IsS64.far ?_ NB0_110.out _) | exact HI0.out)) (by (with_reducible repeat (first | apply Kd.R_alloc | apply Kd.R_drewN | apply Kd.R_drew)); exact HO106.out) (by decide)) hk (fun _ h => h.2)) (fun _ h => h.1))
              have n2_ := Aside0.mk (KeepBut.blk hk (g' := gb110) (o := .cells #[.int .i64 0, .int .i64 0, .int .i64 (rd y104 t107)] 33 (0, 0)) (by (with_reducible repeat (first | refine blk_drewN ?_ _ | refine blk_drew ?_ | refine blk_alloc ?_ _)); exact BK110.out) NB110_0.out (by simp))
              have n3_ := Aside0.mk (Kd.R_mono (Kd.R_keep (IsS64.apart (show IsS64 w0 _ g s0_0 t112 from by repeat (first | (with_reducible first | exact HI0.out | apply IsS64.alloc | apply IsS64.drewN | apply IsS64.drew | apply IsS64.set_1 | refine IsS64.far ?_ NB0_101.out _ | refine IsS64.far ?_ NB0_110.out _) | exact HI0.out)) (by (with_reducible repeat (first | apply Kd.R_alloc | apply Kd.R_drewN | apply Kd.R_drew)); exact HO115.out) (by decide)) hk (fun _ h => h.2)) (fun _ h => h.1))
              have n4_ := Aside0.mk (KeepBut.trans (by repeat (first | (with_reducible first | exact HK.out | apply KeepBut.set_ | apply keep_drewN | apply keep_drew | apply keep_alloc | refine keep_far ?_ GW101.out _ | refine keep_far ?_ GW110.out _) | exact HK.out)) hk (.inl rfl))
              have n5_ := Aside0.mk (hb)
              have n6_ := Aside0.mk (hi)
              clear BK101
              clear HO106
              clear BK110
              clear HO115
              clear HK
              clear HB
              clear HI0
              have BK101 := n0_
              have HO106 := n1_
              have BK110 := n2_
              have HO115 := n3_
              have HK := n4_
              have HB := n5_
              have HI0 := n6_
              clear n0_ n1_ n2_ n3_ n4_ n5_ n6_
              (try clear hb)
              (try clear hb2)
              (try clear hk)
              (try clear hi)
              refine hK.out _ _ ⟨(blk_cell BK110.out 0).trans rfl, (blk_cell BK110.out 1).trans rfl, (blk_cell BK110.out 2).trans rfl⟩ (fun hHeld => ?_)
              clear hK K
              refine norm_ (a' := ?_) ?_ ?_
              rotate_left
              · show Act.put _ (some 28) _ = _
                simp only [Act.put, List.setIfInBounds_toArray, List.set_cons_zero, List.set_cons_succ, i64_w, i32_w]
                rfl
              exact norm_ (by simp only [putAll, Act.put, List.setIfInBounds_toArray, List.set_cons_zero, List.set_cons_succ]) (hCont (.slice (some ado28) y113.length co28, ado28) _ ⟨hHeld, (by (with_reducible repeat (first | apply Kd.R_alloc | apply Kd.R_drewN | apply Kd.R_drew)); exact Kd.R_mono HO106.out (fun _ hk => hk.2)), (by (with_reducible repeat (first | apply Kd.R_alloc | apply Kd.R_drewN | apply Kd.R_drew)); exact Kd.R_mono HO115.out (fun _ hk => hk.2)), ⟨_, rfl⟩, (by (with_reducible repeat (first | refine blk_drewN ?_ _ | refine blk_drew ?_ | refine blk_alloc ?_ _)); exact BK101.out), (by (with_reducible repeat (first | refine blk_drewN ?_ _ | refine blk_drew ?_ | refine blk_alloc ?_ _)); exact BK110.out), (by repeat (first | (with_reducible first | exact HI0.out | apply IsS64.alloc | apply IsS64.drewN | apply IsS64.drew | apply IsS64.set_1 | refine IsS64.far ?_ NB0_101.out _ | refine IsS64.far ?_ NB0_110.out _) | exact HI0.out)), (by repeat (first | (with_reducible first | exact HK.out | apply KeepBut.set_ | apply keep_drewN | apply keep_drew | apply keep_alloc | refine keep_far ?_ GW101.out _ | refine keep_far ?_ GW110.out _) | exact HK.out)), (by repeat (first | (with_reducible first | exact HB.out | apply below_alloc | apply pw_below_drewN | apply below_drew1 | refine below_set ?_ (IsS64.ge HI0.out) | refine below_set ?_ GE101.out | refine below_set ?_ GE110.out) | exact HB.out))⟩)
            · skip
              refine goes_ Try.func38 (by kernel_rfl) rfl #[.pointer (some ⟨g, 0, none⟩), .int .i64 3] (by rfl) rfl rfl (by (try simp only [List.map_toArray, List.map_cons, List.map_nil]); first | done | rfl | (simp only [List.length_drop, List.length_take]; rfl)) ?_
              with_reducible refine (spec_l20Rd_pick.calls k g s0_0 t112 3 t116 t117 w0 _ ?side1 ?side2 A9.out).mono ?_
              (case side1 => repeat (first | (with_reducible first | exact HI0.out | apply IsS64.alloc | apply IsS64.drewN | apply IsS64.drew | apply IsS64.set_1 | refine IsS64.far ?_ NB0_101.out _ | refine IsS64.far ?_ NB0_110.out _) | exact HI0.out))
              (case side2 => repeat (first | (with_reducible first | exact HB.out | apply below_alloc | apply pw_below_drewN | apply below_drew1 | refine below_set ?_ (IsS64.ge HI0.out) | refine below_set ?_ GE101.out | refine below_set ?_ GE110.out) | exact HB.out))
              rintro e w26 ⟨rfl, hi, hb, hk⟩
              refine ⟨_, rfl, ?_⟩
              have n0_ := Aside0.mk (KeepBut.blk hk (g' := gb101) (o := .cells #[.int .i64 0, .int .i64 0, .int .i64 0] 33 (0, 0)) (by (with_reducible repeat (first | refine blk_drewN ?_ _ | refine blk_drew ?_ | refine blk_alloc ?_ _)); exact BK101.out) NB101_0.out (by simp))
              have n1_ := Aside0.mk (Kd.R_mono (Kd.R_keep (IsS64.apart (show IsS64 w0 _ g s0_0 t112 from by repeat (first | (with_reducible first | exact HI0.out | apply IsS64.alloc | apply IsS64.drewN | apply IsS64.drew | apply IsS64.set_1 | refine IsS64.far ?_ NB0_101.out _ | refine IsS64.far ?_ NB0_110.out _) | exact HI0.out)) (by (with_reducible repeat (first | apply Kd.R_alloc | apply Kd.R_drewN | apply Kd.R_drew)); exact HO106.out) (by decide)) hk (fun _ h => h.2)) (fun _ h => h.1))
              have n2_ := Aside0.mk (KeepBut.blk hk (g' := gb110) (o := .cells #[.int .i64 0, .int .i64 0, .int .i64 (rd y104 t107)] 33 (0, 0)) (by (with_reducible repeat (first | refine blk_drewN ?_ _ | refine blk_drew ?_ | refine blk_alloc ?_ _)); exact BK110.out) NB110_0.out (by simp))
              have n3_ := Aside0.mk (KeepBut.trans (by repeat (first | (with_reducible first | exact HK.out | apply KeepBut.set_ | apply keep_drewN | apply keep_drew | apply keep_alloc | refine keep_far ?_ GW101.out _ | refine keep_far ?_ GW110.out _) | exact HK.out)) hk (.inl rfl))
              have n4_ := Aside0.mk (hb)
              have n5_ := Aside0.mk (hi)
              clear BK101
              clear HO106
              clear BK110
              clear HK
              clear HB
              clear HI0
              have BK101 := n0_
              have HO106 := n1_
              have BK110 := n2_
              have HK := n3_
              have HB := n4_
              have HI0 := n5_
              clear n0_ n1_ n2_ n3_ n4_ n5_
              (try clear hb)
              (try clear hb2)
              (try clear hk)
              (try clear hi)
              refine hK.out _ _ ⟨(blk_cell BK110.out 0).trans rfl, (blk_cell BK110.out 1).trans rfl, (blk_cell BK110.out 2).trans rfl⟩ (fun hHeld => ?_)
              clear hK K
              refine norm_ (a' := ?_) ?_ ?_
              rotate_left
              · show Act.put _ (some 28) _ = _
                simp only [Act.put, List.setIfInBounds_toArray, List.set_cons_zero, List.set_cons_succ, i64_w, i32_w]
                rfl
              refine one_ (i := 11) (N := some 26) #[true, true, true, true, true, true, true, true, true, true, true, true, true, true, false, false, false, false] rfl rfl (one_of HT_.out (by kernel_rfl)) (by decide) (fun K hK => ?_)
              refine Kd.R_lit_step (Kd.int .i64) _ 3 ?hg (N := 26) ?hd (xs := ([rd y104 t107, wrap64 (1 + t111), ji8] : List Int)) (inner := [.int .i64 (rd y104 t107), .int .i64 (wrap64 (1 + t111)), .int .i64 ji8]) (ok := fun _ => True) (okp := fun _ => True) ?hr ?hp (fun _ hk => hk) trivial (Below.refl _ _) (Nat.le_refl _) (by simp) ?_; (case hd => rfl); (case hg => rfl); (case hr => first | (go_simp; done) | (go_simp; rfl)); (case hp => exact (Reps.one (show Kd.M (Kd.int .i64) _ _ _ (rd y104 t107) [.int .i64 (rd y104 t107)] from rfl) (Reps.one (show Kd.M (Kd.int .i64) _ _ _ (wrap64 (1 + t111)) [.int .i64 (wrap64 (1 + t111))] from rfl) (Reps.one (show Kd.M (Kd.int .i64) _ _ _ ji8 [.int .i64 ji8] from rfl) (Reps.none _ _)))))
              intro v114 w27 ho28 hb hg_ hnew_
              clear hg_ hnew_
              (first | rw [← Ny113.out] at ho28 | (simp only [Int.reduceToNat] at ho28; rw [← Ny113.out] at ho28))
              have n0_ := Aside0.mk (Kd.R_elder' (by (with_reducible repeat (first | apply Kd.R_alloc | apply Kd.R_drewN | apply Kd.R_drew)); exact HO106.out) (Kd.R_base ho28) hb)
              have n1_ := Aside0.mk (Kd.R_lower (Kd.R_new' ho28 (Kd.R_lt (by (with_reducible repeat (first | apply Kd.R_alloc | apply Kd.R_drewN | apply Kd.R_drew)); exact HO106.out))) (keep_size (w := w) (g := g) (row := none) (by repeat (first | (with_reducible first | exact HK.out | apply KeepBut.set_ | apply keep_drewN | apply keep_drew | apply keep_alloc | refine keep_far ?_ GW101.out _ | refine keep_far ?_ GW110.out _) | exact HK.out))))
              have n2_ := Aside0.mk (IsS64.below (by repeat (first | (with_reducible first | exact HI0.out | apply IsS64.alloc | apply IsS64.drewN | apply IsS64.drew | apply IsS64.set_1 | refine IsS64.far ?_ NB0_101.out _ | refine IsS64.far ?_ NB0_110.out _) | exact HI0.out)) hb)
              have n3_ := Aside0.mk (blk_below (g := gb101) (o := .cells #[.int .i64 0, .int .i64 0, .int .i64 0] 33 (0, 0)) (by (with_reducible repeat (first | refine blk_drewN ?_ _ | refine blk_drew ?_ | refine blk_alloc ?_ _)); exact BK101.out) hb)
              have n4_ := Aside0.mk (blk_below (g := gb110) (o := .cells #[.int .i64 0, .int .i64 0, .int .i64 (rd y104 t107)] 33 (0, 0)) (by (with_reducible repeat (first | refine blk_drewN ?_ _ | refine blk_drew ?_ | refine blk_alloc ?_ _)); exact BK110.out) hb)
              have n5_ := Aside0.mk (KeepBut.trans (by repeat (first | (with_reducible first | exact HK.out | apply KeepBut.set_ | apply keep_drewN | apply keep_drew | apply keep_alloc | refine keep_far ?_ GW101.out _ | refine keep_far ?_ GW110.out _) | exact HK.out)) (KeepBut.of_below hb g none) (.inl rfl))
              have n6_ := Aside0.mk (below_step (by repeat (first | (with_reducible first | exact HB.out | apply below_alloc | apply pw_below_drewN | apply below_drew1 | refine below_set ?_ (IsS64.ge HI0.out) | refine below_set ?_ GE101.out | refine below_set ?_ GE110.out) | exact HB.out)) hb)
              clear HO106
              clear HI0
              clear BK101
              clear BK110
              clear HK
              clear HB
              have HO106 := n0_
              have HO115 := n1_
              have HI0 := n2_
              have BK101 := n3_
              have BK110 := n4_
              have HK := n5_
              have HB := n6_
              clear n0_ n1_ n2_ n3_ n4_ n5_ n6_
              clear hb ho28
              obtain ⟨Ao29, co29, eo29⟩ := Kd.R_slice HO115.out
              subst eo29
              obtain ⟨ado29, fo29, _⟩ := Kd.at_int (Kd.R_reads' HO115.out).2.2 0 (by decide) (by rw [Ny113.out]; simp)
              cases fo29
              refine hK.out _ _ ⟨(blk_cell BK110.out 0).trans rfl, (blk_cell BK110.out 1).trans rfl, (blk_cell BK110.out 2).trans rfl⟩ (fun hHeld => ?_)
              clear hK K
              refine norm_ (a' := ?_) ?_ ?_
              rotate_left
              · show Act.put _ (some 26) _ = _
                simp only [Act.put, List.setIfInBounds_toArray, List.set_cons_zero, List.set_cons_succ, i64_w, i32_w]
                rfl
              exact norm_ (by simp only [putAll, Act.put, List.setIfInBounds_toArray, List.set_cons_zero, List.set_cons_succ]) (hCont (.slice (some ado29) y113.length co29, ado29) _ ⟨hHeld, (by (with_reducible repeat (first | apply Kd.R_alloc | apply Kd.R_drewN | apply Kd.R_drew)); exact Kd.R_mono HO106.out (fun _ hk => hk.2)), (by (with_reducible repeat (first | apply Kd.R_alloc | apply Kd.R_drewN | apply Kd.R_drew)); exact Kd.R_mono HO115.out (fun _ hk => hk.2)), ⟨_, rfl⟩, (by (with_reducible repeat (first | refine blk_drewN ?_ _ | refine blk_drew ?_ | refine blk_alloc ?_ _)); exact BK101.out), (by (with_reducible repeat (first | refine blk_drewN ?_ _ | refine blk_drew ?_ | refine blk_alloc ?_ _)); exact BK110.out), (by repeat (first | (with_reducible first | exact HI0.out | apply IsS64.alloc | apply IsS64.drewN | apply IsS64.drew | apply IsS64.set_1 | refine IsS64.far ?_ NB0_101.out _ | refine IsS64.far ?_ NB0_110.out _) | exact HI0.out)), (by repeat (first | (with_reducible first | exact HK.out | apply KeepBut.set_ | apply keep_drewN | apply keep_drew | apply keep_alloc | refine keep_far ?_ GW101.out _ | refine keep_far ?_ GW110.out _) | exact HK.out)), (by repeat (first | (with_reducible first | exact HB.out | apply below_alloc | apply pw_below_drewN | apply below_drew1 | refine below_set ?_ (IsS64.ge HI0.out) | refine below_set ?_ GE101.out | refine below_set ?_ GE110.out) | exact HB.out))⟩)
          rintro ⟨v114, adz_v114⟩ w30 ⟨hS_, h0_, h1_, h2_, h3_, h4_, h5_, h6_, h7_⟩
          have n0_ : Aside0 (Kd.R (Kd.int .i64) 3 w30 w.heap.size (fun k_ => some k_ ≠ (v114 : Value).ownBlock) (.slice (some ad109) y104.length co18) y104) := ⟨h0_⟩
          have n1_ : Aside0 (Kd.R (Kd.int .i64) 3 w30 w.heap.size (fun k_ => some k_ ≠ (.slice (some ad109) y104.length co18 : Value).ownBlock) v114 y113) := ⟨h1_⟩
          have n2_ : Aside0 (∃ c_, (v114 : Value) = .slice (some adz_v114) y113.length c_) := ⟨h2_⟩
          have n3_ : Aside0 (w30.heap[gb101]? = some (.cells #[.int .i64 0, .int .i64 0, .int .i64 0] 33 (0, 0))) := ⟨h3_⟩
          have n4_ : Aside0 (w30.heap[gb110]? = some (.cells #[.int .i64 0, .int .i64 0, .int .i64 (rd y104 t107)] 33 (0, 0))) := ⟨h4_⟩
          have n5_ : Aside0 (IsS64 w0 w30 g s0_0 t117) := ⟨h5_⟩
          have n6_ : Aside0 (KeepBut w w30 g none) := ⟨h6_⟩
          have n7_ : Aside0 (Below w0.heap.size w0 w30) := ⟨h7_⟩
          clear HO106
          clear BK101
          clear BK110
          clear HI0
          clear HK
          clear HB
          clear h0_ h1_ h2_ h3_ h4_ h5_ h6_ h7_
          have HO106 := n0_
          have HO115 := n1_
          have HA_HO115 := n2_
          have BK101 := n3_
          have BK110 := n4_
          have HI0 := n5_
          have HK := n6_
          have HB := n7_
          clear n0_ n1_ n2_ n3_ n4_ n5_ n6_ n7_
          have hHeld : w30.cell? ⟨gb110, 0, none⟩ = some (.int .i64 0) ∧ w30.cell? ⟨gb110, 1, none⟩ = some (.int .i64 0) ∧ w30.cell? ⟨gb110, 2, none⟩ = some (.int .i64 (rd y104 t107)) := hS_
          obtain ⟨co31, eo31⟩ := HA_HO115.out
          clear HA_HO115
          subst eo31
          refine norm_ (a' := ?_) ?_ ?_
          rotate_left
          · simp only [putAll, Act.put, List.setIfInBounds_toArray, List.set_cons_zero, List.set_cons_succ]
            rfl
          refine pure_ (i := 14) (N := some 29) (v := ?_) (a' := ?_) #[true, true, true, true, true, true, true, true, true, true, true, true, true, true, true, false, false, false] rfl rfl (any_of HT_.out (by kernel_rfl)) (fun _ _ _ h => h) (Or.inl ⟨by rfl, ?_⟩) ?_ ?_
          rotate_left
          · intro w'
            go_simp
            with_reducible rfl
          rotate_left
          · simp only [Act.put, List.setIfInBounds_toArray, List.set_cons_zero, List.set_cons_succ, i64_w, i32_w]
            rfl
          refine one_ (i := 15) (N := some 30) #[true, true, true, true, true, true, true, true, true, true, true, true, true, true, true, true, false, false] rfl rfl (one_of HT_.out (by kernel_rfl)) (by decide) (fun K hK => ?_)
          (have p118 : 0 ≤ (t116 : Int) := of_decide_eq_true (by first | (with_reducible assumption) | assumption); have q118 : t116 < (y113.length : Int) := of_decide_eq_true (by first | (with_reducible assumption) | assumption); obtain ⟨ad118, e118, hx118_0⟩ := Kd.at_int (Kd.R_reads' HO115.out).2.2 t116 p118 q118; obtain rfl : adz_v114 = ad118 := (by injection e118))
          refine value_ (w1 := ?_) (v := ?_) (by rfl) rfl ?_ ?_
          rotate_left 2
          · go_simp
            constructor
            · rfl
            · rfl
          clear hx118_0
          refine hK.out _ _ ⟨(blk_cell BK110.out 0).trans rfl, (blk_cell BK110.out 1).trans rfl, (blk_cell BK110.out 2).trans rfl⟩ (fun hHeld => ?_)
          clear hK K
          refine norm_ (a' := ?_) ?_ ?_
          rotate_left
          · show Act.put _ (some 30) _ = _
            simp only [Act.put, List.setIfInBounds_toArray, List.set_cons_zero, List.set_cons_succ, i64_w, i32_w]
            rfl
          refine pure_ (i := 16) (N := some 31) (v := ?_) (a' := ?_) #[true, true, true, true, true, true, true, true, true, true, true, true, true, true, true, true, true, false] rfl rfl (any_of HT_.out (by kernel_rfl)) (fun _ _ _ h => h) (Or.inl ⟨by rfl, ?_⟩) ?_ ?_
          rotate_left
          · intro w'
            go_simp
            with_reducible rfl
          rotate_left
          · simp only [Act.put, List.setIfInBounds_toArray, List.set_cons_zero, List.set_cons_succ, i64_w, i32_w]
            rfl
          refine last_ (i := 17) (N := none) #[true, true, true, true, true, true, true, true, true, true, true, true, true, true, true, true, true, true] rfl rfl (one_of HT_.out (by kernel_rfl)) (by decide) (fun K hK => ?_)
          have hs32 : w30.cell? ⟨gb110, 1, none⟩ = some (.int .i64 0) := (blk_cell BK110.out 1).trans rfl
          have hfs32 := blk_frozen BK110.out 1
          have hns32_0 := NB101_110.out
          have hms32_0 := NB110_101.out
          refine skip_ (w1 := ?_) (by rfl) rfl ?_ ?_
          rotate_left
          · go_simp
            rfl
          refine hK.out _ _ ?_
          clear hK K
          refine done_ (done_of HT_.out (by kernel_rfl)) ?_
          go_upto_region 3 with (fail)
          go_cut [] (fun wc => ∃ (kq : Nat) (x1001_11 : Int) (x111000_11 : Int), Aside0 (spec_l20Task.j0 kq a1 s0_0 x1001_11 x111000_11 (rd y113 t116) (rd y104 t107) = some (r1, r2, r3, r4)) ∧ Aside0 (kq ≤ k) ∧ Aside0 (wc.heap[gb101]? = some (.cells #[.int .i64 0, .int .i64 0, .int .i64 0] 33 (0, 0))) ∧ Aside0 (wc.heap[gb110]? = some (.cells #[.int .i64 x111000_11, .int .i64 (rd y113 t116), .int .i64 (rd y104 t107)] 33 (0, 0))) ∧ Aside0 (IsS64 w0 wc g s0_0 x1001_11) ∧ Aside0 (KeepBut w wc g none) ∧ Aside0 (Below w0.heap.size w0 wc))
          case first =>
            have H := HC12.out
            clear HC12
            obtain ⟨ji33, hji33⟩ : ∃ j_ : Int, (mx 1 (wrap64 (Int.tdiv (rd y113 t116) 2))) = j_ := ⟨_, rfl⟩
            replace H : ((some (([rd y113 t116, ji33, mx 1 (wrap64 (Int.tdiv (rd y113 t116) 3))] : List Int) : List Int)).bind fun y119 => ((spec_l20Rd_pick.f k s0_0 t117 3).bind fun bt122 => (if 0 ≤ bt122.1 then (if bt122.1 < (y119.length : Int) then ((spec_l20Rd_pick.f k s0_0 bt122.2 (mn 8 (rd y119 bt122.1))).bind fun bt125 => (spec_l20Task.j0 k a1 s0_0 bt125.2 (wrap64 (1 + bt125.1)) (rd y113 t116) (rd y104 t107))) else (none)) else (none)))) = some (r1, r2, r3, r4) := by first | (rw [hji33] at H; exact H) | (simp only [hji33] at H ⊢; exact H)
            (try (have hji33l : 1 ≤ ji33 := by (rw [← hji33]; unfold mx; (repeat' split) <;> omega)))
            (try (have hji33m : 0 ≤ ji33 := by omega))
            have hji33_ : (if 1 < (wrap64 (Int.tdiv (rd y113 t116) 2)) then (wrap64 (Int.tdiv (rd y113 t116) 2)) else 1) = ji33 := hji33
            obtain ⟨ji34, hji34⟩ : ∃ j_ : Int, (mx 1 (wrap64 (Int.tdiv (rd y113 t116) 3))) = j_ := ⟨_, rfl⟩
            replace H : ((some (([rd y113 t116, ji33, ji34] : List Int) : List Int)).bind fun y119 => ((spec_l20Rd_pick.f k s0_0 t117 3).bind fun bt122 => (if 0 ≤ bt122.1 then (if bt122.1 < (y119.length : Int) then ((spec_l20Rd_pick.f k s0_0 bt122.2 (mn 8 (rd y119 bt122.1))).bind fun bt125 => (spec_l20Task.j0 k a1 s0_0 bt125.2 (wrap64 (1 + bt125.1)) (rd y113 t116) (rd y104 t107))) else (none)) else (none)))) = some (r1, r2, r3, r4) := by first | (rw [hji34] at H; exact H) | (simp only [hji34] at H ⊢; exact H)
            (try (have hji34l : 1 ≤ ji34 := by (rw [← hji34]; unfold mx; (repeat' split) <;> omega)))
            (try (have hji34m : 0 ≤ ji34 := by omega))
            have hji34_ : (if 1 < (wrap64 (Int.tdiv (rd y113 t116) 3)) then (wrap64 (Int.tdiv (rd y113 t116) 3)) else 1) = ji34 := hji34
            obtain ⟨y119, hy119⟩ : ∃ y_ : List Int, y_ = (([rd y113 t116, ji33, ji34] : List Int)) := ⟨_, rfl⟩
            replace H : ((spec_l20Rd_pick.f k s0_0 t117 3).bind fun bt122 => (if 0 ≤ bt122.1 then (if bt122.1 < (y119.length : Int) then ((spec_l20Rd_pick.f k s0_0 bt122.2 (mn 8 (rd y119 bt122.1))).bind fun bt125 => (spec_l20Task.j0 k a1 s0_0 bt125.2 (wrap64 (1 + bt125.1)) (rd y113 t116) (rd y104 t107))) else (none)) else (none))) = some (r1, r2, r3, r4) := by first | (rw [hy119]; with_reducible exact H) | (have H2_ := (Option.bind_some _ _).symm.trans H; rw [hy119]; with_reducible exact H2_) | (have H2_ := (Option.bind_some _ _).symm.trans H; with_reducible exact H2_) | with_reducible exact H | (rw [hy119]; exact H) | exact H
            have Ny119 := Aside0.mk hy119
            clear hy119
            replace H := Option.bind_eq_some_iff.mp H
            obtain ⟨⟨t122, t123⟩, A350, H⟩ := H
            replace H : (if 0 ≤ t122 then (if t122 < (y119.length : Int) then ((spec_l20Rd_pick.f k s0_0 t123 (mn 8 (rd y119 t122))).bind fun bt125 => (spec_l20Task.j0 k a1 s0_0 bt125.2 (wrap64 (1 + bt125.1)) (rd y113 t116) (rd y104 t107))) else (none)) else (none)) = some (r1, r2, r3, r4) := H
            have A35 := Aside0.mk A350
            clear A350
            by_cases c36 : 0 ≤ t122
            · rw [if_pos c36] at H
              have c36b0 : decide (0 ≤ t122) = true := decide_eq_true c36
              clear c36
              (first | rw [c36b0] | (simp only [i64_w, i32_w]; rw [c36b0]) | skip)
              by_cases c37 : t122 < (y119.length : Int)
              · rw [if_pos c37] at H
                have c37b0 : decide (t122 < (y119.length : Int)) = true := decide_eq_true c37
                clear c37
                obtain ⟨ji38, hji38⟩ : ∃ j_ : Int, (mn 8 (rd y119 t122)) = j_ := ⟨_, rfl⟩
                replace H : ((spec_l20Rd_pick.f k s0_0 t123 (ji38)).bind fun bt125 => (spec_l20Task.j0 k a1 s0_0 bt125.2 (wrap64 (1 + bt125.1)) (rd y113 t116) (rd y104 t107))) = some (r1, r2, r3, r4) := by first | (rw [hji38] at H; exact H) | (simp only [hji38] at H ⊢; exact H)
                (try rw [hji38] at A35)
                (try (have hji38h : ji38 ≤ 8 := by (rw [← hji38]; unfold mn; (repeat' split) <;> omega)))
                (try (have hji38g : ji38 ≤ 64 := by omega))
                have hji38_ : (if (rd y119 t122) < 8 then (rd y119 t122) else 8) = ji38 := hji38
                replace H := Option.bind_eq_some_iff.mp H
                obtain ⟨⟨t125, t126⟩, A390, H⟩ := H
                replace H : (spec_l20Task.j0 k a1 s0_0 t126 (wrap64 (1 + t125)) (rd y113 t116) (rd y104 t107)) = some (r1, r2, r3, r4) := H
                have A39 := Aside0.mk A390
                clear A390
                have H' := Aside0.mk H
                clear H
                try go_wp2
                have pi124 : (0 ≤ (t122 : Int)) = True := eq_true (of_decide_eq_true (by first | (with_reducible assumption) | assumption))
                have qi124 : (t122 < (y119.length : Int)) = True := eq_true (of_decide_eq_true (by first | (with_reducible assumption) | assumption))
                have n0_ : Aside0 (Kd.R (Kd.int .i64) 3 (w30.setCell ⟨gb110, 1, none⟩ (.int .i64 (rd y113 t116))) w.heap.size (fun k_ => some k_ ≠ (.slice (some adz_v114) y113.length co31 : Value).ownBlock) (.slice (some ad109) y104.length co18) y104) := ⟨by (with_reducible repeat (first | apply Kd.R_alloc | apply Kd.R_drewN | apply Kd.R_drew)); exact Kd.R_mono (Kd.R_far (p := ⟨gb110, 1, none⟩) (Kd.R_types HO106.out BK110.out (by decide)) (fun _ hk => hk.2) (.int .i64 (rd y113 t116))) (fun _ hk => hk.1)⟩
                have n1_ : Aside0 (Kd.R (Kd.int .i64) 3 (w30.setCell ⟨gb110, 1, none⟩ (.int .i64 (rd y113 t116))) w.heap.size (fun k_ => some k_ ≠ (.slice (some ad109) y104.length co18 : Value).ownBlock) (.slice (some adz_v114) y113.length co31) y113) := ⟨by (with_reducible repeat (first | apply Kd.R_alloc | apply Kd.R_drewN | apply Kd.R_drew)); exact Kd.R_mono (Kd.R_far (p := ⟨gb110, 1, none⟩) (Kd.R_types HO115.out BK110.out (by decide)) (fun _ hk => hk.2) (.int .i64 (rd y113 t116))) (fun _ hk => hk.1)⟩
                have n2_ : Aside0 ((w30.setCell ⟨gb110, 1, none⟩ (.int .i64 (rd y113 t116))).heap[gb101]? = some (.cells #[.int .i64 0, .int .i64 0, .int .i64 0] 33 (0, 0))) := ⟨by (with_reducible repeat (first | refine blk_drewN ?_ _ | refine blk_drew ?_ | refine blk_alloc ?_ _)); refine blk_far ?_ NB101_110.out _; (with_reducible repeat (first | refine blk_drewN ?_ _ | refine blk_drew ?_ | refine blk_alloc ?_ _)); exact BK101.out⟩
                have n3_ : Aside0 ((w30.setCell ⟨gb110, 1, none⟩ (.int .i64 (rd y113 t116))).heap[gb110]? = some (.cells #[.int .i64 0, .int .i64 (rd y113 t116), .int .i64 (rd y104 t107)] 33 (0, 0))) := ⟨by (with_reducible repeat (first | refine blk_drewN ?_ _ | refine blk_drew ?_ | refine blk_alloc ?_ _)); refine blk_put (cs := #[.int .i64 0, .int .i64 0, .int .i64 (rd y104 t107)]) ?_ 1 _ rfl; (with_reducible repeat (first | refine blk_drewN ?_ _ | refine blk_drew ?_ | refine blk_alloc ?_ _)); exact BK110.out⟩
                have n4_ : Aside0 (IsS64 w0 (w30.setCell ⟨gb110, 1, none⟩ (.int .i64 (rd y113 t116))) g s0_0 t117) := ⟨by repeat (first | (with_reducible first | exact HI0.out | apply IsS64.alloc | apply IsS64.drewN | apply IsS64.drew | apply IsS64.set_1 | refine IsS64.far ?_ NB0_101.out _ | refine IsS64.far ?_ NB0_110.out _) | exact HI0.out)⟩
                have n5_ : Aside0 (KeepBut w (w30.setCell ⟨gb110, 1, none⟩ (.int .i64 (rd y113 t116))) g none) := ⟨by repeat (first | (with_reducible first | exact HK.out | apply KeepBut.set_ | apply keep_drewN | apply keep_drew | apply keep_alloc | refine keep_far ?_ GW101.out _ | refine keep_far ?_ GW110.out _) | exact HK.out)⟩
                have n6_ : Aside0 (Below w0.heap.size w0 (w30.setCell ⟨gb110, 1, none⟩ (.int .i64 (rd y113 t116)))) := ⟨by repeat (first | (with_reducible first | exact HB.out | apply below_alloc | apply pw_below_drewN | apply below_drew1 | refine below_set ?_ (IsS64.ge HI0.out) | refine below_set ?_ GE101.out | refine below_set ?_ GE110.out) | exact HB.out)⟩
                (try clear HO106)
                (try clear HO115)
                (try clear BK101)
                (try clear BK110)
                (try clear HI0)
                (try clear HK)
                (try clear HB)
                generalize (w30.setCell ⟨gb110, 1, none⟩ (.int .i64 (rd y113 t116))) = w40 at n0_ n1_ n2_ n3_ n4_ n5_ n6_ ⊢
                have HO106 := n0_
                have HO115 := n1_
                have BK101 := n2_
                have BK110 := n3_
                have HI0 := n4_
                have HK := n5_
                have HB := n6_
                clear n0_ n1_ n2_ n3_ n4_ n5_ n6_
                have n0_ := Aside0.mk (Kd.R_drew HO106.out)
                have n1_ := Aside0.mk (Kd.R_drew HO115.out)
                have n2_ := Aside0.mk (blk_drew BK101.out)
                have n3_ := Aside0.mk (blk_drew BK110.out)
                have n4_ := Aside0.mk (IsS64.drew HI0.out)
                have n5_ := Aside0.mk (keep_drew HK.out)
                have n6_ := Aside0.mk (below_drew1 HB.out)
                clear HO106
                clear HO115
                clear BK101
                clear BK110
                clear HI0
                clear HK
                clear HB
                have HO106 := n0_
                have HO115 := n1_
                have BK101 := n2_
                have BK110 := n3_
                have HI0 := n4_
                have HK := n5_
                have HB := n6_
                clear n0_ n1_ n2_ n3_ n4_ n5_ n6_
                refine start_ (n := 21) (S := fun w' => w'.cell? ⟨gb110, 0, none⟩ = some (.int .i64 0) ∧ w'.cell? ⟨gb110, 1, none⟩ = some (.int .i64 (rd y113 t116)) ∧ w'.cell? ⟨gb110, 2, none⟩ = some (.int .i64 (rd y104 t107))) (ds := [20]) #[false, false, false, false, false, false, false, false, false, false, false, false, false, false, false, false, false, false, false, false, false] (by kernel_rfl) rfl rfl ⟨(blk_cell BK110.out 0).trans rfl, (blk_cell BK110.out 1).trans rfl, (blk_cell BK110.out 2).trans rfl⟩ (fun hHeld => ?_); refine with_tabW spec_l20Task.tab3 spec_l20Task.bits3 (fun HT_ HW_ => ?_)
                generalize w40.drew = w41 at HO106 HO115 BK101 BK110 HI0 HK HB hHeld ⊢
                refine pure_ (i := 0) (N := some 32) (v := ?_) (a' := ?_) #[true, false, false, false, false, false, false, false, false, false, false, false, false, false, false, false, false, false, false, false, false] rfl rfl (any_of HT_.out (by kernel_rfl)) (fun _ _ _ h => h) (Or.inl ⟨by rfl, ?_⟩) ?_ ?_
                rotate_left
                · intro w'
                  go_simp
                  with_reducible rfl
                rotate_left
                · simp only [Act.put, List.setIfInBounds_toArray, List.set_cons_zero, List.set_cons_succ, i64_w, i32_w]
                  rfl
                refine pure_ (i := 1) (N := some 33) (v := ?_) (a' := ?_) #[true, true, false, false, false, false, false, false, false, false, false, false, false, false, false, false, false, false, false, false, false] rfl rfl (any_of HT_.out (by kernel_rfl)) (fun _ _ _ h => h) (Or.inl ⟨by rfl, ?_⟩) ?_ ?_
                rotate_left
                · intro w'
                  go_simp
                  with_reducible rfl
                rotate_left
                · simp only [Act.put, List.setIfInBounds_toArray, List.set_cons_zero, List.set_cons_succ, i64_w, i32_w]
                  rfl
                refine pure_ (i := 3) (N := some 35) (v := ?_) (a' := ?_) #[true, true, false, true, false, false, false, false, false, false, false, false, false, false, false, false, false, false, false, false, false] rfl rfl (any_of HT_.out (by kernel_rfl)) (fun _ _ _ h => h) (Or.inl ⟨by rfl, ?_⟩) ?_ ?_
                rotate_left
                · intro w'
                  go_simp
                  with_reducible rfl
                rotate_left
                · simp only [Act.put, List.setIfInBounds_toArray, List.set_cons_zero, List.set_cons_succ, i64_w, i32_w]
                  rfl
                refine pure_ (i := 7) (N := some 39) (v := ?_) (a' := ?_) #[true, true, false, true, false, false, false, true, false, false, false, false, false, false, false, false, false, false, false, false, false] rfl rfl (any_of HT_.out (by kernel_rfl)) (fun _ _ _ h => h) (Or.inl ⟨by rfl, ?_⟩) ?_ ?_
                rotate_left
                · intro w'
                  go_simp
                  with_reducible rfl
                rotate_left
                · simp only [Act.put, List.setIfInBounds_toArray, List.set_cons_zero, List.set_cons_succ, i64_w, i32_w]
                  rfl
                refine pure_ (i := 12) (N := some 44) (v := ?_) (a' := ?_) #[true, true, false, true, false, false, false, true, false, false, false, false, true, false, false, false, false, false, false, false, false] rfl rfl (any_of HT_.out (by kernel_rfl)) (fun _ _ _ h => h) (Or.inl ⟨by rfl, ?_⟩) ?_ ?_
                rotate_left
                · intro w'
                  go_simp
                  with_reducible rfl
                rotate_left
                · simp only [Act.put, List.setIfInBounds_toArray, List.set_cons_zero, List.set_cons_succ, i64_w, i32_w]
                  rfl
                refine take_ (i := 2) (N := some 34) (v := ?_) (a' := ?_) #[true, true, true, true, false, false, false, true, false, false, false, false, true, false, false, false, false, false, false, false, false] rfl rfl (take_ofW HT_.out HW_.out (by kernel_rfl)) (fun _ _ _ h => h) (Or.inl ⟨by rfl, ?_⟩) hHeld ?_ ?_
                rotate_left
                · rintro w' ⟨s0, s1, s2⟩
                  go_simp
                  with_reducible rfl
                rotate_left
                · simp only [Act.put, List.setIfInBounds_toArray, List.set_cons_zero, List.set_cons_succ, i64_w, i32_w]
                  rfl
                refine take_ (i := 4) (N := some 36) (v := ?_) (a' := ?_) #[true, true, true, true, true, false, false, true, false, false, false, false, true, false, false, false, false, false, false, false, false] rfl rfl (take_ofW HT_.out HW_.out (by kernel_rfl)) (fun _ _ _ h => h) (Or.inl ⟨by rfl, ?_⟩) hHeld ?_ ?_
                rotate_left
                · rintro w' ⟨s0, s1, s2⟩
                  go_simp
                  with_reducible rfl
                rotate_left
                · simp only [Act.put, List.setIfInBounds_toArray, List.set_cons_zero, List.set_cons_succ, i64_w, i32_w]
                  rfl
                refine pure_ (i := 5) (N := some 37) (v := ?_) (a' := ?_) #[true, true, true, true, true, true, false, true, false, false, false, false, true, false, false, false, false, false, false, false, false] rfl rfl (any_of HT_.out (by kernel_rfl)) (fun _ _ _ h => h) (Or.inl ⟨by rfl, ?_⟩) ?_ ?_
                rotate_left
                · intro w'
                  go_simp
                  with_reducible rfl
                rotate_left
                · simp only [Act.put, List.setIfInBounds_toArray, List.set_cons_zero, List.set_cons_succ, i64_w, i32_w]
                  rfl
                refine pure_ (i := 6) (N := some 38) (v := ?_) (a' := ?_) #[true, true, true, true, true, true, true, true, false, false, false, false, true, false, false, false, false, false, false, false, false] rfl rfl (any_of HT_.out (by kernel_rfl)) (fun _ _ _ h => h) (Or.inl ⟨by rfl, ?_⟩) ?_ ?_
                rotate_left
                · intro w'
                  go_simp
                  with_reducible rfl
                rotate_left
                · simp only [Act.put, List.setIfInBounds_toArray, List.set_cons_zero, List.set_cons_succ, i64_w, i32_w]
                  rfl
                refine take_ (i := 8) (N := some 40) (v := ?_) (a' := ?_) #[true, true, true, true, true, true, true, true, true, false, false, false, true, false, false, false, false, false, false, false, false] rfl rfl (take_ofW HT_.out HW_.out (by kernel_rfl)) (fun _ _ _ h => h) (Or.inl ⟨by rfl, ?_⟩) hHeld ?_ ?_
                rotate_left
                · rintro w' ⟨s0, s1, s2⟩
                  go_simp
                  with_reducible rfl
                rotate_left
                · simp only [Act.put, List.setIfInBounds_toArray, List.set_cons_zero, List.set_cons_succ, i64_w, i32_w]
                  rfl
                refine pure_ (i := 9) (N := some 41) (v := ?_) (a' := ?_) #[true, true, true, true, true, true, true, true, true, true, false, false, true, false, false, false, false, false, false, false, false] rfl rfl (any_of HT_.out (by kernel_rfl)) (fun _ _ _ h => h) (Or.inl ⟨by rfl, ?_⟩) ?_ ?_
                rotate_left
                · intro w'
                  go_simp
                  with_reducible rfl
                rotate_left
                · simp only [Act.put, List.setIfInBounds_toArray, List.set_cons_zero, List.set_cons_succ, i64_w, i32_w]
                  rfl
                refine pure_ (i := 10) (N := some 42) (v := ?_) (a' := ?_) #[true, true, true, true, true, true, true, true, true, true, true, false, true, false, false, false, false, false, false, false, false] rfl rfl (any_of HT_.out (by kernel_rfl)) (fun _ _ _ h => h) (Or.inl ⟨by rfl, ?_⟩) ?_ ?_
                rotate_left
                · intro w'
                  go_simp
                  with_reducible rfl
                rotate_left
                · simp only [Act.put, List.setIfInBounds_toArray, List.set_cons_zero, List.set_cons_succ, i64_w, i32_w]
                  rfl
                refine join_ (σ := Value × Addr) 7 #[true, true, true, true, true, true, true, true, true, true, true, true, true, true, false, false, false, false, false, false, false] (fun s_ => [(43, s_.1), (45, .int .i64 t122)]) (fun s_ w' => (w'.cell? ⟨gb110, 0, none⟩ = some (.int .i64 0) ∧ w'.cell? ⟨gb110, 1, none⟩ = some (.int .i64 (rd y113 t116)) ∧ w'.cell? ⟨gb110, 2, none⟩ = some (.int .i64 (rd y104 t107))) ∧ (Kd.R (Kd.int .i64) 3 w' w.heap.size (fun k_ => some k_ ≠ (.slice (some adz_v114) y113.length co31 : Value).ownBlock ∧ some k_ ≠ (s_.1 : Value).ownBlock) (.slice (some ad109) y104.length co18) y104) ∧ (Kd.R (Kd.int .i64) 3 w' w.heap.size (fun k_ => some k_ ≠ (.slice (some ad109) y104.length co18 : Value).ownBlock ∧ some k_ ≠ (s_.1 : Value).ownBlock) (.slice (some adz_v114) y113.length co31) y113) ∧ (Kd.R (Kd.int .i64) 3 w' w.heap.size (fun k_ => some k_ ≠ (.slice (some ad109) y104.length co18 : Value).ownBlock ∧ some k_ ≠ (.slice (some adz_v114) y113.length co31 : Value).ownBlock) s_.1 y119) ∧ (∃ c_, (s_.1 : Value) = .slice (some s_.2) y119.length c_) ∧ (w'.heap[gb101]? = some (.cells #[.int .i64 0, .int .i64 0, .int .i64 0] 33 (0, 0))) ∧ (w'.heap[gb110]? = some (.cells #[.int .i64 0, .int .i64 (rd y113 t116), .int .i64 (rd y104 t107)] 33 (0, 0))) ∧ (IsS64 w0 w' g s0_0 t123) ∧ (KeepBut w w' g none) ∧ (Below w0.heap.size w0 w')) ?_ ?_
                rotate_left
                · intro hCont
                  refine two_ (i := 11) (j := 13) (Ni := some 43) (Nj := some 45) #[true, true, true, true, true, true, true, true, true, true, true, true, true, false, false, false, false, false, false, false, false] #[true, true, true, true, true, true, true, true, true, true, true, false, true, true, false, false, false, false, false, false, false] rfl rfl rfl rfl (two_of HT_.out (by kernel_rfl)) (by decide) (by decide) (fun K hK => ?_) (fun K hK => ?_)
                  · skip
                    refine Kd.R_lit_step (Kd.int .i64) _ 3 ?hg (N := 43) ?hd (xs := ([rd y113 t116, ji33, ji34] : List Int)) (inner := [.int .i64 (rd y113 t116), .int .i64 ji33, .int .i64 ji34]) (ok := fun _ => True) (okp := fun _ => True) ?hr ?hp (fun _ hk => hk) trivial (Below.refl _ _) (Nat.le_refl _) (by simp) ?_; (case hd => rfl); (case hg => rfl); (case hr => first | (go_simp; done) | (go_simp; rfl)); (case hp => exact (Reps.one (show Kd.M (Kd.int .i64) _ _ _ (rd y113 t116) [.int .i64 (rd y113 t116)] from rfl) (Reps.one (show Kd.M (Kd.int .i64) _ _ _ ji33 [.int .i64 ji33] from rfl) (Reps.one (show Kd.M (Kd.int .i64) _ _ _ ji34 [.int .i64 ji34] from rfl) (Reps.none _ _)))))
                    intro v120 w42 ho43 hb hg_ hnew_
                    clear hg_ hnew_
                    (first | rw [← Ny119.out] at ho43 | (simp only [Int.reduceToNat] at ho43; rw [← Ny119.out] at ho43))
                    have n0_ := Aside0.mk (Kd.R_elder' (by (with_reducible repeat (first | apply Kd.R_alloc | apply Kd.R_drewN | apply Kd.R_drew)); exact HO106.out) (Kd.R_base ho43) hb)
                    have n1_ := Aside0.mk (Kd.R_elder' (by (with_reducible repeat (first | apply Kd.R_alloc | apply Kd.R_drewN | apply Kd.R_drew)); exact HO115.out) (Kd.R_base ho43) hb)
                    have n2_ := Aside0.mk (Kd.R_lower (Kd.R_new' (Kd.R_new' ho43 (Kd.R_lt (by (with_reducible repeat (first | apply Kd.R_alloc | apply Kd.R_drewN | apply Kd.R_drew)); exact HO106.out))) (Kd.R_lt (by (with_reducible repeat (first | apply Kd.R_alloc | apply Kd.R_drewN | apply Kd.R_drew)); exact HO115.out))) (keep_size (w := w) (g := g) (row := none) (by repeat (first | (with_reducible first | exact HK.out | apply KeepBut.set_ | apply keep_drewN | apply keep_drew | apply keep_alloc | refine keep_far ?_ GW101.out _ | refine keep_far ?_ GW110.out _) | exact HK.out))))
                    have n3_ := Aside0.mk (IsS64.below (by repeat (first | (with_reducible first | exact HI0.out | apply IsS64.alloc | apply IsS64.drewN | apply IsS64.drew | apply IsS64.set_1 | refine IsS64.far ?_ NB0_101.out _ | refine IsS64.far ?_ NB0_110.out _) | exact HI0.out)) hb)
                    have n4_ := Aside0.mk (blk_below (g := gb101) (o := .cells #[.int .i64 0, .int .i64 0, .int .i64 0] 33 (0, 0)) (by (with_reducible repeat (first | refine blk_drewN ?_ _ | refine blk_drew ?_ | refine blk_alloc ?_ _)); exact BK101.out) hb)
                    have n5_ := Aside0.mk (blk_below (g := gb110) (o := .cells #[.int .i64 0, .int .i64 (rd y113 t116), .int .i64 (rd y104 t107)] 33 (0, 0)) (by (with_reducible repeat (first | refine blk_drewN ?_ _ | refine blk_drew ?_ | refine blk_alloc ?_ _)); exact BK110.out) hb)
                    have n6_ := Aside0.mk (KeepBut.trans (by repeat (first | (with_reducible first | exact HK.out | apply KeepBut.set_ | apply keep_drewN | apply keep_drew | apply keep_alloc | refine keep_far ?_ GW101.out _ | refine keep_far ?_ GW110.out _) | exact HK.out)) (KeepBut.of_below hb g none) (.inl rfl))
                    have n7_ := Aside0.mk (below_step (by repeat (first | (with_reducible first | exact HB.out | apply below_alloc | apply pw_below_drewN | apply below_drew1 | refine below_set ?_ (IsS64.ge HI0.out) | refine below_set ?_ GE101.out | refine below_set ?_ GE110.out) | exact HB.out)) hb)
                    clear HO106
                    clear HO115
                    clear HI0
                    clear BK101
                    clear BK110
                    clear HK
                    clear HB
                    have HO106 := n0_
                    have HO115 := n1_
                    have HO121 := n2_
                    have HI0 := n3_
                    have BK101 := n4_
                    have BK110 := n5_
                    have HK := n6_
                    have HB := n7_
                    clear n0_ n1_ n2_ n3_ n4_ n5_ n6_ n7_
                    clear hb ho43
                    obtain ⟨Ao44, co44, eo44⟩ := Kd.R_slice HO121.out
                    subst eo44
                    obtain ⟨ado44, fo44, _⟩ := Kd.at_int (Kd.R_reads' HO121.out).2.2 0 (by decide) (by rw [Ny119.out]; simp)
                    cases fo44
                    refine hK.out _ _ ⟨(blk_cell BK110.out 0).trans rfl, (blk_cell BK110.out 1).trans rfl, (blk_cell BK110.out 2).trans rfl⟩ (fun hHeld => ?_)
                    clear hK K
                    refine norm_ (a' := ?_) ?_ ?_
                    rotate_left
                    · show Act.put _ (some 43) _ = _
                      simp only [Act.put, List.setIfInBounds_toArray, List.set_cons_zero, List.set_cons_succ, i64_w, i32_w]
                      rfl
                    refine one_ (i := 13) (N := some 45) #[true, true, true, true, true, true, true, true, true, true, true, true, true, true, false, false, false, false, false, false, false] rfl rfl (one_of HT_.out (by kernel_rfl)) (by decide) (fun K hK => ?_)
                    refine goes_ Try.func38 (by kernel_rfl) rfl #[.pointer (some ⟨g, 0, none⟩), .int .i64 3] (by rfl) rfl rfl (by (try simp only [List.map_toArray, List.map_cons, List.map_nil]); first | done | rfl | (simp only [List.length_drop, List.length_take]; rfl)) ?_
                    with_reducible refine (spec_l20Rd_pick.calls k g s0_0 t117 3 t122 t123 w0 _ ?side1 ?side2 A35.out).mono ?_
                    (case side1 => repeat (first | (with_reducible first | exact HI0.out | apply IsS64.alloc | apply IsS64.drewN | apply IsS64.drew | apply IsS64.set_1 | refine IsS64.far ?_ NB0_101.out _ | refine IsS64.far ?_ NB0_110.out _) | exact HI0.out))
                    (case side2 => repeat (first | (with_reducible first | exact HB.out | apply below_alloc | apply pw_below_drewN | apply below_drew1 | refine below_set ?_ (IsS64.ge HI0.out) | refine below_set ?_ GE101.out | refine below_set ?_ GE110.out) | exact HB.out))
                    rintro e w45 ⟨rfl, hi, hb, hk⟩
                    refine ⟨_, rfl, ?_⟩
                    have n0_ := Aside0.mk (KeepBut.blk hk (g' := gb101) (o := .cells #[.int .i64 0, .int .i64 0, .int .i64 0] 33 (0, 0)) (by (with_reducible repeat (first | refine blk_drewN ?_ _ | refine blk_drew ?_ | refine blk_alloc ?_ _)); exact BK101.out) NB101_0.out (by simp))
                    have n1_ := Aside0.mk (Kd.R_mono (Kd.R_keep (IsS64.apart (show IsS64 w0 _ g s0_0 t117 from by repeat (first | (with_reducible first | exact HI0.out | apply IsS64.alloc | apply IsS64.drewN | apply IsS64.drew | apply IsS64.set_1 | refine IsS64.far ?_ NB0_101.out _ | refine IsS64.far ?_ NB0_110.out _) | exact HI0.out)) (by (with_reducible repeat (first | apply Kd.R_alloc | apply Kd.R_drewN | apply Kd.R_drew)); exact HO106.out) (by decide)) hk (fun _ h => h.2)) (fun _ h => h.1))
                    have n2_ := Aside0.mk (KeepBut.blk hk (g' := gb110) (o := .cells #[.int .i64 0, .int .i64 (rd y113 t116), .int .i64 (rd y104 t107)] 33 (0, 0)) (by (with_reducible repeat (first | refine blk_drewN ?_ _ | refine blk_drew ?_ | refine blk_alloc ?_ _)); exact BK110.out) NB110_0.out (by simp))
                    have n3_ := Aside0.mk (Kd.R_mono (Kd.R_keep (IsS64.apart (show IsS64 w0 _ g s0_0 t117 from by repeat (first | (with_reducible first | exact HI0.out | apply IsS64.alloc | apply IsS64.drewN | apply IsS64.drew | apply IsS64.set_1 | refine IsS64.far ?_ NB0_101.out _ | refine IsS64.far ?_ NB0_110.out _) | exact HI0.out)) (by (with_reducible repeat (first | apply Kd.R_alloc | apply Kd.R_drewN | apply Kd.R_drew)); exact HO115.out) (by decide)) hk (fun _ h => h.2)) (fun _ h => h.1))
                    have n4_ := Aside0.mk (Kd.R_mono (Kd.R_keep (IsS64.apart (show IsS64 w0 _ g s0_0 t117 from by repeat (first | (with_reducible first | exact HI0.out | apply IsS64.alloc | apply IsS64.drewN | apply IsS64.drew | apply IsS64.set_1 | refine IsS64.far ?_ NB0_101.out _ | refine IsS64.far ?_ NB0_110.out _) | exact HI0.out)) (by (with_reducible repeat (first | apply Kd.R_alloc | apply Kd.R_drewN | apply Kd.R_drew)); exact HO121.out) (by decide)) hk (fun _ h => h.2)) (fun _ h => h.1))
                    have n5_ := Aside0.mk (KeepBut.trans (by repeat (first | (with_reducible first | exact HK.out | apply KeepBut.set_ | apply keep_drewN | apply keep_drew | apply keep_alloc | refine keep_far ?_ GW101.out _ | refine keep_far ?_ GW110.out _) | exact HK.out)) hk (.inl rfl))
                    have n6_ := Aside0.mk (hb)
                    have n7_ := Aside0.mk (hi)
                    clear BK101
                    clear HO106
                    clear BK110
                    clear HO115
                    clear HO121
                    clear HK
                    clear HB
                    clear HI0
                    have BK101 := n0_
                    have HO106 := n1_
                    have BK110 := n2_
                    have HO115 := n3_
                    have HO121 := n4_
                    have HK := n5_
                    have HB := n6_
                    have HI0 := n7_
                    clear n0_ n1_ n2_ n3_ n4_ n5_ n6_ n7_
                    (try clear hb)
                    (try clear hb2)
                    (try clear hk)
                    (try clear hi)
                    refine hK.out _ _ ⟨(blk_cell BK110.out 0).trans rfl, (blk_cell BK110.out 1).trans rfl, (blk_cell BK110.out 2).trans rfl⟩ (fun hHeld => ?_)
                    clear hK K
                    refine norm_ (a' := ?_) ?_ ?_
                    rotate_left
                    · show Act.put _ (some 45) _ = _
                      simp only [Act.put, List.setIfInBounds_toArray, List.set_cons_zero, List.set_cons_succ, i64_w, i32_w]
                      rfl
                    exact norm_ (by simp only [putAll, Act.put, List.setIfInBounds_toArray, List.set_cons_zero, List.set_cons_succ]) (hCont (.slice (some ado44) y119.length co44, ado44) _ ⟨hHeld, (by (with_reducible repeat (first | apply Kd.R_alloc | apply Kd.R_drewN | apply Kd.R_drew)); exact HO106.out), (by (with_reducible repeat (first | apply Kd.R_alloc | apply Kd.R_drewN | apply Kd.R_drew)); exact HO115.out), (by (with_reducible repeat (first | apply Kd.R_alloc | apply Kd.R_drewN | apply Kd.R_drew)); exact Kd.R_mono HO121.out (fun _ hk => ⟨hk.1.2, hk.2⟩)), ⟨_, rfl⟩, (by (with_reducible repeat (first | refine blk_drewN ?_ _ | refine blk_drew ?_ | refine blk_alloc ?_ _)); exact BK101.out), (by (with_reducible repeat (first | refine blk_drewN ?_ _ | refine blk_drew ?_ | refine blk_alloc ?_ _)); exact BK110.out), (by repeat (first | (with_reducible first | exact HI0.out | apply IsS64.alloc | apply IsS64.drewN | apply IsS64.drew | apply IsS64.set_1 | refine IsS64.far ?_ NB0_101.out _ | refine IsS64.far ?_ NB0_110.out _) | exact HI0.out)), (by repeat (first | (with_reducible first | exact HK.out | apply KeepBut.set_ | apply keep_drewN | apply keep_drew | apply keep_alloc | refine keep_far ?_ GW101.out _ | refine keep_far ?_ GW110.out _) | exact HK.out)), (by repeat (first | (with_reducible first | exact HB.out | apply below_alloc | apply pw_below_drewN | apply below_drew1 | refine below_set ?_ (IsS64.ge HI0.out) | refine below_set ?_ GE101.out | refine below_set ?_ GE110.out) | exact HB.out))⟩)
                  · skip
                    refine goes_ Try.func38 (by kernel_rfl) rfl #[.pointer (some ⟨g, 0, none⟩), .int .i64 3] (by rfl) rfl rfl (by (try simp only [List.map_toArray, List.map_cons, List.map_nil]); first | done | rfl | (simp only [List.length_drop, List.length_take]; rfl)) ?_
                    with_reducible refine (spec_l20Rd_pick.calls k g s0_0 t117 3 t122 t123 w0 _ ?side1 ?side2 A35.out).mono ?_
                    (case side1 => repeat (first | (with_reducible first | exact HI0.out | apply IsS64.alloc | apply IsS64.drewN | apply IsS64.drew | apply IsS64.set_1 | refine IsS64.far ?_ NB0_101.out _ | refine IsS64.far ?_ NB0_110.out _) | exact HI0.out))
                    (case side2 => repeat (first | (with_reducible first | exact HB.out | apply below_alloc | apply pw_below_drewN | apply below_drew1 | refine below_set ?_ (IsS64.ge HI0.out) | refine below_set ?_ GE101.out | refine below_set ?_ GE110.out) | exact HB.out))
                    rintro e w42 ⟨rfl, hi, hb, hk⟩
                    refine ⟨_, rfl, ?_⟩
                    have n0_ := Aside0.mk (KeepBut.blk hk (g' := gb101) (o := .cells #[.int .i64 0, .int .i64 0, .int .i64 0] 33 (0, 0)) (by (with_reducible repeat (first | refine blk_drewN ?_ _ | refine blk_drew ?_ | refine blk_alloc ?_ _)); exact BK101.out) NB101_0.out (by simp))
                    have n1_ := Aside0.mk (Kd.R_mono (Kd.R_keep (IsS64.apart (show IsS64 w0 _ g s0_0 t117 from by repeat (first | (with_reducible first | exact HI0.out | apply IsS64.alloc | apply IsS64.drewN | apply IsS64.drew | apply IsS64.set_1 | refine IsS64.far ?_ NB0_101.out _ | refine IsS64.far ?_ NB0_110.out _) | exact HI0.out)) (by (with_reducible repeat (first | apply Kd.R_alloc | apply Kd.R_drewN | apply Kd.R_drew)); exact HO106.out) (by decide)) hk (fun _ h => h.2)) (fun _ h => h.1))
                    have n2_ := Aside0.mk (KeepBut.blk hk (g' := gb110) (o := .cells #[.int .i64 0, .int .i64 (rd y113 t116), .int .i64 (rd y104 t107)] 33 (0, 0)) (by (with_reducible repeat (first | refine blk_drewN ?_ _ | refine blk_drew ?_ | refine blk_alloc ?_ _)); exact BK110.out) NB110_0.out (by simp))
                    have n3_ := Aside0.mk (Kd.R_mono (Kd.R_keep (IsS64.apart (show IsS64 w0 _ g s0_0 t117 from by repeat (first | (with_reducible first | exact HI0.out | apply IsS64.alloc | apply IsS64.drewN | apply IsS64.drew | apply IsS64.set_1 | refine IsS64.far ?_ NB0_101.out _ | refine IsS64.far ?_ NB0_110.out _) | exact HI0.out)) (by (with_reducible repeat (first | apply Kd.R_alloc | apply Kd.R_drewN | apply Kd.R_drew)); exact HO115.out) (by decide)) hk (fun _ h => h.2)) (fun _ h => h.1))
                    have n4_ := Aside0.mk (KeepBut.trans (by repeat (first | (with_reducible first | exact HK.out | apply KeepBut.set_ | apply keep_drewN | apply keep_drew | apply keep_alloc | refine keep_far ?_ GW101.out _ | refine keep_far ?_ GW110.out _) | exact HK.out)) hk (.inl rfl))
                    have n5_ := Aside0.mk (hb)
                    have n6_ := Aside0.mk (hi)
                    clear BK101
                    clear HO106
                    clear BK110
                    clear HO115
                    clear HK
                    clear HB
                    clear HI0
                    have BK101 := n0_
                    have HO106 := n1_
                    have BK110 := n2_
                    have HO115 := n3_
                    have HK := n4_
                    have HB := n5_
                    have HI0 := n6_
                    clear n0_ n1_ n2_ n3_ n4_ n5_ n6_
                    (try clear hb)
                    (try clear hb2)
                    (try clear hk)
                    (try clear hi)
                    refine hK.out _ _ ⟨(blk_cell BK110.out 0).trans rfl, (blk_cell BK110.out 1).trans rfl, (blk_cell BK110.out 2).trans rfl⟩ (fun hHeld => ?_)
                    clear hK K
                    refine norm_ (a' := ?_) ?_ ?_
                    rotate_left
                    · show Act.put _ (some 45) _ = _
                      simp only [Act.put, List.setIfInBounds_toArray, List.set_cons_zero, List.set_cons_succ, i64_w, i32_w]
                      rfl
                    refine one_ (i := 11) (N := some 43) #[true, true, true, true, true, true, true, true, true, true, true, true, true, true, false, false, false, false, false, false, false] rfl rfl (one_of HT_.out (by kernel_rfl)) (by decide) (fun K hK => ?_)
                    refine Kd.R_lit_step (Kd.int .i64) _ 3 ?hg (N := 43) ?hd (xs := ([rd y113 t116, ji33, ji34] : List Int)) (inner := [.int .i64 (rd y113 t116), .int .i64 ji33, .int .i64 ji34]) (ok := fun _ => True) (okp := fun _ => True) ?hr ?hp (fun _ hk => hk) trivial (Below.refl _ _) (Nat.le_refl _) (by simp) ?_; (case hd => rfl); (case hg => rfl); (case hr => first | (go_simp; done) | (go_simp; rfl)); (case hp => exact (Reps.one (show Kd.M (Kd.int .i64) _ _ _ (rd y113 t116) [.int .i64 (rd y113 t116)] from rfl) (Reps.one (show Kd.M (Kd.int .i64) _ _ _ ji33 [.int .i64 ji33] from rfl) (Reps.one (show Kd.M (Kd.int .i64) _ _ _ ji34 [.int .i64 ji34] from rfl) (Reps.none _ _)))))
                    intro v120 w43 ho44 hb hg_ hnew_
                    clear hg_ hnew_
                    (first | rw [← Ny119.out] at ho44 | (simp only [Int.reduceToNat] at ho44; rw [← Ny119.out] at ho44))
                    have n0_ := Aside0.mk (Kd.R_elder' (by (with_reducible repeat (first | apply Kd.R_alloc | apply Kd.R_drewN | apply Kd.R_drew)); exact HO106.out) (Kd.R_base ho44) hb)
                    have n1_ := Aside0.mk (Kd.R_elder' (by (with_reducible repeat (first | apply Kd.R_alloc | apply Kd.R_drewN | apply Kd.R_drew)); exact HO115.out) (Kd.R_base ho44) hb)
                    have n2_ := Aside0.mk (Kd.R_lower (Kd.R_new' (Kd.R_new' ho44 (Kd.R_lt (by (with_reducible repeat (first | apply Kd.R_alloc | apply Kd.R_drewN | apply Kd.R_drew)); exact HO106.out))) (Kd.R_lt (by (with_reducible repeat (first | apply Kd.R_alloc | apply Kd.R_drewN | apply Kd.R_drew)); exact HO115.out))) (keep_size (w := w) (g := g) (row := none) (by repeat (first | (with_reducible first | exact HK.out | apply KeepBut.set_ | apply keep_drewN | apply keep_drew | apply keep_alloc | refine keep_far ?_ GW101.out _ | refine keep_far ?_ GW110.out _) | exact HK.out))))
                    have n3_ := Aside0.mk (IsS64.below (by repeat (first | (with_reducible first | exact HI0.out | apply IsS64.alloc | apply IsS64.drewN | apply IsS64.drew | apply IsS64.set_1 | refine IsS64.far ?_ NB0_101.out _ | refine IsS64.far ?_ NB0_110.out _) | exact HI0.out)) hb)
                    have n4_ := Aside0.mk (blk_below (g := gb101) (o := .cells #[.int .i64 0, .int .i64 0, .int .i64 0] 33 (0, 0)) (by (with_reducible repeat (first | refine blk_drewN ?_ _ | refine blk_drew ?_ | refine blk_alloc ?_ _)); exact BK101.out) hb)
                    have n5_ := Aside0.mk (blk_below (g := gb110) (o := .cells #[.int .i64 0, .int .i64 (rd y113 t116), .int .i64 (rd y104 t107)] 33 (0, 0)) (by (with_reducible repeat (first | refine blk_drewN ?_ _ | refine blk_drew ?_ | refine blk_alloc ?_ _)); exact BK110.out) hb)
                    have n6_ := Aside0.mk (KeepBut.trans (by repeat (first | (with_reducible first | exact HK.out | apply KeepBut.set_ | apply keep_drewN | apply keep_drew | apply keep_alloc | refine keep_far ?_ GW101.out _ | refine keep_far ?_ GW110.out _) | exact HK.out)) (KeepBut.of_below hb g none) (.inl rfl))
                    have n7_ := Aside0.mk (below_step (by repeat (first | (with_reducible first | exact HB.out | apply below_alloc | apply pw_below_drewN | apply below_drew1 | refine below_set ?_ (IsS64.ge HI0.out) | refine below_set ?_ GE101.out | refine below_set ?_ GE110.out) | exact HB.out)) hb)
                    clear HO106
                    clear HO115
                    clear HI0
                    clear BK101
                    clear BK110
                    clear HK
                    clear HB
                    have HO106 := n0_
                    have HO115 := n1_
                    have HO121 := n2_
                    have HI0 := n3_
                    have BK101 := n4_
                    have BK110 := n5_
                    have HK := n6_
                    have HB := n7_
                    clear n0_ n1_ n2_ n3_ n4_ n5_ n6_ n7_
                    clear hb ho44
                    obtain ⟨Ao45, co45, eo45⟩ := Kd.R_slice HO121.out
                    subst eo45
                    obtain ⟨ado45, fo45, _⟩ := Kd.at_int (Kd.R_reads' HO121.out).2.2 0 (by decide) (by rw [Ny119.out]; simp)
                    cases fo45
                    refine hK.out _ _ ⟨(blk_cell BK110.out 0).trans rfl, (blk_cell BK110.out 1).trans rfl, (blk_cell BK110.out 2).trans rfl⟩ (fun hHeld => ?_)
                    clear hK K
                    refine norm_ (a' := ?_) ?_ ?_
                    rotate_left
                    · show Act.put _ (some 43) _ = _
                      simp only [Act.put, List.setIfInBounds_toArray, List.set_cons_zero, List.set_cons_succ, i64_w, i32_w]
                      rfl
                    exact norm_ (by simp only [putAll, Act.put, List.setIfInBounds_toArray, List.set_cons_zero, List.set_cons_succ]) (hCont (.slice (some ado45) y119.length co45, ado45) _ ⟨hHeld, (by (with_reducible repeat (first | apply Kd.R_alloc | apply Kd.R_drewN | apply Kd.R_drew)); exact HO106.out), (by (with_reducible repeat (first | apply Kd.R_alloc | apply Kd.R_drewN | apply Kd.R_drew)); exact HO115.out), (by (with_reducible repeat (first | apply Kd.R_alloc | apply Kd.R_drewN | apply Kd.R_drew)); exact Kd.R_mono HO121.out (fun _ hk => ⟨hk.1.2, hk.2⟩)), ⟨_, rfl⟩, (by (with_reducible repeat (first | refine blk_drewN ?_ _ | refine blk_drew ?_ | refine blk_alloc ?_ _)); exact BK101.out), (by (with_reducible repeat (first | refine blk_drewN ?_ _ | refine blk_drew ?_ | refine blk_alloc ?_ _)); exact BK110.out), (by repeat (first | (with_reducible first | exact HI0.out | apply IsS64.alloc | apply IsS64.drewN | apply IsS64.drew | apply IsS64.set_1 | refine IsS64.far ?_ NB0_101.out _ | refine IsS64.far ?_ NB0_110.out _) | exact HI0.out)), (by repeat (first | (with_reducible first | exact HK.out | apply KeepBut.set_ | apply keep_drewN | apply keep_drew | apply keep_alloc | refine keep_far ?_ GW101.out _ | refine keep_far ?_ GW110.out _) | exact HK.out)), (by repeat (first | (with_reducible first | exact HB.out | apply below_alloc | apply pw_below_drewN | apply below_drew1 | refine below_set ?_ (IsS64.ge HI0.out) | refine below_set ?_ GE101.out | refine below_set ?_ GE110.out) | exact HB.out))⟩)
                rintro ⟨v120, adz_v120⟩ w46 ⟨hS_, h0_, h1_, h2_, h3_, h4_, h5_, h6_, h7_, h8_⟩
                have n0_ : Aside0 (Kd.R (Kd.int .i64) 3 w46 w.heap.size (fun k_ => some k_ ≠ (.slice (some adz_v114) y113.length co31 : Value).ownBlock ∧ some k_ ≠ (v120 : Value).ownBlock) (.slice (some ad109) y104.length co18) y104) := ⟨h0_⟩
                have n1_ : Aside0 (Kd.R (Kd.int .i64) 3 w46 w.heap.size (fun k_ => some k_ ≠ (.slice (some ad109) y104.length co18 : Value).ownBlock ∧ some k_ ≠ (v120 : Value).ownBlock) (.slice (some adz_v114) y113.length co31) y113) := ⟨h1_⟩
                have n2_ : Aside0 (Kd.R (Kd.int .i64) 3 w46 w.heap.size (fun k_ => some k_ ≠ (.slice (some ad109) y104.length co18 : Value).ownBlock ∧ some k_ ≠ (.slice (some adz_v114) y113.length co31 : Value).ownBlock) v120 y119) := ⟨h2_⟩
                have n3_ : Aside0 (∃ c_, (v120 : Value) = .slice (some adz_v120) y119.length c_) := ⟨h3_⟩
                have n4_ : Aside0 (w46.heap[gb101]? = some (.cells #[.int .i64 0, .int .i64 0, .int .i64 0] 33 (0, 0))) := ⟨h4_⟩
                have n5_ : Aside0 (w46.heap[gb110]? = some (.cells #[.int .i64 0, .int .i64 (rd y113 t116), .int .i64 (rd y104 t107)] 33 (0, 0))) := ⟨h5_⟩
                have n6_ : Aside0 (IsS64 w0 w46 g s0_0 t123) := ⟨h6_⟩
                have n7_ : Aside0 (KeepBut w w46 g none) := ⟨h7_⟩
                have n8_ : Aside0 (Below w0.heap.size w0 w46) := ⟨h8_⟩
                clear HO106
                clear HO115
                clear BK101
                clear BK110
                clear HI0
                clear HK
                clear HB
                clear h0_ h1_ h2_ h3_ h4_ h5_ h6_ h7_ h8_
                have HO106 := n0_
                have HO115 := n1_
                have HO121 := n2_
                have HA_HO121 := n3_
                have BK101 := n4_
                have BK110 := n5_
                have HI0 := n6_
                have HK := n7_
                have HB := n8_
                clear n0_ n1_ n2_ n3_ n4_ n5_ n6_ n7_ n8_
                have hHeld : w46.cell? ⟨gb110, 0, none⟩ = some (.int .i64 0) ∧ w46.cell? ⟨gb110, 1, none⟩ = some (.int .i64 (rd y113 t116)) ∧ w46.cell? ⟨gb110, 2, none⟩ = some (.int .i64 (rd y104 t107)) := hS_
                obtain ⟨co47, eo47⟩ := HA_HO121.out
                clear HA_HO121
                subst eo47
                refine norm_ (a' := ?_) ?_ ?_
                rotate_left
                · simp only [putAll, Act.put, List.setIfInBounds_toArray, List.set_cons_zero, List.set_cons_succ]
                  rfl
                refine pure_ (i := 14) (N := some 46) (v := ?_) (a' := ?_) #[true, true, true, true, true, true, true, true, true, true, true, true, true, true, true, false, false, false, false, false, false] rfl rfl (any_of HT_.out (by kernel_rfl)) (fun _ _ _ h => h) (Or.inl ⟨by rfl, ?_⟩) ?_ ?_
                rotate_left
                · intro w'
                  go_simp
                  with_reducible rfl
                rotate_left
                · simp only [Act.put, List.setIfInBounds_toArray, List.set_cons_zero, List.set_cons_succ, i64_w, i32_w]
                  rfl
                refine one_ (i := 15) (N := some 47) #[true, true, true, true, true, true, true, true, true, true, true, true, true, true, true, true, false, false, false, false, false] rfl rfl (one_of HT_.out (by kernel_rfl)) (by decide) (fun K hK => ?_)
                (have p124 : 0 ≤ (t122 : Int) := of_decide_eq_true (by first | (with_reducible assumption) | assumption); have q124 : t122 < (y119.length : Int) := of_decide_eq_true (by first | (with_reducible assumption) | assumption); obtain ⟨ad124, e124, hx124_0⟩ := Kd.at_int (Kd.R_reads' HO121.out).2.2 t122 p124 q124; obtain rfl : adz_v120 = ad124 := (by injection e124))
                refine value_ (w1 := ?_) (v := ?_) (by rfl) rfl ?_ ?_
                rotate_left 2
                · go_simp
                  constructor
                  · rfl
                  · rfl
                clear hx124_0
                refine hK.out _ _ ⟨(blk_cell BK110.out 0).trans rfl, (blk_cell BK110.out 1).trans rfl, (blk_cell BK110.out 2).trans rfl⟩ (fun hHeld => ?_)
                clear hK K
                refine norm_ (a' := ?_) ?_ ?_
                rotate_left
                · show Act.put _ (some 47) _ = _
                  simp only [Act.put, List.setIfInBounds_toArray, List.set_cons_zero, List.set_cons_succ, i64_w, i32_w]
                  rfl
                refine pure_ (i := 16) (N := some 48) (v := ?_) (a' := ?_) #[true, true, true, true, true, true, true, true, true, true, true, true, true, true, true, true, true, false, false, false, false] rfl rfl (any_of HT_.out (by kernel_rfl)) (fun _ _ _ h => h) (Or.inl ⟨by rfl, ?_⟩) ?_ ?_
                rotate_left
                · intro w'
                  go_simp
                  with_reducible rfl
                rotate_left
                · simp only [Act.put, List.setIfInBounds_toArray, List.set_cons_zero, List.set_cons_succ, i64_w, i32_w]
                  rfl
                refine one_ (i := 17) (N := some 49) #[true, true, true, true, true, true, true, true, true, true, true, true, true, true, true, true, true, true, false, false, false] rfl rfl (one_of HT_.out (by kernel_rfl)) (by decide) (fun K hK => ?_)
                refine goes_ Try.func38 (by kernel_rfl) rfl #[.pointer (some ⟨g, 0, none⟩), .int .i64 ji38] (by rfl) rfl rfl (by (try simp only [List.map_toArray, List.map_cons, List.map_nil]); first | done | (simp only [hji38]; rfl) | rfl | (simp only [List.length_drop, List.length_take]; rfl)) ?_
                with_reducible refine (spec_l20Rd_pick.calls k g s0_0 t123 ji38 t125 t126 w0 _ ?side1 ?side2 A39.out).mono ?_
                (case side1 => repeat (first | (with_reducible first | exact HI0.out | apply IsS64.alloc | apply IsS64.drewN | apply IsS64.drew | apply IsS64.set_1 | refine IsS64.far ?_ NB0_101.out _ | refine IsS64.far ?_ NB0_110.out _) | exact HI0.out))
                (case side2 => repeat (first | (with_reducible first | exact HB.out | apply below_alloc | apply pw_below_drewN | apply below_drew1 | refine below_set ?_ (IsS64.ge HI0.out) | refine below_set ?_ GE101.out | refine below_set ?_ GE110.out) | exact HB.out))
                rintro e w48 ⟨rfl, hi, hb, hk⟩
                refine ⟨_, rfl, ?_⟩
                have n0_ := Aside0.mk (KeepBut.blk hk (g' := gb101) (o := .cells #[.int .i64 0, .int .i64 0, .int .i64 0] 33 (0, 0)) (by (with_reducible repeat (first | refine blk_drewN ?_ _ | refine blk_drew ?_ | refine blk_alloc ?_ _)); exact BK101.out) NB101_0.out (by simp))
                have n1_ := Aside0.mk (Kd.R_mono (Kd.R_keep (IsS64.apart (show IsS64 w0 _ g s0_0 t123 from by repeat (first | (with_reducible first | exact HI0.out | apply IsS64.alloc | apply IsS64.drewN | apply IsS64.drew | apply IsS64.set_1 | refine IsS64.far ?_ NB0_101.out _ | refine IsS64.far ?_ NB0_110.out _) | exact HI0.out)) (by (with_reducible repeat (first | apply Kd.R_alloc | apply Kd.R_drewN | apply Kd.R_drew)); exact HO106.out) (by decide)) hk (fun _ h => h.2)) (fun _ h => h.1))
                have n2_ := Aside0.mk (KeepBut.blk hk (g' := gb110) (o := .cells #[.int .i64 0, .int .i64 (rd y113 t116), .int .i64 (rd y104 t107)] 33 (0, 0)) (by (with_reducible repeat (first | refine blk_drewN ?_ _ | refine blk_drew ?_ | refine blk_alloc ?_ _)); exact BK110.out) NB110_0.out (by simp))
                have n3_ := Aside0.mk (Kd.R_mono (Kd.R_keep (IsS64.apart (show IsS64 w0 _ g s0_0 t123 from by repeat (first | (with_reducible first | exact HI0.out | apply IsS64.alloc | apply IsS64.drewN | apply IsS64.drew | apply IsS64.set_1 | refine IsS64.far ?_ NB0_101.out _ | refine IsS64.far ?_ NB0_110.out _) | exact HI0.out)) (by (with_reducible repeat (first | apply Kd.R_alloc | apply Kd.R_drewN | apply Kd.R_drew)); exact HO115.out) (by decide)) hk (fun _ h => h.2)) (fun _ h => h.1))
                have n4_ := Aside0.mk (Kd.R_mono (Kd.R_keep (IsS64.apart (show IsS64 w0 _ g s0_0 t123 from by repeat (first | (with_reducible first | exact HI0.out | apply IsS64.alloc | apply IsS64.drewN | apply IsS64.drew | apply IsS64.set_1 | refine IsS64.far ?_ NB0_101.out _ | refine IsS64.far ?_ NB0_110.out _) | exact HI0.out)) (by (with_reducible repeat (first | apply Kd.R_alloc | apply Kd.R_drewN | apply Kd.R_drew)); exact HO121.out) (by decide)) hk (fun _ h => h.2)) (fun _ h => h.1))
                have n5_ := Aside0.mk (KeepBut.trans (by repeat (first | (with_reducible first | exact HK.out | apply KeepBut.set_ | apply keep_drewN | apply keep_drew | apply keep_alloc | refine keep_far ?_ GW101.out _ | refine keep_far ?_ GW110.out _) | exact HK.out)) hk (.inl rfl))
                have n6_ := Aside0.mk (hb)
                have n7_ := Aside0.mk (hi)
                clear BK101
                clear HO106
                clear BK110
                clear HO115
                clear HO121
                clear HK
                clear HB
                clear HI0
                have BK101 := n0_
                have HO106 := n1_
                have BK110 := n2_
                have HO115 := n3_
                have HO121 := n4_
                have HK := n5_
                have HB := n6_
                have HI0 := n7_
                clear n0_ n1_ n2_ n3_ n4_ n5_ n6_ n7_
                (try clear hb)
                (try clear hb2)
                (try clear hk)
                (try clear hi)
                refine hK.out _ _ ⟨(blk_cell BK110.out 0).trans rfl, (blk_cell BK110.out 1).trans rfl, (blk_cell BK110.out 2).trans rfl⟩ (fun hHeld => ?_)
                clear hK K
                refine norm_ (a' := ?_) ?_ ?_
                rotate_left
                · show Act.put _ (some 49) _ = _
                  simp only [Act.put, List.setIfInBounds_toArray, List.set_cons_zero, List.set_cons_succ, i64_w, i32_w]
                  rfl
                refine pure_ (i := 18) (N := some 50) (v := ?_) (a' := ?_) #[true, true, true, true, true, true, true, true, true, true, true, true, true, true, true, true, true, true, true, false, false] rfl rfl (any_of HT_.out (by kernel_rfl)) (fun _ _ _ h => h) (Or.inl ⟨by rfl, ?_⟩) ?_ ?_
                rotate_left
                · intro w'
                  go_simp
                  with_reducible rfl
                rotate_left
                · simp only [Act.put, List.setIfInBounds_toArray, List.set_cons_zero, List.set_cons_succ, i64_w, i32_w]
                  rfl
                refine pure_ (i := 19) (N := some 51) (v := ?_) (a' := ?_) #[true, true, true, true, true, true, true, true, true, true, true, true, true, true, true, true, true, true, true, true, false] rfl rfl (any_of HT_.out (by kernel_rfl)) (fun _ _ _ h => h) (Or.inl ⟨by rfl, ?_⟩) ?_ ?_
                rotate_left
                · intro w'
                  go_simp
                  with_reducible rfl
                rotate_left
                · simp only [Act.put, List.setIfInBounds_toArray, List.set_cons_zero, List.set_cons_succ, i64_w, i32_w]
                  rfl
                refine last_ (i := 20) (N := none) #[true, true, true, true, true, true, true, true, true, true, true, true, true, true, true, true, true, true, true, true, true] rfl rfl (one_of HT_.out (by kernel_rfl)) (by decide) (fun K hK => ?_)
                have hs49 : w48.cell? ⟨gb110, 0, none⟩ = some (.int .i64 0) := (blk_cell BK110.out 0).trans rfl
                have hfs49 := blk_frozen BK110.out 0
                have hns49_0 := NB101_110.out
                have hms49_0 := NB110_101.out
                refine skip_ (w1 := ?_) (by rfl) rfl ?_ ?_
                rotate_left
                · go_simp
                  rfl
                refine hK.out _ _ ?_
                clear hK K
                refine done_ (done_of HT_.out (by kernel_rfl)) ?_
                try go_wp2
                go_meet
                case rel => exact ⟨_, (t126), (wrap64 (1 + t125)), H', ⟨by first | omega | exact Nat.le_refl _⟩, ⟨by (with_reducible repeat (first | refine blk_drewN ?_ _ | refine blk_drew ?_ | refine blk_alloc ?_ _)); refine blk_far ?_ NB101_110.out _; (with_reducible repeat (first | refine blk_drewN ?_ _ | refine blk_drew ?_ | refine blk_alloc ?_ _)); exact BK101.out⟩, ⟨by (with_reducible repeat (first | refine blk_drewN ?_ _ | refine blk_drew ?_ | refine blk_alloc ?_ _)); refine blk_put (cs := #[.int .i64 0, .int .i64 (rd y113 t116), .int .i64 (rd y104 t107)]) ?_ 0 _ rfl; (with_reducible repeat (first | refine blk_drewN ?_ _ | refine blk_drew ?_ | refine blk_alloc ?_ _)); exact BK110.out⟩, ⟨by repeat (first | (with_reducible first | exact HI0.out | apply IsS64.alloc | apply IsS64.drewN | apply IsS64.drew | apply IsS64.set_1 | refine IsS64.far ?_ NB0_101.out _ | refine IsS64.far ?_ NB0_110.out _) | exact HI0.out)⟩, ⟨by repeat (first | (with_reducible first | exact HK.out | apply KeepBut.set_ | apply keep_drewN | apply keep_drew | apply keep_alloc | refine keep_far ?_ GW101.out _ | refine keep_far ?_ GW110.out _) | exact HK.out)⟩, ⟨by repeat (first | (with_reducible first | exact HB.out | apply below_alloc | apply pw_below_drewN | apply below_drew1 | refine below_set ?_ (IsS64.ge HI0.out) | refine below_set ?_ GE101.out | refine below_set ?_ GE110.out) | exact HB.out)⟩⟩
              · rw [if_neg c37] at H
                exact absurd H (by simp)
            · rw [if_neg c36] at H
              exact absurd H (by simp)
          case rest =>
            clear HC12
            try clear p1
            try clear q1
            try clear hx1
            try clear qi1
            try clear p2
            try clear c3
            try clear p6
            try clear p11
            try clear q11
            try clear hx11
            try clear p12
            try clear q12
            try clear hx12
            try clear qi12
            try clear c36
            try clear c36b0
            try clear c37
            try clear c37b0
            try clear c38
            try clear hx118_0
            try clear hx124_0
            try clear p118
            try clear p124
            try clear q118
            try clear q124
            obtain ⟨kq, x1001_11, x111000_11, HA, HJ11, BK101, BK110, HI0, HK, HB⟩ := hcut
            cases kq with
            | zero => exact absurd HA.out (by simp [spec_l20Task.j0])
            | succ kj11 =>
              have H := HA.out
              clear HA
              simp only [spec_l20Task.j0] at H
              replace H := Option.bind_eq_some_iff.mp H
              obtain ⟨⟨t127, t128⟩, A500, H⟩ := H
              replace H : (if t127 = true then ((spec_l20Rd_pick.f kj11 s0_0 t128 3).bind fun bt129 => (if bt129.1 = 0 then ((some (([0, (-1), 9, wrap64 ((rd y113 t116) + 1)] : List Int) : List Int)).bind fun y131 => ((spec_l20Rd_pick.f kj11 s0_0 bt129.2 4).bind fun bt134 => (if 0 ≤ bt134.1 then (if bt134.1 < (y131.length : Int) then (some (rd y131 bt134.1, (rd y113 t116), (rd y104 t107), bt134.2)) else (none)) else (none)))) else (if bt129.1 = 1 then ((some (([0, wrap64 ((rd y104 t107) + 1), (-1)] : List Int) : List Int)).bind fun y137 => ((spec_l20Rd_pick.f kj11 s0_0 bt129.2 3).bind fun bt140 => (if 0 ≤ bt140.1 then (if bt140.1 < (y137.length : Int) then (some (x111000_11, rd y137 bt140.1, (rd y104 t107), bt140.2)) else (none)) else (none)))) else ((some (([0, 13, (-1)] : List Int) : List Int)).bind fun y143 => ((spec_l20Rd_pick.f kj11 s0_0 bt129.2 3).bind fun bt146 => (if 0 ≤ bt146.1 then (if bt146.1 < (y143.length : Int) then (some (x111000_11, (rd y113 t116), rd y143 bt146.1, bt146.2)) else (none)) else (none))))))) else (some (x111000_11, (rd y113 t116), (rd y104 t107), t128))) = some (r1, r2, r3, r4) := H
              have A50 := Aside0.mk A500
              clear A500
              by_cases c51 : t127 = true
              · subst c51
                have H1 : ((spec_l20Rd_pick.f kj11 s0_0 t128 3).bind fun bt129 => (if bt129.1 = 0 then ((some (([0, (-1), 9, wrap64 ((rd y113 t116) + 1)] : List Int) : List Int)).bind fun y131 => ((spec_l20Rd_pick.f kj11 s0_0 bt129.2 4).bind fun bt134 => (if 0 ≤ bt134.1 then (if bt134.1 < (y131.length : Int) then (some (rd y131 bt134.1, (rd y113 t116), (rd y104 t107), bt134.2)) else (none)) else (none)))) else (if bt129.1 = 1 then ((some (([0, wrap64 ((rd y104 t107) + 1), (-1)] : List Int) : List Int)).bind fun y137 => ((spec_l20Rd_pick.f kj11 s0_0 bt129.2 3).bind fun bt140 => (if 0 ≤ bt140.1 then (if bt140.1 < (y137.length : Int) then (some (x111000_11, rd y137 bt140.1, (rd y104 t107), bt140.2)) else (none)) else (none)))) else ((some (([0, 13, (-1)] : List Int) : List Int)).bind fun y143 => ((spec_l20Rd_pick.f kj11 s0_0 bt129.2 3).bind fun bt146 => (if 0 ≤ bt146.1 then (if bt146.1 < (y143.length : Int) then (some (x111000_11, (rd y113 t116), rd y143 bt146.1, bt146.2)) else (none)) else (none))))))) = some (r1, r2, r3, r4) := by rw [if_pos rfl] at H; exact H
                clear H
                have H := H1
                clear H1
                replace H := Option.bind_eq_some_iff.mp H
                obtain ⟨⟨t129, t130⟩, A520, H⟩ := H
                replace H : (if t129 = 0 then ((some (([0, (-1), 9, wrap64 ((rd y113 t116) + 1)] : List Int) : List Int)).bind fun y131 => ((spec_l20Rd_pick.f kj11 s0_0 t130 4).bind fun bt134 => (if 0 ≤ bt134.1 then (if bt134.1 < (y131.length : Int) then (some (rd y131 bt134.1, (rd y113 t116), (rd y104 t107), bt134.2)) else (none)) else (none)))) else (if t129 = 1 then ((some (([0, wrap64 ((rd y104 t107) + 1), (-1)] : List Int) : List Int)).bind fun y137 => ((spec_l20Rd_pick.f kj11 s0_0 t130 3).bind fun bt140 => (if 0 ≤ bt140.1 then (if bt140.1 < (y137.length : Int) then (some (x111000_11, rd y137 bt140.1, (rd y104 t107), bt140.2)) else (none)) else (none)))) else ((some (([0, 13, (-1)] : List Int) : List Int)).bind fun y143 => ((spec_l20Rd_pick.f kj11 s0_0 t130 3).bind fun bt146 => (if 0 ≤ bt146.1 then (if bt146.1 < (y143.length : Int) then (some (x111000_11, (rd y113 t116), rd y143 bt146.1, bt146.2)) else (none)) else (none)))))) = some (r1, r2, r3, r4) := H
                have A52 := Aside0.mk A520
                clear A520
                by_cases c53 : t129 = 0
                · rw [if_pos c53] at H
                  have c53b0 : (t129 == 0) = true := beq_iff_eq.mpr c53
                  have c53b1 : (t129 != 0) = false := bne_eq_false_iff_eq.mpr c53
                  clear c53
                  obtain ⟨y131, hy131⟩ : ∃ y_ : List Int, y_ = (([0, (-1), 9, wrap64 ((rd y113 t116) + 1)] : List Int)) := ⟨_, rfl⟩
                  replace H : ((spec_l20Rd_pick.f kj11 s0_0 t130 4).bind fun bt134 => (if 0 ≤ bt134.1 then (if bt134.1 < (y131.length : Int) then (some (rd y131 bt134.1, (rd y113 t116), (rd y104 t107), bt134.2)) else (none)) else (none))) = some (r1, r2, r3, r4) := by first | (rw [hy131]; with_reducible exact H) | (have H2_ := (Option.bind_some _ _).symm.trans H; rw [hy131]; with_reducible exact H2_) | (have H2_ := (Option.bind_some _ _).symm.trans H; with_reducible exact H2_) | with_reducible exact H | (rw [hy131]; exact H) | exact H
                  have Ny131 := Aside0.mk hy131
                  clear hy131
                  replace H := Option.bind_eq_some_iff.mp H
                  obtain ⟨⟨t134, t135⟩, A540, H⟩ := H
                  replace H : (if 0 ≤ t134 then (if t134 < (y131.length : Int) then (some (rd y131 t134, (rd y113 t116), (rd y104 t107), t135)) else (none)) else (none)) = some (r1, r2, r3, r4) := H
                  have A54 := Aside0.mk A540
                  clear A540
                  by_cases c55 : 0 ≤ t134
                  · rw [if_pos c55] at H
                    have c55b0 : decide (0 ≤ t134) = true := decide_eq_true c55
                    clear c55
                    by_cases c56 : t134 < (y131.length : Int)
                    · rw [if_pos c56] at H
                      have c56b0 : decide (t134 < (y131.length : Int)) = true := decide_eq_true c56
                      clear c56
                      simp only [Option.some.injEq, Prod.mk.injEq] at H
                      obtain ⟨rfl, rfl, rfl, rfl⟩ := H
                      try go_wp2_with (first | ((with_reducible refine gate_callee (f := 53) rfl ?_); refine goesL_ (some 54) rfl rfl Try.func53 (by kernel_rfl) rfl #[.pointer (some ⟨g, 0, none⟩), .int .i64 a1] rfl (by (try simp only [List.map_toArray, List.map_cons, List.map_nil]); first | done | rfl | (simp only [List.length_drop, List.length_take]; rfl)) ?_; (with_reducible refine (spec_l20Rd_odd.calls kj11 g s0_0 x1001_11 a1 true t128 w0 _ ?side1 ?side2 A50.out).mono ?_); (case side1 => repeat (first | (with_reducible first | exact HI0.out | apply IsS64.alloc | apply IsS64.drewN | apply IsS64.drew | apply IsS64.set_1 | refine IsS64.far ?_ NB0_101.out _ | refine IsS64.far ?_ NB0_110.out _) | exact HI0.out)); (case side2 => repeat (first | (with_reducible first | exact HB.out | apply below_alloc | apply pw_below_drewN | apply below_drew1 | refine below_set ?_ (IsS64.ge HI0.out) | refine below_set ?_ GE101.out | refine below_set ?_ GE110.out) | exact HB.out)); rintro e w57 ⟨rfl, hi, hb, hk⟩; refine ⟨_, rfl, ?_⟩; have n0_ := Aside0.mk (KeepBut.blk hk (g' := gb101) (o := .cells #[.int .i64 0, .int .i64 0, .int .i64 0] 33 (0, 0)) (by (with_reducible repeat (first | refine blk_drewN ?_ _ | refine blk_drew ?_ | refine blk_alloc ?_ _)); exact BK101.out) NB101_0.out (by simp)); have n1_ := Aside0.mk (KeepBut.blk hk (g' := gb110) (o := .cells #[.int .i64 x111000_11, .int .i64 (rd y113 t116), .int .i64 (rd y104 t107)] 33 (0, 0)) (by (with_reducible repeat (first | refine blk_drewN ?_ _ | refine blk_drew ?_ | refine blk_alloc ?_ _)); exact BK110.out) NB110_0.out (by simp)); have n2_ := Aside0.mk (KeepBut.trans (by repeat (first | (with_reducible first | exact HK.out | apply KeepBut.set_ | apply keep_drewN | apply keep_drew | apply keep_alloc | refine keep_far ?_ GW101.out _ | refine keep_far ?_ GW110.out _) | exact HK.out)) hk (.inl rfl)); have n3_ := Aside0.mk (hb); have n4_ := Aside0.mk (hi); clear BK101; clear BK110; clear HK; clear HB; clear HI0; have BK101 := n0_; have BK110 := n1_; have HK := n2_; have HB := n3_; have HI0 := n4_; clear n0_ n1_ n2_ n3_ n4_; (try clear hb); (try clear hb2); (try clear hk); (try clear hi)) | ((with_reducible refine gate_callee (f := 38) rfl ?_); refine goesL_ (some 56) rfl rfl Try.func38 (by kernel_rfl) rfl #[.pointer (some ⟨g, 0, none⟩), .int .i64 3] rfl (by (try simp only [List.map_toArray, List.map_cons, List.map_nil]); first | done | rfl | (simp only [List.length_drop, List.length_take]; rfl)) ?_; (with_reducible refine (spec_l20Rd_pick.calls kj11 g s0_0 t128 3 t129 t130 w0 _ ?side1 ?side2 A52.out).mono ?_); (case side1 => repeat (first | (with_reducible first | exact HI0.out | apply IsS64.alloc | apply IsS64.drewN | apply IsS64.drew | apply IsS64.set_1 | refine IsS64.far ?_ NB0_101.out _ | refine IsS64.far ?_ NB0_110.out _) | exact HI0.out)); (case side2 => repeat (first | (with_reducible first | exact HB.out | apply below_alloc | apply pw_below_drewN | apply below_drew1 | refine below_set ?_ (IsS64.ge HI0.out) | refine below_set ?_ GE101.out | refine below_set ?_ GE110.out) | exact HB.out)); rintro e w58 ⟨rfl, hi, hb, hk⟩; refine ⟨_, rfl, ?_⟩; have n0_ := Aside0.mk (KeepBut.blk hk (g' := gb101) (o := .cells #[.int .i64 0, .int .i64 0, .int .i64 0] 33 (0, 0)) (by (with_reducible repeat (first | refine blk_drewN ?_ _ | refine blk_drew ?_ | refine blk_alloc ?_ _)); exact BK101.out) NB101_0.out (by simp)); have n1_ := Aside0.mk (KeepBut.blk hk (g' := gb110) (o := .cells #[.int .i64 x111000_11, .int .i64 (rd y113 t116), .int .i64 (rd y104 t107)] 33 (0, 0)) (by (with_reducible repeat (first | refine blk_drewN ?_ _ | refine blk_drew ?_ | refine blk_alloc ?_ _)); exact BK110.out) NB110_0.out (by simp)); have n2_ := Aside0.mk (KeepBut.trans (by repeat (first | (with_reducible first | exact HK.out | apply KeepBut.set_ | apply keep_drewN | apply keep_drew | apply keep_alloc | refine keep_far ?_ GW101.out _ | refine keep_far ?_ GW110.out _) | exact HK.out)) hk (.inl rfl)); have n3_ := Aside0.mk (hb); have n4_ := Aside0.mk (hi); clear BK101; clear BK110; clear HK; clear HB; clear HI0; have BK101 := n0_; have BK110 := n1_; have HK := n2_; have HB := n3_; have HI0 := n4_; clear n0_ n1_ n2_ n3_ n4_; (try clear hb); (try clear hb2); (try clear hk); (try clear hi)))
                      have pi136 : (0 ≤ (t134 : Int)) = True := eq_true (of_decide_eq_true (by first | (with_reducible assumption) | assumption))
                      have qi136 : (t134 < (y131.length : Int)) = True := eq_true (of_decide_eq_true (by first | (with_reducible assumption) | assumption))
                      have n0_ := Aside0.mk (blk_drew BK101.out)
                      have n1_ := Aside0.mk (blk_drew BK110.out)
                      have n2_ := Aside0.mk (IsS64.drew HI0.out)
                      have n3_ := Aside0.mk (keep_drew HK.out)
                      have n4_ := Aside0.mk (below_drew1 HB.out)
                      clear BK101
                      clear BK110
                      clear HI0
                      clear HK
                      clear HB
                      have BK101 := n0_
                      have BK110 := n1_
                      have HI0 := n2_
                      have HK := n3_
                      have HB := n4_
                      clear n0_ n1_ n2_ n3_ n4_
                      refine start_ (n := 10) (S := fun w' => w'.cell? ⟨gb110, 0, none⟩ = some (.int .i64 x111000_11) ∧ w'.cell? ⟨gb110, 1, none⟩ = some (.int .i64 (rd y113 t116)) ∧ w'.cell? ⟨gb110, 2, none⟩ = some (.int .i64 (rd y104 t107))) (ds := [9]) #[false, false, false, false, false, false, false, false, false, false] (by kernel_rfl) rfl rfl ⟨(blk_cell BK110.out 0).trans rfl, (blk_cell BK110.out 1).trans rfl, (blk_cell BK110.out 2).trans rfl⟩ (fun hHeld => ?_); refine with_tabW spec_l20Task.tab8 spec_l20Task.bits8 (fun HT_ HW_ => ?_)
                      generalize w58.drew = w59 at BK101 BK110 HI0 HK HB hHeld ⊢
                      refine pure_ (i := 0) (N := some 65) (v := ?_) (a' := ?_) #[true, false, false, false, false, false, false, false, false, false] rfl rfl (any_of HT_.out (by kernel_rfl)) (fun _ _ _ h => h) (Or.inl ⟨by rfl, ?_⟩) ?_ ?_
                      rotate_left
                      · intro w'
                        go_simp
                        with_reducible rfl
                      rotate_left
                      · simp only [Act.put, List.setIfInBounds_toArray, List.set_cons_zero, List.set_cons_succ, i64_w, i32_w]
                        rfl
                      refine pure_ (i := 4) (N := some 69) (v := ?_) (a' := ?_) #[true, false, false, false, true, false, false, false, false, false] rfl rfl (any_of HT_.out (by kernel_rfl)) (fun _ _ _ h => h) (Or.inl ⟨by rfl, ?_⟩) ?_ ?_
                      rotate_left
                      · intro w'
                        go_simp
                        with_reducible rfl
                      rotate_left
                      · simp only [Act.put, List.setIfInBounds_toArray, List.set_cons_zero, List.set_cons_succ, i64_w, i32_w]
                        rfl
                      refine take_ (i := 1) (N := some 66) (v := ?_) (a' := ?_) #[true, true, false, false, true, false, false, false, false, false] rfl rfl (take_ofW HT_.out HW_.out (by kernel_rfl)) (fun _ _ _ h => h) (Or.inl ⟨by rfl, ?_⟩) hHeld ?_ ?_
                      rotate_left
                      · rintro w' ⟨s0, s1, s2⟩
                        go_simp
                        with_reducible rfl
                      rotate_left
                      · simp only [Act.put, List.setIfInBounds_toArray, List.set_cons_zero, List.set_cons_succ, i64_w, i32_w]
                        rfl
                      refine pure_ (i := 2) (N := some 67) (v := ?_) (a' := ?_) #[true, true, true, false, true, false, false, false, false, false] rfl rfl (any_of HT_.out (by kernel_rfl)) (fun _ _ _ h => h) (Or.inl ⟨by rfl, ?_⟩) ?_ ?_
                      rotate_left
                      · intro w'
                        go_simp
                        with_reducible rfl
                      rotate_left
                      · simp only [Act.put, List.setIfInBounds_toArray, List.set_cons_zero, List.set_cons_succ, i64_w, i32_w]
                        rfl
                      refine join_ (σ := Value × Addr) 4 #[true, true, true, true, true, true, false, false, false, false] (fun s_ => [(68, s_.1), (70, .int .i64 t134)]) (fun s_ w' => (w'.cell? ⟨gb110, 0, none⟩ = some (.int .i64 x111000_11) ∧ w'.cell? ⟨gb110, 1, none⟩ = some (.int .i64 (rd y113 t116)) ∧ w'.cell? ⟨gb110, 2, none⟩ = some (.int .i64 (rd y104 t107))) ∧ (Kd.R (Kd.int .i64) 3 w' w.heap.size (fun _ => True) s_.1 y131) ∧ (∃ c_, (s_.1 : Value) = .slice (some s_.2) y131.length c_) ∧ (w'.heap[gb101]? = some (.cells #[.int .i64 0, .int .i64 0, .int .i64 0] 33 (0, 0))) ∧ (w'.heap[gb110]? = some (.cells #[.int .i64 x111000_11, .int .i64 (rd y113 t116), .int .i64 (rd y104 t107)] 33 (0, 0))) ∧ (IsS64 w0 w' g s0_0 t135) ∧ (KeepBut w w' g none) ∧ (Below w0.heap.size w0 w')) ?_ ?_
                      rotate_left
                      · intro hCont
                        refine two_ (i := 3) (j := 5) (Ni := some 68) (Nj := some 70) #[true, true, true, true, true, false, false, false, false, false] #[true, true, true, false, true, true, false, false, false, false] rfl rfl rfl rfl (two_of HT_.out (by kernel_rfl)) (by decide) (by decide) (fun K hK => ?_) (fun K hK => ?_)
                        · skip
                          refine Kd.R_lit_step (Kd.int .i64) _ 3 ?hg (N := 68) ?hd (xs := ([0, (-1), 9, wrap64 ((rd y113 t116) + 1)] : List Int)) (inner := [.int .i64 0, .int .i64 (-1), .int .i64 9, .int .i64 (wrap64 ((rd y113 t116) + 1))]) (ok := fun _ => True) (okp := fun _ => True) ?hr ?hp (fun _ hk => hk) trivial (Below.refl _ _) (Nat.le_refl _) (by simp) ?_; (case hd => rfl); (case hg => rfl); (case hr => first | (go_simp; done) | (go_simp; rfl)); (case hp => exact (Reps.one (show Kd.M (Kd.int .i64) _ _ _ 0 [.int .i64 0] from rfl) (Reps.one (show Kd.M (Kd.int .i64) _ _ _ (-1) [.int .i64 (-1)] from rfl) (Reps.one (show Kd.M (Kd.int .i64) _ _ _ 9 [.int .i64 9] from rfl) (Reps.one (show Kd.M (Kd.int .i64) _ _ _ (wrap64 ((rd y113 t116) + 1)) [.int .i64 (wrap64 ((rd y113 t116) + 1))] from rfl) (Reps.none _ _))))))
                          intro v132 w60 ho61 hb hg_ hnew_
                          clear hg_ hnew_
                          (first | rw [← Ny131.out] at ho61 | (simp only [Int.reduceToNat] at ho61; rw [← Ny131.out] at ho61))
                          have n0_ := Aside0.mk (Kd.R_lower ho61 (keep_size (w := w) (g := g) (row := none) (by repeat (first | (with_reducible first | exact HK.out | apply KeepBut.set_ | apply keep_drewN | apply keep_drew | apply keep_alloc | refine keep_far ?_ GW101.out _ | refine keep_far ?_ GW110.out _) | exact HK.out))))
                          have n1_ := Aside0.mk (blk_below (g := gb101) (o := .cells #[.int .i64 0, .int .i64 0, .int .i64 0] 33 (0, 0)) (by (with_reducible repeat (first | refine blk_drewN ?_ _ | refine blk_drew ?_ | refine blk_alloc ?_ _)); exact BK101.out) hb)
                          have n2_ := Aside0.mk (blk_below (g := gb110) (o := .cells #[.int .i64 x111000_11, .int .i64 (rd y113 t116), .int .i64 (rd y104 t107)] 33 (0, 0)) (by (with_reducible repeat (first | refine blk_drewN ?_ _ | refine blk_drew ?_ | refine blk_alloc ?_ _)); exact BK110.out) hb)
                          have n3_ := Aside0.mk (IsS64.below (by repeat (first | (with_reducible first | exact HI0.out | apply IsS64.alloc | apply IsS64.drewN | apply IsS64.drew | apply IsS64.set_1 | refine IsS64.far ?_ NB0_101.out _ | refine IsS64.far ?_ NB0_110.out _) | exact HI0.out)) hb)
                          have n4_ := Aside0.mk (KeepBut.trans (by repeat (first | (with_reducible first | exact HK.out | apply KeepBut.set_ | apply keep_drewN | apply keep_drew | apply keep_alloc | refine keep_far ?_ GW101.out _ | refine keep_far ?_ GW110.out _) | exact HK.out)) (KeepBut.of_below hb g none) (.inl rfl))
                          have n5_ := Aside0.mk (below_step (by repeat (first | (with_reducible first | exact HB.out | apply below_alloc | apply pw_below_drewN | apply below_drew1 | refine below_set ?_ (IsS64.ge HI0.out) | refine below_set ?_ GE101.out | refine below_set ?_ GE110.out) | exact HB.out)) hb)
                          clear BK101
                          clear BK110
                          clear HI0
                          clear HK
                          clear HB
                          have HO133 := n0_
                          have BK101 := n1_
                          have BK110 := n2_
                          have HI0 := n3_
                          have HK := n4_
                          have HB := n5_
                          clear n0_ n1_ n2_ n3_ n4_ n5_
                          clear hb ho61
                          obtain ⟨Ao62, co62, eo62⟩ := Kd.R_slice HO133.out
                          subst eo62
                          obtain ⟨ado62, fo62, _⟩ := Kd.at_int (Kd.R_reads' HO133.out).2.2 0 (by decide) (by rw [Ny131.out]; simp)
                          cases fo62
                          refine hK.out _ _ ⟨(blk_cell BK110.out 0).trans rfl, (blk_cell BK110.out 1).trans rfl, (blk_cell BK110.out 2).trans rfl⟩ (fun hHeld => ?_)
                          clear hK K
                          refine norm_ (a' := ?_) ?_ ?_
                          rotate_left
                          · show Act.put _ (some 68) _ = _
                            simp only [Act.put, List.setIfInBounds_toArray, List.set_cons_zero, List.set_cons_succ, i64_w, i32_w]
                            rfl
                          refine one_ (i := 5) (N := some 70) #[true, true, true, true, true, true, false, false, false, false] rfl rfl (one_of HT_.out (by kernel_rfl)) (by decide) (fun K hK => ?_)
                          refine goes_ Try.func38 (by kernel_rfl) rfl #[.pointer (some ⟨g, 0, none⟩), .int .i64 4] (by rfl) rfl rfl (by (try simp only [List.map_toArray, List.map_cons, List.map_nil]); first | done | rfl | (simp only [List.length_drop, List.length_take]; rfl)) ?_
                          with_reducible refine (spec_l20Rd_pick.calls kj11 g s0_0 t130 4 t134 t135 w0 _ ?side1 ?side2 A54.out).mono ?_
                          (case side1 => repeat (first | (with_reducible first | exact HI0.out | apply IsS64.alloc | apply IsS64.drewN | apply IsS64.drew | apply IsS64.set_1 | refine IsS64.far ?_ NB0_101.out _ | refine IsS64.far ?_ NB0_110.out _) | exact HI0.out))
                          (case side2 => repeat (first | (with_reducible first | exact HB.out | apply below_alloc | apply pw_below_drewN | apply below_drew1 | refine below_set ?_ (IsS64.ge HI0.out) | refine below_set ?_ GE101.out | refine below_set ?_ GE110.out) | exact HB.out))
                          rintro e w63 ⟨rfl, hi, hb, hk⟩
                          refine ⟨_, rfl, ?_⟩
                          have n0_ := Aside0.mk (KeepBut.blk hk (g' := gb101) (o := .cells #[.int .i64 0, .int .i64 0, .int .i64 0] 33 (0, 0)) (by (with_reducible repeat (first | refine blk_drewN ?_ _ | refine blk_drew ?_ | refine blk_alloc ?_ _)); exact BK101.out) NB101_0.out (by simp))
                          have n1_ := Aside0.mk (KeepBut.blk hk (g' := gb110) (o := .cells #[.int .i64 x111000_11, .int .i64 (rd y113 t116), .int .i64 (rd y104 t107)] 33 (0, 0)) (by (with_reducible repeat (first | refine blk_drewN ?_ _ | refine blk_drew ?_ | refine blk_alloc ?_ _)); exact BK110.out) NB110_0.out (by simp))
                          have n2_ := Aside0.mk (Kd.R_mono (Kd.R_keep (IsS64.apart (show IsS64 w0 _ g s0_0 t130 from by repeat (first | (with_reducible first | exact HI0.out | apply IsS64.alloc | apply IsS64.drewN | apply IsS64.drew | apply IsS64.set_1 | refine IsS64.far ?_ NB0_101.out _ | refine IsS64.far ?_ NB0_110.out _) | exact HI0.out)) (by (with_reducible repeat (first | apply Kd.R_alloc | apply Kd.R_drewN | apply Kd.R_drew)); exact HO133.out) (by decide)) hk (fun _ h => h.2)) (fun _ h => h.1))
                          have n3_ := Aside0.mk (KeepBut.trans (by repeat (first | (with_reducible first | exact HK.out | apply KeepBut.set_ | apply keep_drewN | apply keep_drew | apply keep_alloc | refine keep_far ?_ GW101.out _ | refine keep_far ?_ GW110.out _) | exact HK.out)) hk (.inl rfl))
                          have n4_ := Aside0.mk (hb)
                          have n5_ := Aside0.mk (hi)
                          clear BK101
                          clear BK110
                          clear HO133
                          clear HK
                          clear HB
                          clear HI0
                          have BK101 := n0_
                          have BK110 := n1_
                          have HO133 := n2_
                          have HK := n3_
                          have HB := n4_
                          have HI0 := n5_
                          clear n0_ n1_ n2_ n3_ n4_ n5_
                          (try clear hb)
                          (try clear hb2)
                          (try clear hk)
                          (try clear hi)
                          refine hK.out _ _ ⟨(blk_cell BK110.out 0).trans rfl, (blk_cell BK110.out 1).trans rfl, (blk_cell BK110.out 2).trans rfl⟩ (fun hHeld => ?_)
                          clear hK K
                          refine norm_ (a' := ?_) ?_ ?_
                          rotate_left
                          · show Act.put _ (some 70) _ = _
                            simp only [Act.put, List.setIfInBounds_toArray, List.set_cons_zero, List.set_cons_succ, i64_w, i32_w]
                            rfl
                          exact norm_ (by simp only [putAll, Act.put, List.setIfInBounds_toArray, List.set_cons_zero, List.set_cons_succ]) (hCont (.slice (some ado62) y131.length co62, ado62) _ ⟨hHeld, (by (with_reducible repeat (first | apply Kd.R_alloc | apply Kd.R_drewN | apply Kd.R_drew)); exact HO133.out), ⟨_, rfl⟩, (by (with_reducible repeat (first | refine blk_drewN ?_ _ | refine blk_drew ?_ | refine blk_alloc ?_ _)); exact BK101.out), (by (with_reducible repeat (first | refine blk_drewN ?_ _ | refine blk_drew ?_ | refine blk_alloc ?_ _)); exact BK110.out), (by repeat (first | (with_reducible first | exact HI0.out | apply IsS64.alloc | apply IsS64.drewN | apply IsS64.drew | apply IsS64.set_1 | refine IsS64.far ?_ NB0_101.out _ | refine IsS64.far ?_ NB0_110.out _) | exact HI0.out)), (by repeat (first | (with_reducible first | exact HK.out | apply KeepBut.set_ | apply keep_drewN | apply keep_drew | apply keep_alloc | refine keep_far ?_ GW101.out _ | refine keep_far ?_ GW110.out _) | exact HK.out)), (by repeat (first | (with_reducible first | exact HB.out | apply below_alloc | apply pw_below_drewN | apply below_drew1 | refine below_set ?_ (IsS64.ge HI0.out) | refine below_set ?_ GE101.out | refine below_set ?_ GE110.out) | exact HB.out))⟩)
                        · skip
                          refine goes_ Try.func38 (by kernel_rfl) rfl #[.pointer (some ⟨g, 0, none⟩), .int .i64 4] (by rfl) rfl rfl (by (try simp only [List.map_toArray, List.map_cons, List.map_nil]); first | done | rfl | (simp only [List.length_drop, List.length_take]; rfl)) ?_
                          with_reducible refine (spec_l20Rd_pick.calls kj11 g s0_0 t130 4 t134 t135 w0 _ ?side1 ?side2 A54.out).mono ?_
                          (case side1 => repeat (first | (with_reducible first | exact HI0.out | apply IsS64.alloc | apply IsS64.drewN | apply IsS64.drew | apply IsS64.set_1 | refine IsS64.far ?_ NB0_101.out _ | refine IsS64.far ?_ NB0_110.out _) | exact HI0.out))
                          (case side2 => repeat (first | (with_reducible first | exact HB.out | apply below_alloc | apply pw_below_drewN | apply below_drew1 | refine below_set ?_ (IsS64.ge HI0.out) | refine below_set ?_ GE101.out | refine below_set ?_ GE110.out) | exact HB.out))
                          rintro e w60 ⟨rfl, hi, hb, hk⟩
                          refine ⟨_, rfl, ?_⟩
                          have n0_ := Aside0.mk (KeepBut.blk hk (g' := gb101) (o := .cells #[.int .i64 0, .int .i64 0, .int .i64 0] 33 (0, 0)) (by (with_reducible repeat (first | refine blk_drewN ?_ _ | refine blk_drew ?_ | refine blk_alloc ?_ _)); exact BK101.out) NB101_0.out (by simp))
                          have n1_ := Aside0.mk (KeepBut.blk hk (g' := gb110) (o := .cells #[.int .i64 x111000_11, .int .i64 (rd y113 t116), .int .i64 (rd y104 t107)] 33 (0, 0)) (by (with_reducible repeat (first | refine blk_drewN ?_ _ | refine blk_drew ?_ | refine blk_alloc ?_ _)); exact BK110.out) NB110_0.out (by simp))
                          have n2_ := Aside0.mk (KeepBut.trans (by repeat (first | (with_reducible first | exact HK.out | apply KeepBut.set_ | apply keep_drewN | apply keep_drew | apply keep_alloc | refine keep_far ?_ GW101.out _ | refine keep_far ?_ GW110.out _) | exact HK.out)) hk (.inl rfl))
                          have n3_ := Aside0.mk (hb)
                          have n4_ := Aside0.mk (hi)
                          clear BK101
                          clear BK110
                          clear HK
                          clear HB
                          clear HI0
                          have BK101 := n0_
                          have BK110 := n1_
                          have HK := n2_
                          have HB := n3_
                          have HI0 := n4_
                          clear n0_ n1_ n2_ n3_ n4_
                          (try clear hb)
                          (try clear hb2)
                          (try clear hk)
                          (try clear hi)
                          refine hK.out _ _ ⟨(blk_cell BK110.out 0).trans rfl, (blk_cell BK110.out 1).trans rfl, (blk_cell BK110.out 2).trans rfl⟩ (fun hHeld => ?_)
                          clear hK K
                          refine norm_ (a' := ?_) ?_ ?_
                          rotate_left
                          · show Act.put _ (some 70) _ = _
                            simp only [Act.put, List.setIfInBounds_toArray, List.set_cons_zero, List.set_cons_succ, i64_w, i32_w]
                            rfl
                          refine one_ (i := 3) (N := some 68) #[true, true, true, true, true, true, false, false, false, false] rfl rfl (one_of HT_.out (by kernel_rfl)) (by decide) (fun K hK => ?_)
                          refine Kd.R_lit_step (Kd.int .i64) _ 3 ?hg (N := 68) ?hd (xs := ([0, (-1), 9, wrap64 ((rd y113 t116) + 1)] : List Int)) (inner := [.int .i64 0, .int .i64 (-1), .int .i64 9, .int .i64 (wrap64 ((rd y113 t116) + 1))]) (ok := fun _ => True) (okp := fun _ => True) ?hr ?hp (fun _ hk => hk) trivial (Below.refl _ _) (Nat.le_refl _) (by simp) ?_; (case hd => rfl); (case hg => rfl); (case hr => first | (go_simp; done) | (go_simp; rfl)); (case hp => exact (Reps.one (show Kd.M (Kd.int .i64) _ _ _ 0 [.int .i64 0] from rfl) (Reps.one (show Kd.M (Kd.int .i64) _ _ _ (-1) [.int .i64 (-1)] from rfl) (Reps.one (show Kd.M (Kd.int .i64) _ _ _ 9 [.int .i64 9] from rfl) (Reps.one (show Kd.M (Kd.int .i64) _ _ _ (wrap64 ((rd y113 t116) + 1)) [.int .i64 (wrap64 ((rd y113 t116) + 1))] from rfl) (Reps.none _ _))))))
                          intro v132 w61 ho62 hb hg_ hnew_
                          clear hg_ hnew_
                          (first | rw [← Ny131.out] at ho62 | (simp only [Int.reduceToNat] at ho62; rw [← Ny131.out] at ho62))
                          have n0_ := Aside0.mk (Kd.R_lower ho62 (keep_size (w := w) (g := g) (row := none) (by repeat (first | (with_reducible first | exact HK.out | apply KeepBut.set_ | apply keep_drewN | apply keep_drew | apply keep_alloc | refine keep_far ?_ GW101.out _ | refine keep_far ?_ GW110.out _) | exact HK.out))))
                          have n1_ := Aside0.mk (blk_below (g := gb101) (o := .cells #[.int .i64 0, .int .i64 0, .int .i64 0] 33 (0, 0)) (by (with_reducible repeat (first | refine blk_drewN ?_ _ | refine blk_drew ?_ | refine blk_alloc ?_ _)); exact BK101.out) hb)
                          have n2_ := Aside0.mk (blk_below (g := gb110) (o := .cells #[.int .i64 x111000_11, .int .i64 (rd y113 t116), .int .i64 (rd y104 t107)] 33 (0, 0)) (by (with_reducible repeat (first | refine blk_drewN ?_ _ | refine blk_drew ?_ | refine blk_alloc ?_ _)); exact BK110.out) hb)
                          have n3_ := Aside0.mk (IsS64.below (by repeat (first | (with_reducible first | exact HI0.out | apply IsS64.alloc | apply IsS64.drewN | apply IsS64.drew | apply IsS64.set_1 | refine IsS64.far ?_ NB0_101.out _ | refine IsS64.far ?_ NB0_110.out _) | exact HI0.out)) hb)
                          have n4_ := Aside0.mk (KeepBut.trans (by repeat (first | (with_reducible first | exact HK.out | apply KeepBut.set_ | apply keep_drewN | apply keep_drew | apply keep_alloc | refine keep_far ?_ GW101.out _ | refine keep_far ?_ GW110.out _) | exact HK.out)) (KeepBut.of_below hb g none) (.inl rfl))
                          have n5_ := Aside0.mk (below_step (by repeat (first | (with_reducible first | exact HB.out | apply below_alloc | apply pw_below_drewN | apply below_drew1 | refine below_set ?_ (IsS64.ge HI0.out) | refine below_set ?_ GE101.out | refine below_set ?_ GE110.out) | exact HB.out)) hb)
                          clear BK101
                          clear BK110
                          clear HI0
                          clear HK
                          clear HB
                          have HO133 := n0_
                          have BK101 := n1_
                          have BK110 := n2_
                          have HI0 := n3_
                          have HK := n4_
                          have HB := n5_
                          clear n0_ n1_ n2_ n3_ n4_ n5_
                          clear hb ho62
                          obtain ⟨Ao63, co63, eo63⟩ := Kd.R_slice HO133.out
                          subst eo63
                          obtain ⟨ado63, fo63, _⟩ := Kd.at_int (Kd.R_reads' HO133.out).2.2 0 (by decide) (by rw [Ny131.out]; simp)
                          cases fo63
                          refine hK.out _ _ ⟨(blk_cell BK110.out 0).trans rfl, (blk_cell BK110.out 1).trans rfl, (blk_cell BK110.out 2).trans rfl⟩ (fun hHeld => ?_)
                          clear hK K
                          refine norm_ (a' := ?_) ?_ ?_
                          rotate_left
                          · show Act.put _ (some 68) _ = _
                            simp only [Act.put, List.setIfInBounds_toArray, List.set_cons_zero, List.set_cons_succ, i64_w, i32_w]
                            rfl
                          exact norm_ (by simp only [putAll, Act.put, List.setIfInBounds_toArray, List.set_cons_zero, List.set_cons_succ]) (hCont (.slice (some ado63) y131.length co63, ado63) _ ⟨hHeld, (by (with_reducible repeat (first | apply Kd.R_alloc | apply Kd.R_drewN | apply Kd.R_drew)); exact HO133.out), ⟨_, rfl⟩, (by (with_reducible repeat (first | refine blk_drewN ?_ _ | refine blk_drew ?_ | refine blk_alloc ?_ _)); exact BK101.out), (by (with_reducible repeat (first | refine blk_drewN ?_ _ | refine blk_drew ?_ | refine blk_alloc ?_ _)); exact BK110.out), (by repeat (first | (with_reducible first | exact HI0.out | apply IsS64.alloc | apply IsS64.drewN | apply IsS64.drew | apply IsS64.set_1 | refine IsS64.far ?_ NB0_101.out _ | refine IsS64.far ?_ NB0_110.out _) | exact HI0.out)), (by repeat (first | (with_reducible first | exact HK.out | apply KeepBut.set_ | apply keep_drewN | apply keep_drew | apply keep_alloc | refine keep_far ?_ GW101.out _ | refine keep_far ?_ GW110.out _) | exact HK.out)), (by repeat (first | (with_reducible first | exact HB.out | apply below_alloc | apply pw_below_drewN | apply below_drew1 | refine below_set ?_ (IsS64.ge HI0.out) | refine below_set ?_ GE101.out | refine below_set ?_ GE110.out) | exact HB.out))⟩)
                      rintro ⟨v132, adz_v132⟩ w64 ⟨hS_, h0_, h1_, h2_, h3_, h4_, h5_, h6_⟩
                      have n0_ : Aside0 (Kd.R (Kd.int .i64) 3 w64 w.heap.size (fun _ => True) v132 y131) := ⟨h0_⟩
                      have n1_ : Aside0 (∃ c_, (v132 : Value) = .slice (some adz_v132) y131.length c_) := ⟨h1_⟩
                      have n2_ : Aside0 (w64.heap[gb101]? = some (.cells #[.int .i64 0, .int .i64 0, .int .i64 0] 33 (0, 0))) := ⟨h2_⟩
                      have n3_ : Aside0 (w64.heap[gb110]? = some (.cells #[.int .i64 x111000_11, .int .i64 (rd y113 t116), .int .i64 (rd y104 t107)] 33 (0, 0))) := ⟨h3_⟩
                      have n4_ : Aside0 (IsS64 w0 w64 g s0_0 t135) := ⟨h4_⟩
                      have n5_ : Aside0 (KeepBut w w64 g none) := ⟨h5_⟩
                      have n6_ : Aside0 (Below w0.heap.size w0 w64) := ⟨h6_⟩
                      clear BK101
                      clear BK110
                      clear HI0
                      clear HK
                      clear HB
                      clear h0_ h1_ h2_ h3_ h4_ h5_ h6_
                      have HO133 := n0_
                      have HA_HO133 := n1_
                      have BK101 := n2_
                      have BK110 := n3_
                      have HI0 := n4_
                      have HK := n5_
                      have HB := n6_
                      clear n0_ n1_ n2_ n3_ n4_ n5_ n6_
                      have hHeld : w64.cell? ⟨gb110, 0, none⟩ = some (.int .i64 x111000_11) ∧ w64.cell? ⟨gb110, 1, none⟩ = some (.int .i64 (rd y113 t116)) ∧ w64.cell? ⟨gb110, 2, none⟩ = some (.int .i64 (rd y104 t107)) := hS_
                      obtain ⟨co65, eo65⟩ := HA_HO133.out
                      clear HA_HO133
                      subst eo65
                      refine norm_ (a' := ?_) ?_ ?_
                      rotate_left
                      · simp only [putAll, Act.put, List.setIfInBounds_toArray, List.set_cons_zero, List.set_cons_succ]
                        rfl
                      refine pure_ (i := 6) (N := some 71) (v := ?_) (a' := ?_) #[true, true, true, true, true, true, true, false, false, false] rfl rfl (any_of HT_.out (by kernel_rfl)) (fun _ _ _ h => h) (Or.inl ⟨by rfl, ?_⟩) ?_ ?_
                      rotate_left
                      · intro w'
                        go_simp
                        with_reducible rfl
                      rotate_left
                      · simp only [Act.put, List.setIfInBounds_toArray, List.set_cons_zero, List.set_cons_succ, i64_w, i32_w]
                        rfl
                      refine one_ (i := 7) (N := some 72) #[true, true, true, true, true, true, true, true, false, false] rfl rfl (one_of HT_.out (by kernel_rfl)) (by decide) (fun K hK => ?_)
                      (have p136 : 0 ≤ (t134 : Int) := of_decide_eq_true (by first | (with_reducible assumption) | assumption); have q136 : t134 < (y131.length : Int) := of_decide_eq_true (by first | (with_reducible assumption) | assumption); obtain ⟨ad136, e136, hx136_0⟩ := Kd.at_int (Kd.R_reads' HO133.out).2.2 t134 p136 q136; obtain rfl : adz_v132 = ad136 := (by injection e136))
                      refine value_ (w1 := ?_) (v := ?_) (by rfl) rfl ?_ ?_
                      rotate_left 2
                      · go_simp
                        constructor
                        · rfl
                        · rfl
                      clear hx136_0
                      refine hK.out _ _ ⟨(blk_cell BK110.out 0).trans rfl, (blk_cell BK110.out 1).trans rfl, (blk_cell BK110.out 2).trans rfl⟩ (fun hHeld => ?_)
                      clear hK K
                      refine norm_ (a' := ?_) ?_ ?_
                      rotate_left
                      · show Act.put _ (some 72) _ = _
                        simp only [Act.put, List.setIfInBounds_toArray, List.set_cons_zero, List.set_cons_succ, i64_w, i32_w]
                        rfl
                      refine pure_ (i := 8) (N := some 73) (v := ?_) (a' := ?_) #[true, true, true, true, true, true, true, true, true, false] rfl rfl (any_of HT_.out (by kernel_rfl)) (fun _ _ _ h => h) (Or.inl ⟨by rfl, ?_⟩) ?_ ?_
                      rotate_left
                      · intro w'
                        go_simp
                        with_reducible rfl
                      rotate_left
                      · simp only [Act.put, List.setIfInBounds_toArray, List.set_cons_zero, List.set_cons_succ, i64_w, i32_w]
                        rfl
                      refine last_ (i := 9) (N := none) #[true, true, true, true, true, true, true, true, true, true] rfl rfl (one_of HT_.out (by kernel_rfl)) (by decide) (fun K hK => ?_)
                      have hs66 : w64.cell? ⟨gb110, 0, none⟩ = some (.int .i64 x111000_11) := (blk_cell BK110.out 0).trans rfl
                      have hfs66 := blk_frozen BK110.out 0
                      have hns66_0 := NB101_110.out
                      have hms66_0 := NB110_101.out
                      refine skip_ (w1 := ?_) (by rfl) rfl ?_ ?_
                      rotate_left
                      · go_simp
                        rfl
                      refine hK.out _ _ ?_
                      clear hK K
                      refine done_ (done_of HT_.out (by kernel_rfl)) ?_
                      have hnb67 := NB110_101.out
                      have hnc67 := NB101_110.out
                      have hnb68 := NB110_0.out
                      have hnc68 := NB0_110.out
                      have hcz69_0 : w64.cell? ⟨gb110, 0, none⟩ = some (.int .i64 x111000_11) := (blk_cell BK110.out 0).trans rfl
                      have hcz69_1 : w64.cell? ⟨gb110, 1, none⟩ = some (.int .i64 (rd y113 t116)) := (blk_cell BK110.out 1).trans rfl
                      have hcz69_2 : w64.cell? ⟨gb110, 2, none⟩ = some (.int .i64 (rd y104 t107)) := (blk_cell BK110.out 2).trans rfl
                      have hfz69_0 := blk_frozen BK110.out 0
                      have hfz69_1 := blk_frozen BK110.out 1
                      have hfz69_2 := blk_frozen BK110.out 2
                      have hnb70 := NB101_0.out
                      have hnc70 := NB0_101.out
                      have hcz71_0 : w64.cell? ⟨gb101, 0, none⟩ = some (.int .i64 0) := (blk_cell BK101.out 0).trans rfl
                      have hcz71_1 : w64.cell? ⟨gb101, 1, none⟩ = some (.int .i64 0) := (blk_cell BK101.out 1).trans rfl
                      have hcz71_2 : w64.cell? ⟨gb101, 2, none⟩ = some (.int .i64 0) := (blk_cell BK101.out 2).trans rfl
                      have hfz71_0 := blk_frozen BK101.out 0
                      have hfz71_1 := blk_frozen BK101.out 1
                      have hfz71_2 := blk_frozen BK101.out 2
                      try go_wp2
                      refine bodyPost_ret (results_cell_row rfl _ _ gb101 33 #[.int .i64 (rd y131 t134), .int .i64 (rd y113 t116), .int .i64 (rd y104 t107)] (0, 0) _ rfl (by (with_reducible repeat (first | refine blk_drewN ?_ _ | refine blk_drew ?_ | refine blk_alloc ?_ _)); refine blk_put (cs := #[.int .i64 (rd y131 t134), .int .i64 (rd y113 t116), .int .i64 0]) ?_ 2 _ rfl; (with_reducible repeat (first | refine blk_drewN ?_ _ | refine blk_drew ?_ | refine blk_alloc ?_ _)); refine blk_put (cs := #[.int .i64 (rd y131 t134), .int .i64 0, .int .i64 0]) ?_ 1 _ rfl; (with_reducible repeat (first | refine blk_drewN ?_ _ | refine blk_drew ?_ | refine blk_alloc ?_ _)); refine blk_put (cs := #[.int .i64 0, .int .i64 0, .int .i64 0]) ?_ 0 _ rfl; (with_reducible repeat (first | refine blk_drewN ?_ _ | refine blk_drew ?_ | refine blk_alloc ?_ _)); refine blk_far ?_ NB101_110.out _; (with_reducible repeat (first | refine blk_drewN ?_ _ | refine blk_drew ?_ | refine blk_alloc ?_ _)); exact BK101.out) Try.underlying33 rfl (by kernel_rfl)) rfl ?_
                      exact ⟨by first | rfl | (simp [errW_none, errW_some] <;> rfl) | (simp only [← hji8]; first | rfl | (simp [errW_none, errW_some] <;> rfl)) | (simp [*, errW_none, errW_some] <;> rfl), by repeat (first | (with_reducible first | exact HI0.out | apply IsS64.alloc | apply IsS64.drewN | apply IsS64.drew | apply IsS64.set_1 | refine IsS64.far ?_ NB0_101.out _ | refine IsS64.far ?_ NB0_110.out _) | exact HI0.out), by repeat (first | (with_reducible first | exact HB.out | apply below_alloc | apply pw_below_drewN | apply below_drew1 | refine below_set ?_ (IsS64.ge HI0.out) | refine below_set ?_ GE101.out | refine below_set ?_ GE110.out) | exact HB.out), by repeat (first | (with_reducible first | exact HK.out | apply KeepBut.set_ | apply keep_drewN | apply keep_drew | apply keep_alloc | refine keep_far ?_ GW101.out _ | refine keep_far ?_ GW110.out _) | exact HK.out)⟩
                    · rw [if_neg c56] at H
                      exact absurd H (by simp)
                  · rw [if_neg c55] at H
                    exact absurd H (by simp)
                · rw [if_neg c53] at H
                  have c53b0 : (t129 == 0) = false := beq_eq_false_iff_ne.mpr c53
                  have c53b1 : (t129 != 0) = true := bne_iff_ne.mpr c53
                  by_cases c72 : t129 = 1
                  · rw [if_pos c72] at H
                    have c72b0 : (t129 == 1) = true := beq_iff_eq.mpr c72
                    have c72b1 : (t129 != 1) = false := bne_eq_false_iff_eq.mpr c72
                    clear c72
                    obtain ⟨y137, hy137⟩ : ∃ y_ : List Int, y_ = (([0, wrap64 ((rd y104 t107) + 1), (-1)] : List Int)) := ⟨_, rfl⟩
                    replace H : ((spec_l20Rd_pick.f kj11 s0_0 t130 3).bind fun bt140 => (if 0 ≤ bt140.1 then (if bt140.1 < (y137.length : Int) then (some (x111000_11, rd y137 bt140.1, (rd y104 t107), bt140.2)) else (none)) else (none))) = some (r1, r2, r3, r4) := by first | (rw [hy137]; with_reducible exact H) | (have H2_ := (Option.bind_some _ _).symm.trans H; rw [hy137]; with_reducible exact H2_) | (have H2_ := (Option.bind_some _ _).symm.trans H; with_reducible exact H2_) | with_reducible exact H | (rw [hy137]; exact H) | exact H
                    have Ny137 := Aside0.mk hy137
                    clear hy137
                    replace H := Option.bind_eq_some_iff.mp H
                    obtain ⟨⟨t140, t141⟩, A730, H⟩ := H
                    replace H : (if 0 ≤ t140 then (if t140 < (y137.length : Int) then (some (x111000_11, rd y137 t140, (rd y104 t107), t141)) else (none)) else (none)) = some (r1, r2, r3, r4) := H
                    have A73 := Aside0.mk A730
                    clear A730
                    by_cases c74 : 0 ≤ t140
                    · rw [if_pos c74] at H
                      have c74b0 : decide (0 ≤ t140) = true := decide_eq_true c74
                      clear c74
                      by_cases c75 : t140 < (y137.length : Int)
                      · rw [if_pos c75] at H
                        have c75b0 : decide (t140 < (y137.length : Int)) = true := decide_eq_true c75
                        clear c75
                        simp only [Option.some.injEq, Prod.mk.injEq] at H
                        obtain ⟨rfl, rfl, rfl, rfl⟩ := H
                        try go_wp2_with (first | ((with_reducible refine gate_callee (f := 53) rfl ?_); refine goesL_ (some 54) rfl rfl Try.func53 (by kernel_rfl) rfl #[.pointer (some ⟨g, 0, none⟩), .int .i64 a1] rfl (by (try simp only [List.map_toArray, List.map_cons, List.map_nil]); first | done | rfl | (simp only [List.length_drop, List.length_take]; rfl)) ?_; (with_reducible refine (spec_l20Rd_odd.calls kj11 g s0_0 x1001_11 a1 true t128 w0 _ ?side1 ?side2 A50.out).mono ?_); (case side1 => repeat (first | (with_reducible first | exact HI0.out | apply IsS64.alloc | apply IsS64.drewN | apply IsS64.drew | apply IsS64.set_1 | refine IsS64.far ?_ NB0_101.out _ | refine IsS64.far ?_ NB0_110.out _) | exact HI0.out)); (case side2 => repeat (first | (with_reducible first | exact HB.out | apply below_alloc | apply pw_below_drewN | apply below_drew1 | refine below_set ?_ (IsS64.ge HI0.out) | refine below_set ?_ GE101.out | refine below_set ?_ GE110.out) | exact HB.out)); rintro e w76 ⟨rfl, hi, hb, hk⟩; refine ⟨_, rfl, ?_⟩; have n0_ := Aside0.mk (KeepBut.blk hk (g' := gb101) (o := .cells #[.int .i64 0, .int .i64 0, .int .i64 0] 33 (0, 0)) (by (with_reducible repeat (first | refine blk_drewN ?_ _ | refine blk_drew ?_ | refine blk_alloc ?_ _)); exact BK101.out) NB101_0.out (by simp)); have n1_ := Aside0.mk (KeepBut.blk hk (g' := gb110) (o := .cells #[.int .i64 x111000_11, .int .i64 (rd y113 t116), .int .i64 (rd y104 t107)] 33 (0, 0)) (by (with_reducible repeat (first | refine blk_drewN ?_ _ | refine blk_drew ?_ | refine blk_alloc ?_ _)); exact BK110.out) NB110_0.out (by simp)); have n2_ := Aside0.mk (KeepBut.trans (by repeat (first | (with_reducible first | exact HK.out | apply KeepBut.set_ | apply keep_drewN | apply keep_drew | apply keep_alloc | refine keep_far ?_ GW101.out _ | refine keep_far ?_ GW110.out _) | exact HK.out)) hk (.inl rfl)); have n3_ := Aside0.mk (hb); have n4_ := Aside0.mk (hi); clear BK101; clear BK110; clear HK; clear HB; clear HI0; have BK101 := n0_; have BK110 := n1_; have HK := n2_; have HB := n3_; have HI0 := n4_; clear n0_ n1_ n2_ n3_ n4_; (try clear hb); (try clear hb2); (try clear hk); (try clear hi)) | ((with_reducible refine gate_callee (f := 38) rfl ?_); refine goesL_ (some 56) rfl rfl Try.func38 (by kernel_rfl) rfl #[.pointer (some ⟨g, 0, none⟩), .int .i64 3] rfl (by (try simp only [List.map_toArray, List.map_cons, List.map_nil]); first | done | rfl | (simp only [List.length_drop, List.length_take]; rfl)) ?_; (with_reducible refine (spec_l20Rd_pick.calls kj11 g s0_0 t128 3 t129 t130 w0 _ ?side1 ?side2 A52.out).mono ?_); (case side1 => repeat (first | (with_reducible first | exact HI0.out | apply IsS64.alloc | apply IsS64.drewN | apply IsS64.drew | apply IsS64.set_1 | refine IsS64.far ?_ NB0_101.out _ | refine IsS64.far ?_ NB0_110.out _) | exact HI0.out)); (case side2 => repeat (first | (with_reducible first | exact HB.out | apply below_alloc | apply pw_below_drewN | apply below_drew1 | refine below_set ?_ (IsS64.ge HI0.out) | refine below_set ?_ GE101.out | refine below_set ?_ GE110.out) | exact HB.out)); rintro e w77 ⟨rfl, hi, hb, hk⟩; refine ⟨_, rfl, ?_⟩; have n0_ := Aside0.mk (KeepBut.blk hk (g' := gb101) (o := .cells #[.int .i64 0, .int .i64 0, .int .i64 0] 33 (0, 0)) (by (with_reducible repeat (first | refine blk_drewN ?_ _ | refine blk_drew ?_ | refine blk_alloc ?_ _)); exact BK101.out) NB101_0.out (by simp)); have n1_ := Aside0.mk (KeepBut.blk hk (g' := gb110) (o := .cells #[.int .i64 x111000_11, .int .i64 (rd y113 t116), .int .i64 (rd y104 t107)] 33 (0, 0)) (by (with_reducible repeat (first | refine blk_drewN ?_ _ | refine blk_drew ?_ | refine blk_alloc ?_ _)); exact BK110.out) NB110_0.out (by simp)); have n2_ := Aside0.mk (KeepBut.trans (by repeat (first | (with_reducible first | exact HK.out | apply KeepBut.set_ | apply keep_drewN | apply keep_drew | apply keep_alloc | refine keep_far ?_ GW101.out _ | refine keep_far ?_ GW110.out _) | exact HK.out)) hk (.inl rfl)); have n3_ := Aside0.mk (hb); have n4_ := Aside0.mk (hi); clear BK101; clear BK110; clear HK; clear HB; clear HI0; have BK101 := n0_; have BK110 := n1_; have HK := n2_; have HB := n3_; have HI0 := n4_; clear n0_ n1_ n2_ n3_ n4_; (try clear hb); (try clear hb2); (try clear hk); (try clear hi)))
                        have pi142 : (0 ≤ (t140 : Int)) = True := eq_true (of_decide_eq_true (by first | (with_reducible assumption) | assumption))
                        have qi142 : (t140 < (y137.length : Int)) = True := eq_true (of_decide_eq_true (by first | (with_reducible assumption) | assumption))
                        have n0_ := Aside0.mk (blk_drew BK101.out)
                        have n1_ := Aside0.mk (blk_drew BK110.out)
                        have n2_ := Aside0.mk (IsS64.drew HI0.out)
                        have n3_ := Aside0.mk (keep_drew HK.out)
                        have n4_ := Aside0.mk (below_drew1 HB.out)
                        clear BK101
                        clear BK110
                        clear HI0
                        clear HK
                        clear HB
                        have BK101 := n0_
                        have BK110 := n1_
                        have HI0 := n2_
                        have HK := n3_
                        have HB := n4_
                        clear n0_ n1_ n2_ n3_ n4_
                        refine start_ (n := 10) (S := fun w' => w'.cell? ⟨gb110, 0, none⟩ = some (.int .i64 x111000_11) ∧ w'.cell? ⟨gb110, 1, none⟩ = some (.int .i64 (rd y113 t116)) ∧ w'.cell? ⟨gb110, 2, none⟩ = some (.int .i64 (rd y104 t107))) (ds := [9]) #[false, false, false, false, false, false, false, false, false, false] (by kernel_rfl) rfl rfl ⟨(blk_cell BK110.out 0).trans rfl, (blk_cell BK110.out 1).trans rfl, (blk_cell BK110.out 2).trans rfl⟩ (fun hHeld => ?_); refine with_tabW spec_l20Task.tab10 spec_l20Task.bits10 (fun HT_ HW_ => ?_)
                        generalize w77.drew = w78 at BK101 BK110 HI0 HK HB hHeld ⊢
                        refine pure_ (i := 0) (N := some 76) (v := ?_) (a' := ?_) #[true, false, false, false, false, false, false, false, false, false] rfl rfl (any_of HT_.out (by kernel_rfl)) (fun _ _ _ h => h) (Or.inl ⟨by rfl, ?_⟩) ?_ ?_
                        rotate_left
                        · intro w'
                          go_simp
                          with_reducible rfl
                        rotate_left
                        · simp only [Act.put, List.setIfInBounds_toArray, List.set_cons_zero, List.set_cons_succ, i64_w, i32_w]
                          rfl
                        refine pure_ (i := 4) (N := some 80) (v := ?_) (a' := ?_) #[true, false, false, false, true, false, false, false, false, false] rfl rfl (any_of HT_.out (by kernel_rfl)) (fun _ _ _ h => h) (Or.inl ⟨by rfl, ?_⟩) ?_ ?_
                        rotate_left
                        · intro w'
                          go_simp
                          with_reducible rfl
                        rotate_left
                        · simp only [Act.put, List.setIfInBounds_toArray, List.set_cons_zero, List.set_cons_succ, i64_w, i32_w]
                          rfl
                        refine take_ (i := 1) (N := some 77) (v := ?_) (a' := ?_) #[true, true, false, false, true, false, false, false, false, false] rfl rfl (take_ofW HT_.out HW_.out (by kernel_rfl)) (fun _ _ _ h => h) (Or.inl ⟨by rfl, ?_⟩) hHeld ?_ ?_
                        rotate_left
                        · rintro w' ⟨s0, s1, s2⟩
                          go_simp
                          with_reducible rfl
                        rotate_left
                        · simp only [Act.put, List.setIfInBounds_toArray, List.set_cons_zero, List.set_cons_succ, i64_w, i32_w]
                          rfl
                        refine pure_ (i := 2) (N := some 78) (v := ?_) (a' := ?_) #[true, true, true, false, true, false, false, false, false, false] rfl rfl (any_of HT_.out (by kernel_rfl)) (fun _ _ _ h => h) (Or.inl ⟨by rfl, ?_⟩) ?_ ?_
                        rotate_left
                        · intro w'
                          go_simp
                          with_reducible rfl
                        rotate_left
                        · simp only [Act.put, List.setIfInBounds_toArray, List.set_cons_zero, List.set_cons_succ, i64_w, i32_w]
                          rfl
                        refine join_ (σ := Value × Addr) 4 #[true, true, true, true, true, true, false, false, false, false] (fun s_ => [(79, s_.1), (81, .int .i64 t140)]) (fun s_ w' => (w'.cell? ⟨gb110, 0, none⟩ = some (.int .i64 x111000_11) ∧ w'.cell? ⟨gb110, 1, none⟩ = some (.int .i64 (rd y113 t116)) ∧ w'.cell? ⟨gb110, 2, none⟩ = some (.int .i64 (rd y104 t107))) ∧ (Kd.R (Kd.int .i64) 3 w' w.heap.size (fun _ => True) s_.1 y137) ∧ (∃ c_, (s_.1 : Value) = .slice (some s_.2) y137.length c_) ∧ (w'.heap[gb101]? = some (.cells #[.int .i64 0, .int .i64 0, .int .i64 0] 33 (0, 0))) ∧ (w'.heap[gb110]? = some (.cells #[.int .i64 x111000_11, .int .i64 (rd y113 t116), .int .i64 (rd y104 t107)] 33 (0, 0))) ∧ (IsS64 w0 w' g s0_0 t141) ∧ (KeepBut w w' g none) ∧ (Below w0.heap.size w0 w')) ?_ ?_
                        rotate_left
                        · intro hCont
                          refine two_ (i := 3) (j := 5) (Ni := some 79) (Nj := some 81) #[true, true, true, true, true, false, false, false, false, false] #[true, true, true, false, true, true, false, false, false, false] rfl rfl rfl rfl (two_of HT_.out (by kernel_rfl)) (by decide) (by decide) (fun K hK => ?_) (fun K hK => ?_)
                          · skip
                            refine Kd.R_lit_step (Kd.int .i64) _ 3 ?hg (N := 79) ?hd (xs := ([0, wrap64 ((rd y104 t107) + 1), (-1)] : List Int)) (inner := [.int .i64 0, .int .i64 (wrap64 ((rd y104 t107) + 1)), .int .i64 (-1)]) (ok := fun _ => True) (okp := fun _ => True) ?hr ?hp (fun _ hk => hk) trivial (Below.refl _ _) (Nat.le_refl _) (by simp) ?_; (case hd => rfl); (case hg => rfl); (case hr => first | (go_simp; done) | (go_simp; rfl)); (case hp => exact (Reps.one (show Kd.M (Kd.int .i64) _ _ _ 0 [.int .i64 0] from rfl) (Reps.one (show Kd.M (Kd.int .i64) _ _ _ (wrap64 ((rd y104 t107) + 1)) [.int .i64 (wrap64 ((rd y104 t107) + 1))] from rfl) (Reps.one (show Kd.M (Kd.int .i64) _ _ _ (-1) [.int .i64 (-1)] from rfl) (Reps.none _ _)))))
                            intro v138 w79 ho80 hb hg_ hnew_
                            clear hg_ hnew_
                            (first | rw [← Ny137.out] at ho80 | (simp only [Int.reduceToNat] at ho80; rw [← Ny137.out] at ho80))
                            have n0_ := Aside0.mk (Kd.R_lower ho80 (keep_size (w := w) (g := g) (row := none) (by repeat (first | (with_reducible first | exact HK.out | apply KeepBut.set_ | apply keep_drewN | apply keep_drew | apply keep_alloc | refine keep_far ?_ GW101.out _ | refine keep_far ?_ GW110.out _) | exact HK.out))))
                            have n1_ := Aside0.mk (blk_below (g := gb101) (o := .cells #[.int .i64 0, .int .i64 0, .int .i64 0] 33 (0, 0)) (by (with_reducible repeat (first | refine blk_drewN ?_ _ | refine blk_drew ?_ | refine blk_alloc ?_ _)); exact BK101.out) hb)
                            have n2_ := Aside0.mk (blk_below (g := gb110) (o := .cells #[.int .i64 x111000_11, .int .i64 (rd y113 t116), .int .i64 (rd y104 t107)] 33 (0, 0)) (by (with_reducible repeat (first | refine blk_drewN ?_ _ | refine blk_drew ?_ | refine blk_alloc ?_ _)); exact BK110.out) hb)
                            have n3_ := Aside0.mk (IsS64.below (by repeat (first | (with_reducible first | exact HI0.out | apply IsS64.alloc | apply IsS64.drewN | apply IsS64.drew | apply IsS64.set_1 | refine IsS64.far ?_ NB0_101.out _ | refine IsS64.far ?_ NB0_110.out _) | exact HI0.out)) hb)
                            have n4_ := Aside0.mk (KeepBut.trans (by repeat (first | (with_reducible first | exact HK.out | apply KeepBut.set_ | apply keep_drewN | apply keep_drew | apply keep_alloc | refine keep_far ?_ GW101.out _ | refine keep_far ?_ GW110.out _) | exact HK.out)) (KeepBut.of_below hb g none) (.inl rfl))
                            have n5_ := Aside0.mk (below_step (by repeat (first | (with_reducible first | exact HB.out | apply below_alloc | apply pw_below_drewN | apply below_drew1 | refine below_set ?_ (IsS64.ge HI0.out) | refine below_set ?_ GE101.out | refine below_set ?_ GE110.out) | exact HB.out)) hb)
                            clear BK101
                            clear BK110
                            clear HI0
                            clear HK
                            clear HB
                            have HO139 := n0_
                            have BK101 := n1_
                            have BK110 := n2_
                            have HI0 := n3_
                            have HK := n4_
                            have HB := n5_
                            clear n0_ n1_ n2_ n3_ n4_ n5_
                            clear hb ho80
                            obtain ⟨Ao81, co81, eo81⟩ := Kd.R_slice HO139.out
                            subst eo81
                            obtain ⟨ado81, fo81, _⟩ := Kd.at_int (Kd.R_reads' HO139.out).2.2 0 (by decide) (by rw [Ny137.out]; simp)
                            cases fo81
                            refine hK.out _ _ ⟨(blk_cell BK110.out 0).trans rfl, (blk_cell BK110.out 1).trans rfl, (blk_cell BK110.out 2).trans rfl⟩ (fun hHeld => ?_)
                            clear hK K
                            refine norm_ (a' := ?_) ?_ ?_
                            rotate_left
                            · show Act.put _ (some 79) _ = _
                              simp only [Act.put, List.setIfInBounds_toArray, List.set_cons_zero, List.set_cons_succ, i64_w, i32_w]
                              rfl
                            refine one_ (i := 5) (N := some 81) #[true, true, true, true, true, true, false, false, false, false] rfl rfl (one_of HT_.out (by kernel_rfl)) (by decide) (fun K hK => ?_)
                            refine goes_ Try.func38 (by kernel_rfl) rfl #[.pointer (some ⟨g, 0, none⟩), .int .i64 3] (by rfl) rfl rfl (by (try simp only [List.map_toArray, List.map_cons, List.map_nil]); first | done | rfl | (simp only [List.length_drop, List.length_take]; rfl)) ?_
                            with_reducible refine (spec_l20Rd_pick.calls kj11 g s0_0 t130 3 t140 t141 w0 _ ?side1 ?side2 A73.out).mono ?_
                            (case side1 => repeat (first | (with_reducible first | exact HI0.out | apply IsS64.alloc | apply IsS64.drewN | apply IsS64.drew | apply IsS64.set_1 | refine IsS64.far ?_ NB0_101.out _ | refine IsS64.far ?_ NB0_110.out _) | exact HI0.out))
                            (case side2 => repeat (first | (with_reducible first | exact HB.out | apply below_alloc | apply pw_below_drewN | apply below_drew1 | refine below_set ?_ (IsS64.ge HI0.out) | refine below_set ?_ GE101.out | refine below_set ?_ GE110.out) | exact HB.out))
                            rintro e w82 ⟨rfl, hi, hb, hk⟩
                            refine ⟨_, rfl, ?_⟩
                            have n0_ := Aside0.mk (KeepBut.blk hk (g' := gb101) (o := .cells #[.int .i64 0, .int .i64 0, .int .i64 0] 33 (0, 0)) (by (with_reducible repeat (first | refine blk_drewN ?_ _ | refine blk_drew ?_ | refine blk_alloc ?_ _)); exact BK101.out) NB101_0.out (by simp))
                            have n1_ := Aside0.mk (KeepBut.blk hk (g' := gb110) (o := .cells #[.int .i64 x111000_11, .int .i64 (rd y113 t116), .int .i64 (rd y104 t107)] 33 (0, 0)) (by (with_reducible repeat (first | refine blk_drewN ?_ _ | refine blk_drew ?_ | refine blk_alloc ?_ _)); exact BK110.out) NB110_0.out (by simp))
                            have n2_ := Aside0.mk (Kd.R_mono (Kd.R_keep (IsS64.apart (show IsS64 w0 _ g s0_0 t130 from by repeat (first | (with_reducible first | exact HI0.out | apply IsS64.alloc | apply IsS64.drewN | apply IsS64.drew | apply IsS64.set_1 | refine IsS64.far ?_ NB0_101.out _ | refine IsS64.far ?_ NB0_110.out _) | exact HI0.out)) (by (with_reducible repeat (first | apply Kd.R_alloc | apply Kd.R_drewN | apply Kd.R_drew)); exact HO139.out) (by decide)) hk (fun _ h => h.2)) (fun _ h => h.1))
                            have n3_ := Aside0.mk (KeepBut.trans (by repeat (first | (with_reducible first | exact HK.out | apply KeepBut.set_ | apply keep_drewN | apply keep_drew | apply keep_alloc | refine keep_far ?_ GW101.out _ | refine keep_far ?_ GW110.out _) | exact HK.out)) hk (.inl rfl))
                            have n4_ := Aside0.mk (hb)
                            have n5_ := Aside0.mk (hi)
                            clear BK101
                            clear BK110
                            clear HO139
                            clear HK
                            clear HB
                            clear HI0
                            have BK101 := n0_
                            have BK110 := n1_
                            have HO139 := n2_
                            have HK := n3_
                            have HB := n4_
                            have HI0 := n5_
                            clear n0_ n1_ n2_ n3_ n4_ n5_
                            (try clear hb)
                            (try clear hb2)
                            (try clear hk)
                            (try clear hi)
                            refine hK.out _ _ ⟨(blk_cell BK110.out 0).trans rfl, (blk_cell BK110.out 1).trans rfl, (blk_cell BK110.out 2).trans rfl⟩ (fun hHeld => ?_)
                            clear hK K
                            refine norm_ (a' := ?_) ?_ ?_
                            rotate_left
                            · show Act.put _ (some 81) _ = _
                              simp only [Act.put, List.setIfInBounds_toArray, List.set_cons_zero, List.set_cons_succ, i64_w, i32_w]
                              rfl
                            exact norm_ (by simp only [putAll, Act.put, List.setIfInBounds_toArray, List.set_cons_zero, List.set_cons_succ]) (hCont (.slice (some ado81) y137.length co81, ado81) _ ⟨hHeld, (by (with_reducible repeat (first | apply Kd.R_alloc | apply Kd.R_drewN | apply Kd.R_drew)); exact HO139.out), ⟨_, rfl⟩, (by (with_reducible repeat (first | refine blk_drewN ?_ _ | refine blk_drew ?_ | refine blk_alloc ?_ _)); exact BK101.out), (by (with_reducible repeat (first | refine blk_drewN ?_ _ | refine blk_drew ?_ | refine blk_alloc ?_ _)); exact BK110.out), (by repeat (first | (with_reducible first | exact HI0.out | apply IsS64.alloc | apply IsS64.drewN | apply IsS64.drew | apply IsS64.set_1 | refine IsS64.far ?_ NB0_101.out _ | refine IsS64.far ?_ NB0_110.out _) | exact HI0.out)), (by repeat (first | (with_reducible first | exact HK.out | apply KeepBut.set_ | apply keep_drewN | apply keep_drew | apply keep_alloc | refine keep_far ?_ GW101.out _ | refine keep_far ?_ GW110.out _) | exact HK.out)), (by repeat (first | (with_reducible first | exact HB.out | apply below_alloc | apply pw_below_drewN | apply below_drew1 | refine below_set ?_ (IsS64.ge HI0.out) | refine below_set ?_ GE101.out | refine below_set ?_ GE110.out) | exact HB.out))⟩)
                          · skip
                            refine goes_ Try.func38 (by kernel_rfl) rfl #[.pointer (some ⟨g, 0, none⟩), .int .i64 3] (by rfl) rfl rfl (by (try simp only [List.map_toArray, List.map_cons, List.map_nil]); first | done | rfl | (simp only [List.length_drop, List.length_take]; rfl)) ?_
                            with_reducible refine (spec_l20Rd_pick.calls kj11 g s0_0 t130 3 t140 t141 w0 _ ?side1 ?side2 A73.out).mono ?_
                            (case side1 => repeat (first | (with_reducible first | exact HI0.out | apply IsS64.alloc | apply IsS64.drewN | apply IsS64.drew | apply IsS64.set_1 | refine IsS64.far ?_ NB0_101.out _ | refine IsS64.far ?_ NB0_110.out _) | exact HI0.out))
                            (case side2 => repeat (first | (with_reducible first | exact HB.out | apply below_alloc | apply pw_below_drewN | apply below_drew1 | refine below_set ?_ (IsS64.ge HI0.out) | refine below_set ?_ GE101.out | refine below_set ?_ GE110.out) | exact HB.out))
                            rintro e w79 ⟨rfl, hi, hb, hk⟩
                            refine ⟨_, rfl, ?_⟩
                            have n0_ := Aside0.mk (KeepBut.blk hk (g' := gb101) (o := .cells #[.int .i64 0, .int .i64 0, .int .i64 0] 33 (0, 0)) (by (with_reducible repeat (first | refine blk_drewN ?_ _ | refine blk_drew ?_ | refine blk_alloc ?_ _)); exact BK101.out) NB101_0.out (by simp))
                            have n1_ := Aside0.mk (KeepBut.blk hk (g' := gb110) (o := .cells #[.int .i64 x111000_11, .int .i64 (rd y113 t116), .int .i64 (rd y104 t107)] 33 (0, 0)) (by (with_reducible repeat (first | refine blk_drewN ?_ _ | refine blk_drew ?_ | refine blk_alloc ?_ _)); exact BK110.out) NB110_0.out (by simp))
                            have n2_ := Aside0.mk (KeepBut.trans (by repeat (first | (with_reducible first | exact HK.out | apply KeepBut.set_ | apply keep_drewN | apply keep_drew | apply keep_alloc | refine keep_far ?_ GW101.out _ | refine keep_far ?_ GW110.out _) | exact HK.out)) hk (.inl rfl))
                            have n3_ := Aside0.mk (hb)
                            have n4_ := Aside0.mk (hi)
                            clear BK101
                            clear BK110
                            clear HK
                            clear HB
                            clear HI0
                            have BK101 := n0_
                            have BK110 := n1_
                            have HK := n2_
                            have HB := n3_
                            have HI0 := n4_
                            clear n0_ n1_ n2_ n3_ n4_
                            (try clear hb)
                            (try clear hb2)
                            (try clear hk)
                            (try clear hi)
                            refine hK.out _ _ ⟨(blk_cell BK110.out 0).trans rfl, (blk_cell BK110.out 1).trans rfl, (blk_cell BK110.out 2).trans rfl⟩ (fun hHeld => ?_)
                            clear hK K
                            refine norm_ (a' := ?_) ?_ ?_
                            rotate_left
                            · show Act.put _ (some 81) _ = _
                              simp only [Act.put, List.setIfInBounds_toArray, List.set_cons_zero, List.set_cons_succ, i64_w, i32_w]
                              rfl
                            refine one_ (i := 3) (N := some 79) #[true, true, true, true, true, true, false, false, false, false] rfl rfl (one_of HT_.out (by kernel_rfl)) (by decide) (fun K hK => ?_)
                            refine Kd.R_lit_step (Kd.int .i64) _ 3 ?hg (N := 79) ?hd (xs := ([0, wrap64 ((rd y104 t107) + 1), (-1)] : List Int)) (inner := [.int .i64 0, .int .i64 (wrap64 ((rd y104 t107) + 1)), .int .i64 (-1)]) (ok := fun _ => True) (okp := fun _ => True) ?hr ?hp (fun _ hk => hk) trivial (Below.refl _ _) (Nat.le_refl _) (by simp) ?_; (case hd => rfl); (case hg => rfl); (case hr => first | (go_simp; done) | (go_simp; rfl)); (case hp => exact (Reps.one (show Kd.M (Kd.int .i64) _ _ _ 0 [.int .i64 0] from rfl) (Reps.one (show Kd.M (Kd.int .i64) _ _ _ (wrap64 ((rd y104 t107) + 1)) [.int .i64 (wrap64 ((rd y104 t107) + 1))] from rfl) (Reps.one (show Kd.M (Kd.int .i64) _ _ _ (-1) [.int .i64 (-1)] from rfl) (Reps.none _ _)))))
                            intro v138 w80 ho81 hb hg_ hnew_
                            clear hg_ hnew_
                            (first | rw [← Ny137.out] at ho81 | (simp only [Int.reduceToNat] at ho81; rw [← Ny137.out] at ho81))
                            have n0_ := Aside0.mk (Kd.R_lower ho81 (keep_size (w := w) (g := g) (row := none) (by repeat (first | (with_reducible first | exact HK.out | apply KeepBut.set_ | apply keep_drewN | apply keep_drew | apply keep_alloc | refine keep_far ?_ GW101.out _ | refine keep_far ?_ GW110.out _) | exact HK.out))))
                            have n1_ := Aside0.mk (blk_below (g := gb101) (o := .cells #[.int .i64 0, .int .i64 0, .int .i64 0] 33 (0, 0)) (by (with_reducible repeat (first | refine blk_drewN ?_ _ | refine blk_drew ?_ | refine blk_alloc ?_ _)); exact BK101.out) hb)
                            have n2_ := Aside0.mk (blk_below (g := gb110) (o := .cells #[.int .i64 x111000_11, .int .i64 (rd y113 t116), .int .i64 (rd y104 t107)] 33 (0, 0)) (by (with_reducible repeat (first | refine blk_drewN ?_ _ | refine blk_drew ?_ | refine blk_alloc ?_ _)); exact BK110.out) hb)
                            have n3_ := Aside0.mk (IsS64.below (by repeat (first | (with_reducible first | exact HI0.out | apply IsS64.alloc | apply IsS64.drewN | apply IsS64.drew | apply IsS64.set_1 | refine IsS64.far ?_ NB0_101.out _ | refine IsS64.far ?_ NB0_110.out _) | exact HI0.out)) hb)
                            have n4_ := Aside0.mk (KeepBut.trans (by repeat (first | (with_reducible first | exact HK.out | apply KeepBut.set_ | apply keep_drewN | apply keep_drew | apply keep_alloc | refine keep_far ?_ GW101.out _ | refine keep_far ?_ GW110.out _) | exact HK.out)) (KeepBut.of_below hb g none) (.inl rfl))
                            have n5_ := Aside0.mk (below_step (by repeat (first | (with_reducible first | exact HB.out | apply below_alloc | apply pw_below_drewN | apply below_drew1 | refine below_set ?_ (IsS64.ge HI0.out) | refine below_set ?_ GE101.out | refine below_set ?_ GE110.out) | exact HB.out)) hb)
                            clear BK101
                            clear BK110
                            clear HI0
                            clear HK
                            clear HB
                            have HO139 := n0_
                            have BK101 := n1_
                            have BK110 := n2_
                            have HI0 := n3_
                            have HK := n4_
                            have HB := n5_
                            clear n0_ n1_ n2_ n3_ n4_ n5_
                            clear hb ho81
                            obtain ⟨Ao82, co82, eo82⟩ := Kd.R_slice HO139.out
                            subst eo82
                            obtain ⟨ado82, fo82, _⟩ := Kd.at_int (Kd.R_reads' HO139.out).2.2 0 (by decide) (by rw [Ny137.out]; simp)
                            cases fo82
                            refine hK.out _ _ ⟨(blk_cell BK110.out 0).trans rfl, (blk_cell BK110.out 1).trans rfl, (blk_cell BK110.out 2).trans rfl⟩ (fun hHeld => ?_)
                            clear hK K
                            refine norm_ (a' := ?_) ?_ ?_
                            rotate_left
                            · show Act.put _ (some 79) _ = _
                              simp only [Act.put, List.setIfInBounds_toArray, List.set_cons_zero, List.set_cons_succ, i64_w, i32_w]
                              rfl
                            exact norm_ (by simp only [putAll, Act.put, List.setIfInBounds_toArray, List.set_cons_zero, List.set_cons_succ]) (hCont (.slice (some ado82) y137.length co82, ado82) _ ⟨hHeld, (by (with_reducible repeat (first | apply Kd.R_alloc | apply Kd.R_drewN | apply Kd.R_drew)); exact HO139.out), ⟨_, rfl⟩, (by (with_reducible repeat (first | refine blk_drewN ?_ _ | refine blk_drew ?_ | refine blk_alloc ?_ _)); exact BK101.out), (by (with_reducible repeat (first | refine blk_drewN ?_ _ | refine blk_drew ?_ | refine blk_alloc ?_ _)); exact BK110.out), (by repeat (first | (with_reducible first | exact HI0.out | apply IsS64.alloc | apply IsS64.drewN | apply IsS64.drew | apply IsS64.set_1 | refine IsS64.far ?_ NB0_101.out _ | refine IsS64.far ?_ NB0_110.out _) | exact HI0.out)), (by repeat (first | (with_reducible first | exact HK.out | apply KeepBut.set_ | apply keep_drewN | apply keep_drew | apply keep_alloc | refine keep_far ?_ GW101.out _ | refine keep_far ?_ GW110.out _) | exact HK.out)), (by repeat (first | (with_reducible first | exact HB.out | apply below_alloc | apply pw_below_drewN | apply below_drew1 | refine below_set ?_ (IsS64.ge HI0.out) | refine below_set ?_ GE101.out | refine below_set ?_ GE110.out) | exact HB.out))⟩)
                        rintro ⟨v138, adz_v138⟩ w83 ⟨hS_, h0_, h1_, h2_, h3_, h4_, h5_, h6_⟩
                        have n0_ : Aside0 (Kd.R (Kd.int .i64) 3 w83 w.heap.size (fun _ => True) v138 y137) := ⟨h0_⟩
                        have n1_ : Aside0 (∃ c_, (v138 : Value) = .slice (some adz_v138) y137.length c_) := ⟨h1_⟩
                        have n2_ : Aside0 (w83.heap[gb101]? = some (.cells #[.int .i64 0, .int .i64 0, .int .i64 0] 33 (0, 0))) := ⟨h2_⟩
                        have n3_ : Aside0 (w83.heap[gb110]? = some (.cells #[.int .i64 x111000_11, .int .i64 (rd y113 t116), .int .i64 (rd y104 t107)] 33 (0, 0))) := ⟨h3_⟩
                        have n4_ : Aside0 (IsS64 w0 w83 g s0_0 t141) := ⟨h4_⟩
                        have n5_ : Aside0 (KeepBut w w83 g none) := ⟨h5_⟩
                        have n6_ : Aside0 (Below w0.heap.size w0 w83) := ⟨h6_⟩
                        clear BK101
                        clear BK110
                        clear HI0
                        clear HK
                        clear HB
                        clear h0_ h1_ h2_ h3_ h4_ h5_ h6_
                        have HO139 := n0_
                        have HA_HO139 := n1_
                        have BK101 := n2_
                        have BK110 := n3_
                        have HI0 := n4_
                        have HK := n5_
                        have HB := n6_
                        clear n0_ n1_ n2_ n3_ n4_ n5_ n6_
                        have hHeld : w83.cell? ⟨gb110, 0, none⟩ = some (.int .i64 x111000_11) ∧ w83.cell? ⟨gb110, 1, none⟩ = some (.int .i64 (rd y113 t116)) ∧ w83.cell? ⟨gb110, 2, none⟩ = some (.int .i64 (rd y104 t107)) := hS_
                        obtain ⟨co84, eo84⟩ := HA_HO139.out
                        clear HA_HO139
                        subst eo84
                        refine norm_ (a' := ?_) ?_ ?_
                        rotate_left
                        · simp only [putAll, Act.put, List.setIfInBounds_toArray, List.set_cons_zero, List.set_cons_succ]
                          rfl
                        refine pure_ (i := 6) (N := some 82) (v := ?_) (a' := ?_) #[true, true, true, true, true, true, true, false, false, false] rfl rfl (any_of HT_.out (by kernel_rfl)) (fun _ _ _ h => h) (Or.inl ⟨by rfl, ?_⟩) ?_ ?_
                        rotate_left
                        · intro w'
                          go_simp
                          with_reducible rfl
                        rotate_left
                        · simp only [Act.put, List.setIfInBounds_toArray, List.set_cons_zero, List.set_cons_succ, i64_w, i32_w]
                          rfl
                        refine one_ (i := 7) (N := some 83) #[true, true, true, true, true, true, true, true, false, false] rfl rfl (one_of HT_.out (by kernel_rfl)) (by decide) (fun K hK => ?_)
                        (have p142 : 0 ≤ (t140 : Int) := of_decide_eq_true (by first | (with_reducible assumption) | assumption); have q142 : t140 < (y137.length : Int) := of_decide_eq_true (by first | (with_reducible assumption) | assumption); obtain ⟨ad142, e142, hx142_0⟩ := Kd.at_int (Kd.R_reads' HO139.out).2.2 t140 p142 q142; obtain rfl : adz_v138 = ad142 := (by injection e142))
                        refine value_ (w1 := ?_) (v := ?_) (by rfl) rfl ?_ ?_
                        rotate_left 2
                        · go_simp
                          constructor
                          · rfl
                          · rfl
                        clear hx142_0
                        refine hK.out _ _ ⟨(blk_cell BK110.out 0).trans rfl, (blk_cell BK110.out 1).trans rfl, (blk_cell BK110.out 2).trans rfl⟩ (fun hHeld => ?_)
                        clear hK K
                        refine norm_ (a' := ?_) ?_ ?_
                        rotate_left
                        · show Act.put _ (some 83) _ = _
                          simp only [Act.put, List.setIfInBounds_toArray, List.set_cons_zero, List.set_cons_succ, i64_w, i32_w]
                          rfl
                        refine pure_ (i := 8) (N := some 84) (v := ?_) (a' := ?_) #[true, true, true, true, true, true, true, true, true, false] rfl rfl (any_of HT_.out (by kernel_rfl)) (fun _ _ _ h => h) (Or.inl ⟨by rfl, ?_⟩) ?_ ?_
                        rotate_left
                        · intro w'
                          go_simp
                          with_reducible rfl
                        rotate_left
                        · simp only [Act.put, List.setIfInBounds_toArray, List.set_cons_zero, List.set_cons_succ, i64_w, i32_w]
                          rfl
                        refine last_ (i := 9) (N := none) #[true, true, true, true, true, true, true, true, true, true] rfl rfl (one_of HT_.out (by kernel_rfl)) (by decide) (fun K hK => ?_)
                        have hs85 : w83.cell? ⟨gb110, 1, none⟩ = some (.int .i64 (rd y113 t116)) := (blk_cell BK110.out 1).trans rfl
                        have hfs85 := blk_frozen BK110.out 1
                        have hns85_0 := NB101_110.out
                        have hms85_0 := NB110_101.out
                        refine skip_ (w1 := ?_) (by rfl) rfl ?_ ?_
                        rotate_left
                        · go_simp
                          rfl
                        refine hK.out _ _ ?_
                        clear hK K
                        refine done_ (done_of HT_.out (by kernel_rfl)) ?_
                        have hnb86 := NB110_101.out
                        have hnc86 := NB101_110.out
                        have hnb87 := NB110_0.out
                        have hnc87 := NB0_110.out
                        have hcz88_0 : w83.cell? ⟨gb110, 0, none⟩ = some (.int .i64 x111000_11) := (blk_cell BK110.out 0).trans rfl
                        have hcz88_1 : w83.cell? ⟨gb110, 1, none⟩ = some (.int .i64 (rd y113 t116)) := (blk_cell BK110.out 1).trans rfl
                        have hcz88_2 : w83.cell? ⟨gb110, 2, none⟩ = some (.int .i64 (rd y104 t107)) := (blk_cell BK110.out 2).trans rfl
                        have hfz88_0 := blk_frozen BK110.out 0
                        have hfz88_1 := blk_frozen BK110.out 1
                        have hfz88_2 := blk_frozen BK110.out 2
                        have hnb89 := NB101_0.out
                        have hnc89 := NB0_101.out
                        have hcz90_0 : w83.cell? ⟨gb101, 0, none⟩ = some (.int .i64 0) := (blk_cell BK101.out 0).trans rfl
                        have hcz90_1 : w83.cell? ⟨gb101, 1, none⟩ = some (.int .i64 0) := (blk_cell BK101.out 1).trans rfl
                        have hcz90_2 : w83.cell? ⟨gb101, 2, none⟩ = some (.int .i64 0) := (blk_cell BK101.out 2).trans rfl
                        have hfz90_0 := blk_frozen BK101.out 0
                        have hfz90_1 := blk_frozen BK101.out 1
                        have hfz90_2 := blk_frozen BK101.out 2
                        try go_wp2
                        refine bodyPost_ret (results_cell_row rfl _ _ gb101 33 #[.int .i64 x111000_11, .int .i64 (rd y137 t140), .int .i64 (rd y104 t107)] (0, 0) _ rfl (by (with_reducible repeat (first | refine blk_drewN ?_ _ | refine blk_drew ?_ | refine blk_alloc ?_ _)); refine blk_put (cs := #[.int .i64 x111000_11, .int .i64 (rd y137 t140), .int .i64 0]) ?_ 2 _ rfl; (with_reducible repeat (first | refine blk_drewN ?_ _ | refine blk_drew ?_ | refine blk_alloc ?_ _)); refine blk_put (cs := #[.int .i64 x111000_11, .int .i64 0, .int .i64 0]) ?_ 1 _ rfl; (with_reducible repeat (first | refine blk_drewN ?_ _ | refine blk_drew ?_ | refine blk_alloc ?_ _)); refine blk_put (cs := #[.int .i64 0, .int .i64 0, .int .i64 0]) ?_ 0 _ rfl; (with_reducible repeat (first | refine blk_drewN ?_ _ | refine blk_drew ?_ | refine blk_alloc ?_ _)); refine blk_far ?_ NB101_110.out _; (with_reducible repeat (first | refine blk_drewN ?_ _ | refine blk_drew ?_ | refine blk_alloc ?_ _)); exact BK101.out) Try.underlying33 rfl (by kernel_rfl)) rfl ?_
                        exact ⟨by first | rfl | (simp [errW_none, errW_some] <;> rfl) | (simp only [← hji8]; first | rfl | (simp [errW_none, errW_some] <;> rfl)) | (simp [*, errW_none, errW_some] <;> rfl), by repeat (first | (with_reducible first | exact HI0.out | apply IsS64.alloc | apply IsS64.drewN | apply IsS64.drew | apply IsS64.set_1 | refine IsS64.far ?_ NB0_101.out _ | refine IsS64.far ?_ NB0_110.out _) | exact HI0.out), by repeat (first | (with_reducible first | exact HB.out | apply below_alloc | apply pw_below_drewN | apply below_drew1 | refine below_set ?_ (IsS64.ge HI0.out) | refine below_set ?_ GE101.out | refine below_set ?_ GE110.out) | exact HB.out), by repeat (first | (with_reducible first | exact HK.out | apply KeepBut.set_ | apply keep_drewN | apply keep_drew | apply keep_alloc | refine keep_far ?_ GW101.out _ | refine keep_far ?_ GW110.out _) | exact HK.out)⟩
                      · rw [if_neg c75] at H
                        exact absurd H (by simp)
                    · rw [if_neg c74] at H
                      exact absurd H (by simp)
                  · rw [if_neg c72] at H
                    have c72b0 : (t129 == 1) = false := beq_eq_false_iff_ne.mpr c72
                    have c72b1 : (t129 != 1) = true := bne_iff_ne.mpr c72
                    obtain ⟨y143, hy143⟩ : ∃ y_ : List Int, y_ = (([0, 13, (-1)] : List Int)) := ⟨_, rfl⟩
                    replace H : ((spec_l20Rd_pick.f kj11 s0_0 t130 3).bind fun bt146 => (if 0 ≤ bt146.1 then (if bt146.1 < (y143.length : Int) then (some (x111000_11, (rd y113 t116), rd y143 bt146.1, bt146.2)) else (none)) else (none))) = some (r1, r2, r3, r4) := by first | (rw [hy143]; with_reducible exact H) | (have H2_ := (Option.bind_some _ _).symm.trans H; rw [hy143]; with_reducible exact H2_) | (have H2_ := (Option.bind_some _ _).symm.trans H; with_reducible exact H2_) | with_reducible exact H | (rw [hy143]; exact H) | exact H
                    have Ny143 := Aside0.mk hy143
                    clear hy143
                    replace H := Option.bind_eq_some_iff.mp H
                    obtain ⟨⟨t146, t147⟩, A910, H⟩ := H
                    replace H : (if 0 ≤ t146 then (if t146 < (y143.length : Int) then (some (x111000_11, (rd y113 t116), rd y143 t146, t147)) else (none)) else (none)) = some (r1, r2, r3, r4) := H
                    have A91 := Aside0.mk A910
                    clear A910
                    by_cases c92 : 0 ≤ t146
                    · rw [if_pos c92] at H
                      have c92b0 : decide (0 ≤ t146) = true := decide_eq_true c92
                      clear c92
                      by_cases c93 : t146 < (y143.length : Int)
                      · rw [if_pos c93] at H
                        have c93b0 : decide (t146 < (y143.length : Int)) = true := decide_eq_true c93
                        clear c93
                        simp only [Option.some.injEq, Prod.mk.injEq] at H
                        obtain ⟨rfl, rfl, rfl, rfl⟩ := H
                        go_wp2_with (first | ((with_reducible refine gate_callee (f := 53) rfl ?_); refine goesL_ (some 54) rfl rfl Try.func53 (by kernel_rfl) rfl #[.pointer (some ⟨g, 0, none⟩), .int .i64 a1] rfl (by (try simp only [List.map_toArray, List.map_cons, List.map_nil]); first | done | rfl | (simp only [List.length_drop, List.length_take]; rfl)) ?_; (with_reducible refine (spec_l20Rd_odd.calls kj11 g s0_0 x1001_11 a1 true t128 w0 _ ?side1 ?side2 A50.out).mono ?_); (case side1 => repeat (first | (with_reducible first | exact HI0.out | apply IsS64.alloc | apply IsS64.drewN | apply IsS64.drew | apply IsS64.set_1 | refine IsS64.far ?_ NB0_101.out _ | refine IsS64.far ?_ NB0_110.out _) | exact HI0.out)); (case side2 => repeat (first | (with_reducible first | exact HB.out | apply below_alloc | apply pw_below_drewN | apply below_drew1 | refine below_set ?_ (IsS64.ge HI0.out) | refine below_set ?_ GE101.out | refine below_set ?_ GE110.out) | exact HB.out)); rintro e w94 ⟨rfl, hi, hb, hk⟩; refine ⟨_, rfl, ?_⟩; have n0_ := Aside0.mk (KeepBut.blk hk (g' := gb101) (o := .cells #[.int .i64 0, .int .i64 0, .int .i64 0] 33 (0, 0)) (by (with_reducible repeat (first | refine blk_drewN ?_ _ | refine blk_drew ?_ | refine blk_alloc ?_ _)); exact BK101.out) NB101_0.out (by simp)); have n1_ := Aside0.mk (KeepBut.blk hk (g' := gb110) (o := .cells #[.int .i64 x111000_11, .int .i64 (rd y113 t116), .int .i64 (rd y104 t107)] 33 (0, 0)) (by (with_reducible repeat (first | refine blk_drewN ?_ _ | refine blk_drew ?_ | refine blk_alloc ?_ _)); exact BK110.out) NB110_0.out (by simp)); have n2_ := Aside0.mk (KeepBut.trans (by repeat (first | (with_reducible first | exact HK.out | apply KeepBut.set_ | apply keep_drewN | apply keep_drew | apply keep_alloc | refine keep_far ?_ GW101.out _ | refine keep_far ?_ GW110.out _) | exact HK.out)) hk (.inl rfl)); have n3_ := Aside0.mk (hb); have n4_ := Aside0.mk (hi); clear BK101; clear BK110; clear HK; clear HB; clear HI0; have BK101 := n0_; have BK110 := n1_; have HK := n2_; have HB := n3_; have HI0 := n4_; clear n0_ n1_ n2_ n3_ n4_; (try clear hb); (try clear hb2); (try clear hk); (try clear hi)) | ((with_reducible refine gate_callee (f := 38) rfl ?_); refine goesL_ (some 56) rfl rfl Try.func38 (by kernel_rfl) rfl #[.pointer (some ⟨g, 0, none⟩), .int .i64 3] rfl (by (try simp only [List.map_toArray, List.map_cons, List.map_nil]); first | done | rfl | (simp only [List.length_drop, List.length_take]; rfl)) ?_; (with_reducible refine (spec_l20Rd_pick.calls kj11 g s0_0 t128 3 t129 t130 w0 _ ?side1 ?side2 A52.out).mono ?_); (case side1 => repeat (first | (with_reducible first | exact HI0.out | apply IsS64.alloc | apply IsS64.drewN | apply IsS64.drew | apply IsS64.set_1 | refine IsS64.far ?_ NB0_101.out _ | refine IsS64.far ?_ NB0_110.out _) | exact HI0.out)); (case side2 => repeat (first | (with_reducible first | exact HB.out | apply below_alloc | apply pw_below_drewN | apply below_drew1 | refine below_set ?_ (IsS64.ge HI0.out) | refine below_set ?_ GE101.out | refine below_set ?_ GE110.out) | exact HB.out)); rintro e w95 ⟨rfl, hi, hb, hk⟩; refine ⟨_, rfl, ?_⟩; have n0_ := Aside0.mk (KeepBut.blk hk (g' := gb101) (o := .cells #[.int .i64 0, .int .i64 0, .int .i64 0] 33 (0, 0)) (by (with_reducible repeat (first | refine blk_drewN ?_ _ | refine blk_drew ?_ | refine blk_alloc ?_ _)); exact BK101.out) NB101_0.out (by simp)); have n1_ := Aside0.mk (KeepBut.blk hk (g' := gb110) (o := .cells #[.int .i64 x111000_11, .int .i64 (rd y113 t116), .int .i64 (rd y104 t107)] 33 (0, 0)) (by (with_reducible repeat (first | refine blk_drewN ?_ _ | refine blk_drew ?_ | refine blk_alloc ?_ _)); exact BK110.out) NB110_0.out (by simp)); have n2_ := Aside0.mk (KeepBut.trans (by repeat (first | (with_reducible first | exact HK.out | apply KeepBut.set_ | apply keep_drewN | apply keep_drew | apply keep_alloc | refine keep_far ?_ GW101.out _ | refine keep_far ?_ GW110.out _) | exact HK.out)) hk (.inl rfl)); have n3_ := Aside0.mk (hb); have n4_ := Aside0.mk (hi); clear BK101; clear BK110; clear HK; clear HB; clear HI0; have BK101 := n0_; have BK110 := n1_; have HK := n2_; have HB := n3_; have HI0 := n4_; clear n0_ n1_ n2_ n3_ n4_; (try clear hb); (try clear hb2); (try clear hk); (try clear hi)) | ((with_reducible refine gate_dst (N := 57) rfl ?_); refine Kd.R_lit (Kd.int .i64) _ 3 ?hg (N := 57) ?hd (xs := ([0, 13, (-1)] : List Int)) (inner := [.int .i64 0, .int .i64 13, .int .i64 (-1)]) (ok := fun _ => True) (okp := fun _ => True) ?hr ?hp (fun _ hk => hk) trivial (Below.refl _ _) (Nat.le_refl _) (by simp) ?_; (case hd => rfl); (case hg => rfl); (case hr => first | (go_simp; done) | (go_simp; rfl)); (case hp => exact (Reps.one (show Kd.M (Kd.int .i64) _ _ _ 0 [.int .i64 0] from rfl) (Reps.one (show Kd.M (Kd.int .i64) _ _ _ 13 [.int .i64 13] from rfl) (Reps.one (show Kd.M (Kd.int .i64) _ _ _ (-1) [.int .i64 (-1)] from rfl) (Reps.none _ _))))); intro v144 w96 ho97 hb hg_ hnew_; clear hg_ hnew_; (first | rw [← Ny143.out] at ho97 | (simp only [Int.reduceToNat] at ho97; rw [← Ny143.out] at ho97)); have n0_ := Aside0.mk (Kd.R_lower ho97 (keep_size (w := w) (g := g) (row := none) (by repeat (first | (with_reducible first | exact HK.out | apply KeepBut.set_ | apply keep_drewN | apply keep_drew | apply keep_alloc | refine keep_far ?_ GW101.out _ | refine keep_far ?_ GW110.out _) | exact HK.out)))); have n1_ := Aside0.mk (blk_below (g := gb101) (o := .cells #[.int .i64 0, .int .i64 0, .int .i64 0] 33 (0, 0)) (by (with_reducible repeat (first | refine blk_drewN ?_ _ | refine blk_drew ?_ | refine blk_alloc ?_ _)); exact BK101.out) hb); have n2_ := Aside0.mk (blk_below (g := gb110) (o := .cells #[.int .i64 x111000_11, .int .i64 (rd y113 t116), .int .i64 (rd y104 t107)] 33 (0, 0)) (by (with_reducible repeat (first | refine blk_drewN ?_ _ | refine blk_drew ?_ | refine blk_alloc ?_ _)); exact BK110.out) hb); have n3_ := Aside0.mk (IsS64.below (by repeat (first | (with_reducible first | exact HI0.out | apply IsS64.alloc | apply IsS64.drewN | apply IsS64.drew | apply IsS64.set_1 | refine IsS64.far ?_ NB0_101.out _ | refine IsS64.far ?_ NB0_110.out _) | exact HI0.out)) hb); have n4_ := Aside0.mk (KeepBut.trans (by repeat (first | (with_reducible first | exact HK.out | apply KeepBut.set_ | apply keep_drewN | apply keep_drew | apply keep_alloc | refine keep_far ?_ GW101.out _ | refine keep_far ?_ GW110.out _) | exact HK.out)) (KeepBut.of_below hb g none) (.inl rfl)); have n5_ := Aside0.mk (below_step (by repeat (first | (with_reducible first | exact HB.out | apply below_alloc | apply pw_below_drewN | apply below_drew1 | refine below_set ?_ (IsS64.ge HI0.out) | refine below_set ?_ GE101.out | refine below_set ?_ GE110.out) | exact HB.out)) hb); clear BK101; clear BK110; clear HI0; clear HK; clear HB; have HO145 := n0_; have BK101 := n1_; have BK110 := n2_; have HI0 := n3_; have HK := n4_; have HB := n5_; clear n0_ n1_ n2_ n3_ n4_ n5_; clear hb ho97) | ((with_reducible refine gate_callee (f := 38) rfl ?_); refine goesL_ (some 59) rfl rfl Try.func38 (by kernel_rfl) rfl #[.pointer (some ⟨g, 0, none⟩), .int .i64 3] rfl (by (try simp only [List.map_toArray, List.map_cons, List.map_nil]); first | done | rfl | (simp only [List.length_drop, List.length_take]; rfl)) ?_; (with_reducible refine (spec_l20Rd_pick.calls kj11 g s0_0 t130 3 t146 t147 w0 _ ?side1 ?side2 A91.out).mono ?_); (case side1 => repeat (first | (with_reducible first | exact HI0.out | apply IsS64.alloc | apply IsS64.drewN | apply IsS64.drew | apply IsS64.set_1 | refine IsS64.far ?_ NB0_101.out _ | refine IsS64.far ?_ NB0_110.out _) | exact HI0.out)); (case side2 => repeat (first | (with_reducible first | exact HB.out | apply below_alloc | apply pw_below_drewN | apply below_drew1 | refine below_set ?_ (IsS64.ge HI0.out) | refine below_set ?_ GE101.out | refine below_set ?_ GE110.out) | exact HB.out)); rintro e w98 ⟨rfl, hi, hb, hk⟩; refine ⟨_, rfl, ?_⟩; have n0_ := Aside0.mk (KeepBut.blk hk (g' := gb101) (o := .cells #[.int .i64 0, .int .i64 0, .int .i64 0] 33 (0, 0)) (by (with_reducible repeat (first | refine blk_drewN ?_ _ | refine blk_drew ?_ | refine blk_alloc ?_ _)); exact BK101.out) NB101_0.out (by simp)); have n1_ := Aside0.mk (KeepBut.blk hk (g' := gb110) (o := .cells #[.int .i64 x111000_11, .int .i64 (rd y113 t116), .int .i64 (rd y104 t107)] 33 (0, 0)) (by (with_reducible repeat (first | refine blk_drewN ?_ _ | refine blk_drew ?_ | refine blk_alloc ?_ _)); exact BK110.out) NB110_0.out (by simp)); have n2_ := Aside0.mk (Kd.R_mono (Kd.R_keep (IsS64.apart (show IsS64 w0 _ g s0_0 t130 from by repeat (first | (with_reducible first | exact HI0.out | apply IsS64.alloc | apply IsS64.drewN | apply IsS64.drew | apply IsS64.set_1 | refine IsS64.far ?_ NB0_101.out _ | refine IsS64.far ?_ NB0_110.out _) | exact HI0.out)) (by (with_reducible repeat (first | apply Kd.R_alloc | apply Kd.R_drewN | apply Kd.R_drew)); exact HO145.out) (by decide)) hk (fun _ h => h.2)) (fun _ h => h.1)); have n3_ := Aside0.mk (KeepBut.trans (by repeat (first | (with_reducible first | exact HK.out | apply KeepBut.set_ | apply keep_drewN | apply keep_drew | apply keep_alloc | refine keep_far ?_ GW101.out _ | refine keep_far ?_ GW110.out _) | exact HK.out)) hk (.inl rfl)); have n4_ := Aside0.mk (hb); have n5_ := Aside0.mk (hi); clear BK101; clear BK110; clear HO145; clear HK; clear HB; clear HI0; have BK101 := n0_; have BK110 := n1_; have HO145 := n2_; have HK := n3_; have HB := n4_; have HI0 := n5_; clear n0_ n1_ n2_ n3_ n4_ n5_; (try clear hb); (try clear hb2); (try clear hk); (try clear hi); obtain ⟨Ao99, co99, eo99⟩ := Kd.R_slice HO145.out; subst eo99; have p148 : 0 ≤ (t146 : Int) := of_decide_eq_true (by first | (with_reducible assumption) | assumption); have q148 : t146 < (y143.length : Int) := of_decide_eq_true (by first | (with_reducible assumption) | assumption); obtain ⟨ad148, e148, hx148_0⟩ := Kd.at_int (Kd.R_reads' HO145.out).2.2 t146 p148 q148; cases e148; replace p148 := eq_true p148; replace q148 := eq_true q148; have hnb100 := NB110_101.out; have hnc100 := NB101_110.out; have hnb101 := NB110_0.out; have hnc101 := NB0_110.out; have hcz102_0 : w98.cell? ⟨gb110, 0, none⟩ = some (.int .i64 x111000_11) := (blk_cell BK110.out 0).trans rfl; have hcz102_1 : w98.cell? ⟨gb110, 1, none⟩ = some (.int .i64 (rd y113 t116)) := (blk_cell BK110.out 1).trans rfl; have hcz102_2 : w98.cell? ⟨gb110, 2, none⟩ = some (.int .i64 (rd y104 t107)) := (blk_cell BK110.out 2).trans rfl; have hfz102_0 := blk_frozen BK110.out 0; have hfz102_1 := blk_frozen BK110.out 1; have hfz102_2 := blk_frozen BK110.out 2; have hnb103 := NB101_0.out; have hnc103 := NB0_101.out; have hcz104_0 : w98.cell? ⟨gb101, 0, none⟩ = some (.int .i64 0) := (blk_cell BK101.out 0).trans rfl; have hcz104_1 : w98.cell? ⟨gb101, 1, none⟩ = some (.int .i64 0) := (blk_cell BK101.out 1).trans rfl; have hcz104_2 : w98.cell? ⟨gb101, 2, none⟩ = some (.int .i64 0) := (blk_cell BK101.out 2).trans rfl; have hfz104_0 := blk_frozen BK101.out 0; have hfz104_1 := blk_frozen BK101.out 1; have hfz104_2 := blk_frozen BK101.out 2))
                        refine bodyPost_ret (results_cell_row rfl _ _ gb101 33 #[.int .i64 x111000_11, .int .i64 (rd y113 t116), .int .i64 (rd y143 t146)] (0, 0) _ rfl (by (with_reducible repeat (first | refine blk_drewN ?_ _ | refine blk_drew ?_ | refine blk_alloc ?_ _)); refine blk_put (cs := #[.int .i64 x111000_11, .int .i64 (rd y113 t116), .int .i64 0]) ?_ 2 _ rfl; (with_reducible repeat (first | refine blk_drewN ?_ _ | refine blk_drew ?_ | refine blk_alloc ?_ _)); refine blk_put (cs := #[.int .i64 x111000_11, .int .i64 0, .int .i64 0]) ?_ 1 _ rfl; (with_reducible repeat (first | refine blk_drewN ?_ _ | refine blk_drew ?_ | refine blk_alloc ?_ _)); refine blk_put (cs := #[.int .i64 0, .int .i64 0, .int .i64 0]) ?_ 0 _ rfl; (with_reducible repeat (first | refine blk_drewN ?_ _ | refine blk_drew ?_ | refine blk_alloc ?_ _)); refine blk_far ?_ NB101_110.out _; (with_reducible repeat (first | refine blk_drewN ?_ _ | refine blk_drew ?_ | refine blk_alloc ?_ _)); exact BK101.out) Try.underlying33 rfl (by kernel_rfl)) rfl ?_
                        exact ⟨by first | rfl | (simp [errW_none, errW_some] <;> rfl) | (simp only [← hji8]; first | rfl | (simp [errW_none, errW_some] <;> rfl)) | (simp [*, errW_none, errW_some] <;> rfl), by repeat (first | (with_reducible first | exact HI0.out | apply IsS64.alloc | apply IsS64.drewN | apply IsS64.drew | apply IsS64.set_1 | refine IsS64.far ?_ NB0_101.out _ | refine IsS64.far ?_ NB0_110.out _) | exact HI0.out), by repeat (first | (with_reducible first | exact HB.out | apply below_alloc | apply pw_below_drewN | apply below_drew1 | refine below_set ?_ (IsS64.ge HI0.out) | refine below_set ?_ GE101.out | refine below_set ?_ GE110.out) | exact HB.out), by repeat (first | (with_reducible first | exact HK.out | apply KeepBut.set_ | apply keep_drewN | apply keep_drew | apply keep_alloc | refine keep_far ?_ GW101.out _ | refine keep_far ?_ GW110.out _) | exact HK.out)⟩
                      · rw [if_neg c93] at H
                        exact absurd H (by simp)
                    · rw [if_neg c92] at H
                      exact absurd H (by simp)
              · replace c51 := Bool.eq_false_iff.mpr c51
                subst c51
                have H1 : (some (x111000_11, (rd y113 t116), (rd y104 t107), t128)) = some (r1, r2, r3, r4) := by rw [if_neg (show ¬ (false = true) by decide)] at H; exact H
                clear H
                have H := H1
                clear H1
                simp only [Option.some.injEq, Prod.mk.injEq] at H
                obtain ⟨rfl, rfl, rfl, rfl⟩ := H
                go_wp2_with (first | ((with_reducible refine gate_callee (f := 53) rfl ?_); refine goesL_ (some 54) rfl rfl Try.func53 (by kernel_rfl) rfl #[.pointer (some ⟨g, 0, none⟩), .int .i64 a1] rfl (by (try simp only [List.map_toArray, List.map_cons, List.map_nil]); first | done | rfl | (simp only [List.length_drop, List.length_take]; rfl)) ?_; (with_reducible refine (spec_l20Rd_odd.calls kj11 g s0_0 x1001_11 a1 false t128 w0 _ ?side1 ?side2 A50.out).mono ?_); (case side1 => repeat (first | (with_reducible first | exact HI0.out | apply IsS64.alloc | apply IsS64.drewN | apply IsS64.drew | apply IsS64.set_1 | refine IsS64.far ?_ NB0_101.out _ | refine IsS64.far ?_ NB0_110.out _) | exact HI0.out)); (case side2 => repeat (first | (with_reducible first | exact HB.out | apply below_alloc | apply pw_below_drewN | apply below_drew1 | refine below_set ?_ (IsS64.ge HI0.out) | refine below_set ?_ GE101.out | refine below_set ?_ GE110.out) | exact HB.out)); rintro e w105 ⟨rfl, hi, hb, hk⟩; refine ⟨_, rfl, ?_⟩; have n0_ := Aside0.mk (KeepBut.blk hk (g' := gb101) (o := .cells #[.int .i64 0, .int .i64 0, .int .i64 0] 33 (0, 0)) (by (with_reducible repeat (first | refine blk_drewN ?_ _ | refine blk_drew ?_ | refine blk_alloc ?_ _)); exact BK101.out) NB101_0.out (by simp)); have n1_ := Aside0.mk (KeepBut.blk hk (g' := gb110) (o := .cells #[.int .i64 x111000_11, .int .i64 (rd y113 t116), .int .i64 (rd y104 t107)] 33 (0, 0)) (by (with_reducible repeat (first | refine blk_drewN ?_ _ | refine blk_drew ?_ | refine blk_alloc ?_ _)); exact BK110.out) NB110_0.out (by simp)); have n2_ := Aside0.mk (KeepBut.trans (by repeat (first | (with_reducible first | exact HK.out | apply KeepBut.set_ | apply keep_drewN | apply keep_drew | apply keep_alloc | refine keep_far ?_ GW101.out _ | refine keep_far ?_ GW110.out _) | exact HK.out)) hk (.inl rfl)); have n3_ := Aside0.mk (hb); have n4_ := Aside0.mk (hi); clear BK101; clear BK110; clear HK; clear HB; clear HI0; have BK101 := n0_; have BK110 := n1_; have HK := n2_; have HB := n3_; have HI0 := n4_; clear n0_ n1_ n2_ n3_ n4_; (try clear hb); (try clear hb2); (try clear hk); (try clear hi); have hnb106 := NB110_101.out; have hnc106 := NB101_110.out; have hnb107 := NB110_0.out; have hnc107 := NB0_110.out; have hcz108_0 : w105.cell? ⟨gb110, 0, none⟩ = some (.int .i64 x111000_11) := (blk_cell BK110.out 0).trans rfl; have hcz108_1 : w105.cell? ⟨gb110, 1, none⟩ = some (.int .i64 (rd y113 t116)) := (blk_cell BK110.out 1).trans rfl; have hcz108_2 : w105.cell? ⟨gb110, 2, none⟩ = some (.int .i64 (rd y104 t107)) := (blk_cell BK110.out 2).trans rfl; have hfz108_0 := blk_frozen BK110.out 0; have hfz108_1 := blk_frozen BK110.out 1; have hfz108_2 := blk_frozen BK110.out 2; have hnb109 := NB101_0.out; have hnc109 := NB0_101.out; have hcz110_0 : w105.cell? ⟨gb101, 0, none⟩ = some (.int .i64 0) := (blk_cell BK101.out 0).trans rfl; have hcz110_1 : w105.cell? ⟨gb101, 1, none⟩ = some (.int .i64 0) := (blk_cell BK101.out 1).trans rfl; have hcz110_2 : w105.cell? ⟨gb101, 2, none⟩ = some (.int .i64 0) := (blk_cell BK101.out 2).trans rfl; have hfz110_0 := blk_frozen BK101.out 0; have hfz110_1 := blk_frozen BK101.out 1; have hfz110_2 := blk_frozen BK101.out 2))
                refine bodyPost_ret (results_cell_row rfl _ _ gb101 33 #[.int .i64 x111000_11, .int .i64 (rd y113 t116), .int .i64 (rd y104 t107)] (0, 0) _ rfl (by (with_reducible repeat (first | refine blk_drewN ?_ _ | refine blk_drew ?_ | refine blk_alloc ?_ _)); refine blk_put (cs := #[.int .i64 x111000_11, .int .i64 (rd y113 t116), .int .i64 0]) ?_ 2 _ rfl; (with_reducible repeat (first | refine blk_drewN ?_ _ | refine blk_drew ?_ | refine blk_alloc ?_ _)); refine blk_put (cs := #[.int .i64 x111000_11, .int .i64 0, .int .i64 0]) ?_ 1 _ rfl; (with_reducible repeat (first | refine blk_drewN ?_ _ | refine blk_drew ?_ | refine blk_alloc ?_ _)); refine blk_put (cs := #[.int .i64 0, .int .i64 0, .int .i64 0]) ?_ 0 _ rfl; (with_reducible repeat (first | refine blk_drewN ?_ _ | refine blk_drew ?_ | refine blk_alloc ?_ _)); exact BK101.out) Try.underlying33 rfl (by kernel_rfl)) rfl ?_
                exact ⟨by first | rfl | (simp [errW_none, errW_some] <;> rfl) | (simp only [← hji8]; first | rfl | (simp [errW_none, errW_some] <;> rfl)) | (simp [*, errW_none, errW_some] <;> rfl), by repeat (first | (with_reducible first | exact HI0.out | apply IsS64.alloc | apply IsS64.drewN | apply IsS64.drew | apply IsS64.set_1 | refine IsS64.far ?_ NB0_101.out _ | refine IsS64.far ?_ NB0_110.out _) | exact HI0.out), by repeat (first | (with_reducible first | exact HB.out | apply below_alloc | apply pw_below_drewN | apply below_drew1 | refine below_set ?_ (IsS64.ge HI0.out) | refine below_set ?_ GE101.out | refine below_set ?_ GE110.out) | exact HB.out), by repeat (first | (with_reducible first | exact HK.out | apply KeepBut.set_ | apply keep_drewN | apply keep_drew | apply keep_alloc | refine keep_far ?_ GW101.out _ | refine keep_far ?_ GW110.out _) | exact HK.out)⟩
        · rw [if_neg c11] at H
          exact absurd H (by simp)
      · rw [if_neg c10] at H
        exact absurd H (by simp)
    · rw [if_neg c6] at H
      exact absurd H (by simp)
  · rw [if_neg c5] at H
    exact absurd H (by simp)

end Go.Proofs.Ytabjigpbednfnaa.Q
