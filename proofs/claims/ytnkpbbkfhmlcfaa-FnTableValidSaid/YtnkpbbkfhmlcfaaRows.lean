/-
  No cell of these rows narrows 'for every input' (looked for: loops, veiled, ifaces, maps, wideKeys, modest, calm, conditions, laid).
  DERIVED. THE GIVEN ROWS OF THIS SEAT. 7 by the template 'for every input the law returns true; each argument reads behind the call as it read before'; 0 by the template 'total and deterministic' (their statements: YtnkpbbkfhmlcfaaTotals.lean).
  GIVEN WITH THE SEED: the statements are not yours to turn. If you find one false, say at which input.
  Laid BY PROGRAM, IN A SANDBOX (cutbox-rows.mjs): the forced cells as the released guide's own fill.sh prints them over the translation 825fa602aff7e84d… (all of the seat's roots in one cut). By AI agents, Wed Nov 11 2026. No macro, syntax, notation, axiom, sorry.
-/
import Derived.Test.YtnkpbbkfhmlcfaaChecked
import GoSem.Claim
import GoSem.ClaimJoined
import GoSem.ClaimMapViews
import Derived.JoinedTies
import Derived.KernelRfl
namespace Go.Proofs.Ytnkpbbkfhmlcfaa
/- THE CELL 'sum', in the pinned program and in every row, IS THE sha256 OF THE DUMP (.gsa) THAT YtnkpbbkfhmlcfaaProg.lean LOADS. Nothing in Lean hashes anything: it is a label: what it is worth is what the hold of that sum in a sandbox is worth. -/
noncomputable def Try.pinned : Pinned := { name := "ytnkpbbkfhmlcfaa", sum := "825fa602aff7e84d637f400bb802d0deb75972cd26c9717b02db900efe3aff18", checked := Try.checked }
namespace Rows
def none {H : Type} : Left H := { results := [], args := [] }

/-- 'laws.FnTableSlot': WHATEVER THE INPUT: true; the input reads as it did. -/
def fnTableSlotSpec : ChangeSpec := { name := "fnTableSlot", fn := fun _ => fun
  | [d] => { results := [.lit (.bool true)], args := [d] }
  | _ => none }
def fnTableSlotRow : OpenClaim := { program := "ytnkpbbkfhmlcfaa", sum := "825fa602aff7e84d637f400bb802d0deb75972cd26c9717b02db900efe3aff18", func := "loop.example/deadlinescheduler/laws.FnTableSlot", spec := "fnTableSlot", unfollowed := true, recurses := true, apart := false }
def FnTableSlotSaid : Prop := fnTableSlotRow.holds Try.pinned (OpenSpec.ofChange fnTableSlotSpec)

/-- ITS FALSE NEIGHBOUR: 'it returns false'. Refute it at one input. -/
def fnTableSlotWrong : ChangeSpec := { name := "fnTableSlot", fn := fun _ => fun
  | [d] => { results := [.lit (.bool false)], args := [d] }
  | _ => none }
def FnTableSlotWrongFalsely : Prop := fnTableSlotRow.holds Try.pinned (OpenSpec.ofChange fnTableSlotWrong)

/-- 'laws.FnTableFeasible': WHATEVER THE INPUT: true; the input reads as it did. -/
def fnTableFeasibleSpec : ChangeSpec := { name := "fnTableFeasible", fn := fun _ => fun
  | [d] => { results := [.lit (.bool true)], args := [d] }
  | _ => none }
def fnTableFeasibleRow : OpenClaim := { program := "ytnkpbbkfhmlcfaa", sum := "825fa602aff7e84d637f400bb802d0deb75972cd26c9717b02db900efe3aff18", func := "loop.example/deadlinescheduler/laws.FnTableFeasible", spec := "fnTableFeasible", unfollowed := true, recurses := true, apart := false }
def FnTableFeasibleSaid : Prop := fnTableFeasibleRow.holds Try.pinned (OpenSpec.ofChange fnTableFeasibleSpec)

/-- ITS FALSE NEIGHBOUR: 'it returns false'. Refute it at one input. -/
def fnTableFeasibleWrong : ChangeSpec := { name := "fnTableFeasible", fn := fun _ => fun
  | [d] => { results := [.lit (.bool false)], args := [d] }
  | _ => none }
def FnTableFeasibleWrongFalsely : Prop := fnTableFeasibleRow.holds Try.pinned (OpenSpec.ofChange fnTableFeasibleWrong)

/-- 'laws.FnAssignmentValid': WHATEVER THE INPUT: true; the input reads as it did. -/
def fnAssignmentValidSpec : ChangeSpec := { name := "fnAssignmentValid", fn := fun _ => fun
  | [d] => { results := [.lit (.bool true)], args := [d] }
  | _ => none }
def fnAssignmentValidRow : OpenClaim := { program := "ytnkpbbkfhmlcfaa", sum := "825fa602aff7e84d637f400bb802d0deb75972cd26c9717b02db900efe3aff18", func := "loop.example/deadlinescheduler/laws.FnAssignmentValid", spec := "fnAssignmentValid", unfollowed := true, recurses := true, apart := false }
def FnAssignmentValidSaid : Prop := fnAssignmentValidRow.holds Try.pinned (OpenSpec.ofChange fnAssignmentValidSpec)

/-- ITS FALSE NEIGHBOUR: 'it returns false'. Refute it at one input. -/
def fnAssignmentValidWrong : ChangeSpec := { name := "fnAssignmentValid", fn := fun _ => fun
  | [d] => { results := [.lit (.bool false)], args := [d] }
  | _ => none }
def FnAssignmentValidWrongFalsely : Prop := fnAssignmentValidRow.holds Try.pinned (OpenSpec.ofChange fnAssignmentValidWrong)

/-- 'laws.FnCoreTasks': WHATEVER THE INPUT: true; the input reads as it did. -/
def fnCoreTasksSpec : ChangeSpec := { name := "fnCoreTasks", fn := fun _ => fun
  | [d] => { results := [.lit (.bool true)], args := [d] }
  | _ => none }
def fnCoreTasksRow : OpenClaim := { program := "ytnkpbbkfhmlcfaa", sum := "825fa602aff7e84d637f400bb802d0deb75972cd26c9717b02db900efe3aff18", func := "loop.example/deadlinescheduler/laws.FnCoreTasks", spec := "fnCoreTasks", unfollowed := true, recurses := true, apart := false }
def FnCoreTasksSaid : Prop := fnCoreTasksRow.holds Try.pinned (OpenSpec.ofChange fnCoreTasksSpec)

/-- ITS FALSE NEIGHBOUR: 'it returns false'. Refute it at one input. -/
def fnCoreTasksWrong : ChangeSpec := { name := "fnCoreTasks", fn := fun _ => fun
  | [d] => { results := [.lit (.bool false)], args := [d] }
  | _ => none }
def FnCoreTasksWrongFalsely : Prop := fnCoreTasksRow.holds Try.pinned (OpenSpec.ofChange fnCoreTasksWrong)

/-- 'laws.FnAssignmentFeasible': WHATEVER THE INPUT: true; the input reads as it did. -/
def fnAssignmentFeasibleSpec : ChangeSpec := { name := "fnAssignmentFeasible", fn := fun _ => fun
  | [d] => { results := [.lit (.bool true)], args := [d] }
  | _ => none }
def fnAssignmentFeasibleRow : OpenClaim := { program := "ytnkpbbkfhmlcfaa", sum := "825fa602aff7e84d637f400bb802d0deb75972cd26c9717b02db900efe3aff18", func := "loop.example/deadlinescheduler/laws.FnAssignmentFeasible", spec := "fnAssignmentFeasible", unfollowed := true, recurses := true, apart := false }
def FnAssignmentFeasibleSaid : Prop := fnAssignmentFeasibleRow.holds Try.pinned (OpenSpec.ofChange fnAssignmentFeasibleSpec)

/-- ITS FALSE NEIGHBOUR: 'it returns false'. Refute it at one input. -/
def fnAssignmentFeasibleWrong : ChangeSpec := { name := "fnAssignmentFeasible", fn := fun _ => fun
  | [d] => { results := [.lit (.bool false)], args := [d] }
  | _ => none }
def FnAssignmentFeasibleWrongFalsely : Prop := fnAssignmentFeasibleRow.holds Try.pinned (OpenSpec.ofChange fnAssignmentFeasibleWrong)

/-- 'laws.FnIdleSlots': WHATEVER THE INPUT: true; the input reads as it did. -/
def fnIdleSlotsSpec : ChangeSpec := { name := "fnIdleSlots", fn := fun _ => fun
  | [d] => { results := [.lit (.bool true)], args := [d] }
  | _ => none }
def fnIdleSlotsRow : OpenClaim := { program := "ytnkpbbkfhmlcfaa", sum := "825fa602aff7e84d637f400bb802d0deb75972cd26c9717b02db900efe3aff18", func := "loop.example/deadlinescheduler/laws.FnIdleSlots", spec := "fnIdleSlots", unfollowed := true, recurses := true, apart := false }
def FnIdleSlotsSaid : Prop := fnIdleSlotsRow.holds Try.pinned (OpenSpec.ofChange fnIdleSlotsSpec)

/-- ITS FALSE NEIGHBOUR: 'it returns false'. Refute it at one input. -/
def fnIdleSlotsWrong : ChangeSpec := { name := "fnIdleSlots", fn := fun _ => fun
  | [d] => { results := [.lit (.bool false)], args := [d] }
  | _ => none }
def FnIdleSlotsWrongFalsely : Prop := fnIdleSlotsRow.holds Try.pinned (OpenSpec.ofChange fnIdleSlotsWrong)

/-- 'laws.FnTableValid': WHATEVER THE INPUT: true; the input reads as it did. -/
def fnTableValidSpec : ChangeSpec := { name := "fnTableValid", fn := fun _ => fun
  | [d] => { results := [.lit (.bool true)], args := [d] }
  | _ => none }
def fnTableValidRow : OpenClaim := { program := "ytnkpbbkfhmlcfaa", sum := "825fa602aff7e84d637f400bb802d0deb75972cd26c9717b02db900efe3aff18", func := "loop.example/deadlinescheduler/laws.FnTableValid", spec := "fnTableValid", unfollowed := true, recurses := true, apart := false }
def FnTableValidSaid : Prop := fnTableValidRow.holds Try.pinned (OpenSpec.ofChange fnTableValidSpec)

/-- ITS FALSE NEIGHBOUR: 'it returns false'. Refute it at one input. -/
def fnTableValidWrong : ChangeSpec := { name := "fnTableValid", fn := fun _ => fun
  | [d] => { results := [.lit (.bool false)], args := [d] }
  | _ => none }
def FnTableValidWrongFalsely : Prop := fnTableValidRow.holds Try.pinned (OpenSpec.ofChange fnTableValidWrong)

/- THE SECOND FORM. 'bulk': how many values and letters a reading holds, each counted each time it is reached (what is shared counts as often as it is met; a slice's spare places count too). A statement '..UptoSaid' is the law's where the arguments, and the package variables that the reading takes, are together of bulk at most 1048576: NARROWER than '..Said'. Prove '..Said' where nothing that the law and all that it calls make is longer than what came in: it says more and counts as full. Else prove '..UptoSaid'. A law counts once. -/
mutual
def uptoBulk {H : Type} : DataW H → Nat
  | .lit (.string bytes) => bytes.length + 1
  | .lit _ => 1
  | .nil => 1
  | .ptr d => uptoBulk d + 1
  | .slice elems spare => uptoBulkAll elems + uptoBulkAll spare + 1
  | .agg parts => uptoBulkAll parts + 1
  | .iface _ d => uptoBulk d + 1
  | .map entries => uptoBulkEntries entries + 1
  | .held _ => 1
def uptoBulkAll {H : Type} : List (DataW H) → Nat
  | [] => 0
  | d :: r => uptoBulk d + uptoBulkAll r
def uptoBulkEntries {H : Type} : List (Lit × DataW H) → Nat
  | [] => 0
  | x :: r => uptoBulkEntry x + uptoBulkEntries r
def uptoBulkEntry {H : Type} : Lit × DataW H → Nat
  | (.string bytes, d) => bytes.length + uptoBulk d + 1
  | (_, d) => uptoBulk d + 1
 end
def uptoSmall : (H : Type) → List (DataW H) → Bool := fun _ ds => decide (uptoBulkAll ds ≤ 1048576)
def OpenSpec.upto (s : _root_.Go.ChangeSpec) : _root_.Go.OpenSpec := { _root_.Go.OpenSpec.ofChange s with cond := some uptoSmall }

/-- 'laws.FnTableSlot', WHERE WHAT IT READS IS OF BULK AT MOST 1048576: true; the input reads as it did. -/
def fnTableSlotUptoRow : OpenClaim := { program := "ytnkpbbkfhmlcfaa", sum := "825fa602aff7e84d637f400bb802d0deb75972cd26c9717b02db900efe3aff18", func := "loop.example/deadlinescheduler/laws.FnTableSlot", spec := "fnTableSlot", unfollowed := true, recurses := true, apart := false, narrowed := true }
def FnTableSlotUptoSaid : Prop := fnTableSlotUptoRow.holds Try.pinned (OpenSpec.upto fnTableSlotSpec)

/-- 'laws.FnTableFeasible', WHERE WHAT IT READS IS OF BULK AT MOST 1048576: true; the input reads as it did. -/
def fnTableFeasibleUptoRow : OpenClaim := { program := "ytnkpbbkfhmlcfaa", sum := "825fa602aff7e84d637f400bb802d0deb75972cd26c9717b02db900efe3aff18", func := "loop.example/deadlinescheduler/laws.FnTableFeasible", spec := "fnTableFeasible", unfollowed := true, recurses := true, apart := false, narrowed := true }
def FnTableFeasibleUptoSaid : Prop := fnTableFeasibleUptoRow.holds Try.pinned (OpenSpec.upto fnTableFeasibleSpec)

/-- 'laws.FnAssignmentValid', WHERE WHAT IT READS IS OF BULK AT MOST 1048576: true; the input reads as it did. -/
def fnAssignmentValidUptoRow : OpenClaim := { program := "ytnkpbbkfhmlcfaa", sum := "825fa602aff7e84d637f400bb802d0deb75972cd26c9717b02db900efe3aff18", func := "loop.example/deadlinescheduler/laws.FnAssignmentValid", spec := "fnAssignmentValid", unfollowed := true, recurses := true, apart := false, narrowed := true }
def FnAssignmentValidUptoSaid : Prop := fnAssignmentValidUptoRow.holds Try.pinned (OpenSpec.upto fnAssignmentValidSpec)

/-- 'laws.FnCoreTasks', WHERE WHAT IT READS IS OF BULK AT MOST 1048576: true; the input reads as it did. -/
def fnCoreTasksUptoRow : OpenClaim := { program := "ytnkpbbkfhmlcfaa", sum := "825fa602aff7e84d637f400bb802d0deb75972cd26c9717b02db900efe3aff18", func := "loop.example/deadlinescheduler/laws.FnCoreTasks", spec := "fnCoreTasks", unfollowed := true, recurses := true, apart := false, narrowed := true }
def FnCoreTasksUptoSaid : Prop := fnCoreTasksUptoRow.holds Try.pinned (OpenSpec.upto fnCoreTasksSpec)

/-- 'laws.FnAssignmentFeasible', WHERE WHAT IT READS IS OF BULK AT MOST 1048576: true; the input reads as it did. -/
def fnAssignmentFeasibleUptoRow : OpenClaim := { program := "ytnkpbbkfhmlcfaa", sum := "825fa602aff7e84d637f400bb802d0deb75972cd26c9717b02db900efe3aff18", func := "loop.example/deadlinescheduler/laws.FnAssignmentFeasible", spec := "fnAssignmentFeasible", unfollowed := true, recurses := true, apart := false, narrowed := true }
def FnAssignmentFeasibleUptoSaid : Prop := fnAssignmentFeasibleUptoRow.holds Try.pinned (OpenSpec.upto fnAssignmentFeasibleSpec)

/-- 'laws.FnIdleSlots', WHERE WHAT IT READS IS OF BULK AT MOST 1048576: true; the input reads as it did. -/
def fnIdleSlotsUptoRow : OpenClaim := { program := "ytnkpbbkfhmlcfaa", sum := "825fa602aff7e84d637f400bb802d0deb75972cd26c9717b02db900efe3aff18", func := "loop.example/deadlinescheduler/laws.FnIdleSlots", spec := "fnIdleSlots", unfollowed := true, recurses := true, apart := false, narrowed := true }
def FnIdleSlotsUptoSaid : Prop := fnIdleSlotsUptoRow.holds Try.pinned (OpenSpec.upto fnIdleSlotsSpec)

/-- 'laws.FnTableValid', WHERE WHAT IT READS IS OF BULK AT MOST 1048576: true; the input reads as it did. -/
def fnTableValidUptoRow : OpenClaim := { program := "ytnkpbbkfhmlcfaa", sum := "825fa602aff7e84d637f400bb802d0deb75972cd26c9717b02db900efe3aff18", func := "loop.example/deadlinescheduler/laws.FnTableValid", spec := "fnTableValid", unfollowed := true, recurses := true, apart := false, narrowed := true }
def FnTableValidUptoSaid : Prop := fnTableValidUptoRow.holds Try.pinned (OpenSpec.upto fnTableValidSpec)

end Rows
end Go.Proofs.Ytnkpbbkfhmlcfaa
