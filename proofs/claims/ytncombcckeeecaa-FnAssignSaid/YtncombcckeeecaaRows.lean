/-
  No cell of these rows narrows 'for every input' (looked for: loops, veiled, ifaces, maps, wideKeys, modest, calm, conditions, laid).
  DERIVED. THE GIVEN ROWS OF THIS SEAT. 10 by the template 'for every input the law returns true; each argument reads behind the call as it read before'; 0 by the template 'total and deterministic' (their statements: YtncombcckeeecaaTotals.lean).
  GIVEN WITH THE SEED: the statements are not yours to turn. If you find one false, say at which input.
  Laid BY PROGRAM, IN A SANDBOX (cutbox-rows.mjs): the forced cells as the released guide's own fill.sh prints them over the translation f0b308e37219d439… (all of the seat's roots in one cut). By AI agents, Wed Nov 11 2026. No macro, syntax, notation, axiom, sorry.
-/
import Derived.Test.YtncombcckeeecaaChecked
import GoSem.Claim
import GoSem.ClaimJoined
import GoSem.ClaimMapViews
import Derived.JoinedTies
import Derived.KernelRfl
namespace Go.Proofs.Ytncombcckeeecaa
/- THE CELL 'sum', in the pinned program and in every row, IS THE sha256 OF THE DUMP (.gsa) THAT YtncombcckeeecaaProg.lean LOADS. Nothing in Lean hashes anything: it is a label: what it is worth is what the hold of that sum in a sandbox is worth. -/
noncomputable def Try.pinned : Pinned := { name := "ytncombcckeeecaa", sum := "f0b308e37219d4395e299408ee6735b27493313522da2333237e41ad2f781028", checked := Try.checked }
namespace Rows
def none {H : Type} : Left H := { results := [], args := [] }

/-- 'laws.FnOrderValid': WHATEVER THE INPUT: true; the input reads as it did. -/
def fnOrderValidSpec : ChangeSpec := { name := "fnOrderValid", fn := fun _ => fun
  | [d] => { results := [.lit (.bool true)], args := [d] }
  | _ => none }
def fnOrderValidRow : OpenClaim := { program := "ytncombcckeeecaa", sum := "f0b308e37219d4395e299408ee6735b27493313522da2333237e41ad2f781028", func := "loop.example/deadlinescheduler/laws.FnOrderValid", spec := "fnOrderValid", unfollowed := true, recurses := true, apart := false }
def FnOrderValidSaid : Prop := fnOrderValidRow.holds Try.pinned (OpenSpec.ofChange fnOrderValidSpec)

/-- ITS FALSE NEIGHBOUR: 'it returns false'. Refute it at one input. -/
def fnOrderValidWrong : ChangeSpec := { name := "fnOrderValid", fn := fun _ => fun
  | [d] => { results := [.lit (.bool false)], args := [d] }
  | _ => none }
def FnOrderValidWrongFalsely : Prop := fnOrderValidRow.holds Try.pinned (OpenSpec.ofChange fnOrderValidWrong)

/-- 'laws.FnResponsePriority': WHATEVER THE INPUT: true; the input reads as it did. -/
def fnResponsePrioritySpec : ChangeSpec := { name := "fnResponsePriority", fn := fun _ => fun
  | [d] => { results := [.lit (.bool true)], args := [d] }
  | _ => none }
def fnResponsePriorityRow : OpenClaim := { program := "ytncombcckeeecaa", sum := "f0b308e37219d4395e299408ee6735b27493313522da2333237e41ad2f781028", func := "loop.example/deadlinescheduler/laws.FnResponsePriority", spec := "fnResponsePriority", unfollowed := true, recurses := true, apart := false }
def FnResponsePrioritySaid : Prop := fnResponsePriorityRow.holds Try.pinned (OpenSpec.ofChange fnResponsePrioritySpec)

/-- ITS FALSE NEIGHBOUR: 'it returns false'. Refute it at one input. -/
def fnResponsePriorityWrong : ChangeSpec := { name := "fnResponsePriority", fn := fun _ => fun
  | [d] => { results := [.lit (.bool false)], args := [d] }
  | _ => none }
def FnResponsePriorityWrongFalsely : Prop := fnResponsePriorityRow.holds Try.pinned (OpenSpec.ofChange fnResponsePriorityWrong)

/-- 'laws.FnResponseTimes': WHATEVER THE INPUT: true; the input reads as it did. -/
def fnResponseTimesSpec : ChangeSpec := { name := "fnResponseTimes", fn := fun _ => fun
  | [d] => { results := [.lit (.bool true)], args := [d] }
  | _ => none }
def fnResponseTimesRow : OpenClaim := { program := "ytncombcckeeecaa", sum := "f0b308e37219d4395e299408ee6735b27493313522da2333237e41ad2f781028", func := "loop.example/deadlinescheduler/laws.FnResponseTimes", spec := "fnResponseTimes", unfollowed := true, recurses := true, apart := false }
def FnResponseTimesSaid : Prop := fnResponseTimesRow.holds Try.pinned (OpenSpec.ofChange fnResponseTimesSpec)

/-- ITS FALSE NEIGHBOUR: 'it returns false'. Refute it at one input. -/
def fnResponseTimesWrong : ChangeSpec := { name := "fnResponseTimes", fn := fun _ => fun
  | [d] => { results := [.lit (.bool false)], args := [d] }
  | _ => none }
def FnResponseTimesWrongFalsely : Prop := fnResponseTimesRow.holds Try.pinned (OpenSpec.ofChange fnResponseTimesWrong)

/-- 'laws.FnResponseCost': WHATEVER THE INPUT: true; the input reads as it did. -/
def fnResponseCostSpec : ChangeSpec := { name := "fnResponseCost", fn := fun _ => fun
  | [d] => { results := [.lit (.bool true)], args := [d] }
  | _ => none }
def fnResponseCostRow : OpenClaim := { program := "ytncombcckeeecaa", sum := "f0b308e37219d4395e299408ee6735b27493313522da2333237e41ad2f781028", func := "loop.example/deadlinescheduler/laws.FnResponseCost", spec := "fnResponseCost", unfollowed := true, recurses := true, apart := false }
def FnResponseCostSaid : Prop := fnResponseCostRow.holds Try.pinned (OpenSpec.ofChange fnResponseCostSpec)

/-- ITS FALSE NEIGHBOUR: 'it returns false'. Refute it at one input. -/
def fnResponseCostWrong : ChangeSpec := { name := "fnResponseCost", fn := fun _ => fun
  | [d] => { results := [.lit (.bool false)], args := [d] }
  | _ => none }
def FnResponseCostWrongFalsely : Prop := fnResponseCostRow.holds Try.pinned (OpenSpec.ofChange fnResponseCostWrong)

/-- 'laws.FnFixedEdf': WHATEVER THE INPUT: true; the input reads as it did. -/
def fnFixedEdfSpec : ChangeSpec := { name := "fnFixedEdf", fn := fun _ => fun
  | [d] => { results := [.lit (.bool true)], args := [d] }
  | _ => none }
def fnFixedEdfRow : OpenClaim := { program := "ytncombcckeeecaa", sum := "f0b308e37219d4395e299408ee6735b27493313522da2333237e41ad2f781028", func := "loop.example/deadlinescheduler/laws.FnFixedEdf", spec := "fnFixedEdf", unfollowed := true, recurses := true, apart := false }
def FnFixedEdfSaid : Prop := fnFixedEdfRow.holds Try.pinned (OpenSpec.ofChange fnFixedEdfSpec)

/-- ITS FALSE NEIGHBOUR: 'it returns false'. Refute it at one input. -/
def fnFixedEdfWrong : ChangeSpec := { name := "fnFixedEdf", fn := fun _ => fun
  | [d] => { results := [.lit (.bool false)], args := [d] }
  | _ => none }
def FnFixedEdfWrongFalsely : Prop := fnFixedEdfRow.holds Try.pinned (OpenSpec.ofChange fnFixedEdfWrong)

/-- 'laws.FnAssign': WHATEVER THE INPUT: true; the input reads as it did. -/
def fnAssignSpec : ChangeSpec := { name := "fnAssign", fn := fun _ => fun
  | [d] => { results := [.lit (.bool true)], args := [d] }
  | _ => none }
def fnAssignRow : OpenClaim := { program := "ytncombcckeeecaa", sum := "f0b308e37219d4395e299408ee6735b27493313522da2333237e41ad2f781028", func := "loop.example/deadlinescheduler/laws.FnAssign", spec := "fnAssign", unfollowed := true, recurses := true, apart := false }
def FnAssignSaid : Prop := fnAssignRow.holds Try.pinned (OpenSpec.ofChange fnAssignSpec)

/-- ITS FALSE NEIGHBOUR: 'it returns false'. Refute it at one input. -/
def fnAssignWrong : ChangeSpec := { name := "fnAssign", fn := fun _ => fun
  | [d] => { results := [.lit (.bool false)], args := [d] }
  | _ => none }
def FnAssignWrongFalsely : Prop := fnAssignRow.holds Try.pinned (OpenSpec.ofChange fnAssignWrong)

/-- 'laws.FnJobsLegal': WHATEVER THE INPUT: true; the input reads as it did. -/
def fnJobsLegalSpec : ChangeSpec := { name := "fnJobsLegal", fn := fun _ => fun
  | [d] => { results := [.lit (.bool true)], args := [d] }
  | _ => none }
def fnJobsLegalRow : OpenClaim := { program := "ytncombcckeeecaa", sum := "f0b308e37219d4395e299408ee6735b27493313522da2333237e41ad2f781028", func := "loop.example/deadlinescheduler/laws.FnJobsLegal", spec := "fnJobsLegal", unfollowed := true, recurses := true, apart := false }
def FnJobsLegalSaid : Prop := fnJobsLegalRow.holds Try.pinned (OpenSpec.ofChange fnJobsLegalSpec)

/-- ITS FALSE NEIGHBOUR: 'it returns false'. Refute it at one input. -/
def fnJobsLegalWrong : ChangeSpec := { name := "fnJobsLegal", fn := fun _ => fun
  | [d] => { results := [.lit (.bool false)], args := [d] }
  | _ => none }
def FnJobsLegalWrongFalsely : Prop := fnJobsLegalRow.holds Try.pinned (OpenSpec.ofChange fnJobsLegalWrong)

/-- 'laws.FnSynchronous': WHATEVER THE INPUT: true; the input reads as it did. -/
def fnSynchronousSpec : ChangeSpec := { name := "fnSynchronous", fn := fun _ => fun
  | [d] => { results := [.lit (.bool true)], args := [d] }
  | _ => none }
def fnSynchronousRow : OpenClaim := { program := "ytncombcckeeecaa", sum := "f0b308e37219d4395e299408ee6735b27493313522da2333237e41ad2f781028", func := "loop.example/deadlinescheduler/laws.FnSynchronous", spec := "fnSynchronous", unfollowed := true, recurses := true, apart := false }
def FnSynchronousSaid : Prop := fnSynchronousRow.holds Try.pinned (OpenSpec.ofChange fnSynchronousSpec)

/-- ITS FALSE NEIGHBOUR: 'it returns false'. Refute it at one input. -/
def fnSynchronousWrong : ChangeSpec := { name := "fnSynchronous", fn := fun _ => fun
  | [d] => { results := [.lit (.bool false)], args := [d] }
  | _ => none }
def FnSynchronousWrongFalsely : Prop := fnSynchronousRow.holds Try.pinned (OpenSpec.ofChange fnSynchronousWrong)

/-- 'laws.FnMissed': WHATEVER THE INPUT: true; the input reads as it did. -/
def fnMissedSpec : ChangeSpec := { name := "fnMissed", fn := fun _ => fun
  | [d] => { results := [.lit (.bool true)], args := [d] }
  | _ => none }
def fnMissedRow : OpenClaim := { program := "ytncombcckeeecaa", sum := "f0b308e37219d4395e299408ee6735b27493313522da2333237e41ad2f781028", func := "loop.example/deadlinescheduler/laws.FnMissed", spec := "fnMissed", apart := false }
def FnMissedSaid : Prop := fnMissedRow.holds Try.pinned (OpenSpec.ofChange fnMissedSpec)

/-- ITS FALSE NEIGHBOUR: 'it returns false'. Refute it at one input. -/
def fnMissedWrong : ChangeSpec := { name := "fnMissed", fn := fun _ => fun
  | [d] => { results := [.lit (.bool false)], args := [d] }
  | _ => none }
def FnMissedWrongFalsely : Prop := fnMissedRow.holds Try.pinned (OpenSpec.ofChange fnMissedWrong)

/-- 'laws.FnGlobalMissed': WHATEVER THE INPUT: true; the input reads as it did. -/
def fnGlobalMissedSpec : ChangeSpec := { name := "fnGlobalMissed", fn := fun _ => fun
  | [d] => { results := [.lit (.bool true)], args := [d] }
  | _ => none }
def fnGlobalMissedRow : OpenClaim := { program := "ytncombcckeeecaa", sum := "f0b308e37219d4395e299408ee6735b27493313522da2333237e41ad2f781028", func := "loop.example/deadlinescheduler/laws.FnGlobalMissed", spec := "fnGlobalMissed", apart := false }
def FnGlobalMissedSaid : Prop := fnGlobalMissedRow.holds Try.pinned (OpenSpec.ofChange fnGlobalMissedSpec)

/-- ITS FALSE NEIGHBOUR: 'it returns false'. Refute it at one input. -/
def fnGlobalMissedWrong : ChangeSpec := { name := "fnGlobalMissed", fn := fun _ => fun
  | [d] => { results := [.lit (.bool false)], args := [d] }
  | _ => none }
def FnGlobalMissedWrongFalsely : Prop := fnGlobalMissedRow.holds Try.pinned (OpenSpec.ofChange fnGlobalMissedWrong)

/- THE SECOND FORM. 'bulk': how many values and letters a reading holds, each counted each time it is reached (what is shared counts as often as it is met; a slice's spare places count too). A statement '..UptoSaid' is the law's where the arguments, and the package variables that the reading takes, are together of bulk at most 1048576: NARROWER than '..Said'. Prove '..Said' where nothing that the law and all that it calls make is longer than what came in: it says more and counts as full. Else prove '..UptoSaid'. A law counts once. -/
mutual
def uptoBulk {H : Type} : DataW H → Nat
  | .lit (.string bytes) => bytes.length + 1
  | .lit _ => 1
  | .nil => 1
  | .ptr d => uptoBulk d + 1
  | .slice elems spare => uptoBulkAll elems + uptoBulkAll spare + 1
  | .agg parts => uptoBulkAll parts + 1
  | .iface _ d => uptoBulk d + 1
  | .map entries => uptoBulkEntries entries + 1
  | .held _ => 1
def uptoBulkAll {H : Type} : List (DataW H) → Nat
  | [] => 0
  | d :: r => uptoBulk d + uptoBulkAll r
def uptoBulkEntries {H : Type} : List (Lit × DataW H) → Nat
  | [] => 0
  | x :: r => uptoBulkEntry x + uptoBulkEntries r
def uptoBulkEntry {H : Type} : Lit × DataW H → Nat
  | (.string bytes, d) => bytes.length + uptoBulk d + 1
  | (_, d) => uptoBulk d + 1
 end
def uptoSmall : (H : Type) → List (DataW H) → Bool := fun _ ds => decide (uptoBulkAll ds ≤ 1048576)
def OpenSpec.upto (s : _root_.Go.ChangeSpec) : _root_.Go.OpenSpec := { _root_.Go.OpenSpec.ofChange s with cond := some uptoSmall }

/-- 'laws.FnOrderValid', WHERE WHAT IT READS IS OF BULK AT MOST 1048576: true; the input reads as it did. -/
def fnOrderValidUptoRow : OpenClaim := { program := "ytncombcckeeecaa", sum := "f0b308e37219d4395e299408ee6735b27493313522da2333237e41ad2f781028", func := "loop.example/deadlinescheduler/laws.FnOrderValid", spec := "fnOrderValid", unfollowed := true, recurses := true, apart := false, narrowed := true }
def FnOrderValidUptoSaid : Prop := fnOrderValidUptoRow.holds Try.pinned (OpenSpec.upto fnOrderValidSpec)

/-- 'laws.FnResponsePriority', WHERE WHAT IT READS IS OF BULK AT MOST 1048576: true; the input reads as it did. -/
def fnResponsePriorityUptoRow : OpenClaim := { program := "ytncombcckeeecaa", sum := "f0b308e37219d4395e299408ee6735b27493313522da2333237e41ad2f781028", func := "loop.example/deadlinescheduler/laws.FnResponsePriority", spec := "fnResponsePriority", unfollowed := true, recurses := true, apart := false, narrowed := true }
def FnResponsePriorityUptoSaid : Prop := fnResponsePriorityUptoRow.holds Try.pinned (OpenSpec.upto fnResponsePrioritySpec)

/-- 'laws.FnResponseTimes', WHERE WHAT IT READS IS OF BULK AT MOST 1048576: true; the input reads as it did. -/
def fnResponseTimesUptoRow : OpenClaim := { program := "ytncombcckeeecaa", sum := "f0b308e37219d4395e299408ee6735b27493313522da2333237e41ad2f781028", func := "loop.example/deadlinescheduler/laws.FnResponseTimes", spec := "fnResponseTimes", unfollowed := true, recurses := true, apart := false, narrowed := true }
def FnResponseTimesUptoSaid : Prop := fnResponseTimesUptoRow.holds Try.pinned (OpenSpec.upto fnResponseTimesSpec)

/-- 'laws.FnResponseCost', WHERE WHAT IT READS IS OF BULK AT MOST 1048576: true; the input reads as it did. -/
def fnResponseCostUptoRow : OpenClaim := { program := "ytncombcckeeecaa", sum := "f0b308e37219d4395e299408ee6735b27493313522da2333237e41ad2f781028", func := "loop.example/deadlinescheduler/laws.FnResponseCost", spec := "fnResponseCost", unfollowed := true, recurses := true, apart := false, narrowed := true }
def FnResponseCostUptoSaid : Prop := fnResponseCostUptoRow.holds Try.pinned (OpenSpec.upto fnResponseCostSpec)

/-- 'laws.FnFixedEdf', WHERE WHAT IT READS IS OF BULK AT MOST 1048576: true; the input reads as it did. -/
def fnFixedEdfUptoRow : OpenClaim := { program := "ytncombcckeeecaa", sum := "f0b308e37219d4395e299408ee6735b27493313522da2333237e41ad2f781028", func := "loop.example/deadlinescheduler/laws.FnFixedEdf", spec := "fnFixedEdf", unfollowed := true, recurses := true, apart := false, narrowed := true }
def FnFixedEdfUptoSaid : Prop := fnFixedEdfUptoRow.holds Try.pinned (OpenSpec.upto fnFixedEdfSpec)

/-- 'laws.FnAssign', WHERE WHAT IT READS IS OF BULK AT MOST 1048576: true; the input reads as it did. -/
def fnAssignUptoRow : OpenClaim := { program := "ytncombcckeeecaa", sum := "f0b308e37219d4395e299408ee6735b27493313522da2333237e41ad2f781028", func := "loop.example/deadlinescheduler/laws.FnAssign", spec := "fnAssign", unfollowed := true, recurses := true, apart := false, narrowed := true }
def FnAssignUptoSaid : Prop := fnAssignUptoRow.holds Try.pinned (OpenSpec.upto fnAssignSpec)

/-- 'laws.FnJobsLegal', WHERE WHAT IT READS IS OF BULK AT MOST 1048576: true; the input reads as it did. -/
def fnJobsLegalUptoRow : OpenClaim := { program := "ytncombcckeeecaa", sum := "f0b308e37219d4395e299408ee6735b27493313522da2333237e41ad2f781028", func := "loop.example/deadlinescheduler/laws.FnJobsLegal", spec := "fnJobsLegal", unfollowed := true, recurses := true, apart := false, narrowed := true }
def FnJobsLegalUptoSaid : Prop := fnJobsLegalUptoRow.holds Try.pinned (OpenSpec.upto fnJobsLegalSpec)

/-- 'laws.FnSynchronous', WHERE WHAT IT READS IS OF BULK AT MOST 1048576: true; the input reads as it did. -/
def fnSynchronousUptoRow : OpenClaim := { program := "ytncombcckeeecaa", sum := "f0b308e37219d4395e299408ee6735b27493313522da2333237e41ad2f781028", func := "loop.example/deadlinescheduler/laws.FnSynchronous", spec := "fnSynchronous", unfollowed := true, recurses := true, apart := false, narrowed := true }
def FnSynchronousUptoSaid : Prop := fnSynchronousUptoRow.holds Try.pinned (OpenSpec.upto fnSynchronousSpec)

/-- 'laws.FnMissed', WHERE WHAT IT READS IS OF BULK AT MOST 1048576: true; the input reads as it did. -/
def fnMissedUptoRow : OpenClaim := { program := "ytncombcckeeecaa", sum := "f0b308e37219d4395e299408ee6735b27493313522da2333237e41ad2f781028", func := "loop.example/deadlinescheduler/laws.FnMissed", spec := "fnMissed", apart := false, narrowed := true }
def FnMissedUptoSaid : Prop := fnMissedUptoRow.holds Try.pinned (OpenSpec.upto fnMissedSpec)

/-- 'laws.FnGlobalMissed', WHERE WHAT IT READS IS OF BULK AT MOST 1048576: true; the input reads as it did. -/
def fnGlobalMissedUptoRow : OpenClaim := { program := "ytncombcckeeecaa", sum := "f0b308e37219d4395e299408ee6735b27493313522da2333237e41ad2f781028", func := "loop.example/deadlinescheduler/laws.FnGlobalMissed", spec := "fnGlobalMissed", apart := false, narrowed := true }
def FnGlobalMissedUptoSaid : Prop := fnGlobalMissedUptoRow.holds Try.pinned (OpenSpec.upto fnGlobalMissedSpec)

end Rows
end Go.Proofs.Ytncombcckeeecaa
