/-
  No cell of these rows narrows 'for every input' (looked for: loops, veiled, ifaces, maps, wideKeys, modest, calm, conditions, laid).
  DERIVED. THE GIVEN ROWS OF THIS SEAT. 6 by the template 'for every input the law returns true; each argument reads behind the call as it read before'; 0 by the template 'total and deterministic' (their statements: YthajimgepjbjiaaTotals.lean).
  GIVEN WITH THE SEED: the statements are not yours to turn. If you find one false, say at which input.
  Laid BY PROGRAM, IN A SANDBOX (cutbox-rows.mjs): the forced cells as the released guide's own fill.sh prints them over the translation 2fef28b50ff69b7c… (all of the seat's roots in one cut). By AI agents, Wed Nov 11 2026. No macro, syntax, notation, axiom, sorry.
-/
import Derived.Test.YthajimgepjbjiaaChecked
import GoSem.Claim
import GoSem.ClaimJoined
import GoSem.ClaimMapViews
import Derived.JoinedTies
import Derived.KernelRfl
namespace Go.Proofs.Ythajimgepjbjiaa
/- THE CELL 'sum', in the pinned program and in every row, IS THE sha256 OF THE DUMP (.gsa) THAT YthajimgepjbjiaaProg.lean LOADS. Nothing in Lean hashes anything: it is a label: what it is worth is what the hold of that sum in a sandbox is worth. -/
noncomputable def Try.pinned : Pinned := { name := "ythajimgepjbjiaa", sum := "2fef28b50ff69b7ca170acc2c4bb2e31b69fd1193489ad2aa9188f42549046d5", checked := Try.checked }
namespace Rows
def none {H : Type} : Left H := { results := [], args := [] }

/-- 'laws.FnArrivalsLegal': WHATEVER THE INPUT: true; the input reads as it did. -/
def fnArrivalsLegalSpec : ChangeSpec := { name := "fnArrivalsLegal", fn := fun _ => fun
  | [d] => { results := [.lit (.bool true)], args := [d] }
  | _ => none }
def fnArrivalsLegalRow : OpenClaim := { program := "ythajimgepjbjiaa", sum := "2fef28b50ff69b7ca170acc2c4bb2e31b69fd1193489ad2aa9188f42549046d5", func := "loop.example/deadlinescheduler/laws.FnArrivalsLegal", spec := "fnArrivalsLegal", apart := false }
def FnArrivalsLegalSaid : Prop := fnArrivalsLegalRow.holds Try.pinned (OpenSpec.ofChange fnArrivalsLegalSpec)

/-- ITS FALSE NEIGHBOUR: 'it returns false'. Refute it at one input. -/
def fnArrivalsLegalWrong : ChangeSpec := { name := "fnArrivalsLegal", fn := fun _ => fun
  | [d] => { results := [.lit (.bool false)], args := [d] }
  | _ => none }
def FnArrivalsLegalWrongFalsely : Prop := fnArrivalsLegalRow.holds Try.pinned (OpenSpec.ofChange fnArrivalsLegalWrong)

/-- 'laws.FnSetOrder': WHATEVER THE INPUT: true; the input reads as it did. -/
def fnSetOrderSpec : ChangeSpec := { name := "fnSetOrder", fn := fun _ => fun
  | [d] => { results := [.lit (.bool true)], args := [d] }
  | _ => none }
def fnSetOrderRow : OpenClaim := { program := "ythajimgepjbjiaa", sum := "2fef28b50ff69b7ca170acc2c4bb2e31b69fd1193489ad2aa9188f42549046d5", func := "loop.example/deadlinescheduler/laws.FnSetOrder", spec := "fnSetOrder", unfollowed := true, recurses := true, apart := false }
def FnSetOrderSaid : Prop := fnSetOrderRow.holds Try.pinned (OpenSpec.ofChange fnSetOrderSpec)

/-- ITS FALSE NEIGHBOUR: 'it returns false'. Refute it at one input. -/
def fnSetOrderWrong : ChangeSpec := { name := "fnSetOrder", fn := fun _ => fun
  | [d] => { results := [.lit (.bool false)], args := [d] }
  | _ => none }
def FnSetOrderWrongFalsely : Prop := fnSetOrderRow.holds Try.pinned (OpenSpec.ofChange fnSetOrderWrong)

/-- 'laws.FnQuickTest': WHATEVER THE INPUT: true; the input reads as it did. -/
def fnQuickTestSpec : ChangeSpec := { name := "fnQuickTest", fn := fun _ => fun
  | [d] => { results := [.lit (.bool true)], args := [d] }
  | _ => none }
def fnQuickTestRow : OpenClaim := { program := "ythajimgepjbjiaa", sum := "2fef28b50ff69b7ca170acc2c4bb2e31b69fd1193489ad2aa9188f42549046d5", func := "loop.example/deadlinescheduler/laws.FnQuickTest", spec := "fnQuickTest", unfollowed := true, recurses := true, apart := false }
def FnQuickTestSaid : Prop := fnQuickTestRow.holds Try.pinned (OpenSpec.ofChange fnQuickTestSpec)

/-- ITS FALSE NEIGHBOUR: 'it returns false'. Refute it at one input. -/
def fnQuickTestWrong : ChangeSpec := { name := "fnQuickTest", fn := fun _ => fun
  | [d] => { results := [.lit (.bool false)], args := [d] }
  | _ => none }
def FnQuickTestWrongFalsely : Prop := fnQuickTestRow.holds Try.pinned (OpenSpec.ofChange fnQuickTestWrong)

/-- 'laws.FnMaxFeasibleCost': WHATEVER THE INPUT: true; the input reads as it did. -/
def fnMaxFeasibleCostSpec : ChangeSpec := { name := "fnMaxFeasibleCost", fn := fun _ => fun
  | [d] => { results := [.lit (.bool true)], args := [d] }
  | _ => none }
def fnMaxFeasibleCostRow : OpenClaim := { program := "ythajimgepjbjiaa", sum := "2fef28b50ff69b7ca170acc2c4bb2e31b69fd1193489ad2aa9188f42549046d5", func := "loop.example/deadlinescheduler/laws.FnMaxFeasibleCost", spec := "fnMaxFeasibleCost", unfollowed := true, recurses := true, apart := false }
def FnMaxFeasibleCostSaid : Prop := fnMaxFeasibleCostRow.holds Try.pinned (OpenSpec.ofChange fnMaxFeasibleCostSpec)

/-- ITS FALSE NEIGHBOUR: 'it returns false'. Refute it at one input. -/
def fnMaxFeasibleCostWrong : ChangeSpec := { name := "fnMaxFeasibleCost", fn := fun _ => fun
  | [d] => { results := [.lit (.bool false)], args := [d] }
  | _ => none }
def FnMaxFeasibleCostWrongFalsely : Prop := fnMaxFeasibleCostRow.holds Try.pinned (OpenSpec.ofChange fnMaxFeasibleCostWrong)

/-- 'laws.FnMinFeasibleDeadline': WHATEVER THE INPUT: true; the input reads as it did. -/
def fnMinFeasibleDeadlineSpec : ChangeSpec := { name := "fnMinFeasibleDeadline", fn := fun _ => fun
  | [d] => { results := [.lit (.bool true)], args := [d] }
  | _ => none }
def fnMinFeasibleDeadlineRow : OpenClaim := { program := "ythajimgepjbjiaa", sum := "2fef28b50ff69b7ca170acc2c4bb2e31b69fd1193489ad2aa9188f42549046d5", func := "loop.example/deadlinescheduler/laws.FnMinFeasibleDeadline", spec := "fnMinFeasibleDeadline", unfollowed := true, recurses := true, apart := false }
def FnMinFeasibleDeadlineSaid : Prop := fnMinFeasibleDeadlineRow.holds Try.pinned (OpenSpec.ofChange fnMinFeasibleDeadlineSpec)

/-- ITS FALSE NEIGHBOUR: 'it returns false'. Refute it at one input. -/
def fnMinFeasibleDeadlineWrong : ChangeSpec := { name := "fnMinFeasibleDeadline", fn := fun _ => fun
  | [d] => { results := [.lit (.bool false)], args := [d] }
  | _ => none }
def FnMinFeasibleDeadlineWrongFalsely : Prop := fnMinFeasibleDeadlineRow.holds Try.pinned (OpenSpec.ofChange fnMinFeasibleDeadlineWrong)

/-- 'laws.FnCostSubset': WHATEVER THE INPUT: true; the input reads as it did. -/
def fnCostSubsetSpec : ChangeSpec := { name := "fnCostSubset", fn := fun _ => fun
  | [d] => { results := [.lit (.bool true)], args := [d] }
  | _ => none }
def fnCostSubsetRow : OpenClaim := { program := "ythajimgepjbjiaa", sum := "2fef28b50ff69b7ca170acc2c4bb2e31b69fd1193489ad2aa9188f42549046d5", func := "loop.example/deadlinescheduler/laws.FnCostSubset", spec := "fnCostSubset", unfollowed := true, recurses := true, apart := false }
def FnCostSubsetSaid : Prop := fnCostSubsetRow.holds Try.pinned (OpenSpec.ofChange fnCostSubsetSpec)

/-- ITS FALSE NEIGHBOUR: 'it returns false'. Refute it at one input. -/
def fnCostSubsetWrong : ChangeSpec := { name := "fnCostSubset", fn := fun _ => fun
  | [d] => { results := [.lit (.bool false)], args := [d] }
  | _ => none }
def FnCostSubsetWrongFalsely : Prop := fnCostSubsetRow.holds Try.pinned (OpenSpec.ofChange fnCostSubsetWrong)

/- THE SECOND FORM. 'bulk': how many values and letters a reading holds, each counted each time it is reached (what is shared counts as often as it is met; a slice's spare places count too). A statement '..UptoSaid' is the law's where the arguments, and the package variables that the reading takes, are together of bulk at most 1048576: NARROWER than '..Said'. Prove '..Said' where nothing that the law and all that it calls make is longer than what came in: it says more and counts as full. Else prove '..UptoSaid'. A law counts once. -/
mutual
def uptoBulk {H : Type} : DataW H → Nat
  | .lit (.string bytes) => bytes.length + 1
  | .lit _ => 1
  | .nil => 1
  | .ptr d => uptoBulk d + 1
  | .slice elems spare => uptoBulkAll elems + uptoBulkAll spare + 1
  | .agg parts => uptoBulkAll parts + 1
  | .iface _ d => uptoBulk d + 1
  | .map entries => uptoBulkEntries entries + 1
  | .held _ => 1
def uptoBulkAll {H : Type} : List (DataW H) → Nat
  | [] => 0
  | d :: r => uptoBulk d + uptoBulkAll r
def uptoBulkEntries {H : Type} : List (Lit × DataW H) → Nat
  | [] => 0
  | x :: r => uptoBulkEntry x + uptoBulkEntries r
def uptoBulkEntry {H : Type} : Lit × DataW H → Nat
  | (.string bytes, d) => bytes.length + uptoBulk d + 1
  | (_, d) => uptoBulk d + 1
 end
def uptoSmall : (H : Type) → List (DataW H) → Bool := fun _ ds => decide (uptoBulkAll ds ≤ 1048576)
def OpenSpec.upto (s : _root_.Go.ChangeSpec) : _root_.Go.OpenSpec := { _root_.Go.OpenSpec.ofChange s with cond := some uptoSmall }

/-- 'laws.FnArrivalsLegal', WHERE WHAT IT READS IS OF BULK AT MOST 1048576: true; the input reads as it did. -/
def fnArrivalsLegalUptoRow : OpenClaim := { program := "ythajimgepjbjiaa", sum := "2fef28b50ff69b7ca170acc2c4bb2e31b69fd1193489ad2aa9188f42549046d5", func := "loop.example/deadlinescheduler/laws.FnArrivalsLegal", spec := "fnArrivalsLegal", apart := false, narrowed := true }
def FnArrivalsLegalUptoSaid : Prop := fnArrivalsLegalUptoRow.holds Try.pinned (OpenSpec.upto fnArrivalsLegalSpec)

/-- 'laws.FnSetOrder', WHERE WHAT IT READS IS OF BULK AT MOST 1048576: true; the input reads as it did. -/
def fnSetOrderUptoRow : OpenClaim := { program := "ythajimgepjbjiaa", sum := "2fef28b50ff69b7ca170acc2c4bb2e31b69fd1193489ad2aa9188f42549046d5", func := "loop.example/deadlinescheduler/laws.FnSetOrder", spec := "fnSetOrder", unfollowed := true, recurses := true, apart := false, narrowed := true }
def FnSetOrderUptoSaid : Prop := fnSetOrderUptoRow.holds Try.pinned (OpenSpec.upto fnSetOrderSpec)

/-- 'laws.FnQuickTest', WHERE WHAT IT READS IS OF BULK AT MOST 1048576: true; the input reads as it did. -/
def fnQuickTestUptoRow : OpenClaim := { program := "ythajimgepjbjiaa", sum := "2fef28b50ff69b7ca170acc2c4bb2e31b69fd1193489ad2aa9188f42549046d5", func := "loop.example/deadlinescheduler/laws.FnQuickTest", spec := "fnQuickTest", unfollowed := true, recurses := true, apart := false, narrowed := true }
def FnQuickTestUptoSaid : Prop := fnQuickTestUptoRow.holds Try.pinned (OpenSpec.upto fnQuickTestSpec)

/-- 'laws.FnMaxFeasibleCost', WHERE WHAT IT READS IS OF BULK AT MOST 1048576: true; the input reads as it did. -/
def fnMaxFeasibleCostUptoRow : OpenClaim := { program := "ythajimgepjbjiaa", sum := "2fef28b50ff69b7ca170acc2c4bb2e31b69fd1193489ad2aa9188f42549046d5", func := "loop.example/deadlinescheduler/laws.FnMaxFeasibleCost", spec := "fnMaxFeasibleCost", unfollowed := true, recurses := true, apart := false, narrowed := true }
def FnMaxFeasibleCostUptoSaid : Prop := fnMaxFeasibleCostUptoRow.holds Try.pinned (OpenSpec.upto fnMaxFeasibleCostSpec)

/-- 'laws.FnMinFeasibleDeadline', WHERE WHAT IT READS IS OF BULK AT MOST 1048576: true; the input reads as it did. -/
def fnMinFeasibleDeadlineUptoRow : OpenClaim := { program := "ythajimgepjbjiaa", sum := "2fef28b50ff69b7ca170acc2c4bb2e31b69fd1193489ad2aa9188f42549046d5", func := "loop.example/deadlinescheduler/laws.FnMinFeasibleDeadline", spec := "fnMinFeasibleDeadline", unfollowed := true, recurses := true, apart := false, narrowed := true }
def FnMinFeasibleDeadlineUptoSaid : Prop := fnMinFeasibleDeadlineUptoRow.holds Try.pinned (OpenSpec.upto fnMinFeasibleDeadlineSpec)

/-- 'laws.FnCostSubset', WHERE WHAT IT READS IS OF BULK AT MOST 1048576: true; the input reads as it did. -/
def fnCostSubsetUptoRow : OpenClaim := { program := "ythajimgepjbjiaa", sum := "2fef28b50ff69b7ca170acc2c4bb2e31b69fd1193489ad2aa9188f42549046d5", func := "loop.example/deadlinescheduler/laws.FnCostSubset", spec := "fnCostSubset", unfollowed := true, recurses := true, apart := false, narrowed := true }
def FnCostSubsetUptoSaid : Prop := fnCostSubsetUptoRow.holds Try.pinned (OpenSpec.upto fnCostSubsetSpec)

end Rows
end Go.Proofs.Ythajimgepjbjiaa
