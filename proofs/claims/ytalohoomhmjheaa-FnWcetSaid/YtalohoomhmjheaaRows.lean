/-
  No cell of these rows narrows 'for every input' (looked for: loops, veiled, ifaces, maps, wideKeys, modest, calm, conditions, laid).
  DERIVED. THE GIVEN ROWS OF THIS SEAT. 4 by the template 'for every input the law returns true; each argument reads behind the call as it read before'; 0 by the template 'total and deterministic' (their statements: YtalohoomhmjheaaTotals.lean).
  GIVEN WITH THE SEED: the statements are not yours to turn. If you find one false, say at which input.
  Laid BY PROGRAM, IN A SANDBOX (cutbox-rows.mjs): the forced cells as the released guide's own fill.sh prints them over the translation 8162446da2a101aa… (all of the seat's roots in one cut). By AI agents, Wed Nov 11 2026. No macro, syntax, notation, axiom, sorry.
-/
import Derived.Test.YtalohoomhmjheaaChecked
import GoSem.Claim
import GoSem.ClaimJoined
import GoSem.ClaimMapViews
import Derived.JoinedTies
import Derived.KernelRfl
namespace Go.Proofs.Ytalohoomhmjheaa
/- THE CELL 'sum', in the pinned program and in every row, IS THE sha256 OF THE DUMP (.gsa) THAT YtalohoomhmjheaaProg.lean LOADS. Nothing in Lean hashes anything: it is a label: what it is worth is what the hold of that sum in a sandbox is worth. -/
noncomputable def Try.pinned : Pinned := { name := "ytalohoomhmjheaa", sum := "8162446da2a101aaee2461e81c09218067ca38e7031c849f94928c3946e4feed", checked := Try.checked }
namespace Rows
def none {H : Type} : Left H := { results := [], args := [] }

/-- 'laws.FnProgramValid': WHATEVER THE INPUT: true; the input reads as it did. -/
def fnProgramValidSpec : ChangeSpec := { name := "fnProgramValid", fn := fun _ => fun
  | [d] => { results := [.lit (.bool true)], args := [d] }
  | _ => none }
def fnProgramValidRow : OpenClaim := { program := "ytalohoomhmjheaa", sum := "8162446da2a101aaee2461e81c09218067ca38e7031c849f94928c3946e4feed", func := "loop.example/deadlinescheduler/laws.FnProgramValid", spec := "fnProgramValid", apart := false }
def FnProgramValidSaid : Prop := fnProgramValidRow.holds Try.pinned (OpenSpec.ofChange fnProgramValidSpec)

/-- ITS FALSE NEIGHBOUR: 'it returns false'. Refute it at one input. -/
def fnProgramValidWrong : ChangeSpec := { name := "fnProgramValid", fn := fun _ => fun
  | [d] => { results := [.lit (.bool false)], args := [d] }
  | _ => none }
def FnProgramValidWrongFalsely : Prop := fnProgramValidRow.holds Try.pinned (OpenSpec.ofChange fnProgramValidWrong)

/-- 'laws.FnWcetMonotone': WHATEVER THE INPUT: true; the input reads as it did. -/
def fnWcetMonotoneSpec : ChangeSpec := { name := "fnWcetMonotone", fn := fun _ => fun
  | [d] => { results := [.lit (.bool true)], args := [d] }
  | _ => none }
def fnWcetMonotoneRow : OpenClaim := { program := "ytalohoomhmjheaa", sum := "8162446da2a101aaee2461e81c09218067ca38e7031c849f94928c3946e4feed", func := "loop.example/deadlinescheduler/laws.FnWcetMonotone", spec := "fnWcetMonotone", apart := false }
def FnWcetMonotoneSaid : Prop := fnWcetMonotoneRow.holds Try.pinned (OpenSpec.ofChange fnWcetMonotoneSpec)

/-- ITS FALSE NEIGHBOUR: 'it returns false'. Refute it at one input. -/
def fnWcetMonotoneWrong : ChangeSpec := { name := "fnWcetMonotone", fn := fun _ => fun
  | [d] => { results := [.lit (.bool false)], args := [d] }
  | _ => none }
def FnWcetMonotoneWrongFalsely : Prop := fnWcetMonotoneRow.holds Try.pinned (OpenSpec.ofChange fnWcetMonotoneWrong)

/-- 'laws.FnRunProgram': WHATEVER THE INPUT: true; the input reads as it did. -/
def fnRunProgramSpec : ChangeSpec := { name := "fnRunProgram", fn := fun _ => fun
  | [d] => { results := [.lit (.bool true)], args := [d] }
  | _ => none }
def fnRunProgramRow : OpenClaim := { program := "ytalohoomhmjheaa", sum := "8162446da2a101aaee2461e81c09218067ca38e7031c849f94928c3946e4feed", func := "loop.example/deadlinescheduler/laws.FnRunProgram", spec := "fnRunProgram", unfollowed := true, recurses := true, apart := false }
def FnRunProgramSaid : Prop := fnRunProgramRow.holds Try.pinned (OpenSpec.ofChange fnRunProgramSpec)

/-- ITS FALSE NEIGHBOUR: 'it returns false'. Refute it at one input. -/
def fnRunProgramWrong : ChangeSpec := { name := "fnRunProgram", fn := fun _ => fun
  | [d] => { results := [.lit (.bool false)], args := [d] }
  | _ => none }
def FnRunProgramWrongFalsely : Prop := fnRunProgramRow.holds Try.pinned (OpenSpec.ofChange fnRunProgramWrong)

/-- 'laws.FnWcet': WHATEVER THE INPUT: true; the input reads as it did. -/
def fnWcetSpec : ChangeSpec := { name := "fnWcet", fn := fun _ => fun
  | [d] => { results := [.lit (.bool true)], args := [d] }
  | _ => none }
def fnWcetRow : OpenClaim := { program := "ytalohoomhmjheaa", sum := "8162446da2a101aaee2461e81c09218067ca38e7031c849f94928c3946e4feed", func := "loop.example/deadlinescheduler/laws.FnWcet", spec := "fnWcet", unfollowed := true, recurses := true, apart := false }
def FnWcetSaid : Prop := fnWcetRow.holds Try.pinned (OpenSpec.ofChange fnWcetSpec)

/-- ITS FALSE NEIGHBOUR: 'it returns false'. Refute it at one input. -/
def fnWcetWrong : ChangeSpec := { name := "fnWcet", fn := fun _ => fun
  | [d] => { results := [.lit (.bool false)], args := [d] }
  | _ => none }
def FnWcetWrongFalsely : Prop := fnWcetRow.holds Try.pinned (OpenSpec.ofChange fnWcetWrong)

/- THE SECOND FORM. 'bulk': how many values and letters a reading holds, each counted each time it is reached (what is shared counts as often as it is met; a slice's spare places count too). A statement '..UptoSaid' is the law's where the arguments, and the package variables that the reading takes, are together of bulk at most 1048576: NARROWER than '..Said'. Prove '..Said' where nothing that the law and all that it calls make is longer than what came in: it says more and counts as full. Else prove '..UptoSaid'. A law counts once. -/
mutual
def uptoBulk {H : Type} : DataW H → Nat
  | .lit (.string bytes) => bytes.length + 1
  | .lit _ => 1
  | .nil => 1
  | .ptr d => uptoBulk d + 1
  | .slice elems spare => uptoBulkAll elems + uptoBulkAll spare + 1
  | .agg parts => uptoBulkAll parts + 1
  | .iface _ d => uptoBulk d + 1
  | .map entries => uptoBulkEntries entries + 1
  | .held _ => 1
def uptoBulkAll {H : Type} : List (DataW H) → Nat
  | [] => 0
  | d :: r => uptoBulk d + uptoBulkAll r
def uptoBulkEntries {H : Type} : List (Lit × DataW H) → Nat
  | [] => 0
  | x :: r => uptoBulkEntry x + uptoBulkEntries r
def uptoBulkEntry {H : Type} : Lit × DataW H → Nat
  | (.string bytes, d) => bytes.length + uptoBulk d + 1
  | (_, d) => uptoBulk d + 1
 end
def uptoSmall : (H : Type) → List (DataW H) → Bool := fun _ ds => decide (uptoBulkAll ds ≤ 1048576)
def OpenSpec.upto (s : _root_.Go.ChangeSpec) : _root_.Go.OpenSpec := { _root_.Go.OpenSpec.ofChange s with cond := some uptoSmall }

/-- 'laws.FnProgramValid', WHERE WHAT IT READS IS OF BULK AT MOST 1048576: true; the input reads as it did. -/
def fnProgramValidUptoRow : OpenClaim := { program := "ytalohoomhmjheaa", sum := "8162446da2a101aaee2461e81c09218067ca38e7031c849f94928c3946e4feed", func := "loop.example/deadlinescheduler/laws.FnProgramValid", spec := "fnProgramValid", apart := false, narrowed := true }
def FnProgramValidUptoSaid : Prop := fnProgramValidUptoRow.holds Try.pinned (OpenSpec.upto fnProgramValidSpec)

/-- 'laws.FnWcetMonotone', WHERE WHAT IT READS IS OF BULK AT MOST 1048576: true; the input reads as it did. -/
def fnWcetMonotoneUptoRow : OpenClaim := { program := "ytalohoomhmjheaa", sum := "8162446da2a101aaee2461e81c09218067ca38e7031c849f94928c3946e4feed", func := "loop.example/deadlinescheduler/laws.FnWcetMonotone", spec := "fnWcetMonotone", apart := false, narrowed := true }
def FnWcetMonotoneUptoSaid : Prop := fnWcetMonotoneUptoRow.holds Try.pinned (OpenSpec.upto fnWcetMonotoneSpec)

/-- 'laws.FnRunProgram', WHERE WHAT IT READS IS OF BULK AT MOST 1048576: true; the input reads as it did. -/
def fnRunProgramUptoRow : OpenClaim := { program := "ytalohoomhmjheaa", sum := "8162446da2a101aaee2461e81c09218067ca38e7031c849f94928c3946e4feed", func := "loop.example/deadlinescheduler/laws.FnRunProgram", spec := "fnRunProgram", unfollowed := true, recurses := true, apart := false, narrowed := true }
def FnRunProgramUptoSaid : Prop := fnRunProgramUptoRow.holds Try.pinned (OpenSpec.upto fnRunProgramSpec)

/-- 'laws.FnWcet', WHERE WHAT IT READS IS OF BULK AT MOST 1048576: true; the input reads as it did. -/
def fnWcetUptoRow : OpenClaim := { program := "ytalohoomhmjheaa", sum := "8162446da2a101aaee2461e81c09218067ca38e7031c849f94928c3946e4feed", func := "loop.example/deadlinescheduler/laws.FnWcet", spec := "fnWcet", unfollowed := true, recurses := true, apart := false, narrowed := true }
def FnWcetUptoSaid : Prop := fnWcetUptoRow.holds Try.pinned (OpenSpec.upto fnWcetSpec)

end Rows
end Go.Proofs.Ytalohoomhmjheaa
