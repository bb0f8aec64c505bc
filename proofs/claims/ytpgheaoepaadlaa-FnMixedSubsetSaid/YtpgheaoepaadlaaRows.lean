/-
  No cell of these rows narrows 'for every input' (looked for: loops, veiled, ifaces, maps, wideKeys, modest, calm, conditions, laid).
  DERIVED. THE GIVEN ROWS OF THIS SEAT. 8 by the template 'for every input the law returns true; each argument reads behind the call as it read before'; 0 by the template 'total and deterministic' (their statements: YtpgheaoepaadlaaTotals.lean).
  GIVEN WITH THE SEED: the statements are not yours to turn. If you find one false, say at which input.
  Laid BY PROGRAM, IN A SANDBOX (cutbox-rows.mjs): the forced cells as the released guide's own fill.sh prints them over the translation bf9f2760a4438c2f… (all of the seat's roots in one cut). By AI agents, Wed Nov 11 2026. No macro, syntax, notation, axiom, sorry.
-/
import Derived.Test.YtpgheaoepaadlaaChecked
import GoSem.Claim
import GoSem.ClaimJoined
import GoSem.ClaimMapViews
import Derived.JoinedTies
import Derived.KernelRfl
namespace Go.Proofs.Ytpgheaoepaadlaa
/- THE CELL 'sum', in the pinned program and in every row, IS THE sha256 OF THE DUMP (.gsa) THAT YtpgheaoepaadlaaProg.lean LOADS. Nothing in Lean hashes anything: it is a label: what it is worth is what the hold of that sum in a sandbox is worth. -/
noncomputable def Try.pinned : Pinned := { name := "ytpgheaoepaadlaa", sum := "bf9f2760a4438c2f8fd02bab654a4cb50bb339981fda4b38e8143b8b692e414d", checked := Try.checked }
namespace Rows
def none {H : Type} : Left H := { results := [], args := [] }

/-- 'laws.FnServersValid': WHATEVER THE INPUT: true; the input reads as it did. -/
def fnServersValidSpec : ChangeSpec := { name := "fnServersValid", fn := fun _ => fun
  | [d] => { results := [.lit (.bool true)], args := [d] }
  | _ => none }
def fnServersValidRow : OpenClaim := { program := "ytpgheaoepaadlaa", sum := "bf9f2760a4438c2f8fd02bab654a4cb50bb339981fda4b38e8143b8b692e414d", func := "loop.example/deadlinescheduler/laws.FnServersValid", spec := "fnServersValid", unfollowed := true, recurses := true, apart := false }
def FnServersValidSaid : Prop := fnServersValidRow.holds Try.pinned (OpenSpec.ofChange fnServersValidSpec)

/-- ITS FALSE NEIGHBOUR: 'it returns false'. Refute it at one input. -/
def fnServersValidWrong : ChangeSpec := { name := "fnServersValid", fn := fun _ => fun
  | [d] => { results := [.lit (.bool false)], args := [d] }
  | _ => none }
def FnServersValidWrongFalsely : Prop := fnServersValidRow.holds Try.pinned (OpenSpec.ofChange fnServersValidWrong)

/-- 'laws.FnExactMixedValid': WHATEVER THE INPUT: true; the input reads as it did. -/
def fnExactMixedValidSpec : ChangeSpec := { name := "fnExactMixedValid", fn := fun _ => fun
  | [d] => { results := [.lit (.bool true)], args := [d] }
  | _ => none }
def fnExactMixedValidRow : OpenClaim := { program := "ytpgheaoepaadlaa", sum := "bf9f2760a4438c2f8fd02bab654a4cb50bb339981fda4b38e8143b8b692e414d", func := "loop.example/deadlinescheduler/laws.FnExactMixedValid", spec := "fnExactMixedValid", unfollowed := true, recurses := true, apart := false }
def FnExactMixedValidSaid : Prop := fnExactMixedValidRow.holds Try.pinned (OpenSpec.ofChange fnExactMixedValidSpec)

/-- ITS FALSE NEIGHBOUR: 'it returns false'. Refute it at one input. -/
def fnExactMixedValidWrong : ChangeSpec := { name := "fnExactMixedValid", fn := fun _ => fun
  | [d] => { results := [.lit (.bool false)], args := [d] }
  | _ => none }
def FnExactMixedValidWrongFalsely : Prop := fnExactMixedValidRow.holds Try.pinned (OpenSpec.ofChange fnExactMixedValidWrong)

/-- 'laws.FnMixedValid': WHATEVER THE INPUT: true; the input reads as it did. -/
def fnMixedValidSpec : ChangeSpec := { name := "fnMixedValid", fn := fun _ => fun
  | [d] => { results := [.lit (.bool true)], args := [d] }
  | _ => none }
def fnMixedValidRow : OpenClaim := { program := "ytpgheaoepaadlaa", sum := "bf9f2760a4438c2f8fd02bab654a4cb50bb339981fda4b38e8143b8b692e414d", func := "loop.example/deadlinescheduler/laws.FnMixedValid", spec := "fnMixedValid", unfollowed := true, recurses := true, apart := false }
def FnMixedValidSaid : Prop := fnMixedValidRow.holds Try.pinned (OpenSpec.ofChange fnMixedValidSpec)

/-- ITS FALSE NEIGHBOUR: 'it returns false'. Refute it at one input. -/
def fnMixedValidWrong : ChangeSpec := { name := "fnMixedValid", fn := fun _ => fun
  | [d] => { results := [.lit (.bool false)], args := [d] }
  | _ => none }
def FnMixedValidWrongFalsely : Prop := fnMixedValidRow.holds Try.pinned (OpenSpec.ofChange fnMixedValidWrong)

/-- 'laws.FnMixedSubset': WHATEVER THE INPUT: true; the input reads as it did. -/
def fnMixedSubsetSpec : ChangeSpec := { name := "fnMixedSubset", fn := fun _ => fun
  | [d] => { results := [.lit (.bool true)], args := [d] }
  | _ => none }
def fnMixedSubsetRow : OpenClaim := { program := "ytpgheaoepaadlaa", sum := "bf9f2760a4438c2f8fd02bab654a4cb50bb339981fda4b38e8143b8b692e414d", func := "loop.example/deadlinescheduler/laws.FnMixedSubset", spec := "fnMixedSubset", unfollowed := true, recurses := true, apart := false }
def FnMixedSubsetSaid : Prop := fnMixedSubsetRow.holds Try.pinned (OpenSpec.ofChange fnMixedSubsetSpec)

/-- ITS FALSE NEIGHBOUR: 'it returns false'. Refute it at one input. -/
def fnMixedSubsetWrong : ChangeSpec := { name := "fnMixedSubset", fn := fun _ => fun
  | [d] => { results := [.lit (.bool false)], args := [d] }
  | _ => none }
def FnMixedSubsetWrongFalsely : Prop := fnMixedSubsetRow.holds Try.pinned (OpenSpec.ofChange fnMixedSubsetWrong)

/-- 'laws.FnExactDeadlineScale': WHATEVER THE INPUT: true; the input reads as it did. -/
def fnExactDeadlineScaleSpec : ChangeSpec := { name := "fnExactDeadlineScale", fn := fun _ => fun
  | [d] => { results := [.lit (.bool true)], args := [d] }
  | _ => none }
def fnExactDeadlineScaleRow : OpenClaim := { program := "ytpgheaoepaadlaa", sum := "bf9f2760a4438c2f8fd02bab654a4cb50bb339981fda4b38e8143b8b692e414d", func := "loop.example/deadlinescheduler/laws.FnExactDeadlineScale", spec := "fnExactDeadlineScale", unfollowed := true, recurses := true, apart := false }
def FnExactDeadlineScaleSaid : Prop := fnExactDeadlineScaleRow.holds Try.pinned (OpenSpec.ofChange fnExactDeadlineScaleSpec)

/-- ITS FALSE NEIGHBOUR: 'it returns false'. Refute it at one input. -/
def fnExactDeadlineScaleWrong : ChangeSpec := { name := "fnExactDeadlineScale", fn := fun _ => fun
  | [d] => { results := [.lit (.bool false)], args := [d] }
  | _ => none }
def FnExactDeadlineScaleWrongFalsely : Prop := fnExactDeadlineScaleRow.holds Try.pinned (OpenSpec.ofChange fnExactDeadlineScaleWrong)

/-- 'laws.FnDeadlineScale': WHATEVER THE INPUT: true; the input reads as it did. -/
def fnDeadlineScaleSpec : ChangeSpec := { name := "fnDeadlineScale", fn := fun _ => fun
  | [d] => { results := [.lit (.bool true)], args := [d] }
  | _ => none }
def fnDeadlineScaleRow : OpenClaim := { program := "ytpgheaoepaadlaa", sum := "bf9f2760a4438c2f8fd02bab654a4cb50bb339981fda4b38e8143b8b692e414d", func := "loop.example/deadlinescheduler/laws.FnDeadlineScale", spec := "fnDeadlineScale", unfollowed := true, recurses := true, apart := false }
def FnDeadlineScaleSaid : Prop := fnDeadlineScaleRow.holds Try.pinned (OpenSpec.ofChange fnDeadlineScaleSpec)

/-- ITS FALSE NEIGHBOUR: 'it returns false'. Refute it at one input. -/
def fnDeadlineScaleWrong : ChangeSpec := { name := "fnDeadlineScale", fn := fun _ => fun
  | [d] => { results := [.lit (.bool false)], args := [d] }
  | _ => none }
def FnDeadlineScaleWrongFalsely : Prop := fnDeadlineScaleRow.holds Try.pinned (OpenSpec.ofChange fnDeadlineScaleWrong)

/-- 'laws.FnExactMixedLegal': WHATEVER THE INPUT: true; the input reads as it did. -/
def fnExactMixedLegalSpec : ChangeSpec := { name := "fnExactMixedLegal", fn := fun _ => fun
  | [d1, d2] => { results := [.lit (.bool true)], args := [d1, d2] }
  | _ => none }
def fnExactMixedLegalRow : OpenClaim := { program := "ytpgheaoepaadlaa", sum := "bf9f2760a4438c2f8fd02bab654a4cb50bb339981fda4b38e8143b8b692e414d", func := "loop.example/deadlinescheduler/laws.FnExactMixedLegal", spec := "fnExactMixedLegal", unfollowed := true, recurses := true, apart := false }
def FnExactMixedLegalSaid : Prop := fnExactMixedLegalRow.holds Try.pinned (OpenSpec.ofChange fnExactMixedLegalSpec)

/-- ITS FALSE NEIGHBOUR: 'it returns false'. Refute it at one input. -/
def fnExactMixedLegalWrong : ChangeSpec := { name := "fnExactMixedLegal", fn := fun _ => fun
  | [d1, d2] => { results := [.lit (.bool false)], args := [d1, d2] }
  | _ => none }
def FnExactMixedLegalWrongFalsely : Prop := fnExactMixedLegalRow.holds Try.pinned (OpenSpec.ofChange fnExactMixedLegalWrong)

/-- 'laws.FnMixedLegal': WHATEVER THE INPUT: true; the input reads as it did. -/
def fnMixedLegalSpec : ChangeSpec := { name := "fnMixedLegal", fn := fun _ => fun
  | [d] => { results := [.lit (.bool true)], args := [d] }
  | _ => none }
def fnMixedLegalRow : OpenClaim := { program := "ytpgheaoepaadlaa", sum := "bf9f2760a4438c2f8fd02bab654a4cb50bb339981fda4b38e8143b8b692e414d", func := "loop.example/deadlinescheduler/laws.FnMixedLegal", spec := "fnMixedLegal", unfollowed := true, recurses := true, apart := false }
def FnMixedLegalSaid : Prop := fnMixedLegalRow.holds Try.pinned (OpenSpec.ofChange fnMixedLegalSpec)

/-- ITS FALSE NEIGHBOUR: 'it returns false'. Refute it at one input. -/
def fnMixedLegalWrong : ChangeSpec := { name := "fnMixedLegal", fn := fun _ => fun
  | [d] => { results := [.lit (.bool false)], args := [d] }
  | _ => none }
def FnMixedLegalWrongFalsely : Prop := fnMixedLegalRow.holds Try.pinned (OpenSpec.ofChange fnMixedLegalWrong)

/- THE SECOND FORM. 'bulk': how many values and letters a reading holds, each counted each time it is reached (what is shared counts as often as it is met; a slice's spare places count too). A statement '..UptoSaid' is the law's where the arguments, and the package variables that the reading takes, are together of bulk at most 1048576: NARROWER than '..Said'. Prove '..Said' where nothing that the law and all that it calls make is longer than what came in: it says more and counts as full. Else prove '..UptoSaid'. A law counts once. -/
mutual
def uptoBulk {H : Type} : DataW H → Nat
  | .lit (.string bytes) => bytes.length + 1
  | .lit _ => 1
  | .nil => 1
  | .ptr d => uptoBulk d + 1
  | .slice elems spare => uptoBulkAll elems + uptoBulkAll spare + 1
  | .agg parts => uptoBulkAll parts + 1
  | .iface _ d => uptoBulk d + 1
  | .map entries => uptoBulkEntries entries + 1
  | .held _ => 1
def uptoBulkAll {H : Type} : List (DataW H) → Nat
  | [] => 0
  | d :: r => uptoBulk d + uptoBulkAll r
def uptoBulkEntries {H : Type} : List (Lit × DataW H) → Nat
  | [] => 0
  | x :: r => uptoBulkEntry x + uptoBulkEntries r
def uptoBulkEntry {H : Type} : Lit × DataW H → Nat
  | (.string bytes, d) => bytes.length + uptoBulk d + 1
  | (_, d) => uptoBulk d + 1
 end
def uptoSmall : (H : Type) → List (DataW H) → Bool := fun _ ds => decide (uptoBulkAll ds ≤ 1048576)
def OpenSpec.upto (s : _root_.Go.ChangeSpec) : _root_.Go.OpenSpec := { _root_.Go.OpenSpec.ofChange s with cond := some uptoSmall }

/-- 'laws.FnServersValid', WHERE WHAT IT READS IS OF BULK AT MOST 1048576: true; the input reads as it did. -/
def fnServersValidUptoRow : OpenClaim := { program := "ytpgheaoepaadlaa", sum := "bf9f2760a4438c2f8fd02bab654a4cb50bb339981fda4b38e8143b8b692e414d", func := "loop.example/deadlinescheduler/laws.FnServersValid", spec := "fnServersValid", unfollowed := true, recurses := true, apart := false, narrowed := true }
def FnServersValidUptoSaid : Prop := fnServersValidUptoRow.holds Try.pinned (OpenSpec.upto fnServersValidSpec)

/-- 'laws.FnExactMixedValid', WHERE WHAT IT READS IS OF BULK AT MOST 1048576: true; the input reads as it did. -/
def fnExactMixedValidUptoRow : OpenClaim := { program := "ytpgheaoepaadlaa", sum := "bf9f2760a4438c2f8fd02bab654a4cb50bb339981fda4b38e8143b8b692e414d", func := "loop.example/deadlinescheduler/laws.FnExactMixedValid", spec := "fnExactMixedValid", unfollowed := true, recurses := true, apart := false, narrowed := true }
def FnExactMixedValidUptoSaid : Prop := fnExactMixedValidUptoRow.holds Try.pinned (OpenSpec.upto fnExactMixedValidSpec)

/-- 'laws.FnMixedValid', WHERE WHAT IT READS IS OF BULK AT MOST 1048576: true; the input reads as it did. -/
def fnMixedValidUptoRow : OpenClaim := { program := "ytpgheaoepaadlaa", sum := "bf9f2760a4438c2f8fd02bab654a4cb50bb339981fda4b38e8143b8b692e414d", func := "loop.example/deadlinescheduler/laws.FnMixedValid", spec := "fnMixedValid", unfollowed := true, recurses := true, apart := false, narrowed := true }
def FnMixedValidUptoSaid : Prop := fnMixedValidUptoRow.holds Try.pinned (OpenSpec.upto fnMixedValidSpec)

/-- 'laws.FnMixedSubset', WHERE WHAT IT READS IS OF BULK AT MOST 1048576: true; the input reads as it did. -/
def fnMixedSubsetUptoRow : OpenClaim := { program := "ytpgheaoepaadlaa", sum := "bf9f2760a4438c2f8fd02bab654a4cb50bb339981fda4b38e8143b8b692e414d", func := "loop.example/deadlinescheduler/laws.FnMixedSubset", spec := "fnMixedSubset", unfollowed := true, recurses := true, apart := false, narrowed := true }
def FnMixedSubsetUptoSaid : Prop := fnMixedSubsetUptoRow.holds Try.pinned (OpenSpec.upto fnMixedSubsetSpec)

/-- 'laws.FnExactDeadlineScale', WHERE WHAT IT READS IS OF BULK AT MOST 1048576: true; the input reads as it did. -/
def fnExactDeadlineScaleUptoRow : OpenClaim := { program := "ytpgheaoepaadlaa", sum := "bf9f2760a4438c2f8fd02bab654a4cb50bb339981fda4b38e8143b8b692e414d", func := "loop.example/deadlinescheduler/laws.FnExactDeadlineScale", spec := "fnExactDeadlineScale", unfollowed := true, recurses := true, apart := false, narrowed := true }
def FnExactDeadlineScaleUptoSaid : Prop := fnExactDeadlineScaleUptoRow.holds Try.pinned (OpenSpec.upto fnExactDeadlineScaleSpec)

/-- 'laws.FnDeadlineScale', WHERE WHAT IT READS IS OF BULK AT MOST 1048576: true; the input reads as it did. -/
def fnDeadlineScaleUptoRow : OpenClaim := { program := "ytpgheaoepaadlaa", sum := "bf9f2760a4438c2f8fd02bab654a4cb50bb339981fda4b38e8143b8b692e414d", func := "loop.example/deadlinescheduler/laws.FnDeadlineScale", spec := "fnDeadlineScale", unfollowed := true, recurses := true, apart := false, narrowed := true }
def FnDeadlineScaleUptoSaid : Prop := fnDeadlineScaleUptoRow.holds Try.pinned (OpenSpec.upto fnDeadlineScaleSpec)

/-- 'laws.FnExactMixedLegal', WHERE WHAT IT READS IS OF BULK AT MOST 1048576: true; the input reads as it did. -/
def fnExactMixedLegalUptoRow : OpenClaim := { program := "ytpgheaoepaadlaa", sum := "bf9f2760a4438c2f8fd02bab654a4cb50bb339981fda4b38e8143b8b692e414d", func := "loop.example/deadlinescheduler/laws.FnExactMixedLegal", spec := "fnExactMixedLegal", unfollowed := true, recurses := true, apart := false, narrowed := true }
def FnExactMixedLegalUptoSaid : Prop := fnExactMixedLegalUptoRow.holds Try.pinned (OpenSpec.upto fnExactMixedLegalSpec)

/-- 'laws.FnMixedLegal', WHERE WHAT IT READS IS OF BULK AT MOST 1048576: true; the input reads as it did. -/
def fnMixedLegalUptoRow : OpenClaim := { program := "ytpgheaoepaadlaa", sum := "bf9f2760a4438c2f8fd02bab654a4cb50bb339981fda4b38e8143b8b692e414d", func := "loop.example/deadlinescheduler/laws.FnMixedLegal", spec := "fnMixedLegal", unfollowed := true, recurses := true, apart := false, narrowed := true }
def FnMixedLegalUptoSaid : Prop := fnMixedLegalUptoRow.holds Try.pinned (OpenSpec.upto fnMixedLegalSpec)

end Rows
end Go.Proofs.Ytpgheaoepaadlaa
