/-
  No cell of these rows narrows 'for every input' (looked for: loops, veiled, ifaces, maps, wideKeys, modest, calm, conditions, laid).
  DERIVED. THE GIVEN ROWS OF THIS SEAT. 7 by the template 'for every input the law returns true; each argument reads behind the call as it read before'; 0 by the template 'total and deterministic' (their statements: YtmjclbjafodakaaTotals.lean).
  GIVEN WITH THE SEED: the statements are not yours to turn. If you find one false, say at which input.
  Laid BY PROGRAM, IN A SANDBOX (cutbox-rows.mjs): the forced cells as the released guide's own fill.sh prints them over the translation 43d3cf85f925af4c… (all of the seat's roots in one cut). By AI agents, Wed Nov 11 2026. No macro, syntax, notation, axiom, sorry.
-/
import Derived.Test.YtmjclbjafodakaaChecked
import GoSem.Claim
import GoSem.ClaimJoined
import GoSem.ClaimMapViews
import Derived.JoinedTies
import Derived.KernelRfl
namespace Go.Proofs.Ytmjclbjafodakaa
/- THE CELL 'sum', in the pinned program and in every row, IS THE sha256 OF THE DUMP (.gsa) THAT YtmjclbjafodakaaProg.lean LOADS. Nothing in Lean hashes anything: it is a label: what it is worth is what the hold of that sum in a sandbox is worth. -/
noncomputable def Try.pinned : Pinned := { name := "ytmjclbjafodakaa", sum := "43d3cf85f925af4c105574be5141349f7ecb1eea95fca340be3c6dbdf0dd9d24", checked := Try.checked }
namespace Rows
def none {H : Type} : Left H := { results := [], args := [] }

/-- 'laws.FnEdfFeasible': WHATEVER THE INPUT: true; the input reads as it did. -/
def fnEdfFeasibleSpec : ChangeSpec := { name := "fnEdfFeasible", fn := fun _ => fun
  | [d] => { results := [.lit (.bool true)], args := [d] }
  | _ => none }
def fnEdfFeasibleRow : OpenClaim := { program := "ytmjclbjafodakaa", sum := "43d3cf85f925af4c105574be5141349f7ecb1eea95fca340be3c6dbdf0dd9d24", func := "loop.example/deadlinescheduler/laws.FnEdfFeasible", spec := "fnEdfFeasible", unfollowed := true, recurses := true, apart := false }
def FnEdfFeasibleSaid : Prop := fnEdfFeasibleRow.holds Try.pinned (OpenSpec.ofChange fnEdfFeasibleSpec)

/-- ITS FALSE NEIGHBOUR: 'it returns false'. Refute it at one input. -/
def fnEdfFeasibleWrong : ChangeSpec := { name := "fnEdfFeasible", fn := fun _ => fun
  | [d] => { results := [.lit (.bool false)], args := [d] }
  | _ => none }
def FnEdfFeasibleWrongFalsely : Prop := fnEdfFeasibleRow.holds Try.pinned (OpenSpec.ofChange fnEdfFeasibleWrong)

/-- 'laws.FnSpeedSubset': WHATEVER THE INPUT: true; the input reads as it did. -/
def fnSpeedSubsetSpec : ChangeSpec := { name := "fnSpeedSubset", fn := fun _ => fun
  | [d] => { results := [.lit (.bool true)], args := [d] }
  | _ => none }
def fnSpeedSubsetRow : OpenClaim := { program := "ytmjclbjafodakaa", sum := "43d3cf85f925af4c105574be5141349f7ecb1eea95fca340be3c6dbdf0dd9d24", func := "loop.example/deadlinescheduler/laws.FnSpeedSubset", spec := "fnSpeedSubset", unfollowed := true, recurses := true, apart := false }
def FnSpeedSubsetSaid : Prop := fnSpeedSubsetRow.holds Try.pinned (OpenSpec.ofChange fnSpeedSubsetSpec)

/-- ITS FALSE NEIGHBOUR: 'it returns false'. Refute it at one input. -/
def fnSpeedSubsetWrong : ChangeSpec := { name := "fnSpeedSubset", fn := fun _ => fun
  | [d] => { results := [.lit (.bool false)], args := [d] }
  | _ => none }
def FnSpeedSubsetWrongFalsely : Prop := fnSpeedSubsetRow.holds Try.pinned (OpenSpec.ofChange fnSpeedSubsetWrong)

/-- 'laws.FnDensity': WHATEVER THE INPUT: true; the input reads as it did. -/
def fnDensitySpec : ChangeSpec := { name := "fnDensity", fn := fun _ => fun
  | [d] => { results := [.lit (.bool true)], args := [d] }
  | _ => none }
def fnDensityRow : OpenClaim := { program := "ytmjclbjafodakaa", sum := "43d3cf85f925af4c105574be5141349f7ecb1eea95fca340be3c6dbdf0dd9d24", func := "loop.example/deadlinescheduler/laws.FnDensity", spec := "fnDensity", unfollowed := true, recurses := true, apart := false }
def FnDensitySaid : Prop := fnDensityRow.holds Try.pinned (OpenSpec.ofChange fnDensitySpec)

/-- ITS FALSE NEIGHBOUR: 'it returns false'. Refute it at one input. -/
def fnDensityWrong : ChangeSpec := { name := "fnDensity", fn := fun _ => fun
  | [d] => { results := [.lit (.bool false)], args := [d] }
  | _ => none }
def FnDensityWrongFalsely : Prop := fnDensityRow.holds Try.pinned (OpenSpec.ofChange fnDensityWrong)

/-- 'laws.FnSpeedFeasible': WHATEVER THE INPUT: true; the input reads as it did. -/
def fnSpeedFeasibleSpec : ChangeSpec := { name := "fnSpeedFeasible", fn := fun _ => fun
  | [d] => { results := [.lit (.bool true)], args := [d] }
  | _ => none }
def fnSpeedFeasibleRow : OpenClaim := { program := "ytmjclbjafodakaa", sum := "43d3cf85f925af4c105574be5141349f7ecb1eea95fca340be3c6dbdf0dd9d24", func := "loop.example/deadlinescheduler/laws.FnSpeedFeasible", spec := "fnSpeedFeasible", unfollowed := true, recurses := true, apart := false }
def FnSpeedFeasibleSaid : Prop := fnSpeedFeasibleRow.holds Try.pinned (OpenSpec.ofChange fnSpeedFeasibleSpec)

/-- ITS FALSE NEIGHBOUR: 'it returns false'. Refute it at one input. -/
def fnSpeedFeasibleWrong : ChangeSpec := { name := "fnSpeedFeasible", fn := fun _ => fun
  | [d] => { results := [.lit (.bool false)], args := [d] }
  | _ => none }
def FnSpeedFeasibleWrongFalsely : Prop := fnSpeedFeasibleRow.holds Try.pinned (OpenSpec.ofChange fnSpeedFeasibleWrong)

/-- 'laws.FnEdfImplicit': WHATEVER THE INPUT: true; the input reads as it did. -/
def fnEdfImplicitSpec : ChangeSpec := { name := "fnEdfImplicit", fn := fun _ => fun
  | [d] => { results := [.lit (.bool true)], args := [d] }
  | _ => none }
def fnEdfImplicitRow : OpenClaim := { program := "ytmjclbjafodakaa", sum := "43d3cf85f925af4c105574be5141349f7ecb1eea95fca340be3c6dbdf0dd9d24", func := "loop.example/deadlinescheduler/laws.FnEdfImplicit", spec := "fnEdfImplicit", unfollowed := true, recurses := true, apart := false }
def FnEdfImplicitSaid : Prop := fnEdfImplicitRow.holds Try.pinned (OpenSpec.ofChange fnEdfImplicitSpec)

/-- ITS FALSE NEIGHBOUR: 'it returns false'. Refute it at one input. -/
def fnEdfImplicitWrong : ChangeSpec := { name := "fnEdfImplicit", fn := fun _ => fun
  | [d] => { results := [.lit (.bool false)], args := [d] }
  | _ => none }
def FnEdfImplicitWrongFalsely : Prop := fnEdfImplicitRow.holds Try.pinned (OpenSpec.ofChange fnEdfImplicitWrong)

/-- 'laws.FnMinSpeed': WHATEVER THE INPUT: true; the input reads as it did. -/
def fnMinSpeedSpec : ChangeSpec := { name := "fnMinSpeed", fn := fun _ => fun
  | [d] => { results := [.lit (.bool true)], args := [d] }
  | _ => none }
def fnMinSpeedRow : OpenClaim := { program := "ytmjclbjafodakaa", sum := "43d3cf85f925af4c105574be5141349f7ecb1eea95fca340be3c6dbdf0dd9d24", func := "loop.example/deadlinescheduler/laws.FnMinSpeed", spec := "fnMinSpeed", unfollowed := true, recurses := true, apart := false }
def FnMinSpeedSaid : Prop := fnMinSpeedRow.holds Try.pinned (OpenSpec.ofChange fnMinSpeedSpec)

/-- ITS FALSE NEIGHBOUR: 'it returns false'. Refute it at one input. -/
def fnMinSpeedWrong : ChangeSpec := { name := "fnMinSpeed", fn := fun _ => fun
  | [d] => { results := [.lit (.bool false)], args := [d] }
  | _ => none }
def FnMinSpeedWrongFalsely : Prop := fnMinSpeedRow.holds Try.pinned (OpenSpec.ofChange fnMinSpeedWrong)

/-- 'laws.FnSetOrder': WHATEVER THE INPUT: true; the input reads as it did. -/
def fnSetOrderSpec : ChangeSpec := { name := "fnSetOrder", fn := fun _ => fun
  | [d] => { results := [.lit (.bool true)], args := [d] }
  | _ => none }
def fnSetOrderRow : OpenClaim := { program := "ytmjclbjafodakaa", sum := "43d3cf85f925af4c105574be5141349f7ecb1eea95fca340be3c6dbdf0dd9d24", func := "loop.example/deadlinescheduler/laws.FnSetOrder", spec := "fnSetOrder", unfollowed := true, recurses := true, apart := false }
def FnSetOrderSaid : Prop := fnSetOrderRow.holds Try.pinned (OpenSpec.ofChange fnSetOrderSpec)

/-- ITS FALSE NEIGHBOUR: 'it returns false'. Refute it at one input. -/
def fnSetOrderWrong : ChangeSpec := { name := "fnSetOrder", fn := fun _ => fun
  | [d] => { results := [.lit (.bool false)], args := [d] }
  | _ => none }
def FnSetOrderWrongFalsely : Prop := fnSetOrderRow.holds Try.pinned (OpenSpec.ofChange fnSetOrderWrong)

/- THE SECOND FORM. 'bulk': how many values and letters a reading holds, each counted each time it is reached (what is shared counts as often as it is met; a slice's spare places count too). A statement '..UptoSaid' is the law's where the arguments, and the package variables that the reading takes, are together of bulk at most 1048576: NARROWER than '..Said'. Prove '..Said' where nothing that the law and all that it calls make is longer than what came in: it says more and counts as full. Else prove '..UptoSaid'. A law counts once. -/
mutual
def uptoBulk {H : Type} : DataW H → Nat
  | .lit (.string bytes) => bytes.length + 1
  | .lit _ => 1
  | .nil => 1
  | .ptr d => uptoBulk d + 1
  | .slice elems spare => uptoBulkAll elems + uptoBulkAll spare + 1
  | .agg parts => uptoBulkAll parts + 1
  | .iface _ d => uptoBulk d + 1
  | .map entries => uptoBulkEntries entries + 1
  | .held _ => 1
def uptoBulkAll {H : Type} : List (DataW H) → Nat
  | [] => 0
  | d :: r => uptoBulk d + uptoBulkAll r
def uptoBulkEntries {H : Type} : List (Lit × DataW H) → Nat
  | [] => 0
  | x :: r => uptoBulkEntry x + uptoBulkEntries r
def uptoBulkEntry {H : Type} : Lit × DataW H → Nat
  | (.string bytes, d) => bytes.length + uptoBulk d + 1
  | (_, d) => uptoBulk d + 1
 end
def uptoSmall : (H : Type) → List (DataW H) → Bool := fun _ ds => decide (uptoBulkAll ds ≤ 1048576)
def OpenSpec.upto (s : _root_.Go.ChangeSpec) : _root_.Go.OpenSpec := { _root_.Go.OpenSpec.ofChange s with cond := some uptoSmall }

/-- 'laws.FnEdfFeasible', WHERE WHAT IT READS IS OF BULK AT MOST 1048576: true; the input reads as it did. -/
def fnEdfFeasibleUptoRow : OpenClaim := { program := "ytmjclbjafodakaa", sum := "43d3cf85f925af4c105574be5141349f7ecb1eea95fca340be3c6dbdf0dd9d24", func := "loop.example/deadlinescheduler/laws.FnEdfFeasible", spec := "fnEdfFeasible", unfollowed := true, recurses := true, apart := false, narrowed := true }
def FnEdfFeasibleUptoSaid : Prop := fnEdfFeasibleUptoRow.holds Try.pinned (OpenSpec.upto fnEdfFeasibleSpec)

/-- 'laws.FnSpeedSubset', WHERE WHAT IT READS IS OF BULK AT MOST 1048576: true; the input reads as it did. -/
def fnSpeedSubsetUptoRow : OpenClaim := { program := "ytmjclbjafodakaa", sum := "43d3cf85f925af4c105574be5141349f7ecb1eea95fca340be3c6dbdf0dd9d24", func := "loop.example/deadlinescheduler/laws.FnSpeedSubset", spec := "fnSpeedSubset", unfollowed := true, recurses := true, apart := false, narrowed := true }
def FnSpeedSubsetUptoSaid : Prop := fnSpeedSubsetUptoRow.holds Try.pinned (OpenSpec.upto fnSpeedSubsetSpec)

/-- 'laws.FnDensity', WHERE WHAT IT READS IS OF BULK AT MOST 1048576: true; the input reads as it did. -/
def fnDensityUptoRow : OpenClaim := { program := "ytmjclbjafodakaa", sum := "43d3cf85f925af4c105574be5141349f7ecb1eea95fca340be3c6dbdf0dd9d24", func := "loop.example/deadlinescheduler/laws.FnDensity", spec := "fnDensity", unfollowed := true, recurses := true, apart := false, narrowed := true }
def FnDensityUptoSaid : Prop := fnDensityUptoRow.holds Try.pinned (OpenSpec.upto fnDensitySpec)

/-- 'laws.FnSpeedFeasible', WHERE WHAT IT READS IS OF BULK AT MOST 1048576: true; the input reads as it did. -/
def fnSpeedFeasibleUptoRow : OpenClaim := { program := "ytmjclbjafodakaa", sum := "43d3cf85f925af4c105574be5141349f7ecb1eea95fca340be3c6dbdf0dd9d24", func := "loop.example/deadlinescheduler/laws.FnSpeedFeasible", spec := "fnSpeedFeasible", unfollowed := true, recurses := true, apart := false, narrowed := true }
def FnSpeedFeasibleUptoSaid : Prop := fnSpeedFeasibleUptoRow.holds Try.pinned (OpenSpec.upto fnSpeedFeasibleSpec)

/-- 'laws.FnEdfImplicit', WHERE WHAT IT READS IS OF BULK AT MOST 1048576: true; the input reads as it did. -/
def fnEdfImplicitUptoRow : OpenClaim := { program := "ytmjclbjafodakaa", sum := "43d3cf85f925af4c105574be5141349f7ecb1eea95fca340be3c6dbdf0dd9d24", func := "loop.example/deadlinescheduler/laws.FnEdfImplicit", spec := "fnEdfImplicit", unfollowed := true, recurses := true, apart := false, narrowed := true }
def FnEdfImplicitUptoSaid : Prop := fnEdfImplicitUptoRow.holds Try.pinned (OpenSpec.upto fnEdfImplicitSpec)

/-- 'laws.FnMinSpeed', WHERE WHAT IT READS IS OF BULK AT MOST 1048576: true; the input reads as it did. -/
def fnMinSpeedUptoRow : OpenClaim := { program := "ytmjclbjafodakaa", sum := "43d3cf85f925af4c105574be5141349f7ecb1eea95fca340be3c6dbdf0dd9d24", func := "loop.example/deadlinescheduler/laws.FnMinSpeed", spec := "fnMinSpeed", unfollowed := true, recurses := true, apart := false, narrowed := true }
def FnMinSpeedUptoSaid : Prop := fnMinSpeedUptoRow.holds Try.pinned (OpenSpec.upto fnMinSpeedSpec)

/-- 'laws.FnSetOrder', WHERE WHAT IT READS IS OF BULK AT MOST 1048576: true; the input reads as it did. -/
def fnSetOrderUptoRow : OpenClaim := { program := "ytmjclbjafodakaa", sum := "43d3cf85f925af4c105574be5141349f7ecb1eea95fca340be3c6dbdf0dd9d24", func := "loop.example/deadlinescheduler/laws.FnSetOrder", spec := "fnSetOrder", unfollowed := true, recurses := true, apart := false, narrowed := true }
def FnSetOrderUptoSaid : Prop := fnSetOrderUptoRow.holds Try.pinned (OpenSpec.upto fnSetOrderSpec)

end Rows
end Go.Proofs.Ytmjclbjafodakaa
