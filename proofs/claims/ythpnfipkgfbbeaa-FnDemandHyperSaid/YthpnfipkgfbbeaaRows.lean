/-
  No cell of these rows narrows 'for every input' (looked for: loops, veiled, ifaces, maps, wideKeys, modest, calm, conditions, laid).
  DERIVED. THE GIVEN ROWS OF THIS SEAT. 8 by the template 'for every input the law returns true; each argument reads behind the call as it read before'; 0 by the template 'total and deterministic' (their statements: YthpnfipkgfbbeaaTotals.lean).
  GIVEN WITH THE SEED: the statements are not yours to turn. If you find one false, say at which input.
  Laid BY PROGRAM, IN A SANDBOX (cutbox-rows.mjs): the forced cells as the released guide's own fill.sh prints them over the translation 321ed8fdbf59508b… (all of the seat's roots in one cut). By AI agents, Wed Nov 11 2026. No macro, syntax, notation, axiom, sorry.
-/
import Derived.Test.YthpnfipkgfbbeaaChecked
import GoSem.Claim
import GoSem.ClaimJoined
import GoSem.ClaimMapViews
import Derived.JoinedTies
import Derived.KernelRfl
namespace Go.Proofs.Ythpnfipkgfbbeaa
/- THE CELL 'sum', in the pinned program and in every row, IS THE sha256 OF THE DUMP (.gsa) THAT YthpnfipkgfbbeaaProg.lean LOADS. Nothing in Lean hashes anything: it is a label: what it is worth is what the hold of that sum in a sandbox is worth. -/
noncomputable def Try.pinned : Pinned := { name := "ythpnfipkgfbbeaa", sum := "321ed8fdbf59508b8940edcf2514e5e388dc6022430c19f59b007cddcc3fc666", checked := Try.checked }
namespace Rows
def none {H : Type} : Left H := { results := [], args := [] }

/-- 'laws.FnHyperperiod': WHATEVER THE INPUT: true; the input reads as it did. -/
def fnHyperperiodSpec : ChangeSpec := { name := "fnHyperperiod", fn := fun _ => fun
  | [d] => { results := [.lit (.bool true)], args := [d] }
  | _ => none }
def fnHyperperiodRow : OpenClaim := { program := "ythpnfipkgfbbeaa", sum := "321ed8fdbf59508b8940edcf2514e5e388dc6022430c19f59b007cddcc3fc666", func := "loop.example/deadlinescheduler/laws.FnHyperperiod", spec := "fnHyperperiod", unfollowed := true, recurses := true, apart := false }
def FnHyperperiodSaid : Prop := fnHyperperiodRow.holds Try.pinned (OpenSpec.ofChange fnHyperperiodSpec)

/-- ITS FALSE NEIGHBOUR: 'it returns false'. Refute it at one input. -/
def fnHyperperiodWrong : ChangeSpec := { name := "fnHyperperiod", fn := fun _ => fun
  | [d] => { results := [.lit (.bool false)], args := [d] }
  | _ => none }
def FnHyperperiodWrongFalsely : Prop := fnHyperperiodRow.holds Try.pinned (OpenSpec.ofChange fnHyperperiodWrong)

/-- 'laws.FnHyperSubset': WHATEVER THE INPUT: true; the input reads as it did. -/
def fnHyperSubsetSpec : ChangeSpec := { name := "fnHyperSubset", fn := fun _ => fun
  | [d] => { results := [.lit (.bool true)], args := [d] }
  | _ => none }
def fnHyperSubsetRow : OpenClaim := { program := "ythpnfipkgfbbeaa", sum := "321ed8fdbf59508b8940edcf2514e5e388dc6022430c19f59b007cddcc3fc666", func := "loop.example/deadlinescheduler/laws.FnHyperSubset", spec := "fnHyperSubset", unfollowed := true, recurses := true, apart := false }
def FnHyperSubsetSaid : Prop := fnHyperSubsetRow.holds Try.pinned (OpenSpec.ofChange fnHyperSubsetSpec)

/-- ITS FALSE NEIGHBOUR: 'it returns false'. Refute it at one input. -/
def fnHyperSubsetWrong : ChangeSpec := { name := "fnHyperSubset", fn := fun _ => fun
  | [d] => { results := [.lit (.bool false)], args := [d] }
  | _ => none }
def FnHyperSubsetWrongFalsely : Prop := fnHyperSubsetRow.holds Try.pinned (OpenSpec.ofChange fnHyperSubsetWrong)

/-- 'laws.FnLastDeadline': WHATEVER THE INPUT: true; the input reads as it did. -/
def fnLastDeadlineSpec : ChangeSpec := { name := "fnLastDeadline", fn := fun _ => fun
  | [d] => { results := [.lit (.bool true)], args := [d] }
  | _ => none }
def fnLastDeadlineRow : OpenClaim := { program := "ythpnfipkgfbbeaa", sum := "321ed8fdbf59508b8940edcf2514e5e388dc6022430c19f59b007cddcc3fc666", func := "loop.example/deadlinescheduler/laws.FnLastDeadline", spec := "fnLastDeadline", unfollowed := true, recurses := true, apart := false }
def FnLastDeadlineSaid : Prop := fnLastDeadlineRow.holds Try.pinned (OpenSpec.ofChange fnLastDeadlineSpec)

/-- ITS FALSE NEIGHBOUR: 'it returns false'. Refute it at one input. -/
def fnLastDeadlineWrong : ChangeSpec := { name := "fnLastDeadline", fn := fun _ => fun
  | [d] => { results := [.lit (.bool false)], args := [d] }
  | _ => none }
def FnLastDeadlineWrongFalsely : Prop := fnLastDeadlineRow.holds Try.pinned (OpenSpec.ofChange fnLastDeadlineWrong)

/-- 'laws.FnDemand': WHATEVER THE INPUT: true; the input reads as it did. -/
def fnDemandSpec : ChangeSpec := { name := "fnDemand", fn := fun _ => fun
  | [d] => { results := [.lit (.bool true)], args := [d] }
  | _ => none }
def fnDemandRow : OpenClaim := { program := "ythpnfipkgfbbeaa", sum := "321ed8fdbf59508b8940edcf2514e5e388dc6022430c19f59b007cddcc3fc666", func := "loop.example/deadlinescheduler/laws.FnDemand", spec := "fnDemand", unfollowed := true, recurses := true, apart := false }
def FnDemandSaid : Prop := fnDemandRow.holds Try.pinned (OpenSpec.ofChange fnDemandSpec)

/-- ITS FALSE NEIGHBOUR: 'it returns false'. Refute it at one input. -/
def fnDemandWrong : ChangeSpec := { name := "fnDemand", fn := fun _ => fun
  | [d] => { results := [.lit (.bool false)], args := [d] }
  | _ => none }
def FnDemandWrongFalsely : Prop := fnDemandRow.holds Try.pinned (OpenSpec.ofChange fnDemandWrong)

/-- 'laws.FnDemandImplicit': WHATEVER THE INPUT: true; the input reads as it did. -/
def fnDemandImplicitSpec : ChangeSpec := { name := "fnDemandImplicit", fn := fun _ => fun
  | [d] => { results := [.lit (.bool true)], args := [d] }
  | _ => none }
def fnDemandImplicitRow : OpenClaim := { program := "ythpnfipkgfbbeaa", sum := "321ed8fdbf59508b8940edcf2514e5e388dc6022430c19f59b007cddcc3fc666", func := "loop.example/deadlinescheduler/laws.FnDemandImplicit", spec := "fnDemandImplicit", unfollowed := true, recurses := true, apart := false }
def FnDemandImplicitSaid : Prop := fnDemandImplicitRow.holds Try.pinned (OpenSpec.ofChange fnDemandImplicitSpec)

/-- ITS FALSE NEIGHBOUR: 'it returns false'. Refute it at one input. -/
def fnDemandImplicitWrong : ChangeSpec := { name := "fnDemandImplicit", fn := fun _ => fun
  | [d] => { results := [.lit (.bool false)], args := [d] }
  | _ => none }
def FnDemandImplicitWrongFalsely : Prop := fnDemandImplicitRow.holds Try.pinned (OpenSpec.ofChange fnDemandImplicitWrong)

/-- 'laws.FnUtilization': WHATEVER THE INPUT: true; the input reads as it did. -/
def fnUtilizationSpec : ChangeSpec := { name := "fnUtilization", fn := fun _ => fun
  | [d] => { results := [.lit (.bool true)], args := [d] }
  | _ => none }
def fnUtilizationRow : OpenClaim := { program := "ythpnfipkgfbbeaa", sum := "321ed8fdbf59508b8940edcf2514e5e388dc6022430c19f59b007cddcc3fc666", func := "loop.example/deadlinescheduler/laws.FnUtilization", spec := "fnUtilization", unfollowed := true, recurses := true, apart := false }
def FnUtilizationSaid : Prop := fnUtilizationRow.holds Try.pinned (OpenSpec.ofChange fnUtilizationSpec)

/-- ITS FALSE NEIGHBOUR: 'it returns false'. Refute it at one input. -/
def fnUtilizationWrong : ChangeSpec := { name := "fnUtilization", fn := fun _ => fun
  | [d] => { results := [.lit (.bool false)], args := [d] }
  | _ => none }
def FnUtilizationWrongFalsely : Prop := fnUtilizationRow.holds Try.pinned (OpenSpec.ofChange fnUtilizationWrong)

/-- 'laws.FnFirstOverload': WHATEVER THE INPUT: true; the input reads as it did. -/
def fnFirstOverloadSpec : ChangeSpec := { name := "fnFirstOverload", fn := fun _ => fun
  | [d] => { results := [.lit (.bool true)], args := [d] }
  | _ => none }
def fnFirstOverloadRow : OpenClaim := { program := "ythpnfipkgfbbeaa", sum := "321ed8fdbf59508b8940edcf2514e5e388dc6022430c19f59b007cddcc3fc666", func := "loop.example/deadlinescheduler/laws.FnFirstOverload", spec := "fnFirstOverload", unfollowed := true, recurses := true, apart := false }
def FnFirstOverloadSaid : Prop := fnFirstOverloadRow.holds Try.pinned (OpenSpec.ofChange fnFirstOverloadSpec)

/-- ITS FALSE NEIGHBOUR: 'it returns false'. Refute it at one input. -/
def fnFirstOverloadWrong : ChangeSpec := { name := "fnFirstOverload", fn := fun _ => fun
  | [d] => { results := [.lit (.bool false)], args := [d] }
  | _ => none }
def FnFirstOverloadWrongFalsely : Prop := fnFirstOverloadRow.holds Try.pinned (OpenSpec.ofChange fnFirstOverloadWrong)

/-- 'laws.FnDemandHyper': WHATEVER THE INPUT: true; the input reads as it did. -/
def fnDemandHyperSpec : ChangeSpec := { name := "fnDemandHyper", fn := fun _ => fun
  | [d] => { results := [.lit (.bool true)], args := [d] }
  | _ => none }
def fnDemandHyperRow : OpenClaim := { program := "ythpnfipkgfbbeaa", sum := "321ed8fdbf59508b8940edcf2514e5e388dc6022430c19f59b007cddcc3fc666", func := "loop.example/deadlinescheduler/laws.FnDemandHyper", spec := "fnDemandHyper", unfollowed := true, recurses := true, apart := false }
def FnDemandHyperSaid : Prop := fnDemandHyperRow.holds Try.pinned (OpenSpec.ofChange fnDemandHyperSpec)

/-- ITS FALSE NEIGHBOUR: 'it returns false'. Refute it at one input. -/
def fnDemandHyperWrong : ChangeSpec := { name := "fnDemandHyper", fn := fun _ => fun
  | [d] => { results := [.lit (.bool false)], args := [d] }
  | _ => none }
def FnDemandHyperWrongFalsely : Prop := fnDemandHyperRow.holds Try.pinned (OpenSpec.ofChange fnDemandHyperWrong)

/- THE SECOND FORM. 'bulk': how many values and letters a reading holds, each counted each time it is reached (what is shared counts as often as it is met; a slice's spare places count too). A statement '..UptoSaid' is the law's where the arguments, and the package variables that the reading takes, are together of bulk at most 1048576: NARROWER than '..Said'. Prove '..Said' where nothing that the law and all that it calls make is longer than what came in: it says more and counts as full. Else prove '..UptoSaid'. A law counts once. -/
mutual
def uptoBulk {H : Type} : DataW H → Nat
  | .lit (.string bytes) => bytes.length + 1
  | .lit _ => 1
  | .nil => 1
  | .ptr d => uptoBulk d + 1
  | .slice elems spare => uptoBulkAll elems + uptoBulkAll spare + 1
  | .agg parts => uptoBulkAll parts + 1
  | .iface _ d => uptoBulk d + 1
  | .map entries => uptoBulkEntries entries + 1
  | .held _ => 1
def uptoBulkAll {H : Type} : List (DataW H) → Nat
  | [] => 0
  | d :: r => uptoBulk d + uptoBulkAll r
def uptoBulkEntries {H : Type} : List (Lit × DataW H) → Nat
  | [] => 0
  | x :: r => uptoBulkEntry x + uptoBulkEntries r
def uptoBulkEntry {H : Type} : Lit × DataW H → Nat
  | (.string bytes, d) => bytes.length + uptoBulk d + 1
  | (_, d) => uptoBulk d + 1
 end
def uptoSmall : (H : Type) → List (DataW H) → Bool := fun _ ds => decide (uptoBulkAll ds ≤ 1048576)
def OpenSpec.upto (s : _root_.Go.ChangeSpec) : _root_.Go.OpenSpec := { _root_.Go.OpenSpec.ofChange s with cond := some uptoSmall }

/-- 'laws.FnHyperperiod', WHERE WHAT IT READS IS OF BULK AT MOST 1048576: true; the input reads as it did. -/
def fnHyperperiodUptoRow : OpenClaim := { program := "ythpnfipkgfbbeaa", sum := "321ed8fdbf59508b8940edcf2514e5e388dc6022430c19f59b007cddcc3fc666", func := "loop.example/deadlinescheduler/laws.FnHyperperiod", spec := "fnHyperperiod", unfollowed := true, recurses := true, apart := false, narrowed := true }
def FnHyperperiodUptoSaid : Prop := fnHyperperiodUptoRow.holds Try.pinned (OpenSpec.upto fnHyperperiodSpec)

/-- 'laws.FnHyperSubset', WHERE WHAT IT READS IS OF BULK AT MOST 1048576: true; the input reads as it did. -/
def fnHyperSubsetUptoRow : OpenClaim := { program := "ythpnfipkgfbbeaa", sum := "321ed8fdbf59508b8940edcf2514e5e388dc6022430c19f59b007cddcc3fc666", func := "loop.example/deadlinescheduler/laws.FnHyperSubset", spec := "fnHyperSubset", unfollowed := true, recurses := true, apart := false, narrowed := true }
def FnHyperSubsetUptoSaid : Prop := fnHyperSubsetUptoRow.holds Try.pinned (OpenSpec.upto fnHyperSubsetSpec)

/-- 'laws.FnLastDeadline', WHERE WHAT IT READS IS OF BULK AT MOST 1048576: true; the input reads as it did. -/
def fnLastDeadlineUptoRow : OpenClaim := { program := "ythpnfipkgfbbeaa", sum := "321ed8fdbf59508b8940edcf2514e5e388dc6022430c19f59b007cddcc3fc666", func := "loop.example/deadlinescheduler/laws.FnLastDeadline", spec := "fnLastDeadline", unfollowed := true, recurses := true, apart := false, narrowed := true }
def FnLastDeadlineUptoSaid : Prop := fnLastDeadlineUptoRow.holds Try.pinned (OpenSpec.upto fnLastDeadlineSpec)

/-- 'laws.FnDemand', WHERE WHAT IT READS IS OF BULK AT MOST 1048576: true; the input reads as it did. -/
def fnDemandUptoRow : OpenClaim := { program := "ythpnfipkgfbbeaa", sum := "321ed8fdbf59508b8940edcf2514e5e388dc6022430c19f59b007cddcc3fc666", func := "loop.example/deadlinescheduler/laws.FnDemand", spec := "fnDemand", unfollowed := true, recurses := true, apart := false, narrowed := true }
def FnDemandUptoSaid : Prop := fnDemandUptoRow.holds Try.pinned (OpenSpec.upto fnDemandSpec)

/-- 'laws.FnDemandImplicit', WHERE WHAT IT READS IS OF BULK AT MOST 1048576: true; the input reads as it did. -/
def fnDemandImplicitUptoRow : OpenClaim := { program := "ythpnfipkgfbbeaa", sum := "321ed8fdbf59508b8940edcf2514e5e388dc6022430c19f59b007cddcc3fc666", func := "loop.example/deadlinescheduler/laws.FnDemandImplicit", spec := "fnDemandImplicit", unfollowed := true, recurses := true, apart := false, narrowed := true }
def FnDemandImplicitUptoSaid : Prop := fnDemandImplicitUptoRow.holds Try.pinned (OpenSpec.upto fnDemandImplicitSpec)

/-- 'laws.FnUtilization', WHERE WHAT IT READS IS OF BULK AT MOST 1048576: true; the input reads as it did. -/
def fnUtilizationUptoRow : OpenClaim := { program := "ythpnfipkgfbbeaa", sum := "321ed8fdbf59508b8940edcf2514e5e388dc6022430c19f59b007cddcc3fc666", func := "loop.example/deadlinescheduler/laws.FnUtilization", spec := "fnUtilization", unfollowed := true, recurses := true, apart := false, narrowed := true }
def FnUtilizationUptoSaid : Prop := fnUtilizationUptoRow.holds Try.pinned (OpenSpec.upto fnUtilizationSpec)

/-- 'laws.FnFirstOverload', WHERE WHAT IT READS IS OF BULK AT MOST 1048576: true; the input reads as it did. -/
def fnFirstOverloadUptoRow : OpenClaim := { program := "ythpnfipkgfbbeaa", sum := "321ed8fdbf59508b8940edcf2514e5e388dc6022430c19f59b007cddcc3fc666", func := "loop.example/deadlinescheduler/laws.FnFirstOverload", spec := "fnFirstOverload", unfollowed := true, recurses := true, apart := false, narrowed := true }
def FnFirstOverloadUptoSaid : Prop := fnFirstOverloadUptoRow.holds Try.pinned (OpenSpec.upto fnFirstOverloadSpec)

/-- 'laws.FnDemandHyper', WHERE WHAT IT READS IS OF BULK AT MOST 1048576: true; the input reads as it did. -/
def fnDemandHyperUptoRow : OpenClaim := { program := "ythpnfipkgfbbeaa", sum := "321ed8fdbf59508b8940edcf2514e5e388dc6022430c19f59b007cddcc3fc666", func := "loop.example/deadlinescheduler/laws.FnDemandHyper", spec := "fnDemandHyper", unfollowed := true, recurses := true, apart := false, narrowed := true }
def FnDemandHyperUptoSaid : Prop := fnDemandHyperUptoRow.holds Try.pinned (OpenSpec.upto fnDemandHyperSpec)

end Rows
end Go.Proofs.Ythpnfipkgfbbeaa
