/-
  No cell of these rows narrows 'for every input' (looked for: loops, veiled, ifaces, maps, wideKeys, modest, calm, conditions, laid).
  DERIVED. THE GIVEN ROWS OF THIS SEAT. 6 by the template 'for every input the law returns true; each argument reads behind the call as it read before'; 0 by the template 'total and deterministic' (their statements: YtmnpemlmkcfgeaaTotals.lean).
  GIVEN WITH THE SEED: the statements are not yours to turn. If you find one false, say at which input.
  Laid BY PROGRAM, IN A SANDBOX (cutbox-rows.mjs): the forced cells as the released guide's own fill.sh prints them over the translation f82777c272d59cf7… (all of the seat's roots in one cut). By AI agents, Wed Nov 11 2026. No macro, syntax, notation, axiom, sorry.
-/
import Derived.Test.YtmnpemlmkcfgeaaChecked
import GoSem.Claim
import GoSem.ClaimJoined
import GoSem.ClaimMapViews
import Derived.JoinedTies
import Derived.KernelRfl
namespace Go.Proofs.Ytmnpemlmkcfgeaa
/- THE CELL 'sum', in the pinned program and in every row, IS THE sha256 OF THE DUMP (.gsa) THAT YtmnpemlmkcfgeaaProg.lean LOADS. Nothing in Lean hashes anything: it is a label: what it is worth is what the hold of that sum in a sandbox is worth. -/
noncomputable def Try.pinned : Pinned := { name := "ytmnpemlmkcfgeaa", sum := "f82777c272d59cf7028c3ca11f3755f1fdae8ddf6bfbebfa988d793e3b7ddba3", checked := Try.checked }
namespace Rows
def none {H : Type} : Left H := { results := [], args := [] }

/-- 'laws.FnTaskValid': WHATEVER THE INPUT: true; the input reads as it did. -/
def fnTaskValidSpec : ChangeSpec := { name := "fnTaskValid", fn := fun _ => fun
  | [d] => { results := [.lit (.bool true)], args := [d] }
  | _ => none }
def fnTaskValidRow : OpenClaim := { program := "ytmnpemlmkcfgeaa", sum := "f82777c272d59cf7028c3ca11f3755f1fdae8ddf6bfbebfa988d793e3b7ddba3", func := "loop.example/deadlinescheduler/laws.FnTaskValid", spec := "fnTaskValid", apart := false }
def FnTaskValidSaid : Prop := fnTaskValidRow.holds Try.pinned (OpenSpec.ofChange fnTaskValidSpec)

/-- ITS FALSE NEIGHBOUR: 'it returns false'. Refute it at one input. -/
def fnTaskValidWrong : ChangeSpec := { name := "fnTaskValid", fn := fun _ => fun
  | [d] => { results := [.lit (.bool false)], args := [d] }
  | _ => none }
def FnTaskValidWrongFalsely : Prop := fnTaskValidRow.holds Try.pinned (OpenSpec.ofChange fnTaskValidWrong)

/-- 'laws.FnServersValid': WHATEVER THE INPUT: true; the input reads as it did. -/
def fnServersValidSpec : ChangeSpec := { name := "fnServersValid", fn := fun _ => fun
  | [d] => { results := [.lit (.bool true)], args := [d] }
  | _ => none }
def fnServersValidRow : OpenClaim := { program := "ytmnpemlmkcfgeaa", sum := "f82777c272d59cf7028c3ca11f3755f1fdae8ddf6bfbebfa988d793e3b7ddba3", func := "loop.example/deadlinescheduler/laws.FnServersValid", spec := "fnServersValid", unfollowed := true, recurses := true, apart := false }
def FnServersValidSaid : Prop := fnServersValidRow.holds Try.pinned (OpenSpec.ofChange fnServersValidSpec)

/-- ITS FALSE NEIGHBOUR: 'it returns false'. Refute it at one input. -/
def fnServersValidWrong : ChangeSpec := { name := "fnServersValid", fn := fun _ => fun
  | [d] => { results := [.lit (.bool false)], args := [d] }
  | _ => none }
def FnServersValidWrongFalsely : Prop := fnServersValidRow.holds Try.pinned (OpenSpec.ofChange fnServersValidWrong)

/-- 'laws.FnArrivalsLegal': WHATEVER THE INPUT: true; the input reads as it did. -/
def fnArrivalsLegalSpec : ChangeSpec := { name := "fnArrivalsLegal", fn := fun _ => fun
  | [d] => { results := [.lit (.bool true)], args := [d] }
  | _ => none }
def fnArrivalsLegalRow : OpenClaim := { program := "ytmnpemlmkcfgeaa", sum := "f82777c272d59cf7028c3ca11f3755f1fdae8ddf6bfbebfa988d793e3b7ddba3", func := "loop.example/deadlinescheduler/laws.FnArrivalsLegal", spec := "fnArrivalsLegal", apart := false }
def FnArrivalsLegalSaid : Prop := fnArrivalsLegalRow.holds Try.pinned (OpenSpec.ofChange fnArrivalsLegalSpec)

/-- ITS FALSE NEIGHBOUR: 'it returns false'. Refute it at one input. -/
def fnArrivalsLegalWrong : ChangeSpec := { name := "fnArrivalsLegal", fn := fun _ => fun
  | [d] => { results := [.lit (.bool false)], args := [d] }
  | _ => none }
def FnArrivalsLegalWrongFalsely : Prop := fnArrivalsLegalRow.holds Try.pinned (OpenSpec.ofChange fnArrivalsLegalWrong)

/-- 'laws.FnExactMixedValid': WHATEVER THE INPUT: true; the input reads as it did. -/
def fnExactMixedValidSpec : ChangeSpec := { name := "fnExactMixedValid", fn := fun _ => fun
  | [d] => { results := [.lit (.bool true)], args := [d] }
  | _ => none }
def fnExactMixedValidRow : OpenClaim := { program := "ytmnpemlmkcfgeaa", sum := "f82777c272d59cf7028c3ca11f3755f1fdae8ddf6bfbebfa988d793e3b7ddba3", func := "loop.example/deadlinescheduler/laws.FnExactMixedValid", spec := "fnExactMixedValid", unfollowed := true, recurses := true, apart := false }
def FnExactMixedValidSaid : Prop := fnExactMixedValidRow.holds Try.pinned (OpenSpec.ofChange fnExactMixedValidSpec)

/-- ITS FALSE NEIGHBOUR: 'it returns false'. Refute it at one input. -/
def fnExactMixedValidWrong : ChangeSpec := { name := "fnExactMixedValid", fn := fun _ => fun
  | [d] => { results := [.lit (.bool false)], args := [d] }
  | _ => none }
def FnExactMixedValidWrongFalsely : Prop := fnExactMixedValidRow.holds Try.pinned (OpenSpec.ofChange fnExactMixedValidWrong)

/-- 'laws.FnMixedValid': WHATEVER THE INPUT: true; the input reads as it did. -/
def fnMixedValidSpec : ChangeSpec := { name := "fnMixedValid", fn := fun _ => fun
  | [d] => { results := [.lit (.bool true)], args := [d] }
  | _ => none }
def fnMixedValidRow : OpenClaim := { program := "ytmnpemlmkcfgeaa", sum := "f82777c272d59cf7028c3ca11f3755f1fdae8ddf6bfbebfa988d793e3b7ddba3", func := "loop.example/deadlinescheduler/laws.FnMixedValid", spec := "fnMixedValid", unfollowed := true, recurses := true, apart := false }
def FnMixedValidSaid : Prop := fnMixedValidRow.holds Try.pinned (OpenSpec.ofChange fnMixedValidSpec)

/-- ITS FALSE NEIGHBOUR: 'it returns false'. Refute it at one input. -/
def fnMixedValidWrong : ChangeSpec := { name := "fnMixedValid", fn := fun _ => fun
  | [d] => { results := [.lit (.bool false)], args := [d] }
  | _ => none }
def FnMixedValidWrongFalsely : Prop := fnMixedValidRow.holds Try.pinned (OpenSpec.ofChange fnMixedValidWrong)

/-- 'laws.FnSetValid': WHATEVER THE INPUT: true; the input reads as it did. -/
def fnSetValidSpec : ChangeSpec := { name := "fnSetValid", fn := fun _ => fun
  | [d] => { results := [.lit (.bool true)], args := [d] }
  | _ => none }
def fnSetValidRow : OpenClaim := { program := "ytmnpemlmkcfgeaa", sum := "f82777c272d59cf7028c3ca11f3755f1fdae8ddf6bfbebfa988d793e3b7ddba3", func := "loop.example/deadlinescheduler/laws.FnSetValid", spec := "fnSetValid", unfollowed := true, recurses := true, apart := false }
def FnSetValidSaid : Prop := fnSetValidRow.holds Try.pinned (OpenSpec.ofChange fnSetValidSpec)

/-- ITS FALSE NEIGHBOUR: 'it returns false'. Refute it at one input. -/
def fnSetValidWrong : ChangeSpec := { name := "fnSetValid", fn := fun _ => fun
  | [d] => { results := [.lit (.bool false)], args := [d] }
  | _ => none }
def FnSetValidWrongFalsely : Prop := fnSetValidRow.holds Try.pinned (OpenSpec.ofChange fnSetValidWrong)

/- THE SECOND FORM. 'bulk': how many values and letters a reading holds, each counted each time it is reached (what is shared counts as often as it is met; a slice's spare places count too). A statement '..UptoSaid' is the law's where the arguments, and the package variables that the reading takes, are together of bulk at most 1048576: NARROWER than '..Said'. Prove '..Said' where nothing that the law and all that it calls make is longer than what came in: it says more and counts as full. Else prove '..UptoSaid'. A law counts once. -/
mutual
def uptoBulk {H : Type} : DataW H → Nat
  | .lit (.string bytes) => bytes.length + 1
  | .lit _ => 1
  | .nil => 1
  | .ptr d => uptoBulk d + 1
  | .slice elems spare => uptoBulkAll elems + uptoBulkAll spare + 1
  | .agg parts => uptoBulkAll parts + 1
  | .iface _ d => uptoBulk d + 1
  | .map entries => uptoBulkEntries entries + 1
  | .held _ => 1
def uptoBulkAll {H : Type} : List (DataW H) → Nat
  | [] => 0
  | d :: r => uptoBulk d + uptoBulkAll r
def uptoBulkEntries {H : Type} : List (Lit × DataW H) → Nat
  | [] => 0
  | x :: r => uptoBulkEntry x + uptoBulkEntries r
def uptoBulkEntry {H : Type} : Lit × DataW H → Nat
  | (.string bytes, d) => bytes.length + uptoBulk d + 1
  | (_, d) => uptoBulk d + 1
 end
def uptoSmall : (H : Type) → List (DataW H) → Bool := fun _ ds => decide (uptoBulkAll ds ≤ 1048576)
def OpenSpec.upto (s : _root_.Go.ChangeSpec) : _root_.Go.OpenSpec := { _root_.Go.OpenSpec.ofChange s with cond := some uptoSmall }

/-- 'laws.FnTaskValid', WHERE WHAT IT READS IS OF BULK AT MOST 1048576: true; the input reads as it did. -/
def fnTaskValidUptoRow : OpenClaim := { program := "ytmnpemlmkcfgeaa", sum := "f82777c272d59cf7028c3ca11f3755f1fdae8ddf6bfbebfa988d793e3b7ddba3", func := "loop.example/deadlinescheduler/laws.FnTaskValid", spec := "fnTaskValid", apart := false, narrowed := true }
def FnTaskValidUptoSaid : Prop := fnTaskValidUptoRow.holds Try.pinned (OpenSpec.upto fnTaskValidSpec)

/-- 'laws.FnServersValid', WHERE WHAT IT READS IS OF BULK AT MOST 1048576: true; the input reads as it did. -/
def fnServersValidUptoRow : OpenClaim := { program := "ytmnpemlmkcfgeaa", sum := "f82777c272d59cf7028c3ca11f3755f1fdae8ddf6bfbebfa988d793e3b7ddba3", func := "loop.example/deadlinescheduler/laws.FnServersValid", spec := "fnServersValid", unfollowed := true, recurses := true, apart := false, narrowed := true }
def FnServersValidUptoSaid : Prop := fnServersValidUptoRow.holds Try.pinned (OpenSpec.upto fnServersValidSpec)

/-- 'laws.FnArrivalsLegal', WHERE WHAT IT READS IS OF BULK AT MOST 1048576: true; the input reads as it did. -/
def fnArrivalsLegalUptoRow : OpenClaim := { program := "ytmnpemlmkcfgeaa", sum := "f82777c272d59cf7028c3ca11f3755f1fdae8ddf6bfbebfa988d793e3b7ddba3", func := "loop.example/deadlinescheduler/laws.FnArrivalsLegal", spec := "fnArrivalsLegal", apart := false, narrowed := true }
def FnArrivalsLegalUptoSaid : Prop := fnArrivalsLegalUptoRow.holds Try.pinned (OpenSpec.upto fnArrivalsLegalSpec)

/-- 'laws.FnExactMixedValid', WHERE WHAT IT READS IS OF BULK AT MOST 1048576: true; the input reads as it did. -/
def fnExactMixedValidUptoRow : OpenClaim := { program := "ytmnpemlmkcfgeaa", sum := "f82777c272d59cf7028c3ca11f3755f1fdae8ddf6bfbebfa988d793e3b7ddba3", func := "loop.example/deadlinescheduler/laws.FnExactMixedValid", spec := "fnExactMixedValid", unfollowed := true, recurses := true, apart := false, narrowed := true }
def FnExactMixedValidUptoSaid : Prop := fnExactMixedValidUptoRow.holds Try.pinned (OpenSpec.upto fnExactMixedValidSpec)

/-- 'laws.FnMixedValid', WHERE WHAT IT READS IS OF BULK AT MOST 1048576: true; the input reads as it did. -/
def fnMixedValidUptoRow : OpenClaim := { program := "ytmnpemlmkcfgeaa", sum := "f82777c272d59cf7028c3ca11f3755f1fdae8ddf6bfbebfa988d793e3b7ddba3", func := "loop.example/deadlinescheduler/laws.FnMixedValid", spec := "fnMixedValid", unfollowed := true, recurses := true, apart := false, narrowed := true }
def FnMixedValidUptoSaid : Prop := fnMixedValidUptoRow.holds Try.pinned (OpenSpec.upto fnMixedValidSpec)

/-- 'laws.FnSetValid', WHERE WHAT IT READS IS OF BULK AT MOST 1048576: true; the input reads as it did. -/
def fnSetValidUptoRow : OpenClaim := { program := "ytmnpemlmkcfgeaa", sum := "f82777c272d59cf7028c3ca11f3755f1fdae8ddf6bfbebfa988d793e3b7ddba3", func := "loop.example/deadlinescheduler/laws.FnSetValid", spec := "fnSetValid", unfollowed := true, recurses := true, apart := false, narrowed := true }
def FnSetValidUptoSaid : Prop := fnSetValidUptoRow.holds Try.pinned (OpenSpec.upto fnSetValidSpec)

end Rows
end Go.Proofs.Ytmnpemlmkcfgeaa
