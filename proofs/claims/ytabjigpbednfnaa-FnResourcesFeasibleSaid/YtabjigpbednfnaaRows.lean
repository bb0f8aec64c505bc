/-
  No cell of these rows narrows 'for every input' (looked for: loops, veiled, ifaces, maps, wideKeys, modest, calm, conditions, laid).
  DERIVED. THE GIVEN ROWS OF THIS SEAT. 5 by the template 'for every input the law returns true; each argument reads behind the call as it read before'; 0 by the template 'total and deterministic' (their statements: YtabjigpbednfnaaTotals.lean).
  GIVEN WITH THE SEED: the statements are not yours to turn. If you find one false, say at which input.
  Laid BY PROGRAM, IN A SANDBOX (cutbox-rows.mjs): the forced cells as the released guide's own fill.sh prints them over the translation 1d27ea2c91858df5… (all of the seat's roots in one cut). By AI agents, Wed Nov 11 2026. No macro, syntax, notation, axiom, sorry.
-/
import Derived.Test.YtabjigpbednfnaaChecked
import GoSem.Claim
import GoSem.ClaimJoined
import GoSem.ClaimMapViews
import Derived.JoinedTies
import Derived.KernelRfl
namespace Go.Proofs.Ytabjigpbednfnaa
/- THE CELL 'sum', in the pinned program and in every row, IS THE sha256 OF THE DUMP (.gsa) THAT YtabjigpbednfnaaProg.lean LOADS. Nothing in Lean hashes anything: it is a label: what it is worth is what the hold of that sum in a sandbox is worth. -/
noncomputable def Try.pinned : Pinned := { name := "ytabjigpbednfnaa", sum := "1d27ea2c91858df5ffdd2485869e7a0ac38d94b41158ba5ac76b3fda237b7d84", checked := Try.checked }
namespace Rows
def none {H : Type} : Left H := { results := [], args := [] }

/-- 'laws.FnSectionsValid': WHATEVER THE INPUT: true; the input reads as it did. -/
def fnSectionsValidSpec : ChangeSpec := { name := "fnSectionsValid", fn := fun _ => fun
  | [d] => { results := [.lit (.bool true)], args := [d] }
  | _ => none }
def fnSectionsValidRow : OpenClaim := { program := "ytabjigpbednfnaa", sum := "1d27ea2c91858df5ffdd2485869e7a0ac38d94b41158ba5ac76b3fda237b7d84", func := "loop.example/deadlinescheduler/laws.FnSectionsValid", spec := "fnSectionsValid", unfollowed := true, recurses := true, apart := false }
def FnSectionsValidSaid : Prop := fnSectionsValidRow.holds Try.pinned (OpenSpec.ofChange fnSectionsValidSpec)

/-- ITS FALSE NEIGHBOUR: 'it returns false'. Refute it at one input. -/
def fnSectionsValidWrong : ChangeSpec := { name := "fnSectionsValid", fn := fun _ => fun
  | [d] => { results := [.lit (.bool false)], args := [d] }
  | _ => none }
def FnSectionsValidWrongFalsely : Prop := fnSectionsValidRow.holds Try.pinned (OpenSpec.ofChange fnSectionsValidWrong)

/-- 'laws.FnCeilings': WHATEVER THE INPUT: true; the input reads as it did. -/
def fnCeilingsSpec : ChangeSpec := { name := "fnCeilings", fn := fun _ => fun
  | [d] => { results := [.lit (.bool true)], args := [d] }
  | _ => none }
def fnCeilingsRow : OpenClaim := { program := "ytabjigpbednfnaa", sum := "1d27ea2c91858df5ffdd2485869e7a0ac38d94b41158ba5ac76b3fda237b7d84", func := "loop.example/deadlinescheduler/laws.FnCeilings", spec := "fnCeilings", unfollowed := true, recurses := true, apart := false }
def FnCeilingsSaid : Prop := fnCeilingsRow.holds Try.pinned (OpenSpec.ofChange fnCeilingsSpec)

/-- ITS FALSE NEIGHBOUR: 'it returns false'. Refute it at one input. -/
def fnCeilingsWrong : ChangeSpec := { name := "fnCeilings", fn := fun _ => fun
  | [d] => { results := [.lit (.bool false)], args := [d] }
  | _ => none }
def FnCeilingsWrongFalsely : Prop := fnCeilingsRow.holds Try.pinned (OpenSpec.ofChange fnCeilingsWrong)

/-- 'laws.FnBlocking': WHATEVER THE INPUT: true; the input reads as it did. -/
def fnBlockingSpec : ChangeSpec := { name := "fnBlocking", fn := fun _ => fun
  | [d] => { results := [.lit (.bool true)], args := [d] }
  | _ => none }
def fnBlockingRow : OpenClaim := { program := "ytabjigpbednfnaa", sum := "1d27ea2c91858df5ffdd2485869e7a0ac38d94b41158ba5ac76b3fda237b7d84", func := "loop.example/deadlinescheduler/laws.FnBlocking", spec := "fnBlocking", unfollowed := true, recurses := true, apart := false }
def FnBlockingSaid : Prop := fnBlockingRow.holds Try.pinned (OpenSpec.ofChange fnBlockingSpec)

/-- ITS FALSE NEIGHBOUR: 'it returns false'. Refute it at one input. -/
def fnBlockingWrong : ChangeSpec := { name := "fnBlocking", fn := fun _ => fun
  | [d] => { results := [.lit (.bool false)], args := [d] }
  | _ => none }
def FnBlockingWrongFalsely : Prop := fnBlockingRow.holds Try.pinned (OpenSpec.ofChange fnBlockingWrong)

/-- 'laws.FnResourcesFeasible': WHATEVER THE INPUT: true; the input reads as it did. -/
def fnResourcesFeasibleSpec : ChangeSpec := { name := "fnResourcesFeasible", fn := fun _ => fun
  | [d] => { results := [.lit (.bool true)], args := [d] }
  | _ => none }
def fnResourcesFeasibleRow : OpenClaim := { program := "ytabjigpbednfnaa", sum := "1d27ea2c91858df5ffdd2485869e7a0ac38d94b41158ba5ac76b3fda237b7d84", func := "loop.example/deadlinescheduler/laws.FnResourcesFeasible", spec := "fnResourcesFeasible", unfollowed := true, recurses := true, apart := false }
def FnResourcesFeasibleSaid : Prop := fnResourcesFeasibleRow.holds Try.pinned (OpenSpec.ofChange fnResourcesFeasibleSpec)

/-- ITS FALSE NEIGHBOUR: 'it returns false'. Refute it at one input. -/
def fnResourcesFeasibleWrong : ChangeSpec := { name := "fnResourcesFeasible", fn := fun _ => fun
  | [d] => { results := [.lit (.bool false)], args := [d] }
  | _ => none }
def FnResourcesFeasibleWrongFalsely : Prop := fnResourcesFeasibleRow.holds Try.pinned (OpenSpec.ofChange fnResourcesFeasibleWrong)

/-- 'laws.FnServersFeasible': WHATEVER THE INPUT: true; the input reads as it did. -/
def fnServersFeasibleSpec : ChangeSpec := { name := "fnServersFeasible", fn := fun _ => fun
  | [d] => { results := [.lit (.bool true)], args := [d] }
  | _ => none }
def fnServersFeasibleRow : OpenClaim := { program := "ytabjigpbednfnaa", sum := "1d27ea2c91858df5ffdd2485869e7a0ac38d94b41158ba5ac76b3fda237b7d84", func := "loop.example/deadlinescheduler/laws.FnServersFeasible", spec := "fnServersFeasible", unfollowed := true, recurses := true, apart := false }
def FnServersFeasibleSaid : Prop := fnServersFeasibleRow.holds Try.pinned (OpenSpec.ofChange fnServersFeasibleSpec)

/-- ITS FALSE NEIGHBOUR: 'it returns false'. Refute it at one input. -/
def fnServersFeasibleWrong : ChangeSpec := { name := "fnServersFeasible", fn := fun _ => fun
  | [d] => { results := [.lit (.bool false)], args := [d] }
  | _ => none }
def FnServersFeasibleWrongFalsely : Prop := fnServersFeasibleRow.holds Try.pinned (OpenSpec.ofChange fnServersFeasibleWrong)

/- THE SECOND FORM. 'bulk': how many values and letters a reading holds, each counted each time it is reached (what is shared counts as often as it is met; a slice's spare places count too). A statement '..UptoSaid' is the law's where the arguments, and the package variables that the reading takes, are together of bulk at most 1048576: NARROWER than '..Said'. Prove '..Said' where nothing that the law and all that it calls make is longer than what came in: it says more and counts as full. Else prove '..UptoSaid'. A law counts once. -/
mutual
def uptoBulk {H : Type} : DataW H → Nat
  | .lit (.string bytes) => bytes.length + 1
  | .lit _ => 1
  | .nil => 1
  | .ptr d => uptoBulk d + 1
  | .slice elems spare => uptoBulkAll elems + uptoBulkAll spare + 1
  | .agg parts => uptoBulkAll parts + 1
  | .iface _ d => uptoBulk d + 1
  | .map entries => uptoBulkEntries entries + 1
  | .held _ => 1
def uptoBulkAll {H : Type} : List (DataW H) → Nat
  | [] => 0
  | d :: r => uptoBulk d + uptoBulkAll r
def uptoBulkEntries {H : Type} : List (Lit × DataW H) → Nat
  | [] => 0
  | x :: r => uptoBulkEntry x + uptoBulkEntries r
def uptoBulkEntry {H : Type} : Lit × DataW H → Nat
  | (.string bytes, d) => bytes.length + uptoBulk d + 1
  | (_, d) => uptoBulk d + 1
 end
def uptoSmall : (H : Type) → List (DataW H) → Bool := fun _ ds => decide (uptoBulkAll ds ≤ 1048576)
def OpenSpec.upto (s : _root_.Go.ChangeSpec) : _root_.Go.OpenSpec := { _root_.Go.OpenSpec.ofChange s with cond := some uptoSmall }

/-- 'laws.FnSectionsValid', WHERE WHAT IT READS IS OF BULK AT MOST 1048576: true; the input reads as it did. -/
def fnSectionsValidUptoRow : OpenClaim := { program := "ytabjigpbednfnaa", sum := "1d27ea2c91858df5ffdd2485869e7a0ac38d94b41158ba5ac76b3fda237b7d84", func := "loop.example/deadlinescheduler/laws.FnSectionsValid", spec := "fnSectionsValid", unfollowed := true, recurses := true, apart := false, narrowed := true }
def FnSectionsValidUptoSaid : Prop := fnSectionsValidUptoRow.holds Try.pinned (OpenSpec.upto fnSectionsValidSpec)

/-- 'laws.FnCeilings', WHERE WHAT IT READS IS OF BULK AT MOST 1048576: true; the input reads as it did. -/
def fnCeilingsUptoRow : OpenClaim := { program := "ytabjigpbednfnaa", sum := "1d27ea2c91858df5ffdd2485869e7a0ac38d94b41158ba5ac76b3fda237b7d84", func := "loop.example/deadlinescheduler/laws.FnCeilings", spec := "fnCeilings", unfollowed := true, recurses := true, apart := false, narrowed := true }
def FnCeilingsUptoSaid : Prop := fnCeilingsUptoRow.holds Try.pinned (OpenSpec.upto fnCeilingsSpec)

/-- 'laws.FnBlocking', WHERE WHAT IT READS IS OF BULK AT MOST 1048576: true; the input reads as it did. -/
def fnBlockingUptoRow : OpenClaim := { program := "ytabjigpbednfnaa", sum := "1d27ea2c91858df5ffdd2485869e7a0ac38d94b41158ba5ac76b3fda237b7d84", func := "loop.example/deadlinescheduler/laws.FnBlocking", spec := "fnBlocking", unfollowed := true, recurses := true, apart := false, narrowed := true }
def FnBlockingUptoSaid : Prop := fnBlockingUptoRow.holds Try.pinned (OpenSpec.upto fnBlockingSpec)

/-- 'laws.FnResourcesFeasible', WHERE WHAT IT READS IS OF BULK AT MOST 1048576: true; the input reads as it did. -/
def fnResourcesFeasibleUptoRow : OpenClaim := { program := "ytabjigpbednfnaa", sum := "1d27ea2c91858df5ffdd2485869e7a0ac38d94b41158ba5ac76b3fda237b7d84", func := "loop.example/deadlinescheduler/laws.FnResourcesFeasible", spec := "fnResourcesFeasible", unfollowed := true, recurses := true, apart := false, narrowed := true }
def FnResourcesFeasibleUptoSaid : Prop := fnResourcesFeasibleUptoRow.holds Try.pinned (OpenSpec.upto fnResourcesFeasibleSpec)

/-- 'laws.FnServersFeasible', WHERE WHAT IT READS IS OF BULK AT MOST 1048576: true; the input reads as it did. -/
def fnServersFeasibleUptoRow : OpenClaim := { program := "ytabjigpbednfnaa", sum := "1d27ea2c91858df5ffdd2485869e7a0ac38d94b41158ba5ac76b3fda237b7d84", func := "loop.example/deadlinescheduler/laws.FnServersFeasible", spec := "fnServersFeasible", unfollowed := true, recurses := true, apart := false, narrowed := true }
def FnServersFeasibleUptoSaid : Prop := fnServersFeasibleUptoRow.holds Try.pinned (OpenSpec.upto fnServersFeasibleSpec)

end Rows
end Go.Proofs.Ytabjigpbednfnaa
