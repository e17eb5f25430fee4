/-
  No cell of these rows narrows 'for every input' (looked for: loops, veiled, ifaces, maps, wideKeys, modest, calm, conditions, laid).
  DERIVED. THE GIVEN ROWS OF THIS SEAT. 4 by the template 'for every input the law returns true; each argument reads behind the call as it read before'; 0 by the template 'total and deterministic' (their statements: YtadloppgokobeaaTotals.lean).
  GIVEN WITH THE SEED: the statements are not yours to turn. If you find one false, say at which input.
  Laid BY PROGRAM, IN A SANDBOX (cutbox-rows.mjs): the forced cells as the released guide's own fill.sh prints them over the translation c5a67d7ae43d3ea6… (all of the seat's roots in one cut). By AI agents, Wed Nov 11 2026. No macro, syntax, notation, axiom, sorry.
-/
import Derived.Test.YtadloppgokobeaaChecked
import GoSem.Claim
import GoSem.ClaimJoined
import GoSem.ClaimMapViews
import Derived.JoinedTies
import Derived.KernelRfl
namespace Go.Proofs.Ytadloppgokobeaa
/- THE CELL 'sum', in the pinned program and in every row, IS THE sha256 OF THE DUMP (.gsa) THAT YtadloppgokobeaaProg.lean LOADS. Nothing in Lean hashes anything: it is a label: what it is worth is what the hold of that sum in a sandbox is worth. -/
noncomputable def Try.pinned : Pinned := { name := "ytadloppgokobeaa", sum := "c5a67d7ae43d3ea640e93dc3eb064901310315c5cb066010c4be4194e0d92135", checked := Try.checked }
namespace Rows
def none {H : Type} : Left H := { results := [], args := [] }

/-- 'bollardlaw13.SplitSplits': WHATEVER THE INPUT: true; the input reads as it did. -/
def splitSplitsSpec : ChangeSpec := { name := "splitSplits", fn := fun _ => fun
  | [d1, d2, d3, d4] => { results := [.lit (.bool true)], args := [d1, d2, d3, d4] }
  | _ => none }
def splitSplitsRow : OpenClaim := { program := "ytadloppgokobeaa", sum := "c5a67d7ae43d3ea640e93dc3eb064901310315c5cb066010c4be4194e0d92135", func := "bollard/bollardlaw13.SplitSplits", spec := "splitSplits", unfollowed := true, recurses := true, apart := false }
def SplitSplitsSaid : Prop := splitSplitsRow.holds Try.pinned (OpenSpec.ofChange splitSplitsSpec)

/-- ITS FALSE NEIGHBOUR: 'it returns false'. Refute it at one input. -/
def splitSplitsWrong : ChangeSpec := { name := "splitSplits", fn := fun _ => fun
  | [d1, d2, d3, d4] => { results := [.lit (.bool false)], args := [d1, d2, d3, d4] }
  | _ => none }
def SplitSplitsWrongFalsely : Prop := splitSplitsRow.holds Try.pinned (OpenSpec.ofChange splitSplitsWrong)

/-- 'bollardlaw13.SplitWholes': WHATEVER THE INPUT: true; the input reads as it did. -/
def splitWholesSpec : ChangeSpec := { name := "splitWholes", fn := fun _ => fun
  | [d1, d2, d3] => { results := [.lit (.bool true)], args := [d1, d2, d3] }
  | _ => none }
def splitWholesRow : OpenClaim := { program := "ytadloppgokobeaa", sum := "c5a67d7ae43d3ea640e93dc3eb064901310315c5cb066010c4be4194e0d92135", func := "bollard/bollardlaw13.SplitWholes", spec := "splitWholes", unfollowed := true, recurses := true, apart := false }
def SplitWholesSaid : Prop := splitWholesRow.holds Try.pinned (OpenSpec.ofChange splitWholesSpec)

/-- ITS FALSE NEIGHBOUR: 'it returns false'. Refute it at one input. -/
def splitWholesWrong : ChangeSpec := { name := "splitWholes", fn := fun _ => fun
  | [d1, d2, d3] => { results := [.lit (.bool false)], args := [d1, d2, d3] }
  | _ => none }
def SplitWholesWrongFalsely : Prop := splitWholesRow.holds Try.pinned (OpenSpec.ofChange splitWholesWrong)

/-- 'bollardlaw13.SplitBack': WHATEVER THE INPUT: true; the input reads as it did. -/
def splitBackSpec : ChangeSpec := { name := "splitBack", fn := fun _ => fun
  | [d1, d2, d3, d4, d5] => { results := [.lit (.bool true)], args := [d1, d2, d3, d4, d5] }
  | _ => none }
def splitBackRow : OpenClaim := { program := "ytadloppgokobeaa", sum := "c5a67d7ae43d3ea640e93dc3eb064901310315c5cb066010c4be4194e0d92135", func := "bollard/bollardlaw13.SplitBack", spec := "splitBack", unfollowed := true, recurses := true, apart := false }
def SplitBackSaid : Prop := splitBackRow.holds Try.pinned (OpenSpec.ofChange splitBackSpec)

/-- ITS FALSE NEIGHBOUR: 'it returns false'. Refute it at one input. -/
def splitBackWrong : ChangeSpec := { name := "splitBack", fn := fun _ => fun
  | [d1, d2, d3, d4, d5] => { results := [.lit (.bool false)], args := [d1, d2, d3, d4, d5] }
  | _ => none }
def SplitBackWrongFalsely : Prop := splitBackRow.holds Try.pinned (OpenSpec.ofChange splitBackWrong)

/-- 'bollardlaw13.SplitJoins': WHATEVER THE INPUT: true; the input reads as it did. -/
def splitJoinsSpec : ChangeSpec := { name := "splitJoins", fn := fun _ => fun
  | [d1, d2, d3, d4] => { results := [.lit (.bool true)], args := [d1, d2, d3, d4] }
  | _ => none }
def splitJoinsRow : OpenClaim := { program := "ytadloppgokobeaa", sum := "c5a67d7ae43d3ea640e93dc3eb064901310315c5cb066010c4be4194e0d92135", func := "bollard/bollardlaw13.SplitJoins", spec := "splitJoins", unfollowed := true, recurses := true, apart := false }
def SplitJoinsSaid : Prop := splitJoinsRow.holds Try.pinned (OpenSpec.ofChange splitJoinsSpec)

/-- ITS FALSE NEIGHBOUR: 'it returns false'. Refute it at one input. -/
def splitJoinsWrong : ChangeSpec := { name := "splitJoins", fn := fun _ => fun
  | [d1, d2, d3, d4] => { results := [.lit (.bool false)], args := [d1, d2, d3, d4] }
  | _ => none }
def SplitJoinsWrongFalsely : Prop := splitJoinsRow.holds Try.pinned (OpenSpec.ofChange splitJoinsWrong)

/- THE SECOND FORM. 'bulk': how many values and letters a reading holds, each counted each time it is reached (what is shared counts as often as it is met; a slice's spare places count too). A statement '..UptoSaid' is the law's where the arguments, and the package variables that the reading takes, are together of bulk at most 1048576: NARROWER than '..Said'. Prove '..Said' where nothing that the law and all that it calls make is longer than what came in: it says more and counts as full. Else prove '..UptoSaid'. A law counts once. -/
mutual
def uptoBulk {H : Type} : DataW H → Nat
  | .lit (.string bytes) => bytes.length + 1
  | .lit _ => 1
  | .nil => 1
  | .ptr d => uptoBulk d + 1
  | .slice elems spare => uptoBulkAll elems + uptoBulkAll spare + 1
  | .agg parts => uptoBulkAll parts + 1
  | .iface _ d => uptoBulk d + 1
  | .map entries => uptoBulkEntries entries + 1
  | .held _ => 1
def uptoBulkAll {H : Type} : List (DataW H) → Nat
  | [] => 0
  | d :: r => uptoBulk d + uptoBulkAll r
def uptoBulkEntries {H : Type} : List (Lit × DataW H) → Nat
  | [] => 0
  | x :: r => uptoBulkEntry x + uptoBulkEntries r
def uptoBulkEntry {H : Type} : Lit × DataW H → Nat
  | (.string bytes, d) => bytes.length + uptoBulk d + 1
  | (_, d) => uptoBulk d + 1
 end
def uptoSmall : (H : Type) → List (DataW H) → Bool := fun _ ds => decide (uptoBulkAll ds ≤ 1048576)
def OpenSpec.upto (s : _root_.Go.ChangeSpec) : _root_.Go.OpenSpec := { _root_.Go.OpenSpec.ofChange s with cond := some uptoSmall }

/-- 'bollardlaw13.SplitSplits', WHERE WHAT IT READS IS OF BULK AT MOST 1048576: true; the input reads as it did. -/
def splitSplitsUptoRow : OpenClaim := { program := "ytadloppgokobeaa", sum := "c5a67d7ae43d3ea640e93dc3eb064901310315c5cb066010c4be4194e0d92135", func := "bollard/bollardlaw13.SplitSplits", spec := "splitSplits", unfollowed := true, recurses := true, apart := false, narrowed := true }
def SplitSplitsUptoSaid : Prop := splitSplitsUptoRow.holds Try.pinned (OpenSpec.upto splitSplitsSpec)

/-- 'bollardlaw13.SplitWholes', WHERE WHAT IT READS IS OF BULK AT MOST 1048576: true; the input reads as it did. -/
def splitWholesUptoRow : OpenClaim := { program := "ytadloppgokobeaa", sum := "c5a67d7ae43d3ea640e93dc3eb064901310315c5cb066010c4be4194e0d92135", func := "bollard/bollardlaw13.SplitWholes", spec := "splitWholes", unfollowed := true, recurses := true, apart := false, narrowed := true }
def SplitWholesUptoSaid : Prop := splitWholesUptoRow.holds Try.pinned (OpenSpec.upto splitWholesSpec)

/-- 'bollardlaw13.SplitBack', WHERE WHAT IT READS IS OF BULK AT MOST 1048576: true; the input reads as it did. -/
def splitBackUptoRow : OpenClaim := { program := "ytadloppgokobeaa", sum := "c5a67d7ae43d3ea640e93dc3eb064901310315c5cb066010c4be4194e0d92135", func := "bollard/bollardlaw13.SplitBack", spec := "splitBack", unfollowed := true, recurses := true, apart := false, narrowed := true }
def SplitBackUptoSaid : Prop := splitBackUptoRow.holds Try.pinned (OpenSpec.upto splitBackSpec)

/-- 'bollardlaw13.SplitJoins', WHERE WHAT IT READS IS OF BULK AT MOST 1048576: true; the input reads as it did. -/
def splitJoinsUptoRow : OpenClaim := { program := "ytadloppgokobeaa", sum := "c5a67d7ae43d3ea640e93dc3eb064901310315c5cb066010c4be4194e0d92135", func := "bollard/bollardlaw13.SplitJoins", spec := "splitJoins", unfollowed := true, recurses := true, apart := false, narrowed := true }
def SplitJoinsUptoSaid : Prop := splitJoinsUptoRow.holds Try.pinned (OpenSpec.upto splitJoinsSpec)

end Rows
end Go.Proofs.Ytadloppgokobeaa
