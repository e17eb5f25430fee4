/-
  No cell of these rows narrows 'for every input' (looked for: loops, veiled, ifaces, maps, wideKeys, modest, calm, conditions, laid).
  DERIVED. THE GIVEN ROWS OF THIS SEAT. 7 by the template 'for every input the law returns true; each argument reads behind the call as it read before'; 0 by the template 'total and deterministic' (their statements: YtnkpmidfefilbaaTotals.lean).
  GIVEN WITH THE SEED: the statements are not yours to turn. If you find one false, say at which input.
  Laid BY PROGRAM, IN A SANDBOX (cutbox-rows.mjs): the forced cells as the released guide's own fill.sh prints them over the translation b1f5f7f2f2b3e2a9… (all of the seat's roots in one cut). By AI agents, Wed Nov 11 2026. No macro, syntax, notation, axiom, sorry.
-/
import Derived.Test.YtnkpmidfefilbaaChecked
import GoSem.Claim
import GoSem.ClaimJoined
import GoSem.ClaimMapViews
import Derived.JoinedTies
import Derived.KernelRfl
namespace Go.Proofs.Ytnkpmidfefilbaa
/- THE CELL 'sum', in the pinned program and in every row, IS THE sha256 OF THE DUMP (.gsa) THAT YtnkpmidfefilbaaProg.lean LOADS. Nothing in Lean hashes anything: it is a label: what it is worth is what the hold of that sum in a sandbox is worth. -/
noncomputable def Try.pinned : Pinned := { name := "ytnkpmidfefilbaa", sum := "b1f5f7f2f2b3e2a9dacfd0ac5e8f866c21a8fbcd9d645985f3a72d2579687e20", checked := Try.checked }
namespace Rows
def none {H : Type} : Left H := { results := [], args := [] }

/-- 'bollardlaw19.TopicRuns': WHATEVER THE INPUT: true; the input reads as it did. -/
def topicRunsSpec : ChangeSpec := { name := "topicRuns", fn := fun _ => fun
  | [d1, d2, d3] => { results := [.lit (.bool true)], args := [d1, d2, d3] }
  | _ => none }
def topicRunsRow : OpenClaim := { program := "ytnkpmidfefilbaa", sum := "b1f5f7f2f2b3e2a9dacfd0ac5e8f866c21a8fbcd9d645985f3a72d2579687e20", func := "bollard/bollardlaw19.TopicRuns", spec := "topicRuns", unfollowed := true, recurses := true, apart := false }
def TopicRunsSaid : Prop := topicRunsRow.holds Try.pinned (OpenSpec.ofChange topicRunsSpec)

/-- ITS FALSE NEIGHBOUR: 'it returns false'. Refute it at one input. -/
def topicRunsWrong : ChangeSpec := { name := "topicRuns", fn := fun _ => fun
  | [d1, d2, d3] => { results := [.lit (.bool false)], args := [d1, d2, d3] }
  | _ => none }
def TopicRunsWrongFalsely : Prop := topicRunsRow.holds Try.pinned (OpenSpec.ofChange topicRunsWrong)

/-- 'bollardlaw19.TopicMany': WHATEVER THE INPUT: true; the input reads as it did. -/
def topicManySpec : ChangeSpec := { name := "topicMany", fn := fun _ => fun
  | [d1, d2, d3] => { results := [.lit (.bool true)], args := [d1, d2, d3] }
  | _ => none }
def topicManyRow : OpenClaim := { program := "ytnkpmidfefilbaa", sum := "b1f5f7f2f2b3e2a9dacfd0ac5e8f866c21a8fbcd9d645985f3a72d2579687e20", func := "bollard/bollardlaw19.TopicMany", spec := "topicMany", unfollowed := true, recurses := true, apart := false }
def TopicManySaid : Prop := topicManyRow.holds Try.pinned (OpenSpec.ofChange topicManySpec)

/-- ITS FALSE NEIGHBOUR: 'it returns false'. Refute it at one input. -/
def topicManyWrong : ChangeSpec := { name := "topicMany", fn := fun _ => fun
  | [d1, d2, d3] => { results := [.lit (.bool false)], args := [d1, d2, d3] }
  | _ => none }
def TopicManyWrongFalsely : Prop := topicManyRow.holds Try.pinned (OpenSpec.ofChange topicManyWrong)

/-- 'bollardlaw19.TopicParts': WHATEVER THE INPUT: true; the input reads as it did. -/
def topicPartsSpec : ChangeSpec := { name := "topicParts", fn := fun _ => fun
  | [d1, d2, d3, d4] => { results := [.lit (.bool true)], args := [d1, d2, d3, d4] }
  | _ => none }
def topicPartsRow : OpenClaim := { program := "ytnkpmidfefilbaa", sum := "b1f5f7f2f2b3e2a9dacfd0ac5e8f866c21a8fbcd9d645985f3a72d2579687e20", func := "bollard/bollardlaw19.TopicParts", spec := "topicParts", unfollowed := true, recurses := true, apart := false }
def TopicPartsSaid : Prop := topicPartsRow.holds Try.pinned (OpenSpec.ofChange topicPartsSpec)

/-- ITS FALSE NEIGHBOUR: 'it returns false'. Refute it at one input. -/
def topicPartsWrong : ChangeSpec := { name := "topicParts", fn := fun _ => fun
  | [d1, d2, d3, d4] => { results := [.lit (.bool false)], args := [d1, d2, d3, d4] }
  | _ => none }
def TopicPartsWrongFalsely : Prop := topicPartsRow.holds Try.pinned (OpenSpec.ofChange topicPartsWrong)

/-- 'bollardlaw19.TopicOnly': WHATEVER THE INPUT: true; the input reads as it did. -/
def topicOnlySpec : ChangeSpec := { name := "topicOnly", fn := fun _ => fun
  | [d1, d2, d3] => { results := [.lit (.bool true)], args := [d1, d2, d3] }
  | _ => none }
def topicOnlyRow : OpenClaim := { program := "ytnkpmidfefilbaa", sum := "b1f5f7f2f2b3e2a9dacfd0ac5e8f866c21a8fbcd9d645985f3a72d2579687e20", func := "bollard/bollardlaw19.TopicOnly", spec := "topicOnly", unfollowed := true, recurses := true, apart := false }
def TopicOnlySaid : Prop := topicOnlyRow.holds Try.pinned (OpenSpec.ofChange topicOnlySpec)

/-- ITS FALSE NEIGHBOUR: 'it returns false'. Refute it at one input. -/
def topicOnlyWrong : ChangeSpec := { name := "topicOnly", fn := fun _ => fun
  | [d1, d2, d3] => { results := [.lit (.bool false)], args := [d1, d2, d3] }
  | _ => none }
def TopicOnlyWrongFalsely : Prop := topicOnlyRow.holds Try.pinned (OpenSpec.ofChange topicOnlyWrong)

/-- 'bollardlaw19.TopicBounds': WHATEVER THE INPUT: true; the input reads as it did. -/
def topicBoundsSpec : ChangeSpec := { name := "topicBounds", fn := fun _ => fun
  | [d1, d2] => { results := [.lit (.bool true)], args := [d1, d2] }
  | _ => none }
def topicBoundsRow : OpenClaim := { program := "ytnkpmidfefilbaa", sum := "b1f5f7f2f2b3e2a9dacfd0ac5e8f866c21a8fbcd9d645985f3a72d2579687e20", func := "bollard/bollardlaw19.TopicBounds", spec := "topicBounds", unfollowed := true, recurses := true, apart := false }
def TopicBoundsSaid : Prop := topicBoundsRow.holds Try.pinned (OpenSpec.ofChange topicBoundsSpec)

/-- ITS FALSE NEIGHBOUR: 'it returns false'. Refute it at one input. -/
def topicBoundsWrong : ChangeSpec := { name := "topicBounds", fn := fun _ => fun
  | [d1, d2] => { results := [.lit (.bool false)], args := [d1, d2] }
  | _ => none }
def TopicBoundsWrongFalsely : Prop := topicBoundsRow.holds Try.pinned (OpenSpec.ofChange topicBoundsWrong)

/-- 'bollardlaw19.TopicPlays': WHATEVER THE INPUT: true; the input reads as it did. -/
def topicPlaysSpec : ChangeSpec := { name := "topicPlays", fn := fun _ => fun
  | [d1, d2, d3] => { results := [.lit (.bool true)], args := [d1, d2, d3] }
  | _ => none }
def topicPlaysRow : OpenClaim := { program := "ytnkpmidfefilbaa", sum := "b1f5f7f2f2b3e2a9dacfd0ac5e8f866c21a8fbcd9d645985f3a72d2579687e20", func := "bollard/bollardlaw19.TopicPlays", spec := "topicPlays", unfollowed := true, recurses := true, apart := false }
def TopicPlaysSaid : Prop := topicPlaysRow.holds Try.pinned (OpenSpec.ofChange topicPlaysSpec)

/-- ITS FALSE NEIGHBOUR: 'it returns false'. Refute it at one input. -/
def topicPlaysWrong : ChangeSpec := { name := "topicPlays", fn := fun _ => fun
  | [d1, d2, d3] => { results := [.lit (.bool false)], args := [d1, d2, d3] }
  | _ => none }
def TopicPlaysWrongFalsely : Prop := topicPlaysRow.holds Try.pinned (OpenSpec.ofChange topicPlaysWrong)

/-- 'bollardlaw19.TopicNone': WHATEVER THE INPUT: true; the input reads as it did. -/
def topicNoneSpec : ChangeSpec := { name := "topicNone", fn := fun _ => fun
  | [d1, d2, d3] => { results := [.lit (.bool true)], args := [d1, d2, d3] }
  | _ => none }
def topicNoneRow : OpenClaim := { program := "ytnkpmidfefilbaa", sum := "b1f5f7f2f2b3e2a9dacfd0ac5e8f866c21a8fbcd9d645985f3a72d2579687e20", func := "bollard/bollardlaw19.TopicNone", spec := "topicNone", unfollowed := true, recurses := true, apart := false }
def TopicNoneSaid : Prop := topicNoneRow.holds Try.pinned (OpenSpec.ofChange topicNoneSpec)

/-- ITS FALSE NEIGHBOUR: 'it returns false'. Refute it at one input. -/
def topicNoneWrong : ChangeSpec := { name := "topicNone", fn := fun _ => fun
  | [d1, d2, d3] => { results := [.lit (.bool false)], args := [d1, d2, d3] }
  | _ => none }
def TopicNoneWrongFalsely : Prop := topicNoneRow.holds Try.pinned (OpenSpec.ofChange topicNoneWrong)

/- THE SECOND FORM. 'bulk': how many values and letters a reading holds, each counted each time it is reached (what is shared counts as often as it is met; a slice's spare places count too). A statement '..UptoSaid' is the law's where the arguments, and the package variables that the reading takes, are together of bulk at most 1048576: NARROWER than '..Said'. Prove '..Said' where nothing that the law and all that it calls make is longer than what came in: it says more and counts as full. Else prove '..UptoSaid'. A law counts once. -/
mutual
def uptoBulk {H : Type} : DataW H → Nat
  | .lit (.string bytes) => bytes.length + 1
  | .lit _ => 1
  | .nil => 1
  | .ptr d => uptoBulk d + 1
  | .slice elems spare => uptoBulkAll elems + uptoBulkAll spare + 1
  | .agg parts => uptoBulkAll parts + 1
  | .iface _ d => uptoBulk d + 1
  | .map entries => uptoBulkEntries entries + 1
  | .held _ => 1
def uptoBulkAll {H : Type} : List (DataW H) → Nat
  | [] => 0
  | d :: r => uptoBulk d + uptoBulkAll r
def uptoBulkEntries {H : Type} : List (Lit × DataW H) → Nat
  | [] => 0
  | x :: r => uptoBulkEntry x + uptoBulkEntries r
def uptoBulkEntry {H : Type} : Lit × DataW H → Nat
  | (.string bytes, d) => bytes.length + uptoBulk d + 1
  | (_, d) => uptoBulk d + 1
 end
def uptoSmall : (H : Type) → List (DataW H) → Bool := fun _ ds => decide (uptoBulkAll ds ≤ 1048576)
def OpenSpec.upto (s : _root_.Go.ChangeSpec) : _root_.Go.OpenSpec := { _root_.Go.OpenSpec.ofChange s with cond := some uptoSmall }

/-- 'bollardlaw19.TopicRuns', WHERE WHAT IT READS IS OF BULK AT MOST 1048576: true; the input reads as it did. -/
def topicRunsUptoRow : OpenClaim := { program := "ytnkpmidfefilbaa", sum := "b1f5f7f2f2b3e2a9dacfd0ac5e8f866c21a8fbcd9d645985f3a72d2579687e20", func := "bollard/bollardlaw19.TopicRuns", spec := "topicRuns", unfollowed := true, recurses := true, apart := false, narrowed := true }
def TopicRunsUptoSaid : Prop := topicRunsUptoRow.holds Try.pinned (OpenSpec.upto topicRunsSpec)

/-- 'bollardlaw19.TopicMany', WHERE WHAT IT READS IS OF BULK AT MOST 1048576: true; the input reads as it did. -/
def topicManyUptoRow : OpenClaim := { program := "ytnkpmidfefilbaa", sum := "b1f5f7f2f2b3e2a9dacfd0ac5e8f866c21a8fbcd9d645985f3a72d2579687e20", func := "bollard/bollardlaw19.TopicMany", spec := "topicMany", unfollowed := true, recurses := true, apart := false, narrowed := true }
def TopicManyUptoSaid : Prop := topicManyUptoRow.holds Try.pinned (OpenSpec.upto topicManySpec)

/-- 'bollardlaw19.TopicParts', WHERE WHAT IT READS IS OF BULK AT MOST 1048576: true; the input reads as it did. -/
def topicPartsUptoRow : OpenClaim := { program := "ytnkpmidfefilbaa", sum := "b1f5f7f2f2b3e2a9dacfd0ac5e8f866c21a8fbcd9d645985f3a72d2579687e20", func := "bollard/bollardlaw19.TopicParts", spec := "topicParts", unfollowed := true, recurses := true, apart := false, narrowed := true }
def TopicPartsUptoSaid : Prop := topicPartsUptoRow.holds Try.pinned (OpenSpec.upto topicPartsSpec)

/-- 'bollardlaw19.TopicOnly', WHERE WHAT IT READS IS OF BULK AT MOST 1048576: true; the input reads as it did. -/
def topicOnlyUptoRow : OpenClaim := { program := "ytnkpmidfefilbaa", sum := "b1f5f7f2f2b3e2a9dacfd0ac5e8f866c21a8fbcd9d645985f3a72d2579687e20", func := "bollard/bollardlaw19.TopicOnly", spec := "topicOnly", unfollowed := true, recurses := true, apart := false, narrowed := true }
def TopicOnlyUptoSaid : Prop := topicOnlyUptoRow.holds Try.pinned (OpenSpec.upto topicOnlySpec)

/-- 'bollardlaw19.TopicBounds', WHERE WHAT IT READS IS OF BULK AT MOST 1048576: true; the input reads as it did. -/
def topicBoundsUptoRow : OpenClaim := { program := "ytnkpmidfefilbaa", sum := "b1f5f7f2f2b3e2a9dacfd0ac5e8f866c21a8fbcd9d645985f3a72d2579687e20", func := "bollard/bollardlaw19.TopicBounds", spec := "topicBounds", unfollowed := true, recurses := true, apart := false, narrowed := true }
def TopicBoundsUptoSaid : Prop := topicBoundsUptoRow.holds Try.pinned (OpenSpec.upto topicBoundsSpec)

/-- 'bollardlaw19.TopicPlays', WHERE WHAT IT READS IS OF BULK AT MOST 1048576: true; the input reads as it did. -/
def topicPlaysUptoRow : OpenClaim := { program := "ytnkpmidfefilbaa", sum := "b1f5f7f2f2b3e2a9dacfd0ac5e8f866c21a8fbcd9d645985f3a72d2579687e20", func := "bollard/bollardlaw19.TopicPlays", spec := "topicPlays", unfollowed := true, recurses := true, apart := false, narrowed := true }
def TopicPlaysUptoSaid : Prop := topicPlaysUptoRow.holds Try.pinned (OpenSpec.upto topicPlaysSpec)

/-- 'bollardlaw19.TopicNone', WHERE WHAT IT READS IS OF BULK AT MOST 1048576: true; the input reads as it did. -/
def topicNoneUptoRow : OpenClaim := { program := "ytnkpmidfefilbaa", sum := "b1f5f7f2f2b3e2a9dacfd0ac5e8f866c21a8fbcd9d645985f3a72d2579687e20", func := "bollard/bollardlaw19.TopicNone", spec := "topicNone", unfollowed := true, recurses := true, apart := false, narrowed := true }
def TopicNoneUptoSaid : Prop := topicNoneUptoRow.holds Try.pinned (OpenSpec.upto topicNoneSpec)

end Rows
end Go.Proofs.Ytnkpmidfefilbaa
