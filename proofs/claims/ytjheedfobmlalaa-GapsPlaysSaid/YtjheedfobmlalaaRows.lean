/-
  No cell of these rows narrows 'for every input' (looked for: loops, veiled, ifaces, maps, wideKeys, modest, calm, conditions, laid).
  DERIVED. THE GIVEN ROWS OF THIS SEAT. 6 by the template 'for every input the law returns true; each argument reads behind the call as it read before'; 0 by the template 'total and deterministic' (their statements: YtjheedfobmlalaaTotals.lean).
  GIVEN WITH THE SEED: the statements are not yours to turn. If you find one false, say at which input.
  Laid BY PROGRAM, IN A SANDBOX (cutbox-rows.mjs): the forced cells as the released guide's own fill.sh prints them over the translation d4e16eef93ca405a… (all of the seat's roots in one cut). By AI agents, Wed Nov 11 2026. No macro, syntax, notation, axiom, sorry.
-/
import Derived.Test.YtjheedfobmlalaaChecked
import GoSem.Claim
import GoSem.ClaimJoined
import GoSem.ClaimMapViews
import Derived.JoinedTies
import Derived.KernelRfl
namespace Go.Proofs.Ytjheedfobmlalaa
/- THE CELL 'sum', in the pinned program and in every row, IS THE sha256 OF THE DUMP (.gsa) THAT YtjheedfobmlalaaProg.lean LOADS. Nothing in Lean hashes anything: it is a label: what it is worth is what the hold of that sum in a sandbox is worth. -/
noncomputable def Try.pinned : Pinned := { name := "ytjheedfobmlalaa", sum := "d4e16eef93ca405a88af7f8729c4185ddf78bd06130df8c66fb46a74a243e8c2", checked := Try.checked }
namespace Rows
def none {H : Type} : Left H := { results := [], args := [] }

/-- 'bollardlaw10.GapsAll': WHATEVER THE INPUT: true; the input reads as it did. -/
def gapsAllSpec : ChangeSpec := { name := "gapsAll", fn := fun _ => fun
  | [d1, d2, d3] => { results := [.lit (.bool true)], args := [d1, d2, d3] }
  | _ => none }
def gapsAllRow : OpenClaim := { program := "ytjheedfobmlalaa", sum := "d4e16eef93ca405a88af7f8729c4185ddf78bd06130df8c66fb46a74a243e8c2", func := "bollard/bollardlaw10.GapsAll", spec := "gapsAll", recurses := true, apart := false }
def GapsAllSaid : Prop := gapsAllRow.holds Try.pinned (OpenSpec.ofChange gapsAllSpec)

/-- ITS FALSE NEIGHBOUR: 'it returns false'. Refute it at one input. -/
def gapsAllWrong : ChangeSpec := { name := "gapsAll", fn := fun _ => fun
  | [d1, d2, d3] => { results := [.lit (.bool false)], args := [d1, d2, d3] }
  | _ => none }
def GapsAllWrongFalsely : Prop := gapsAllRow.holds Try.pinned (OpenSpec.ofChange gapsAllWrong)

/-- 'bollardlaw10.GapsOnce': WHATEVER THE INPUT: true; the input reads as it did. -/
def gapsOnceSpec : ChangeSpec := { name := "gapsOnce", fn := fun _ => fun
  | [d1, d2, d3] => { results := [.lit (.bool true)], args := [d1, d2, d3] }
  | _ => none }
def gapsOnceRow : OpenClaim := { program := "ytjheedfobmlalaa", sum := "d4e16eef93ca405a88af7f8729c4185ddf78bd06130df8c66fb46a74a243e8c2", func := "bollard/bollardlaw10.GapsOnce", spec := "gapsOnce", recurses := true, apart := false }
def GapsOnceSaid : Prop := gapsOnceRow.holds Try.pinned (OpenSpec.ofChange gapsOnceSpec)

/-- ITS FALSE NEIGHBOUR: 'it returns false'. Refute it at one input. -/
def gapsOnceWrong : ChangeSpec := { name := "gapsOnce", fn := fun _ => fun
  | [d1, d2, d3] => { results := [.lit (.bool false)], args := [d1, d2, d3] }
  | _ => none }
def GapsOnceWrongFalsely : Prop := gapsOnceRow.holds Try.pinned (OpenSpec.ofChange gapsOnceWrong)

/-- 'bollardlaw10.GapsPlays': WHATEVER THE INPUT: true; the input reads as it did. -/
def gapsPlaysSpec : ChangeSpec := { name := "gapsPlays", fn := fun _ => fun
  | [d1, d2] => { results := [.lit (.bool true)], args := [d1, d2] }
  | _ => none }
def gapsPlaysRow : OpenClaim := { program := "ytjheedfobmlalaa", sum := "d4e16eef93ca405a88af7f8729c4185ddf78bd06130df8c66fb46a74a243e8c2", func := "bollard/bollardlaw10.GapsPlays", spec := "gapsPlays", unfollowed := true, recurses := true, apart := false }
def GapsPlaysSaid : Prop := gapsPlaysRow.holds Try.pinned (OpenSpec.ofChange gapsPlaysSpec)

/-- ITS FALSE NEIGHBOUR: 'it returns false'. Refute it at one input. -/
def gapsPlaysWrong : ChangeSpec := { name := "gapsPlays", fn := fun _ => fun
  | [d1, d2] => { results := [.lit (.bool false)], args := [d1, d2] }
  | _ => none }
def GapsPlaysWrongFalsely : Prop := gapsPlaysRow.holds Try.pinned (OpenSpec.ofChange gapsPlaysWrong)

/-- 'bollardlaw10.GapsNone': WHATEVER THE INPUT: true; the input reads as it did. -/
def gapsNoneSpec : ChangeSpec := { name := "gapsNone", fn := fun _ => fun
  | [d] => { results := [.lit (.bool true)], args := [d] }
  | _ => none }
def gapsNoneRow : OpenClaim := { program := "ytjheedfobmlalaa", sum := "d4e16eef93ca405a88af7f8729c4185ddf78bd06130df8c66fb46a74a243e8c2", func := "bollard/bollardlaw10.GapsNone", spec := "gapsNone", unfollowed := true, recurses := true, apart := false }
def GapsNoneSaid : Prop := gapsNoneRow.holds Try.pinned (OpenSpec.ofChange gapsNoneSpec)

/-- ITS FALSE NEIGHBOUR: 'it returns false'. Refute it at one input. -/
def gapsNoneWrong : ChangeSpec := { name := "gapsNone", fn := fun _ => fun
  | [d] => { results := [.lit (.bool false)], args := [d] }
  | _ => none }
def GapsNoneWrongFalsely : Prop := gapsNoneRow.holds Try.pinned (OpenSpec.ofChange gapsNoneWrong)

/-- 'bollardlaw10.GapsForward': WHATEVER THE INPUT: true; the input reads as it did. -/
def gapsForwardSpec : ChangeSpec := { name := "gapsForward", fn := fun _ => fun
  | [d1, d2, d3, d4] => { results := [.lit (.bool true)], args := [d1, d2, d3, d4] }
  | _ => none }
def gapsForwardRow : OpenClaim := { program := "ytjheedfobmlalaa", sum := "d4e16eef93ca405a88af7f8729c4185ddf78bd06130df8c66fb46a74a243e8c2", func := "bollard/bollardlaw10.GapsForward", spec := "gapsForward", unfollowed := true, recurses := true, apart := false }
def GapsForwardSaid : Prop := gapsForwardRow.holds Try.pinned (OpenSpec.ofChange gapsForwardSpec)

/-- ITS FALSE NEIGHBOUR: 'it returns false'. Refute it at one input. -/
def gapsForwardWrong : ChangeSpec := { name := "gapsForward", fn := fun _ => fun
  | [d1, d2, d3, d4] => { results := [.lit (.bool false)], args := [d1, d2, d3, d4] }
  | _ => none }
def GapsForwardWrongFalsely : Prop := gapsForwardRow.holds Try.pinned (OpenSpec.ofChange gapsForwardWrong)

/-- 'bollardlaw10.GapsFloor': WHATEVER THE INPUT: true; the input reads as it did. -/
def gapsFloorSpec : ChangeSpec := { name := "gapsFloor", fn := fun _ => fun
  | [d1, d2] => { results := [.lit (.bool true)], args := [d1, d2] }
  | _ => none }
def gapsFloorRow : OpenClaim := { program := "ytjheedfobmlalaa", sum := "d4e16eef93ca405a88af7f8729c4185ddf78bd06130df8c66fb46a74a243e8c2", func := "bollard/bollardlaw10.GapsFloor", spec := "gapsFloor", unfollowed := true, recurses := true, apart := false }
def GapsFloorSaid : Prop := gapsFloorRow.holds Try.pinned (OpenSpec.ofChange gapsFloorSpec)

/-- ITS FALSE NEIGHBOUR: 'it returns false'. Refute it at one input. -/
def gapsFloorWrong : ChangeSpec := { name := "gapsFloor", fn := fun _ => fun
  | [d1, d2] => { results := [.lit (.bool false)], args := [d1, d2] }
  | _ => none }
def GapsFloorWrongFalsely : Prop := gapsFloorRow.holds Try.pinned (OpenSpec.ofChange gapsFloorWrong)

/- THE SECOND FORM. 'bulk': how many values and letters a reading holds, each counted each time it is reached (what is shared counts as often as it is met; a slice's spare places count too). A statement '..UptoSaid' is the law's where the arguments, and the package variables that the reading takes, are together of bulk at most 1048576: NARROWER than '..Said'. Prove '..Said' where nothing that the law and all that it calls make is longer than what came in: it says more and counts as full. Else prove '..UptoSaid'. A law counts once. -/
mutual
def uptoBulk {H : Type} : DataW H → Nat
  | .lit (.string bytes) => bytes.length + 1
  | .lit _ => 1
  | .nil => 1
  | .ptr d => uptoBulk d + 1
  | .slice elems spare => uptoBulkAll elems + uptoBulkAll spare + 1
  | .agg parts => uptoBulkAll parts + 1
  | .iface _ d => uptoBulk d + 1
  | .map entries => uptoBulkEntries entries + 1
  | .held _ => 1
def uptoBulkAll {H : Type} : List (DataW H) → Nat
  | [] => 0
  | d :: r => uptoBulk d + uptoBulkAll r
def uptoBulkEntries {H : Type} : List (Lit × DataW H) → Nat
  | [] => 0
  | x :: r => uptoBulkEntry x + uptoBulkEntries r
def uptoBulkEntry {H : Type} : Lit × DataW H → Nat
  | (.string bytes, d) => bytes.length + uptoBulk d + 1
  | (_, d) => uptoBulk d + 1
 end
def uptoSmall : (H : Type) → List (DataW H) → Bool := fun _ ds => decide (uptoBulkAll ds ≤ 1048576)
def OpenSpec.upto (s : _root_.Go.ChangeSpec) : _root_.Go.OpenSpec := { _root_.Go.OpenSpec.ofChange s with cond := some uptoSmall }

/-- 'bollardlaw10.GapsAll', WHERE WHAT IT READS IS OF BULK AT MOST 1048576: true; the input reads as it did. -/
def gapsAllUptoRow : OpenClaim := { program := "ytjheedfobmlalaa", sum := "d4e16eef93ca405a88af7f8729c4185ddf78bd06130df8c66fb46a74a243e8c2", func := "bollard/bollardlaw10.GapsAll", spec := "gapsAll", recurses := true, apart := false, narrowed := true }
def GapsAllUptoSaid : Prop := gapsAllUptoRow.holds Try.pinned (OpenSpec.upto gapsAllSpec)

/-- 'bollardlaw10.GapsOnce', WHERE WHAT IT READS IS OF BULK AT MOST 1048576: true; the input reads as it did. -/
def gapsOnceUptoRow : OpenClaim := { program := "ytjheedfobmlalaa", sum := "d4e16eef93ca405a88af7f8729c4185ddf78bd06130df8c66fb46a74a243e8c2", func := "bollard/bollardlaw10.GapsOnce", spec := "gapsOnce", recurses := true, apart := false, narrowed := true }
def GapsOnceUptoSaid : Prop := gapsOnceUptoRow.holds Try.pinned (OpenSpec.upto gapsOnceSpec)

/-- 'bollardlaw10.GapsPlays', WHERE WHAT IT READS IS OF BULK AT MOST 1048576: true; the input reads as it did. -/
def gapsPlaysUptoRow : OpenClaim := { program := "ytjheedfobmlalaa", sum := "d4e16eef93ca405a88af7f8729c4185ddf78bd06130df8c66fb46a74a243e8c2", func := "bollard/bollardlaw10.GapsPlays", spec := "gapsPlays", unfollowed := true, recurses := true, apart := false, narrowed := true }
def GapsPlaysUptoSaid : Prop := gapsPlaysUptoRow.holds Try.pinned (OpenSpec.upto gapsPlaysSpec)

/-- 'bollardlaw10.GapsNone', WHERE WHAT IT READS IS OF BULK AT MOST 1048576: true; the input reads as it did. -/
def gapsNoneUptoRow : OpenClaim := { program := "ytjheedfobmlalaa", sum := "d4e16eef93ca405a88af7f8729c4185ddf78bd06130df8c66fb46a74a243e8c2", func := "bollard/bollardlaw10.GapsNone", spec := "gapsNone", unfollowed := true, recurses := true, apart := false, narrowed := true }
def GapsNoneUptoSaid : Prop := gapsNoneUptoRow.holds Try.pinned (OpenSpec.upto gapsNoneSpec)

/-- 'bollardlaw10.GapsForward', WHERE WHAT IT READS IS OF BULK AT MOST 1048576: true; the input reads as it did. -/
def gapsForwardUptoRow : OpenClaim := { program := "ytjheedfobmlalaa", sum := "d4e16eef93ca405a88af7f8729c4185ddf78bd06130df8c66fb46a74a243e8c2", func := "bollard/bollardlaw10.GapsForward", spec := "gapsForward", unfollowed := true, recurses := true, apart := false, narrowed := true }
def GapsForwardUptoSaid : Prop := gapsForwardUptoRow.holds Try.pinned (OpenSpec.upto gapsForwardSpec)

/-- 'bollardlaw10.GapsFloor', WHERE WHAT IT READS IS OF BULK AT MOST 1048576: true; the input reads as it did. -/
def gapsFloorUptoRow : OpenClaim := { program := "ytjheedfobmlalaa", sum := "d4e16eef93ca405a88af7f8729c4185ddf78bd06130df8c66fb46a74a243e8c2", func := "bollard/bollardlaw10.GapsFloor", spec := "gapsFloor", unfollowed := true, recurses := true, apart := false, narrowed := true }
def GapsFloorUptoSaid : Prop := gapsFloorUptoRow.holds Try.pinned (OpenSpec.upto gapsFloorSpec)

end Rows
end Go.Proofs.Ytjheedfobmlalaa
