/-
  No cell of these rows narrows 'for every input' (looked for: loops, veiled, ifaces, maps, wideKeys, modest, calm, conditions, laid).
  DERIVED. THE GIVEN ROWS OF THIS SEAT. 7 by the template 'for every input the law returns true; each argument reads behind the call as it read before'; 0 by the template 'total and deterministic' (their statements: YtipcacpaadgagaaTotals.lean).
  GIVEN WITH THE SEED: the statements are not yours to turn. If you find one false, say at which input.
  Laid BY PROGRAM, IN A SANDBOX (cutbox-rows.mjs): the forced cells as the released guide's own fill.sh prints them over the translation 5a0e66914964f3cc… (all of the seat's roots in one cut). By AI agents, Wed Nov 11 2026. No macro, syntax, notation, axiom, sorry.
-/
import Derived.Test.YtipcacpaadgagaaChecked
import GoSem.Claim
import GoSem.ClaimJoined
import GoSem.ClaimMapViews
import Derived.JoinedTies
import Derived.KernelRfl
namespace Go.Proofs.Ytipcacpaadgagaa
/- THE CELL 'sum', in the pinned program and in every row, IS THE sha256 OF THE DUMP (.gsa) THAT YtipcacpaadgagaaProg.lean LOADS. Nothing in Lean hashes anything: it is a label: what it is worth is what the hold of that sum in a sandbox is worth. -/
noncomputable def Try.pinned : Pinned := { name := "ytipcacpaadgagaa", sum := "5a0e66914964f3cc05bfb44c18489d974f804079a0a5c73c0493fb462e2bc6bd", checked := Try.checked }
namespace Rows
def none {H : Type} : Left H := { results := [], args := [] }

/-- 'bollardlaw15.SendqTwice': WHATEVER THE INPUT: true; the input reads as it did. -/
def sendqTwiceSpec : ChangeSpec := { name := "sendqTwice", fn := fun _ => fun
  | [d1, d2, d3, d4, d5] => { results := [.lit (.bool true)], args := [d1, d2, d3, d4, d5] }
  | _ => none }
def sendqTwiceRow : OpenClaim := { program := "ytipcacpaadgagaa", sum := "5a0e66914964f3cc05bfb44c18489d974f804079a0a5c73c0493fb462e2bc6bd", func := "bollard/bollardlaw15.SendqTwice", spec := "sendqTwice", unfollowed := true, recurses := true, apart := false }
def SendqTwiceSaid : Prop := sendqTwiceRow.holds Try.pinned (OpenSpec.ofChange sendqTwiceSpec)

/-- ITS FALSE NEIGHBOUR: 'it returns false'. Refute it at one input. -/
def sendqTwiceWrong : ChangeSpec := { name := "sendqTwice", fn := fun _ => fun
  | [d1, d2, d3, d4, d5] => { results := [.lit (.bool false)], args := [d1, d2, d3, d4, d5] }
  | _ => none }
def SendqTwiceWrongFalsely : Prop := sendqTwiceRow.holds Try.pinned (OpenSpec.ofChange sendqTwiceWrong)

/-- 'bollardlaw15.SendqRoom': WHATEVER THE INPUT: true; the input reads as it did. -/
def sendqRoomSpec : ChangeSpec := { name := "sendqRoom", fn := fun _ => fun
  | [d1, d2, d3] => { results := [.lit (.bool true)], args := [d1, d2, d3] }
  | _ => none }
def sendqRoomRow : OpenClaim := { program := "ytipcacpaadgagaa", sum := "5a0e66914964f3cc05bfb44c18489d974f804079a0a5c73c0493fb462e2bc6bd", func := "bollard/bollardlaw15.SendqRoom", spec := "sendqRoom", unfollowed := true, recurses := true, apart := false }
def SendqRoomSaid : Prop := sendqRoomRow.holds Try.pinned (OpenSpec.ofChange sendqRoomSpec)

/-- ITS FALSE NEIGHBOUR: 'it returns false'. Refute it at one input. -/
def sendqRoomWrong : ChangeSpec := { name := "sendqRoom", fn := fun _ => fun
  | [d1, d2, d3] => { results := [.lit (.bool false)], args := [d1, d2, d3] }
  | _ => none }
def SendqRoomWrongFalsely : Prop := sendqRoomRow.holds Try.pinned (OpenSpec.ofChange sendqRoomWrong)

/-- 'bollardlaw15.SendqAll': WHATEVER THE INPUT: true; the input reads as it did. -/
def sendqAllSpec : ChangeSpec := { name := "sendqAll", fn := fun _ => fun
  | [d1, d2, d3] => { results := [.lit (.bool true)], args := [d1, d2, d3] }
  | _ => none }
def sendqAllRow : OpenClaim := { program := "ytipcacpaadgagaa", sum := "5a0e66914964f3cc05bfb44c18489d974f804079a0a5c73c0493fb462e2bc6bd", func := "bollard/bollardlaw15.SendqAll", spec := "sendqAll", unfollowed := true, recurses := true, apart := false }
def SendqAllSaid : Prop := sendqAllRow.holds Try.pinned (OpenSpec.ofChange sendqAllSpec)

/-- ITS FALSE NEIGHBOUR: 'it returns false'. Refute it at one input. -/
def sendqAllWrong : ChangeSpec := { name := "sendqAll", fn := fun _ => fun
  | [d1, d2, d3] => { results := [.lit (.bool false)], args := [d1, d2, d3] }
  | _ => none }
def SendqAllWrongFalsely : Prop := sendqAllRow.holds Try.pinned (OpenSpec.ofChange sendqAllWrong)

/-- 'bollardlaw15.SendqFloor': WHATEVER THE INPUT: true; the input reads as it did. -/
def sendqFloorSpec : ChangeSpec := { name := "sendqFloor", fn := fun _ => fun
  | [d1, d2] => { results := [.lit (.bool true)], args := [d1, d2] }
  | _ => none }
def sendqFloorRow : OpenClaim := { program := "ytipcacpaadgagaa", sum := "5a0e66914964f3cc05bfb44c18489d974f804079a0a5c73c0493fb462e2bc6bd", func := "bollard/bollardlaw15.SendqFloor", spec := "sendqFloor", unfollowed := true, recurses := true, apart := false }
def SendqFloorSaid : Prop := sendqFloorRow.holds Try.pinned (OpenSpec.ofChange sendqFloorSpec)

/-- ITS FALSE NEIGHBOUR: 'it returns false'. Refute it at one input. -/
def sendqFloorWrong : ChangeSpec := { name := "sendqFloor", fn := fun _ => fun
  | [d1, d2] => { results := [.lit (.bool false)], args := [d1, d2] }
  | _ => none }
def SendqFloorWrongFalsely : Prop := sendqFloorRow.holds Try.pinned (OpenSpec.ofChange sendqFloorWrong)

/-- 'bollardlaw15.SendqGives': WHATEVER THE INPUT: true; the input reads as it did. -/
def sendqGivesSpec : ChangeSpec := { name := "sendqGives", fn := fun _ => fun
  | [d1, d2, d3, d4, d5, d6] => { results := [.lit (.bool true)], args := [d1, d2, d3, d4, d5, d6] }
  | _ => none }
def sendqGivesRow : OpenClaim := { program := "ytipcacpaadgagaa", sum := "5a0e66914964f3cc05bfb44c18489d974f804079a0a5c73c0493fb462e2bc6bd", func := "bollard/bollardlaw15.SendqGives", spec := "sendqGives", unfollowed := true, recurses := true, apart := false }
def SendqGivesSaid : Prop := sendqGivesRow.holds Try.pinned (OpenSpec.ofChange sendqGivesSpec)

/-- ITS FALSE NEIGHBOUR: 'it returns false'. Refute it at one input. -/
def sendqGivesWrong : ChangeSpec := { name := "sendqGives", fn := fun _ => fun
  | [d1, d2, d3, d4, d5, d6] => { results := [.lit (.bool false)], args := [d1, d2, d3, d4, d5, d6] }
  | _ => none }
def SendqGivesWrongFalsely : Prop := sendqGivesRow.holds Try.pinned (OpenSpec.ofChange sendqGivesWrong)

/-- 'bollardlaw15.SendqPlays': WHATEVER THE INPUT: true; the input reads as it did. -/
def sendqPlaysSpec : ChangeSpec := { name := "sendqPlays", fn := fun _ => fun
  | [d1, d2] => { results := [.lit (.bool true)], args := [d1, d2] }
  | _ => none }
def sendqPlaysRow : OpenClaim := { program := "ytipcacpaadgagaa", sum := "5a0e66914964f3cc05bfb44c18489d974f804079a0a5c73c0493fb462e2bc6bd", func := "bollard/bollardlaw15.SendqPlays", spec := "sendqPlays", unfollowed := true, recurses := true, apart := false }
def SendqPlaysSaid : Prop := sendqPlaysRow.holds Try.pinned (OpenSpec.ofChange sendqPlaysSpec)

/-- ITS FALSE NEIGHBOUR: 'it returns false'. Refute it at one input. -/
def sendqPlaysWrong : ChangeSpec := { name := "sendqPlays", fn := fun _ => fun
  | [d1, d2] => { results := [.lit (.bool false)], args := [d1, d2] }
  | _ => none }
def SendqPlaysWrongFalsely : Prop := sendqPlaysRow.holds Try.pinned (OpenSpec.ofChange sendqPlaysWrong)

/-- 'bollardlaw15.SendqNone': WHATEVER THE INPUT: true; the input reads as it did. -/
def sendqNoneSpec : ChangeSpec := { name := "sendqNone", fn := fun _ => fun
  | [d1, d2, d3] => { results := [.lit (.bool true)], args := [d1, d2, d3] }
  | _ => none }
def sendqNoneRow : OpenClaim := { program := "ytipcacpaadgagaa", sum := "5a0e66914964f3cc05bfb44c18489d974f804079a0a5c73c0493fb462e2bc6bd", func := "bollard/bollardlaw15.SendqNone", spec := "sendqNone", unfollowed := true, recurses := true, apart := false }
def SendqNoneSaid : Prop := sendqNoneRow.holds Try.pinned (OpenSpec.ofChange sendqNoneSpec)

/-- ITS FALSE NEIGHBOUR: 'it returns false'. Refute it at one input. -/
def sendqNoneWrong : ChangeSpec := { name := "sendqNone", fn := fun _ => fun
  | [d1, d2, d3] => { results := [.lit (.bool false)], args := [d1, d2, d3] }
  | _ => none }
def SendqNoneWrongFalsely : Prop := sendqNoneRow.holds Try.pinned (OpenSpec.ofChange sendqNoneWrong)

/- THE SECOND FORM. 'bulk': how many values and letters a reading holds, each counted each time it is reached (what is shared counts as often as it is met; a slice's spare places count too). A statement '..UptoSaid' is the law's where the arguments, and the package variables that the reading takes, are together of bulk at most 1048576: NARROWER than '..Said'. Prove '..Said' where nothing that the law and all that it calls make is longer than what came in: it says more and counts as full. Else prove '..UptoSaid'. A law counts once. -/
mutual
def uptoBulk {H : Type} : DataW H → Nat
  | .lit (.string bytes) => bytes.length + 1
  | .lit _ => 1
  | .nil => 1
  | .ptr d => uptoBulk d + 1
  | .slice elems spare => uptoBulkAll elems + uptoBulkAll spare + 1
  | .agg parts => uptoBulkAll parts + 1
  | .iface _ d => uptoBulk d + 1
  | .map entries => uptoBulkEntries entries + 1
  | .held _ => 1
def uptoBulkAll {H : Type} : List (DataW H) → Nat
  | [] => 0
  | d :: r => uptoBulk d + uptoBulkAll r
def uptoBulkEntries {H : Type} : List (Lit × DataW H) → Nat
  | [] => 0
  | x :: r => uptoBulkEntry x + uptoBulkEntries r
def uptoBulkEntry {H : Type} : Lit × DataW H → Nat
  | (.string bytes, d) => bytes.length + uptoBulk d + 1
  | (_, d) => uptoBulk d + 1
 end
def uptoSmall : (H : Type) → List (DataW H) → Bool := fun _ ds => decide (uptoBulkAll ds ≤ 1048576)
def OpenSpec.upto (s : _root_.Go.ChangeSpec) : _root_.Go.OpenSpec := { _root_.Go.OpenSpec.ofChange s with cond := some uptoSmall }

/-- 'bollardlaw15.SendqTwice', WHERE WHAT IT READS IS OF BULK AT MOST 1048576: true; the input reads as it did. -/
def sendqTwiceUptoRow : OpenClaim := { program := "ytipcacpaadgagaa", sum := "5a0e66914964f3cc05bfb44c18489d974f804079a0a5c73c0493fb462e2bc6bd", func := "bollard/bollardlaw15.SendqTwice", spec := "sendqTwice", unfollowed := true, recurses := true, apart := false, narrowed := true }
def SendqTwiceUptoSaid : Prop := sendqTwiceUptoRow.holds Try.pinned (OpenSpec.upto sendqTwiceSpec)

/-- 'bollardlaw15.SendqRoom', WHERE WHAT IT READS IS OF BULK AT MOST 1048576: true; the input reads as it did. -/
def sendqRoomUptoRow : OpenClaim := { program := "ytipcacpaadgagaa", sum := "5a0e66914964f3cc05bfb44c18489d974f804079a0a5c73c0493fb462e2bc6bd", func := "bollard/bollardlaw15.SendqRoom", spec := "sendqRoom", unfollowed := true, recurses := true, apart := false, narrowed := true }
def SendqRoomUptoSaid : Prop := sendqRoomUptoRow.holds Try.pinned (OpenSpec.upto sendqRoomSpec)

/-- 'bollardlaw15.SendqAll', WHERE WHAT IT READS IS OF BULK AT MOST 1048576: true; the input reads as it did. -/
def sendqAllUptoRow : OpenClaim := { program := "ytipcacpaadgagaa", sum := "5a0e66914964f3cc05bfb44c18489d974f804079a0a5c73c0493fb462e2bc6bd", func := "bollard/bollardlaw15.SendqAll", spec := "sendqAll", unfollowed := true, recurses := true, apart := false, narrowed := true }
def SendqAllUptoSaid : Prop := sendqAllUptoRow.holds Try.pinned (OpenSpec.upto sendqAllSpec)

/-- 'bollardlaw15.SendqFloor', WHERE WHAT IT READS IS OF BULK AT MOST 1048576: true; the input reads as it did. -/
def sendqFloorUptoRow : OpenClaim := { program := "ytipcacpaadgagaa", sum := "5a0e66914964f3cc05bfb44c18489d974f804079a0a5c73c0493fb462e2bc6bd", func := "bollard/bollardlaw15.SendqFloor", spec := "sendqFloor", unfollowed := true, recurses := true, apart := false, narrowed := true }
def SendqFloorUptoSaid : Prop := sendqFloorUptoRow.holds Try.pinned (OpenSpec.upto sendqFloorSpec)

/-- 'bollardlaw15.SendqGives', WHERE WHAT IT READS IS OF BULK AT MOST 1048576: true; the input reads as it did. -/
def sendqGivesUptoRow : OpenClaim := { program := "ytipcacpaadgagaa", sum := "5a0e66914964f3cc05bfb44c18489d974f804079a0a5c73c0493fb462e2bc6bd", func := "bollard/bollardlaw15.SendqGives", spec := "sendqGives", unfollowed := true, recurses := true, apart := false, narrowed := true }
def SendqGivesUptoSaid : Prop := sendqGivesUptoRow.holds Try.pinned (OpenSpec.upto sendqGivesSpec)

/-- 'bollardlaw15.SendqPlays', WHERE WHAT IT READS IS OF BULK AT MOST 1048576: true; the input reads as it did. -/
def sendqPlaysUptoRow : OpenClaim := { program := "ytipcacpaadgagaa", sum := "5a0e66914964f3cc05bfb44c18489d974f804079a0a5c73c0493fb462e2bc6bd", func := "bollard/bollardlaw15.SendqPlays", spec := "sendqPlays", unfollowed := true, recurses := true, apart := false, narrowed := true }
def SendqPlaysUptoSaid : Prop := sendqPlaysUptoRow.holds Try.pinned (OpenSpec.upto sendqPlaysSpec)

/-- 'bollardlaw15.SendqNone', WHERE WHAT IT READS IS OF BULK AT MOST 1048576: true; the input reads as it did. -/
def sendqNoneUptoRow : OpenClaim := { program := "ytipcacpaadgagaa", sum := "5a0e66914964f3cc05bfb44c18489d974f804079a0a5c73c0493fb462e2bc6bd", func := "bollard/bollardlaw15.SendqNone", spec := "sendqNone", unfollowed := true, recurses := true, apart := false, narrowed := true }
def SendqNoneUptoSaid : Prop := sendqNoneUptoRow.holds Try.pinned (OpenSpec.upto sendqNoneSpec)

end Rows
end Go.Proofs.Ytipcacpaadgagaa
