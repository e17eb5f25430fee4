/-
  No cell of these rows narrows 'for every input' (looked for: loops, veiled, ifaces, maps, wideKeys, modest, calm, conditions, laid).
  DERIVED. THE GIVEN ROWS OF THIS SEAT. 4 by the template 'for every input the law returns true; each argument reads behind the call as it read before'; 0 by the template 'total and deterministic' (their statements: YtjnceigeejdleaaTotals.lean).
  GIVEN WITH THE SEED: the statements are not yours to turn. If you find one false, say at which input.
  Laid BY PROGRAM, IN A SANDBOX (cutbox-rows.mjs): the forced cells as the released guide's own fill.sh prints them over the translation bf7003b72f33d1c6… (all of the seat's roots in one cut). By AI agents, Wed Nov 11 2026. No macro, syntax, notation, axiom, sorry.
-/
import Derived.Test.YtjnceigeejdleaaChecked
import GoSem.Claim
import GoSem.ClaimJoined
import GoSem.ClaimMapViews
import Derived.JoinedTies
import Derived.KernelRfl
namespace Go.Proofs.Ytjnceigeejdleaa
/- THE CELL 'sum', in the pinned program and in every row, IS THE sha256 OF THE DUMP (.gsa) THAT YtjnceigeejdleaaProg.lean LOADS. Nothing in Lean hashes anything: it is a label: what it is worth is what the hold of that sum in a sandbox is worth. -/
noncomputable def Try.pinned : Pinned := { name := "ytjnceigeejdleaa", sum := "bf7003b72f33d1c65af7a2abd780aa0f829e600ffdf0fb8c3495804a8e175882", checked := Try.checked }
namespace Rows
def none {H : Type} : Left H := { results := [], args := [] }

/-- 'bollardlaw12.WindowStays': WHATEVER THE INPUT: true; the input reads as it did. -/
def windowStaysSpec : ChangeSpec := { name := "windowStays", fn := fun _ => fun
  | [d1, d2] => { results := [.lit (.bool true)], args := [d1, d2] }
  | _ => none }
def windowStaysRow : OpenClaim := { program := "ytjnceigeejdleaa", sum := "bf7003b72f33d1c65af7a2abd780aa0f829e600ffdf0fb8c3495804a8e175882", func := "bollard/bollardlaw12.WindowStays", spec := "windowStays", unfollowed := true, recurses := true, apart := false }
def WindowStaysSaid : Prop := windowStaysRow.holds Try.pinned (OpenSpec.ofChange windowStaysSpec)

/-- ITS FALSE NEIGHBOUR: 'it returns false'. Refute it at one input. -/
def windowStaysWrong : ChangeSpec := { name := "windowStays", fn := fun _ => fun
  | [d1, d2] => { results := [.lit (.bool false)], args := [d1, d2] }
  | _ => none }
def WindowStaysWrongFalsely : Prop := windowStaysRow.holds Try.pinned (OpenSpec.ofChange windowStaysWrong)

/-- 'bollardlaw12.WindowGrows': WHATEVER THE INPUT: true; the input reads as it did. -/
def windowGrowsSpec : ChangeSpec := { name := "windowGrows", fn := fun _ => fun
  | [d1, d2, d3, d4, d5] => { results := [.lit (.bool true)], args := [d1, d2, d3, d4, d5] }
  | _ => none }
def windowGrowsRow : OpenClaim := { program := "ytjnceigeejdleaa", sum := "bf7003b72f33d1c65af7a2abd780aa0f829e600ffdf0fb8c3495804a8e175882", func := "bollard/bollardlaw12.WindowGrows", spec := "windowGrows", unfollowed := true, recurses := true, apart := false }
def WindowGrowsSaid : Prop := windowGrowsRow.holds Try.pinned (OpenSpec.ofChange windowGrowsSpec)

/-- ITS FALSE NEIGHBOUR: 'it returns false'. Refute it at one input. -/
def windowGrowsWrong : ChangeSpec := { name := "windowGrows", fn := fun _ => fun
  | [d1, d2, d3, d4, d5] => { results := [.lit (.bool false)], args := [d1, d2, d3, d4, d5] }
  | _ => none }
def WindowGrowsWrongFalsely : Prop := windowGrowsRow.holds Try.pinned (OpenSpec.ofChange windowGrowsWrong)

/-- 'bollardlaw12.WindowRoom': WHATEVER THE INPUT: true; the input reads as it did. -/
def windowRoomSpec : ChangeSpec := { name := "windowRoom", fn := fun _ => fun
  | [d1, d2, d3] => { results := [.lit (.bool true)], args := [d1, d2, d3] }
  | _ => none }
def windowRoomRow : OpenClaim := { program := "ytjnceigeejdleaa", sum := "bf7003b72f33d1c65af7a2abd780aa0f829e600ffdf0fb8c3495804a8e175882", func := "bollard/bollardlaw12.WindowRoom", spec := "windowRoom", unfollowed := true, recurses := true, apart := false }
def WindowRoomSaid : Prop := windowRoomRow.holds Try.pinned (OpenSpec.ofChange windowRoomSpec)

/-- ITS FALSE NEIGHBOUR: 'it returns false'. Refute it at one input. -/
def windowRoomWrong : ChangeSpec := { name := "windowRoom", fn := fun _ => fun
  | [d1, d2, d3] => { results := [.lit (.bool false)], args := [d1, d2, d3] }
  | _ => none }
def WindowRoomWrongFalsely : Prop := windowRoomRow.holds Try.pinned (OpenSpec.ofChange windowRoomWrong)

/-- 'bollardlaw12.WindowStarts': WHATEVER THE INPUT: true; the input reads as it did. -/
def windowStartsSpec : ChangeSpec := { name := "windowStarts", fn := fun _ => fun
  | [d1, d2, d3] => { results := [.lit (.bool true)], args := [d1, d2, d3] }
  | _ => none }
def windowStartsRow : OpenClaim := { program := "ytjnceigeejdleaa", sum := "bf7003b72f33d1c65af7a2abd780aa0f829e600ffdf0fb8c3495804a8e175882", func := "bollard/bollardlaw12.WindowStarts", spec := "windowStarts", unfollowed := true, recurses := true, apart := false }
def WindowStartsSaid : Prop := windowStartsRow.holds Try.pinned (OpenSpec.ofChange windowStartsSpec)

/-- ITS FALSE NEIGHBOUR: 'it returns false'. Refute it at one input. -/
def windowStartsWrong : ChangeSpec := { name := "windowStarts", fn := fun _ => fun
  | [d1, d2, d3] => { results := [.lit (.bool false)], args := [d1, d2, d3] }
  | _ => none }
def WindowStartsWrongFalsely : Prop := windowStartsRow.holds Try.pinned (OpenSpec.ofChange windowStartsWrong)

/- THE SECOND FORM. 'bulk': how many values and letters a reading holds, each counted each time it is reached (what is shared counts as often as it is met; a slice's spare places count too). A statement '..UptoSaid' is the law's where the arguments, and the package variables that the reading takes, are together of bulk at most 1048576: NARROWER than '..Said'. Prove '..Said' where nothing that the law and all that it calls make is longer than what came in: it says more and counts as full. Else prove '..UptoSaid'. A law counts once. -/
mutual
def uptoBulk {H : Type} : DataW H → Nat
  | .lit (.string bytes) => bytes.length + 1
  | .lit _ => 1
  | .nil => 1
  | .ptr d => uptoBulk d + 1
  | .slice elems spare => uptoBulkAll elems + uptoBulkAll spare + 1
  | .agg parts => uptoBulkAll parts + 1
  | .iface _ d => uptoBulk d + 1
  | .map entries => uptoBulkEntries entries + 1
  | .held _ => 1
def uptoBulkAll {H : Type} : List (DataW H) → Nat
  | [] => 0
  | d :: r => uptoBulk d + uptoBulkAll r
def uptoBulkEntries {H : Type} : List (Lit × DataW H) → Nat
  | [] => 0
  | x :: r => uptoBulkEntry x + uptoBulkEntries r
def uptoBulkEntry {H : Type} : Lit × DataW H → Nat
  | (.string bytes, d) => bytes.length + uptoBulk d + 1
  | (_, d) => uptoBulk d + 1
 end
def uptoSmall : (H : Type) → List (DataW H) → Bool := fun _ ds => decide (uptoBulkAll ds ≤ 1048576)
def OpenSpec.upto (s : _root_.Go.ChangeSpec) : _root_.Go.OpenSpec := { _root_.Go.OpenSpec.ofChange s with cond := some uptoSmall }

/-- 'bollardlaw12.WindowStays', WHERE WHAT IT READS IS OF BULK AT MOST 1048576: true; the input reads as it did. -/
def windowStaysUptoRow : OpenClaim := { program := "ytjnceigeejdleaa", sum := "bf7003b72f33d1c65af7a2abd780aa0f829e600ffdf0fb8c3495804a8e175882", func := "bollard/bollardlaw12.WindowStays", spec := "windowStays", unfollowed := true, recurses := true, apart := false, narrowed := true }
def WindowStaysUptoSaid : Prop := windowStaysUptoRow.holds Try.pinned (OpenSpec.upto windowStaysSpec)

/-- 'bollardlaw12.WindowGrows', WHERE WHAT IT READS IS OF BULK AT MOST 1048576: true; the input reads as it did. -/
def windowGrowsUptoRow : OpenClaim := { program := "ytjnceigeejdleaa", sum := "bf7003b72f33d1c65af7a2abd780aa0f829e600ffdf0fb8c3495804a8e175882", func := "bollard/bollardlaw12.WindowGrows", spec := "windowGrows", unfollowed := true, recurses := true, apart := false, narrowed := true }
def WindowGrowsUptoSaid : Prop := windowGrowsUptoRow.holds Try.pinned (OpenSpec.upto windowGrowsSpec)

/-- 'bollardlaw12.WindowRoom', WHERE WHAT IT READS IS OF BULK AT MOST 1048576: true; the input reads as it did. -/
def windowRoomUptoRow : OpenClaim := { program := "ytjnceigeejdleaa", sum := "bf7003b72f33d1c65af7a2abd780aa0f829e600ffdf0fb8c3495804a8e175882", func := "bollard/bollardlaw12.WindowRoom", spec := "windowRoom", unfollowed := true, recurses := true, apart := false, narrowed := true }
def WindowRoomUptoSaid : Prop := windowRoomUptoRow.holds Try.pinned (OpenSpec.upto windowRoomSpec)

/-- 'bollardlaw12.WindowStarts', WHERE WHAT IT READS IS OF BULK AT MOST 1048576: true; the input reads as it did. -/
def windowStartsUptoRow : OpenClaim := { program := "ytjnceigeejdleaa", sum := "bf7003b72f33d1c65af7a2abd780aa0f829e600ffdf0fb8c3495804a8e175882", func := "bollard/bollardlaw12.WindowStarts", spec := "windowStarts", unfollowed := true, recurses := true, apart := false, narrowed := true }
def WindowStartsUptoSaid : Prop := windowStartsUptoRow.holds Try.pinned (OpenSpec.upto windowStartsSpec)

end Rows
end Go.Proofs.Ytjnceigeejdleaa
