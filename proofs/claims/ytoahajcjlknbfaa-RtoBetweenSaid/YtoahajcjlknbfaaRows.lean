/-
  No cell of these rows narrows 'for every input' (looked for: loops, veiled, ifaces, maps, wideKeys, modest, calm, conditions, laid).
  DERIVED. THE GIVEN ROWS OF THIS SEAT. 5 by the template 'for every input the law returns true; each argument reads behind the call as it read before'; 0 by the template 'total and deterministic' (their statements: YtoahajcjlknbfaaTotals.lean).
  GIVEN WITH THE SEED: the statements are not yours to turn. If you find one false, say at which input.
  Laid BY PROGRAM, IN A SANDBOX (cutbox-rows.mjs): the forced cells as the released guide's own fill.sh prints them over the translation fe1d1c3ced2398ea… (all of the seat's roots in one cut). By AI agents, Wed Nov 11 2026. No macro, syntax, notation, axiom, sorry.
-/
import Derived.Test.YtoahajcjlknbfaaChecked
import GoSem.Claim
import GoSem.ClaimJoined
import GoSem.ClaimMapViews
import Derived.JoinedTies
import Derived.KernelRfl
namespace Go.Proofs.Ytoahajcjlknbfaa
/- THE CELL 'sum', in the pinned program and in every row, IS THE sha256 OF THE DUMP (.gsa) THAT YtoahajcjlknbfaaProg.lean LOADS. Nothing in Lean hashes anything: it is a label: what it is worth is what the hold of that sum in a sandbox is worth. -/
noncomputable def Try.pinned : Pinned := { name := "ytoahajcjlknbfaa", sum := "fe1d1c3ced2398ea460598c1f36ff1f19bffba323142b255220ba8cfb1ce4f05", checked := Try.checked }
namespace Rows
def none {H : Type} : Left H := { results := [], args := [] }

/-- 'bollardlaw11.RtoSamples': WHATEVER THE INPUT: true; the input reads as it did. -/
def rtoSamplesSpec : ChangeSpec := { name := "rtoSamples", fn := fun _ => fun
  | [d1, d2] => { results := [.lit (.bool true)], args := [d1, d2] }
  | _ => none }
def rtoSamplesRow : OpenClaim := { program := "ytoahajcjlknbfaa", sum := "fe1d1c3ced2398ea460598c1f36ff1f19bffba323142b255220ba8cfb1ce4f05", func := "bollard/bollardlaw11.RtoSamples", spec := "rtoSamples", unfollowed := true, recurses := true, apart := false }
def RtoSamplesSaid : Prop := rtoSamplesRow.holds Try.pinned (OpenSpec.ofChange rtoSamplesSpec)

/-- ITS FALSE NEIGHBOUR: 'it returns false'. Refute it at one input. -/
def rtoSamplesWrong : ChangeSpec := { name := "rtoSamples", fn := fun _ => fun
  | [d1, d2] => { results := [.lit (.bool false)], args := [d1, d2] }
  | _ => none }
def RtoSamplesWrongFalsely : Prop := rtoSamplesRow.holds Try.pinned (OpenSpec.ofChange rtoSamplesWrong)

/-- 'bollardlaw11.RtoBounds': WHATEVER THE INPUT: true; the input reads as it did. -/
def rtoBoundsSpec : ChangeSpec := { name := "rtoBounds", fn := fun _ => fun
  | [d] => { results := [.lit (.bool true)], args := [d] }
  | _ => none }
def rtoBoundsRow : OpenClaim := { program := "ytoahajcjlknbfaa", sum := "fe1d1c3ced2398ea460598c1f36ff1f19bffba323142b255220ba8cfb1ce4f05", func := "bollard/bollardlaw11.RtoBounds", spec := "rtoBounds", unfollowed := true, recurses := true, apart := false }
def RtoBoundsSaid : Prop := rtoBoundsRow.holds Try.pinned (OpenSpec.ofChange rtoBoundsSpec)

/-- ITS FALSE NEIGHBOUR: 'it returns false'. Refute it at one input. -/
def rtoBoundsWrong : ChangeSpec := { name := "rtoBounds", fn := fun _ => fun
  | [d] => { results := [.lit (.bool false)], args := [d] }
  | _ => none }
def RtoBoundsWrongFalsely : Prop := rtoBoundsRow.holds Try.pinned (OpenSpec.ofChange rtoBoundsWrong)

/-- 'bollardlaw11.RtoBacks': WHATEVER THE INPUT: true; the input reads as it did. -/
def rtoBacksSpec : ChangeSpec := { name := "rtoBacks", fn := fun _ => fun
  | [d] => { results := [.lit (.bool true)], args := [d] }
  | _ => none }
def rtoBacksRow : OpenClaim := { program := "ytoahajcjlknbfaa", sum := "fe1d1c3ced2398ea460598c1f36ff1f19bffba323142b255220ba8cfb1ce4f05", func := "bollard/bollardlaw11.RtoBacks", spec := "rtoBacks", unfollowed := true, recurses := true, apart := false }
def RtoBacksSaid : Prop := rtoBacksRow.holds Try.pinned (OpenSpec.ofChange rtoBacksSpec)

/-- ITS FALSE NEIGHBOUR: 'it returns false'. Refute it at one input. -/
def rtoBacksWrong : ChangeSpec := { name := "rtoBacks", fn := fun _ => fun
  | [d] => { results := [.lit (.bool false)], args := [d] }
  | _ => none }
def RtoBacksWrongFalsely : Prop := rtoBacksRow.holds Try.pinned (OpenSpec.ofChange rtoBacksWrong)

/-- 'bollardlaw11.RtoStill': WHATEVER THE INPUT: true; the input reads as it did. -/
def rtoStillSpec : ChangeSpec := { name := "rtoStill", fn := fun _ => fun
  | [d1, d2] => { results := [.lit (.bool true)], args := [d1, d2] }
  | _ => none }
def rtoStillRow : OpenClaim := { program := "ytoahajcjlknbfaa", sum := "fe1d1c3ced2398ea460598c1f36ff1f19bffba323142b255220ba8cfb1ce4f05", func := "bollard/bollardlaw11.RtoStill", spec := "rtoStill", unfollowed := true, recurses := true, apart := false }
def RtoStillSaid : Prop := rtoStillRow.holds Try.pinned (OpenSpec.ofChange rtoStillSpec)

/-- ITS FALSE NEIGHBOUR: 'it returns false'. Refute it at one input. -/
def rtoStillWrong : ChangeSpec := { name := "rtoStill", fn := fun _ => fun
  | [d1, d2] => { results := [.lit (.bool false)], args := [d1, d2] }
  | _ => none }
def RtoStillWrongFalsely : Prop := rtoStillRow.holds Try.pinned (OpenSpec.ofChange rtoStillWrong)

/-- 'bollardlaw11.RtoBetween': WHATEVER THE INPUT: true; the input reads as it did. -/
def rtoBetweenSpec : ChangeSpec := { name := "rtoBetween", fn := fun _ => fun
  | [d1, d2] => { results := [.lit (.bool true)], args := [d1, d2] }
  | _ => none }
def rtoBetweenRow : OpenClaim := { program := "ytoahajcjlknbfaa", sum := "fe1d1c3ced2398ea460598c1f36ff1f19bffba323142b255220ba8cfb1ce4f05", func := "bollard/bollardlaw11.RtoBetween", spec := "rtoBetween", unfollowed := true, recurses := true, apart := false }
def RtoBetweenSaid : Prop := rtoBetweenRow.holds Try.pinned (OpenSpec.ofChange rtoBetweenSpec)

/-- ITS FALSE NEIGHBOUR: 'it returns false'. Refute it at one input. -/
def rtoBetweenWrong : ChangeSpec := { name := "rtoBetween", fn := fun _ => fun
  | [d1, d2] => { results := [.lit (.bool false)], args := [d1, d2] }
  | _ => none }
def RtoBetweenWrongFalsely : Prop := rtoBetweenRow.holds Try.pinned (OpenSpec.ofChange rtoBetweenWrong)

/- THE SECOND FORM. 'bulk': how many values and letters a reading holds, each counted each time it is reached (what is shared counts as often as it is met; a slice's spare places count too). A statement '..UptoSaid' is the law's where the arguments, and the package variables that the reading takes, are together of bulk at most 1048576: NARROWER than '..Said'. Prove '..Said' where nothing that the law and all that it calls make is longer than what came in: it says more and counts as full. Else prove '..UptoSaid'. A law counts once. -/
mutual
def uptoBulk {H : Type} : DataW H → Nat
  | .lit (.string bytes) => bytes.length + 1
  | .lit _ => 1
  | .nil => 1
  | .ptr d => uptoBulk d + 1
  | .slice elems spare => uptoBulkAll elems + uptoBulkAll spare + 1
  | .agg parts => uptoBulkAll parts + 1
  | .iface _ d => uptoBulk d + 1
  | .map entries => uptoBulkEntries entries + 1
  | .held _ => 1
def uptoBulkAll {H : Type} : List (DataW H) → Nat
  | [] => 0
  | d :: r => uptoBulk d + uptoBulkAll r
def uptoBulkEntries {H : Type} : List (Lit × DataW H) → Nat
  | [] => 0
  | x :: r => uptoBulkEntry x + uptoBulkEntries r
def uptoBulkEntry {H : Type} : Lit × DataW H → Nat
  | (.string bytes, d) => bytes.length + uptoBulk d + 1
  | (_, d) => uptoBulk d + 1
 end
def uptoSmall : (H : Type) → List (DataW H) → Bool := fun _ ds => decide (uptoBulkAll ds ≤ 1048576)
def OpenSpec.upto (s : _root_.Go.ChangeSpec) : _root_.Go.OpenSpec := { _root_.Go.OpenSpec.ofChange s with cond := some uptoSmall }

/-- 'bollardlaw11.RtoSamples', WHERE WHAT IT READS IS OF BULK AT MOST 1048576: true; the input reads as it did. -/
def rtoSamplesUptoRow : OpenClaim := { program := "ytoahajcjlknbfaa", sum := "fe1d1c3ced2398ea460598c1f36ff1f19bffba323142b255220ba8cfb1ce4f05", func := "bollard/bollardlaw11.RtoSamples", spec := "rtoSamples", unfollowed := true, recurses := true, apart := false, narrowed := true }
def RtoSamplesUptoSaid : Prop := rtoSamplesUptoRow.holds Try.pinned (OpenSpec.upto rtoSamplesSpec)

/-- 'bollardlaw11.RtoBounds', WHERE WHAT IT READS IS OF BULK AT MOST 1048576: true; the input reads as it did. -/
def rtoBoundsUptoRow : OpenClaim := { program := "ytoahajcjlknbfaa", sum := "fe1d1c3ced2398ea460598c1f36ff1f19bffba323142b255220ba8cfb1ce4f05", func := "bollard/bollardlaw11.RtoBounds", spec := "rtoBounds", unfollowed := true, recurses := true, apart := false, narrowed := true }
def RtoBoundsUptoSaid : Prop := rtoBoundsUptoRow.holds Try.pinned (OpenSpec.upto rtoBoundsSpec)

/-- 'bollardlaw11.RtoBacks', WHERE WHAT IT READS IS OF BULK AT MOST 1048576: true; the input reads as it did. -/
def rtoBacksUptoRow : OpenClaim := { program := "ytoahajcjlknbfaa", sum := "fe1d1c3ced2398ea460598c1f36ff1f19bffba323142b255220ba8cfb1ce4f05", func := "bollard/bollardlaw11.RtoBacks", spec := "rtoBacks", unfollowed := true, recurses := true, apart := false, narrowed := true }
def RtoBacksUptoSaid : Prop := rtoBacksUptoRow.holds Try.pinned (OpenSpec.upto rtoBacksSpec)

/-- 'bollardlaw11.RtoStill', WHERE WHAT IT READS IS OF BULK AT MOST 1048576: true; the input reads as it did. -/
def rtoStillUptoRow : OpenClaim := { program := "ytoahajcjlknbfaa", sum := "fe1d1c3ced2398ea460598c1f36ff1f19bffba323142b255220ba8cfb1ce4f05", func := "bollard/bollardlaw11.RtoStill", spec := "rtoStill", unfollowed := true, recurses := true, apart := false, narrowed := true }
def RtoStillUptoSaid : Prop := rtoStillUptoRow.holds Try.pinned (OpenSpec.upto rtoStillSpec)

/-- 'bollardlaw11.RtoBetween', WHERE WHAT IT READS IS OF BULK AT MOST 1048576: true; the input reads as it did. -/
def rtoBetweenUptoRow : OpenClaim := { program := "ytoahajcjlknbfaa", sum := "fe1d1c3ced2398ea460598c1f36ff1f19bffba323142b255220ba8cfb1ce4f05", func := "bollard/bollardlaw11.RtoBetween", spec := "rtoBetween", unfollowed := true, recurses := true, apart := false, narrowed := true }
def RtoBetweenUptoSaid : Prop := rtoBetweenUptoRow.holds Try.pinned (OpenSpec.upto rtoBetweenSpec)

end Rows
end Go.Proofs.Ytoahajcjlknbfaa
