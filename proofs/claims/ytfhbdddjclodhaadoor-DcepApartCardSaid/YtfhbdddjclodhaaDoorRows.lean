/-
  NARROWER THAN 'FOR EVERY INPUT', by the rows' own cells (each row's printed sentence says how): DcepEncodes: laid · DcepDecodes: laid · DcepBack: laid · DcepWraps: laid · DcepFull: laid · DcepApart: laid · DcepPlays: laid · DcepNone: laid.
  DERIVED. THE GIVEN ROWS OF THIS SEAT. 8 by the template 'for every input the law returns true; each argument reads behind the call as it read before'; 0 by the template 'total and deterministic' (their statements: YtfhbdddjclodhaaDoorTotals.lean).
  GIVEN WITH THE SEED: the statements are not yours to turn. If you find one false, say at which input.
  Laid BY PROGRAM, IN A SANDBOX (cutbox-rows.mjs): the forced cells as the released guide's own fill.sh prints them over the translation 1bb251c7d7708415… (all of the seat's roots in one cut). By AI agents, Wed Nov 11 2026. No macro, syntax, notation, axiom, sorry.
-/
import Derived.Test.YtfhbdddjclodhaaDoorChecked
import GoSem.PinnedTables
import GoSem.Claim
import GoSem.ClaimJoined
import GoSem.ClaimMapViews
import Derived.JoinedTies
import Derived.KernelRfl
namespace Go.Proofs.YtfhbdddjclodhaaDoor
/- THE CELL 'sum', in the pinned program and in every row, IS THE sha256 OF THE DUMP (.gsa) THAT YtfhbdddjclodhaaDoorProg.lean LOADS. Nothing in Lean hashes anything: it is a label: what it is worth is what the hold of that sum in a sandbox is worth. -/
noncomputable def Tryd.pinned : Pinned := { name := "ytfhbdddjclodhaadoor", sum := "1bb251c7d7708415096b767dc36dc82a6ef9dd7c5f9eb5c17954254e21045bc2", checked := Tryd.checked }
namespace Rows
def none {H : Type} : Left H := { results := [], args := [] }

/- WHAT THE LISTED PACKAGE-LEVEL VARIABLES READ AS WHEN THE CALL BEGINS. Each datum BY PROGRAM (the guide's laid-datum.mjs) off the statement by which the dump's own 'gosem.cut.vars' lays the variable. In a bare row this is a premise. The card (YtfhbdddjclodhaaDoorCards.lean) ties it to the program's text. -/
def laid_unicode_utf8_acceptRanges {H : Type} : DataW H := .agg [.agg [.lit (.int .u8 128), .lit (.int .u8 191)], .agg [.lit (.int .u8 160), .lit (.int .u8 191)], .agg [.lit (.int .u8 128), .lit (.int .u8 159)], .agg [.lit (.int .u8 144), .lit (.int .u8 191)], .agg [.lit (.int .u8 128), .lit (.int .u8 143)], .agg [.lit (.int .u8 0), .lit (.int .u8 0)], .agg [.lit (.int .u8 0), .lit (.int .u8 0)], .agg [.lit (.int .u8 0), .lit (.int .u8 0)], .agg [.lit (.int .u8 0), .lit (.int .u8 0)], .agg [.lit (.int .u8 0), .lit (.int .u8 0)], .agg [.lit (.int .u8 0), .lit (.int .u8 0)], .agg [.lit (.int .u8 0), .lit (.int .u8 0)], .agg [.lit (.int .u8 0), .lit (.int .u8 0)], .agg [.lit (.int .u8 0), .lit (.int .u8 0)], .agg [.lit (.int .u8 0), .lit (.int .u8 0)], .agg [.lit (.int .u8 0), .lit (.int .u8 0)]]
/-- One of Go's own tables, pinned by name: the form's constant. -/
def laid_unicode_utf8_first : DataW Unit := Go.Pinned.utf8First

/-- 'bollardlaw18.DcepEncodes': WHATEVER THE INPUT: true; the input reads as it did. -/
def dcepEncodesSpec : ChangeSpec := { name := "dcepEncodes", fn := fun _ => fun
  | [d] => { results := [.lit (.bool true)], args := [d] }
  | _ => none }
def dcepEncodesRow : OpenClaim := { program := "ytfhbdddjclodhaadoor", sum := "1bb251c7d7708415096b767dc36dc82a6ef9dd7c5f9eb5c17954254e21045bc2", func := "bollard/bollardlaw18.DcepEncodes", spec := "dcepEncodes", named := ["unicode/utf8.first", "unicode/utf8.acceptRanges"], apart := false, laid := [("unicode/utf8.acceptRanges", laid_unicode_utf8_acceptRanges), ("unicode/utf8.first", laid_unicode_utf8_first)] }
def DcepEncodesSaid : Prop := dcepEncodesRow.holds Tryd.pinned (OpenSpec.ofChange dcepEncodesSpec)

/-- ITS FALSE NEIGHBOUR: 'it returns false'. Refute it at one input. -/
def dcepEncodesWrong : ChangeSpec := { name := "dcepEncodes", fn := fun _ => fun
  | [d] => { results := [.lit (.bool false)], args := [d] }
  | _ => none }
def DcepEncodesWrongFalsely : Prop := dcepEncodesRow.holds Tryd.pinned (OpenSpec.ofChange dcepEncodesWrong)

/-- 'bollardlaw18.DcepDecodes': WHATEVER THE INPUT: true; the input reads as it did. -/
def dcepDecodesSpec : ChangeSpec := { name := "dcepDecodes", fn := fun _ => fun
  | [d] => { results := [.lit (.bool true)], args := [d] }
  | _ => none }
def dcepDecodesRow : OpenClaim := { program := "ytfhbdddjclodhaadoor", sum := "1bb251c7d7708415096b767dc36dc82a6ef9dd7c5f9eb5c17954254e21045bc2", func := "bollard/bollardlaw18.DcepDecodes", spec := "dcepDecodes", named := ["unicode/utf8.first", "unicode/utf8.acceptRanges"], apart := false, laid := [("unicode/utf8.acceptRanges", laid_unicode_utf8_acceptRanges), ("unicode/utf8.first", laid_unicode_utf8_first)] }
def DcepDecodesSaid : Prop := dcepDecodesRow.holds Tryd.pinned (OpenSpec.ofChange dcepDecodesSpec)

/-- ITS FALSE NEIGHBOUR: 'it returns false'. Refute it at one input. -/
def dcepDecodesWrong : ChangeSpec := { name := "dcepDecodes", fn := fun _ => fun
  | [d] => { results := [.lit (.bool false)], args := [d] }
  | _ => none }
def DcepDecodesWrongFalsely : Prop := dcepDecodesRow.holds Tryd.pinned (OpenSpec.ofChange dcepDecodesWrong)

/-- 'bollardlaw18.DcepBack': WHATEVER THE INPUT: true; the input reads as it did. -/
def dcepBackSpec : ChangeSpec := { name := "dcepBack", fn := fun _ => fun
  | [d1, d2] => { results := [.lit (.bool true)], args := [d1, d2] }
  | _ => none }
def dcepBackRow : OpenClaim := { program := "ytfhbdddjclodhaadoor", sum := "1bb251c7d7708415096b767dc36dc82a6ef9dd7c5f9eb5c17954254e21045bc2", func := "bollard/bollardlaw18.DcepBack", spec := "dcepBack", named := ["unicode/utf8.first", "unicode/utf8.acceptRanges"], apart := false, laid := [("unicode/utf8.acceptRanges", laid_unicode_utf8_acceptRanges), ("unicode/utf8.first", laid_unicode_utf8_first)] }
def DcepBackSaid : Prop := dcepBackRow.holds Tryd.pinned (OpenSpec.ofChange dcepBackSpec)

/-- ITS FALSE NEIGHBOUR: 'it returns false'. Refute it at one input. -/
def dcepBackWrong : ChangeSpec := { name := "dcepBack", fn := fun _ => fun
  | [d1, d2] => { results := [.lit (.bool false)], args := [d1, d2] }
  | _ => none }
def DcepBackWrongFalsely : Prop := dcepBackRow.holds Tryd.pinned (OpenSpec.ofChange dcepBackWrong)

/-- 'bollardlaw18.DcepWraps': WHATEVER THE INPUT: true; the input reads as it did. -/
def dcepWrapsSpec : ChangeSpec := { name := "dcepWraps", fn := fun _ => fun
  | [d1, d2, d3] => { results := [.lit (.bool true)], args := [d1, d2, d3] }
  | _ => none }
def dcepWrapsRow : OpenClaim := { program := "ytfhbdddjclodhaadoor", sum := "1bb251c7d7708415096b767dc36dc82a6ef9dd7c5f9eb5c17954254e21045bc2", func := "bollard/bollardlaw18.DcepWraps", spec := "dcepWraps", named := ["unicode/utf8.first", "unicode/utf8.acceptRanges"], apart := false, laid := [("unicode/utf8.acceptRanges", laid_unicode_utf8_acceptRanges), ("unicode/utf8.first", laid_unicode_utf8_first)] }
def DcepWrapsSaid : Prop := dcepWrapsRow.holds Tryd.pinned (OpenSpec.ofChange dcepWrapsSpec)

/-- ITS FALSE NEIGHBOUR: 'it returns false'. Refute it at one input. -/
def dcepWrapsWrong : ChangeSpec := { name := "dcepWraps", fn := fun _ => fun
  | [d1, d2, d3] => { results := [.lit (.bool false)], args := [d1, d2, d3] }
  | _ => none }
def DcepWrapsWrongFalsely : Prop := dcepWrapsRow.holds Tryd.pinned (OpenSpec.ofChange dcepWrapsWrong)

/-- 'bollardlaw18.DcepFull': WHATEVER THE INPUT: true; the input reads as it did. -/
def dcepFullSpec : ChangeSpec := { name := "dcepFull", fn := fun _ => fun
  | [d1, d2, d3] => { results := [.lit (.bool true)], args := [d1, d2, d3] }
  | _ => none }
def dcepFullRow : OpenClaim := { program := "ytfhbdddjclodhaadoor", sum := "1bb251c7d7708415096b767dc36dc82a6ef9dd7c5f9eb5c17954254e21045bc2", func := "bollard/bollardlaw18.DcepFull", spec := "dcepFull", named := ["unicode/utf8.first", "unicode/utf8.acceptRanges"], apart := false, laid := [("unicode/utf8.acceptRanges", laid_unicode_utf8_acceptRanges), ("unicode/utf8.first", laid_unicode_utf8_first)] }
def DcepFullSaid : Prop := dcepFullRow.holds Tryd.pinned (OpenSpec.ofChange dcepFullSpec)

/-- ITS FALSE NEIGHBOUR: 'it returns false'. Refute it at one input. -/
def dcepFullWrong : ChangeSpec := { name := "dcepFull", fn := fun _ => fun
  | [d1, d2, d3] => { results := [.lit (.bool false)], args := [d1, d2, d3] }
  | _ => none }
def DcepFullWrongFalsely : Prop := dcepFullRow.holds Tryd.pinned (OpenSpec.ofChange dcepFullWrong)

/-- 'bollardlaw18.DcepApart': WHATEVER THE INPUT: true; the input reads as it did. -/
def dcepApartSpec : ChangeSpec := { name := "dcepApart", fn := fun _ => fun
  | [d1, d2] => { results := [.lit (.bool true)], args := [d1, d2] }
  | _ => none }
def dcepApartRow : OpenClaim := { program := "ytfhbdddjclodhaadoor", sum := "1bb251c7d7708415096b767dc36dc82a6ef9dd7c5f9eb5c17954254e21045bc2", func := "bollard/bollardlaw18.DcepApart", spec := "dcepApart", named := ["unicode/utf8.first", "unicode/utf8.acceptRanges"], apart := false, laid := [("unicode/utf8.acceptRanges", laid_unicode_utf8_acceptRanges), ("unicode/utf8.first", laid_unicode_utf8_first)] }
def DcepApartSaid : Prop := dcepApartRow.holds Tryd.pinned (OpenSpec.ofChange dcepApartSpec)

/-- ITS FALSE NEIGHBOUR: 'it returns false'. Refute it at one input. -/
def dcepApartWrong : ChangeSpec := { name := "dcepApart", fn := fun _ => fun
  | [d1, d2] => { results := [.lit (.bool false)], args := [d1, d2] }
  | _ => none }
def DcepApartWrongFalsely : Prop := dcepApartRow.holds Tryd.pinned (OpenSpec.ofChange dcepApartWrong)

/-- 'bollardlaw18.DcepPlays': WHATEVER THE INPUT: true; the input reads as it did. -/
def dcepPlaysSpec : ChangeSpec := { name := "dcepPlays", fn := fun _ => fun
  | [d1, d2, d3] => { results := [.lit (.bool true)], args := [d1, d2, d3] }
  | _ => none }
def dcepPlaysRow : OpenClaim := { program := "ytfhbdddjclodhaadoor", sum := "1bb251c7d7708415096b767dc36dc82a6ef9dd7c5f9eb5c17954254e21045bc2", func := "bollard/bollardlaw18.DcepPlays", spec := "dcepPlays", unfollowed := true, recurses := true, named := ["unicode/utf8.first", "unicode/utf8.acceptRanges"], apart := false, laid := [("unicode/utf8.acceptRanges", laid_unicode_utf8_acceptRanges), ("unicode/utf8.first", laid_unicode_utf8_first)] }
def DcepPlaysSaid : Prop := dcepPlaysRow.holds Tryd.pinned (OpenSpec.ofChange dcepPlaysSpec)

/-- ITS FALSE NEIGHBOUR: 'it returns false'. Refute it at one input. -/
def dcepPlaysWrong : ChangeSpec := { name := "dcepPlays", fn := fun _ => fun
  | [d1, d2, d3] => { results := [.lit (.bool false)], args := [d1, d2, d3] }
  | _ => none }
def DcepPlaysWrongFalsely : Prop := dcepPlaysRow.holds Tryd.pinned (OpenSpec.ofChange dcepPlaysWrong)

/-- 'bollardlaw18.DcepNone': WHATEVER THE INPUT: true; the input reads as it did. -/
def dcepNoneSpec : ChangeSpec := { name := "dcepNone", fn := fun _ => fun
  | [d1, d2] => { results := [.lit (.bool true)], args := [d1, d2] }
  | _ => none }
def dcepNoneRow : OpenClaim := { program := "ytfhbdddjclodhaadoor", sum := "1bb251c7d7708415096b767dc36dc82a6ef9dd7c5f9eb5c17954254e21045bc2", func := "bollard/bollardlaw18.DcepNone", spec := "dcepNone", unfollowed := true, recurses := true, named := ["unicode/utf8.first", "unicode/utf8.acceptRanges"], apart := false, laid := [("unicode/utf8.acceptRanges", laid_unicode_utf8_acceptRanges), ("unicode/utf8.first", laid_unicode_utf8_first)] }
def DcepNoneSaid : Prop := dcepNoneRow.holds Tryd.pinned (OpenSpec.ofChange dcepNoneSpec)

/-- ITS FALSE NEIGHBOUR: 'it returns false'. Refute it at one input. -/
def dcepNoneWrong : ChangeSpec := { name := "dcepNone", fn := fun _ => fun
  | [d1, d2] => { results := [.lit (.bool false)], args := [d1, d2] }
  | _ => none }
def DcepNoneWrongFalsely : Prop := dcepNoneRow.holds Tryd.pinned (OpenSpec.ofChange dcepNoneWrong)

/- THE SECOND FORM. 'bulk': how many values and letters a reading holds, each counted each time it is reached (what is shared counts as often as it is met; a slice's spare places count too). A statement '..UptoSaid' is the law's where the arguments, and the package variables that the reading takes, are together of bulk at most 1048576: NARROWER than '..Said'. Prove '..Said' where nothing that the law and all that it calls make is longer than what came in: it says more and counts as full. Else prove '..UptoSaid'. A law counts once. -/
mutual
def uptoBulk {H : Type} : DataW H → Nat
  | .lit (.string bytes) => bytes.length + 1
  | .lit _ => 1
  | .nil => 1
  | .ptr d => uptoBulk d + 1
  | .slice elems spare => uptoBulkAll elems + uptoBulkAll spare + 1
  | .agg parts => uptoBulkAll parts + 1
  | .iface _ d => uptoBulk d + 1
  | .map entries => uptoBulkEntries entries + 1
  | .held _ => 1
def uptoBulkAll {H : Type} : List (DataW H) → Nat
  | [] => 0
  | d :: r => uptoBulk d + uptoBulkAll r
def uptoBulkEntries {H : Type} : List (Lit × DataW H) → Nat
  | [] => 0
  | x :: r => uptoBulkEntry x + uptoBulkEntries r
def uptoBulkEntry {H : Type} : Lit × DataW H → Nat
  | (.string bytes, d) => bytes.length + uptoBulk d + 1
  | (_, d) => uptoBulk d + 1
 end
def uptoSmall : (H : Type) → List (DataW H) → Bool := fun _ ds => decide (uptoBulkAll ds ≤ 1048576)
def OpenSpec.upto (s : _root_.Go.ChangeSpec) : _root_.Go.OpenSpec := { _root_.Go.OpenSpec.ofChange s with cond := some uptoSmall }

/-- 'bollardlaw18.DcepEncodes', WHERE WHAT IT READS IS OF BULK AT MOST 1048576: true; the input reads as it did. -/
def dcepEncodesUptoRow : OpenClaim := { program := "ytfhbdddjclodhaadoor", sum := "1bb251c7d7708415096b767dc36dc82a6ef9dd7c5f9eb5c17954254e21045bc2", func := "bollard/bollardlaw18.DcepEncodes", spec := "dcepEncodes", named := ["unicode/utf8.first", "unicode/utf8.acceptRanges"], apart := false, laid := [("unicode/utf8.acceptRanges", laid_unicode_utf8_acceptRanges), ("unicode/utf8.first", laid_unicode_utf8_first)], narrowed := true }
def DcepEncodesUptoSaid : Prop := dcepEncodesUptoRow.holds Tryd.pinned (OpenSpec.upto dcepEncodesSpec)

/-- 'bollardlaw18.DcepDecodes', WHERE WHAT IT READS IS OF BULK AT MOST 1048576: true; the input reads as it did. -/
def dcepDecodesUptoRow : OpenClaim := { program := "ytfhbdddjclodhaadoor", sum := "1bb251c7d7708415096b767dc36dc82a6ef9dd7c5f9eb5c17954254e21045bc2", func := "bollard/bollardlaw18.DcepDecodes", spec := "dcepDecodes", named := ["unicode/utf8.first", "unicode/utf8.acceptRanges"], apart := false, laid := [("unicode/utf8.acceptRanges", laid_unicode_utf8_acceptRanges), ("unicode/utf8.first", laid_unicode_utf8_first)], narrowed := true }
def DcepDecodesUptoSaid : Prop := dcepDecodesUptoRow.holds Tryd.pinned (OpenSpec.upto dcepDecodesSpec)

/-- 'bollardlaw18.DcepBack', WHERE WHAT IT READS IS OF BULK AT MOST 1048576: true; the input reads as it did. -/
def dcepBackUptoRow : OpenClaim := { program := "ytfhbdddjclodhaadoor", sum := "1bb251c7d7708415096b767dc36dc82a6ef9dd7c5f9eb5c17954254e21045bc2", func := "bollard/bollardlaw18.DcepBack", spec := "dcepBack", named := ["unicode/utf8.first", "unicode/utf8.acceptRanges"], apart := false, laid := [("unicode/utf8.acceptRanges", laid_unicode_utf8_acceptRanges), ("unicode/utf8.first", laid_unicode_utf8_first)], narrowed := true }
def DcepBackUptoSaid : Prop := dcepBackUptoRow.holds Tryd.pinned (OpenSpec.upto dcepBackSpec)

/-- 'bollardlaw18.DcepWraps', WHERE WHAT IT READS IS OF BULK AT MOST 1048576: true; the input reads as it did. -/
def dcepWrapsUptoRow : OpenClaim := { program := "ytfhbdddjclodhaadoor", sum := "1bb251c7d7708415096b767dc36dc82a6ef9dd7c5f9eb5c17954254e21045bc2", func := "bollard/bollardlaw18.DcepWraps", spec := "dcepWraps", named := ["unicode/utf8.first", "unicode/utf8.acceptRanges"], apart := false, laid := [("unicode/utf8.acceptRanges", laid_unicode_utf8_acceptRanges), ("unicode/utf8.first", laid_unicode_utf8_first)], narrowed := true }
def DcepWrapsUptoSaid : Prop := dcepWrapsUptoRow.holds Tryd.pinned (OpenSpec.upto dcepWrapsSpec)

/-- 'bollardlaw18.DcepFull', WHERE WHAT IT READS IS OF BULK AT MOST 1048576: true; the input reads as it did. -/
def dcepFullUptoRow : OpenClaim := { program := "ytfhbdddjclodhaadoor", sum := "1bb251c7d7708415096b767dc36dc82a6ef9dd7c5f9eb5c17954254e21045bc2", func := "bollard/bollardlaw18.DcepFull", spec := "dcepFull", named := ["unicode/utf8.first", "unicode/utf8.acceptRanges"], apart := false, laid := [("unicode/utf8.acceptRanges", laid_unicode_utf8_acceptRanges), ("unicode/utf8.first", laid_unicode_utf8_first)], narrowed := true }
def DcepFullUptoSaid : Prop := dcepFullUptoRow.holds Tryd.pinned (OpenSpec.upto dcepFullSpec)

/-- 'bollardlaw18.DcepApart', WHERE WHAT IT READS IS OF BULK AT MOST 1048576: true; the input reads as it did. -/
def dcepApartUptoRow : OpenClaim := { program := "ytfhbdddjclodhaadoor", sum := "1bb251c7d7708415096b767dc36dc82a6ef9dd7c5f9eb5c17954254e21045bc2", func := "bollard/bollardlaw18.DcepApart", spec := "dcepApart", named := ["unicode/utf8.first", "unicode/utf8.acceptRanges"], apart := false, laid := [("unicode/utf8.acceptRanges", laid_unicode_utf8_acceptRanges), ("unicode/utf8.first", laid_unicode_utf8_first)], narrowed := true }
def DcepApartUptoSaid : Prop := dcepApartUptoRow.holds Tryd.pinned (OpenSpec.upto dcepApartSpec)

/-- 'bollardlaw18.DcepPlays', WHERE WHAT IT READS IS OF BULK AT MOST 1048576: true; the input reads as it did. -/
def dcepPlaysUptoRow : OpenClaim := { program := "ytfhbdddjclodhaadoor", sum := "1bb251c7d7708415096b767dc36dc82a6ef9dd7c5f9eb5c17954254e21045bc2", func := "bollard/bollardlaw18.DcepPlays", spec := "dcepPlays", unfollowed := true, recurses := true, named := ["unicode/utf8.first", "unicode/utf8.acceptRanges"], apart := false, laid := [("unicode/utf8.acceptRanges", laid_unicode_utf8_acceptRanges), ("unicode/utf8.first", laid_unicode_utf8_first)], narrowed := true }
def DcepPlaysUptoSaid : Prop := dcepPlaysUptoRow.holds Tryd.pinned (OpenSpec.upto dcepPlaysSpec)

/-- 'bollardlaw18.DcepNone', WHERE WHAT IT READS IS OF BULK AT MOST 1048576: true; the input reads as it did. -/
def dcepNoneUptoRow : OpenClaim := { program := "ytfhbdddjclodhaadoor", sum := "1bb251c7d7708415096b767dc36dc82a6ef9dd7c5f9eb5c17954254e21045bc2", func := "bollard/bollardlaw18.DcepNone", spec := "dcepNone", unfollowed := true, recurses := true, named := ["unicode/utf8.first", "unicode/utf8.acceptRanges"], apart := false, laid := [("unicode/utf8.acceptRanges", laid_unicode_utf8_acceptRanges), ("unicode/utf8.first", laid_unicode_utf8_first)], narrowed := true }
def DcepNoneUptoSaid : Prop := dcepNoneUptoRow.holds Tryd.pinned (OpenSpec.upto dcepNoneSpec)

end Rows
end Go.Proofs.YtfhbdddjclodhaaDoor
