/-
  No cell of these rows narrows 'for every input' (looked for: loops, veiled, ifaces, maps, wideKeys, modest, calm, conditions, laid).
  DERIVED. THE GIVEN ROWS OF THIS SEAT. 5 by the template 'for every input the law returns true; each argument reads behind the call as it read before'; 0 by the template 'total and deterministic' (their statements: YthmiglahfkfcaaaTotals.lean).
  GIVEN WITH THE SEED: the statements are not yours to turn. If you find one false, say at which input.
  Laid BY PROGRAM, IN A SANDBOX (cutbox-rows.mjs): the forced cells as the released guide's own fill.sh prints them over the translation f3ca79871a52ca1c… (all of the seat's roots in one cut). By AI agents, Wed Nov 11 2026. No macro, syntax, notation, axiom, sorry.
-/
import Derived.Test.YthmiglahfkfcaaaChecked
import GoSem.Claim
import GoSem.ClaimJoined
import GoSem.ClaimMapViews
import Derived.JoinedTies
import Derived.KernelRfl
namespace Go.Proofs.Ythmiglahfkfcaaa
/- THE CELL 'sum', in the pinned program and in every row, IS THE sha256 OF THE DUMP (.gsa) THAT YthmiglahfkfcaaaProg.lean LOADS. Nothing in Lean hashes anything: it is a label: what it is worth is what the hold of that sum in a sandbox is worth. -/
noncomputable def Try.pinned : Pinned := { name := "ythmiglahfkfcaaa", sum := "f3ca79871a52ca1c85c221da15907cdc1f7cee8c08c5e654a79740c33d37dc34", checked := Try.checked }
namespace Rows
def none {H : Type} : Left H := { results := [], args := [] }

/-- 'bollardlaw20.AudioMany': WHATEVER THE INPUT: true; the input reads as it did. -/
def audioManySpec : ChangeSpec := { name := "audioMany", fn := fun _ => fun
  | [d1, d2, d3] => { results := [.lit (.bool true)], args := [d1, d2, d3] }
  | _ => none }
def audioManyRow : OpenClaim := { program := "ythmiglahfkfcaaa", sum := "f3ca79871a52ca1c85c221da15907cdc1f7cee8c08c5e654a79740c33d37dc34", func := "bollard/bollardlaw20.AudioMany", spec := "audioMany", apart := false }
def AudioManySaid : Prop := audioManyRow.holds Try.pinned (OpenSpec.ofChange audioManySpec)

/-- ITS FALSE NEIGHBOUR: 'it returns false'. Refute it at one input. -/
def audioManyWrong : ChangeSpec := { name := "audioMany", fn := fun _ => fun
  | [d1, d2, d3] => { results := [.lit (.bool false)], args := [d1, d2, d3] }
  | _ => none }
def AudioManyWrongFalsely : Prop := audioManyRow.holds Try.pinned (OpenSpec.ofChange audioManyWrong)

/-- 'bollardlaw20.AudioParts': WHATEVER THE INPUT: true; the input reads as it did. -/
def audioPartsSpec : ChangeSpec := { name := "audioParts", fn := fun _ => fun
  | [d1, d2, d3, d4] => { results := [.lit (.bool true)], args := [d1, d2, d3, d4] }
  | _ => none }
def audioPartsRow : OpenClaim := { program := "ythmiglahfkfcaaa", sum := "f3ca79871a52ca1c85c221da15907cdc1f7cee8c08c5e654a79740c33d37dc34", func := "bollard/bollardlaw20.AudioParts", spec := "audioParts", apart := false }
def AudioPartsSaid : Prop := audioPartsRow.holds Try.pinned (OpenSpec.ofChange audioPartsSpec)

/-- ITS FALSE NEIGHBOUR: 'it returns false'. Refute it at one input. -/
def audioPartsWrong : ChangeSpec := { name := "audioParts", fn := fun _ => fun
  | [d1, d2, d3, d4] => { results := [.lit (.bool false)], args := [d1, d2, d3, d4] }
  | _ => none }
def AudioPartsWrongFalsely : Prop := audioPartsRow.holds Try.pinned (OpenSpec.ofChange audioPartsWrong)

/-- 'bollardlaw20.AudioNone': WHATEVER THE INPUT: true; the input reads as it did. -/
def audioNoneSpec : ChangeSpec := { name := "audioNone", fn := fun _ => fun
  | [d1, d2] => { results := [.lit (.bool true)], args := [d1, d2] }
  | _ => none }
def audioNoneRow : OpenClaim := { program := "ythmiglahfkfcaaa", sum := "f3ca79871a52ca1c85c221da15907cdc1f7cee8c08c5e654a79740c33d37dc34", func := "bollard/bollardlaw20.AudioNone", spec := "audioNone", apart := false }
def AudioNoneSaid : Prop := audioNoneRow.holds Try.pinned (OpenSpec.ofChange audioNoneSpec)

/-- ITS FALSE NEIGHBOUR: 'it returns false'. Refute it at one input. -/
def audioNoneWrong : ChangeSpec := { name := "audioNone", fn := fun _ => fun
  | [d1, d2] => { results := [.lit (.bool false)], args := [d1, d2] }
  | _ => none }
def AudioNoneWrongFalsely : Prop := audioNoneRow.holds Try.pinned (OpenSpec.ofChange audioNoneWrong)

/-- 'bollardlaw20.AudioCodes': WHATEVER THE INPUT: true; the input reads as it did. -/
def audioCodesSpec : ChangeSpec := { name := "audioCodes", fn := fun _ => fun
  | [d1, d2] => { results := [.lit (.bool true)], args := [d1, d2] }
  | _ => none }
def audioCodesRow : OpenClaim := { program := "ythmiglahfkfcaaa", sum := "f3ca79871a52ca1c85c221da15907cdc1f7cee8c08c5e654a79740c33d37dc34", func := "bollard/bollardlaw20.AudioCodes", spec := "audioCodes", apart := false }
def AudioCodesSaid : Prop := audioCodesRow.holds Try.pinned (OpenSpec.ofChange audioCodesSpec)

/-- ITS FALSE NEIGHBOUR: 'it returns false'. Refute it at one input. -/
def audioCodesWrong : ChangeSpec := { name := "audioCodes", fn := fun _ => fun
  | [d1, d2] => { results := [.lit (.bool false)], args := [d1, d2] }
  | _ => none }
def AudioCodesWrongFalsely : Prop := audioCodesRow.holds Try.pinned (OpenSpec.ofChange audioCodesWrong)

/-- 'bollardlaw20.AudioBack': WHATEVER THE INPUT: true; the input reads as it did. -/
def audioBackSpec : ChangeSpec := { name := "audioBack", fn := fun _ => fun
  | [d1, d2] => { results := [.lit (.bool true)], args := [d1, d2] }
  | _ => none }
def audioBackRow : OpenClaim := { program := "ythmiglahfkfcaaa", sum := "f3ca79871a52ca1c85c221da15907cdc1f7cee8c08c5e654a79740c33d37dc34", func := "bollard/bollardlaw20.AudioBack", spec := "audioBack", apart := false }
def AudioBackSaid : Prop := audioBackRow.holds Try.pinned (OpenSpec.ofChange audioBackSpec)

/-- ITS FALSE NEIGHBOUR: 'it returns false'. Refute it at one input. -/
def audioBackWrong : ChangeSpec := { name := "audioBack", fn := fun _ => fun
  | [d1, d2] => { results := [.lit (.bool false)], args := [d1, d2] }
  | _ => none }
def AudioBackWrongFalsely : Prop := audioBackRow.holds Try.pinned (OpenSpec.ofChange audioBackWrong)

/- THE SECOND FORM. 'bulk': how many values and letters a reading holds, each counted each time it is reached (what is shared counts as often as it is met; a slice's spare places count too). A statement '..UptoSaid' is the law's where the arguments, and the package variables that the reading takes, are together of bulk at most 1048576: NARROWER than '..Said'. Prove '..Said' where nothing that the law and all that it calls make is longer than what came in: it says more and counts as full. Else prove '..UptoSaid'. A law counts once. -/
mutual
def uptoBulk {H : Type} : DataW H → Nat
  | .lit (.string bytes) => bytes.length + 1
  | .lit _ => 1
  | .nil => 1
  | .ptr d => uptoBulk d + 1
  | .slice elems spare => uptoBulkAll elems + uptoBulkAll spare + 1
  | .agg parts => uptoBulkAll parts + 1
  | .iface _ d => uptoBulk d + 1
  | .map entries => uptoBulkEntries entries + 1
  | .held _ => 1
def uptoBulkAll {H : Type} : List (DataW H) → Nat
  | [] => 0
  | d :: r => uptoBulk d + uptoBulkAll r
def uptoBulkEntries {H : Type} : List (Lit × DataW H) → Nat
  | [] => 0
  | x :: r => uptoBulkEntry x + uptoBulkEntries r
def uptoBulkEntry {H : Type} : Lit × DataW H → Nat
  | (.string bytes, d) => bytes.length + uptoBulk d + 1
  | (_, d) => uptoBulk d + 1
 end
def uptoSmall : (H : Type) → List (DataW H) → Bool := fun _ ds => decide (uptoBulkAll ds ≤ 1048576)
def OpenSpec.upto (s : _root_.Go.ChangeSpec) : _root_.Go.OpenSpec := { _root_.Go.OpenSpec.ofChange s with cond := some uptoSmall }

/-- 'bollardlaw20.AudioMany', WHERE WHAT IT READS IS OF BULK AT MOST 1048576: true; the input reads as it did. -/
def audioManyUptoRow : OpenClaim := { program := "ythmiglahfkfcaaa", sum := "f3ca79871a52ca1c85c221da15907cdc1f7cee8c08c5e654a79740c33d37dc34", func := "bollard/bollardlaw20.AudioMany", spec := "audioMany", apart := false, narrowed := true }
def AudioManyUptoSaid : Prop := audioManyUptoRow.holds Try.pinned (OpenSpec.upto audioManySpec)

/-- 'bollardlaw20.AudioParts', WHERE WHAT IT READS IS OF BULK AT MOST 1048576: true; the input reads as it did. -/
def audioPartsUptoRow : OpenClaim := { program := "ythmiglahfkfcaaa", sum := "f3ca79871a52ca1c85c221da15907cdc1f7cee8c08c5e654a79740c33d37dc34", func := "bollard/bollardlaw20.AudioParts", spec := "audioParts", apart := false, narrowed := true }
def AudioPartsUptoSaid : Prop := audioPartsUptoRow.holds Try.pinned (OpenSpec.upto audioPartsSpec)

/-- 'bollardlaw20.AudioNone', WHERE WHAT IT READS IS OF BULK AT MOST 1048576: true; the input reads as it did. -/
def audioNoneUptoRow : OpenClaim := { program := "ythmiglahfkfcaaa", sum := "f3ca79871a52ca1c85c221da15907cdc1f7cee8c08c5e654a79740c33d37dc34", func := "bollard/bollardlaw20.AudioNone", spec := "audioNone", apart := false, narrowed := true }
def AudioNoneUptoSaid : Prop := audioNoneUptoRow.holds Try.pinned (OpenSpec.upto audioNoneSpec)

/-- 'bollardlaw20.AudioCodes', WHERE WHAT IT READS IS OF BULK AT MOST 1048576: true; the input reads as it did. -/
def audioCodesUptoRow : OpenClaim := { program := "ythmiglahfkfcaaa", sum := "f3ca79871a52ca1c85c221da15907cdc1f7cee8c08c5e654a79740c33d37dc34", func := "bollard/bollardlaw20.AudioCodes", spec := "audioCodes", apart := false, narrowed := true }
def AudioCodesUptoSaid : Prop := audioCodesUptoRow.holds Try.pinned (OpenSpec.upto audioCodesSpec)

/-- 'bollardlaw20.AudioBack', WHERE WHAT IT READS IS OF BULK AT MOST 1048576: true; the input reads as it did. -/
def audioBackUptoRow : OpenClaim := { program := "ythmiglahfkfcaaa", sum := "f3ca79871a52ca1c85c221da15907cdc1f7cee8c08c5e654a79740c33d37dc34", func := "bollard/bollardlaw20.AudioBack", spec := "audioBack", apart := false, narrowed := true }
def AudioBackUptoSaid : Prop := audioBackUptoRow.holds Try.pinned (OpenSpec.upto audioBackSpec)

end Rows
end Go.Proofs.Ythmiglahfkfcaaa
