/-
  No cell of these rows narrows 'for every input' (looked for: loops, veiled, ifaces, maps, wideKeys, modest, calm, conditions, laid).
  DERIVED. THE GIVEN ROWS OF THIS SEAT. 6 by the template 'for every input the law returns true; each argument reads behind the call as it read before'; 0 by the template 'total and deterministic' (their statements: YteapgimihapefaaTotals.lean).
  GIVEN WITH THE SEED: the statements are not yours to turn. If you find one false, say at which input.
  Laid BY PROGRAM, IN A SANDBOX (cutbox-rows.mjs): the forced cells as the released guide's own fill.sh prints them over the translation 1a07264b2c2d1b4b… (all of the seat's roots in one cut). By AI agents, Wed Nov 11 2026. No macro, syntax, notation, axiom, sorry.
-/
import Derived.Test.YteapgimihapefaaChecked
import GoSem.Claim
import GoSem.ClaimJoined
import GoSem.ClaimMapViews
import Derived.JoinedTies
import Derived.KernelRfl
namespace Go.Proofs.Yteapgimihapefaa
/- THE CELL 'sum', in the pinned program and in every row, IS THE sha256 OF THE DUMP (.gsa) THAT YteapgimihapefaaProg.lean LOADS. Nothing in Lean hashes anything: it is a label: what it is worth is what the hold of that sum in a sandbox is worth. -/
noncomputable def Try.pinned : Pinned := { name := "yteapgimihapefaa", sum := "1a07264b2c2d1b4b98ff824762eb2aa92a7417453ff16971ec1d6f9317b49106", checked := Try.checked }
namespace Rows
def none {H : Type} : Left H := { results := [], args := [] }

/-- 'bollardlaw09.CookieEncodes': WHATEVER THE INPUT: true; the input reads as it did. -/
def cookieEncodesSpec : ChangeSpec := { name := "cookieEncodes", fn := fun _ => fun
  | [d1, d2] => { results := [.lit (.bool true)], args := [d1, d2] }
  | _ => none }
def cookieEncodesRow : OpenClaim := { program := "yteapgimihapefaa", sum := "1a07264b2c2d1b4b98ff824762eb2aa92a7417453ff16971ec1d6f9317b49106", func := "bollard/bollardlaw09.CookieEncodes", spec := "cookieEncodes", unfollowed := true, recurses := true, apart := false }
def CookieEncodesSaid : Prop := cookieEncodesRow.holds Try.pinned (OpenSpec.ofChange cookieEncodesSpec)

/-- ITS FALSE NEIGHBOUR: 'it returns false'. Refute it at one input. -/
def cookieEncodesWrong : ChangeSpec := { name := "cookieEncodes", fn := fun _ => fun
  | [d1, d2] => { results := [.lit (.bool false)], args := [d1, d2] }
  | _ => none }
def CookieEncodesWrongFalsely : Prop := cookieEncodesRow.holds Try.pinned (OpenSpec.ofChange cookieEncodesWrong)

/-- 'bollardlaw09.CookieDecodes': WHATEVER THE INPUT: true; the input reads as it did. -/
def cookieDecodesSpec : ChangeSpec := { name := "cookieDecodes", fn := fun _ => fun
  | [d1, d2, d3] => { results := [.lit (.bool true)], args := [d1, d2, d3] }
  | _ => none }
def cookieDecodesRow : OpenClaim := { program := "yteapgimihapefaa", sum := "1a07264b2c2d1b4b98ff824762eb2aa92a7417453ff16971ec1d6f9317b49106", func := "bollard/bollardlaw09.CookieDecodes", spec := "cookieDecodes", unfollowed := true, recurses := true, apart := false }
def CookieDecodesSaid : Prop := cookieDecodesRow.holds Try.pinned (OpenSpec.ofChange cookieDecodesSpec)

/-- ITS FALSE NEIGHBOUR: 'it returns false'. Refute it at one input. -/
def cookieDecodesWrong : ChangeSpec := { name := "cookieDecodes", fn := fun _ => fun
  | [d1, d2, d3] => { results := [.lit (.bool false)], args := [d1, d2, d3] }
  | _ => none }
def CookieDecodesWrongFalsely : Prop := cookieDecodesRow.holds Try.pinned (OpenSpec.ofChange cookieDecodesWrong)

/-- 'bollardlaw09.CookieBack': WHATEVER THE INPUT: true; the input reads as it did. -/
def cookieBackSpec : ChangeSpec := { name := "cookieBack", fn := fun _ => fun
  | [d1, d2, d3] => { results := [.lit (.bool true)], args := [d1, d2, d3] }
  | _ => none }
def cookieBackRow : OpenClaim := { program := "yteapgimihapefaa", sum := "1a07264b2c2d1b4b98ff824762eb2aa92a7417453ff16971ec1d6f9317b49106", func := "bollard/bollardlaw09.CookieBack", spec := "cookieBack", unfollowed := true, recurses := true, apart := false }
def CookieBackSaid : Prop := cookieBackRow.holds Try.pinned (OpenSpec.ofChange cookieBackSpec)

/-- ITS FALSE NEIGHBOUR: 'it returns false'. Refute it at one input. -/
def cookieBackWrong : ChangeSpec := { name := "cookieBack", fn := fun _ => fun
  | [d1, d2, d3] => { results := [.lit (.bool false)], args := [d1, d2, d3] }
  | _ => none }
def CookieBackWrongFalsely : Prop := cookieBackRow.holds Try.pinned (OpenSpec.ofChange cookieBackWrong)

/-- 'bollardlaw09.CookieOnly': WHATEVER THE INPUT: true; the input reads as it did. -/
def cookieOnlySpec : ChangeSpec := { name := "cookieOnly", fn := fun _ => fun
  | [d1, d2] => { results := [.lit (.bool true)], args := [d1, d2] }
  | _ => none }
def cookieOnlyRow : OpenClaim := { program := "yteapgimihapefaa", sum := "1a07264b2c2d1b4b98ff824762eb2aa92a7417453ff16971ec1d6f9317b49106", func := "bollard/bollardlaw09.CookieOnly", spec := "cookieOnly", unfollowed := true, recurses := true, apart := false }
def CookieOnlySaid : Prop := cookieOnlyRow.holds Try.pinned (OpenSpec.ofChange cookieOnlySpec)

/-- ITS FALSE NEIGHBOUR: 'it returns false'. Refute it at one input. -/
def cookieOnlyWrong : ChangeSpec := { name := "cookieOnly", fn := fun _ => fun
  | [d1, d2] => { results := [.lit (.bool false)], args := [d1, d2] }
  | _ => none }
def CookieOnlyWrongFalsely : Prop := cookieOnlyRow.holds Try.pinned (OpenSpec.ofChange cookieOnlyWrong)

/-- 'bollardlaw09.CookieCodes': WHATEVER THE INPUT: true; the input reads as it did. -/
def cookieCodesSpec : ChangeSpec := { name := "cookieCodes", fn := fun _ => fun
  | [d1, d2, d3] => { results := [.lit (.bool true)], args := [d1, d2, d3] }
  | _ => none }
def cookieCodesRow : OpenClaim := { program := "yteapgimihapefaa", sum := "1a07264b2c2d1b4b98ff824762eb2aa92a7417453ff16971ec1d6f9317b49106", func := "bollard/bollardlaw09.CookieCodes", spec := "cookieCodes", unfollowed := true, recurses := true, apart := false }
def CookieCodesSaid : Prop := cookieCodesRow.holds Try.pinned (OpenSpec.ofChange cookieCodesSpec)

/-- ITS FALSE NEIGHBOUR: 'it returns false'. Refute it at one input. -/
def cookieCodesWrong : ChangeSpec := { name := "cookieCodes", fn := fun _ => fun
  | [d1, d2, d3] => { results := [.lit (.bool false)], args := [d1, d2, d3] }
  | _ => none }
def CookieCodesWrongFalsely : Prop := cookieCodesRow.holds Try.pinned (OpenSpec.ofChange cookieCodesWrong)

/-- 'bollardlaw09.CookieKeys': WHATEVER THE INPUT: true; the input reads as it did. -/
def cookieKeysSpec : ChangeSpec := { name := "cookieKeys", fn := fun _ => fun
  | [d1, d2, d3] => { results := [.lit (.bool true)], args := [d1, d2, d3] }
  | _ => none }
def cookieKeysRow : OpenClaim := { program := "yteapgimihapefaa", sum := "1a07264b2c2d1b4b98ff824762eb2aa92a7417453ff16971ec1d6f9317b49106", func := "bollard/bollardlaw09.CookieKeys", spec := "cookieKeys", unfollowed := true, recurses := true, apart := false }
def CookieKeysSaid : Prop := cookieKeysRow.holds Try.pinned (OpenSpec.ofChange cookieKeysSpec)

/-- ITS FALSE NEIGHBOUR: 'it returns false'. Refute it at one input. -/
def cookieKeysWrong : ChangeSpec := { name := "cookieKeys", fn := fun _ => fun
  | [d1, d2, d3] => { results := [.lit (.bool false)], args := [d1, d2, d3] }
  | _ => none }
def CookieKeysWrongFalsely : Prop := cookieKeysRow.holds Try.pinned (OpenSpec.ofChange cookieKeysWrong)

/- THE SECOND FORM. 'bulk': how many values and letters a reading holds, each counted each time it is reached (what is shared counts as often as it is met; a slice's spare places count too). A statement '..UptoSaid' is the law's where the arguments, and the package variables that the reading takes, are together of bulk at most 1048576: NARROWER than '..Said'. Prove '..Said' where nothing that the law and all that it calls make is longer than what came in: it says more and counts as full. Else prove '..UptoSaid'. A law counts once. -/
mutual
def uptoBulk {H : Type} : DataW H → Nat
  | .lit (.string bytes) => bytes.length + 1
  | .lit _ => 1
  | .nil => 1
  | .ptr d => uptoBulk d + 1
  | .slice elems spare => uptoBulkAll elems + uptoBulkAll spare + 1
  | .agg parts => uptoBulkAll parts + 1
  | .iface _ d => uptoBulk d + 1
  | .map entries => uptoBulkEntries entries + 1
  | .held _ => 1
def uptoBulkAll {H : Type} : List (DataW H) → Nat
  | [] => 0
  | d :: r => uptoBulk d + uptoBulkAll r
def uptoBulkEntries {H : Type} : List (Lit × DataW H) → Nat
  | [] => 0
  | x :: r => uptoBulkEntry x + uptoBulkEntries r
def uptoBulkEntry {H : Type} : Lit × DataW H → Nat
  | (.string bytes, d) => bytes.length + uptoBulk d + 1
  | (_, d) => uptoBulk d + 1
 end
def uptoSmall : (H : Type) → List (DataW H) → Bool := fun _ ds => decide (uptoBulkAll ds ≤ 1048576)
def OpenSpec.upto (s : _root_.Go.ChangeSpec) : _root_.Go.OpenSpec := { _root_.Go.OpenSpec.ofChange s with cond := some uptoSmall }

/-- 'bollardlaw09.CookieEncodes', WHERE WHAT IT READS IS OF BULK AT MOST 1048576: true; the input reads as it did. -/
def cookieEncodesUptoRow : OpenClaim := { program := "yteapgimihapefaa", sum := "1a07264b2c2d1b4b98ff824762eb2aa92a7417453ff16971ec1d6f9317b49106", func := "bollard/bollardlaw09.CookieEncodes", spec := "cookieEncodes", unfollowed := true, recurses := true, apart := false, narrowed := true }
def CookieEncodesUptoSaid : Prop := cookieEncodesUptoRow.holds Try.pinned (OpenSpec.upto cookieEncodesSpec)

/-- 'bollardlaw09.CookieDecodes', WHERE WHAT IT READS IS OF BULK AT MOST 1048576: true; the input reads as it did. -/
def cookieDecodesUptoRow : OpenClaim := { program := "yteapgimihapefaa", sum := "1a07264b2c2d1b4b98ff824762eb2aa92a7417453ff16971ec1d6f9317b49106", func := "bollard/bollardlaw09.CookieDecodes", spec := "cookieDecodes", unfollowed := true, recurses := true, apart := false, narrowed := true }
def CookieDecodesUptoSaid : Prop := cookieDecodesUptoRow.holds Try.pinned (OpenSpec.upto cookieDecodesSpec)

/-- 'bollardlaw09.CookieBack', WHERE WHAT IT READS IS OF BULK AT MOST 1048576: true; the input reads as it did. -/
def cookieBackUptoRow : OpenClaim := { program := "yteapgimihapefaa", sum := "1a07264b2c2d1b4b98ff824762eb2aa92a7417453ff16971ec1d6f9317b49106", func := "bollard/bollardlaw09.CookieBack", spec := "cookieBack", unfollowed := true, recurses := true, apart := false, narrowed := true }
def CookieBackUptoSaid : Prop := cookieBackUptoRow.holds Try.pinned (OpenSpec.upto cookieBackSpec)

/-- 'bollardlaw09.CookieOnly', WHERE WHAT IT READS IS OF BULK AT MOST 1048576: true; the input reads as it did. -/
def cookieOnlyUptoRow : OpenClaim := { program := "yteapgimihapefaa", sum := "1a07264b2c2d1b4b98ff824762eb2aa92a7417453ff16971ec1d6f9317b49106", func := "bollard/bollardlaw09.CookieOnly", spec := "cookieOnly", unfollowed := true, recurses := true, apart := false, narrowed := true }
def CookieOnlyUptoSaid : Prop := cookieOnlyUptoRow.holds Try.pinned (OpenSpec.upto cookieOnlySpec)

/-- 'bollardlaw09.CookieCodes', WHERE WHAT IT READS IS OF BULK AT MOST 1048576: true; the input reads as it did. -/
def cookieCodesUptoRow : OpenClaim := { program := "yteapgimihapefaa", sum := "1a07264b2c2d1b4b98ff824762eb2aa92a7417453ff16971ec1d6f9317b49106", func := "bollard/bollardlaw09.CookieCodes", spec := "cookieCodes", unfollowed := true, recurses := true, apart := false, narrowed := true }
def CookieCodesUptoSaid : Prop := cookieCodesUptoRow.holds Try.pinned (OpenSpec.upto cookieCodesSpec)

/-- 'bollardlaw09.CookieKeys', WHERE WHAT IT READS IS OF BULK AT MOST 1048576: true; the input reads as it did. -/
def cookieKeysUptoRow : OpenClaim := { program := "yteapgimihapefaa", sum := "1a07264b2c2d1b4b98ff824762eb2aa92a7417453ff16971ec1d6f9317b49106", func := "bollard/bollardlaw09.CookieKeys", spec := "cookieKeys", unfollowed := true, recurses := true, apart := false, narrowed := true }
def CookieKeysUptoSaid : Prop := cookieKeysUptoRow.holds Try.pinned (OpenSpec.upto cookieKeysSpec)

end Rows
end Go.Proofs.Yteapgimihapefaa
