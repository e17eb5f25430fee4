/-
  No cell of these rows narrows 'for every input' (looked for: loops, veiled, ifaces, maps, wideKeys, modest, calm, conditions, laid).
  DERIVED. THE GIVEN ROWS OF THIS SEAT. 4 by the template 'for every input the law returns true; each argument reads behind the call as it read before'; 0 by the template 'total and deterministic' (their statements: YtmkahjffhnfhjaaTotals.lean).
  GIVEN WITH THE SEED: the statements are not yours to turn. If you find one false, say at which input.
  Laid BY PROGRAM, IN A SANDBOX (cutbox-rows.mjs): the forced cells as the released guide's own fill.sh prints them over the translation ba3b2cf143c7b6f0… (all of the seat's roots in one cut). By AI agents, Wed Nov 11 2026. No macro, syntax, notation, axiom, sorry.
-/
import Derived.Test.YtmkahjffhnfhjaaChecked
import GoSem.Claim
import GoSem.ClaimJoined
import GoSem.ClaimMapViews
import Derived.JoinedTies
import Derived.KernelRfl
namespace Go.Proofs.Ytmkahjffhnfhjaa
/- THE CELL 'sum', in the pinned program and in every row, IS THE sha256 OF THE DUMP (.gsa) THAT YtmkahjffhnfhjaaProg.lean LOADS. Nothing in Lean hashes anything: it is a label: what it is worth is what the hold of that sum in a sandbox is worth. -/
noncomputable def Try.pinned : Pinned := { name := "ytmkahjffhnfhjaa", sum := "ba3b2cf143c7b6f002461b762f7a8087a42f5f924b0eb62f418768ef35814747", checked := Try.checked }
namespace Rows
def none {H : Type} : Left H := { results := [], args := [] }

/-- 'bollardlaw04.SipRounds': WHATEVER THE INPUT: true; the input reads as it did. -/
def sipRoundsSpec : ChangeSpec := { name := "sipRounds", fn := fun _ => fun
  | [d1, d2, d3, d4] => { results := [.lit (.bool true)], args := [d1, d2, d3, d4] }
  | _ => none }
def sipRoundsRow : OpenClaim := { program := "ytmkahjffhnfhjaa", sum := "ba3b2cf143c7b6f002461b762f7a8087a42f5f924b0eb62f418768ef35814747", func := "bollard/bollardlaw04.SipRounds", spec := "sipRounds", apart := false }
def SipRoundsSaid : Prop := sipRoundsRow.holds Try.pinned (OpenSpec.ofChange sipRoundsSpec)

/-- ITS FALSE NEIGHBOUR: 'it returns false'. Refute it at one input. -/
def sipRoundsWrong : ChangeSpec := { name := "sipRounds", fn := fun _ => fun
  | [d1, d2, d3, d4] => { results := [.lit (.bool false)], args := [d1, d2, d3, d4] }
  | _ => none }
def SipRoundsWrongFalsely : Prop := sipRoundsRow.holds Try.pinned (OpenSpec.ofChange sipRoundsWrong)

/-- 'bollardlaw04.SipCodes': WHATEVER THE INPUT: true; the input reads as it did. -/
def sipCodesSpec : ChangeSpec := { name := "sipCodes", fn := fun _ => fun
  | [d1, d2] => { results := [.lit (.bool true)], args := [d1, d2] }
  | _ => none }
def sipCodesRow : OpenClaim := { program := "ytmkahjffhnfhjaa", sum := "ba3b2cf143c7b6f002461b762f7a8087a42f5f924b0eb62f418768ef35814747", func := "bollard/bollardlaw04.SipCodes", spec := "sipCodes", apart := false }
def SipCodesSaid : Prop := sipCodesRow.holds Try.pinned (OpenSpec.ofChange sipCodesSpec)

/-- ITS FALSE NEIGHBOUR: 'it returns false'. Refute it at one input. -/
def sipCodesWrong : ChangeSpec := { name := "sipCodes", fn := fun _ => fun
  | [d1, d2] => { results := [.lit (.bool false)], args := [d1, d2] }
  | _ => none }
def SipCodesWrongFalsely : Prop := sipCodesRow.holds Try.pinned (OpenSpec.ofChange sipCodesWrong)

/-- 'bollardlaw04.SipKeeps': WHATEVER THE INPUT: true; the input reads as it did. -/
def sipKeepsSpec : ChangeSpec := { name := "sipKeeps", fn := fun _ => fun
  | [d1, d2, d3] => { results := [.lit (.bool true)], args := [d1, d2, d3] }
  | _ => none }
def sipKeepsRow : OpenClaim := { program := "ytmkahjffhnfhjaa", sum := "ba3b2cf143c7b6f002461b762f7a8087a42f5f924b0eb62f418768ef35814747", func := "bollard/bollardlaw04.SipKeeps", spec := "sipKeeps", apart := false }
def SipKeepsSaid : Prop := sipKeepsRow.holds Try.pinned (OpenSpec.ofChange sipKeepsSpec)

/-- ITS FALSE NEIGHBOUR: 'it returns false'. Refute it at one input. -/
def sipKeepsWrong : ChangeSpec := { name := "sipKeeps", fn := fun _ => fun
  | [d1, d2, d3] => { results := [.lit (.bool false)], args := [d1, d2, d3] }
  | _ => none }
def SipKeepsWrongFalsely : Prop := sipKeepsRow.holds Try.pinned (OpenSpec.ofChange sipKeepsWrong)

/-- 'bollardlaw04.SipUnturns': WHATEVER THE INPUT: true; the input reads as it did. -/
def sipUnturnsSpec : ChangeSpec := { name := "sipUnturns", fn := fun _ => fun
  | [d1, d2, d3, d4] => { results := [.lit (.bool true)], args := [d1, d2, d3, d4] }
  | _ => none }
def sipUnturnsRow : OpenClaim := { program := "ytmkahjffhnfhjaa", sum := "ba3b2cf143c7b6f002461b762f7a8087a42f5f924b0eb62f418768ef35814747", func := "bollard/bollardlaw04.SipUnturns", spec := "sipUnturns", apart := false }
def SipUnturnsSaid : Prop := sipUnturnsRow.holds Try.pinned (OpenSpec.ofChange sipUnturnsSpec)

/-- ITS FALSE NEIGHBOUR: 'it returns false'. Refute it at one input. -/
def sipUnturnsWrong : ChangeSpec := { name := "sipUnturns", fn := fun _ => fun
  | [d1, d2, d3, d4] => { results := [.lit (.bool false)], args := [d1, d2, d3, d4] }
  | _ => none }
def SipUnturnsWrongFalsely : Prop := sipUnturnsRow.holds Try.pinned (OpenSpec.ofChange sipUnturnsWrong)

/- THE SECOND FORM. 'bulk': how many values and letters a reading holds, each counted each time it is reached (what is shared counts as often as it is met; a slice's spare places count too). A statement '..UptoSaid' is the law's where the arguments, and the package variables that the reading takes, are together of bulk at most 1048576: NARROWER than '..Said'. Prove '..Said' where nothing that the law and all that it calls make is longer than what came in: it says more and counts as full. Else prove '..UptoSaid'. A law counts once. -/
mutual
def uptoBulk {H : Type} : DataW H → Nat
  | .lit (.string bytes) => bytes.length + 1
  | .lit _ => 1
  | .nil => 1
  | .ptr d => uptoBulk d + 1
  | .slice elems spare => uptoBulkAll elems + uptoBulkAll spare + 1
  | .agg parts => uptoBulkAll parts + 1
  | .iface _ d => uptoBulk d + 1
  | .map entries => uptoBulkEntries entries + 1
  | .held _ => 1
def uptoBulkAll {H : Type} : List (DataW H) → Nat
  | [] => 0
  | d :: r => uptoBulk d + uptoBulkAll r
def uptoBulkEntries {H : Type} : List (Lit × DataW H) → Nat
  | [] => 0
  | x :: r => uptoBulkEntry x + uptoBulkEntries r
def uptoBulkEntry {H : Type} : Lit × DataW H → Nat
  | (.string bytes, d) => bytes.length + uptoBulk d + 1
  | (_, d) => uptoBulk d + 1
 end
def uptoSmall : (H : Type) → List (DataW H) → Bool := fun _ ds => decide (uptoBulkAll ds ≤ 1048576)
def OpenSpec.upto (s : _root_.Go.ChangeSpec) : _root_.Go.OpenSpec := { _root_.Go.OpenSpec.ofChange s with cond := some uptoSmall }

/-- 'bollardlaw04.SipRounds', WHERE WHAT IT READS IS OF BULK AT MOST 1048576: true; the input reads as it did. -/
def sipRoundsUptoRow : OpenClaim := { program := "ytmkahjffhnfhjaa", sum := "ba3b2cf143c7b6f002461b762f7a8087a42f5f924b0eb62f418768ef35814747", func := "bollard/bollardlaw04.SipRounds", spec := "sipRounds", apart := false, narrowed := true }
def SipRoundsUptoSaid : Prop := sipRoundsUptoRow.holds Try.pinned (OpenSpec.upto sipRoundsSpec)

/-- 'bollardlaw04.SipCodes', WHERE WHAT IT READS IS OF BULK AT MOST 1048576: true; the input reads as it did. -/
def sipCodesUptoRow : OpenClaim := { program := "ytmkahjffhnfhjaa", sum := "ba3b2cf143c7b6f002461b762f7a8087a42f5f924b0eb62f418768ef35814747", func := "bollard/bollardlaw04.SipCodes", spec := "sipCodes", apart := false, narrowed := true }
def SipCodesUptoSaid : Prop := sipCodesUptoRow.holds Try.pinned (OpenSpec.upto sipCodesSpec)

/-- 'bollardlaw04.SipKeeps', WHERE WHAT IT READS IS OF BULK AT MOST 1048576: true; the input reads as it did. -/
def sipKeepsUptoRow : OpenClaim := { program := "ytmkahjffhnfhjaa", sum := "ba3b2cf143c7b6f002461b762f7a8087a42f5f924b0eb62f418768ef35814747", func := "bollard/bollardlaw04.SipKeeps", spec := "sipKeeps", apart := false, narrowed := true }
def SipKeepsUptoSaid : Prop := sipKeepsUptoRow.holds Try.pinned (OpenSpec.upto sipKeepsSpec)

/-- 'bollardlaw04.SipUnturns', WHERE WHAT IT READS IS OF BULK AT MOST 1048576: true; the input reads as it did. -/
def sipUnturnsUptoRow : OpenClaim := { program := "ytmkahjffhnfhjaa", sum := "ba3b2cf143c7b6f002461b762f7a8087a42f5f924b0eb62f418768ef35814747", func := "bollard/bollardlaw04.SipUnturns", spec := "sipUnturns", apart := false, narrowed := true }
def SipUnturnsUptoSaid : Prop := sipUnturnsUptoRow.holds Try.pinned (OpenSpec.upto sipUnturnsSpec)

end Rows
end Go.Proofs.Ytmkahjffhnfhjaa
