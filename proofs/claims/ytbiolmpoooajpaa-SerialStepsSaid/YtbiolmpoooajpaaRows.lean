/-
  No cell of these rows narrows 'for every input' (looked for: loops, veiled, ifaces, maps, wideKeys, modest, calm, conditions, laid).
  DERIVED. THE GIVEN ROWS OF THIS SEAT. 5 by the template 'for every input the law returns true; each argument reads behind the call as it read before'; 0 by the template 'total and deterministic' (their statements: YtbiolmpoooajpaaTotals.lean).
  GIVEN WITH THE SEED: the statements are not yours to turn. If you find one false, say at which input.
  Laid BY PROGRAM, IN A SANDBOX (cutbox-rows.mjs): the forced cells as the released guide's own fill.sh prints them over the translation aff343b71bb7ff47… (all of the seat's roots in one cut). By AI agents, Wed Nov 11 2026. No macro, syntax, notation, axiom, sorry.
-/
import Derived.Test.YtbiolmpoooajpaaChecked
import GoSem.Claim
import GoSem.ClaimJoined
import GoSem.ClaimMapViews
import Derived.JoinedTies
import Derived.KernelRfl
namespace Go.Proofs.Ytbiolmpoooajpaa
/- THE CELL 'sum', in the pinned program and in every row, IS THE sha256 OF THE DUMP (.gsa) THAT YtbiolmpoooajpaaProg.lean LOADS. Nothing in Lean hashes anything: it is a label: what it is worth is what the hold of that sum in a sandbox is worth. -/
noncomputable def Try.pinned : Pinned := { name := "ytbiolmpoooajpaa", sum := "aff343b71bb7ff47345f31bab7f4d2ed6b3d56c66487e7d61d06aa9841dd5ccf", checked := Try.checked }
namespace Rows
def none {H : Type} : Left H := { results := [], args := [] }

/-- 'bollardlaw02.SerialIs': WHATEVER THE INPUT: true; the input reads as it did. -/
def serialIsSpec : ChangeSpec := { name := "serialIs", fn := fun _ => fun
  | [d1, d2, d3] => { results := [.lit (.bool true)], args := [d1, d2, d3] }
  | _ => none }
def serialIsRow : OpenClaim := { program := "ytbiolmpoooajpaa", sum := "aff343b71bb7ff47345f31bab7f4d2ed6b3d56c66487e7d61d06aa9841dd5ccf", func := "bollard/bollardlaw02.SerialIs", spec := "serialIs", apart := false }
def SerialIsSaid : Prop := serialIsRow.holds Try.pinned (OpenSpec.ofChange serialIsSpec)

/-- ITS FALSE NEIGHBOUR: 'it returns false'. Refute it at one input. -/
def serialIsWrong : ChangeSpec := { name := "serialIs", fn := fun _ => fun
  | [d1, d2, d3] => { results := [.lit (.bool false)], args := [d1, d2, d3] }
  | _ => none }
def SerialIsWrongFalsely : Prop := serialIsRow.holds Try.pinned (OpenSpec.ofChange serialIsWrong)

/-- 'bollardlaw02.SerialOne': WHATEVER THE INPUT: true; the input reads as it did. -/
def serialOneSpec : ChangeSpec := { name := "serialOne", fn := fun _ => fun
  | [d1, d2] => { results := [.lit (.bool true)], args := [d1, d2] }
  | _ => none }
def serialOneRow : OpenClaim := { program := "ytbiolmpoooajpaa", sum := "aff343b71bb7ff47345f31bab7f4d2ed6b3d56c66487e7d61d06aa9841dd5ccf", func := "bollard/bollardlaw02.SerialOne", spec := "serialOne", apart := false }
def SerialOneSaid : Prop := serialOneRow.holds Try.pinned (OpenSpec.ofChange serialOneSpec)

/-- ITS FALSE NEIGHBOUR: 'it returns false'. Refute it at one input. -/
def serialOneWrong : ChangeSpec := { name := "serialOne", fn := fun _ => fun
  | [d1, d2] => { results := [.lit (.bool false)], args := [d1, d2] }
  | _ => none }
def SerialOneWrongFalsely : Prop := serialOneRow.holds Try.pinned (OpenSpec.ofChange serialOneWrong)

/-- 'bollardlaw02.SerialMoves': WHATEVER THE INPUT: true; the input reads as it did. -/
def serialMovesSpec : ChangeSpec := { name := "serialMoves", fn := fun _ => fun
  | [d1, d2, d3, d4] => { results := [.lit (.bool true)], args := [d1, d2, d3, d4] }
  | _ => none }
def serialMovesRow : OpenClaim := { program := "ytbiolmpoooajpaa", sum := "aff343b71bb7ff47345f31bab7f4d2ed6b3d56c66487e7d61d06aa9841dd5ccf", func := "bollard/bollardlaw02.SerialMoves", spec := "serialMoves", apart := false }
def SerialMovesSaid : Prop := serialMovesRow.holds Try.pinned (OpenSpec.ofChange serialMovesSpec)

/-- ITS FALSE NEIGHBOUR: 'it returns false'. Refute it at one input. -/
def serialMovesWrong : ChangeSpec := { name := "serialMoves", fn := fun _ => fun
  | [d1, d2, d3, d4] => { results := [.lit (.bool false)], args := [d1, d2, d3, d4] }
  | _ => none }
def SerialMovesWrongFalsely : Prop := serialMovesRow.holds Try.pinned (OpenSpec.ofChange serialMovesWrong)

/-- 'bollardlaw02.SerialSteps': WHATEVER THE INPUT: true; the input reads as it did. -/
def serialStepsSpec : ChangeSpec := { name := "serialSteps", fn := fun _ => fun
  | [d1, d2, d3] => { results := [.lit (.bool true)], args := [d1, d2, d3] }
  | _ => none }
def serialStepsRow : OpenClaim := { program := "ytbiolmpoooajpaa", sum := "aff343b71bb7ff47345f31bab7f4d2ed6b3d56c66487e7d61d06aa9841dd5ccf", func := "bollard/bollardlaw02.SerialSteps", spec := "serialSteps", apart := false }
def SerialStepsSaid : Prop := serialStepsRow.holds Try.pinned (OpenSpec.ofChange serialStepsSpec)

/-- ITS FALSE NEIGHBOUR: 'it returns false'. Refute it at one input. -/
def serialStepsWrong : ChangeSpec := { name := "serialSteps", fn := fun _ => fun
  | [d1, d2, d3] => { results := [.lit (.bool false)], args := [d1, d2, d3] }
  | _ => none }
def SerialStepsWrongFalsely : Prop := serialStepsRow.holds Try.pinned (OpenSpec.ofChange serialStepsWrong)

/-- 'bollardlaw02.SerialMost': WHATEVER THE INPUT: true; the input reads as it did. -/
def serialMostSpec : ChangeSpec := { name := "serialMost", fn := fun _ => fun
  | [d1, d2] => { results := [.lit (.bool true)], args := [d1, d2] }
  | _ => none }
def serialMostRow : OpenClaim := { program := "ytbiolmpoooajpaa", sum := "aff343b71bb7ff47345f31bab7f4d2ed6b3d56c66487e7d61d06aa9841dd5ccf", func := "bollard/bollardlaw02.SerialMost", spec := "serialMost", apart := false }
def SerialMostSaid : Prop := serialMostRow.holds Try.pinned (OpenSpec.ofChange serialMostSpec)

/-- ITS FALSE NEIGHBOUR: 'it returns false'. Refute it at one input. -/
def serialMostWrong : ChangeSpec := { name := "serialMost", fn := fun _ => fun
  | [d1, d2] => { results := [.lit (.bool false)], args := [d1, d2] }
  | _ => none }
def SerialMostWrongFalsely : Prop := serialMostRow.holds Try.pinned (OpenSpec.ofChange serialMostWrong)

/- THE SECOND FORM. 'bulk': how many values and letters a reading holds, each counted each time it is reached (what is shared counts as often as it is met; a slice's spare places count too). A statement '..UptoSaid' is the law's where the arguments, and the package variables that the reading takes, are together of bulk at most 1048576: NARROWER than '..Said'. Prove '..Said' where nothing that the law and all that it calls make is longer than what came in: it says more and counts as full. Else prove '..UptoSaid'. A law counts once. -/
mutual
def uptoBulk {H : Type} : DataW H → Nat
  | .lit (.string bytes) => bytes.length + 1
  | .lit _ => 1
  | .nil => 1
  | .ptr d => uptoBulk d + 1
  | .slice elems spare => uptoBulkAll elems + uptoBulkAll spare + 1
  | .agg parts => uptoBulkAll parts + 1
  | .iface _ d => uptoBulk d + 1
  | .map entries => uptoBulkEntries entries + 1
  | .held _ => 1
def uptoBulkAll {H : Type} : List (DataW H) → Nat
  | [] => 0
  | d :: r => uptoBulk d + uptoBulkAll r
def uptoBulkEntries {H : Type} : List (Lit × DataW H) → Nat
  | [] => 0
  | x :: r => uptoBulkEntry x + uptoBulkEntries r
def uptoBulkEntry {H : Type} : Lit × DataW H → Nat
  | (.string bytes, d) => bytes.length + uptoBulk d + 1
  | (_, d) => uptoBulk d + 1
 end
def uptoSmall : (H : Type) → List (DataW H) → Bool := fun _ ds => decide (uptoBulkAll ds ≤ 1048576)
def OpenSpec.upto (s : _root_.Go.ChangeSpec) : _root_.Go.OpenSpec := { _root_.Go.OpenSpec.ofChange s with cond := some uptoSmall }

/-- 'bollardlaw02.SerialIs', WHERE WHAT IT READS IS OF BULK AT MOST 1048576: true; the input reads as it did. -/
def serialIsUptoRow : OpenClaim := { program := "ytbiolmpoooajpaa", sum := "aff343b71bb7ff47345f31bab7f4d2ed6b3d56c66487e7d61d06aa9841dd5ccf", func := "bollard/bollardlaw02.SerialIs", spec := "serialIs", apart := false, narrowed := true }
def SerialIsUptoSaid : Prop := serialIsUptoRow.holds Try.pinned (OpenSpec.upto serialIsSpec)

/-- 'bollardlaw02.SerialOne', WHERE WHAT IT READS IS OF BULK AT MOST 1048576: true; the input reads as it did. -/
def serialOneUptoRow : OpenClaim := { program := "ytbiolmpoooajpaa", sum := "aff343b71bb7ff47345f31bab7f4d2ed6b3d56c66487e7d61d06aa9841dd5ccf", func := "bollard/bollardlaw02.SerialOne", spec := "serialOne", apart := false, narrowed := true }
def SerialOneUptoSaid : Prop := serialOneUptoRow.holds Try.pinned (OpenSpec.upto serialOneSpec)

/-- 'bollardlaw02.SerialMoves', WHERE WHAT IT READS IS OF BULK AT MOST 1048576: true; the input reads as it did. -/
def serialMovesUptoRow : OpenClaim := { program := "ytbiolmpoooajpaa", sum := "aff343b71bb7ff47345f31bab7f4d2ed6b3d56c66487e7d61d06aa9841dd5ccf", func := "bollard/bollardlaw02.SerialMoves", spec := "serialMoves", apart := false, narrowed := true }
def SerialMovesUptoSaid : Prop := serialMovesUptoRow.holds Try.pinned (OpenSpec.upto serialMovesSpec)

/-- 'bollardlaw02.SerialSteps', WHERE WHAT IT READS IS OF BULK AT MOST 1048576: true; the input reads as it did. -/
def serialStepsUptoRow : OpenClaim := { program := "ytbiolmpoooajpaa", sum := "aff343b71bb7ff47345f31bab7f4d2ed6b3d56c66487e7d61d06aa9841dd5ccf", func := "bollard/bollardlaw02.SerialSteps", spec := "serialSteps", apart := false, narrowed := true }
def SerialStepsUptoSaid : Prop := serialStepsUptoRow.holds Try.pinned (OpenSpec.upto serialStepsSpec)

/-- 'bollardlaw02.SerialMost', WHERE WHAT IT READS IS OF BULK AT MOST 1048576: true; the input reads as it did. -/
def serialMostUptoRow : OpenClaim := { program := "ytbiolmpoooajpaa", sum := "aff343b71bb7ff47345f31bab7f4d2ed6b3d56c66487e7d61d06aa9841dd5ccf", func := "bollard/bollardlaw02.SerialMost", spec := "serialMost", apart := false, narrowed := true }
def SerialMostUptoSaid : Prop := serialMostUptoRow.holds Try.pinned (OpenSpec.upto serialMostSpec)

end Rows
end Go.Proofs.Ytbiolmpoooajpaa
