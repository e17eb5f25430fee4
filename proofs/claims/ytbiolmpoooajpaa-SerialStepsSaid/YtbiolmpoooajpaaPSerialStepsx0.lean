-- Written by a program of this session (wip/mprint.py) after the manner of the kit's print.
import Derived.Test.YtbiolmpoooajpaaProg
import Derived.Below
import Derived.Deep.Draws
import Derived.Deep.AppendLies
import Derived.Maps.AppendAt
import Derived.OwnWalk
import Derived.Laws.BytesArg
import Derived.Laws.MakeOwn
import Derived.Laws.OwnMore
import Derived.Deep.OwnRows
import Derived.Tactics
import Derived.Lib.ConvBytes
import Derived.Laws.Slices
import Derived.WalkKit
import Derived.KernelRfl
import Derived.RowKit3
import Derived.Deep.LoopGhost
import Derived.Deep.QuietTactic
import Derived.BigQuiet
import Derived.WideLaws
import Derived.Deep.DeepCutAuto
import Derived.Deep.CutBlock
import Derived.Deep.RegionHeld3
import Derived.Laws.Rows
import Derived.Lib.AppendStr
import Derived.ArgAppend
import Derived.Laws.IdiomCopy
import Derived.OrdersHeld
import Derived.Laws.BitsLemmas
import Derived.RowKit
import Derived.Test.YtbiolmpoooajpaaWWords
import Derived.Test.YtbiolmpoooajpaaWLast
import Derived.Test.YtbiolmpoooajpaaWTab
import Derived.Test.YtbiolmpoooajpaaWFour
import Derived.Test.YtbiolmpoooajpaaWQPut
import Derived.Test.YtbiolmpoooajpaaWApart
import Derived.Test.YtbiolmpoooajpaaWArr
import Derived.Test.YtbiolmpoooajpaaWZeros
import Derived.Test.YtbiolmpoooajpaaWFoot
import Derived.Test.YtbiolmpoooajpaaWKept
import Derived.Test.YtbiolmpoooajpaaWShare
import Derived.Test.YtbiolmpoooajpaaWN
import Derived.Test.YtbiolmpoooajpaaWFootNe
import Derived.Test.YtbiolmpoooajpaaWAt
import Derived.Test.YtbiolmpoooajpaaWEqStruct
import Derived.Test.YtbiolmpoooajpaaWRepsOne
import Derived.Test.YtbiolmpoooajpaaWInv
import Derived.Test.YtbiolmpoooajpaaWInvWords
import Derived.Test.YtbiolmpoooajpaaWGuard
import Derived.Test.YtbiolmpoooajpaaWNEv
import Derived.Test.YtbiolmpoooajpaaWMore
namespace Go.Proofs.Ytbiolmpoooajpaa.PSerialSteps
open Go.RowKit Go.Proofs.YtbiolmpoooajpaaW.PrintWords Go.Proofs.YtbiolmpoooajpaaW.PrintLast Go.Proofs.YtbiolmpoooajpaaW.PrintMore
attribute [local go_sem] max2_int min2_int max_two min_two max_three min_three max_four min_four   -- for this text's walks alone
set_option linter.unusedVariables false
set_option linter.unusedSimpArgs false



def errW : Option Int → Value
  | none => .nilIface
  | some c => .iface 0 (.int .i64 c)
theorem errW_none : errW none = .nilIface := rfl
theorem errW_some (c : Int) : errW (some c) = .iface 0 (.int .i64 c) := rfl

-- the values' own types

end Go.Proofs.Ytbiolmpoooajpaa.PSerialSteps
