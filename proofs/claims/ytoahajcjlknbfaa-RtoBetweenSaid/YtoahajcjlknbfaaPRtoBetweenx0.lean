/- The machine side of one law (contracts of functions, or its row), for every input, without conditions; written by a program of this session, wip/mprint.py. -/
import Derived.Test.YtoahajcjlknbfaaProg
import Derived.Below
import Derived.Deep.Draws
import Derived.Deep.AppendLies
import Derived.Maps.AppendAt
import Derived.OwnWalk
import Derived.Laws.BytesArg
import Derived.Laws.MakeOwn
import Derived.Laws.OwnMore
import Derived.Deep.OwnRows
import Derived.Tactics
import Derived.Lib.ConvBytes
import Derived.Laws.Slices
import Derived.WalkKit
import Derived.KernelRfl
import Derived.RowKit3
import Derived.Deep.LoopGhost
import Derived.Deep.QuietTactic
import Derived.BigQuiet
import Derived.WideLaws
import Derived.Deep.DeepCutAuto
import Derived.Deep.CutBlock
import Derived.Deep.RegionHeld3
import Derived.Laws.Rows
import Derived.Lib.AppendStr
import Derived.ArgAppend
import Derived.Laws.IdiomCopy
import Derived.OrdersHeld
import Derived.Laws.BitsLemmas
import Derived.RowKit
import Derived.Test.YtoahajcjlknbfaaWWords
import Derived.Test.YtoahajcjlknbfaaWLast
import Derived.Test.YtoahajcjlknbfaaWTab
import Derived.Test.YtoahajcjlknbfaaWFour
import Derived.Test.YtoahajcjlknbfaaWQPut
import Derived.Test.YtoahajcjlknbfaaWApart
import Derived.Test.YtoahajcjlknbfaaWArr
import Derived.Test.YtoahajcjlknbfaaWZeros
import Derived.Test.YtoahajcjlknbfaaWFoot
import Derived.Test.YtoahajcjlknbfaaWKept
import Derived.Test.YtoahajcjlknbfaaWShare
import Derived.Test.YtoahajcjlknbfaaWN
import Derived.Test.YtoahajcjlknbfaaWFootNe
import Derived.Test.YtoahajcjlknbfaaWAt
import Derived.Test.YtoahajcjlknbfaaWEqStruct
import Derived.Test.YtoahajcjlknbfaaWRepsOne
import Derived.Test.YtoahajcjlknbfaaWInv
import Derived.Test.YtoahajcjlknbfaaWInvWords
import Derived.Test.YtoahajcjlknbfaaWGuard
import Derived.Test.YtoahajcjlknbfaaWNEv
import Derived.Test.YtoahajcjlknbfaaWMore
namespace Go.Proofs.Ytoahajcjlknbfaa.PRtoBetween
open Go.RowKit Go.Proofs.YtoahajcjlknbfaaW.PrintWords Go.Proofs.YtoahajcjlknbfaaW.PrintLast Go.Proofs.YtoahajcjlknbfaaW.PrintMore
attribute [local go_sem] max2_int min2_int max_two min_two max_three min_three max_four min_four   -- for this text's walks alone
set_option linter.unusedVariables false
set_option linter.unusedSimpArgs false



def errW : Option Int → Value
  | none => .nilIface
  | some c => .iface 0 (.int .i64 c)
theorem errW_none : errW none = .nilIface := rfl
theorem errW_some (c : Int) : errW (some c) = .iface 0 (.int .i64 c) := rfl

-- the values' own types

end Go.Proofs.Ytoahajcjlknbfaa.PRtoBetween
