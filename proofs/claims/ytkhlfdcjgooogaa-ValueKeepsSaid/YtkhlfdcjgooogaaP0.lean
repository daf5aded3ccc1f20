-- Printed by a changed copy of the kit's print.py (our wip/print/patch.py). Lean alone checks it.
import Derived.Test.YtkhlfdcjgooogaaProg
import Derived.Below
import Derived.Deep.Draws
import Derived.Deep.AppendLies
import Derived.Maps.AppendAt
import Derived.OwnWalk
import Derived.Laws.BytesArg
import Derived.Laws.MakeOwn
import Derived.Laws.OwnMore
import Derived.Deep.OwnRows
import Derived.Tactics
import Derived.Lib.ConvBytes
import Derived.Laws.Slices
import Derived.WalkKit
import Derived.KernelRfl
import Derived.RowKit3
import Derived.Deep.LoopGhost
import Derived.Deep.QuietTactic
import Derived.BigQuiet
import Derived.WideLaws
import Derived.Deep.DeepCutAuto
import Derived.Deep.CutBlock
import Derived.Deep.RegionHeld3
import Derived.Laws.Rows
import Derived.Lib.AppendStr
import Derived.ArgAppend
import Derived.Laws.IdiomCopy
import Derived.OrdersHeld
import Derived.Laws.BitsLemmas
import Derived.RowKit
import Derived.Test.YtkhlfdcjgooogaaWWords
import Derived.Test.YtkhlfdcjgooogaaWLast
import Derived.Test.YtkhlfdcjgooogaaWTab
import Derived.Test.YtkhlfdcjgooogaaWFour
import Derived.Test.YtkhlfdcjgooogaaWQPut
import Derived.Test.YtkhlfdcjgooogaaWApart
import Derived.Test.YtkhlfdcjgooogaaWArr
import Derived.Test.YtkhlfdcjgooogaaWZeros
import Derived.Test.YtkhlfdcjgooogaaWFoot
import Derived.Test.YtkhlfdcjgooogaaWKept
import Derived.Test.YtkhlfdcjgooogaaWShare
import Derived.Test.YtkhlfdcjgooogaaWN
import Derived.Test.YtkhlfdcjgooogaaWFootNe
import Derived.Test.YtkhlfdcjgooogaaWAt
import Derived.Test.YtkhlfdcjgooogaaWEqStruct
import Derived.Test.YtkhlfdcjgooogaaWRepsOne
import Derived.Test.YtkhlfdcjgooogaaWInv
import Derived.Test.YtkhlfdcjgooogaaWInvWords
import Derived.Test.YtkhlfdcjgooogaaWGuard
import Derived.Test.YtkhlfdcjgooogaaWNEv
import Derived.Test.YtkhlfdcjgooogaaWMore
import Derived.Test.YtkhlfdcjgooogaaH0
namespace Go.Proofs.Ytkhlfdcjgooogaa.P
open Go.RowKit Go.Proofs.YtkhlfdcjgooogaaW.PrintWords Go.Proofs.YtkhlfdcjgooogaaW.PrintLast Go.Proofs.YtkhlfdcjgooogaaW.PrintMore
attribute [local go_sem] max2_int min2_int max_two min_two max_three min_three max_four min_four   -- for this text's walks alone
set_option linter.unusedVariables false
set_option linter.unusedSimpArgs false



def errW : Option Int → Value
  | none => .nilIface
  | some c => .iface 0 (.int .i64 c)
theorem errW_none : errW none = .nilIface := rfl
theorem errW_some (c : Int) : errW (some c) = .iface 0 (.int .i64 c) := rfl

-- the values' own types

end Go.Proofs.Ytkhlfdcjgooogaa.P
