-- written by a program of this session (wip/src/print2.py)
import Derived.Test.YtdkjidnagkcenaaProg
import Derived.Below
import Derived.Deep.Draws
import Derived.Deep.AppendLies
import Derived.Maps.AppendAt
import Derived.OwnWalk
import Derived.Laws.BytesArg
import Derived.Laws.MakeOwn
import Derived.Laws.OwnMore
import Derived.Deep.OwnRows
import Derived.Tactics
import Derived.Lib.ConvBytes
import Derived.Laws.Slices
import Derived.WalkKit
import Derived.KernelRfl
import Derived.RowKit3
import Derived.Deep.LoopGhost
import Derived.Deep.QuietTactic
import Derived.BigQuiet
import Derived.WideLaws
import Derived.Deep.DeepCutAuto
import Derived.Deep.CutBlock
import Derived.Deep.RegionHeld3
import Derived.Laws.Rows
import Derived.Lib.AppendStr
import Derived.ArgAppend
import Derived.Laws.IdiomCopy
import Derived.OrdersHeld
import Derived.Laws.BitsLemmas
import Derived.RowKit
import Derived.Carry
import Derived.Laws.RangeAny
import Derived.Laws.RangeString
import Derived.Maps.OwnOps
import Derived.Maps.OwnSet
import Derived.Maps.Views
import Derived.Test.YtdkjidnagkcenaaBox
import Derived.Test.YtdkjidnagkcenaaWWords
import Derived.Test.YtdkjidnagkcenaaWLast
import Derived.Test.YtdkjidnagkcenaaWTab
import Derived.Test.YtdkjidnagkcenaaWFour
import Derived.Test.YtdkjidnagkcenaaWQPut
import Derived.Test.YtdkjidnagkcenaaWApart
import Derived.Test.YtdkjidnagkcenaaWArr
import Derived.Test.YtdkjidnagkcenaaWZeros
import Derived.Test.YtdkjidnagkcenaaWFoot
import Derived.Test.YtdkjidnagkcenaaWKept
import Derived.Test.YtdkjidnagkcenaaWShare
import Derived.Test.YtdkjidnagkcenaaWN
import Derived.Test.YtdkjidnagkcenaaWFootNe
import Derived.Test.YtdkjidnagkcenaaWAt
import Derived.Test.YtdkjidnagkcenaaWEqStruct
import Derived.Test.YtdkjidnagkcenaaWRepsOne
import Derived.Test.YtdkjidnagkcenaaWInv
import Derived.Test.YtdkjidnagkcenaaWInvWords
import Derived.Test.YtdkjidnagkcenaaWGuard
import Derived.Test.YtdkjidnagkcenaaWNEv
import Derived.Test.YtdkjidnagkcenaaWMore
namespace Go.Proofs.Ytdkjidnagkcenaa.PFnExactLogTail
open Go.RowKit Go.Proofs.YtdkjidnagkcenaaW.PrintWords Go.Proofs.YtdkjidnagkcenaaW.PrintLast Go.Proofs.YtdkjidnagkcenaaW.PrintMore
attribute [local go_sem] max2_int min2_int max_two min_two max_three min_three max_four min_four   -- for this text's walks alone
set_option linter.unusedVariables false
set_option linter.unusedSimpArgs false



def errW : Option Int → Value
  | none => .nilIface
  | some c => .iface 0 (.int .i64 c)
theorem errW_none : errW none = .nilIface := rfl
theorem errW_some (c : Int) : errW (some c) = .iface 0 (.int .i64 c) := rfl

-- the values' own types

end Go.Proofs.Ytdkjidnagkcenaa.PFnExactLogTail
