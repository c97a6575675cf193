-- written by a program of this session (wip/src/print2.py)
import Derived.Test.YtdhjhadcadcceaaProg
import Derived.Below
import Derived.Deep.Draws
import Derived.Deep.AppendLies
import Derived.Maps.AppendAt
import Derived.OwnWalk
import Derived.Laws.BytesArg
import Derived.Laws.MakeOwn
import Derived.Laws.OwnMore
import Derived.Deep.OwnRows
import Derived.Tactics
import Derived.Lib.ConvBytes
import Derived.Laws.Slices
import Derived.WalkKit
import Derived.KernelRfl
import Derived.RowKit3
import Derived.Deep.LoopGhost
import Derived.Deep.QuietTactic
import Derived.BigQuiet
import Derived.WideLaws
import Derived.Deep.DeepCutAuto
import Derived.Deep.CutBlock
import Derived.Deep.RegionHeld3
import Derived.Laws.Rows
import Derived.Lib.AppendStr
import Derived.ArgAppend
import Derived.Laws.IdiomCopy
import Derived.OrdersHeld
import Derived.Laws.BitsLemmas
import Derived.RowKit
import Derived.Test.YtdhjhadcadcceaaWWords
import Derived.Test.YtdhjhadcadcceaaWLast
import Derived.Test.YtdhjhadcadcceaaWTab
import Derived.Test.YtdhjhadcadcceaaWFour
import Derived.Test.YtdhjhadcadcceaaWQPut
import Derived.Test.YtdhjhadcadcceaaWApart
import Derived.Test.YtdhjhadcadcceaaWArr
import Derived.Test.YtdhjhadcadcceaaWZeros
import Derived.Test.YtdhjhadcadcceaaWFoot
import Derived.Test.YtdhjhadcadcceaaWKept
import Derived.Test.YtdhjhadcadcceaaWShare
import Derived.Test.YtdhjhadcadcceaaWN
import Derived.Test.YtdhjhadcadcceaaWFootNe
import Derived.Test.YtdhjhadcadcceaaWAt
import Derived.Test.YtdhjhadcadcceaaWEqStruct
import Derived.Test.YtdhjhadcadcceaaWRepsOne
import Derived.Test.YtdhjhadcadcceaaWInv
import Derived.Test.YtdhjhadcadcceaaWInvWords
import Derived.Test.YtdhjhadcadcceaaWGuard
import Derived.Test.YtdhjhadcadcceaaWNEv
import Derived.Test.YtdhjhadcadcceaaWMore
namespace Go.Proofs.Ytdhjhadcadcceaa.PFnExactPutNumber
open Go.RowKit Go.Proofs.YtdhjhadcadcceaaW.PrintWords Go.Proofs.YtdhjhadcadcceaaW.PrintLast Go.Proofs.YtdhjhadcadcceaaW.PrintMore
attribute [local go_sem] max2_int min2_int max_two min_two max_three min_three max_four min_four   -- for this text's walks alone
set_option linter.unusedVariables false
set_option linter.unusedSimpArgs false



def errW : Option Int → Value
  | none => .nilIface
  | some c => .iface 0 (.int .i64 c)
theorem errW_none : errW none = .nilIface := rfl
theorem errW_some (c : Int) : errW (some c) = .iface 0 (.int .i64 c) := rfl

theorem info5 : (Try.prog.info? 5).map (fun i => (i.zero, i.size, i.bytes)) = some (some (.int .u8 0), 1, 1) := by kernel_rfl
-- the values' own types

end Go.Proofs.Ytdhjhadcadcceaa.PFnExactPutNumber
