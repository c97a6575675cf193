-- written by a program of this session (wip/src/print2.py)
import Derived.Test.YtmaeofmmainmlaaProg
import Derived.Below
import Derived.Deep.Draws
import Derived.Deep.AppendLies
import Derived.Maps.AppendAt
import Derived.OwnWalk
import Derived.Laws.BytesArg
import Derived.Laws.MakeOwn
import Derived.Laws.OwnMore
import Derived.Deep.OwnRows
import Derived.Tactics
import Derived.Lib.ConvBytes
import Derived.Laws.Slices
import Derived.WalkKit
import Derived.KernelRfl
import Derived.RowKit3
import Derived.Deep.LoopGhost
import Derived.Deep.QuietTactic
import Derived.BigQuiet
import Derived.WideLaws
import Derived.Deep.DeepCutAuto
import Derived.Deep.CutBlock
import Derived.Deep.RegionHeld3
import Derived.Laws.Rows
import Derived.Lib.AppendStr
import Derived.ArgAppend
import Derived.Laws.IdiomCopy
import Derived.OrdersHeld
import Derived.Laws.BitsLemmas
import Derived.RowKit
import Derived.Carry
import Derived.Maps.OwnOps
import Derived.Maps.OwnSet
import Derived.Maps.Views
import Derived.Test.YtmaeofmmainmlaaBox
import Derived.Test.YtmaeofmmainmlaaCpy2
import Derived.Test.YtmaeofmmainmlaaWWords
import Derived.Test.YtmaeofmmainmlaaWLast
import Derived.Test.YtmaeofmmainmlaaWTab
import Derived.Test.YtmaeofmmainmlaaWFour
import Derived.Test.YtmaeofmmainmlaaWQPut
import Derived.Test.YtmaeofmmainmlaaWApart
import Derived.Test.YtmaeofmmainmlaaWArr
import Derived.Test.YtmaeofmmainmlaaWZeros
import Derived.Test.YtmaeofmmainmlaaWFoot
import Derived.Test.YtmaeofmmainmlaaWKept
import Derived.Test.YtmaeofmmainmlaaWShare
import Derived.Test.YtmaeofmmainmlaaWN
import Derived.Test.YtmaeofmmainmlaaWFootNe
import Derived.Test.YtmaeofmmainmlaaWAt
import Derived.Test.YtmaeofmmainmlaaWEqStruct
import Derived.Test.YtmaeofmmainmlaaWRepsOne
import Derived.Test.YtmaeofmmainmlaaWInv
import Derived.Test.YtmaeofmmainmlaaWInvWords
import Derived.Test.YtmaeofmmainmlaaWGuard
import Derived.Test.YtmaeofmmainmlaaWNEv
import Derived.Test.YtmaeofmmainmlaaWMore
namespace Go.Proofs.Ytmaeofmmainmlaa.PFnEscape
open Go.RowKit Go.Proofs.YtmaeofmmainmlaaW.PrintWords Go.Proofs.YtmaeofmmainmlaaW.PrintLast Go.Proofs.YtmaeofmmainmlaaW.PrintMore
attribute [local go_sem] max2_int min2_int max_two min_two max_three min_three max_four min_four   -- for this text's walks alone
set_option linter.unusedVariables false
set_option linter.unusedSimpArgs false



def errW : Option Int → Value
  | none => .nilIface
  | some c => .iface 0 (.int .i64 c)
theorem errW_none : errW none = .nilIface := rfl
theorem errW_some (c : Int) : errW (some c) = .iface 0 (.int .i64 c) := rfl

theorem info5 : (Try.prog.info? 5).map (fun i => (i.zero, i.size, i.bytes)) = some (some (.int .u8 0), 1, 1) := by kernel_rfl
-- the values' own types

end Go.Proofs.Ytmaeofmmainmlaa.PFnEscape
