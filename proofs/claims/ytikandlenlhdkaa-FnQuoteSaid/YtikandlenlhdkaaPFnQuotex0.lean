-- written by a program of this session (wip/src/print2.py)
import Derived.Test.YtikandlenlhdkaaProg
import Derived.Below
import Derived.Deep.Draws
import Derived.Deep.AppendLies
import Derived.Maps.AppendAt
import Derived.OwnWalk
import Derived.Laws.BytesArg
import Derived.Laws.MakeOwn
import Derived.Laws.OwnMore
import Derived.Deep.OwnRows
import Derived.Tactics
import Derived.Lib.ConvBytes
import Derived.Laws.Slices
import Derived.WalkKit
import Derived.KernelRfl
import Derived.RowKit3
import Derived.Deep.LoopGhost
import Derived.Deep.QuietTactic
import Derived.BigQuiet
import Derived.WideLaws
import Derived.Deep.DeepCutAuto
import Derived.Deep.CutBlock
import Derived.Deep.RegionHeld3
import Derived.Laws.Rows
import Derived.Lib.AppendStr
import Derived.ArgAppend
import Derived.Laws.IdiomCopy
import Derived.OrdersHeld
import Derived.Laws.BitsLemmas
import Derived.RowKit
import Derived.Laws.Externs
import Derived.Shelf.Strings.Builder1
import Derived.StillTailTactics
import Derived.Test.YtikandlenlhdkaaMkr
import Derived.Test.YtikandlenlhdkaaQt
import Derived.Test.YtikandlenlhdkaaShf
import Derived.Test.YtikandlenlhdkaaWWords
import Derived.Test.YtikandlenlhdkaaWLast
import Derived.Test.YtikandlenlhdkaaWTab
import Derived.Test.YtikandlenlhdkaaWFour
import Derived.Test.YtikandlenlhdkaaWQPut
import Derived.Test.YtikandlenlhdkaaWApart
import Derived.Test.YtikandlenlhdkaaWArr
import Derived.Test.YtikandlenlhdkaaWZeros
import Derived.Test.YtikandlenlhdkaaWFoot
import Derived.Test.YtikandlenlhdkaaWKept
import Derived.Test.YtikandlenlhdkaaWShare
import Derived.Test.YtikandlenlhdkaaWN
import Derived.Test.YtikandlenlhdkaaWFootNe
import Derived.Test.YtikandlenlhdkaaWAt
import Derived.Test.YtikandlenlhdkaaWEqStruct
import Derived.Test.YtikandlenlhdkaaWRepsOne
import Derived.Test.YtikandlenlhdkaaWInv
import Derived.Test.YtikandlenlhdkaaWInvWords
import Derived.Test.YtikandlenlhdkaaWGuard
import Derived.Test.YtikandlenlhdkaaWNEv
import Derived.Test.YtikandlenlhdkaaWMore
namespace Go.Proofs.Ytikandlenlhdkaa.PFnQuote
open Go.RowKit Go.Proofs.YtikandlenlhdkaaW.PrintWords Go.Proofs.YtikandlenlhdkaaW.PrintLast Go.Proofs.YtikandlenlhdkaaW.PrintMore
attribute [local go_sem] max2_int min2_int max_two min_two max_three min_three max_four min_four   -- for this text's walks alone
set_option linter.unusedVariables false
set_option linter.unusedSimpArgs false



def errW : Option Int → Value
  | none => .nilIface
  | some c => .iface 0 (.int .i64 c)
theorem errW_none : errW none = .nilIface := rfl
theorem errW_some (c : Int) : errW (some c) = .iface 0 (.int .i64 c) := rfl

theorem info5 : (Try.prog.info? 5).map (fun i => (i.zero, i.size, i.bytes)) = some (some (.int .u8 0), 1, 1) := by kernel_rfl
-- the values' own types

end Go.Proofs.Ytikandlenlhdkaa.PFnQuote
