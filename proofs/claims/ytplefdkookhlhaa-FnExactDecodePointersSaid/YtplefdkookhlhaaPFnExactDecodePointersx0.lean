-- written by a program of this session (wip/src/print2.py)
import Derived.Test.YtplefdkookhlhaaProg
import Derived.Below
import Derived.Deep.Draws
import Derived.Deep.AppendLies
import Derived.Maps.AppendAt
import Derived.OwnWalk
import Derived.Laws.BytesArg
import Derived.Laws.MakeOwn
import Derived.Laws.OwnMore
import Derived.Deep.OwnRows
import Derived.Tactics
import Derived.Lib.ConvBytes
import Derived.Laws.Slices
import Derived.WalkKit
import Derived.KernelRfl
import Derived.RowKit3
import Derived.Deep.LoopGhost
import Derived.Deep.QuietTactic
import Derived.BigQuiet
import Derived.WideLaws
import Derived.Deep.DeepCutAuto
import Derived.Deep.CutBlock
import Derived.Deep.RegionHeld3
import Derived.Laws.Rows
import Derived.Lib.AppendStr
import Derived.ArgAppend
import Derived.Laws.IdiomCopy
import Derived.OrdersHeld
import Derived.Laws.BitsLemmas
import Derived.RowKit
import Derived.Deep.RegionLaw
import Derived.Laws.CopyOwn
import Derived.Test.YtplefdkookhlhaaBox
import Derived.Test.YtplefdkookhlhaaCpy
import Derived.Test.YtplefdkookhlhaaCpy2
import Derived.Test.YtplefdkookhlhaaWWords
import Derived.Test.YtplefdkookhlhaaWLast
import Derived.Test.YtplefdkookhlhaaWTab
import Derived.Test.YtplefdkookhlhaaWFour
import Derived.Test.YtplefdkookhlhaaWQPut
import Derived.Test.YtplefdkookhlhaaWApart
import Derived.Test.YtplefdkookhlhaaWArr
import Derived.Test.YtplefdkookhlhaaWZeros
import Derived.Test.YtplefdkookhlhaaWFoot
import Derived.Test.YtplefdkookhlhaaWKept
import Derived.Test.YtplefdkookhlhaaWShare
import Derived.Test.YtplefdkookhlhaaWN
import Derived.Test.YtplefdkookhlhaaWFootNe
import Derived.Test.YtplefdkookhlhaaWAt
import Derived.Test.YtplefdkookhlhaaWEqStruct
import Derived.Test.YtplefdkookhlhaaWRepsOne
import Derived.Test.YtplefdkookhlhaaWInv
import Derived.Test.YtplefdkookhlhaaWInvWords
import Derived.Test.YtplefdkookhlhaaWGuard
import Derived.Test.YtplefdkookhlhaaWNEv
import Derived.Test.YtplefdkookhlhaaWMore
namespace Go.Proofs.Ytplefdkookhlhaa.PFnExactDecodePointers
open Go.RowKit Go.Proofs.YtplefdkookhlhaaW.PrintWords Go.Proofs.YtplefdkookhlhaaW.PrintLast Go.Proofs.YtplefdkookhlhaaW.PrintMore
attribute [local go_sem] max2_int min2_int max_two min_two max_three min_three max_four min_four   -- for this text's walks alone
set_option linter.unusedVariables false
set_option linter.unusedSimpArgs false



def errW : Option Int → Value
  | none => .nilIface
  | some c => .iface 0 (.int .i64 c)
theorem errW_none : errW none = .nilIface := rfl
theorem errW_some (c : Int) : errW (some c) = .iface 0 (.int .i64 c) := rfl

theorem info2 : (Try.prog.info? 2).map (fun i => (i.zero, i.size, i.bytes)) = some (some (.int .i64 0), 1, 8) := by kernel_rfl
theorem info5 : (Try.prog.info? 5).map (fun i => (i.zero, i.size, i.bytes)) = some (some (.int .u8 0), 1, 1) := by kernel_rfl
-- the values' own types

end Go.Proofs.Ytplefdkookhlhaa.PFnExactDecodePointers
