-- written by a program of this session (wip/src/print2.py)
import Derived.Test.YtplefdkookhlhaaProg
import Derived.Below
import Derived.Deep.Draws
import Derived.Deep.AppendLies
import Derived.Maps.AppendAt
import Derived.OwnWalk
import Derived.Laws.BytesArg
import Derived.Laws.MakeOwn
import Derived.Laws.OwnMore
import Derived.Deep.OwnRows
import Derived.Tactics
import Derived.Lib.ConvBytes
import Derived.Laws.Slices
import Derived.WalkKit
import Derived.KernelRfl
import Derived.RowKit3
import Derived.Deep.LoopGhost
import Derived.Deep.QuietTactic
import Derived.BigQuiet
import Derived.WideLaws
import Derived.Deep.DeepCutAuto
import Derived.Deep.CutBlock
import Derived.Deep.RegionHeld3
import Derived.Laws.Rows
import Derived.Lib.AppendStr
import Derived.ArgAppend
import Derived.Laws.IdiomCopy
import Derived.OrdersHeld
import Derived.Laws.BitsLemmas
import Derived.RowKit
import Derived.Deep.RegionLaw
import Derived.Laws.CopyOwn
import Derived.Test.YtplefdkookhlhaaVDIBox
import Derived.Test.YtplefdkookhlhaaVDICpy
import Derived.Test.YtplefdkookhlhaaVDICpy2
import Derived.Test.YtplefdkookhlhaaVDIWWords
import Derived.Test.YtplefdkookhlhaaVDIWLast
import Derived.Test.YtplefdkookhlhaaVDIWTab
import Derived.Test.YtplefdkookhlhaaVDIWFour
import Derived.Test.YtplefdkookhlhaaVDIWQPut
import Derived.Test.YtplefdkookhlhaaVDIWApart
import Derived.Test.YtplefdkookhlhaaVDIWArr
import Derived.Test.YtplefdkookhlhaaVDIWZeros
import Derived.Test.YtplefdkookhlhaaVDIWFoot
import Derived.Test.YtplefdkookhlhaaVDIWKept
import Derived.Test.YtplefdkookhlhaaVDIWShare
import Derived.Test.YtplefdkookhlhaaVDIWN
import Derived.Test.YtplefdkookhlhaaVDIWFootNe
import Derived.Test.YtplefdkookhlhaaVDIWAt
import Derived.Test.YtplefdkookhlhaaVDIWEqStruct
import Derived.Test.YtplefdkookhlhaaVDIWRepsOne
import Derived.Test.YtplefdkookhlhaaVDIWInv
import Derived.Test.YtplefdkookhlhaaVDIWInvWords
import Derived.Test.YtplefdkookhlhaaVDIWGuard
import Derived.Test.YtplefdkookhlhaaVDIWNEv
import Derived.Test.YtplefdkookhlhaaVDIWMore
namespace Go.Proofs.Ytplefdkookhlhaa.PFnExactDecodeInode
open Go.RowKit Go.Proofs.YtplefdkookhlhaaW.PrintWords Go.Proofs.YtplefdkookhlhaaW.PrintLast Go.Proofs.YtplefdkookhlhaaW.PrintMore
attribute [local go_sem] max2_int min2_int max_two min_two max_three min_three max_four min_four   -- for this text's walks alone
set_option linter.unusedVariables false
set_option linter.unusedSimpArgs false



def errW : Option Int → Value
  | none => .nilIface
  | some c => .iface 0 (.int .i64 c)
theorem errW_none : errW none = .nilIface := rfl
theorem errW_some (c : Int) : errW (some c) = .iface 0 (.int .i64 c) := rfl

theorem info2 : (Try.prog.info? 2).map (fun i => (i.zero, i.size, i.bytes)) = some (some (.int .i64 0), 1, 8) := by kernel_rfl
theorem info5 : (Try.prog.info? 5).map (fun i => (i.zero, i.size, i.bytes)) = some (some (.int .u8 0), 1, 1) := by kernel_rfl
-- the values' own types

end Go.Proofs.Ytplefdkookhlhaa.PFnExactDecodeInode
