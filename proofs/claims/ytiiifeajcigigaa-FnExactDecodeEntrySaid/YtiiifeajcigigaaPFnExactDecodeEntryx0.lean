-- written by a program of this session (wip/src/print2.py)
import Derived.Test.YtiiifeajcigigaaProg
import Derived.Below
import Derived.Deep.Draws
import Derived.Deep.AppendLies
import Derived.Maps.AppendAt
import Derived.OwnWalk
import Derived.Laws.BytesArg
import Derived.Laws.MakeOwn
import Derived.Laws.OwnMore
import Derived.Deep.OwnRows
import Derived.Tactics
import Derived.Lib.ConvBytes
import Derived.Laws.Slices
import Derived.WalkKit
import Derived.KernelRfl
import Derived.RowKit3
import Derived.Deep.LoopGhost
import Derived.Deep.QuietTactic
import Derived.BigQuiet
import Derived.WideLaws
import Derived.Deep.DeepCutAuto
import Derived.Deep.CutBlock
import Derived.Deep.RegionHeld3
import Derived.Laws.Rows
import Derived.Lib.AppendStr
import Derived.ArgAppend
import Derived.Laws.IdiomCopy
import Derived.OrdersHeld
import Derived.Laws.BitsLemmas
import Derived.RowKit
import Derived.Deep.RegionLaw
import Derived.Laws.CopyOwn
import Derived.Laws.RangeAny
import Derived.Laws.RangeString
import Derived.Test.YtiiifeajcigigaaBox
import Derived.Test.YtiiifeajcigigaaCpy
import Derived.Test.YtiiifeajcigigaaCpy2
import Derived.Test.YtiiifeajcigigaaWWords
import Derived.Test.YtiiifeajcigigaaWLast
import Derived.Test.YtiiifeajcigigaaWTab
import Derived.Test.YtiiifeajcigigaaWFour
import Derived.Test.YtiiifeajcigigaaWQPut
import Derived.Test.YtiiifeajcigigaaWApart
import Derived.Test.YtiiifeajcigigaaWArr
import Derived.Test.YtiiifeajcigigaaWZeros
import Derived.Test.YtiiifeajcigigaaWFoot
import Derived.Test.YtiiifeajcigigaaWKept
import Derived.Test.YtiiifeajcigigaaWShare
import Derived.Test.YtiiifeajcigigaaWN
import Derived.Test.YtiiifeajcigigaaWFootNe
import Derived.Test.YtiiifeajcigigaaWAt
import Derived.Test.YtiiifeajcigigaaWEqStruct
import Derived.Test.YtiiifeajcigigaaWRepsOne
import Derived.Test.YtiiifeajcigigaaWInv
import Derived.Test.YtiiifeajcigigaaWInvWords
import Derived.Test.YtiiifeajcigigaaWGuard
import Derived.Test.YtiiifeajcigigaaWNEv
import Derived.Test.YtiiifeajcigigaaWMore
namespace Go.Proofs.Ytiiifeajcigigaa.PFnExactDecodeEntry
open Go.RowKit Go.Proofs.YtiiifeajcigigaaW.PrintWords Go.Proofs.YtiiifeajcigigaaW.PrintLast Go.Proofs.YtiiifeajcigigaaW.PrintMore
attribute [local go_sem] max2_int min2_int max_two min_two max_three min_three max_four min_four   -- for this text's walks alone
set_option linter.unusedVariables false
set_option linter.unusedSimpArgs false



def errW : Option Int → Value
  | none => .nilIface
  | some c => .iface 0 (.int .i64 c)
theorem errW_none : errW none = .nilIface := rfl
theorem errW_some (c : Int) : errW (some c) = .iface 0 (.int .i64 c) := rfl

theorem info5 : (Try.prog.info? 5).map (fun i => (i.zero, i.size, i.bytes)) = some (some (.int .u8 0), 1, 1) := by kernel_rfl
theorem info9 : (Try.prog.info? 9).map (fun i => (i.zero, i.size, i.bytes)) = some (some (.string ⟨#[]⟩), 1, 16) := by kernel_rfl
-- the values' own types

end Go.Proofs.Ytiiifeajcigigaa.PFnExactDecodeEntry
