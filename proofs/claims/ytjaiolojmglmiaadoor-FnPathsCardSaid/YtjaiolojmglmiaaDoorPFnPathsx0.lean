-- written by a program of this session (wip/src/print2.py)
import Derived.Test.YtjaiolojmglmiaaDoorProg
import Derived.Below
import Derived.Deep.Draws
import Derived.Deep.AppendLies
import Derived.Maps.AppendAt
import Derived.OwnWalk
import Derived.Laws.BytesArg
import Derived.Laws.MakeOwn
import Derived.Laws.OwnMore
import Derived.Deep.OwnRows
import Derived.Tactics
import Derived.Lib.ConvBytes
import Derived.Laws.Slices
import Derived.WalkKit
import Derived.KernelRfl
import Derived.RowKit3
import Derived.Deep.LoopGhost
import Derived.Deep.QuietTactic
import Derived.BigQuiet
import Derived.WideLaws
import Derived.Deep.DeepCutAuto
import Derived.Deep.CutBlock
import Derived.Deep.RegionHeld3
import Derived.Laws.Rows
import Derived.Lib.AppendStr
import Derived.ArgAppend
import Derived.Laws.IdiomCopy
import Derived.OrdersHeld
import Derived.Laws.BitsLemmas
import Derived.RowKit
import Derived.Laws.RangeAny
import Derived.Laws.RangeString
import Derived.Test.YtjaiolojmglmiaaDoorShf
import Derived.Test.YtjaiolojmglmiaaDoorWWords
import Derived.Test.YtjaiolojmglmiaaDoorWLast
import Derived.Test.YtjaiolojmglmiaaDoorWTab
import Derived.Test.YtjaiolojmglmiaaDoorWFour
import Derived.Test.YtjaiolojmglmiaaDoorWQPut
import Derived.Test.YtjaiolojmglmiaaDoorWApart
import Derived.Test.YtjaiolojmglmiaaDoorWArr
import Derived.Test.YtjaiolojmglmiaaDoorWZeros
import Derived.Test.YtjaiolojmglmiaaDoorWFoot
import Derived.Test.YtjaiolojmglmiaaDoorWKept
import Derived.Test.YtjaiolojmglmiaaDoorWShare
import Derived.Test.YtjaiolojmglmiaaDoorWN
import Derived.Test.YtjaiolojmglmiaaDoorWFootNe
import Derived.Test.YtjaiolojmglmiaaDoorWAt
import Derived.Test.YtjaiolojmglmiaaDoorWEqStruct
import Derived.Test.YtjaiolojmglmiaaDoorWRepsOne
import Derived.Test.YtjaiolojmglmiaaDoorWInv
import Derived.Test.YtjaiolojmglmiaaDoorWInvWords
import Derived.Test.YtjaiolojmglmiaaDoorWGuard
import Derived.Test.YtjaiolojmglmiaaDoorWNEv
import Derived.Test.YtjaiolojmglmiaaDoorWMore
namespace Go.Proofs.YtjaiolojmglmiaaDoor.PFnPaths
open Go.RowKit Go.Proofs.YtjaiolojmglmiaaDoorW.PrintWords Go.Proofs.YtjaiolojmglmiaaDoorW.PrintLast Go.Proofs.YtjaiolojmglmiaaDoorW.PrintMore
attribute [local go_sem] max2_int min2_int max_two min_two max_three min_three max_four min_four   -- for this text's walks alone
set_option linter.unusedVariables false
set_option linter.unusedSimpArgs false



def errW : Option Int → Value
  | none => .nilIface
  | some c => .iface 0 (.int .i64 c)
theorem errW_none : errW none = .nilIface := rfl
theorem errW_some (c : Int) : errW (some c) = .iface 0 (.int .i64 c) := rfl

theorem info5 : (Tryd.prog.info? 5).map (fun i => (i.zero, i.size, i.bytes)) = some (some (.int .u8 0), 1, 1) := by kernel_rfl
theorem info9 : (Tryd.prog.info? 9).map (fun i => (i.zero, i.size, i.bytes)) = some (some (.string ⟨#[]⟩), 1, 16) := by kernel_rfl
-- the values' own types

end Go.Proofs.YtjaiolojmglmiaaDoor.PFnPaths
