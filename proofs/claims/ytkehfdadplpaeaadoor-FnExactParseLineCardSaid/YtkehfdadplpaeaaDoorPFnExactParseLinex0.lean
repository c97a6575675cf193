-- written by a program of this session (wip/src/print2.py)
import Derived.Test.YtkehfdadplpaeaaDoorProg
import Derived.Below
import Derived.Deep.Draws
import Derived.Deep.AppendLies
import Derived.Maps.AppendAt
import Derived.OwnWalk
import Derived.Laws.BytesArg
import Derived.Laws.MakeOwn
import Derived.Laws.OwnMore
import Derived.Deep.OwnRows
import Derived.Tactics
import Derived.Lib.ConvBytes
import Derived.Laws.Slices
import Derived.WalkKit
import Derived.KernelRfl
import Derived.RowKit3
import Derived.Deep.LoopGhost
import Derived.Deep.QuietTactic
import Derived.BigQuiet
import Derived.WideLaws
import Derived.Deep.DeepCutAuto
import Derived.Deep.CutBlock
import Derived.Deep.RegionHeld3
import Derived.Laws.Rows
import Derived.Lib.AppendStr
import Derived.ArgAppend
import Derived.Laws.IdiomCopy
import Derived.OrdersHeld
import Derived.Laws.BitsLemmas
import Derived.RowKit
import Derived.Test.YtkehfdadplpaeaaDoorVPLRgn
import Derived.Laws.Externs
import Derived.Lib.ItoaLen
import Derived.Shelf.Strings.Builder1
import Derived.StillTailTactics
import Derived.Test.YtkehfdadplpaeaaDoorVPLBox
import Derived.Test.YtkehfdadplpaeaaDoorVPLMkr
import Derived.Test.YtkehfdadplpaeaaDoorQt
import Derived.Test.YtkehfdadplpaeaaDoorShf
import Derived.Test.YtkehfdadplpaeaaDoorVPLShp
import Derived.Test.YtkehfdadplpaeaaDoorVPLWWords
import Derived.Test.YtkehfdadplpaeaaDoorVPLWLast
import Derived.Test.YtkehfdadplpaeaaDoorVPLWTab
import Derived.Test.YtkehfdadplpaeaaDoorVPLWFour
import Derived.Test.YtkehfdadplpaeaaDoorVPLWQPut
import Derived.Test.YtkehfdadplpaeaaDoorVPLWApart
import Derived.Test.YtkehfdadplpaeaaDoorVPLWArr
import Derived.Test.YtkehfdadplpaeaaDoorVPLWZeros
import Derived.Test.YtkehfdadplpaeaaDoorVPLWFoot
import Derived.Test.YtkehfdadplpaeaaDoorVPLWKept
import Derived.Test.YtkehfdadplpaeaaDoorVPLWShare
import Derived.Test.YtkehfdadplpaeaaDoorVPLWN
import Derived.Test.YtkehfdadplpaeaaDoorVPLWFootNe
import Derived.Test.YtkehfdadplpaeaaDoorVPLWAt
import Derived.Test.YtkehfdadplpaeaaDoorVPLWEqStruct
import Derived.Test.YtkehfdadplpaeaaDoorVPLWRepsOne
import Derived.Test.YtkehfdadplpaeaaDoorVPLWInv
import Derived.Test.YtkehfdadplpaeaaDoorVPLWInvWords
import Derived.Test.YtkehfdadplpaeaaDoorVPLWGuard
import Derived.Test.YtkehfdadplpaeaaDoorVPLWNEv
import Derived.Test.YtkehfdadplpaeaaDoorVPLWMore
namespace Go.Proofs.YtkehfdadplpaeaaDoor.PFnExactParseLine
open Go.RowKit Go.Proofs.YtkehfdadplpaeaaDoorW.PrintWords Go.Proofs.YtkehfdadplpaeaaDoorW.PrintLast Go.Proofs.YtkehfdadplpaeaaDoorW.PrintMore
attribute [local go_sem] max2_int min2_int max_two min_two max_three min_three max_four min_four   -- for this text's walks alone
set_option linter.unusedVariables false
set_option linter.unusedSimpArgs false



def errW : Option Int → Value
  | none => .nilIface
  | some c => .iface 0 (.int .i64 c)
theorem errW_none : errW none = .nilIface := rfl
theorem errW_some (c : Int) : errW (some c) = .iface 0 (.int .i64 c) := rfl

theorem info2 : (Tryd.prog.info? 2).map (fun i => (i.zero, i.size, i.bytes)) = some (some (.int .i64 0), 1, 8) := by kernel_rfl
theorem info5 : (Tryd.prog.info? 5).map (fun i => (i.zero, i.size, i.bytes)) = some (some (.int .u8 0), 1, 1) := by kernel_rfl
theorem info9 : (Tryd.prog.info? 9).map (fun i => (i.zero, i.size, i.bytes)) = some (some (.string ⟨#[]⟩), 1, 16) := by kernel_rfl
-- the values' own types

end Go.Proofs.YtkehfdadplpaeaaDoor.PFnExactParseLine
