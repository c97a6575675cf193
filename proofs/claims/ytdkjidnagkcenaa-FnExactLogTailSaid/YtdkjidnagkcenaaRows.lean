/-
  No cell of these rows narrows 'for every input' (looked for: loops, veiled, ifaces, maps, wideKeys, modest, calm, conditions, laid).
  DERIVED. THE GIVEN ROWS OF THIS SEAT. 12 by the template 'for every input the law returns true; each argument reads behind the call as it read before'; 0 by the template 'total and deterministic' (their statements: YtdkjidnagkcenaaTotals.lean).
  GIVEN WITH THE SEED: the statements are not yours to turn. If you find one false, say at which input.
  Laid BY PROGRAM, IN A SANDBOX (cutbox-rows.mjs): the forced cells as the released guide's own fill.sh prints them over the translation 6ce9153e72a3a5e2… (all of the seat's roots in one cut). By AI agents, Wed Nov 11 2026. No macro, syntax, notation, axiom, sorry.
-/
import Derived.Test.YtdkjidnagkcenaaChecked
import GoSem.Claim
import GoSem.ClaimJoined
import GoSem.ClaimMapViews
import Derived.JoinedTies
import Derived.KernelRfl
namespace Go.Proofs.Ytdkjidnagkcenaa
/- THE CELL 'sum', in the pinned program and in every row, IS THE sha256 OF THE DUMP (.gsa) THAT YtdkjidnagkcenaaProg.lean LOADS. Nothing in Lean hashes anything: it is a label: what it is worth is what the hold of that sum in a sandbox is worth. -/
noncomputable def Try.pinned : Pinned := { name := "ytdkjidnagkcenaa", sum := "6ce9153e72a3a5e2ed513687e0405160c73bf00f9e5b6b8afbe1b8d9d725ec58", checked := Try.checked }
namespace Rows
def none {H : Type} : Left H := { results := [], args := [] }

/-- 'laws.FnExactConstants': WHATEVER THE INPUT: true; the input reads as it did. -/
def fnExactConstantsSpec : ChangeSpec := { name := "fnExactConstants", fn := fun _ => fun
  | [] => { results := [.lit (.bool true)], args := [] }
  | _ => none }
def fnExactConstantsRow : OpenClaim := { program := "ytdkjidnagkcenaa", sum := "6ce9153e72a3a5e2ed513687e0405160c73bf00f9e5b6b8afbe1b8d9d725ec58", func := "loop.example/s01525/laws.FnExactConstants", spec := "fnExactConstants", apart := false }
def FnExactConstantsSaid : Prop := fnExactConstantsRow.holds Try.pinned (OpenSpec.ofChange fnExactConstantsSpec)

/-- ITS FALSE NEIGHBOUR: 'it returns false'. Refute it at one input. -/
def fnExactConstantsWrong : ChangeSpec := { name := "fnExactConstants", fn := fun _ => fun
  | [] => { results := [.lit (.bool false)], args := [] }
  | _ => none }
def FnExactConstantsWrongFalsely : Prop := fnExactConstantsRow.holds Try.pinned (OpenSpec.ofChange fnExactConstantsWrong)

/-- 'laws.FnExactTxnLimit': WHATEVER THE INPUT: true; the input reads as it did. -/
def fnExactTxnLimitSpec : ChangeSpec := { name := "fnExactTxnLimit", fn := fun _ => fun
  | [d] => { results := [.lit (.bool true)], args := [d] }
  | _ => none }
def fnExactTxnLimitRow : OpenClaim := { program := "ytdkjidnagkcenaa", sum := "6ce9153e72a3a5e2ed513687e0405160c73bf00f9e5b6b8afbe1b8d9d725ec58", func := "loop.example/s01525/laws.FnExactTxnLimit", spec := "fnExactTxnLimit", apart := false }
def FnExactTxnLimitSaid : Prop := fnExactTxnLimitRow.holds Try.pinned (OpenSpec.ofChange fnExactTxnLimitSpec)

/-- ITS FALSE NEIGHBOUR: 'it returns false'. Refute it at one input. -/
def fnExactTxnLimitWrong : ChangeSpec := { name := "fnExactTxnLimit", fn := fun _ => fun
  | [d] => { results := [.lit (.bool false)], args := [d] }
  | _ => none }
def FnExactTxnLimitWrongFalsely : Prop := fnExactTxnLimitRow.holds Try.pinned (OpenSpec.ofChange fnExactTxnLimitWrong)

/-- 'laws.FnExactValidLog': WHATEVER THE INPUT: true; the input reads as it did. -/
def fnExactValidLogSpec : ChangeSpec := { name := "fnExactValidLog", fn := fun _ => fun
  | [d] => { results := [.lit (.bool true)], args := [d] }
  | _ => none }
def fnExactValidLogRow : OpenClaim := { program := "ytdkjidnagkcenaa", sum := "6ce9153e72a3a5e2ed513687e0405160c73bf00f9e5b6b8afbe1b8d9d725ec58", func := "loop.example/s01525/laws.FnExactValidLog", spec := "fnExactValidLog", apart := false }
def FnExactValidLogSaid : Prop := fnExactValidLogRow.holds Try.pinned (OpenSpec.ofChange fnExactValidLogSpec)

/-- ITS FALSE NEIGHBOUR: 'it returns false'. Refute it at one input. -/
def fnExactValidLogWrong : ChangeSpec := { name := "fnExactValidLog", fn := fun _ => fun
  | [d] => { results := [.lit (.bool false)], args := [d] }
  | _ => none }
def FnExactValidLogWrongFalsely : Prop := fnExactValidLogRow.holds Try.pinned (OpenSpec.ofChange fnExactValidLogWrong)

/-- 'laws.FnExactValidName': WHATEVER THE INPUT: true; the input reads as it did. -/
def fnExactValidNameSpec : ChangeSpec := { name := "fnExactValidName", fn := fun _ => fun
  | [d] => { results := [.lit (.bool true)], args := [d] }
  | _ => none }
def fnExactValidNameRow : OpenClaim := { program := "ytdkjidnagkcenaa", sum := "6ce9153e72a3a5e2ed513687e0405160c73bf00f9e5b6b8afbe1b8d9d725ec58", func := "loop.example/s01525/laws.FnExactValidName", spec := "fnExactValidName", apart := false }
def FnExactValidNameSaid : Prop := fnExactValidNameRow.holds Try.pinned (OpenSpec.ofChange fnExactValidNameSpec)

/-- ITS FALSE NEIGHBOUR: 'it returns false'. Refute it at one input. -/
def fnExactValidNameWrong : ChangeSpec := { name := "fnExactValidName", fn := fun _ => fun
  | [d] => { results := [.lit (.bool false)], args := [d] }
  | _ => none }
def FnExactValidNameWrongFalsely : Prop := fnExactValidNameRow.holds Try.pinned (OpenSpec.ofChange fnExactValidNameWrong)

/-- 'laws.FnExactBitGet': WHATEVER THE INPUT: true; the input reads as it did. -/
def fnExactBitGetSpec : ChangeSpec := { name := "fnExactBitGet", fn := fun _ => fun
  | [d1, d2] => { results := [.lit (.bool true)], args := [d1, d2] }
  | _ => none }
def fnExactBitGetRow : OpenClaim := { program := "ytdkjidnagkcenaa", sum := "6ce9153e72a3a5e2ed513687e0405160c73bf00f9e5b6b8afbe1b8d9d725ec58", func := "loop.example/s01525/laws.FnExactBitGet", spec := "fnExactBitGet", apart := false }
def FnExactBitGetSaid : Prop := fnExactBitGetRow.holds Try.pinned (OpenSpec.ofChange fnExactBitGetSpec)

/-- ITS FALSE NEIGHBOUR: 'it returns false'. Refute it at one input. -/
def fnExactBitGetWrong : ChangeSpec := { name := "fnExactBitGet", fn := fun _ => fun
  | [d1, d2] => { results := [.lit (.bool false)], args := [d1, d2] }
  | _ => none }
def FnExactBitGetWrongFalsely : Prop := fnExactBitGetRow.holds Try.pinned (OpenSpec.ofChange fnExactBitGetWrong)

/-- 'laws.FnExactGetNumber': WHATEVER THE INPUT: true; the input reads as it did. -/
def fnExactGetNumberSpec : ChangeSpec := { name := "fnExactGetNumber", fn := fun _ => fun
  | [d] => { results := [.lit (.bool true)], args := [d] }
  | _ => none }
def fnExactGetNumberRow : OpenClaim := { program := "ytdkjidnagkcenaa", sum := "6ce9153e72a3a5e2ed513687e0405160c73bf00f9e5b6b8afbe1b8d9d725ec58", func := "loop.example/s01525/laws.FnExactGetNumber", spec := "fnExactGetNumber", apart := false }
def FnExactGetNumberSaid : Prop := fnExactGetNumberRow.holds Try.pinned (OpenSpec.ofChange fnExactGetNumberSpec)

/-- ITS FALSE NEIGHBOUR: 'it returns false'. Refute it at one input. -/
def fnExactGetNumberWrong : ChangeSpec := { name := "fnExactGetNumber", fn := fun _ => fun
  | [d] => { results := [.lit (.bool false)], args := [d] }
  | _ => none }
def FnExactGetNumberWrongFalsely : Prop := fnExactGetNumberRow.holds Try.pinned (OpenSpec.ofChange fnExactGetNumberWrong)

/-- 'laws.FnExactBlockKind': WHATEVER THE INPUT: true; the input reads as it did. -/
def fnExactBlockKindSpec : ChangeSpec := { name := "fnExactBlockKind", fn := fun _ => fun
  | [d] => { results := [.lit (.bool true)], args := [d] }
  | _ => none }
def fnExactBlockKindRow : OpenClaim := { program := "ytdkjidnagkcenaa", sum := "6ce9153e72a3a5e2ed513687e0405160c73bf00f9e5b6b8afbe1b8d9d725ec58", func := "loop.example/s01525/laws.FnExactBlockKind", spec := "fnExactBlockKind", apart := false }
def FnExactBlockKindSaid : Prop := fnExactBlockKindRow.holds Try.pinned (OpenSpec.ofChange fnExactBlockKindSpec)

/-- ITS FALSE NEIGHBOUR: 'it returns false'. Refute it at one input. -/
def fnExactBlockKindWrong : ChangeSpec := { name := "fnExactBlockKind", fn := fun _ => fun
  | [d] => { results := [.lit (.bool false)], args := [d] }
  | _ => none }
def FnExactBlockKindWrongFalsely : Prop := fnExactBlockKindRow.holds Try.pinned (OpenSpec.ofChange fnExactBlockKindWrong)

/-- 'laws.FnExactValidGeometry': WHATEVER THE INPUT: true; the input reads as it did. -/
def fnExactValidGeometrySpec : ChangeSpec := { name := "fnExactValidGeometry", fn := fun _ => fun
  | [d] => { results := [.lit (.bool true)], args := [d] }
  | _ => none }
def fnExactValidGeometryRow : OpenClaim := { program := "ytdkjidnagkcenaa", sum := "6ce9153e72a3a5e2ed513687e0405160c73bf00f9e5b6b8afbe1b8d9d725ec58", func := "loop.example/s01525/laws.FnExactValidGeometry", spec := "fnExactValidGeometry", apart := false }
def FnExactValidGeometrySaid : Prop := fnExactValidGeometryRow.holds Try.pinned (OpenSpec.ofChange fnExactValidGeometrySpec)

/-- ITS FALSE NEIGHBOUR: 'it returns false'. Refute it at one input. -/
def fnExactValidGeometryWrong : ChangeSpec := { name := "fnExactValidGeometry", fn := fun _ => fun
  | [d] => { results := [.lit (.bool false)], args := [d] }
  | _ => none }
def FnExactValidGeometryWrongFalsely : Prop := fnExactValidGeometryRow.holds Try.pinned (OpenSpec.ofChange fnExactValidGeometryWrong)

/-- 'laws.FnExactFileNeed': WHATEVER THE INPUT: true; the input reads as it did. -/
def fnExactFileNeedSpec : ChangeSpec := { name := "fnExactFileNeed", fn := fun _ => fun
  | [d] => { results := [.lit (.bool true)], args := [d] }
  | _ => none }
def fnExactFileNeedRow : OpenClaim := { program := "ytdkjidnagkcenaa", sum := "6ce9153e72a3a5e2ed513687e0405160c73bf00f9e5b6b8afbe1b8d9d725ec58", func := "loop.example/s01525/laws.FnExactFileNeed", spec := "fnExactFileNeed", apart := false }
def FnExactFileNeedSaid : Prop := fnExactFileNeedRow.holds Try.pinned (OpenSpec.ofChange fnExactFileNeedSpec)

/-- ITS FALSE NEIGHBOUR: 'it returns false'. Refute it at one input. -/
def fnExactFileNeedWrong : ChangeSpec := { name := "fnExactFileNeed", fn := fun _ => fun
  | [d] => { results := [.lit (.bool false)], args := [d] }
  | _ => none }
def FnExactFileNeedWrongFalsely : Prop := fnExactFileNeedRow.holds Try.pinned (OpenSpec.ofChange fnExactFileNeedWrong)

/-- 'laws.FnExactBitFirst': WHATEVER THE INPUT: true; the input reads as it did. -/
def fnExactBitFirstSpec : ChangeSpec := { name := "fnExactBitFirst", fn := fun _ => fun
  | [d1, d2, d3] => { results := [.lit (.bool true)], args := [d1, d2, d3] }
  | _ => none }
def fnExactBitFirstRow : OpenClaim := { program := "ytdkjidnagkcenaa", sum := "6ce9153e72a3a5e2ed513687e0405160c73bf00f9e5b6b8afbe1b8d9d725ec58", func := "loop.example/s01525/laws.FnExactBitFirst", spec := "fnExactBitFirst", apart := false }
def FnExactBitFirstSaid : Prop := fnExactBitFirstRow.holds Try.pinned (OpenSpec.ofChange fnExactBitFirstSpec)

/-- ITS FALSE NEIGHBOUR: 'it returns false'. Refute it at one input. -/
def fnExactBitFirstWrong : ChangeSpec := { name := "fnExactBitFirst", fn := fun _ => fun
  | [d1, d2, d3] => { results := [.lit (.bool false)], args := [d1, d2, d3] }
  | _ => none }
def FnExactBitFirstWrongFalsely : Prop := fnExactBitFirstRow.holds Try.pinned (OpenSpec.ofChange fnExactBitFirstWrong)

/-- 'laws.FnExactBitCount': WHATEVER THE INPUT: true; the input reads as it did. -/
def fnExactBitCountSpec : ChangeSpec := { name := "fnExactBitCount", fn := fun _ => fun
  | [d1, d2, d3] => { results := [.lit (.bool true)], args := [d1, d2, d3] }
  | _ => none }
def fnExactBitCountRow : OpenClaim := { program := "ytdkjidnagkcenaa", sum := "6ce9153e72a3a5e2ed513687e0405160c73bf00f9e5b6b8afbe1b8d9d725ec58", func := "loop.example/s01525/laws.FnExactBitCount", spec := "fnExactBitCount", apart := false }
def FnExactBitCountSaid : Prop := fnExactBitCountRow.holds Try.pinned (OpenSpec.ofChange fnExactBitCountSpec)

/-- ITS FALSE NEIGHBOUR: 'it returns false'. Refute it at one input. -/
def fnExactBitCountWrong : ChangeSpec := { name := "fnExactBitCount", fn := fun _ => fun
  | [d1, d2, d3] => { results := [.lit (.bool false)], args := [d1, d2, d3] }
  | _ => none }
def FnExactBitCountWrongFalsely : Prop := fnExactBitCountRow.holds Try.pinned (OpenSpec.ofChange fnExactBitCountWrong)

/-- 'laws.FnExactLogTail': WHATEVER THE INPUT: true; the input reads as it did. -/
def fnExactLogTailSpec : ChangeSpec := { name := "fnExactLogTail", fn := fun _ => fun
  | [d] => { results := [.lit (.bool true)], args := [d] }
  | _ => none }
def fnExactLogTailRow : OpenClaim := { program := "ytdkjidnagkcenaa", sum := "6ce9153e72a3a5e2ed513687e0405160c73bf00f9e5b6b8afbe1b8d9d725ec58", func := "loop.example/s01525/laws.FnExactLogTail", spec := "fnExactLogTail", apart := false }
def FnExactLogTailSaid : Prop := fnExactLogTailRow.holds Try.pinned (OpenSpec.ofChange fnExactLogTailSpec)

/-- ITS FALSE NEIGHBOUR: 'it returns false'. Refute it at one input. -/
def fnExactLogTailWrong : ChangeSpec := { name := "fnExactLogTail", fn := fun _ => fun
  | [d] => { results := [.lit (.bool false)], args := [d] }
  | _ => none }
def FnExactLogTailWrongFalsely : Prop := fnExactLogTailRow.holds Try.pinned (OpenSpec.ofChange fnExactLogTailWrong)

/- THE SECOND FORM. 'bulk': how many values and letters a reading holds, each counted each time it is reached (what is shared counts as often as it is met; a slice's spare places count too). A statement '..UptoSaid' is the law's where the arguments, and the package variables that the reading takes, are together of bulk at most 1048576: NARROWER than '..Said'. Prove '..Said' where nothing that the law and all that it calls make is longer than what came in: it says more and counts as full. Else prove '..UptoSaid'. A law counts once. -/
mutual
def uptoBulk {H : Type} : DataW H → Nat
  | .lit (.string bytes) => bytes.length + 1
  | .lit _ => 1
  | .nil => 1
  | .ptr d => uptoBulk d + 1
  | .slice elems spare => uptoBulkAll elems + uptoBulkAll spare + 1
  | .agg parts => uptoBulkAll parts + 1
  | .iface _ d => uptoBulk d + 1
  | .map entries => uptoBulkEntries entries + 1
  | .held _ => 1
def uptoBulkAll {H : Type} : List (DataW H) → Nat
  | [] => 0
  | d :: r => uptoBulk d + uptoBulkAll r
def uptoBulkEntries {H : Type} : List (Lit × DataW H) → Nat
  | [] => 0
  | x :: r => uptoBulkEntry x + uptoBulkEntries r
def uptoBulkEntry {H : Type} : Lit × DataW H → Nat
  | (.string bytes, d) => bytes.length + uptoBulk d + 1
  | (_, d) => uptoBulk d + 1
 end
def uptoSmall : (H : Type) → List (DataW H) → Bool := fun _ ds => decide (uptoBulkAll ds ≤ 1048576)
def OpenSpec.upto (s : _root_.Go.ChangeSpec) : _root_.Go.OpenSpec := { _root_.Go.OpenSpec.ofChange s with cond := some uptoSmall }

/-- 'laws.FnExactConstants', WHERE WHAT IT READS IS OF BULK AT MOST 1048576: true; the input reads as it did. -/
def fnExactConstantsUptoRow : OpenClaim := { program := "ytdkjidnagkcenaa", sum := "6ce9153e72a3a5e2ed513687e0405160c73bf00f9e5b6b8afbe1b8d9d725ec58", func := "loop.example/s01525/laws.FnExactConstants", spec := "fnExactConstants", apart := false, narrowed := true }
def FnExactConstantsUptoSaid : Prop := fnExactConstantsUptoRow.holds Try.pinned (OpenSpec.upto fnExactConstantsSpec)

/-- 'laws.FnExactTxnLimit', WHERE WHAT IT READS IS OF BULK AT MOST 1048576: true; the input reads as it did. -/
def fnExactTxnLimitUptoRow : OpenClaim := { program := "ytdkjidnagkcenaa", sum := "6ce9153e72a3a5e2ed513687e0405160c73bf00f9e5b6b8afbe1b8d9d725ec58", func := "loop.example/s01525/laws.FnExactTxnLimit", spec := "fnExactTxnLimit", apart := false, narrowed := true }
def FnExactTxnLimitUptoSaid : Prop := fnExactTxnLimitUptoRow.holds Try.pinned (OpenSpec.upto fnExactTxnLimitSpec)

/-- 'laws.FnExactValidLog', WHERE WHAT IT READS IS OF BULK AT MOST 1048576: true; the input reads as it did. -/
def fnExactValidLogUptoRow : OpenClaim := { program := "ytdkjidnagkcenaa", sum := "6ce9153e72a3a5e2ed513687e0405160c73bf00f9e5b6b8afbe1b8d9d725ec58", func := "loop.example/s01525/laws.FnExactValidLog", spec := "fnExactValidLog", apart := false, narrowed := true }
def FnExactValidLogUptoSaid : Prop := fnExactValidLogUptoRow.holds Try.pinned (OpenSpec.upto fnExactValidLogSpec)

/-- 'laws.FnExactValidName', WHERE WHAT IT READS IS OF BULK AT MOST 1048576: true; the input reads as it did. -/
def fnExactValidNameUptoRow : OpenClaim := { program := "ytdkjidnagkcenaa", sum := "6ce9153e72a3a5e2ed513687e0405160c73bf00f9e5b6b8afbe1b8d9d725ec58", func := "loop.example/s01525/laws.FnExactValidName", spec := "fnExactValidName", apart := false, narrowed := true }
def FnExactValidNameUptoSaid : Prop := fnExactValidNameUptoRow.holds Try.pinned (OpenSpec.upto fnExactValidNameSpec)

/-- 'laws.FnExactBitGet', WHERE WHAT IT READS IS OF BULK AT MOST 1048576: true; the input reads as it did. -/
def fnExactBitGetUptoRow : OpenClaim := { program := "ytdkjidnagkcenaa", sum := "6ce9153e72a3a5e2ed513687e0405160c73bf00f9e5b6b8afbe1b8d9d725ec58", func := "loop.example/s01525/laws.FnExactBitGet", spec := "fnExactBitGet", apart := false, narrowed := true }
def FnExactBitGetUptoSaid : Prop := fnExactBitGetUptoRow.holds Try.pinned (OpenSpec.upto fnExactBitGetSpec)

/-- 'laws.FnExactGetNumber', WHERE WHAT IT READS IS OF BULK AT MOST 1048576: true; the input reads as it did. -/
def fnExactGetNumberUptoRow : OpenClaim := { program := "ytdkjidnagkcenaa", sum := "6ce9153e72a3a5e2ed513687e0405160c73bf00f9e5b6b8afbe1b8d9d725ec58", func := "loop.example/s01525/laws.FnExactGetNumber", spec := "fnExactGetNumber", apart := false, narrowed := true }
def FnExactGetNumberUptoSaid : Prop := fnExactGetNumberUptoRow.holds Try.pinned (OpenSpec.upto fnExactGetNumberSpec)

/-- 'laws.FnExactBlockKind', WHERE WHAT IT READS IS OF BULK AT MOST 1048576: true; the input reads as it did. -/
def fnExactBlockKindUptoRow : OpenClaim := { program := "ytdkjidnagkcenaa", sum := "6ce9153e72a3a5e2ed513687e0405160c73bf00f9e5b6b8afbe1b8d9d725ec58", func := "loop.example/s01525/laws.FnExactBlockKind", spec := "fnExactBlockKind", apart := false, narrowed := true }
def FnExactBlockKindUptoSaid : Prop := fnExactBlockKindUptoRow.holds Try.pinned (OpenSpec.upto fnExactBlockKindSpec)

/-- 'laws.FnExactValidGeometry', WHERE WHAT IT READS IS OF BULK AT MOST 1048576: true; the input reads as it did. -/
def fnExactValidGeometryUptoRow : OpenClaim := { program := "ytdkjidnagkcenaa", sum := "6ce9153e72a3a5e2ed513687e0405160c73bf00f9e5b6b8afbe1b8d9d725ec58", func := "loop.example/s01525/laws.FnExactValidGeometry", spec := "fnExactValidGeometry", apart := false, narrowed := true }
def FnExactValidGeometryUptoSaid : Prop := fnExactValidGeometryUptoRow.holds Try.pinned (OpenSpec.upto fnExactValidGeometrySpec)

/-- 'laws.FnExactFileNeed', WHERE WHAT IT READS IS OF BULK AT MOST 1048576: true; the input reads as it did. -/
def fnExactFileNeedUptoRow : OpenClaim := { program := "ytdkjidnagkcenaa", sum := "6ce9153e72a3a5e2ed513687e0405160c73bf00f9e5b6b8afbe1b8d9d725ec58", func := "loop.example/s01525/laws.FnExactFileNeed", spec := "fnExactFileNeed", apart := false, narrowed := true }
def FnExactFileNeedUptoSaid : Prop := fnExactFileNeedUptoRow.holds Try.pinned (OpenSpec.upto fnExactFileNeedSpec)

/-- 'laws.FnExactBitFirst', WHERE WHAT IT READS IS OF BULK AT MOST 1048576: true; the input reads as it did. -/
def fnExactBitFirstUptoRow : OpenClaim := { program := "ytdkjidnagkcenaa", sum := "6ce9153e72a3a5e2ed513687e0405160c73bf00f9e5b6b8afbe1b8d9d725ec58", func := "loop.example/s01525/laws.FnExactBitFirst", spec := "fnExactBitFirst", apart := false, narrowed := true }
def FnExactBitFirstUptoSaid : Prop := fnExactBitFirstUptoRow.holds Try.pinned (OpenSpec.upto fnExactBitFirstSpec)

/-- 'laws.FnExactBitCount', WHERE WHAT IT READS IS OF BULK AT MOST 1048576: true; the input reads as it did. -/
def fnExactBitCountUptoRow : OpenClaim := { program := "ytdkjidnagkcenaa", sum := "6ce9153e72a3a5e2ed513687e0405160c73bf00f9e5b6b8afbe1b8d9d725ec58", func := "loop.example/s01525/laws.FnExactBitCount", spec := "fnExactBitCount", apart := false, narrowed := true }
def FnExactBitCountUptoSaid : Prop := fnExactBitCountUptoRow.holds Try.pinned (OpenSpec.upto fnExactBitCountSpec)

/-- 'laws.FnExactLogTail', WHERE WHAT IT READS IS OF BULK AT MOST 1048576: true; the input reads as it did. -/
def fnExactLogTailUptoRow : OpenClaim := { program := "ytdkjidnagkcenaa", sum := "6ce9153e72a3a5e2ed513687e0405160c73bf00f9e5b6b8afbe1b8d9d725ec58", func := "loop.example/s01525/laws.FnExactLogTail", spec := "fnExactLogTail", apart := false, narrowed := true }
def FnExactLogTailUptoSaid : Prop := fnExactLogTailUptoRow.holds Try.pinned (OpenSpec.upto fnExactLogTailSpec)

end Rows
end Go.Proofs.Ytdkjidnagkcenaa
