/-
  No cell of these rows narrows 'for every input' (looked for: loops, veiled, ifaces, maps, wideKeys, modest, calm, conditions, laid).
  DERIVED. THE GIVEN ROWS OF THIS SEAT. 12 by the template 'for every input the law returns true; each argument reads behind the call as it read before'; 0 by the template 'total and deterministic' (their statements: YtdhjhadcadcceaaTotals.lean).
  GIVEN WITH THE SEED: the statements are not yours to turn. If you find one false, say at which input.
  Laid BY PROGRAM, IN A SANDBOX (cutbox-rows.mjs): the forced cells as the released guide's own fill.sh prints them over the translation 221e76bca5761e84… (all of the seat's roots in one cut). By AI agents, Wed Nov 11 2026. No macro, syntax, notation, axiom, sorry.
-/
import Derived.Test.YtdhjhadcadcceaaChecked
import GoSem.Claim
import GoSem.ClaimJoined
import GoSem.ClaimMapViews
import Derived.JoinedTies
import Derived.KernelRfl
namespace Go.Proofs.Ytdhjhadcadcceaa
/- THE CELL 'sum', in the pinned program and in every row, IS THE sha256 OF THE DUMP (.gsa) THAT YtdhjhadcadcceaaProg.lean LOADS. Nothing in Lean hashes anything: it is a label: what it is worth is what the hold of that sum in a sandbox is worth. -/
noncomputable def Try.pinned : Pinned := { name := "ytdhjhadcadcceaa", sum := "221e76bca5761e84c14321f13c3089a540eb86dbf8e672b524c5a835586d951c", checked := Try.checked }
namespace Rows
def none {H : Type} : Left H := { results := [], args := [] }

/-- 'laws.FnExactPutNumber': WHATEVER THE INPUT: true; the input reads as it did. -/
def fnExactPutNumberSpec : ChangeSpec := { name := "fnExactPutNumber", fn := fun _ => fun
  | [d1, d2] => { results := [.lit (.bool true)], args := [d1, d2] }
  | _ => none }
def fnExactPutNumberRow : OpenClaim := { program := "ytdhjhadcadcceaa", sum := "221e76bca5761e84c14321f13c3089a540eb86dbf8e672b524c5a835586d951c", func := "loop.example/s01525/laws.FnExactPutNumber", spec := "fnExactPutNumber", apart := false }
def FnExactPutNumberSaid : Prop := fnExactPutNumberRow.holds Try.pinned (OpenSpec.ofChange fnExactPutNumberSpec)

/-- ITS FALSE NEIGHBOUR: 'it returns false'. Refute it at one input. -/
def fnExactPutNumberWrong : ChangeSpec := { name := "fnExactPutNumber", fn := fun _ => fun
  | [d1, d2] => { results := [.lit (.bool false)], args := [d1, d2] }
  | _ => none }
def FnExactPutNumberWrongFalsely : Prop := fnExactPutNumberRow.holds Try.pinned (OpenSpec.ofChange fnExactPutNumberWrong)

/-- 'laws.FnExactNewDisk': WHATEVER THE INPUT: true; the input reads as it did. -/
def fnExactNewDiskSpec : ChangeSpec := { name := "fnExactNewDisk", fn := fun _ => fun
  | [d] => { results := [.lit (.bool true)], args := [d] }
  | _ => none }
def fnExactNewDiskRow : OpenClaim := { program := "ytdhjhadcadcceaa", sum := "221e76bca5761e84c14321f13c3089a540eb86dbf8e672b524c5a835586d951c", func := "loop.example/s01525/laws.FnExactNewDisk", spec := "fnExactNewDisk", apart := false }
def FnExactNewDiskSaid : Prop := fnExactNewDiskRow.holds Try.pinned (OpenSpec.ofChange fnExactNewDiskSpec)

/-- ITS FALSE NEIGHBOUR: 'it returns false'. Refute it at one input. -/
def fnExactNewDiskWrong : ChangeSpec := { name := "fnExactNewDisk", fn := fun _ => fun
  | [d] => { results := [.lit (.bool false)], args := [d] }
  | _ => none }
def FnExactNewDiskWrongFalsely : Prop := fnExactNewDiskRow.holds Try.pinned (OpenSpec.ofChange fnExactNewDiskWrong)

/-- 'laws.FnExactValidDisk': WHATEVER THE INPUT: true; the input reads as it did. -/
def fnExactValidDiskSpec : ChangeSpec := { name := "fnExactValidDisk", fn := fun _ => fun
  | [d] => { results := [.lit (.bool true)], args := [d] }
  | _ => none }
def fnExactValidDiskRow : OpenClaim := { program := "ytdhjhadcadcceaa", sum := "221e76bca5761e84c14321f13c3089a540eb86dbf8e672b524c5a835586d951c", func := "loop.example/s01525/laws.FnExactValidDisk", spec := "fnExactValidDisk", apart := false }
def FnExactValidDiskSaid : Prop := fnExactValidDiskRow.holds Try.pinned (OpenSpec.ofChange fnExactValidDiskSpec)

/-- ITS FALSE NEIGHBOUR: 'it returns false'. Refute it at one input. -/
def fnExactValidDiskWrong : ChangeSpec := { name := "fnExactValidDisk", fn := fun _ => fun
  | [d] => { results := [.lit (.bool false)], args := [d] }
  | _ => none }
def FnExactValidDiskWrongFalsely : Prop := fnExactValidDiskRow.holds Try.pinned (OpenSpec.ofChange fnExactValidDiskWrong)

/-- 'laws.FnExactDiskRead': WHATEVER THE INPUT: true; the input reads as it did. -/
def fnExactDiskReadSpec : ChangeSpec := { name := "fnExactDiskRead", fn := fun _ => fun
  | [d1, d2] => { results := [.lit (.bool true)], args := [d1, d2] }
  | _ => none }
def fnExactDiskReadRow : OpenClaim := { program := "ytdhjhadcadcceaa", sum := "221e76bca5761e84c14321f13c3089a540eb86dbf8e672b524c5a835586d951c", func := "loop.example/s01525/laws.FnExactDiskRead", spec := "fnExactDiskRead", apart := false }
def FnExactDiskReadSaid : Prop := fnExactDiskReadRow.holds Try.pinned (OpenSpec.ofChange fnExactDiskReadSpec)

/-- ITS FALSE NEIGHBOUR: 'it returns false'. Refute it at one input. -/
def fnExactDiskReadWrong : ChangeSpec := { name := "fnExactDiskRead", fn := fun _ => fun
  | [d1, d2] => { results := [.lit (.bool false)], args := [d1, d2] }
  | _ => none }
def FnExactDiskReadWrongFalsely : Prop := fnExactDiskReadRow.holds Try.pinned (OpenSpec.ofChange fnExactDiskReadWrong)

/-- 'laws.FnExactDiskImage': WHATEVER THE INPUT: true; the input reads as it did. -/
def fnExactDiskImageSpec : ChangeSpec := { name := "fnExactDiskImage", fn := fun _ => fun
  | [d] => { results := [.lit (.bool true)], args := [d] }
  | _ => none }
def fnExactDiskImageRow : OpenClaim := { program := "ytdhjhadcadcceaa", sum := "221e76bca5761e84c14321f13c3089a540eb86dbf8e672b524c5a835586d951c", func := "loop.example/s01525/laws.FnExactDiskImage", spec := "fnExactDiskImage", apart := false }
def FnExactDiskImageSaid : Prop := fnExactDiskImageRow.holds Try.pinned (OpenSpec.ofChange fnExactDiskImageSpec)

/-- ITS FALSE NEIGHBOUR: 'it returns false'. Refute it at one input. -/
def fnExactDiskImageWrong : ChangeSpec := { name := "fnExactDiskImage", fn := fun _ => fun
  | [d] => { results := [.lit (.bool false)], args := [d] }
  | _ => none }
def FnExactDiskImageWrongFalsely : Prop := fnExactDiskImageRow.holds Try.pinned (OpenSpec.ofChange fnExactDiskImageWrong)

/-- 'laws.FnExactDiskFlush': WHATEVER THE INPUT: true; the input reads as it did. -/
def fnExactDiskFlushSpec : ChangeSpec := { name := "fnExactDiskFlush", fn := fun _ => fun
  | [d] => { results := [.lit (.bool true)], args := [d] }
  | _ => none }
def fnExactDiskFlushRow : OpenClaim := { program := "ytdhjhadcadcceaa", sum := "221e76bca5761e84c14321f13c3089a540eb86dbf8e672b524c5a835586d951c", func := "loop.example/s01525/laws.FnExactDiskFlush", spec := "fnExactDiskFlush", apart := false }
def FnExactDiskFlushSaid : Prop := fnExactDiskFlushRow.holds Try.pinned (OpenSpec.ofChange fnExactDiskFlushSpec)

/-- ITS FALSE NEIGHBOUR: 'it returns false'. Refute it at one input. -/
def fnExactDiskFlushWrong : ChangeSpec := { name := "fnExactDiskFlush", fn := fun _ => fun
  | [d] => { results := [.lit (.bool false)], args := [d] }
  | _ => none }
def FnExactDiskFlushWrongFalsely : Prop := fnExactDiskFlushRow.holds Try.pinned (OpenSpec.ofChange fnExactDiskFlushWrong)

/-- 'laws.FnExactDiskWrite': WHATEVER THE INPUT: true; the input reads as it did. -/
def fnExactDiskWriteSpec : ChangeSpec := { name := "fnExactDiskWrite", fn := fun _ => fun
  | [d1, d2, d3] => { results := [.lit (.bool true)], args := [d1, d2, d3] }
  | _ => none }
def fnExactDiskWriteRow : OpenClaim := { program := "ytdhjhadcadcceaa", sum := "221e76bca5761e84c14321f13c3089a540eb86dbf8e672b524c5a835586d951c", func := "loop.example/s01525/laws.FnExactDiskWrite", spec := "fnExactDiskWrite", apart := false }
def FnExactDiskWriteSaid : Prop := fnExactDiskWriteRow.holds Try.pinned (OpenSpec.ofChange fnExactDiskWriteSpec)

/-- ITS FALSE NEIGHBOUR: 'it returns false'. Refute it at one input. -/
def fnExactDiskWriteWrong : ChangeSpec := { name := "fnExactDiskWrite", fn := fun _ => fun
  | [d1, d2, d3] => { results := [.lit (.bool false)], args := [d1, d2, d3] }
  | _ => none }
def FnExactDiskWriteWrongFalsely : Prop := fnExactDiskWriteRow.holds Try.pinned (OpenSpec.ofChange fnExactDiskWriteWrong)

/-- 'laws.FnExactDiskCrash': WHATEVER THE INPUT: true; the input reads as it did. -/
def fnExactDiskCrashSpec : ChangeSpec := { name := "fnExactDiskCrash", fn := fun _ => fun
  | [d1, d2] => { results := [.lit (.bool true)], args := [d1, d2] }
  | _ => none }
def fnExactDiskCrashRow : OpenClaim := { program := "ytdhjhadcadcceaa", sum := "221e76bca5761e84c14321f13c3089a540eb86dbf8e672b524c5a835586d951c", func := "loop.example/s01525/laws.FnExactDiskCrash", spec := "fnExactDiskCrash", apart := false }
def FnExactDiskCrashSaid : Prop := fnExactDiskCrashRow.holds Try.pinned (OpenSpec.ofChange fnExactDiskCrashSpec)

/-- ITS FALSE NEIGHBOUR: 'it returns false'. Refute it at one input. -/
def fnExactDiskCrashWrong : ChangeSpec := { name := "fnExactDiskCrash", fn := fun _ => fun
  | [d1, d2] => { results := [.lit (.bool false)], args := [d1, d2] }
  | _ => none }
def FnExactDiskCrashWrongFalsely : Prop := fnExactDiskCrashRow.holds Try.pinned (OpenSpec.ofChange fnExactDiskCrashWrong)

/-- 'laws.FnDisk': WHATEVER THE INPUT: true; the input reads as it did. -/
def fnDiskSpec : ChangeSpec := { name := "fnDisk", fn := fun _ => fun
  | [d1, d2] => { results := [.lit (.bool true)], args := [d1, d2] }
  | _ => none }
def fnDiskRow : OpenClaim := { program := "ytdhjhadcadcceaa", sum := "221e76bca5761e84c14321f13c3089a540eb86dbf8e672b524c5a835586d951c", func := "loop.example/s01525/laws.FnDisk", spec := "fnDisk", apart := false }
def FnDiskSaid : Prop := fnDiskRow.holds Try.pinned (OpenSpec.ofChange fnDiskSpec)

/-- ITS FALSE NEIGHBOUR: 'it returns false'. Refute it at one input. -/
def fnDiskWrong : ChangeSpec := { name := "fnDisk", fn := fun _ => fun
  | [d1, d2] => { results := [.lit (.bool false)], args := [d1, d2] }
  | _ => none }
def FnDiskWrongFalsely : Prop := fnDiskRow.holds Try.pinned (OpenSpec.ofChange fnDiskWrong)

/-- 'laws.FnExactDiskDo': WHATEVER THE INPUT: true; the input reads as it did. -/
def fnExactDiskDoSpec : ChangeSpec := { name := "fnExactDiskDo", fn := fun _ => fun
  | [d1, d2, d3] => { results := [.lit (.bool true)], args := [d1, d2, d3] }
  | _ => none }
def fnExactDiskDoRow : OpenClaim := { program := "ytdhjhadcadcceaa", sum := "221e76bca5761e84c14321f13c3089a540eb86dbf8e672b524c5a835586d951c", func := "loop.example/s01525/laws.FnExactDiskDo", spec := "fnExactDiskDo", apart := false }
def FnExactDiskDoSaid : Prop := fnExactDiskDoRow.holds Try.pinned (OpenSpec.ofChange fnExactDiskDoSpec)

/-- ITS FALSE NEIGHBOUR: 'it returns false'. Refute it at one input. -/
def fnExactDiskDoWrong : ChangeSpec := { name := "fnExactDiskDo", fn := fun _ => fun
  | [d1, d2, d3] => { results := [.lit (.bool false)], args := [d1, d2, d3] }
  | _ => none }
def FnExactDiskDoWrongFalsely : Prop := fnExactDiskDoRow.holds Try.pinned (OpenSpec.ofChange fnExactDiskDoWrong)

/-- 'laws.FnExactDirFind': WHATEVER THE INPUT: true; the input reads as it did. -/
def fnExactDirFindSpec : ChangeSpec := { name := "fnExactDirFind", fn := fun _ => fun
  | [d1, d2] => { results := [.lit (.bool true)], args := [d1, d2] }
  | _ => none }
def fnExactDirFindRow : OpenClaim := { program := "ytdhjhadcadcceaa", sum := "221e76bca5761e84c14321f13c3089a540eb86dbf8e672b524c5a835586d951c", func := "loop.example/s01525/laws.FnExactDirFind", spec := "fnExactDirFind", apart := false }
def FnExactDirFindSaid : Prop := fnExactDirFindRow.holds Try.pinned (OpenSpec.ofChange fnExactDirFindSpec)

/-- ITS FALSE NEIGHBOUR: 'it returns false'. Refute it at one input. -/
def fnExactDirFindWrong : ChangeSpec := { name := "fnExactDirFind", fn := fun _ => fun
  | [d1, d2] => { results := [.lit (.bool false)], args := [d1, d2] }
  | _ => none }
def FnExactDirFindWrongFalsely : Prop := fnExactDirFindRow.holds Try.pinned (OpenSpec.ofChange fnExactDirFindWrong)

/-- 'laws.FnExactDirRemove': WHATEVER THE INPUT: true; the input reads as it did. -/
def fnExactDirRemoveSpec : ChangeSpec := { name := "fnExactDirRemove", fn := fun _ => fun
  | [d1, d2] => { results := [.lit (.bool true)], args := [d1, d2] }
  | _ => none }
def fnExactDirRemoveRow : OpenClaim := { program := "ytdhjhadcadcceaa", sum := "221e76bca5761e84c14321f13c3089a540eb86dbf8e672b524c5a835586d951c", func := "loop.example/s01525/laws.FnExactDirRemove", spec := "fnExactDirRemove", apart := false }
def FnExactDirRemoveSaid : Prop := fnExactDirRemoveRow.holds Try.pinned (OpenSpec.ofChange fnExactDirRemoveSpec)

/-- ITS FALSE NEIGHBOUR: 'it returns false'. Refute it at one input. -/
def fnExactDirRemoveWrong : ChangeSpec := { name := "fnExactDirRemove", fn := fun _ => fun
  | [d1, d2] => { results := [.lit (.bool false)], args := [d1, d2] }
  | _ => none }
def FnExactDirRemoveWrongFalsely : Prop := fnExactDirRemoveRow.holds Try.pinned (OpenSpec.ofChange fnExactDirRemoveWrong)

/- THE SECOND FORM. 'bulk': how many values and letters a reading holds, each counted each time it is reached (what is shared counts as often as it is met; a slice's spare places count too). A statement '..UptoSaid' is the law's where the arguments, and the package variables that the reading takes, are together of bulk at most 1048576: NARROWER than '..Said'. Prove '..Said' where nothing that the law and all that it calls make is longer than what came in: it says more and counts as full. Else prove '..UptoSaid'. A law counts once. -/
mutual
def uptoBulk {H : Type} : DataW H → Nat
  | .lit (.string bytes) => bytes.length + 1
  | .lit _ => 1
  | .nil => 1
  | .ptr d => uptoBulk d + 1
  | .slice elems spare => uptoBulkAll elems + uptoBulkAll spare + 1
  | .agg parts => uptoBulkAll parts + 1
  | .iface _ d => uptoBulk d + 1
  | .map entries => uptoBulkEntries entries + 1
  | .held _ => 1
def uptoBulkAll {H : Type} : List (DataW H) → Nat
  | [] => 0
  | d :: r => uptoBulk d + uptoBulkAll r
def uptoBulkEntries {H : Type} : List (Lit × DataW H) → Nat
  | [] => 0
  | x :: r => uptoBulkEntry x + uptoBulkEntries r
def uptoBulkEntry {H : Type} : Lit × DataW H → Nat
  | (.string bytes, d) => bytes.length + uptoBulk d + 1
  | (_, d) => uptoBulk d + 1
 end
def uptoSmall : (H : Type) → List (DataW H) → Bool := fun _ ds => decide (uptoBulkAll ds ≤ 1048576)
def OpenSpec.upto (s : _root_.Go.ChangeSpec) : _root_.Go.OpenSpec := { _root_.Go.OpenSpec.ofChange s with cond := some uptoSmall }

/-- 'laws.FnExactPutNumber', WHERE WHAT IT READS IS OF BULK AT MOST 1048576: true; the input reads as it did. -/
def fnExactPutNumberUptoRow : OpenClaim := { program := "ytdhjhadcadcceaa", sum := "221e76bca5761e84c14321f13c3089a540eb86dbf8e672b524c5a835586d951c", func := "loop.example/s01525/laws.FnExactPutNumber", spec := "fnExactPutNumber", apart := false, narrowed := true }
def FnExactPutNumberUptoSaid : Prop := fnExactPutNumberUptoRow.holds Try.pinned (OpenSpec.upto fnExactPutNumberSpec)

/-- 'laws.FnExactNewDisk', WHERE WHAT IT READS IS OF BULK AT MOST 1048576: true; the input reads as it did. -/
def fnExactNewDiskUptoRow : OpenClaim := { program := "ytdhjhadcadcceaa", sum := "221e76bca5761e84c14321f13c3089a540eb86dbf8e672b524c5a835586d951c", func := "loop.example/s01525/laws.FnExactNewDisk", spec := "fnExactNewDisk", apart := false, narrowed := true }
def FnExactNewDiskUptoSaid : Prop := fnExactNewDiskUptoRow.holds Try.pinned (OpenSpec.upto fnExactNewDiskSpec)

/-- 'laws.FnExactValidDisk', WHERE WHAT IT READS IS OF BULK AT MOST 1048576: true; the input reads as it did. -/
def fnExactValidDiskUptoRow : OpenClaim := { program := "ytdhjhadcadcceaa", sum := "221e76bca5761e84c14321f13c3089a540eb86dbf8e672b524c5a835586d951c", func := "loop.example/s01525/laws.FnExactValidDisk", spec := "fnExactValidDisk", apart := false, narrowed := true }
def FnExactValidDiskUptoSaid : Prop := fnExactValidDiskUptoRow.holds Try.pinned (OpenSpec.upto fnExactValidDiskSpec)

/-- 'laws.FnExactDiskRead', WHERE WHAT IT READS IS OF BULK AT MOST 1048576: true; the input reads as it did. -/
def fnExactDiskReadUptoRow : OpenClaim := { program := "ytdhjhadcadcceaa", sum := "221e76bca5761e84c14321f13c3089a540eb86dbf8e672b524c5a835586d951c", func := "loop.example/s01525/laws.FnExactDiskRead", spec := "fnExactDiskRead", apart := false, narrowed := true }
def FnExactDiskReadUptoSaid : Prop := fnExactDiskReadUptoRow.holds Try.pinned (OpenSpec.upto fnExactDiskReadSpec)

/-- 'laws.FnExactDiskImage', WHERE WHAT IT READS IS OF BULK AT MOST 1048576: true; the input reads as it did. -/
def fnExactDiskImageUptoRow : OpenClaim := { program := "ytdhjhadcadcceaa", sum := "221e76bca5761e84c14321f13c3089a540eb86dbf8e672b524c5a835586d951c", func := "loop.example/s01525/laws.FnExactDiskImage", spec := "fnExactDiskImage", apart := false, narrowed := true }
def FnExactDiskImageUptoSaid : Prop := fnExactDiskImageUptoRow.holds Try.pinned (OpenSpec.upto fnExactDiskImageSpec)

/-- 'laws.FnExactDiskFlush', WHERE WHAT IT READS IS OF BULK AT MOST 1048576: true; the input reads as it did. -/
def fnExactDiskFlushUptoRow : OpenClaim := { program := "ytdhjhadcadcceaa", sum := "221e76bca5761e84c14321f13c3089a540eb86dbf8e672b524c5a835586d951c", func := "loop.example/s01525/laws.FnExactDiskFlush", spec := "fnExactDiskFlush", apart := false, narrowed := true }
def FnExactDiskFlushUptoSaid : Prop := fnExactDiskFlushUptoRow.holds Try.pinned (OpenSpec.upto fnExactDiskFlushSpec)

/-- 'laws.FnExactDiskWrite', WHERE WHAT IT READS IS OF BULK AT MOST 1048576: true; the input reads as it did. -/
def fnExactDiskWriteUptoRow : OpenClaim := { program := "ytdhjhadcadcceaa", sum := "221e76bca5761e84c14321f13c3089a540eb86dbf8e672b524c5a835586d951c", func := "loop.example/s01525/laws.FnExactDiskWrite", spec := "fnExactDiskWrite", apart := false, narrowed := true }
def FnExactDiskWriteUptoSaid : Prop := fnExactDiskWriteUptoRow.holds Try.pinned (OpenSpec.upto fnExactDiskWriteSpec)

/-- 'laws.FnExactDiskCrash', WHERE WHAT IT READS IS OF BULK AT MOST 1048576: true; the input reads as it did. -/
def fnExactDiskCrashUptoRow : OpenClaim := { program := "ytdhjhadcadcceaa", sum := "221e76bca5761e84c14321f13c3089a540eb86dbf8e672b524c5a835586d951c", func := "loop.example/s01525/laws.FnExactDiskCrash", spec := "fnExactDiskCrash", apart := false, narrowed := true }
def FnExactDiskCrashUptoSaid : Prop := fnExactDiskCrashUptoRow.holds Try.pinned (OpenSpec.upto fnExactDiskCrashSpec)

/-- 'laws.FnDisk', WHERE WHAT IT READS IS OF BULK AT MOST 1048576: true; the input reads as it did. -/
def fnDiskUptoRow : OpenClaim := { program := "ytdhjhadcadcceaa", sum := "221e76bca5761e84c14321f13c3089a540eb86dbf8e672b524c5a835586d951c", func := "loop.example/s01525/laws.FnDisk", spec := "fnDisk", apart := false, narrowed := true }
def FnDiskUptoSaid : Prop := fnDiskUptoRow.holds Try.pinned (OpenSpec.upto fnDiskSpec)

/-- 'laws.FnExactDiskDo', WHERE WHAT IT READS IS OF BULK AT MOST 1048576: true; the input reads as it did. -/
def fnExactDiskDoUptoRow : OpenClaim := { program := "ytdhjhadcadcceaa", sum := "221e76bca5761e84c14321f13c3089a540eb86dbf8e672b524c5a835586d951c", func := "loop.example/s01525/laws.FnExactDiskDo", spec := "fnExactDiskDo", apart := false, narrowed := true }
def FnExactDiskDoUptoSaid : Prop := fnExactDiskDoUptoRow.holds Try.pinned (OpenSpec.upto fnExactDiskDoSpec)

/-- 'laws.FnExactDirFind', WHERE WHAT IT READS IS OF BULK AT MOST 1048576: true; the input reads as it did. -/
def fnExactDirFindUptoRow : OpenClaim := { program := "ytdhjhadcadcceaa", sum := "221e76bca5761e84c14321f13c3089a540eb86dbf8e672b524c5a835586d951c", func := "loop.example/s01525/laws.FnExactDirFind", spec := "fnExactDirFind", apart := false, narrowed := true }
def FnExactDirFindUptoSaid : Prop := fnExactDirFindUptoRow.holds Try.pinned (OpenSpec.upto fnExactDirFindSpec)

/-- 'laws.FnExactDirRemove', WHERE WHAT IT READS IS OF BULK AT MOST 1048576: true; the input reads as it did. -/
def fnExactDirRemoveUptoRow : OpenClaim := { program := "ytdhjhadcadcceaa", sum := "221e76bca5761e84c14321f13c3089a540eb86dbf8e672b524c5a835586d951c", func := "loop.example/s01525/laws.FnExactDirRemove", spec := "fnExactDirRemove", apart := false, narrowed := true }
def FnExactDirRemoveUptoSaid : Prop := fnExactDirRemoveUptoRow.holds Try.pinned (OpenSpec.upto fnExactDirRemoveSpec)

end Rows
end Go.Proofs.Ytdhjhadcadcceaa
