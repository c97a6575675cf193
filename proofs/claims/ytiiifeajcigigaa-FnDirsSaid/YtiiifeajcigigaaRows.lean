/-
  No cell of these rows narrows 'for every input' (looked for: loops, veiled, ifaces, maps, wideKeys, modest, calm, conditions, laid).
  DERIVED. THE GIVEN ROWS OF THIS SEAT. 7 by the template 'for every input the law returns true; each argument reads behind the call as it read before'; 0 by the template 'total and deterministic' (their statements: YtiiifeajcigigaaTotals.lean).
  GIVEN WITH THE SEED: the statements are not yours to turn. If you find one false, say at which input.
  Laid BY PROGRAM, IN A SANDBOX (cutbox-rows.mjs): the forced cells as the released guide's own fill.sh prints them over the translation 82cf2e3a7bf25041… (all of the seat's roots in one cut). By AI agents, Wed Nov 11 2026. No macro, syntax, notation, axiom, sorry.
-/
import Derived.Test.YtiiifeajcigigaaChecked
import GoSem.Claim
import GoSem.ClaimJoined
import GoSem.ClaimMapViews
import Derived.JoinedTies
import Derived.KernelRfl
namespace Go.Proofs.Ytiiifeajcigigaa
/- THE CELL 'sum', in the pinned program and in every row, IS THE sha256 OF THE DUMP (.gsa) THAT YtiiifeajcigigaaProg.lean LOADS. Nothing in Lean hashes anything: it is a label: what it is worth is what the hold of that sum in a sandbox is worth. -/
noncomputable def Try.pinned : Pinned := { name := "ytiiifeajcigigaa", sum := "82cf2e3a7bf25041e3a62f592ff884679357666cfc43bbe9ab6319bf315e0d3f", checked := Try.checked }
namespace Rows
def none {H : Type} : Left H := { results := [], args := [] }

/-- 'laws.FnExactEncodeEntry': WHATEVER THE INPUT: true; the input reads as it did. -/
def fnExactEncodeEntrySpec : ChangeSpec := { name := "fnExactEncodeEntry", fn := fun _ => fun
  | [d] => { results := [.lit (.bool true)], args := [d] }
  | _ => none }
def fnExactEncodeEntryRow : OpenClaim := { program := "ytiiifeajcigigaa", sum := "82cf2e3a7bf25041e3a62f592ff884679357666cfc43bbe9ab6319bf315e0d3f", func := "loop.example/s01525/laws.FnExactEncodeEntry", spec := "fnExactEncodeEntry", apart := false }
def FnExactEncodeEntrySaid : Prop := fnExactEncodeEntryRow.holds Try.pinned (OpenSpec.ofChange fnExactEncodeEntrySpec)

/-- ITS FALSE NEIGHBOUR: 'it returns false'. Refute it at one input. -/
def fnExactEncodeEntryWrong : ChangeSpec := { name := "fnExactEncodeEntry", fn := fun _ => fun
  | [d] => { results := [.lit (.bool false)], args := [d] }
  | _ => none }
def FnExactEncodeEntryWrongFalsely : Prop := fnExactEncodeEntryRow.holds Try.pinned (OpenSpec.ofChange fnExactEncodeEntryWrong)

/-- 'laws.FnExactDecodeEntry': WHATEVER THE INPUT: true; the input reads as it did. -/
def fnExactDecodeEntrySpec : ChangeSpec := { name := "fnExactDecodeEntry", fn := fun _ => fun
  | [d] => { results := [.lit (.bool true)], args := [d] }
  | _ => none }
def fnExactDecodeEntryRow : OpenClaim := { program := "ytiiifeajcigigaa", sum := "82cf2e3a7bf25041e3a62f592ff884679357666cfc43bbe9ab6319bf315e0d3f", func := "loop.example/s01525/laws.FnExactDecodeEntry", spec := "fnExactDecodeEntry", apart := false }
def FnExactDecodeEntrySaid : Prop := fnExactDecodeEntryRow.holds Try.pinned (OpenSpec.ofChange fnExactDecodeEntrySpec)

/-- ITS FALSE NEIGHBOUR: 'it returns false'. Refute it at one input. -/
def fnExactDecodeEntryWrong : ChangeSpec := { name := "fnExactDecodeEntry", fn := fun _ => fun
  | [d] => { results := [.lit (.bool false)], args := [d] }
  | _ => none }
def FnExactDecodeEntryWrongFalsely : Prop := fnExactDecodeEntryRow.holds Try.pinned (OpenSpec.ofChange fnExactDecodeEntryWrong)

/-- 'laws.FnExactEncodeDir': WHATEVER THE INPUT: true; the input reads as it did. -/
def fnExactEncodeDirSpec : ChangeSpec := { name := "fnExactEncodeDir", fn := fun _ => fun
  | [d] => { results := [.lit (.bool true)], args := [d] }
  | _ => none }
def fnExactEncodeDirRow : OpenClaim := { program := "ytiiifeajcigigaa", sum := "82cf2e3a7bf25041e3a62f592ff884679357666cfc43bbe9ab6319bf315e0d3f", func := "loop.example/s01525/laws.FnExactEncodeDir", spec := "fnExactEncodeDir", apart := false }
def FnExactEncodeDirSaid : Prop := fnExactEncodeDirRow.holds Try.pinned (OpenSpec.ofChange fnExactEncodeDirSpec)

/-- ITS FALSE NEIGHBOUR: 'it returns false'. Refute it at one input. -/
def fnExactEncodeDirWrong : ChangeSpec := { name := "fnExactEncodeDir", fn := fun _ => fun
  | [d] => { results := [.lit (.bool false)], args := [d] }
  | _ => none }
def FnExactEncodeDirWrongFalsely : Prop := fnExactEncodeDirRow.holds Try.pinned (OpenSpec.ofChange fnExactEncodeDirWrong)

/-- 'laws.FnExactDecodeDir': WHATEVER THE INPUT: true; the input reads as it did. -/
def fnExactDecodeDirSpec : ChangeSpec := { name := "fnExactDecodeDir", fn := fun _ => fun
  | [d] => { results := [.lit (.bool true)], args := [d] }
  | _ => none }
def fnExactDecodeDirRow : OpenClaim := { program := "ytiiifeajcigigaa", sum := "82cf2e3a7bf25041e3a62f592ff884679357666cfc43bbe9ab6319bf315e0d3f", func := "loop.example/s01525/laws.FnExactDecodeDir", spec := "fnExactDecodeDir", apart := false }
def FnExactDecodeDirSaid : Prop := fnExactDecodeDirRow.holds Try.pinned (OpenSpec.ofChange fnExactDecodeDirSpec)

/-- ITS FALSE NEIGHBOUR: 'it returns false'. Refute it at one input. -/
def fnExactDecodeDirWrong : ChangeSpec := { name := "fnExactDecodeDir", fn := fun _ => fun
  | [d] => { results := [.lit (.bool false)], args := [d] }
  | _ => none }
def FnExactDecodeDirWrongFalsely : Prop := fnExactDecodeDirRow.holds Try.pinned (OpenSpec.ofChange fnExactDecodeDirWrong)

/-- 'laws.FnExactDirNames': WHATEVER THE INPUT: true; the input reads as it did. -/
def fnExactDirNamesSpec : ChangeSpec := { name := "fnExactDirNames", fn := fun _ => fun
  | [d] => { results := [.lit (.bool true)], args := [d] }
  | _ => none }
def fnExactDirNamesRow : OpenClaim := { program := "ytiiifeajcigigaa", sum := "82cf2e3a7bf25041e3a62f592ff884679357666cfc43bbe9ab6319bf315e0d3f", func := "loop.example/s01525/laws.FnExactDirNames", spec := "fnExactDirNames", recurses := true, apart := false }
def FnExactDirNamesSaid : Prop := fnExactDirNamesRow.holds Try.pinned (OpenSpec.ofChange fnExactDirNamesSpec)

/-- ITS FALSE NEIGHBOUR: 'it returns false'. Refute it at one input. -/
def fnExactDirNamesWrong : ChangeSpec := { name := "fnExactDirNames", fn := fun _ => fun
  | [d] => { results := [.lit (.bool false)], args := [d] }
  | _ => none }
def FnExactDirNamesWrongFalsely : Prop := fnExactDirNamesRow.holds Try.pinned (OpenSpec.ofChange fnExactDirNamesWrong)

/-- 'laws.FnDirs': WHATEVER THE INPUT: true; the input reads as it did. -/
def fnDirsSpec : ChangeSpec := { name := "fnDirs", fn := fun _ => fun
  | [d1, d2] => { results := [.lit (.bool true)], args := [d1, d2] }
  | _ => none }
def fnDirsRow : OpenClaim := { program := "ytiiifeajcigigaa", sum := "82cf2e3a7bf25041e3a62f592ff884679357666cfc43bbe9ab6319bf315e0d3f", func := "loop.example/s01525/laws.FnDirs", spec := "fnDirs", recurses := true, apart := false }
def FnDirsSaid : Prop := fnDirsRow.holds Try.pinned (OpenSpec.ofChange fnDirsSpec)

/-- ITS FALSE NEIGHBOUR: 'it returns false'. Refute it at one input. -/
def fnDirsWrong : ChangeSpec := { name := "fnDirs", fn := fun _ => fun
  | [d1, d2] => { results := [.lit (.bool false)], args := [d1, d2] }
  | _ => none }
def FnDirsWrongFalsely : Prop := fnDirsRow.holds Try.pinned (OpenSpec.ofChange fnDirsWrong)

/-- 'laws.FnExactCount': WHATEVER THE INPUT: true; the input reads as it did. -/
def fnExactCountSpec : ChangeSpec := { name := "fnExactCount", fn := fun _ => fun
  | [d] => { results := [.lit (.bool true)], args := [d] }
  | _ => none }
def fnExactCountRow : OpenClaim := { program := "ytiiifeajcigigaa", sum := "82cf2e3a7bf25041e3a62f592ff884679357666cfc43bbe9ab6319bf315e0d3f", func := "loop.example/s01525/laws.FnExactCount", spec := "fnExactCount", apart := false }
def FnExactCountSaid : Prop := fnExactCountRow.holds Try.pinned (OpenSpec.ofChange fnExactCountSpec)

/-- ITS FALSE NEIGHBOUR: 'it returns false'. Refute it at one input. -/
def fnExactCountWrong : ChangeSpec := { name := "fnExactCount", fn := fun _ => fun
  | [d] => { results := [.lit (.bool false)], args := [d] }
  | _ => none }
def FnExactCountWrongFalsely : Prop := fnExactCountRow.holds Try.pinned (OpenSpec.ofChange fnExactCountWrong)

/- THE SECOND FORM. 'bulk': how many values and letters a reading holds, each counted each time it is reached (what is shared counts as often as it is met; a slice's spare places count too). A statement '..UptoSaid' is the law's where the arguments, and the package variables that the reading takes, are together of bulk at most 1048576: NARROWER than '..Said'. Prove '..Said' where nothing that the law and all that it calls make is longer than what came in: it says more and counts as full. Else prove '..UptoSaid'. A law counts once. -/
mutual
def uptoBulk {H : Type} : DataW H → Nat
  | .lit (.string bytes) => bytes.length + 1
  | .lit _ => 1
  | .nil => 1
  | .ptr d => uptoBulk d + 1
  | .slice elems spare => uptoBulkAll elems + uptoBulkAll spare + 1
  | .agg parts => uptoBulkAll parts + 1
  | .iface _ d => uptoBulk d + 1
  | .map entries => uptoBulkEntries entries + 1
  | .held _ => 1
def uptoBulkAll {H : Type} : List (DataW H) → Nat
  | [] => 0
  | d :: r => uptoBulk d + uptoBulkAll r
def uptoBulkEntries {H : Type} : List (Lit × DataW H) → Nat
  | [] => 0
  | x :: r => uptoBulkEntry x + uptoBulkEntries r
def uptoBulkEntry {H : Type} : Lit × DataW H → Nat
  | (.string bytes, d) => bytes.length + uptoBulk d + 1
  | (_, d) => uptoBulk d + 1
 end
def uptoSmall : (H : Type) → List (DataW H) → Bool := fun _ ds => decide (uptoBulkAll ds ≤ 1048576)
def OpenSpec.upto (s : _root_.Go.ChangeSpec) : _root_.Go.OpenSpec := { _root_.Go.OpenSpec.ofChange s with cond := some uptoSmall }

/-- 'laws.FnExactEncodeEntry', WHERE WHAT IT READS IS OF BULK AT MOST 1048576: true; the input reads as it did. -/
def fnExactEncodeEntryUptoRow : OpenClaim := { program := "ytiiifeajcigigaa", sum := "82cf2e3a7bf25041e3a62f592ff884679357666cfc43bbe9ab6319bf315e0d3f", func := "loop.example/s01525/laws.FnExactEncodeEntry", spec := "fnExactEncodeEntry", apart := false, narrowed := true }
def FnExactEncodeEntryUptoSaid : Prop := fnExactEncodeEntryUptoRow.holds Try.pinned (OpenSpec.upto fnExactEncodeEntrySpec)

/-- 'laws.FnExactDecodeEntry', WHERE WHAT IT READS IS OF BULK AT MOST 1048576: true; the input reads as it did. -/
def fnExactDecodeEntryUptoRow : OpenClaim := { program := "ytiiifeajcigigaa", sum := "82cf2e3a7bf25041e3a62f592ff884679357666cfc43bbe9ab6319bf315e0d3f", func := "loop.example/s01525/laws.FnExactDecodeEntry", spec := "fnExactDecodeEntry", apart := false, narrowed := true }
def FnExactDecodeEntryUptoSaid : Prop := fnExactDecodeEntryUptoRow.holds Try.pinned (OpenSpec.upto fnExactDecodeEntrySpec)

/-- 'laws.FnExactEncodeDir', WHERE WHAT IT READS IS OF BULK AT MOST 1048576: true; the input reads as it did. -/
def fnExactEncodeDirUptoRow : OpenClaim := { program := "ytiiifeajcigigaa", sum := "82cf2e3a7bf25041e3a62f592ff884679357666cfc43bbe9ab6319bf315e0d3f", func := "loop.example/s01525/laws.FnExactEncodeDir", spec := "fnExactEncodeDir", apart := false, narrowed := true }
def FnExactEncodeDirUptoSaid : Prop := fnExactEncodeDirUptoRow.holds Try.pinned (OpenSpec.upto fnExactEncodeDirSpec)

/-- 'laws.FnExactDecodeDir', WHERE WHAT IT READS IS OF BULK AT MOST 1048576: true; the input reads as it did. -/
def fnExactDecodeDirUptoRow : OpenClaim := { program := "ytiiifeajcigigaa", sum := "82cf2e3a7bf25041e3a62f592ff884679357666cfc43bbe9ab6319bf315e0d3f", func := "loop.example/s01525/laws.FnExactDecodeDir", spec := "fnExactDecodeDir", apart := false, narrowed := true }
def FnExactDecodeDirUptoSaid : Prop := fnExactDecodeDirUptoRow.holds Try.pinned (OpenSpec.upto fnExactDecodeDirSpec)

/-- 'laws.FnExactDirNames', WHERE WHAT IT READS IS OF BULK AT MOST 1048576: true; the input reads as it did. -/
def fnExactDirNamesUptoRow : OpenClaim := { program := "ytiiifeajcigigaa", sum := "82cf2e3a7bf25041e3a62f592ff884679357666cfc43bbe9ab6319bf315e0d3f", func := "loop.example/s01525/laws.FnExactDirNames", spec := "fnExactDirNames", recurses := true, apart := false, narrowed := true }
def FnExactDirNamesUptoSaid : Prop := fnExactDirNamesUptoRow.holds Try.pinned (OpenSpec.upto fnExactDirNamesSpec)

/-- 'laws.FnDirs', WHERE WHAT IT READS IS OF BULK AT MOST 1048576: true; the input reads as it did. -/
def fnDirsUptoRow : OpenClaim := { program := "ytiiifeajcigigaa", sum := "82cf2e3a7bf25041e3a62f592ff884679357666cfc43bbe9ab6319bf315e0d3f", func := "loop.example/s01525/laws.FnDirs", spec := "fnDirs", recurses := true, apart := false, narrowed := true }
def FnDirsUptoSaid : Prop := fnDirsUptoRow.holds Try.pinned (OpenSpec.upto fnDirsSpec)

/-- 'laws.FnExactCount', WHERE WHAT IT READS IS OF BULK AT MOST 1048576: true; the input reads as it did. -/
def fnExactCountUptoRow : OpenClaim := { program := "ytiiifeajcigigaa", sum := "82cf2e3a7bf25041e3a62f592ff884679357666cfc43bbe9ab6319bf315e0d3f", func := "loop.example/s01525/laws.FnExactCount", spec := "fnExactCount", apart := false, narrowed := true }
def FnExactCountUptoSaid : Prop := fnExactCountUptoRow.holds Try.pinned (OpenSpec.upto fnExactCountSpec)

end Rows
end Go.Proofs.Ytiiifeajcigigaa
