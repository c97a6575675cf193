/-
  NARROWER THAN 'FOR EVERY INPUT', by the rows' own cells (each row's printed sentence says how): FnExactParseLine: maps, laid · FnLine: maps, laid · FnExactFormatAnswer: laid.
  DERIVED. THE GIVEN ROWS OF THIS SEAT. 3 by the template 'for every input the law returns true; each argument reads behind the call as it read before'; 0 by the template 'total and deterministic' (their statements: YtkehfdadplpaeaaDoorTotals.lean).
  GIVEN WITH THE SEED: the statements are not yours to turn. If you find one false, say at which input.
  Laid BY PROGRAM, IN A SANDBOX (cutbox-rows.mjs): the forced cells as the released guide's own fill.sh prints them over the translation 9408f028bfaf50a1… (all of the seat's roots in one cut). By AI agents, Wed Nov 11 2026. No macro, syntax, notation, axiom, sorry.
-/
import Derived.Test.YtkehfdadplpaeaaDoorChecked
import GoSem.PinnedTables
import GoSem.Claim
import GoSem.ClaimJoined
import GoSem.ClaimMapViews
import Derived.JoinedTies
import Derived.KernelRfl
namespace Go.Proofs.YtkehfdadplpaeaaDoor
/- THE CELL 'sum', in the pinned program and in every row, IS THE sha256 OF THE DUMP (.gsa) THAT YtkehfdadplpaeaaDoorProg.lean LOADS. Nothing in Lean hashes anything: it is a label: what it is worth is what the hold of that sum in a sandbox is worth. -/
noncomputable def Tryd.pinned : Pinned := { name := "ytkehfdadplpaeaadoor", sum := "9408f028bfaf50a1af9f0cf66aca54b0a50f320c7d768d2c8137affdee066c12", checked := Tryd.checked }
namespace Rows
def none {H : Type} : Left H := { results := [], args := [] }

/- WHAT THE LISTED PACKAGE-LEVEL VARIABLES READ AS WHEN THE CALL BEGINS. Each datum BY PROGRAM (the guide's laid-datum.mjs) off the statement by which the dump's own 'gosem.cut.vars' lays the variable. In a bare row this is a premise. The card (YtkehfdadplpaeaaDoorCards.lean) ties it to the program's text. -/
def laid_math_bits_deBruijn32tab {H : Type} : DataW H := .agg [.lit (.int .u8 0), .lit (.int .u8 1), .lit (.int .u8 28), .lit (.int .u8 2), .lit (.int .u8 29), .lit (.int .u8 14), .lit (.int .u8 24), .lit (.int .u8 3), .lit (.int .u8 30), .lit (.int .u8 22), .lit (.int .u8 20), .lit (.int .u8 15), .lit (.int .u8 25), .lit (.int .u8 17), .lit (.int .u8 4), .lit (.int .u8 8), .lit (.int .u8 31), .lit (.int .u8 27), .lit (.int .u8 13), .lit (.int .u8 23), .lit (.int .u8 21), .lit (.int .u8 19), .lit (.int .u8 16), .lit (.int .u8 7), .lit (.int .u8 26), .lit (.int .u8 12), .lit (.int .u8 18), .lit (.int .u8 6), .lit (.int .u8 11), .lit (.int .u8 5), .lit (.int .u8 10), .lit (.int .u8 9)]
def laid_math_bits_deBruijn64tab {H : Type} : DataW H := .agg [.lit (.int .u8 0), .lit (.int .u8 1), .lit (.int .u8 56), .lit (.int .u8 2), .lit (.int .u8 57), .lit (.int .u8 49), .lit (.int .u8 28), .lit (.int .u8 3), .lit (.int .u8 61), .lit (.int .u8 58), .lit (.int .u8 42), .lit (.int .u8 50), .lit (.int .u8 38), .lit (.int .u8 29), .lit (.int .u8 17), .lit (.int .u8 4), .lit (.int .u8 62), .lit (.int .u8 47), .lit (.int .u8 59), .lit (.int .u8 36), .lit (.int .u8 45), .lit (.int .u8 43), .lit (.int .u8 51), .lit (.int .u8 22), .lit (.int .u8 53), .lit (.int .u8 39), .lit (.int .u8 33), .lit (.int .u8 30), .lit (.int .u8 24), .lit (.int .u8 18), .lit (.int .u8 12), .lit (.int .u8 5), .lit (.int .u8 63), .lit (.int .u8 55), .lit (.int .u8 48), .lit (.int .u8 27), .lit (.int .u8 60), .lit (.int .u8 41), .lit (.int .u8 37), .lit (.int .u8 16), .lit (.int .u8 46), .lit (.int .u8 35), .lit (.int .u8 44), .lit (.int .u8 21), .lit (.int .u8 52), .lit (.int .u8 32), .lit (.int .u8 23), .lit (.int .u8 11), .lit (.int .u8 54), .lit (.int .u8 26), .lit (.int .u8 40), .lit (.int .u8 15), .lit (.int .u8 34), .lit (.int .u8 20), .lit (.int .u8 31), .lit (.int .u8 10), .lit (.int .u8 25), .lit (.int .u8 14), .lit (.int .u8 19), .lit (.int .u8 9), .lit (.int .u8 13), .lit (.int .u8 8), .lit (.int .u8 7), .lit (.int .u8 6)]
def laid_internal_strconv_uint64pow10 {H : Type} : DataW H := .agg [.lit (.int .u64 1), .lit (.int .u64 10), .lit (.int .u64 100), .lit (.int .u64 1000), .lit (.int .u64 10000), .lit (.int .u64 100000), .lit (.int .u64 1000000), .lit (.int .u64 10000000), .lit (.int .u64 100000000), .lit (.int .u64 1000000000), .lit (.int .u64 10000000000), .lit (.int .u64 100000000000), .lit (.int .u64 1000000000000), .lit (.int .u64 10000000000000), .lit (.int .u64 100000000000000), .lit (.int .u64 1000000000000000), .lit (.int .u64 10000000000000000), .lit (.int .u64 100000000000000000), .lit (.int .u64 1000000000000000000), .lit (.int .u64 10000000000000000000)]
def laid_unicode_utf8_acceptRanges {H : Type} : DataW H := .agg [.agg [.lit (.int .u8 128), .lit (.int .u8 191)], .agg [.lit (.int .u8 160), .lit (.int .u8 191)], .agg [.lit (.int .u8 128), .lit (.int .u8 159)], .agg [.lit (.int .u8 144), .lit (.int .u8 191)], .agg [.lit (.int .u8 128), .lit (.int .u8 143)], .agg [.lit (.int .u8 0), .lit (.int .u8 0)], .agg [.lit (.int .u8 0), .lit (.int .u8 0)], .agg [.lit (.int .u8 0), .lit (.int .u8 0)], .agg [.lit (.int .u8 0), .lit (.int .u8 0)], .agg [.lit (.int .u8 0), .lit (.int .u8 0)], .agg [.lit (.int .u8 0), .lit (.int .u8 0)], .agg [.lit (.int .u8 0), .lit (.int .u8 0)], .agg [.lit (.int .u8 0), .lit (.int .u8 0)], .agg [.lit (.int .u8 0), .lit (.int .u8 0)], .agg [.lit (.int .u8 0), .lit (.int .u8 0)], .agg [.lit (.int .u8 0), .lit (.int .u8 0)]]
def laid_strconv_ErrRange {H : Type} : DataW H := .iface "*errors.errorString" (.ptr (.agg [.lit (.string [118, 97, 108, 117, 101, 32, 111, 117, 116, 32, 111, 102, 32, 114, 97, 110, 103, 101])]))
def laid_strconv_ErrSyntax {H : Type} : DataW H := .iface "*errors.errorString" (.ptr (.agg [.lit (.string [105, 110, 118, 97, 108, 105, 100, 32, 115, 121, 110, 116, 97, 120])]))
def laid_loop_example_s01525_impl_shapes {H : Type} : DataW H := .map [(.string [97, 112, 112, 101, 110, 100], .agg [.lit (.int .i64 8), .lit (.string [80, 68])]), (.string [99, 104, 101, 99, 107, 112, 111, 105, 110, 116], .agg [.lit (.int .i64 23), .lit (.string [])]), (.string [99, 108, 111, 115, 101], .agg [.lit (.int .i64 13), .lit (.string [72])]), (.string [99, 114, 101, 97, 116, 101], .agg [.lit (.int .i64 1), .lit (.string [80])]), (.string [102, 105, 108, 108], .agg [.lit (.int .i64 6), .lit (.string [80, 78, 70, 87])]), (.string [102, 115, 116, 97, 116], .agg [.lit (.int .i64 16), .lit (.string [72])]), (.string [102, 116, 114, 117, 110, 99], .agg [.lit (.int .i64 12), .lit (.string [72, 83])]), (.string [108, 105, 110, 107], .agg [.lit (.int .i64 9), .lit (.string [80, 81])]), (.string [108, 105, 115, 116], .agg [.lit (.int .i64 20), .lit (.string [80])]), (.string [108, 111, 103], .agg [.lit (.int .i64 25), .lit (.string [])]), (.string [108, 115, 116, 97, 116], .agg [.lit (.int .i64 19), .lit (.string [80])]), (.string [109, 107, 100, 105, 114], .agg [.lit (.int .i64 2), .lit (.string [80])]), (.string [111, 112, 101, 110], .agg [.lit (.int .i64 14), .lit (.string [80])]), (.string [112, 114, 101, 97, 100], .agg [.lit (.int .i64 15), .lit (.string [72, 78, 83])]), (.string [112, 119, 114, 105, 116, 101], .agg [.lit (.int .i64 11), .lit (.string [72, 78, 68])]), (.string [114, 101, 97, 100], .agg [.lit (.int .i64 17), .lit (.string [80, 78, 83])]), (.string [114, 101, 97, 100, 108, 105, 110, 107], .agg [.lit (.int .i64 21), .lit (.string [80])]), (.string [114, 101, 110, 97, 109, 101], .agg [.lit (.int .i64 5), .lit (.string [80, 81])]), (.string [114, 109, 100, 105, 114], .agg [.lit (.int .i64 4), .lit (.string [80])]), (.string [115, 112, 97, 99, 101], .agg [.lit (.int .i64 24), .lit (.string [])]), (.string [115, 116, 97, 116], .agg [.lit (.int .i64 18), .lit (.string [80])]), (.string [115, 121, 109, 108, 105, 110, 107], .agg [.lit (.int .i64 10), .lit (.string [80, 81])]), (.string [115, 121, 110, 99], .agg [.lit (.int .i64 22), .lit (.string [])]), (.string [116, 114, 117, 110, 99], .agg [.lit (.int .i64 7), .lit (.string [80, 83])]), (.string [117, 110, 108, 105, 110, 107], .agg [.lit (.int .i64 3), .lit (.string [80])]), (.string [119, 114, 105, 116, 101], .agg [.lit (.int .i64 6), .lit (.string [80, 78, 68])])]
/-- One of Go's own tables, pinned by name: the form's constant. -/
def laid_unicode_utf8_first : DataW Unit := Go.Pinned.utf8First

/-- 'laws.FnExactParseLine': WHATEVER THE INPUT: true; the input reads as it did. -/
def fnExactParseLineSpec : ChangeSpec := { name := "fnExactParseLine", vars := ["loop.example/s01525/impl.shapes"], fn := fun _ => fun
  | [d, g1] => { results := [.lit (.bool true)], args := [d], vars := [g1] }
  | _ => none }
def fnExactParseLineRow : OpenClaim := { program := "ytkehfdadplpaeaadoor", sum := "9408f028bfaf50a1af9f0cf66aca54b0a50f320c7d768d2c8137affdee066c12", func := "loop.example/s01525/laws.FnExactParseLine", spec := "fnExactParseLine", inPlace := ["internal/bytealg.CountString", "internal/bytealg.IndexByteString", "internal/bytealg.IndexString", "internal/abi.NoEscape"], recurses := true, named := ["loop.example/s01525/impl.shapes", "unicode/utf8.first", "unicode/utf8.acceptRanges", "internal/bytealg.MaxLen", "strconv.ErrSyntax", "strconv.ErrRange", "internal/strconv.uint64pow10", "math/bits.deBruijn32tab", "math/bits.deBruijn64tab"], maps := true, apart := false, laid := [("math/bits.deBruijn32tab", laid_math_bits_deBruijn32tab), ("math/bits.deBruijn64tab", laid_math_bits_deBruijn64tab), ("internal/strconv.uint64pow10", laid_internal_strconv_uint64pow10), ("unicode/utf8.acceptRanges", laid_unicode_utf8_acceptRanges), ("strconv.ErrRange", laid_strconv_ErrRange), ("strconv.ErrSyntax", laid_strconv_ErrSyntax), ("loop.example/s01525/impl.shapes", laid_loop_example_s01525_impl_shapes), ("unicode/utf8.first", laid_unicode_utf8_first)] }
def FnExactParseLineSaid : Prop := fnExactParseLineRow.holds Tryd.pinned (OpenSpec.ofChange fnExactParseLineSpec)

/-- ITS FALSE NEIGHBOUR: 'it returns false'. Refute it at one input. -/
def fnExactParseLineWrong : ChangeSpec := { name := "fnExactParseLine", vars := ["loop.example/s01525/impl.shapes"], fn := fun _ => fun
  | [d, g1] => { results := [.lit (.bool false)], args := [d], vars := [g1] }
  | _ => none }
def FnExactParseLineWrongFalsely : Prop := fnExactParseLineRow.holds Tryd.pinned (OpenSpec.ofChange fnExactParseLineWrong)

/-- 'laws.FnLine': WHATEVER THE INPUT: true; the input reads as it did. -/
def fnLineSpec : ChangeSpec := { name := "fnLine", vars := ["loop.example/s01525/impl.shapes"], fn := fun _ => fun
  | [d1, d2, g1] => { results := [.lit (.bool true)], args := [d1, d2], vars := [g1] }
  | _ => none }
def fnLineRow : OpenClaim := { program := "ytkehfdadplpaeaadoor", sum := "9408f028bfaf50a1af9f0cf66aca54b0a50f320c7d768d2c8137affdee066c12", func := "loop.example/s01525/laws.FnLine", spec := "fnLine", inPlace := ["internal/bytealg.CountString", "internal/bytealg.IndexByteString", "internal/bytealg.IndexString", "internal/abi.NoEscape"], recurses := true, named := ["loop.example/s01525/impl.shapes", "unicode/utf8.first", "unicode/utf8.acceptRanges", "internal/bytealg.MaxLen", "strconv.ErrSyntax", "strconv.ErrRange", "internal/strconv.uint64pow10", "math/bits.deBruijn32tab", "math/bits.deBruijn64tab"], maps := true, apart := false, laid := [("math/bits.deBruijn32tab", laid_math_bits_deBruijn32tab), ("math/bits.deBruijn64tab", laid_math_bits_deBruijn64tab), ("internal/strconv.uint64pow10", laid_internal_strconv_uint64pow10), ("unicode/utf8.acceptRanges", laid_unicode_utf8_acceptRanges), ("strconv.ErrRange", laid_strconv_ErrRange), ("strconv.ErrSyntax", laid_strconv_ErrSyntax), ("loop.example/s01525/impl.shapes", laid_loop_example_s01525_impl_shapes), ("unicode/utf8.first", laid_unicode_utf8_first)] }
def FnLineSaid : Prop := fnLineRow.holds Tryd.pinned (OpenSpec.ofChange fnLineSpec)

/-- ITS FALSE NEIGHBOUR: 'it returns false'. Refute it at one input. -/
def fnLineWrong : ChangeSpec := { name := "fnLine", vars := ["loop.example/s01525/impl.shapes"], fn := fun _ => fun
  | [d1, d2, g1] => { results := [.lit (.bool false)], args := [d1, d2], vars := [g1] }
  | _ => none }
def FnLineWrongFalsely : Prop := fnLineRow.holds Tryd.pinned (OpenSpec.ofChange fnLineWrong)

/-- 'laws.FnExactFormatAnswer': WHATEVER THE INPUT: true; the input reads as it did. -/
def fnExactFormatAnswerSpec : ChangeSpec := { name := "fnExactFormatAnswer", fn := fun _ => fun
  | [d1, d2] => { results := [.lit (.bool true)], args := [d1, d2] }
  | _ => none }
def fnExactFormatAnswerRow : OpenClaim := { program := "ytkehfdadplpaeaadoor", sum := "9408f028bfaf50a1af9f0cf66aca54b0a50f320c7d768d2c8137affdee066c12", func := "loop.example/s01525/laws.FnExactFormatAnswer", spec := "fnExactFormatAnswer", inPlace := ["internal/abi.NoEscape", "internal/bytealg.MakeNoZero"], recurses := true, named := ["internal/strconv.uint64pow10", "math/bits.deBruijn32tab", "math/bits.deBruijn64tab"], apart := false, laid := [("math/bits.deBruijn32tab", laid_math_bits_deBruijn32tab), ("math/bits.deBruijn64tab", laid_math_bits_deBruijn64tab), ("internal/strconv.uint64pow10", laid_internal_strconv_uint64pow10)] }
def FnExactFormatAnswerSaid : Prop := fnExactFormatAnswerRow.holds Tryd.pinned (OpenSpec.ofChange fnExactFormatAnswerSpec)

/-- ITS FALSE NEIGHBOUR: 'it returns false'. Refute it at one input. -/
def fnExactFormatAnswerWrong : ChangeSpec := { name := "fnExactFormatAnswer", fn := fun _ => fun
  | [d1, d2] => { results := [.lit (.bool false)], args := [d1, d2] }
  | _ => none }
def FnExactFormatAnswerWrongFalsely : Prop := fnExactFormatAnswerRow.holds Tryd.pinned (OpenSpec.ofChange fnExactFormatAnswerWrong)

/- THE SECOND FORM. 'bulk': how many values and letters a reading holds, each counted each time it is reached (what is shared counts as often as it is met; a slice's spare places count too). A statement '..UptoSaid' is the law's where the arguments, and the package variables that the reading takes, are together of bulk at most 1048576: NARROWER than '..Said'. Prove '..Said' where nothing that the law and all that it calls make is longer than what came in: it says more and counts as full. Else prove '..UptoSaid'. A law counts once. -/
mutual
def uptoBulk {H : Type} : DataW H → Nat
  | .lit (.string bytes) => bytes.length + 1
  | .lit _ => 1
  | .nil => 1
  | .ptr d => uptoBulk d + 1
  | .slice elems spare => uptoBulkAll elems + uptoBulkAll spare + 1
  | .agg parts => uptoBulkAll parts + 1
  | .iface _ d => uptoBulk d + 1
  | .map entries => uptoBulkEntries entries + 1
  | .held _ => 1
def uptoBulkAll {H : Type} : List (DataW H) → Nat
  | [] => 0
  | d :: r => uptoBulk d + uptoBulkAll r
def uptoBulkEntries {H : Type} : List (Lit × DataW H) → Nat
  | [] => 0
  | x :: r => uptoBulkEntry x + uptoBulkEntries r
def uptoBulkEntry {H : Type} : Lit × DataW H → Nat
  | (.string bytes, d) => bytes.length + uptoBulk d + 1
  | (_, d) => uptoBulk d + 1
 end
def uptoSmall : (H : Type) → List (DataW H) → Bool := fun _ ds => decide (uptoBulkAll ds ≤ 1048576)
def OpenSpec.upto (s : _root_.Go.ChangeSpec) : _root_.Go.OpenSpec := { _root_.Go.OpenSpec.ofChange s with cond := some uptoSmall }

/-- 'laws.FnExactParseLine', WHERE WHAT IT READS IS OF BULK AT MOST 1048576: true; the input reads as it did. -/
def fnExactParseLineUptoRow : OpenClaim := { program := "ytkehfdadplpaeaadoor", sum := "9408f028bfaf50a1af9f0cf66aca54b0a50f320c7d768d2c8137affdee066c12", func := "loop.example/s01525/laws.FnExactParseLine", spec := "fnExactParseLine", inPlace := ["internal/bytealg.CountString", "internal/bytealg.IndexByteString", "internal/bytealg.IndexString", "internal/abi.NoEscape"], recurses := true, named := ["loop.example/s01525/impl.shapes", "unicode/utf8.first", "unicode/utf8.acceptRanges", "internal/bytealg.MaxLen", "strconv.ErrSyntax", "strconv.ErrRange", "internal/strconv.uint64pow10", "math/bits.deBruijn32tab", "math/bits.deBruijn64tab"], maps := true, apart := false, laid := [("math/bits.deBruijn32tab", laid_math_bits_deBruijn32tab), ("math/bits.deBruijn64tab", laid_math_bits_deBruijn64tab), ("internal/strconv.uint64pow10", laid_internal_strconv_uint64pow10), ("unicode/utf8.acceptRanges", laid_unicode_utf8_acceptRanges), ("strconv.ErrRange", laid_strconv_ErrRange), ("strconv.ErrSyntax", laid_strconv_ErrSyntax), ("loop.example/s01525/impl.shapes", laid_loop_example_s01525_impl_shapes), ("unicode/utf8.first", laid_unicode_utf8_first)], narrowed := true }
def FnExactParseLineUptoSaid : Prop := fnExactParseLineUptoRow.holds Tryd.pinned (OpenSpec.upto fnExactParseLineSpec)

/-- 'laws.FnLine', WHERE WHAT IT READS IS OF BULK AT MOST 1048576: true; the input reads as it did. -/
def fnLineUptoRow : OpenClaim := { program := "ytkehfdadplpaeaadoor", sum := "9408f028bfaf50a1af9f0cf66aca54b0a50f320c7d768d2c8137affdee066c12", func := "loop.example/s01525/laws.FnLine", spec := "fnLine", inPlace := ["internal/bytealg.CountString", "internal/bytealg.IndexByteString", "internal/bytealg.IndexString", "internal/abi.NoEscape"], recurses := true, named := ["loop.example/s01525/impl.shapes", "unicode/utf8.first", "unicode/utf8.acceptRanges", "internal/bytealg.MaxLen", "strconv.ErrSyntax", "strconv.ErrRange", "internal/strconv.uint64pow10", "math/bits.deBruijn32tab", "math/bits.deBruijn64tab"], maps := true, apart := false, laid := [("math/bits.deBruijn32tab", laid_math_bits_deBruijn32tab), ("math/bits.deBruijn64tab", laid_math_bits_deBruijn64tab), ("internal/strconv.uint64pow10", laid_internal_strconv_uint64pow10), ("unicode/utf8.acceptRanges", laid_unicode_utf8_acceptRanges), ("strconv.ErrRange", laid_strconv_ErrRange), ("strconv.ErrSyntax", laid_strconv_ErrSyntax), ("loop.example/s01525/impl.shapes", laid_loop_example_s01525_impl_shapes), ("unicode/utf8.first", laid_unicode_utf8_first)], narrowed := true }
def FnLineUptoSaid : Prop := fnLineUptoRow.holds Tryd.pinned (OpenSpec.upto fnLineSpec)

/-- 'laws.FnExactFormatAnswer', WHERE WHAT IT READS IS OF BULK AT MOST 1048576: true; the input reads as it did. -/
def fnExactFormatAnswerUptoRow : OpenClaim := { program := "ytkehfdadplpaeaadoor", sum := "9408f028bfaf50a1af9f0cf66aca54b0a50f320c7d768d2c8137affdee066c12", func := "loop.example/s01525/laws.FnExactFormatAnswer", spec := "fnExactFormatAnswer", inPlace := ["internal/abi.NoEscape", "internal/bytealg.MakeNoZero"], recurses := true, named := ["internal/strconv.uint64pow10", "math/bits.deBruijn32tab", "math/bits.deBruijn64tab"], apart := false, laid := [("math/bits.deBruijn32tab", laid_math_bits_deBruijn32tab), ("math/bits.deBruijn64tab", laid_math_bits_deBruijn64tab), ("internal/strconv.uint64pow10", laid_internal_strconv_uint64pow10)], narrowed := true }
def FnExactFormatAnswerUptoSaid : Prop := fnExactFormatAnswerUptoRow.holds Tryd.pinned (OpenSpec.upto fnExactFormatAnswerSpec)

end Rows
end Go.Proofs.YtkehfdadplpaeaaDoor
