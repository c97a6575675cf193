/-
  No cell of these rows narrows 'for every input' (looked for: loops, veiled, ifaces, maps, wideKeys, modest, calm, conditions, laid).
  DERIVED. THE GIVEN ROWS OF THIS SEAT. 12 by the template 'for every input the law returns true; each argument reads behind the call as it read before'; 0 by the template 'total and deterministic' (their statements: YtmaeofmmainmlaaTotals.lean).
  GIVEN WITH THE SEED: the statements are not yours to turn. If you find one false, say at which input.
  Laid BY PROGRAM, IN A SANDBOX (cutbox-rows.mjs): the forced cells as the released guide's own fill.sh prints them over the translation 97a23d9074cd8c54… (all of the seat's roots in one cut). By AI agents, Wed Nov 11 2026. No macro, syntax, notation, axiom, sorry.
-/
import Derived.Test.YtmaeofmmainmlaaChecked
import GoSem.Claim
import GoSem.ClaimJoined
import GoSem.ClaimMapViews
import Derived.JoinedTies
import Derived.KernelRfl
namespace Go.Proofs.Ytmaeofmmainmlaa
/- THE CELL 'sum', in the pinned program and in every row, IS THE sha256 OF THE DUMP (.gsa) THAT YtmaeofmmainmlaaProg.lean LOADS. Nothing in Lean hashes anything: it is a label: what it is worth is what the hold of that sum in a sandbox is worth. -/
noncomputable def Try.pinned : Pinned := { name := "ytmaeofmmainmlaa", sum := "97a23d9074cd8c54da37f26c98faf6d14f0d4228586f40bb27720950c17489fb", checked := Try.checked }
namespace Rows
def none {H : Type} : Left H := { results := [], args := [] }

/-- 'laws.FnExactUnescape': WHATEVER THE INPUT: true; the input reads as it did. -/
def fnExactUnescapeSpec : ChangeSpec := { name := "fnExactUnescape", fn := fun _ => fun
  | [d1, d2] => { results := [.lit (.bool true)], args := [d1, d2] }
  | _ => none }
def fnExactUnescapeRow : OpenClaim := { program := "ytmaeofmmainmlaa", sum := "97a23d9074cd8c54da37f26c98faf6d14f0d4228586f40bb27720950c17489fb", func := "loop.example/s01525/laws.FnExactUnescape", spec := "fnExactUnescape", apart := false }
def FnExactUnescapeSaid : Prop := fnExactUnescapeRow.holds Try.pinned (OpenSpec.ofChange fnExactUnescapeSpec)

/-- ITS FALSE NEIGHBOUR: 'it returns false'. Refute it at one input. -/
def fnExactUnescapeWrong : ChangeSpec := { name := "fnExactUnescape", fn := fun _ => fun
  | [d1, d2] => { results := [.lit (.bool false)], args := [d1, d2] }
  | _ => none }
def FnExactUnescapeWrongFalsely : Prop := fnExactUnescapeRow.holds Try.pinned (OpenSpec.ofChange fnExactUnescapeWrong)

/-- 'laws.FnExactEscape': WHATEVER THE INPUT: true; the input reads as it did. -/
def fnExactEscapeSpec : ChangeSpec := { name := "fnExactEscape", fn := fun _ => fun
  | [d] => { results := [.lit (.bool true)], args := [d] }
  | _ => none }
def fnExactEscapeRow : OpenClaim := { program := "ytmaeofmmainmlaa", sum := "97a23d9074cd8c54da37f26c98faf6d14f0d4228586f40bb27720950c17489fb", func := "loop.example/s01525/laws.FnExactEscape", spec := "fnExactEscape", apart := false }
def FnExactEscapeSaid : Prop := fnExactEscapeRow.holds Try.pinned (OpenSpec.ofChange fnExactEscapeSpec)

/-- ITS FALSE NEIGHBOUR: 'it returns false'. Refute it at one input. -/
def fnExactEscapeWrong : ChangeSpec := { name := "fnExactEscape", fn := fun _ => fun
  | [d] => { results := [.lit (.bool false)], args := [d] }
  | _ => none }
def FnExactEscapeWrongFalsely : Prop := fnExactEscapeRow.holds Try.pinned (OpenSpec.ofChange fnExactEscapeWrong)

/-- 'laws.FnEscape': WHATEVER THE INPUT: true; the input reads as it did. -/
def fnEscapeSpec : ChangeSpec := { name := "fnEscape", fn := fun _ => fun
  | [d] => { results := [.lit (.bool true)], args := [d] }
  | _ => none }
def fnEscapeRow : OpenClaim := { program := "ytmaeofmmainmlaa", sum := "97a23d9074cd8c54da37f26c98faf6d14f0d4228586f40bb27720950c17489fb", func := "loop.example/s01525/laws.FnEscape", spec := "fnEscape", apart := false }
def FnEscapeSaid : Prop := fnEscapeRow.holds Try.pinned (OpenSpec.ofChange fnEscapeSpec)

/-- ITS FALSE NEIGHBOUR: 'it returns false'. Refute it at one input. -/
def fnEscapeWrong : ChangeSpec := { name := "fnEscape", fn := fun _ => fun
  | [d] => { results := [.lit (.bool false)], args := [d] }
  | _ => none }
def FnEscapeWrongFalsely : Prop := fnEscapeRow.holds Try.pinned (OpenSpec.ofChange fnEscapeWrong)

/-- 'laws.FnExactBitPut': WHATEVER THE INPUT: true; the input reads as it did. -/
def fnExactBitPutSpec : ChangeSpec := { name := "fnExactBitPut", fn := fun _ => fun
  | [d1, d2, d3] => { results := [.lit (.bool true)], args := [d1, d2, d3] }
  | _ => none }
def fnExactBitPutRow : OpenClaim := { program := "ytmaeofmmainmlaa", sum := "97a23d9074cd8c54da37f26c98faf6d14f0d4228586f40bb27720950c17489fb", func := "loop.example/s01525/laws.FnExactBitPut", spec := "fnExactBitPut", apart := false }
def FnExactBitPutSaid : Prop := fnExactBitPutRow.holds Try.pinned (OpenSpec.ofChange fnExactBitPutSpec)

/-- ITS FALSE NEIGHBOUR: 'it returns false'. Refute it at one input. -/
def fnExactBitPutWrong : ChangeSpec := { name := "fnExactBitPut", fn := fun _ => fun
  | [d1, d2, d3] => { results := [.lit (.bool false)], args := [d1, d2, d3] }
  | _ => none }
def FnExactBitPutWrongFalsely : Prop := fnExactBitPutRow.holds Try.pinned (OpenSpec.ofChange fnExactBitPutWrong)

/-- 'laws.FnExactBitRuns': WHATEVER THE INPUT: true; the input reads as it did. -/
def fnExactBitRunsSpec : ChangeSpec := { name := "fnExactBitRuns", fn := fun _ => fun
  | [d1, d2, d3] => { results := [.lit (.bool true)], args := [d1, d2, d3] }
  | _ => none }
def fnExactBitRunsRow : OpenClaim := { program := "ytmaeofmmainmlaa", sum := "97a23d9074cd8c54da37f26c98faf6d14f0d4228586f40bb27720950c17489fb", func := "loop.example/s01525/laws.FnExactBitRuns", spec := "fnExactBitRuns", unfollowed := true, recurses := true, apart := false }
def FnExactBitRunsSaid : Prop := fnExactBitRunsRow.holds Try.pinned (OpenSpec.ofChange fnExactBitRunsSpec)

/-- ITS FALSE NEIGHBOUR: 'it returns false'. Refute it at one input. -/
def fnExactBitRunsWrong : ChangeSpec := { name := "fnExactBitRuns", fn := fun _ => fun
  | [d1, d2, d3] => { results := [.lit (.bool false)], args := [d1, d2, d3] }
  | _ => none }
def FnExactBitRunsWrongFalsely : Prop := fnExactBitRunsRow.holds Try.pinned (OpenSpec.ofChange fnExactBitRunsWrong)

/-- 'laws.FnBits': WHATEVER THE INPUT: true; the input reads as it did. -/
def fnBitsSpec : ChangeSpec := { name := "fnBits", fn := fun _ => fun
  | [d] => { results := [.lit (.bool true)], args := [d] }
  | _ => none }
def fnBitsRow : OpenClaim := { program := "ytmaeofmmainmlaa", sum := "97a23d9074cd8c54da37f26c98faf6d14f0d4228586f40bb27720950c17489fb", func := "loop.example/s01525/laws.FnBits", spec := "fnBits", unfollowed := true, recurses := true, apart := false }
def FnBitsSaid : Prop := fnBitsRow.holds Try.pinned (OpenSpec.ofChange fnBitsSpec)

/-- ITS FALSE NEIGHBOUR: 'it returns false'. Refute it at one input. -/
def fnBitsWrong : ChangeSpec := { name := "fnBits", fn := fun _ => fun
  | [d] => { results := [.lit (.bool false)], args := [d] }
  | _ => none }
def FnBitsWrongFalsely : Prop := fnBitsRow.holds Try.pinned (OpenSpec.ofChange fnBitsWrong)

/-- 'laws.FnExactSpans': WHATEVER THE INPUT: true; the input reads as it did. -/
def fnExactSpansSpec : ChangeSpec := { name := "fnExactSpans", fn := fun _ => fun
  | [d1, d2] => { results := [.lit (.bool true)], args := [d1, d2] }
  | _ => none }
def fnExactSpansRow : OpenClaim := { program := "ytmaeofmmainmlaa", sum := "97a23d9074cd8c54da37f26c98faf6d14f0d4228586f40bb27720950c17489fb", func := "loop.example/s01525/laws.FnExactSpans", spec := "fnExactSpans", apart := false }
def FnExactSpansSaid : Prop := fnExactSpansRow.holds Try.pinned (OpenSpec.ofChange fnExactSpansSpec)

/-- ITS FALSE NEIGHBOUR: 'it returns false'. Refute it at one input. -/
def fnExactSpansWrong : ChangeSpec := { name := "fnExactSpans", fn := fun _ => fun
  | [d1, d2] => { results := [.lit (.bool false)], args := [d1, d2] }
  | _ => none }
def FnExactSpansWrongFalsely : Prop := fnExactSpansRow.holds Try.pinned (OpenSpec.ofChange fnExactSpansWrong)

/-- 'laws.FnPieces': WHATEVER THE INPUT: true; the input reads as it did. -/
def fnPiecesSpec : ChangeSpec := { name := "fnPieces", fn := fun _ => fun
  | [d] => { results := [.lit (.bool true)], args := [d] }
  | _ => none }
def fnPiecesRow : OpenClaim := { program := "ytmaeofmmainmlaa", sum := "97a23d9074cd8c54da37f26c98faf6d14f0d4228586f40bb27720950c17489fb", func := "loop.example/s01525/laws.FnPieces", spec := "fnPieces", apart := false }
def FnPiecesSaid : Prop := fnPiecesRow.holds Try.pinned (OpenSpec.ofChange fnPiecesSpec)

/-- ITS FALSE NEIGHBOUR: 'it returns false'. Refute it at one input. -/
def fnPiecesWrong : ChangeSpec := { name := "fnPieces", fn := fun _ => fun
  | [d] => { results := [.lit (.bool false)], args := [d] }
  | _ => none }
def FnPiecesWrongFalsely : Prop := fnPiecesRow.holds Try.pinned (OpenSpec.ofChange fnPiecesWrong)

/-- 'laws.FnExactLayout': WHATEVER THE INPUT: true; the input reads as it did. -/
def fnExactLayoutSpec : ChangeSpec := { name := "fnExactLayout", fn := fun _ => fun
  | [d] => { results := [.lit (.bool true)], args := [d] }
  | _ => none }
def fnExactLayoutRow : OpenClaim := { program := "ytmaeofmmainmlaa", sum := "97a23d9074cd8c54da37f26c98faf6d14f0d4228586f40bb27720950c17489fb", func := "loop.example/s01525/laws.FnExactLayout", spec := "fnExactLayout", apart := false }
def FnExactLayoutSaid : Prop := fnExactLayoutRow.holds Try.pinned (OpenSpec.ofChange fnExactLayoutSpec)

/-- ITS FALSE NEIGHBOUR: 'it returns false'. Refute it at one input. -/
def fnExactLayoutWrong : ChangeSpec := { name := "fnExactLayout", fn := fun _ => fun
  | [d] => { results := [.lit (.bool false)], args := [d] }
  | _ => none }
def FnExactLayoutWrongFalsely : Prop := fnExactLayoutRow.holds Try.pinned (OpenSpec.ofChange fnExactLayoutWrong)

/-- 'laws.FnExactQuote': WHATEVER THE INPUT: true; the input reads as it did. -/
def fnExactQuoteSpec : ChangeSpec := { name := "fnExactQuote", fn := fun _ => fun
  | [d] => { results := [.lit (.bool true)], args := [d] }
  | _ => none }
def fnExactQuoteRow : OpenClaim := { program := "ytmaeofmmainmlaa", sum := "97a23d9074cd8c54da37f26c98faf6d14f0d4228586f40bb27720950c17489fb", func := "loop.example/s01525/laws.FnExactQuote", spec := "fnExactQuote", inPlace := ["internal/abi.NoEscape"], apart := false }
def FnExactQuoteSaid : Prop := fnExactQuoteRow.holds Try.pinned (OpenSpec.ofChange fnExactQuoteSpec)

/-- ITS FALSE NEIGHBOUR: 'it returns false'. Refute it at one input. -/
def fnExactQuoteWrong : ChangeSpec := { name := "fnExactQuote", fn := fun _ => fun
  | [d] => { results := [.lit (.bool false)], args := [d] }
  | _ => none }
def FnExactQuoteWrongFalsely : Prop := fnExactQuoteRow.holds Try.pinned (OpenSpec.ofChange fnExactQuoteWrong)

/-- 'laws.FnExactUnquote': WHATEVER THE INPUT: true; the input reads as it did. -/
def fnExactUnquoteSpec : ChangeSpec := { name := "fnExactUnquote", fn := fun _ => fun
  | [d] => { results := [.lit (.bool true)], args := [d] }
  | _ => none }
def fnExactUnquoteRow : OpenClaim := { program := "ytmaeofmmainmlaa", sum := "97a23d9074cd8c54da37f26c98faf6d14f0d4228586f40bb27720950c17489fb", func := "loop.example/s01525/laws.FnExactUnquote", spec := "fnExactUnquote", inPlace := ["internal/bytealg.IndexByteString", "internal/abi.NoEscape"], apart := false }
def FnExactUnquoteSaid : Prop := fnExactUnquoteRow.holds Try.pinned (OpenSpec.ofChange fnExactUnquoteSpec)

/-- ITS FALSE NEIGHBOUR: 'it returns false'. Refute it at one input. -/
def fnExactUnquoteWrong : ChangeSpec := { name := "fnExactUnquote", fn := fun _ => fun
  | [d] => { results := [.lit (.bool false)], args := [d] }
  | _ => none }
def FnExactUnquoteWrongFalsely : Prop := fnExactUnquoteRow.holds Try.pinned (OpenSpec.ofChange fnExactUnquoteWrong)

/-- 'laws.FnQuote': WHATEVER THE INPUT: true; the input reads as it did. -/
def fnQuoteSpec : ChangeSpec := { name := "fnQuote", fn := fun _ => fun
  | [d] => { results := [.lit (.bool true)], args := [d] }
  | _ => none }
def fnQuoteRow : OpenClaim := { program := "ytmaeofmmainmlaa", sum := "97a23d9074cd8c54da37f26c98faf6d14f0d4228586f40bb27720950c17489fb", func := "loop.example/s01525/laws.FnQuote", spec := "fnQuote", inPlace := ["internal/abi.NoEscape", "internal/bytealg.IndexByteString"], apart := false }
def FnQuoteSaid : Prop := fnQuoteRow.holds Try.pinned (OpenSpec.ofChange fnQuoteSpec)

/-- ITS FALSE NEIGHBOUR: 'it returns false'. Refute it at one input. -/
def fnQuoteWrong : ChangeSpec := { name := "fnQuote", fn := fun _ => fun
  | [d] => { results := [.lit (.bool false)], args := [d] }
  | _ => none }
def FnQuoteWrongFalsely : Prop := fnQuoteRow.holds Try.pinned (OpenSpec.ofChange fnQuoteWrong)

/- THE SECOND FORM. 'bulk': how many values and letters a reading holds, each counted each time it is reached (what is shared counts as often as it is met; a slice's spare places count too). A statement '..UptoSaid' is the law's where the arguments, and the package variables that the reading takes, are together of bulk at most 1048576: NARROWER than '..Said'. Prove '..Said' where nothing that the law and all that it calls make is longer than what came in: it says more and counts as full. Else prove '..UptoSaid'. A law counts once. -/
mutual
def uptoBulk {H : Type} : DataW H → Nat
  | .lit (.string bytes) => bytes.length + 1
  | .lit _ => 1
  | .nil => 1
  | .ptr d => uptoBulk d + 1
  | .slice elems spare => uptoBulkAll elems + uptoBulkAll spare + 1
  | .agg parts => uptoBulkAll parts + 1
  | .iface _ d => uptoBulk d + 1
  | .map entries => uptoBulkEntries entries + 1
  | .held _ => 1
def uptoBulkAll {H : Type} : List (DataW H) → Nat
  | [] => 0
  | d :: r => uptoBulk d + uptoBulkAll r
def uptoBulkEntries {H : Type} : List (Lit × DataW H) → Nat
  | [] => 0
  | x :: r => uptoBulkEntry x + uptoBulkEntries r
def uptoBulkEntry {H : Type} : Lit × DataW H → Nat
  | (.string bytes, d) => bytes.length + uptoBulk d + 1
  | (_, d) => uptoBulk d + 1
 end
def uptoSmall : (H : Type) → List (DataW H) → Bool := fun _ ds => decide (uptoBulkAll ds ≤ 1048576)
def OpenSpec.upto (s : _root_.Go.ChangeSpec) : _root_.Go.OpenSpec := { _root_.Go.OpenSpec.ofChange s with cond := some uptoSmall }

/-- 'laws.FnExactUnescape', WHERE WHAT IT READS IS OF BULK AT MOST 1048576: true; the input reads as it did. -/
def fnExactUnescapeUptoRow : OpenClaim := { program := "ytmaeofmmainmlaa", sum := "97a23d9074cd8c54da37f26c98faf6d14f0d4228586f40bb27720950c17489fb", func := "loop.example/s01525/laws.FnExactUnescape", spec := "fnExactUnescape", apart := false, narrowed := true }
def FnExactUnescapeUptoSaid : Prop := fnExactUnescapeUptoRow.holds Try.pinned (OpenSpec.upto fnExactUnescapeSpec)

/-- 'laws.FnExactEscape', WHERE WHAT IT READS IS OF BULK AT MOST 1048576: true; the input reads as it did. -/
def fnExactEscapeUptoRow : OpenClaim := { program := "ytmaeofmmainmlaa", sum := "97a23d9074cd8c54da37f26c98faf6d14f0d4228586f40bb27720950c17489fb", func := "loop.example/s01525/laws.FnExactEscape", spec := "fnExactEscape", apart := false, narrowed := true }
def FnExactEscapeUptoSaid : Prop := fnExactEscapeUptoRow.holds Try.pinned (OpenSpec.upto fnExactEscapeSpec)

/-- 'laws.FnEscape', WHERE WHAT IT READS IS OF BULK AT MOST 1048576: true; the input reads as it did. -/
def fnEscapeUptoRow : OpenClaim := { program := "ytmaeofmmainmlaa", sum := "97a23d9074cd8c54da37f26c98faf6d14f0d4228586f40bb27720950c17489fb", func := "loop.example/s01525/laws.FnEscape", spec := "fnEscape", apart := false, narrowed := true }
def FnEscapeUptoSaid : Prop := fnEscapeUptoRow.holds Try.pinned (OpenSpec.upto fnEscapeSpec)

/-- 'laws.FnExactBitPut', WHERE WHAT IT READS IS OF BULK AT MOST 1048576: true; the input reads as it did. -/
def fnExactBitPutUptoRow : OpenClaim := { program := "ytmaeofmmainmlaa", sum := "97a23d9074cd8c54da37f26c98faf6d14f0d4228586f40bb27720950c17489fb", func := "loop.example/s01525/laws.FnExactBitPut", spec := "fnExactBitPut", apart := false, narrowed := true }
def FnExactBitPutUptoSaid : Prop := fnExactBitPutUptoRow.holds Try.pinned (OpenSpec.upto fnExactBitPutSpec)

/-- 'laws.FnExactBitRuns', WHERE WHAT IT READS IS OF BULK AT MOST 1048576: true; the input reads as it did. -/
def fnExactBitRunsUptoRow : OpenClaim := { program := "ytmaeofmmainmlaa", sum := "97a23d9074cd8c54da37f26c98faf6d14f0d4228586f40bb27720950c17489fb", func := "loop.example/s01525/laws.FnExactBitRuns", spec := "fnExactBitRuns", unfollowed := true, recurses := true, apart := false, narrowed := true }
def FnExactBitRunsUptoSaid : Prop := fnExactBitRunsUptoRow.holds Try.pinned (OpenSpec.upto fnExactBitRunsSpec)

/-- 'laws.FnBits', WHERE WHAT IT READS IS OF BULK AT MOST 1048576: true; the input reads as it did. -/
def fnBitsUptoRow : OpenClaim := { program := "ytmaeofmmainmlaa", sum := "97a23d9074cd8c54da37f26c98faf6d14f0d4228586f40bb27720950c17489fb", func := "loop.example/s01525/laws.FnBits", spec := "fnBits", unfollowed := true, recurses := true, apart := false, narrowed := true }
def FnBitsUptoSaid : Prop := fnBitsUptoRow.holds Try.pinned (OpenSpec.upto fnBitsSpec)

/-- 'laws.FnExactSpans', WHERE WHAT IT READS IS OF BULK AT MOST 1048576: true; the input reads as it did. -/
def fnExactSpansUptoRow : OpenClaim := { program := "ytmaeofmmainmlaa", sum := "97a23d9074cd8c54da37f26c98faf6d14f0d4228586f40bb27720950c17489fb", func := "loop.example/s01525/laws.FnExactSpans", spec := "fnExactSpans", apart := false, narrowed := true }
def FnExactSpansUptoSaid : Prop := fnExactSpansUptoRow.holds Try.pinned (OpenSpec.upto fnExactSpansSpec)

/-- 'laws.FnPieces', WHERE WHAT IT READS IS OF BULK AT MOST 1048576: true; the input reads as it did. -/
def fnPiecesUptoRow : OpenClaim := { program := "ytmaeofmmainmlaa", sum := "97a23d9074cd8c54da37f26c98faf6d14f0d4228586f40bb27720950c17489fb", func := "loop.example/s01525/laws.FnPieces", spec := "fnPieces", apart := false, narrowed := true }
def FnPiecesUptoSaid : Prop := fnPiecesUptoRow.holds Try.pinned (OpenSpec.upto fnPiecesSpec)

/-- 'laws.FnExactLayout', WHERE WHAT IT READS IS OF BULK AT MOST 1048576: true; the input reads as it did. -/
def fnExactLayoutUptoRow : OpenClaim := { program := "ytmaeofmmainmlaa", sum := "97a23d9074cd8c54da37f26c98faf6d14f0d4228586f40bb27720950c17489fb", func := "loop.example/s01525/laws.FnExactLayout", spec := "fnExactLayout", apart := false, narrowed := true }
def FnExactLayoutUptoSaid : Prop := fnExactLayoutUptoRow.holds Try.pinned (OpenSpec.upto fnExactLayoutSpec)

/-- 'laws.FnExactQuote', WHERE WHAT IT READS IS OF BULK AT MOST 1048576: true; the input reads as it did. -/
def fnExactQuoteUptoRow : OpenClaim := { program := "ytmaeofmmainmlaa", sum := "97a23d9074cd8c54da37f26c98faf6d14f0d4228586f40bb27720950c17489fb", func := "loop.example/s01525/laws.FnExactQuote", spec := "fnExactQuote", inPlace := ["internal/abi.NoEscape"], apart := false, narrowed := true }
def FnExactQuoteUptoSaid : Prop := fnExactQuoteUptoRow.holds Try.pinned (OpenSpec.upto fnExactQuoteSpec)

/-- 'laws.FnExactUnquote', WHERE WHAT IT READS IS OF BULK AT MOST 1048576: true; the input reads as it did. -/
def fnExactUnquoteUptoRow : OpenClaim := { program := "ytmaeofmmainmlaa", sum := "97a23d9074cd8c54da37f26c98faf6d14f0d4228586f40bb27720950c17489fb", func := "loop.example/s01525/laws.FnExactUnquote", spec := "fnExactUnquote", inPlace := ["internal/bytealg.IndexByteString", "internal/abi.NoEscape"], apart := false, narrowed := true }
def FnExactUnquoteUptoSaid : Prop := fnExactUnquoteUptoRow.holds Try.pinned (OpenSpec.upto fnExactUnquoteSpec)

/-- 'laws.FnQuote', WHERE WHAT IT READS IS OF BULK AT MOST 1048576: true; the input reads as it did. -/
def fnQuoteUptoRow : OpenClaim := { program := "ytmaeofmmainmlaa", sum := "97a23d9074cd8c54da37f26c98faf6d14f0d4228586f40bb27720950c17489fb", func := "loop.example/s01525/laws.FnQuote", spec := "fnQuote", inPlace := ["internal/abi.NoEscape", "internal/bytealg.IndexByteString"], apart := false, narrowed := true }
def FnQuoteUptoSaid : Prop := fnQuoteUptoRow.holds Try.pinned (OpenSpec.upto fnQuoteSpec)

end Rows
end Go.Proofs.Ytmaeofmmainmlaa
