/-
  No cell of these rows narrows 'for every input' (looked for: loops, veiled, ifaces, maps, wideKeys, modest, calm, conditions, laid).
  DERIVED. THE GIVEN ROWS OF THIS SEAT. 5 by the template 'for every input the law returns true; each argument reads behind the call as it read before'; 0 by the template 'total and deterministic' (their statements: YtikandlenlhdkaaTotals.lean).
  GIVEN WITH THE SEED: the statements are not yours to turn. If you find one false, say at which input.
  Laid BY PROGRAM, IN A SANDBOX (cutbox-rows.mjs): the forced cells as the released guide's own fill.sh prints them over the translation 2086fbf6147f97cd… (all of the seat's roots in one cut). By AI agents, Wed Nov 11 2026. No macro, syntax, notation, axiom, sorry.
-/
import Derived.Test.YtikandlenlhdkaaChecked
import GoSem.Claim
import GoSem.ClaimJoined
import GoSem.ClaimMapViews
import Derived.JoinedTies
import Derived.KernelRfl
namespace Go.Proofs.Ytikandlenlhdkaa
/- THE CELL 'sum', in the pinned program and in every row, IS THE sha256 OF THE DUMP (.gsa) THAT YtikandlenlhdkaaProg.lean LOADS. Nothing in Lean hashes anything: it is a label: what it is worth is what the hold of that sum in a sandbox is worth. -/
noncomputable def Try.pinned : Pinned := { name := "ytikandlenlhdkaa", sum := "2086fbf6147f97cd5dbe18a3513968ac13fc0b3239eedfdaebc0b126adbbfbf3", checked := Try.checked }
namespace Rows
def none {H : Type} : Left H := { results := [], args := [] }

/-- 'laws.FnExactBitRuns': WHATEVER THE INPUT: true; the input reads as it did. -/
def fnExactBitRunsSpec : ChangeSpec := { name := "fnExactBitRuns", fn := fun _ => fun
  | [d1, d2, d3] => { results := [.lit (.bool true)], args := [d1, d2, d3] }
  | _ => none }
def fnExactBitRunsRow : OpenClaim := { program := "ytikandlenlhdkaa", sum := "2086fbf6147f97cd5dbe18a3513968ac13fc0b3239eedfdaebc0b126adbbfbf3", func := "loop.example/s01525/laws.FnExactBitRuns", spec := "fnExactBitRuns", unfollowed := true, recurses := true, apart := false }
def FnExactBitRunsSaid : Prop := fnExactBitRunsRow.holds Try.pinned (OpenSpec.ofChange fnExactBitRunsSpec)

/-- ITS FALSE NEIGHBOUR: 'it returns false'. Refute it at one input. -/
def fnExactBitRunsWrong : ChangeSpec := { name := "fnExactBitRuns", fn := fun _ => fun
  | [d1, d2, d3] => { results := [.lit (.bool false)], args := [d1, d2, d3] }
  | _ => none }
def FnExactBitRunsWrongFalsely : Prop := fnExactBitRunsRow.holds Try.pinned (OpenSpec.ofChange fnExactBitRunsWrong)

/-- 'laws.FnBits': WHATEVER THE INPUT: true; the input reads as it did. -/
def fnBitsSpec : ChangeSpec := { name := "fnBits", fn := fun _ => fun
  | [d] => { results := [.lit (.bool true)], args := [d] }
  | _ => none }
def fnBitsRow : OpenClaim := { program := "ytikandlenlhdkaa", sum := "2086fbf6147f97cd5dbe18a3513968ac13fc0b3239eedfdaebc0b126adbbfbf3", func := "loop.example/s01525/laws.FnBits", spec := "fnBits", unfollowed := true, recurses := true, apart := false }
def FnBitsSaid : Prop := fnBitsRow.holds Try.pinned (OpenSpec.ofChange fnBitsSpec)

/-- ITS FALSE NEIGHBOUR: 'it returns false'. Refute it at one input. -/
def fnBitsWrong : ChangeSpec := { name := "fnBits", fn := fun _ => fun
  | [d] => { results := [.lit (.bool false)], args := [d] }
  | _ => none }
def FnBitsWrongFalsely : Prop := fnBitsRow.holds Try.pinned (OpenSpec.ofChange fnBitsWrong)

/-- 'laws.FnExactQuote': WHATEVER THE INPUT: true; the input reads as it did. -/
def fnExactQuoteSpec : ChangeSpec := { name := "fnExactQuote", fn := fun _ => fun
  | [d] => { results := [.lit (.bool true)], args := [d] }
  | _ => none }
def fnExactQuoteRow : OpenClaim := { program := "ytikandlenlhdkaa", sum := "2086fbf6147f97cd5dbe18a3513968ac13fc0b3239eedfdaebc0b126adbbfbf3", func := "loop.example/s01525/laws.FnExactQuote", spec := "fnExactQuote", inPlace := ["internal/abi.NoEscape"], apart := false }
def FnExactQuoteSaid : Prop := fnExactQuoteRow.holds Try.pinned (OpenSpec.ofChange fnExactQuoteSpec)

/-- ITS FALSE NEIGHBOUR: 'it returns false'. Refute it at one input. -/
def fnExactQuoteWrong : ChangeSpec := { name := "fnExactQuote", fn := fun _ => fun
  | [d] => { results := [.lit (.bool false)], args := [d] }
  | _ => none }
def FnExactQuoteWrongFalsely : Prop := fnExactQuoteRow.holds Try.pinned (OpenSpec.ofChange fnExactQuoteWrong)

/-- 'laws.FnExactUnquote': WHATEVER THE INPUT: true; the input reads as it did. -/
def fnExactUnquoteSpec : ChangeSpec := { name := "fnExactUnquote", fn := fun _ => fun
  | [d] => { results := [.lit (.bool true)], args := [d] }
  | _ => none }
def fnExactUnquoteRow : OpenClaim := { program := "ytikandlenlhdkaa", sum := "2086fbf6147f97cd5dbe18a3513968ac13fc0b3239eedfdaebc0b126adbbfbf3", func := "loop.example/s01525/laws.FnExactUnquote", spec := "fnExactUnquote", inPlace := ["internal/bytealg.IndexByteString", "internal/abi.NoEscape"], apart := false }
def FnExactUnquoteSaid : Prop := fnExactUnquoteRow.holds Try.pinned (OpenSpec.ofChange fnExactUnquoteSpec)

/-- ITS FALSE NEIGHBOUR: 'it returns false'. Refute it at one input. -/
def fnExactUnquoteWrong : ChangeSpec := { name := "fnExactUnquote", fn := fun _ => fun
  | [d] => { results := [.lit (.bool false)], args := [d] }
  | _ => none }
def FnExactUnquoteWrongFalsely : Prop := fnExactUnquoteRow.holds Try.pinned (OpenSpec.ofChange fnExactUnquoteWrong)

/-- 'laws.FnQuote': WHATEVER THE INPUT: true; the input reads as it did. -/
def fnQuoteSpec : ChangeSpec := { name := "fnQuote", fn := fun _ => fun
  | [d] => { results := [.lit (.bool true)], args := [d] }
  | _ => none }
def fnQuoteRow : OpenClaim := { program := "ytikandlenlhdkaa", sum := "2086fbf6147f97cd5dbe18a3513968ac13fc0b3239eedfdaebc0b126adbbfbf3", func := "loop.example/s01525/laws.FnQuote", spec := "fnQuote", inPlace := ["internal/abi.NoEscape", "internal/bytealg.IndexByteString"], apart := false }
def FnQuoteSaid : Prop := fnQuoteRow.holds Try.pinned (OpenSpec.ofChange fnQuoteSpec)

/-- ITS FALSE NEIGHBOUR: 'it returns false'. Refute it at one input. -/
def fnQuoteWrong : ChangeSpec := { name := "fnQuote", fn := fun _ => fun
  | [d] => { results := [.lit (.bool false)], args := [d] }
  | _ => none }
def FnQuoteWrongFalsely : Prop := fnQuoteRow.holds Try.pinned (OpenSpec.ofChange fnQuoteWrong)

/- THE SECOND FORM. 'bulk': how many values and letters a reading holds, each counted each time it is reached (what is shared counts as often as it is met; a slice's spare places count too). A statement '..UptoSaid' is the law's where the arguments, and the package variables that the reading takes, are together of bulk at most 1048576: NARROWER than '..Said'. Prove '..Said' where nothing that the law and all that it calls make is longer than what came in: it says more and counts as full. Else prove '..UptoSaid'. A law counts once. -/
mutual
def uptoBulk {H : Type} : DataW H → Nat
  | .lit (.string bytes) => bytes.length + 1
  | .lit _ => 1
  | .nil => 1
  | .ptr d => uptoBulk d + 1
  | .slice elems spare => uptoBulkAll elems + uptoBulkAll spare + 1
  | .agg parts => uptoBulkAll parts + 1
  | .iface _ d => uptoBulk d + 1
  | .map entries => uptoBulkEntries entries + 1
  | .held _ => 1
def uptoBulkAll {H : Type} : List (DataW H) → Nat
  | [] => 0
  | d :: r => uptoBulk d + uptoBulkAll r
def uptoBulkEntries {H : Type} : List (Lit × DataW H) → Nat
  | [] => 0
  | x :: r => uptoBulkEntry x + uptoBulkEntries r
def uptoBulkEntry {H : Type} : Lit × DataW H → Nat
  | (.string bytes, d) => bytes.length + uptoBulk d + 1
  | (_, d) => uptoBulk d + 1
 end
def uptoSmall : (H : Type) → List (DataW H) → Bool := fun _ ds => decide (uptoBulkAll ds ≤ 1048576)
def OpenSpec.upto (s : _root_.Go.ChangeSpec) : _root_.Go.OpenSpec := { _root_.Go.OpenSpec.ofChange s with cond := some uptoSmall }

/-- 'laws.FnExactBitRuns', WHERE WHAT IT READS IS OF BULK AT MOST 1048576: true; the input reads as it did. -/
def fnExactBitRunsUptoRow : OpenClaim := { program := "ytikandlenlhdkaa", sum := "2086fbf6147f97cd5dbe18a3513968ac13fc0b3239eedfdaebc0b126adbbfbf3", func := "loop.example/s01525/laws.FnExactBitRuns", spec := "fnExactBitRuns", unfollowed := true, recurses := true, apart := false, narrowed := true }
def FnExactBitRunsUptoSaid : Prop := fnExactBitRunsUptoRow.holds Try.pinned (OpenSpec.upto fnExactBitRunsSpec)

/-- 'laws.FnBits', WHERE WHAT IT READS IS OF BULK AT MOST 1048576: true; the input reads as it did. -/
def fnBitsUptoRow : OpenClaim := { program := "ytikandlenlhdkaa", sum := "2086fbf6147f97cd5dbe18a3513968ac13fc0b3239eedfdaebc0b126adbbfbf3", func := "loop.example/s01525/laws.FnBits", spec := "fnBits", unfollowed := true, recurses := true, apart := false, narrowed := true }
def FnBitsUptoSaid : Prop := fnBitsUptoRow.holds Try.pinned (OpenSpec.upto fnBitsSpec)

/-- 'laws.FnExactQuote', WHERE WHAT IT READS IS OF BULK AT MOST 1048576: true; the input reads as it did. -/
def fnExactQuoteUptoRow : OpenClaim := { program := "ytikandlenlhdkaa", sum := "2086fbf6147f97cd5dbe18a3513968ac13fc0b3239eedfdaebc0b126adbbfbf3", func := "loop.example/s01525/laws.FnExactQuote", spec := "fnExactQuote", inPlace := ["internal/abi.NoEscape"], apart := false, narrowed := true }
def FnExactQuoteUptoSaid : Prop := fnExactQuoteUptoRow.holds Try.pinned (OpenSpec.upto fnExactQuoteSpec)

/-- 'laws.FnExactUnquote', WHERE WHAT IT READS IS OF BULK AT MOST 1048576: true; the input reads as it did. -/
def fnExactUnquoteUptoRow : OpenClaim := { program := "ytikandlenlhdkaa", sum := "2086fbf6147f97cd5dbe18a3513968ac13fc0b3239eedfdaebc0b126adbbfbf3", func := "loop.example/s01525/laws.FnExactUnquote", spec := "fnExactUnquote", inPlace := ["internal/bytealg.IndexByteString", "internal/abi.NoEscape"], apart := false, narrowed := true }
def FnExactUnquoteUptoSaid : Prop := fnExactUnquoteUptoRow.holds Try.pinned (OpenSpec.upto fnExactUnquoteSpec)

/-- 'laws.FnQuote', WHERE WHAT IT READS IS OF BULK AT MOST 1048576: true; the input reads as it did. -/
def fnQuoteUptoRow : OpenClaim := { program := "ytikandlenlhdkaa", sum := "2086fbf6147f97cd5dbe18a3513968ac13fc0b3239eedfdaebc0b126adbbfbf3", func := "loop.example/s01525/laws.FnQuote", spec := "fnQuote", inPlace := ["internal/abi.NoEscape", "internal/bytealg.IndexByteString"], apart := false, narrowed := true }
def FnQuoteUptoSaid : Prop := fnQuoteUptoRow.holds Try.pinned (OpenSpec.upto fnQuoteSpec)

end Rows
end Go.Proofs.Ytikandlenlhdkaa
