/-
  No cell of these rows narrows 'for every input' (looked for: loops, veiled, ifaces, maps, wideKeys, modest, calm, conditions, laid).
  DERIVED. THE GIVEN ROWS OF THIS SEAT. 8 by the template 'for every input the law returns true; each argument reads behind the call as it read before'; 0 by the template 'total and deterministic' (their statements: YtplefdkookhlhaaTotals.lean).
  GIVEN WITH THE SEED: the statements are not yours to turn. If you find one false, say at which input.
  Laid BY PROGRAM, IN A SANDBOX (cutbox-rows.mjs): the forced cells as the released guide's own fill.sh prints them over the translation 4067d89cb5a031ee… (all of the seat's roots in one cut). By AI agents, Wed Nov 11 2026. No macro, syntax, notation, axiom, sorry.
-/
import Derived.Test.YtplefdkookhlhaaChecked
import GoSem.Claim
import GoSem.ClaimJoined
import GoSem.ClaimMapViews
import Derived.JoinedTies
import Derived.KernelRfl
namespace Go.Proofs.Ytplefdkookhlhaa
/- THE CELL 'sum', in the pinned program and in every row, IS THE sha256 OF THE DUMP (.gsa) THAT YtplefdkookhlhaaProg.lean LOADS. Nothing in Lean hashes anything: it is a label: what it is worth is what the hold of that sum in a sandbox is worth. -/
noncomputable def Try.pinned : Pinned := { name := "ytplefdkookhlhaa", sum := "4067d89cb5a031eed18651c47d2f2a3295c1c15f0c5cb9470dbc1ae10cd83789", checked := Try.checked }
namespace Rows
def none {H : Type} : Left H := { results := [], args := [] }

/-- 'laws.FnExactEncodePointers': WHATEVER THE INPUT: true; the input reads as it did. -/
def fnExactEncodePointersSpec : ChangeSpec := { name := "fnExactEncodePointers", fn := fun _ => fun
  | [d] => { results := [.lit (.bool true)], args := [d] }
  | _ => none }
def fnExactEncodePointersRow : OpenClaim := { program := "ytplefdkookhlhaa", sum := "4067d89cb5a031eed18651c47d2f2a3295c1c15f0c5cb9470dbc1ae10cd83789", func := "loop.example/s01525/laws.FnExactEncodePointers", spec := "fnExactEncodePointers", apart := false }
def FnExactEncodePointersSaid : Prop := fnExactEncodePointersRow.holds Try.pinned (OpenSpec.ofChange fnExactEncodePointersSpec)

/-- ITS FALSE NEIGHBOUR: 'it returns false'. Refute it at one input. -/
def fnExactEncodePointersWrong : ChangeSpec := { name := "fnExactEncodePointers", fn := fun _ => fun
  | [d] => { results := [.lit (.bool false)], args := [d] }
  | _ => none }
def FnExactEncodePointersWrongFalsely : Prop := fnExactEncodePointersRow.holds Try.pinned (OpenSpec.ofChange fnExactEncodePointersWrong)

/-- 'laws.FnExactDecodePointers': WHATEVER THE INPUT: true; the input reads as it did. -/
def fnExactDecodePointersSpec : ChangeSpec := { name := "fnExactDecodePointers", fn := fun _ => fun
  | [d] => { results := [.lit (.bool true)], args := [d] }
  | _ => none }
def fnExactDecodePointersRow : OpenClaim := { program := "ytplefdkookhlhaa", sum := "4067d89cb5a031eed18651c47d2f2a3295c1c15f0c5cb9470dbc1ae10cd83789", func := "loop.example/s01525/laws.FnExactDecodePointers", spec := "fnExactDecodePointers", apart := false }
def FnExactDecodePointersSaid : Prop := fnExactDecodePointersRow.holds Try.pinned (OpenSpec.ofChange fnExactDecodePointersSpec)

/-- ITS FALSE NEIGHBOUR: 'it returns false'. Refute it at one input. -/
def fnExactDecodePointersWrong : ChangeSpec := { name := "fnExactDecodePointers", fn := fun _ => fun
  | [d] => { results := [.lit (.bool false)], args := [d] }
  | _ => none }
def FnExactDecodePointersWrongFalsely : Prop := fnExactDecodePointersRow.holds Try.pinned (OpenSpec.ofChange fnExactDecodePointersWrong)

/-- 'laws.FnExactEncodeCommit': WHATEVER THE INPUT: true; the input reads as it did. -/
def fnExactEncodeCommitSpec : ChangeSpec := { name := "fnExactEncodeCommit", fn := fun _ => fun
  | [d] => { results := [.lit (.bool true)], args := [d] }
  | _ => none }
def fnExactEncodeCommitRow : OpenClaim := { program := "ytplefdkookhlhaa", sum := "4067d89cb5a031eed18651c47d2f2a3295c1c15f0c5cb9470dbc1ae10cd83789", func := "loop.example/s01525/laws.FnExactEncodeCommit", spec := "fnExactEncodeCommit", apart := false }
def FnExactEncodeCommitSaid : Prop := fnExactEncodeCommitRow.holds Try.pinned (OpenSpec.ofChange fnExactEncodeCommitSpec)

/-- ITS FALSE NEIGHBOUR: 'it returns false'. Refute it at one input. -/
def fnExactEncodeCommitWrong : ChangeSpec := { name := "fnExactEncodeCommit", fn := fun _ => fun
  | [d] => { results := [.lit (.bool false)], args := [d] }
  | _ => none }
def FnExactEncodeCommitWrongFalsely : Prop := fnExactEncodeCommitRow.holds Try.pinned (OpenSpec.ofChange fnExactEncodeCommitWrong)

/-- 'laws.FnExactEncodeRevoke': WHATEVER THE INPUT: true; the input reads as it did. -/
def fnExactEncodeRevokeSpec : ChangeSpec := { name := "fnExactEncodeRevoke", fn := fun _ => fun
  | [d] => { results := [.lit (.bool true)], args := [d] }
  | _ => none }
def fnExactEncodeRevokeRow : OpenClaim := { program := "ytplefdkookhlhaa", sum := "4067d89cb5a031eed18651c47d2f2a3295c1c15f0c5cb9470dbc1ae10cd83789", func := "loop.example/s01525/laws.FnExactEncodeRevoke", spec := "fnExactEncodeRevoke", apart := false }
def FnExactEncodeRevokeSaid : Prop := fnExactEncodeRevokeRow.holds Try.pinned (OpenSpec.ofChange fnExactEncodeRevokeSpec)

/-- ITS FALSE NEIGHBOUR: 'it returns false'. Refute it at one input. -/
def fnExactEncodeRevokeWrong : ChangeSpec := { name := "fnExactEncodeRevoke", fn := fun _ => fun
  | [d] => { results := [.lit (.bool false)], args := [d] }
  | _ => none }
def FnExactEncodeRevokeWrongFalsely : Prop := fnExactEncodeRevokeRow.holds Try.pinned (OpenSpec.ofChange fnExactEncodeRevokeWrong)

/-- 'laws.FnExactEncodeDescriptor': WHATEVER THE INPUT: true; the input reads as it did. -/
def fnExactEncodeDescriptorSpec : ChangeSpec := { name := "fnExactEncodeDescriptor", fn := fun _ => fun
  | [d] => { results := [.lit (.bool true)], args := [d] }
  | _ => none }
def fnExactEncodeDescriptorRow : OpenClaim := { program := "ytplefdkookhlhaa", sum := "4067d89cb5a031eed18651c47d2f2a3295c1c15f0c5cb9470dbc1ae10cd83789", func := "loop.example/s01525/laws.FnExactEncodeDescriptor", spec := "fnExactEncodeDescriptor", apart := false }
def FnExactEncodeDescriptorSaid : Prop := fnExactEncodeDescriptorRow.holds Try.pinned (OpenSpec.ofChange fnExactEncodeDescriptorSpec)

/-- ITS FALSE NEIGHBOUR: 'it returns false'. Refute it at one input. -/
def fnExactEncodeDescriptorWrong : ChangeSpec := { name := "fnExactEncodeDescriptor", fn := fun _ => fun
  | [d] => { results := [.lit (.bool false)], args := [d] }
  | _ => none }
def FnExactEncodeDescriptorWrongFalsely : Prop := fnExactEncodeDescriptorRow.holds Try.pinned (OpenSpec.ofChange fnExactEncodeDescriptorWrong)

/-- 'laws.FnExactEncodeInode': WHATEVER THE INPUT: true; the input reads as it did. -/
def fnExactEncodeInodeSpec : ChangeSpec := { name := "fnExactEncodeInode", fn := fun _ => fun
  | [d] => { results := [.lit (.bool true)], args := [d] }
  | _ => none }
def fnExactEncodeInodeRow : OpenClaim := { program := "ytplefdkookhlhaa", sum := "4067d89cb5a031eed18651c47d2f2a3295c1c15f0c5cb9470dbc1ae10cd83789", func := "loop.example/s01525/laws.FnExactEncodeInode", spec := "fnExactEncodeInode", apart := false }
def FnExactEncodeInodeSaid : Prop := fnExactEncodeInodeRow.holds Try.pinned (OpenSpec.ofChange fnExactEncodeInodeSpec)

/-- ITS FALSE NEIGHBOUR: 'it returns false'. Refute it at one input. -/
def fnExactEncodeInodeWrong : ChangeSpec := { name := "fnExactEncodeInode", fn := fun _ => fun
  | [d] => { results := [.lit (.bool false)], args := [d] }
  | _ => none }
def FnExactEncodeInodeWrongFalsely : Prop := fnExactEncodeInodeRow.holds Try.pinned (OpenSpec.ofChange fnExactEncodeInodeWrong)

/-- 'laws.FnExactDecodeInode': WHATEVER THE INPUT: true; the input reads as it did. -/
def fnExactDecodeInodeSpec : ChangeSpec := { name := "fnExactDecodeInode", fn := fun _ => fun
  | [d] => { results := [.lit (.bool true)], args := [d] }
  | _ => none }
def fnExactDecodeInodeRow : OpenClaim := { program := "ytplefdkookhlhaa", sum := "4067d89cb5a031eed18651c47d2f2a3295c1c15f0c5cb9470dbc1ae10cd83789", func := "loop.example/s01525/laws.FnExactDecodeInode", spec := "fnExactDecodeInode", apart := false }
def FnExactDecodeInodeSaid : Prop := fnExactDecodeInodeRow.holds Try.pinned (OpenSpec.ofChange fnExactDecodeInodeSpec)

/-- ITS FALSE NEIGHBOUR: 'it returns false'. Refute it at one input. -/
def fnExactDecodeInodeWrong : ChangeSpec := { name := "fnExactDecodeInode", fn := fun _ => fun
  | [d] => { results := [.lit (.bool false)], args := [d] }
  | _ => none }
def FnExactDecodeInodeWrongFalsely : Prop := fnExactDecodeInodeRow.holds Try.pinned (OpenSpec.ofChange fnExactDecodeInodeWrong)

/-- 'laws.FnExactValidInode': WHATEVER THE INPUT: true; the input reads as it did. -/
def fnExactValidInodeSpec : ChangeSpec := { name := "fnExactValidInode", fn := fun _ => fun
  | [d] => { results := [.lit (.bool true)], args := [d] }
  | _ => none }
def fnExactValidInodeRow : OpenClaim := { program := "ytplefdkookhlhaa", sum := "4067d89cb5a031eed18651c47d2f2a3295c1c15f0c5cb9470dbc1ae10cd83789", func := "loop.example/s01525/laws.FnExactValidInode", spec := "fnExactValidInode", apart := false }
def FnExactValidInodeSaid : Prop := fnExactValidInodeRow.holds Try.pinned (OpenSpec.ofChange fnExactValidInodeSpec)

/-- ITS FALSE NEIGHBOUR: 'it returns false'. Refute it at one input. -/
def fnExactValidInodeWrong : ChangeSpec := { name := "fnExactValidInode", fn := fun _ => fun
  | [d] => { results := [.lit (.bool false)], args := [d] }
  | _ => none }
def FnExactValidInodeWrongFalsely : Prop := fnExactValidInodeRow.holds Try.pinned (OpenSpec.ofChange fnExactValidInodeWrong)

/- THE SECOND FORM. 'bulk': how many values and letters a reading holds, each counted each time it is reached (what is shared counts as often as it is met; a slice's spare places count too). A statement '..UptoSaid' is the law's where the arguments, and the package variables that the reading takes, are together of bulk at most 1048576: NARROWER than '..Said'. Prove '..Said' where nothing that the law and all that it calls make is longer than what came in: it says more and counts as full. Else prove '..UptoSaid'. A law counts once. -/
mutual
def uptoBulk {H : Type} : DataW H → Nat
  | .lit (.string bytes) => bytes.length + 1
  | .lit _ => 1
  | .nil => 1
  | .ptr d => uptoBulk d + 1
  | .slice elems spare => uptoBulkAll elems + uptoBulkAll spare + 1
  | .agg parts => uptoBulkAll parts + 1
  | .iface _ d => uptoBulk d + 1
  | .map entries => uptoBulkEntries entries + 1
  | .held _ => 1
def uptoBulkAll {H : Type} : List (DataW H) → Nat
  | [] => 0
  | d :: r => uptoBulk d + uptoBulkAll r
def uptoBulkEntries {H : Type} : List (Lit × DataW H) → Nat
  | [] => 0
  | x :: r => uptoBulkEntry x + uptoBulkEntries r
def uptoBulkEntry {H : Type} : Lit × DataW H → Nat
  | (.string bytes, d) => bytes.length + uptoBulk d + 1
  | (_, d) => uptoBulk d + 1
 end
def uptoSmall : (H : Type) → List (DataW H) → Bool := fun _ ds => decide (uptoBulkAll ds ≤ 1048576)
def OpenSpec.upto (s : _root_.Go.ChangeSpec) : _root_.Go.OpenSpec := { _root_.Go.OpenSpec.ofChange s with cond := some uptoSmall }

/-- 'laws.FnExactEncodePointers', WHERE WHAT IT READS IS OF BULK AT MOST 1048576: true; the input reads as it did. -/
def fnExactEncodePointersUptoRow : OpenClaim := { program := "ytplefdkookhlhaa", sum := "4067d89cb5a031eed18651c47d2f2a3295c1c15f0c5cb9470dbc1ae10cd83789", func := "loop.example/s01525/laws.FnExactEncodePointers", spec := "fnExactEncodePointers", apart := false, narrowed := true }
def FnExactEncodePointersUptoSaid : Prop := fnExactEncodePointersUptoRow.holds Try.pinned (OpenSpec.upto fnExactEncodePointersSpec)

/-- 'laws.FnExactDecodePointers', WHERE WHAT IT READS IS OF BULK AT MOST 1048576: true; the input reads as it did. -/
def fnExactDecodePointersUptoRow : OpenClaim := { program := "ytplefdkookhlhaa", sum := "4067d89cb5a031eed18651c47d2f2a3295c1c15f0c5cb9470dbc1ae10cd83789", func := "loop.example/s01525/laws.FnExactDecodePointers", spec := "fnExactDecodePointers", apart := false, narrowed := true }
def FnExactDecodePointersUptoSaid : Prop := fnExactDecodePointersUptoRow.holds Try.pinned (OpenSpec.upto fnExactDecodePointersSpec)

/-- 'laws.FnExactEncodeCommit', WHERE WHAT IT READS IS OF BULK AT MOST 1048576: true; the input reads as it did. -/
def fnExactEncodeCommitUptoRow : OpenClaim := { program := "ytplefdkookhlhaa", sum := "4067d89cb5a031eed18651c47d2f2a3295c1c15f0c5cb9470dbc1ae10cd83789", func := "loop.example/s01525/laws.FnExactEncodeCommit", spec := "fnExactEncodeCommit", apart := false, narrowed := true }
def FnExactEncodeCommitUptoSaid : Prop := fnExactEncodeCommitUptoRow.holds Try.pinned (OpenSpec.upto fnExactEncodeCommitSpec)

/-- 'laws.FnExactEncodeRevoke', WHERE WHAT IT READS IS OF BULK AT MOST 1048576: true; the input reads as it did. -/
def fnExactEncodeRevokeUptoRow : OpenClaim := { program := "ytplefdkookhlhaa", sum := "4067d89cb5a031eed18651c47d2f2a3295c1c15f0c5cb9470dbc1ae10cd83789", func := "loop.example/s01525/laws.FnExactEncodeRevoke", spec := "fnExactEncodeRevoke", apart := false, narrowed := true }
def FnExactEncodeRevokeUptoSaid : Prop := fnExactEncodeRevokeUptoRow.holds Try.pinned (OpenSpec.upto fnExactEncodeRevokeSpec)

/-- 'laws.FnExactEncodeDescriptor', WHERE WHAT IT READS IS OF BULK AT MOST 1048576: true; the input reads as it did. -/
def fnExactEncodeDescriptorUptoRow : OpenClaim := { program := "ytplefdkookhlhaa", sum := "4067d89cb5a031eed18651c47d2f2a3295c1c15f0c5cb9470dbc1ae10cd83789", func := "loop.example/s01525/laws.FnExactEncodeDescriptor", spec := "fnExactEncodeDescriptor", apart := false, narrowed := true }
def FnExactEncodeDescriptorUptoSaid : Prop := fnExactEncodeDescriptorUptoRow.holds Try.pinned (OpenSpec.upto fnExactEncodeDescriptorSpec)

/-- 'laws.FnExactEncodeInode', WHERE WHAT IT READS IS OF BULK AT MOST 1048576: true; the input reads as it did. -/
def fnExactEncodeInodeUptoRow : OpenClaim := { program := "ytplefdkookhlhaa", sum := "4067d89cb5a031eed18651c47d2f2a3295c1c15f0c5cb9470dbc1ae10cd83789", func := "loop.example/s01525/laws.FnExactEncodeInode", spec := "fnExactEncodeInode", apart := false, narrowed := true }
def FnExactEncodeInodeUptoSaid : Prop := fnExactEncodeInodeUptoRow.holds Try.pinned (OpenSpec.upto fnExactEncodeInodeSpec)

/-- 'laws.FnExactDecodeInode', WHERE WHAT IT READS IS OF BULK AT MOST 1048576: true; the input reads as it did. -/
def fnExactDecodeInodeUptoRow : OpenClaim := { program := "ytplefdkookhlhaa", sum := "4067d89cb5a031eed18651c47d2f2a3295c1c15f0c5cb9470dbc1ae10cd83789", func := "loop.example/s01525/laws.FnExactDecodeInode", spec := "fnExactDecodeInode", apart := false, narrowed := true }
def FnExactDecodeInodeUptoSaid : Prop := fnExactDecodeInodeUptoRow.holds Try.pinned (OpenSpec.upto fnExactDecodeInodeSpec)

/-- 'laws.FnExactValidInode', WHERE WHAT IT READS IS OF BULK AT MOST 1048576: true; the input reads as it did. -/
def fnExactValidInodeUptoRow : OpenClaim := { program := "ytplefdkookhlhaa", sum := "4067d89cb5a031eed18651c47d2f2a3295c1c15f0c5cb9470dbc1ae10cd83789", func := "loop.example/s01525/laws.FnExactValidInode", spec := "fnExactValidInode", apart := false, narrowed := true }
def FnExactValidInodeUptoSaid : Prop := fnExactValidInodeUptoRow.holds Try.pinned (OpenSpec.upto fnExactValidInodeSpec)

end Rows
end Go.Proofs.Ytplefdkookhlhaa
