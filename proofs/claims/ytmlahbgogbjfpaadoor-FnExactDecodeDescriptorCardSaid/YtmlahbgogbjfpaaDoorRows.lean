/-
  NARROWER THAN 'FOR EVERY INPUT', by the rows' own cells (each row's printed sentence says how): FnExactDecodeCommit: ifaces, laid · FnExactDecodeRevoke: ifaces, laid · FnExactDecodeDescriptor: ifaces, laid.
  DERIVED. THE GIVEN ROWS OF THIS SEAT. 3 by the template 'for every input the law returns true; each argument reads behind the call as it read before'; 0 by the template 'total and deterministic' (their statements: YtmlahbgogbjfpaaDoorTotals.lean).
  GIVEN WITH THE SEED: the statements are not yours to turn. If you find one false, say at which input.
  Laid BY PROGRAM, IN A SANDBOX (cutbox-rows.mjs): the forced cells as the released guide's own fill.sh prints them over the translation 2f6a9425d9245ef1… (all of the seat's roots in one cut). By AI agents, Wed Nov 11 2026. No macro, syntax, notation, axiom, sorry.
-/
import Derived.Test.YtmlahbgogbjfpaaDoorChecked
import GoSem.Claim
import GoSem.ClaimJoined
import GoSem.ClaimMapViews
import Derived.JoinedTies
import Derived.KernelRfl
namespace Go.Proofs.YtmlahbgogbjfpaaDoor
/- THE CELL 'sum', in the pinned program and in every row, IS THE sha256 OF THE DUMP (.gsa) THAT YtmlahbgogbjfpaaDoorProg.lean LOADS. Nothing in Lean hashes anything: it is a label: what it is worth is what the hold of that sum in a sandbox is worth. -/
noncomputable def Tryd.pinned : Pinned := { name := "ytmlahbgogbjfpaadoor", sum := "2f6a9425d9245ef178de20f972ff2a0d8553f393b02949dfd290a94c537a13d3", checked := Tryd.checked }
namespace Rows
def none {H : Type} : Left H := { results := [], args := [] }

/- WHAT THE LISTED PACKAGE-LEVEL VARIABLES READ AS WHEN THE CALL BEGINS. Each datum BY PROGRAM (the guide's laid-datum.mjs) off the statement by which the dump's own 'gosem.cut.vars' lays the variable. In a bare row this is a premise. The card (YtmlahbgogbjfpaaDoorCards.lean) ties it to the program's text. -/
def laid_errors_errorType {H : Type} : DataW H := .iface "internal/reflectlite.rtype" (.agg [.ptr (.lit (.string [101, 114, 114, 111, 114]))])
def laid_loop_example_s01525_impl_errForm {H : Type} : DataW H := .iface "*errors.errorString" (.ptr (.agg [.lit (.string [110, 111, 116, 32, 116, 104, 101, 32, 111, 110, 101, 32, 102, 111, 114, 109, 32, 111, 102, 32, 105, 116, 115, 32, 107, 105, 110, 100])]))

/-- 'laws.FnExactDecodeCommit': WHATEVER THE INPUT: true; the input reads as it did. -/
def fnExactDecodeCommitSpec : ChangeSpec := { name := "fnExactDecodeCommit", vars := ["loop.example/s01525/impl.errForm"], fn := fun _ => fun
  | [d, g1] => { results := [.lit (.bool true)], args := [d], vars := [g1] }
  | _ => none }
def fnExactDecodeCommitRow : OpenClaim := { program := "ytmlahbgogbjfpaadoor", sum := "2f6a9425d9245ef178de20f972ff2a0d8553f393b02949dfd290a94c537a13d3", func := "loop.example/s01525/laws.FnExactDecodeCommit", spec := "fnExactDecodeCommit", inPlace := ["internal/reflectlite.ValueOf", "(internal/reflectlite.Value).Type", "(internal/reflectlite.Value).IsNil", "internal/reflectlite.TypeOf", "(internal/reflectlite.Value).Elem", "(internal/reflectlite.Value).Set"], unfollowed := true, recurses := true, named := ["loop.example/s01525/impl.errForm", "errors.errorType"], ifaces := true, apart := false, laid := [("errors.errorType", laid_errors_errorType), ("loop.example/s01525/impl.errForm", laid_loop_example_s01525_impl_errForm)] }
def FnExactDecodeCommitSaid : Prop := fnExactDecodeCommitRow.holds Tryd.pinned (OpenSpec.ofChange fnExactDecodeCommitSpec)

/-- ITS FALSE NEIGHBOUR: 'it returns false'. Refute it at one input. -/
def fnExactDecodeCommitWrong : ChangeSpec := { name := "fnExactDecodeCommit", vars := ["loop.example/s01525/impl.errForm"], fn := fun _ => fun
  | [d, g1] => { results := [.lit (.bool false)], args := [d], vars := [g1] }
  | _ => none }
def FnExactDecodeCommitWrongFalsely : Prop := fnExactDecodeCommitRow.holds Tryd.pinned (OpenSpec.ofChange fnExactDecodeCommitWrong)

/-- 'laws.FnExactDecodeRevoke': WHATEVER THE INPUT: true; the input reads as it did. -/
def fnExactDecodeRevokeSpec : ChangeSpec := { name := "fnExactDecodeRevoke", vars := ["loop.example/s01525/impl.errForm"], fn := fun _ => fun
  | [d, g1] => { results := [.lit (.bool true)], args := [d], vars := [g1] }
  | _ => none }
def fnExactDecodeRevokeRow : OpenClaim := { program := "ytmlahbgogbjfpaadoor", sum := "2f6a9425d9245ef178de20f972ff2a0d8553f393b02949dfd290a94c537a13d3", func := "loop.example/s01525/laws.FnExactDecodeRevoke", spec := "fnExactDecodeRevoke", inPlace := ["internal/reflectlite.ValueOf", "(internal/reflectlite.Value).Type", "(internal/reflectlite.Value).IsNil", "internal/reflectlite.TypeOf", "(internal/reflectlite.Value).Elem", "(internal/reflectlite.Value).Set"], unfollowed := true, recurses := true, named := ["loop.example/s01525/impl.errForm", "errors.errorType"], ifaces := true, apart := false, laid := [("errors.errorType", laid_errors_errorType), ("loop.example/s01525/impl.errForm", laid_loop_example_s01525_impl_errForm)] }
def FnExactDecodeRevokeSaid : Prop := fnExactDecodeRevokeRow.holds Tryd.pinned (OpenSpec.ofChange fnExactDecodeRevokeSpec)

/-- ITS FALSE NEIGHBOUR: 'it returns false'. Refute it at one input. -/
def fnExactDecodeRevokeWrong : ChangeSpec := { name := "fnExactDecodeRevoke", vars := ["loop.example/s01525/impl.errForm"], fn := fun _ => fun
  | [d, g1] => { results := [.lit (.bool false)], args := [d], vars := [g1] }
  | _ => none }
def FnExactDecodeRevokeWrongFalsely : Prop := fnExactDecodeRevokeRow.holds Tryd.pinned (OpenSpec.ofChange fnExactDecodeRevokeWrong)

/-- 'laws.FnExactDecodeDescriptor': WHATEVER THE INPUT: true; the input reads as it did. -/
def fnExactDecodeDescriptorSpec : ChangeSpec := { name := "fnExactDecodeDescriptor", vars := ["loop.example/s01525/impl.errForm"], fn := fun _ => fun
  | [d, g1] => { results := [.lit (.bool true)], args := [d], vars := [g1] }
  | _ => none }
def fnExactDecodeDescriptorRow : OpenClaim := { program := "ytmlahbgogbjfpaadoor", sum := "2f6a9425d9245ef178de20f972ff2a0d8553f393b02949dfd290a94c537a13d3", func := "loop.example/s01525/laws.FnExactDecodeDescriptor", spec := "fnExactDecodeDescriptor", inPlace := ["internal/reflectlite.ValueOf", "(internal/reflectlite.Value).Type", "(internal/reflectlite.Value).IsNil", "internal/reflectlite.TypeOf", "(internal/reflectlite.Value).Elem", "(internal/reflectlite.Value).Set"], unfollowed := true, recurses := true, named := ["loop.example/s01525/impl.errForm", "errors.errorType"], ifaces := true, apart := false, laid := [("errors.errorType", laid_errors_errorType), ("loop.example/s01525/impl.errForm", laid_loop_example_s01525_impl_errForm)] }
def FnExactDecodeDescriptorSaid : Prop := fnExactDecodeDescriptorRow.holds Tryd.pinned (OpenSpec.ofChange fnExactDecodeDescriptorSpec)

/-- ITS FALSE NEIGHBOUR: 'it returns false'. Refute it at one input. -/
def fnExactDecodeDescriptorWrong : ChangeSpec := { name := "fnExactDecodeDescriptor", vars := ["loop.example/s01525/impl.errForm"], fn := fun _ => fun
  | [d, g1] => { results := [.lit (.bool false)], args := [d], vars := [g1] }
  | _ => none }
def FnExactDecodeDescriptorWrongFalsely : Prop := fnExactDecodeDescriptorRow.holds Tryd.pinned (OpenSpec.ofChange fnExactDecodeDescriptorWrong)

/- THE SECOND FORM. 'bulk': how many values and letters a reading holds, each counted each time it is reached (what is shared counts as often as it is met; a slice's spare places count too). A statement '..UptoSaid' is the law's where the arguments, and the package variables that the reading takes, are together of bulk at most 1048576: NARROWER than '..Said'. Prove '..Said' where nothing that the law and all that it calls make is longer than what came in: it says more and counts as full. Else prove '..UptoSaid'. A law counts once. -/
mutual
def uptoBulk {H : Type} : DataW H → Nat
  | .lit (.string bytes) => bytes.length + 1
  | .lit _ => 1
  | .nil => 1
  | .ptr d => uptoBulk d + 1
  | .slice elems spare => uptoBulkAll elems + uptoBulkAll spare + 1
  | .agg parts => uptoBulkAll parts + 1
  | .iface _ d => uptoBulk d + 1
  | .map entries => uptoBulkEntries entries + 1
  | .held _ => 1
def uptoBulkAll {H : Type} : List (DataW H) → Nat
  | [] => 0
  | d :: r => uptoBulk d + uptoBulkAll r
def uptoBulkEntries {H : Type} : List (Lit × DataW H) → Nat
  | [] => 0
  | x :: r => uptoBulkEntry x + uptoBulkEntries r
def uptoBulkEntry {H : Type} : Lit × DataW H → Nat
  | (.string bytes, d) => bytes.length + uptoBulk d + 1
  | (_, d) => uptoBulk d + 1
 end
def uptoSmall : (H : Type) → List (DataW H) → Bool := fun _ ds => decide (uptoBulkAll ds ≤ 1048576)
def OpenSpec.upto (s : _root_.Go.ChangeSpec) : _root_.Go.OpenSpec := { _root_.Go.OpenSpec.ofChange s with cond := some uptoSmall }

/-- 'laws.FnExactDecodeCommit', WHERE WHAT IT READS IS OF BULK AT MOST 1048576: true; the input reads as it did. -/
def fnExactDecodeCommitUptoRow : OpenClaim := { program := "ytmlahbgogbjfpaadoor", sum := "2f6a9425d9245ef178de20f972ff2a0d8553f393b02949dfd290a94c537a13d3", func := "loop.example/s01525/laws.FnExactDecodeCommit", spec := "fnExactDecodeCommit", inPlace := ["internal/reflectlite.ValueOf", "(internal/reflectlite.Value).Type", "(internal/reflectlite.Value).IsNil", "internal/reflectlite.TypeOf", "(internal/reflectlite.Value).Elem", "(internal/reflectlite.Value).Set"], unfollowed := true, recurses := true, named := ["loop.example/s01525/impl.errForm", "errors.errorType"], ifaces := true, apart := false, laid := [("errors.errorType", laid_errors_errorType), ("loop.example/s01525/impl.errForm", laid_loop_example_s01525_impl_errForm)], narrowed := true }
def FnExactDecodeCommitUptoSaid : Prop := fnExactDecodeCommitUptoRow.holds Tryd.pinned (OpenSpec.upto fnExactDecodeCommitSpec)

/-- 'laws.FnExactDecodeRevoke', WHERE WHAT IT READS IS OF BULK AT MOST 1048576: true; the input reads as it did. -/
def fnExactDecodeRevokeUptoRow : OpenClaim := { program := "ytmlahbgogbjfpaadoor", sum := "2f6a9425d9245ef178de20f972ff2a0d8553f393b02949dfd290a94c537a13d3", func := "loop.example/s01525/laws.FnExactDecodeRevoke", spec := "fnExactDecodeRevoke", inPlace := ["internal/reflectlite.ValueOf", "(internal/reflectlite.Value).Type", "(internal/reflectlite.Value).IsNil", "internal/reflectlite.TypeOf", "(internal/reflectlite.Value).Elem", "(internal/reflectlite.Value).Set"], unfollowed := true, recurses := true, named := ["loop.example/s01525/impl.errForm", "errors.errorType"], ifaces := true, apart := false, laid := [("errors.errorType", laid_errors_errorType), ("loop.example/s01525/impl.errForm", laid_loop_example_s01525_impl_errForm)], narrowed := true }
def FnExactDecodeRevokeUptoSaid : Prop := fnExactDecodeRevokeUptoRow.holds Tryd.pinned (OpenSpec.upto fnExactDecodeRevokeSpec)

/-- 'laws.FnExactDecodeDescriptor', WHERE WHAT IT READS IS OF BULK AT MOST 1048576: true; the input reads as it did. -/
def fnExactDecodeDescriptorUptoRow : OpenClaim := { program := "ytmlahbgogbjfpaadoor", sum := "2f6a9425d9245ef178de20f972ff2a0d8553f393b02949dfd290a94c537a13d3", func := "loop.example/s01525/laws.FnExactDecodeDescriptor", spec := "fnExactDecodeDescriptor", inPlace := ["internal/reflectlite.ValueOf", "(internal/reflectlite.Value).Type", "(internal/reflectlite.Value).IsNil", "internal/reflectlite.TypeOf", "(internal/reflectlite.Value).Elem", "(internal/reflectlite.Value).Set"], unfollowed := true, recurses := true, named := ["loop.example/s01525/impl.errForm", "errors.errorType"], ifaces := true, apart := false, laid := [("errors.errorType", laid_errors_errorType), ("loop.example/s01525/impl.errForm", laid_loop_example_s01525_impl_errForm)], narrowed := true }
def FnExactDecodeDescriptorUptoSaid : Prop := fnExactDecodeDescriptorUptoRow.holds Tryd.pinned (OpenSpec.upto fnExactDecodeDescriptorSpec)

end Rows
end Go.Proofs.YtmlahbgogbjfpaaDoor
