/-
  DERIVED. GIVEN WITH THE SEED: THE PROGRAM's TIES (one call each: nine closed facts by the kernel) AND EACH ROW's TIE, after the 31st guide's Derived/Test/Toyas{Tie, Card}.lean. No idea stands in it: it is a product of the set-up. Laid BY PROGRAM, IN A SANDBOX (cutbox-door.mjs). By AI agents, Wed Nov 11 2026. No macro, syntax, notation, axiom, sorry.
-/
import Derived.Test.YtmlahbgogbjfpaaDoorRows
import Derived.LaidByTextLater
import Derived.SevenTiedAt
import Derived.LaidSub
import Derived.LaidOnce
namespace Go.Proofs.YtmlahbgogbjfpaaDoor
open Go
set_option maxRecDepth 100000
theorem seatTie1 : Tryd.prog.laidByTextLater [("errors.errorType", Rows.laid_errors_errorType), ("loop.example/s01525/impl.errForm", Rows.laid_loop_example_s01525_impl_errForm)] [.handle, .sentinel] true :=
  Program.laidByTextLater_by_one 35 8 2 (by kernel_rfl) (by kernel_rfl) (by kernel_rfl) (by kernel_rfl) (by kernel_rfl) (by kernel_rfl) (fun _ _ => by kernel_rfl)
theorem noOwnUnsafe : Tryd.pinned.checked.prog.headLifts.contains "ownunsafe" = false := by kernel_rfl
theorem tie : Tryd.prog.laidByTextLater [("errors.errorType", Rows.laid_errors_errorType), ("loop.example/s01525/impl.errForm", Rows.laid_loop_example_s01525_impl_errForm)] [.handle, .sentinel] true :=
  Program.laidByTextLater.sub seatTie1 ["errors.errorType", "loop.example/s01525/impl.errForm"] (by kernel_rfl) (by kernel_rfl)
theorem fnExactDecodeCommit_row_tie : Rows.fnExactDecodeCommitRow.laidByTextAt .later Tryd.pinned [.handle, .sentinel] true :=
  OpenClaim.laidByTextAt_later rfl rfl tie noOwnUnsafe
theorem fnExactDecodeRevoke_row_tie : Rows.fnExactDecodeRevokeRow.laidByTextAt .later Tryd.pinned [.handle, .sentinel] true :=
  OpenClaim.laidByTextAt_later rfl rfl tie noOwnUnsafe
theorem fnExactDecodeDescriptor_row_tie : Rows.fnExactDecodeDescriptorRow.laidByTextAt .later Tryd.pinned [.handle, .sentinel] true :=
  OpenClaim.laidByTextAt_later rfl rfl tie noOwnUnsafe
theorem fnExactDecodeCommitUpto_row_tie : Rows.fnExactDecodeCommitUptoRow.laidByTextAt .later Tryd.pinned [.handle, .sentinel] true :=
  OpenClaim.laidByTextAt_later rfl rfl tie noOwnUnsafe
theorem fnExactDecodeRevokeUpto_row_tie : Rows.fnExactDecodeRevokeUptoRow.laidByTextAt .later Tryd.pinned [.handle, .sentinel] true :=
  OpenClaim.laidByTextAt_later rfl rfl tie noOwnUnsafe
theorem fnExactDecodeDescriptorUpto_row_tie : Rows.fnExactDecodeDescriptorUptoRow.laidByTextAt .later Tryd.pinned [.handle, .sentinel] true :=
  OpenClaim.laidByTextAt_later rfl rfl tie noOwnUnsafe
end Go.Proofs.YtmlahbgogbjfpaaDoor
