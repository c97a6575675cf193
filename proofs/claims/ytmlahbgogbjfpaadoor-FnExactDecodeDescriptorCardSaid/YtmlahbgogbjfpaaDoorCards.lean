/-
  DERIVED. GIVEN WITH THE SEED: THE CARDS: each row of YtmlahbgogbjfpaaDoorRows.lean that lists a variable, with what it lists TIED to the program's text (the seventh form; the later family's looks); each row that meets fmt, with fmt's text TOLD by the authors' own Lean function (tested against real Go, not proved from fmt's source: count such statements apart). THE CARD IS WHAT COUNTS. Prove the row's statement (the work); the ties are given (YtmlahbgogbjfpaaDoorTie.lean); close each card by the builder's one call (the guide's Derived/Test/ToyasCard.lean, 'card_holds'). Laid BY PROGRAM, IN A SANDBOX (cutbox-door.mjs). By AI agents, Wed Nov 11 2026. No macro, syntax, notation, axiom, sorry.
-/
import Derived.Test.YtmlahbgogbjfpaaDoorRows
import GoSem.ClaimSeven
namespace Go.Proofs.YtmlahbgogbjfpaaDoor
namespace Rows

/-- THE TIED CARD OF 'laws.FnExactDecodeCommit'. -/
def fnExactDecodeCommitCard : Claim7 := { stood := { row := fnExactDecodeCommitRow, standIns := [], harness := (true, "bfef60ea7615089664a64b73117fda5d2c2257c73169dd2ee87cbe989fb3ea77"), looks := true }, kinds := [], alts := [], laidByText := true, laidKinds := [.handle, .sentinel], laidTests := true, laidLooks := .later }
def FnExactDecodeCommitCardSaid : Prop := Claim7.holds Tryd.pinned (.plain (OpenSpec.ofChange fnExactDecodeCommitSpec)) fnExactDecodeCommitCard

/-- THE TIED CARD OF 'laws.FnExactDecodeRevoke'. -/
def fnExactDecodeRevokeCard : Claim7 := { stood := { row := fnExactDecodeRevokeRow, standIns := [], harness := (true, "bfef60ea7615089664a64b73117fda5d2c2257c73169dd2ee87cbe989fb3ea77"), looks := true }, kinds := [], alts := [], laidByText := true, laidKinds := [.handle, .sentinel], laidTests := true, laidLooks := .later }
def FnExactDecodeRevokeCardSaid : Prop := Claim7.holds Tryd.pinned (.plain (OpenSpec.ofChange fnExactDecodeRevokeSpec)) fnExactDecodeRevokeCard

/-- THE TIED CARD OF 'laws.FnExactDecodeDescriptor'. -/
def fnExactDecodeDescriptorCard : Claim7 := { stood := { row := fnExactDecodeDescriptorRow, standIns := [], harness := (true, "bfef60ea7615089664a64b73117fda5d2c2257c73169dd2ee87cbe989fb3ea77"), looks := true }, kinds := [], alts := [], laidByText := true, laidKinds := [.handle, .sentinel], laidTests := true, laidLooks := .later }
def FnExactDecodeDescriptorCardSaid : Prop := Claim7.holds Tryd.pinned (.plain (OpenSpec.ofChange fnExactDecodeDescriptorSpec)) fnExactDecodeDescriptorCard

/-- THE SECOND FORM's CARD OF 'laws.FnExactDecodeCommit'. -/
def fnExactDecodeCommitUptoCard : Claim7 := { stood := { row := fnExactDecodeCommitUptoRow, standIns := [], harness := (true, "bfef60ea7615089664a64b73117fda5d2c2257c73169dd2ee87cbe989fb3ea77"), looks := true }, kinds := [], alts := [], laidByText := true, laidKinds := [.handle, .sentinel], laidTests := true, laidLooks := .later }
def FnExactDecodeCommitUptoCardSaid : Prop := Claim7.holds Tryd.pinned (.plain (OpenSpec.upto fnExactDecodeCommitSpec)) fnExactDecodeCommitUptoCard

/-- THE SECOND FORM's CARD OF 'laws.FnExactDecodeRevoke'. -/
def fnExactDecodeRevokeUptoCard : Claim7 := { stood := { row := fnExactDecodeRevokeUptoRow, standIns := [], harness := (true, "bfef60ea7615089664a64b73117fda5d2c2257c73169dd2ee87cbe989fb3ea77"), looks := true }, kinds := [], alts := [], laidByText := true, laidKinds := [.handle, .sentinel], laidTests := true, laidLooks := .later }
def FnExactDecodeRevokeUptoCardSaid : Prop := Claim7.holds Tryd.pinned (.plain (OpenSpec.upto fnExactDecodeRevokeSpec)) fnExactDecodeRevokeUptoCard

/-- THE SECOND FORM's CARD OF 'laws.FnExactDecodeDescriptor'. -/
def fnExactDecodeDescriptorUptoCard : Claim7 := { stood := { row := fnExactDecodeDescriptorUptoRow, standIns := [], harness := (true, "bfef60ea7615089664a64b73117fda5d2c2257c73169dd2ee87cbe989fb3ea77"), looks := true }, kinds := [], alts := [], laidByText := true, laidKinds := [.handle, .sentinel], laidTests := true, laidLooks := .later }
def FnExactDecodeDescriptorUptoCardSaid : Prop := Claim7.holds Tryd.pinned (.plain (OpenSpec.upto fnExactDecodeDescriptorSpec)) fnExactDecodeDescriptorUptoCard
end Rows
end Go.Proofs.YtmlahbgogbjfpaaDoor
