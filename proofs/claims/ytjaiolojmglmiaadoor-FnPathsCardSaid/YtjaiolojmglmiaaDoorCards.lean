/-
  DERIVED. GIVEN WITH THE SEED: THE CARDS: each row of YtjaiolojmglmiaaDoorRows.lean that lists a variable, with what it lists TIED to the program's text (the seventh form; the later family's looks); each row that meets fmt, with fmt's text TOLD by the authors' own Lean function (tested against real Go, not proved from fmt's source: count such statements apart). THE CARD IS WHAT COUNTS. Prove the row's statement (the work); the ties are given (YtjaiolojmglmiaaDoorTie.lean); close each card by the builder's one call (the guide's Derived/Test/ToyasCard.lean, 'card_holds'). Laid BY PROGRAM, IN A SANDBOX (cutbox-door.mjs). By AI agents, Wed Nov 11 2026. No macro, syntax, notation, axiom, sorry.
-/
import Derived.Test.YtjaiolojmglmiaaDoorRows
import GoSem.ClaimSeven
namespace Go.Proofs.YtjaiolojmglmiaaDoor
namespace Rows

/-- THE TIED CARD OF 'laws.FnExactSplitPath'. -/
def fnExactSplitPathCard : Claim7 := { stood := { row := fnExactSplitPathRow, standIns := [], harness := (true, "e1f55c671aa52619a1c3de79b8b5942b13c8ef4d22280bba1de765a654ee66bd"), looks := false }, kinds := [], alts := [], laidByText := true, laidKinds := [.data, .pinned], laidTests := true, laidLooks := .later }
def FnExactSplitPathCardSaid : Prop := Claim7.holds Tryd.pinned (.plain (OpenSpec.ofChange fnExactSplitPathSpec)) fnExactSplitPathCard

/-- THE TIED CARD OF 'laws.FnPaths'. -/
def fnPathsCard : Claim7 := { stood := { row := fnPathsRow, standIns := [], harness := (true, "e1f55c671aa52619a1c3de79b8b5942b13c8ef4d22280bba1de765a654ee66bd"), looks := false }, kinds := [], alts := [], laidByText := true, laidKinds := [.data, .pinned], laidTests := true, laidLooks := .later }
def FnPathsCardSaid : Prop := Claim7.holds Tryd.pinned (.plain (OpenSpec.ofChange fnPathsSpec)) fnPathsCard

/-- THE SECOND FORM's CARD OF 'laws.FnExactSplitPath'. -/
def fnExactSplitPathUptoCard : Claim7 := { stood := { row := fnExactSplitPathUptoRow, standIns := [], harness := (true, "e1f55c671aa52619a1c3de79b8b5942b13c8ef4d22280bba1de765a654ee66bd"), looks := false }, kinds := [], alts := [], laidByText := true, laidKinds := [.data, .pinned], laidTests := true, laidLooks := .later }
def FnExactSplitPathUptoCardSaid : Prop := Claim7.holds Tryd.pinned (.plain (OpenSpec.upto fnExactSplitPathSpec)) fnExactSplitPathUptoCard

/-- THE SECOND FORM's CARD OF 'laws.FnPaths'. -/
def fnPathsUptoCard : Claim7 := { stood := { row := fnPathsUptoRow, standIns := [], harness := (true, "e1f55c671aa52619a1c3de79b8b5942b13c8ef4d22280bba1de765a654ee66bd"), looks := false }, kinds := [], alts := [], laidByText := true, laidKinds := [.data, .pinned], laidTests := true, laidLooks := .later }
def FnPathsUptoCardSaid : Prop := Claim7.holds Tryd.pinned (.plain (OpenSpec.upto fnPathsSpec)) fnPathsUptoCard
end Rows
end Go.Proofs.YtjaiolojmglmiaaDoor
