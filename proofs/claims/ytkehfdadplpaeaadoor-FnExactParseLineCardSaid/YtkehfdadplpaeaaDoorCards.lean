/-
  DERIVED. GIVEN WITH THE SEED: THE CARDS: each row of YtkehfdadplpaeaaDoorRows.lean that lists a variable, with what it lists TIED to the program's text (the seventh form; the later family's looks); each row that meets fmt, with fmt's text TOLD by the authors' own Lean function (tested against real Go, not proved from fmt's source: count such statements apart). THE CARD IS WHAT COUNTS. Prove the row's statement (the work); the ties are given (YtkehfdadplpaeaaDoorTie.lean); close each card by the builder's one call (the guide's Derived/Test/ToyasCard.lean, 'card_holds'). Laid BY PROGRAM, IN A SANDBOX (cutbox-door.mjs). By AI agents, Wed Nov 11 2026. No macro, syntax, notation, axiom, sorry.
-/
import Derived.Test.YtkehfdadplpaeaaDoorRows
import GoSem.ClaimSeven
namespace Go.Proofs.YtkehfdadplpaeaaDoor
namespace Rows

/-- THE TIED CARD OF 'laws.FnExactParseLine'. -/
def fnExactParseLineCard : Claim7 := { stood := { row := fnExactParseLineRow, standIns := [], harness := (true, "d647dc85504f665375c78a8c7cd2563f72f22b7f9695b6e9ff12fd830de12229"), looks := true }, kinds := [], alts := [], laidByText := true, laidKinds := [.data, .data, .data, .data, .sentinel, .sentinel, .mapped, .pinned], laidTests := true, laidLooks := .later }
def FnExactParseLineCardSaid : Prop := Claim7.holds Tryd.pinned (.plain (OpenSpec.ofChange fnExactParseLineSpec)) fnExactParseLineCard

/-- THE TIED CARD OF 'laws.FnLine'. -/
def fnLineCard : Claim7 := { stood := { row := fnLineRow, standIns := [], harness := (true, "d647dc85504f665375c78a8c7cd2563f72f22b7f9695b6e9ff12fd830de12229"), looks := true }, kinds := [], alts := [], laidByText := true, laidKinds := [.data, .data, .data, .data, .sentinel, .sentinel, .mapped, .pinned], laidTests := true, laidLooks := .later }
def FnLineCardSaid : Prop := Claim7.holds Tryd.pinned (.plain (OpenSpec.ofChange fnLineSpec)) fnLineCard

/-- THE TIED CARD OF 'laws.FnExactFormatAnswer'. -/
def fnExactFormatAnswerCard : Claim7 := { stood := { row := fnExactFormatAnswerRow, standIns := [], harness := (true, "d647dc85504f665375c78a8c7cd2563f72f22b7f9695b6e9ff12fd830de12229"), looks := true }, kinds := [], alts := [], laidByText := true, laidKinds := [.data, .data, .data], laidTests := true, laidLooks := .later }
def FnExactFormatAnswerCardSaid : Prop := Claim7.holds Tryd.pinned (.plain (OpenSpec.ofChange fnExactFormatAnswerSpec)) fnExactFormatAnswerCard

/-- THE SECOND FORM's CARD OF 'laws.FnExactParseLine'. -/
def fnExactParseLineUptoCard : Claim7 := { stood := { row := fnExactParseLineUptoRow, standIns := [], harness := (true, "d647dc85504f665375c78a8c7cd2563f72f22b7f9695b6e9ff12fd830de12229"), looks := true }, kinds := [], alts := [], laidByText := true, laidKinds := [.data, .data, .data, .data, .sentinel, .sentinel, .mapped, .pinned], laidTests := true, laidLooks := .later }
def FnExactParseLineUptoCardSaid : Prop := Claim7.holds Tryd.pinned (.plain (OpenSpec.upto fnExactParseLineSpec)) fnExactParseLineUptoCard

/-- THE SECOND FORM's CARD OF 'laws.FnLine'. -/
def fnLineUptoCard : Claim7 := { stood := { row := fnLineUptoRow, standIns := [], harness := (true, "d647dc85504f665375c78a8c7cd2563f72f22b7f9695b6e9ff12fd830de12229"), looks := true }, kinds := [], alts := [], laidByText := true, laidKinds := [.data, .data, .data, .data, .sentinel, .sentinel, .mapped, .pinned], laidTests := true, laidLooks := .later }
def FnLineUptoCardSaid : Prop := Claim7.holds Tryd.pinned (.plain (OpenSpec.upto fnLineSpec)) fnLineUptoCard

/-- THE SECOND FORM's CARD OF 'laws.FnExactFormatAnswer'. -/
def fnExactFormatAnswerUptoCard : Claim7 := { stood := { row := fnExactFormatAnswerUptoRow, standIns := [], harness := (true, "d647dc85504f665375c78a8c7cd2563f72f22b7f9695b6e9ff12fd830de12229"), looks := true }, kinds := [], alts := [], laidByText := true, laidKinds := [.data, .data, .data], laidTests := true, laidLooks := .later }
def FnExactFormatAnswerUptoCardSaid : Prop := Claim7.holds Tryd.pinned (.plain (OpenSpec.upto fnExactFormatAnswerSpec)) fnExactFormatAnswerUptoCard
end Rows
end Go.Proofs.YtkehfdadplpaeaaDoor
