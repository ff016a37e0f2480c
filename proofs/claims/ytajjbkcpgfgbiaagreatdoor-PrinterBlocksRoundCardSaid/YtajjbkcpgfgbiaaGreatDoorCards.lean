/-
  DERIVED. GIVEN WITH THE SEED: THE CARDS: each row of YtajjbkcpgfgbiaaGreatDoorRows.lean that lists a variable, with what it lists TIED to the program's text (the seventh form; the later family's looks); each row that meets fmt, with fmt's text TOLD by the authors' own Lean function (tested against real Go, not proved from fmt's source: count such statements apart). THE CARD IS WHAT COUNTS. Prove the row's statement (the work); the ties are given (YtajjbkcpgfgbiaaGreatDoorTie.lean); close each card by the builder's one call (the guide's Derived/Test/ToyasCard.lean, 'card_holds'). Laid BY PROGRAM, IN A SANDBOX (cutbox-door.mjs). By AI agents, Wed Nov 11 2026. No macro, syntax, notation, axiom, sorry.
-/
import Derived.Test.YtajjbkcpgfgbiaaGreatDoorRows
import GoSem.ClaimSeven
namespace Go.Proofs.YtajjbkcpgfgbiaaGreatDoor
namespace Rows

/-- THE TIED CARD OF 'backsteplaw05.PrinterParens'. -/
def printerParensCard : Claim7 := { stood := { row := printerParensRow, standIns := [], harness := (true, "a3280b3563bbfe2d15ba5e198ec780fa4926af0bd6fc0bac655b44f157319a6b"), looks := true }, kinds := [], alts := [], laidByText := true, laidKinds := [.data, .data, .data, .data, .sentinel, .sentinel], laidTests := true, laidLooks := .later }
def PrinterParensCardSaid : Prop := Claim7.holds Tryz.pinned (.plain (OpenSpec.ofChange printerParensSpec)) printerParensCard

/-- THE TIED CARD OF 'backsteplaw05.PrinterFewest'. -/
def printerFewestCard : Claim7 := { stood := { row := printerFewestRow, standIns := [], harness := (true, "a3280b3563bbfe2d15ba5e198ec780fa4926af0bd6fc0bac655b44f157319a6b"), looks := true }, kinds := [], alts := [], laidByText := true, laidKinds := [.data, .data, .data, .data, .sentinel, .sentinel], laidTests := true, laidLooks := .later }
def PrinterFewestCardSaid : Prop := Claim7.holds Tryz.pinned (.plain (OpenSpec.ofChange printerFewestSpec)) printerFewestCard

/-- THE TIED CARD OF 'backsteplaw05.PrinterBlocksRound'. -/
def printerBlocksRoundCard : Claim7 := { stood := { row := printerBlocksRoundRow, standIns := [], harness := (true, "a3280b3563bbfe2d15ba5e198ec780fa4926af0bd6fc0bac655b44f157319a6b"), looks := true }, kinds := [], alts := [], laidByText := true, laidKinds := [.data, .data, .data, .data, .sentinel, .sentinel], laidTests := true, laidLooks := .later }
def PrinterBlocksRoundCardSaid : Prop := Claim7.holds Tryz.pinned (.plain (OpenSpec.ofChange printerBlocksRoundSpec)) printerBlocksRoundCard

/-- THE TIED CARD OF 'backsteplaw05.PrinterRound'. -/
def printerRoundCard : Claim7 := { stood := { row := printerRoundRow, standIns := [], harness := (true, "a3280b3563bbfe2d15ba5e198ec780fa4926af0bd6fc0bac655b44f157319a6b"), looks := true }, kinds := [], alts := [], laidByText := true, laidKinds := [.data, .data, .data, .data, .sentinel, .sentinel], laidTests := true, laidLooks := .later }
def PrinterRoundCardSaid : Prop := Claim7.holds Tryz.pinned (.plain (OpenSpec.ofChange printerRoundSpec)) printerRoundCard

/-- THE TIED CARD OF 'backsteplaw05.PrinterFixed'. -/
def printerFixedCard : Claim7 := { stood := { row := printerFixedRow, standIns := [], harness := (true, "a3280b3563bbfe2d15ba5e198ec780fa4926af0bd6fc0bac655b44f157319a6b"), looks := true }, kinds := [], alts := [], laidByText := true, laidKinds := [.data, .data, .data, .data, .sentinel, .sentinel], laidTests := true, laidLooks := .later }
def PrinterFixedCardSaid : Prop := Claim7.holds Tryz.pinned (.plain (OpenSpec.ofChange printerFixedSpec)) printerFixedCard

/-- THE SECOND FORM's CARD OF 'backsteplaw05.PrinterParens'. -/
def printerParensUptoCard : Claim7 := { stood := { row := printerParensUptoRow, standIns := [], harness := (true, "a3280b3563bbfe2d15ba5e198ec780fa4926af0bd6fc0bac655b44f157319a6b"), looks := true }, kinds := [], alts := [], laidByText := true, laidKinds := [.data, .data, .data, .data, .sentinel, .sentinel], laidTests := true, laidLooks := .later }
def PrinterParensUptoCardSaid : Prop := Claim7.holds Tryz.pinned (.plain (OpenSpec.upto printerParensSpec)) printerParensUptoCard

/-- THE SECOND FORM's CARD OF 'backsteplaw05.PrinterFewest'. -/
def printerFewestUptoCard : Claim7 := { stood := { row := printerFewestUptoRow, standIns := [], harness := (true, "a3280b3563bbfe2d15ba5e198ec780fa4926af0bd6fc0bac655b44f157319a6b"), looks := true }, kinds := [], alts := [], laidByText := true, laidKinds := [.data, .data, .data, .data, .sentinel, .sentinel], laidTests := true, laidLooks := .later }
def PrinterFewestUptoCardSaid : Prop := Claim7.holds Tryz.pinned (.plain (OpenSpec.upto printerFewestSpec)) printerFewestUptoCard

/-- THE SECOND FORM's CARD OF 'backsteplaw05.PrinterBlocksRound'. -/
def printerBlocksRoundUptoCard : Claim7 := { stood := { row := printerBlocksRoundUptoRow, standIns := [], harness := (true, "a3280b3563bbfe2d15ba5e198ec780fa4926af0bd6fc0bac655b44f157319a6b"), looks := true }, kinds := [], alts := [], laidByText := true, laidKinds := [.data, .data, .data, .data, .sentinel, .sentinel], laidTests := true, laidLooks := .later }
def PrinterBlocksRoundUptoCardSaid : Prop := Claim7.holds Tryz.pinned (.plain (OpenSpec.upto printerBlocksRoundSpec)) printerBlocksRoundUptoCard

/-- THE SECOND FORM's CARD OF 'backsteplaw05.PrinterRound'. -/
def printerRoundUptoCard : Claim7 := { stood := { row := printerRoundUptoRow, standIns := [], harness := (true, "a3280b3563bbfe2d15ba5e198ec780fa4926af0bd6fc0bac655b44f157319a6b"), looks := true }, kinds := [], alts := [], laidByText := true, laidKinds := [.data, .data, .data, .data, .sentinel, .sentinel], laidTests := true, laidLooks := .later }
def PrinterRoundUptoCardSaid : Prop := Claim7.holds Tryz.pinned (.plain (OpenSpec.upto printerRoundSpec)) printerRoundUptoCard

/-- THE SECOND FORM's CARD OF 'backsteplaw05.PrinterFixed'. -/
def printerFixedUptoCard : Claim7 := { stood := { row := printerFixedUptoRow, standIns := [], harness := (true, "a3280b3563bbfe2d15ba5e198ec780fa4926af0bd6fc0bac655b44f157319a6b"), looks := true }, kinds := [], alts := [], laidByText := true, laidKinds := [.data, .data, .data, .data, .sentinel, .sentinel], laidTests := true, laidLooks := .later }
def PrinterFixedUptoCardSaid : Prop := Claim7.holds Tryz.pinned (.plain (OpenSpec.upto printerFixedSpec)) printerFixedUptoCard
end Rows
end Go.Proofs.YtajjbkcpgfgbiaaGreatDoor
