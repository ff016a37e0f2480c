/-
  DERIVED. GIVEN WITH THE SEED: THE CARDS: each row of YtkadkafapjhhkaaDoorRows.lean that lists a variable, with what it lists TIED to the program's text (the seventh form; the later family's looks); each row that meets fmt, with fmt's text TOLD by the authors' own Lean function (tested against real Go, not proved from fmt's source: count such statements apart). THE CARD IS WHAT COUNTS. Prove the row's statement (the work); the ties are given (YtkadkafapjhhkaaDoorTie.lean); close each card by the builder's one call (the guide's Derived/Test/ToyasCard.lean, 'card_holds'). Laid BY PROGRAM, IN A SANDBOX (cutbox-door.mjs). By AI agents, Wed Nov 11 2026. No macro, syntax, notation, axiom, sorry.
-/
import Derived.Test.YtkadkafapjhhkaaDoorRows
import GoSem.ClaimSeven
namespace Go.Proofs.YtkadkafapjhhkaaDoor
namespace Rows

/-- THE TIED CARD OF 'backsteplaw05.PrinterExprs'. -/
def printerExprsCard : Claim7 := { stood := { row := printerExprsRow, standIns := [], harness := (true, "3425375aec16100f9fea869062a2fe74b4b36226b9170447b2036c26264d9baa"), looks := false }, kinds := [], alts := [], laidByText := true, laidKinds := [.data, .data, .data, .data], laidTests := true, laidLooks := .later }
def PrinterExprsCardSaid : Prop := Claim7.holds Tryd.pinned (.plain (OpenSpec.ofChange printerExprsSpec)) printerExprsCard

/-- THE TIED CARD OF 'backsteplaw05.PrinterBlocks'. -/
def printerBlocksCard : Claim7 := { stood := { row := printerBlocksRow, standIns := [], harness := (true, "3425375aec16100f9fea869062a2fe74b4b36226b9170447b2036c26264d9baa"), looks := false }, kinds := [], alts := [], laidByText := true, laidKinds := [.data, .data, .data, .data], laidTests := true, laidLooks := .later }
def PrinterBlocksCardSaid : Prop := Claim7.holds Tryd.pinned (.plain (OpenSpec.ofChange printerBlocksSpec)) printerBlocksCard

/-- THE TIED CARD OF 'backsteplaw05.PrinterPrograms'. -/
def printerProgramsCard : Claim7 := { stood := { row := printerProgramsRow, standIns := [], harness := (true, "3425375aec16100f9fea869062a2fe74b4b36226b9170447b2036c26264d9baa"), looks := false }, kinds := [], alts := [], laidByText := true, laidKinds := [.data, .data, .data, .data], laidTests := true, laidLooks := .later }
def PrinterProgramsCardSaid : Prop := Claim7.holds Tryd.pinned (.plain (OpenSpec.ofChange printerProgramsSpec)) printerProgramsCard

/-- THE SECOND FORM's CARD OF 'backsteplaw05.PrinterExprs'. -/
def printerExprsUptoCard : Claim7 := { stood := { row := printerExprsUptoRow, standIns := [], harness := (true, "3425375aec16100f9fea869062a2fe74b4b36226b9170447b2036c26264d9baa"), looks := false }, kinds := [], alts := [], laidByText := true, laidKinds := [.data, .data, .data, .data], laidTests := true, laidLooks := .later }
def PrinterExprsUptoCardSaid : Prop := Claim7.holds Tryd.pinned (.plain (OpenSpec.upto printerExprsSpec)) printerExprsUptoCard

/-- THE SECOND FORM's CARD OF 'backsteplaw05.PrinterBlocks'. -/
def printerBlocksUptoCard : Claim7 := { stood := { row := printerBlocksUptoRow, standIns := [], harness := (true, "3425375aec16100f9fea869062a2fe74b4b36226b9170447b2036c26264d9baa"), looks := false }, kinds := [], alts := [], laidByText := true, laidKinds := [.data, .data, .data, .data], laidTests := true, laidLooks := .later }
def PrinterBlocksUptoCardSaid : Prop := Claim7.holds Tryd.pinned (.plain (OpenSpec.upto printerBlocksSpec)) printerBlocksUptoCard

/-- THE SECOND FORM's CARD OF 'backsteplaw05.PrinterPrograms'. -/
def printerProgramsUptoCard : Claim7 := { stood := { row := printerProgramsUptoRow, standIns := [], harness := (true, "3425375aec16100f9fea869062a2fe74b4b36226b9170447b2036c26264d9baa"), looks := false }, kinds := [], alts := [], laidByText := true, laidKinds := [.data, .data, .data, .data], laidTests := true, laidLooks := .later }
def PrinterProgramsUptoCardSaid : Prop := Claim7.holds Tryd.pinned (.plain (OpenSpec.upto printerProgramsSpec)) printerProgramsUptoCard
end Rows
end Go.Proofs.YtkadkafapjhhkaaDoor
