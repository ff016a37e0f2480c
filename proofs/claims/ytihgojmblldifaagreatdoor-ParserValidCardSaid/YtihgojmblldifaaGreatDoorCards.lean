/-
  DERIVED. GIVEN WITH THE SEED: THE CARDS: each row of YtihgojmblldifaaGreatDoorRows.lean that lists a variable, with what it lists TIED to the program's text (the seventh form; the later family's looks); each row that meets fmt, with fmt's text TOLD by the authors' own Lean function (tested against real Go, not proved from fmt's source: count such statements apart). THE CARD IS WHAT COUNTS. Prove the row's statement (the work); the ties are given (YtihgojmblldifaaGreatDoorTie.lean); close each card by the builder's one call (the guide's Derived/Test/ToyasCard.lean, 'card_holds'). Laid BY PROGRAM, IN A SANDBOX (cutbox-door.mjs). By AI agents, Wed Nov 11 2026. No macro, syntax, notation, axiom, sorry.
-/
import Derived.Test.YtihgojmblldifaaGreatDoorRows
import GoSem.ClaimSeven
namespace Go.Proofs.YtihgojmblldifaaGreatDoor
namespace Rows

/-- THE TIED CARD OF 'backsteplaw04.ParserProgram'. -/
def parserProgramCard : Claim7 := { stood := { row := parserProgramRow, standIns := [], harness := (true, "73c82a3077435475ca914c2e7fc07aa27f8ba985828deca31399df48c6cf6987"), looks := true }, kinds := [], alts := [], laidByText := true, laidKinds := [.data, .data, .data, .data, .sentinel, .sentinel], laidTests := true, laidLooks := .later }
def ParserProgramCardSaid : Prop := Claim7.holds Tryz.pinned (.plain (OpenSpec.ofChange parserProgramSpec)) parserProgramCard

/-- THE TIED CARD OF 'backsteplaw04.ParserExpr'. -/
def parserExprCard : Claim7 := { stood := { row := parserExprRow, standIns := [], harness := (true, "73c82a3077435475ca914c2e7fc07aa27f8ba985828deca31399df48c6cf6987"), looks := true }, kinds := [], alts := [], laidByText := true, laidKinds := [.data, .data, .data, .data, .sentinel, .sentinel], laidTests := true, laidLooks := .later }
def ParserExprCardSaid : Prop := Claim7.holds Tryz.pinned (.plain (OpenSpec.ofChange parserExprSpec)) parserExprCard

/-- THE TIED CARD OF 'backsteplaw04.ParserBlock'. -/
def parserBlockCard : Claim7 := { stood := { row := parserBlockRow, standIns := [], harness := (true, "73c82a3077435475ca914c2e7fc07aa27f8ba985828deca31399df48c6cf6987"), looks := true }, kinds := [], alts := [], laidByText := true, laidKinds := [.data, .data, .data, .data, .sentinel, .sentinel], laidTests := true, laidLooks := .later }
def ParserBlockCardSaid : Prop := Claim7.holds Tryz.pinned (.plain (OpenSpec.ofChange parserBlockSpec)) parserBlockCard

/-- THE TIED CARD OF 'backsteplaw05.PrinterParens'. -/
def printerParensCard : Claim7 := { stood := { row := printerParensRow, standIns := [], harness := (true, "73c82a3077435475ca914c2e7fc07aa27f8ba985828deca31399df48c6cf6987"), looks := true }, kinds := [], alts := [], laidByText := true, laidKinds := [.data, .data, .data, .data, .sentinel, .sentinel], laidTests := true, laidLooks := .later }
def PrinterParensCardSaid : Prop := Claim7.holds Tryz.pinned (.plain (OpenSpec.ofChange printerParensSpec)) printerParensCard

/-- THE TIED CARD OF 'backsteplaw04.ParserValid'. -/
def parserValidCard : Claim7 := { stood := { row := parserValidRow, standIns := [], harness := (true, "73c82a3077435475ca914c2e7fc07aa27f8ba985828deca31399df48c6cf6987"), looks := true }, kinds := [], alts := [], laidByText := true, laidKinds := [.data, .data, .data, .data, .sentinel, .sentinel], laidTests := true, laidLooks := .later }
def ParserValidCardSaid : Prop := Claim7.holds Tryz.pinned (.plain (OpenSpec.ofChange parserValidSpec)) parserValidCard

/-- THE SECOND FORM's CARD OF 'backsteplaw04.ParserProgram'. -/
def parserProgramUptoCard : Claim7 := { stood := { row := parserProgramUptoRow, standIns := [], harness := (true, "73c82a3077435475ca914c2e7fc07aa27f8ba985828deca31399df48c6cf6987"), looks := true }, kinds := [], alts := [], laidByText := true, laidKinds := [.data, .data, .data, .data, .sentinel, .sentinel], laidTests := true, laidLooks := .later }
def ParserProgramUptoCardSaid : Prop := Claim7.holds Tryz.pinned (.plain (OpenSpec.upto parserProgramSpec)) parserProgramUptoCard

/-- THE SECOND FORM's CARD OF 'backsteplaw04.ParserExpr'. -/
def parserExprUptoCard : Claim7 := { stood := { row := parserExprUptoRow, standIns := [], harness := (true, "73c82a3077435475ca914c2e7fc07aa27f8ba985828deca31399df48c6cf6987"), looks := true }, kinds := [], alts := [], laidByText := true, laidKinds := [.data, .data, .data, .data, .sentinel, .sentinel], laidTests := true, laidLooks := .later }
def ParserExprUptoCardSaid : Prop := Claim7.holds Tryz.pinned (.plain (OpenSpec.upto parserExprSpec)) parserExprUptoCard

/-- THE SECOND FORM's CARD OF 'backsteplaw04.ParserBlock'. -/
def parserBlockUptoCard : Claim7 := { stood := { row := parserBlockUptoRow, standIns := [], harness := (true, "73c82a3077435475ca914c2e7fc07aa27f8ba985828deca31399df48c6cf6987"), looks := true }, kinds := [], alts := [], laidByText := true, laidKinds := [.data, .data, .data, .data, .sentinel, .sentinel], laidTests := true, laidLooks := .later }
def ParserBlockUptoCardSaid : Prop := Claim7.holds Tryz.pinned (.plain (OpenSpec.upto parserBlockSpec)) parserBlockUptoCard

/-- THE SECOND FORM's CARD OF 'backsteplaw05.PrinterParens'. -/
def printerParensUptoCard : Claim7 := { stood := { row := printerParensUptoRow, standIns := [], harness := (true, "73c82a3077435475ca914c2e7fc07aa27f8ba985828deca31399df48c6cf6987"), looks := true }, kinds := [], alts := [], laidByText := true, laidKinds := [.data, .data, .data, .data, .sentinel, .sentinel], laidTests := true, laidLooks := .later }
def PrinterParensUptoCardSaid : Prop := Claim7.holds Tryz.pinned (.plain (OpenSpec.upto printerParensSpec)) printerParensUptoCard

/-- THE SECOND FORM's CARD OF 'backsteplaw04.ParserValid'. -/
def parserValidUptoCard : Claim7 := { stood := { row := parserValidUptoRow, standIns := [], harness := (true, "73c82a3077435475ca914c2e7fc07aa27f8ba985828deca31399df48c6cf6987"), looks := true }, kinds := [], alts := [], laidByText := true, laidKinds := [.data, .data, .data, .data, .sentinel, .sentinel], laidTests := true, laidLooks := .later }
def ParserValidUptoCardSaid : Prop := Claim7.holds Tryz.pinned (.plain (OpenSpec.upto parserValidSpec)) parserValidUptoCard
end Rows
end Go.Proofs.YtihgojmblldifaaGreatDoor
