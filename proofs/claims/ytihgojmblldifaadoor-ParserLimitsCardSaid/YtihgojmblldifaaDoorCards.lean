/-
  DERIVED. GIVEN WITH THE SEED: THE CARDS: each row of YtihgojmblldifaaDoorRows.lean that lists a variable, with what it lists TIED to the program's text (the seventh form; the later family's looks); each row that meets fmt, with fmt's text TOLD by the authors' own Lean function (tested against real Go, not proved from fmt's source: count such statements apart). THE CARD IS WHAT COUNTS. Prove the row's statement (the work); the ties are given (YtihgojmblldifaaDoorTie.lean); close each card by the builder's one call (the guide's Derived/Test/ToyasCard.lean, 'card_holds'). Laid BY PROGRAM, IN A SANDBOX (cutbox-door.mjs). By AI agents, Wed Nov 11 2026. No macro, syntax, notation, axiom, sorry.
-/
import Derived.Test.YtihgojmblldifaaDoorRows
import GoSem.ClaimSeven
namespace Go.Proofs.YtihgojmblldifaaDoor
namespace Rows

/-- THE TIED CARD OF 'backsteplaw04.ParserLayout'. -/
def parserLayoutCard : Claim7 := { stood := { row := parserLayoutRow, standIns := [], harness := (true, "9b8cd0be7697f285e0336a3cf49a9139d30422522d0e4a7cba2476f0f69baa4a"), looks := true }, kinds := [], alts := [], laidByText := true, laidKinds := [.data, .data, .data, .data, .sentinel, .sentinel], laidTests := true, laidLooks := .later }
def ParserLayoutCardSaid : Prop := Claim7.holds Tryd.pinned (.plain (OpenSpec.ofChange parserLayoutSpec)) parserLayoutCard

/-- THE TIED CARD OF 'backsteplaw04.ParserCut'. -/
def parserCutCard : Claim7 := { stood := { row := parserCutRow, standIns := [], harness := (true, "9b8cd0be7697f285e0336a3cf49a9139d30422522d0e4a7cba2476f0f69baa4a"), looks := true }, kinds := [], alts := [], laidByText := true, laidKinds := [.data, .data, .data, .data, .sentinel, .sentinel], laidTests := true, laidLooks := .later }
def ParserCutCardSaid : Prop := Claim7.holds Tryd.pinned (.plain (OpenSpec.ofChange parserCutSpec)) parserCutCard

/-- THE TIED CARD OF 'backsteplaw04.ParserFirst'. -/
def parserFirstCard : Claim7 := { stood := { row := parserFirstRow, standIns := [], harness := (true, "9b8cd0be7697f285e0336a3cf49a9139d30422522d0e4a7cba2476f0f69baa4a"), looks := true }, kinds := [], alts := [], laidByText := true, laidKinds := [.data, .data, .data, .data, .sentinel, .sentinel], laidTests := true, laidLooks := .later }
def ParserFirstCardSaid : Prop := Claim7.holds Tryd.pinned (.plain (OpenSpec.ofChange parserFirstSpec)) parserFirstCard

/-- THE TIED CARD OF 'backsteplaw04.ParserParens'. -/
def parserParensCard : Claim7 := { stood := { row := parserParensRow, standIns := [], harness := (true, "9b8cd0be7697f285e0336a3cf49a9139d30422522d0e4a7cba2476f0f69baa4a"), looks := true }, kinds := [], alts := [], laidByText := true, laidKinds := [.data, .data, .data, .data, .sentinel, .sentinel], laidTests := true, laidLooks := .later }
def ParserParensCardSaid : Prop := Claim7.holds Tryd.pinned (.plain (OpenSpec.ofChange parserParensSpec)) parserParensCard

/-- THE TIED CARD OF 'backsteplaw04.ParserLevels'. -/
def parserLevelsCard : Claim7 := { stood := { row := parserLevelsRow, standIns := [], harness := (true, "9b8cd0be7697f285e0336a3cf49a9139d30422522d0e4a7cba2476f0f69baa4a"), looks := true }, kinds := [], alts := [], laidByText := true, laidKinds := [.data, .data, .data, .data, .sentinel, .sentinel], laidTests := true, laidLooks := .later }
def ParserLevelsCardSaid : Prop := Claim7.holds Tryd.pinned (.plain (OpenSpec.ofChange parserLevelsSpec)) parserLevelsCard

/-- THE TIED CARD OF 'backsteplaw04.ParserNumbers'. -/
def parserNumbersCard : Claim7 := { stood := { row := parserNumbersRow, standIns := [], harness := (true, "9b8cd0be7697f285e0336a3cf49a9139d30422522d0e4a7cba2476f0f69baa4a"), looks := true }, kinds := [], alts := [], laidByText := true, laidKinds := [.data, .data, .data, .data, .sentinel, .sentinel], laidTests := true, laidLooks := .later }
def ParserNumbersCardSaid : Prop := Claim7.holds Tryd.pinned (.plain (OpenSpec.ofChange parserNumbersSpec)) parserNumbersCard

/-- THE TIED CARD OF 'backsteplaw04.ParserLimits'. -/
def parserLimitsCard : Claim7 := { stood := { row := parserLimitsRow, standIns := [], harness := (true, "9b8cd0be7697f285e0336a3cf49a9139d30422522d0e4a7cba2476f0f69baa4a"), looks := true }, kinds := [], alts := [], laidByText := true, laidKinds := [.data, .data, .data, .data, .sentinel, .sentinel], laidTests := true, laidLooks := .later }
def ParserLimitsCardSaid : Prop := Claim7.holds Tryd.pinned (.plain (OpenSpec.ofChange parserLimitsSpec)) parserLimitsCard

/-- THE SECOND FORM's CARD OF 'backsteplaw04.ParserLayout'. -/
def parserLayoutUptoCard : Claim7 := { stood := { row := parserLayoutUptoRow, standIns := [], harness := (true, "9b8cd0be7697f285e0336a3cf49a9139d30422522d0e4a7cba2476f0f69baa4a"), looks := true }, kinds := [], alts := [], laidByText := true, laidKinds := [.data, .data, .data, .data, .sentinel, .sentinel], laidTests := true, laidLooks := .later }
def ParserLayoutUptoCardSaid : Prop := Claim7.holds Tryd.pinned (.plain (OpenSpec.upto parserLayoutSpec)) parserLayoutUptoCard

/-- THE SECOND FORM's CARD OF 'backsteplaw04.ParserCut'. -/
def parserCutUptoCard : Claim7 := { stood := { row := parserCutUptoRow, standIns := [], harness := (true, "9b8cd0be7697f285e0336a3cf49a9139d30422522d0e4a7cba2476f0f69baa4a"), looks := true }, kinds := [], alts := [], laidByText := true, laidKinds := [.data, .data, .data, .data, .sentinel, .sentinel], laidTests := true, laidLooks := .later }
def ParserCutUptoCardSaid : Prop := Claim7.holds Tryd.pinned (.plain (OpenSpec.upto parserCutSpec)) parserCutUptoCard

/-- THE SECOND FORM's CARD OF 'backsteplaw04.ParserFirst'. -/
def parserFirstUptoCard : Claim7 := { stood := { row := parserFirstUptoRow, standIns := [], harness := (true, "9b8cd0be7697f285e0336a3cf49a9139d30422522d0e4a7cba2476f0f69baa4a"), looks := true }, kinds := [], alts := [], laidByText := true, laidKinds := [.data, .data, .data, .data, .sentinel, .sentinel], laidTests := true, laidLooks := .later }
def ParserFirstUptoCardSaid : Prop := Claim7.holds Tryd.pinned (.plain (OpenSpec.upto parserFirstSpec)) parserFirstUptoCard

/-- THE SECOND FORM's CARD OF 'backsteplaw04.ParserParens'. -/
def parserParensUptoCard : Claim7 := { stood := { row := parserParensUptoRow, standIns := [], harness := (true, "9b8cd0be7697f285e0336a3cf49a9139d30422522d0e4a7cba2476f0f69baa4a"), looks := true }, kinds := [], alts := [], laidByText := true, laidKinds := [.data, .data, .data, .data, .sentinel, .sentinel], laidTests := true, laidLooks := .later }
def ParserParensUptoCardSaid : Prop := Claim7.holds Tryd.pinned (.plain (OpenSpec.upto parserParensSpec)) parserParensUptoCard

/-- THE SECOND FORM's CARD OF 'backsteplaw04.ParserLevels'. -/
def parserLevelsUptoCard : Claim7 := { stood := { row := parserLevelsUptoRow, standIns := [], harness := (true, "9b8cd0be7697f285e0336a3cf49a9139d30422522d0e4a7cba2476f0f69baa4a"), looks := true }, kinds := [], alts := [], laidByText := true, laidKinds := [.data, .data, .data, .data, .sentinel, .sentinel], laidTests := true, laidLooks := .later }
def ParserLevelsUptoCardSaid : Prop := Claim7.holds Tryd.pinned (.plain (OpenSpec.upto parserLevelsSpec)) parserLevelsUptoCard

/-- THE SECOND FORM's CARD OF 'backsteplaw04.ParserNumbers'. -/
def parserNumbersUptoCard : Claim7 := { stood := { row := parserNumbersUptoRow, standIns := [], harness := (true, "9b8cd0be7697f285e0336a3cf49a9139d30422522d0e4a7cba2476f0f69baa4a"), looks := true }, kinds := [], alts := [], laidByText := true, laidKinds := [.data, .data, .data, .data, .sentinel, .sentinel], laidTests := true, laidLooks := .later }
def ParserNumbersUptoCardSaid : Prop := Claim7.holds Tryd.pinned (.plain (OpenSpec.upto parserNumbersSpec)) parserNumbersUptoCard

/-- THE SECOND FORM's CARD OF 'backsteplaw04.ParserLimits'. -/
def parserLimitsUptoCard : Claim7 := { stood := { row := parserLimitsUptoRow, standIns := [], harness := (true, "9b8cd0be7697f285e0336a3cf49a9139d30422522d0e4a7cba2476f0f69baa4a"), looks := true }, kinds := [], alts := [], laidByText := true, laidKinds := [.data, .data, .data, .data, .sentinel, .sentinel], laidTests := true, laidLooks := .later }
def ParserLimitsUptoCardSaid : Prop := Claim7.holds Tryd.pinned (.plain (OpenSpec.upto parserLimitsSpec)) parserLimitsUptoCard
end Rows
end Go.Proofs.YtihgojmblldifaaDoor
