/-
  DERIVED. GIVEN WITH THE SEED: THE CARDS: each row of YtgiikljkekpenaaGreatDoorRows.lean that lists a variable, with what it lists TIED to the program's text (the seventh form; the later family's looks); each row that meets fmt, with fmt's text TOLD by the authors' own Lean function (tested against real Go, not proved from fmt's source: count such statements apart). THE CARD IS WHAT COUNTS. Prove the row's statement (the work); the ties are given (YtgiikljkekpenaaGreatDoorTie.lean); close each card by the builder's one call (the guide's Derived/Test/ToyasCard.lean, 'card_holds'). Laid BY PROGRAM, IN A SANDBOX (cutbox-door.mjs). By AI agents, Wed Nov 11 2026. No macro, syntax, notation, axiom, sorry.
-/
import Derived.Test.YtgiikljkekpenaaGreatDoorRows
import GoSem.ClaimSeven
namespace Go.Proofs.YtgiikljkekpenaaGreatDoor
namespace Rows

/-- THE TIED CARD OF 'backsteplaw17.InverterStmts'. -/
def inverterStmtsCard : Claim7 := { stood := { row := inverterStmtsRow, standIns := [], harness := (true, "b3fbc9372eb5b6aa41bca162a8118b4aa65516a2f88c90e6c8fcdcd025585ec3"), looks := true }, kinds := [], alts := [], laidByText := true, laidKinds := [.data, .data, .data, .data, .sentinel, .sentinel], laidTests := true, laidLooks := .later }
def InverterStmtsCardSaid : Prop := Claim7.holds Tryz.pinned (.plain (OpenSpec.ofChange inverterStmtsSpec)) inverterStmtsCard

/-- THE TIED CARD OF 'backsteplaw17.InverterConcat'. -/
def inverterConcatCard : Claim7 := { stood := { row := inverterConcatRow, standIns := [], harness := (true, "b3fbc9372eb5b6aa41bca162a8118b4aa65516a2f88c90e6c8fcdcd025585ec3"), looks := true }, kinds := [], alts := [], laidByText := true, laidKinds := [.data, .data, .data, .data, .sentinel, .sentinel], laidTests := true, laidLooks := .later }
def InverterConcatCardSaid : Prop := Claim7.holds Tryz.pinned (.plain (OpenSpec.ofChange inverterConcatSpec)) inverterConcatCard

/-- THE TIED CARD OF 'backsteplaw17.InverterPrograms'. -/
def inverterProgramsCard : Claim7 := { stood := { row := inverterProgramsRow, standIns := [], harness := (true, "b3fbc9372eb5b6aa41bca162a8118b4aa65516a2f88c90e6c8fcdcd025585ec3"), looks := true }, kinds := [], alts := [], laidByText := true, laidKinds := [.data, .data, .data, .data, .sentinel, .sentinel], laidTests := true, laidLooks := .later }
def InverterProgramsCardSaid : Prop := Claim7.holds Tryz.pinned (.plain (OpenSpec.ofChange inverterProgramsSpec)) inverterProgramsCard

/-- THE TIED CARD OF 'backsteplaw17.InverterTwice'. -/
def inverterTwiceCard : Claim7 := { stood := { row := inverterTwiceRow, standIns := [], harness := (true, "b3fbc9372eb5b6aa41bca162a8118b4aa65516a2f88c90e6c8fcdcd025585ec3"), looks := true }, kinds := [], alts := [], laidByText := true, laidKinds := [.data, .data, .data, .data, .sentinel, .sentinel], laidTests := true, laidLooks := .later }
def InverterTwiceCardSaid : Prop := Claim7.holds Tryz.pinned (.plain (OpenSpec.ofChange inverterTwiceSpec)) inverterTwiceCard

/-- THE SECOND FORM's CARD OF 'backsteplaw17.InverterStmts'. -/
def inverterStmtsUptoCard : Claim7 := { stood := { row := inverterStmtsUptoRow, standIns := [], harness := (true, "b3fbc9372eb5b6aa41bca162a8118b4aa65516a2f88c90e6c8fcdcd025585ec3"), looks := true }, kinds := [], alts := [], laidByText := true, laidKinds := [.data, .data, .data, .data, .sentinel, .sentinel], laidTests := true, laidLooks := .later }
def InverterStmtsUptoCardSaid : Prop := Claim7.holds Tryz.pinned (.plain (OpenSpec.upto inverterStmtsSpec)) inverterStmtsUptoCard

/-- THE SECOND FORM's CARD OF 'backsteplaw17.InverterConcat'. -/
def inverterConcatUptoCard : Claim7 := { stood := { row := inverterConcatUptoRow, standIns := [], harness := (true, "b3fbc9372eb5b6aa41bca162a8118b4aa65516a2f88c90e6c8fcdcd025585ec3"), looks := true }, kinds := [], alts := [], laidByText := true, laidKinds := [.data, .data, .data, .data, .sentinel, .sentinel], laidTests := true, laidLooks := .later }
def InverterConcatUptoCardSaid : Prop := Claim7.holds Tryz.pinned (.plain (OpenSpec.upto inverterConcatSpec)) inverterConcatUptoCard

/-- THE SECOND FORM's CARD OF 'backsteplaw17.InverterPrograms'. -/
def inverterProgramsUptoCard : Claim7 := { stood := { row := inverterProgramsUptoRow, standIns := [], harness := (true, "b3fbc9372eb5b6aa41bca162a8118b4aa65516a2f88c90e6c8fcdcd025585ec3"), looks := true }, kinds := [], alts := [], laidByText := true, laidKinds := [.data, .data, .data, .data, .sentinel, .sentinel], laidTests := true, laidLooks := .later }
def InverterProgramsUptoCardSaid : Prop := Claim7.holds Tryz.pinned (.plain (OpenSpec.upto inverterProgramsSpec)) inverterProgramsUptoCard

/-- THE SECOND FORM's CARD OF 'backsteplaw17.InverterTwice'. -/
def inverterTwiceUptoCard : Claim7 := { stood := { row := inverterTwiceUptoRow, standIns := [], harness := (true, "b3fbc9372eb5b6aa41bca162a8118b4aa65516a2f88c90e6c8fcdcd025585ec3"), looks := true }, kinds := [], alts := [], laidByText := true, laidKinds := [.data, .data, .data, .data, .sentinel, .sentinel], laidTests := true, laidLooks := .later }
def InverterTwiceUptoCardSaid : Prop := Claim7.holds Tryz.pinned (.plain (OpenSpec.upto inverterTwiceSpec)) inverterTwiceUptoCard
end Rows
end Go.Proofs.YtgiikljkekpenaaGreatDoor
