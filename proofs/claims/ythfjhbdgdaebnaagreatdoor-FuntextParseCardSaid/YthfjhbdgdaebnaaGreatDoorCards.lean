/-
  DERIVED. GIVEN WITH THE SEED: THE CARDS: each row of YthfjhbdgdaebnaaGreatDoorRows.lean that lists a variable, with what it lists TIED to the program's text (the seventh form; the later family's looks); each row that meets fmt, with fmt's text TOLD by the authors' own Lean function (tested against real Go, not proved from fmt's source: count such statements apart). THE CARD IS WHAT COUNTS. Prove the row's statement (the work); the ties are given (YthfjhbdgdaebnaaGreatDoorTie.lean); close each card by the builder's one call (the guide's Derived/Test/ToyasCard.lean, 'card_holds'). Laid BY PROGRAM, IN A SANDBOX (cutbox-door.mjs). By AI agents, Wed Nov 11 2026. No macro, syntax, notation, axiom, sorry.
-/
import Derived.Test.YthfjhbdgdaebnaaGreatDoorRows
import GoSem.ClaimSeven
namespace Go.Proofs.YthfjhbdgdaebnaaGreatDoor
namespace Rows

/-- THE TIED CARD OF 'backsteplaw36.FuntextPrint'. -/
def funtextPrintCard : Claim7 := { stood := { row := funtextPrintRow, standIns := [], harness := (true, "2ffd1f91d23f5ed6012d4141150d56593489f63f7b34495ccd2af95277eff971"), looks := true }, kinds := [], alts := [], laidByText := true, laidKinds := [.data, .data, .data, .data, .sentinel, .sentinel], laidTests := true, laidLooks := .later }
def FuntextPrintCardSaid : Prop := Claim7.holds Tryz.pinned (.plain (OpenSpec.ofChange funtextPrintSpec)) funtextPrintCard

/-- THE TIED CARD OF 'backsteplaw36.FuntextParse'. -/
def funtextParseCard : Claim7 := { stood := { row := funtextParseRow, standIns := [], harness := (true, "2ffd1f91d23f5ed6012d4141150d56593489f63f7b34495ccd2af95277eff971"), looks := true }, kinds := [], alts := [], laidByText := true, laidKinds := [.data, .data, .data, .data, .sentinel, .sentinel], laidTests := true, laidLooks := .later }
def FuntextParseCardSaid : Prop := Claim7.holds Tryz.pinned (.plain (OpenSpec.ofChange funtextParseSpec)) funtextParseCard

/-- THE SECOND FORM's CARD OF 'backsteplaw36.FuntextPrint'. -/
def funtextPrintUptoCard : Claim7 := { stood := { row := funtextPrintUptoRow, standIns := [], harness := (true, "2ffd1f91d23f5ed6012d4141150d56593489f63f7b34495ccd2af95277eff971"), looks := true }, kinds := [], alts := [], laidByText := true, laidKinds := [.data, .data, .data, .data, .sentinel, .sentinel], laidTests := true, laidLooks := .later }
def FuntextPrintUptoCardSaid : Prop := Claim7.holds Tryz.pinned (.plain (OpenSpec.upto funtextPrintSpec)) funtextPrintUptoCard

/-- THE SECOND FORM's CARD OF 'backsteplaw36.FuntextParse'. -/
def funtextParseUptoCard : Claim7 := { stood := { row := funtextParseUptoRow, standIns := [], harness := (true, "2ffd1f91d23f5ed6012d4141150d56593489f63f7b34495ccd2af95277eff971"), looks := true }, kinds := [], alts := [], laidByText := true, laidKinds := [.data, .data, .data, .data, .sentinel, .sentinel], laidTests := true, laidLooks := .later }
def FuntextParseUptoCardSaid : Prop := Claim7.holds Tryz.pinned (.plain (OpenSpec.upto funtextParseSpec)) funtextParseUptoCard
end Rows
end Go.Proofs.YthfjhbdgdaebnaaGreatDoor
