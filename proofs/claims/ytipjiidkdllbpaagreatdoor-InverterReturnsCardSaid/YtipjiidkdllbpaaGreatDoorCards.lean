/-
  DERIVED. GIVEN WITH THE SEED: THE CARDS: each row of YtipjiidkdllbpaaGreatDoorRows.lean that lists a variable, with what it lists TIED to the program's text (the seventh form; the later family's looks); each row that meets fmt, with fmt's text TOLD by the authors' own Lean function (tested against real Go, not proved from fmt's source: count such statements apart). THE CARD IS WHAT COUNTS. Prove the row's statement (the work); the ties are given (YtipjiidkdllbpaaGreatDoorTie.lean); close each card by the builder's one call (the guide's Derived/Test/ToyasCard.lean, 'card_holds'). Laid BY PROGRAM, IN A SANDBOX (cutbox-door.mjs). By AI agents, Wed Nov 11 2026. No macro, syntax, notation, axiom, sorry.
-/
import Derived.Test.YtipjiidkdllbpaaGreatDoorRows
import GoSem.ClaimSeven
namespace Go.Proofs.YtipjiidkdllbpaaGreatDoor
namespace Rows

/-- THE TIED CARD OF 'backsteplaw17.InverterRuns'. -/
def inverterRunsCard : Claim7 := { stood := { row := inverterRunsRow, standIns := [], harness := (true, "1d50c929a26e03fda9b573118027b0b01223cb18cdba7f6e007f2d30bc1617d5"), looks := true }, kinds := [], alts := [], laidByText := true, laidKinds := [.data, .data, .data, .data, .sentinel, .sentinel], laidTests := true, laidLooks := .later }
def InverterRunsCardSaid : Prop := Claim7.holds Tryz.pinned (.plain (OpenSpec.ofChange inverterRunsSpec)) inverterRunsCard

/-- THE TIED CARD OF 'backsteplaw17.InverterDeep'. -/
def inverterDeepCard : Claim7 := { stood := { row := inverterDeepRow, standIns := [], harness := (true, "1d50c929a26e03fda9b573118027b0b01223cb18cdba7f6e007f2d30bc1617d5"), looks := true }, kinds := [], alts := [], laidByText := true, laidKinds := [.data, .data, .data, .data, .sentinel, .sentinel], laidTests := true, laidLooks := .later }
def InverterDeepCardSaid : Prop := Claim7.holds Tryz.pinned (.plain (OpenSpec.ofChange inverterDeepSpec)) inverterDeepCard

/-- THE TIED CARD OF 'backsteplaw17.InverterReturns'. -/
def inverterReturnsCard : Claim7 := { stood := { row := inverterReturnsRow, standIns := [], harness := (true, "1d50c929a26e03fda9b573118027b0b01223cb18cdba7f6e007f2d30bc1617d5"), looks := true }, kinds := [], alts := [], laidByText := true, laidKinds := [.data, .data, .data, .data, .sentinel, .sentinel], laidTests := true, laidLooks := .later }
def InverterReturnsCardSaid : Prop := Claim7.holds Tryz.pinned (.plain (OpenSpec.ofChange inverterReturnsSpec)) inverterReturnsCard

/-- THE SECOND FORM's CARD OF 'backsteplaw17.InverterRuns'. -/
def inverterRunsUptoCard : Claim7 := { stood := { row := inverterRunsUptoRow, standIns := [], harness := (true, "1d50c929a26e03fda9b573118027b0b01223cb18cdba7f6e007f2d30bc1617d5"), looks := true }, kinds := [], alts := [], laidByText := true, laidKinds := [.data, .data, .data, .data, .sentinel, .sentinel], laidTests := true, laidLooks := .later }
def InverterRunsUptoCardSaid : Prop := Claim7.holds Tryz.pinned (.plain (OpenSpec.upto inverterRunsSpec)) inverterRunsUptoCard

/-- THE SECOND FORM's CARD OF 'backsteplaw17.InverterDeep'. -/
def inverterDeepUptoCard : Claim7 := { stood := { row := inverterDeepUptoRow, standIns := [], harness := (true, "1d50c929a26e03fda9b573118027b0b01223cb18cdba7f6e007f2d30bc1617d5"), looks := true }, kinds := [], alts := [], laidByText := true, laidKinds := [.data, .data, .data, .data, .sentinel, .sentinel], laidTests := true, laidLooks := .later }
def InverterDeepUptoCardSaid : Prop := Claim7.holds Tryz.pinned (.plain (OpenSpec.upto inverterDeepSpec)) inverterDeepUptoCard

/-- THE SECOND FORM's CARD OF 'backsteplaw17.InverterReturns'. -/
def inverterReturnsUptoCard : Claim7 := { stood := { row := inverterReturnsUptoRow, standIns := [], harness := (true, "1d50c929a26e03fda9b573118027b0b01223cb18cdba7f6e007f2d30bc1617d5"), looks := true }, kinds := [], alts := [], laidByText := true, laidKinds := [.data, .data, .data, .data, .sentinel, .sentinel], laidTests := true, laidLooks := .later }
def InverterReturnsUptoCardSaid : Prop := Claim7.holds Tryz.pinned (.plain (OpenSpec.upto inverterReturnsSpec)) inverterReturnsUptoCard
end Rows
end Go.Proofs.YtipjiidkdllbpaaGreatDoor
