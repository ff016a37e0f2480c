/-
  DERIVED. GIVEN WITH THE SEED: THE CARDS: each row of YtoagkanlgkdhiaaGreatDoorRows.lean that lists a variable, with what it lists TIED to the program's text (the seventh form; the later family's looks); each row that meets fmt, with fmt's text TOLD by the authors' own Lean function (tested against real Go, not proved from fmt's source: count such statements apart). THE CARD IS WHAT COUNTS. Prove the row's statement (the work); the ties are given (YtoagkanlgkdhiaaGreatDoorTie.lean); close each card by the builder's one call (the guide's Derived/Test/ToyasCard.lean, 'card_holds'). Laid BY PROGRAM, IN A SANDBOX (cutbox-door.mjs). By AI agents, Wed Nov 11 2026. No macro, syntax, notation, axiom, sorry.
-/
import Derived.Test.YtoagkanlgkdhiaaGreatDoorRows
import GoSem.ClaimSeven
namespace Go.Proofs.YtoagkanlgkdhiaaGreatDoor
namespace Rows

/-- THE TIED CARD OF 'backsteplaw17.InverterAccepted'. -/
def inverterAcceptedCard : Claim7 := { stood := { row := inverterAcceptedRow, standIns := [], harness := (true, "89ba45494d9a672e3c302472a7ef7bee8e29c8e4b9c56f79f3f2eca0cd1de1c3"), looks := true }, kinds := [], alts := [], laidByText := true, laidKinds := [.data, .data, .data, .data, .sentinel, .sentinel], laidTests := true, laidLooks := .later }
def InverterAcceptedCardSaid : Prop := Claim7.holds Tryz.pinned (.plain (OpenSpec.ofChange inverterAcceptedSpec)) inverterAcceptedCard

/-- THE SECOND FORM's CARD OF 'backsteplaw17.InverterAccepted'. -/
def inverterAcceptedUptoCard : Claim7 := { stood := { row := inverterAcceptedUptoRow, standIns := [], harness := (true, "89ba45494d9a672e3c302472a7ef7bee8e29c8e4b9c56f79f3f2eca0cd1de1c3"), looks := true }, kinds := [], alts := [], laidByText := true, laidKinds := [.data, .data, .data, .data, .sentinel, .sentinel], laidTests := true, laidLooks := .later }
def InverterAcceptedUptoCardSaid : Prop := Claim7.holds Tryz.pinned (.plain (OpenSpec.upto inverterAcceptedSpec)) inverterAcceptedUptoCard
end Rows
end Go.Proofs.YtoagkanlgkdhiaaGreatDoor
