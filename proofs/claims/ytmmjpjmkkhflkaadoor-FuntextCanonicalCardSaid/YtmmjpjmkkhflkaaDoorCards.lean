/-
  DERIVED. GIVEN WITH THE SEED: THE CARDS: each row of YtmmjpjmkkhflkaaDoorRows.lean that lists a variable, with what it lists TIED to the program's text (the seventh form; the later family's looks); each row that meets fmt, with fmt's text TOLD by the authors' own Lean function (tested against real Go, not proved from fmt's source: count such statements apart). THE CARD IS WHAT COUNTS. Prove the row's statement (the work); the ties are given (YtmmjpjmkkhflkaaDoorTie.lean); close each card by the builder's one call (the guide's Derived/Test/ToyasCard.lean, 'card_holds'). Laid BY PROGRAM, IN A SANDBOX (cutbox-door.mjs). By AI agents, Wed Nov 11 2026. No macro, syntax, notation, axiom, sorry.
-/
import Derived.Test.YtmmjpjmkkhflkaaDoorRows
import GoSem.ClaimSeven
namespace Go.Proofs.YtmmjpjmkkhflkaaDoor
namespace Rows

/-- THE TIED CARD OF 'backsteplaw36.FuntextCanonical'. -/
def funtextCanonicalCard : Claim7 := { stood := { row := funtextCanonicalRow, standIns := [], harness := (true, "fd369217b8463fe915cbf50deae5105825a969c4d617bb243e8ef48ca2283ae7"), looks := true }, kinds := [], alts := [], laidByText := true, laidKinds := [.data, .data, .data, .data, .sentinel, .sentinel], laidTests := true, laidLooks := .later }
def FuntextCanonicalCardSaid : Prop := Claim7.holds Tryd.pinned (.plain (OpenSpec.ofChange funtextCanonicalSpec)) funtextCanonicalCard

/-- THE TIED CARD OF 'backsteplaw36.FuntextLayout'. -/
def funtextLayoutCard : Claim7 := { stood := { row := funtextLayoutRow, standIns := [], harness := (true, "fd369217b8463fe915cbf50deae5105825a969c4d617bb243e8ef48ca2283ae7"), looks := true }, kinds := [], alts := [], laidByText := true, laidKinds := [.data, .data, .data, .data, .sentinel, .sentinel], laidTests := true, laidLooks := .later }
def FuntextLayoutCardSaid : Prop := Claim7.holds Tryd.pinned (.plain (OpenSpec.ofChange funtextLayoutSpec)) funtextLayoutCard

/-- THE TIED CARD OF 'backsteplaw36.FuntextJoin'. -/
def funtextJoinCard : Claim7 := { stood := { row := funtextJoinRow, standIns := [], harness := (true, "fd369217b8463fe915cbf50deae5105825a969c4d617bb243e8ef48ca2283ae7"), looks := true }, kinds := [], alts := [], laidByText := true, laidKinds := [.data, .data, .data, .data, .sentinel, .sentinel], laidTests := true, laidLooks := .later }
def FuntextJoinCardSaid : Prop := Claim7.holds Tryd.pinned (.plain (OpenSpec.ofChange funtextJoinSpec)) funtextJoinCard

/-- THE TIED CARD OF 'backsteplaw36.FuntextCut'. -/
def funtextCutCard : Claim7 := { stood := { row := funtextCutRow, standIns := [], harness := (true, "fd369217b8463fe915cbf50deae5105825a969c4d617bb243e8ef48ca2283ae7"), looks := true }, kinds := [], alts := [], laidByText := true, laidKinds := [.data, .data, .data, .data, .sentinel, .sentinel], laidTests := true, laidLooks := .later }
def FuntextCutCardSaid : Prop := Claim7.holds Tryd.pinned (.plain (OpenSpec.ofChange funtextCutSpec)) funtextCutCard

/-- THE SECOND FORM's CARD OF 'backsteplaw36.FuntextCanonical'. -/
def funtextCanonicalUptoCard : Claim7 := { stood := { row := funtextCanonicalUptoRow, standIns := [], harness := (true, "fd369217b8463fe915cbf50deae5105825a969c4d617bb243e8ef48ca2283ae7"), looks := true }, kinds := [], alts := [], laidByText := true, laidKinds := [.data, .data, .data, .data, .sentinel, .sentinel], laidTests := true, laidLooks := .later }
def FuntextCanonicalUptoCardSaid : Prop := Claim7.holds Tryd.pinned (.plain (OpenSpec.upto funtextCanonicalSpec)) funtextCanonicalUptoCard

/-- THE SECOND FORM's CARD OF 'backsteplaw36.FuntextLayout'. -/
def funtextLayoutUptoCard : Claim7 := { stood := { row := funtextLayoutUptoRow, standIns := [], harness := (true, "fd369217b8463fe915cbf50deae5105825a969c4d617bb243e8ef48ca2283ae7"), looks := true }, kinds := [], alts := [], laidByText := true, laidKinds := [.data, .data, .data, .data, .sentinel, .sentinel], laidTests := true, laidLooks := .later }
def FuntextLayoutUptoCardSaid : Prop := Claim7.holds Tryd.pinned (.plain (OpenSpec.upto funtextLayoutSpec)) funtextLayoutUptoCard

/-- THE SECOND FORM's CARD OF 'backsteplaw36.FuntextJoin'. -/
def funtextJoinUptoCard : Claim7 := { stood := { row := funtextJoinUptoRow, standIns := [], harness := (true, "fd369217b8463fe915cbf50deae5105825a969c4d617bb243e8ef48ca2283ae7"), looks := true }, kinds := [], alts := [], laidByText := true, laidKinds := [.data, .data, .data, .data, .sentinel, .sentinel], laidTests := true, laidLooks := .later }
def FuntextJoinUptoCardSaid : Prop := Claim7.holds Tryd.pinned (.plain (OpenSpec.upto funtextJoinSpec)) funtextJoinUptoCard

/-- THE SECOND FORM's CARD OF 'backsteplaw36.FuntextCut'. -/
def funtextCutUptoCard : Claim7 := { stood := { row := funtextCutUptoRow, standIns := [], harness := (true, "fd369217b8463fe915cbf50deae5105825a969c4d617bb243e8ef48ca2283ae7"), looks := true }, kinds := [], alts := [], laidByText := true, laidKinds := [.data, .data, .data, .data, .sentinel, .sentinel], laidTests := true, laidLooks := .later }
def FuntextCutUptoCardSaid : Prop := Claim7.holds Tryd.pinned (.plain (OpenSpec.upto funtextCutSpec)) funtextCutUptoCard
end Rows
end Go.Proofs.YtmmjpjmkkhflkaaDoor
