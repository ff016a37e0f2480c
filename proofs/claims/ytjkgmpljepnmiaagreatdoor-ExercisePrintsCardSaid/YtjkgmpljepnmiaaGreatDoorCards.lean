/-
  DERIVED. GIVEN WITH THE SEED: THE CARDS: each row of YtjkgmpljepnmiaaGreatDoorRows.lean that lists a variable, with what it lists TIED to the program's text (the seventh form; the later family's looks); each row that meets fmt, with fmt's text TOLD by the authors' own Lean function (tested against real Go, not proved from fmt's source: count such statements apart). THE CARD IS WHAT COUNTS. Prove the row's statement (the work); the ties are given (YtjkgmpljepnmiaaGreatDoorTie.lean); close each card by the builder's one call (the guide's Derived/Test/ToyasCard.lean, 'card_holds'). Laid BY PROGRAM, IN A SANDBOX (cutbox-door.mjs). By AI agents, Wed Nov 11 2026. No macro, syntax, notation, axiom, sorry.
-/
import Derived.Test.YtjkgmpljepnmiaaGreatDoorRows
import GoSem.ClaimSeven
namespace Go.Proofs.YtjkgmpljepnmiaaGreatDoor
namespace Rows

/-- THE TIED CARD OF 'backsteplaw47.ExercisePrints'. -/
def exercisePrintsCard : Claim7 := { stood := { row := exercisePrintsRow, standIns := [], harness := (true, "0fddce56f691d463a1819fbd0cf0c0e23d44a5f539d281a5230f4a5147570b94"), looks := true }, kinds := [], alts := [], laidByText := true, laidKinds := [.data, .data, .data, .data, .data, .sentinel, .sentinel, .pinned], laidTests := true, laidLooks := .later }
def ExercisePrintsCardSaid : Prop := Claim7.holds Tryz.pinned (.plain (OpenSpec.ofChange exercisePrintsSpec)) exercisePrintsCard

/-- THE TIED CARD OF 'backsteplaw47.ExerciseOne'. -/
def exerciseOneCard : Claim7 := { stood := { row := exerciseOneRow, standIns := [], harness := (true, "0fddce56f691d463a1819fbd0cf0c0e23d44a5f539d281a5230f4a5147570b94"), looks := true }, kinds := [], alts := [], laidByText := true, laidKinds := [.data, .data, .data, .data, .data, .sentinel, .sentinel, .pinned], laidTests := true, laidLooks := .later }
def ExerciseOneCardSaid : Prop := Claim7.holds Tryz.pinned (.plain (OpenSpec.ofChange exerciseOneSpec)) exerciseOneCard

/-- THE TIED CARD OF 'backsteplaw47.ExerciseParses'. -/
def exerciseParsesCard : Claim7 := { stood := { row := exerciseParsesRow, standIns := [], harness := (true, "0fddce56f691d463a1819fbd0cf0c0e23d44a5f539d281a5230f4a5147570b94"), looks := true }, kinds := [], alts := [], laidByText := true, laidKinds := [.data, .data, .data, .data, .data, .sentinel, .sentinel, .pinned], laidTests := true, laidLooks := .later }
def ExerciseParsesCardSaid : Prop := Claim7.holds Tryz.pinned (.plain (OpenSpec.ofChange exerciseParsesSpec)) exerciseParsesCard

/-- THE TIED CARD OF 'backsteplaw47.ExerciseBack'. -/
def exerciseBackCard : Claim7 := { stood := { row := exerciseBackRow, standIns := [], harness := (true, "0fddce56f691d463a1819fbd0cf0c0e23d44a5f539d281a5230f4a5147570b94"), looks := true }, kinds := [], alts := [], laidByText := true, laidKinds := [.data, .data, .data, .data, .data, .sentinel, .sentinel, .pinned], laidTests := true, laidLooks := .later }
def ExerciseBackCardSaid : Prop := Claim7.holds Tryz.pinned (.plain (OpenSpec.ofChange exerciseBackSpec)) exerciseBackCard

/-- THE TIED CARD OF 'backsteplaw47.ExerciseTwice'. -/
def exerciseTwiceCard : Claim7 := { stood := { row := exerciseTwiceRow, standIns := [], harness := (true, "0fddce56f691d463a1819fbd0cf0c0e23d44a5f539d281a5230f4a5147570b94"), looks := true }, kinds := [], alts := [], laidByText := true, laidKinds := [.data, .data, .data, .data, .data, .sentinel, .sentinel, .pinned], laidTests := true, laidLooks := .later }
def ExerciseTwiceCardSaid : Prop := Claim7.holds Tryz.pinned (.plain (OpenSpec.ofChange exerciseTwiceSpec)) exerciseTwiceCard

/-- THE TIED CARD OF 'backsteplaw47.ExerciseJoins'. -/
def exerciseJoinsCard : Claim7 := { stood := { row := exerciseJoinsRow, standIns := [], harness := (true, "0fddce56f691d463a1819fbd0cf0c0e23d44a5f539d281a5230f4a5147570b94"), looks := true }, kinds := [], alts := [], laidByText := true, laidKinds := [.data, .data, .data, .data, .data, .sentinel, .sentinel, .pinned], laidTests := true, laidLooks := .later }
def ExerciseJoinsCardSaid : Prop := Claim7.holds Tryz.pinned (.plain (OpenSpec.ofChange exerciseJoinsSpec)) exerciseJoinsCard

/-- THE TIED CARD OF 'backsteplaw47.ExerciseCut'. -/
def exerciseCutCard : Claim7 := { stood := { row := exerciseCutRow, standIns := [], harness := (true, "0fddce56f691d463a1819fbd0cf0c0e23d44a5f539d281a5230f4a5147570b94"), looks := true }, kinds := [], alts := [], laidByText := true, laidKinds := [.data, .data, .data, .data, .data, .sentinel, .sentinel, .pinned], laidTests := true, laidLooks := .later }
def ExerciseCutCardSaid : Prop := Claim7.holds Tryz.pinned (.plain (OpenSpec.ofChange exerciseCutSpec)) exerciseCutCard

/-- THE SECOND FORM's CARD OF 'backsteplaw47.ExercisePrints'. -/
def exercisePrintsUptoCard : Claim7 := { stood := { row := exercisePrintsUptoRow, standIns := [], harness := (true, "0fddce56f691d463a1819fbd0cf0c0e23d44a5f539d281a5230f4a5147570b94"), looks := true }, kinds := [], alts := [], laidByText := true, laidKinds := [.data, .data, .data, .data, .data, .sentinel, .sentinel, .pinned], laidTests := true, laidLooks := .later }
def ExercisePrintsUptoCardSaid : Prop := Claim7.holds Tryz.pinned (.plain (OpenSpec.upto exercisePrintsSpec)) exercisePrintsUptoCard

/-- THE SECOND FORM's CARD OF 'backsteplaw47.ExerciseOne'. -/
def exerciseOneUptoCard : Claim7 := { stood := { row := exerciseOneUptoRow, standIns := [], harness := (true, "0fddce56f691d463a1819fbd0cf0c0e23d44a5f539d281a5230f4a5147570b94"), looks := true }, kinds := [], alts := [], laidByText := true, laidKinds := [.data, .data, .data, .data, .data, .sentinel, .sentinel, .pinned], laidTests := true, laidLooks := .later }
def ExerciseOneUptoCardSaid : Prop := Claim7.holds Tryz.pinned (.plain (OpenSpec.upto exerciseOneSpec)) exerciseOneUptoCard

/-- THE SECOND FORM's CARD OF 'backsteplaw47.ExerciseParses'. -/
def exerciseParsesUptoCard : Claim7 := { stood := { row := exerciseParsesUptoRow, standIns := [], harness := (true, "0fddce56f691d463a1819fbd0cf0c0e23d44a5f539d281a5230f4a5147570b94"), looks := true }, kinds := [], alts := [], laidByText := true, laidKinds := [.data, .data, .data, .data, .data, .sentinel, .sentinel, .pinned], laidTests := true, laidLooks := .later }
def ExerciseParsesUptoCardSaid : Prop := Claim7.holds Tryz.pinned (.plain (OpenSpec.upto exerciseParsesSpec)) exerciseParsesUptoCard

/-- THE SECOND FORM's CARD OF 'backsteplaw47.ExerciseBack'. -/
def exerciseBackUptoCard : Claim7 := { stood := { row := exerciseBackUptoRow, standIns := [], harness := (true, "0fddce56f691d463a1819fbd0cf0c0e23d44a5f539d281a5230f4a5147570b94"), looks := true }, kinds := [], alts := [], laidByText := true, laidKinds := [.data, .data, .data, .data, .data, .sentinel, .sentinel, .pinned], laidTests := true, laidLooks := .later }
def ExerciseBackUptoCardSaid : Prop := Claim7.holds Tryz.pinned (.plain (OpenSpec.upto exerciseBackSpec)) exerciseBackUptoCard

/-- THE SECOND FORM's CARD OF 'backsteplaw47.ExerciseTwice'. -/
def exerciseTwiceUptoCard : Claim7 := { stood := { row := exerciseTwiceUptoRow, standIns := [], harness := (true, "0fddce56f691d463a1819fbd0cf0c0e23d44a5f539d281a5230f4a5147570b94"), looks := true }, kinds := [], alts := [], laidByText := true, laidKinds := [.data, .data, .data, .data, .data, .sentinel, .sentinel, .pinned], laidTests := true, laidLooks := .later }
def ExerciseTwiceUptoCardSaid : Prop := Claim7.holds Tryz.pinned (.plain (OpenSpec.upto exerciseTwiceSpec)) exerciseTwiceUptoCard

/-- THE SECOND FORM's CARD OF 'backsteplaw47.ExerciseJoins'. -/
def exerciseJoinsUptoCard : Claim7 := { stood := { row := exerciseJoinsUptoRow, standIns := [], harness := (true, "0fddce56f691d463a1819fbd0cf0c0e23d44a5f539d281a5230f4a5147570b94"), looks := true }, kinds := [], alts := [], laidByText := true, laidKinds := [.data, .data, .data, .data, .data, .sentinel, .sentinel, .pinned], laidTests := true, laidLooks := .later }
def ExerciseJoinsUptoCardSaid : Prop := Claim7.holds Tryz.pinned (.plain (OpenSpec.upto exerciseJoinsSpec)) exerciseJoinsUptoCard

/-- THE SECOND FORM's CARD OF 'backsteplaw47.ExerciseCut'. -/
def exerciseCutUptoCard : Claim7 := { stood := { row := exerciseCutUptoRow, standIns := [], harness := (true, "0fddce56f691d463a1819fbd0cf0c0e23d44a5f539d281a5230f4a5147570b94"), looks := true }, kinds := [], alts := [], laidByText := true, laidKinds := [.data, .data, .data, .data, .data, .sentinel, .sentinel, .pinned], laidTests := true, laidLooks := .later }
def ExerciseCutUptoCardSaid : Prop := Claim7.holds Tryz.pinned (.plain (OpenSpec.upto exerciseCutSpec)) exerciseCutUptoCard
end Rows
end Go.Proofs.YtjkgmpljepnmiaaGreatDoor
