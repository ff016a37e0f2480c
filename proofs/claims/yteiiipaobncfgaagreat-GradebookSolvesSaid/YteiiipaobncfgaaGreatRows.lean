/-
  NARROWER THAN 'FOR EVERY INPUT', by the rows' own cells (each row's printed sentence says how): GradebookNone: loops · GradebookNew: loops · GradebookPlays: loops · GradebookApart: loops · GradebookRanks: loops · GradebookSolves: loops · GradebookAll: loops.
  DERIVED. THE GIVEN ROWS OF THIS SEAT. 8 by the template 'for every input the law returns true; each argument reads behind the call as it read before'; 0 by the template 'total and deterministic' (their statements: YteiiipaobncfgaaGreatTotals.lean).
  GIVEN WITH THE SEED: the statements are not yours to turn. If you find one false, say at which input.
  Laid BY PROGRAM, IN A SANDBOX (cutbox-rows.mjs): the forced cells as the released guide's own fill.sh prints them over the translation 31f784aa3737920a… (all of the seat's roots in one cut). By AI agents, Wed Nov 11 2026. No macro, syntax, notation, axiom, sorry.
-/
import Derived.Test.YteiiipaobncfgaaGreatChecked
import GoSem.Claim
import GoSem.ClaimJoined
import GoSem.ClaimMapViews
import Derived.JoinedTies
import Derived.KernelRfl
namespace Go.Proofs.YteiiipaobncfgaaGreat
/- THE CELL 'sum', in the pinned program and in every row, IS THE sha256 OF THE DUMP (.gsa) THAT YteiiipaobncfgaaGreatProg.lean LOADS. Nothing in Lean hashes anything: it is a label: what it is worth is what the hold of that sum in a sandbox is worth. -/
noncomputable def Tryz.pinned : Pinned := { name := "yteiiipaobncfgaagreat", sum := "31f784aa3737920a920843d46fac4dc46cabadfd19511d0b6437160c3e260551", checked := Tryz.checked }
namespace Rows
def none {H : Type} : Left H := { results := [], args := [] }

/-- 'backsteplaw50.GradebookFull': WHATEVER THE INPUT: true; the input reads as it did. -/
def gradebookFullSpec : ChangeSpec := { name := "gradebookFull", fn := fun _ => fun
  | [d] => { results := [.lit (.bool true)], args := [d] }
  | _ => none }
def gradebookFullRow : OpenClaim := { program := "yteiiipaobncfgaagreat", sum := "31f784aa3737920a920843d46fac4dc46cabadfd19511d0b6437160c3e260551", func := "backstep/backsteplaw50.GradebookFull", spec := "gradebookFull", inPlace := ["internal/bytealg.IndexByteString", "slices.overlaps[int]"], unfollowed := true, recurses := true, apart := false }
def GradebookFullSaid : Prop := gradebookFullRow.holds Tryz.pinned (OpenSpec.ofChange gradebookFullSpec)

/-- ITS FALSE NEIGHBOUR: 'it returns false'. Refute it at one input. -/
def gradebookFullWrong : ChangeSpec := { name := "gradebookFull", fn := fun _ => fun
  | [d] => { results := [.lit (.bool false)], args := [d] }
  | _ => none }
def GradebookFullWrongFalsely : Prop := gradebookFullRow.holds Tryz.pinned (OpenSpec.ofChange gradebookFullWrong)

/-- 'backsteplaw50.GradebookNone': WHATEVER THE INPUT: true; the input reads as it did. -/
def gradebookNoneSpec : ChangeSpec := { name := "gradebookNone", fn := fun _ => fun
  | [d1, d2, d3] => { results := [.lit (.bool true)], args := [d1, d2, d3] }
  | _ => none }
def gradebookNoneRow : OpenClaim := { program := "yteiiipaobncfgaagreat", sum := "31f784aa3737920a920843d46fac4dc46cabadfd19511d0b6437160c3e260551", func := "backstep/backsteplaw50.GradebookNone", spec := "gradebookNone", inPlace := ["internal/bytealg.IndexByteString", "slices.overlaps[int]"], unfollowed := true, recurses := true, loops := true, apart := false }
def GradebookNoneSaid : Prop := gradebookNoneRow.holds Tryz.pinned (OpenSpec.ofChange gradebookNoneSpec)

/-- ITS FALSE NEIGHBOUR: 'it returns false'. Refute it at one input. -/
def gradebookNoneWrong : ChangeSpec := { name := "gradebookNone", fn := fun _ => fun
  | [d1, d2, d3] => { results := [.lit (.bool false)], args := [d1, d2, d3] }
  | _ => none }
def GradebookNoneWrongFalsely : Prop := gradebookNoneRow.holds Tryz.pinned (OpenSpec.ofChange gradebookNoneWrong)

/-- 'backsteplaw50.GradebookNew': WHATEVER THE INPUT: true; the input reads as it did. -/
def gradebookNewSpec : ChangeSpec := { name := "gradebookNew", fn := fun _ => fun
  | [d] => { results := [.lit (.bool true)], args := [d] }
  | _ => none }
def gradebookNewRow : OpenClaim := { program := "yteiiipaobncfgaagreat", sum := "31f784aa3737920a920843d46fac4dc46cabadfd19511d0b6437160c3e260551", func := "backstep/backsteplaw50.GradebookNew", spec := "gradebookNew", inPlace := ["internal/bytealg.IndexByteString", "slices.overlaps[int]"], unfollowed := true, recurses := true, loops := true, apart := false }
def GradebookNewSaid : Prop := gradebookNewRow.holds Tryz.pinned (OpenSpec.ofChange gradebookNewSpec)

/-- ITS FALSE NEIGHBOUR: 'it returns false'. Refute it at one input. -/
def gradebookNewWrong : ChangeSpec := { name := "gradebookNew", fn := fun _ => fun
  | [d] => { results := [.lit (.bool false)], args := [d] }
  | _ => none }
def GradebookNewWrongFalsely : Prop := gradebookNewRow.holds Tryz.pinned (OpenSpec.ofChange gradebookNewWrong)

/-- 'backsteplaw50.GradebookPlays': WHATEVER THE INPUT: true; the input reads as it did. -/
def gradebookPlaysSpec : ChangeSpec := { name := "gradebookPlays", fn := fun _ => fun
  | [d1, d2] => { results := [.lit (.bool true)], args := [d1, d2] }
  | _ => none }
def gradebookPlaysRow : OpenClaim := { program := "yteiiipaobncfgaagreat", sum := "31f784aa3737920a920843d46fac4dc46cabadfd19511d0b6437160c3e260551", func := "backstep/backsteplaw50.GradebookPlays", spec := "gradebookPlays", inPlace := ["internal/bytealg.IndexByteString", "slices.overlaps[int]"], unfollowed := true, recurses := true, loops := true, apart := false }
def GradebookPlaysSaid : Prop := gradebookPlaysRow.holds Tryz.pinned (OpenSpec.ofChange gradebookPlaysSpec)

/-- ITS FALSE NEIGHBOUR: 'it returns false'. Refute it at one input. -/
def gradebookPlaysWrong : ChangeSpec := { name := "gradebookPlays", fn := fun _ => fun
  | [d1, d2] => { results := [.lit (.bool false)], args := [d1, d2] }
  | _ => none }
def GradebookPlaysWrongFalsely : Prop := gradebookPlaysRow.holds Tryz.pinned (OpenSpec.ofChange gradebookPlaysWrong)

/-- 'backsteplaw50.GradebookApart': WHATEVER THE INPUT: true; the input reads as it did. -/
def gradebookApartSpec : ChangeSpec := { name := "gradebookApart", fn := fun _ => fun
  | [d1, d2] => { results := [.lit (.bool true)], args := [d1, d2] }
  | _ => none }
def gradebookApartRow : OpenClaim := { program := "yteiiipaobncfgaagreat", sum := "31f784aa3737920a920843d46fac4dc46cabadfd19511d0b6437160c3e260551", func := "backstep/backsteplaw50.GradebookApart", spec := "gradebookApart", inPlace := ["internal/bytealg.IndexByteString", "slices.overlaps[int]"], unfollowed := true, recurses := true, loops := true, apart := false }
def GradebookApartSaid : Prop := gradebookApartRow.holds Tryz.pinned (OpenSpec.ofChange gradebookApartSpec)

/-- ITS FALSE NEIGHBOUR: 'it returns false'. Refute it at one input. -/
def gradebookApartWrong : ChangeSpec := { name := "gradebookApart", fn := fun _ => fun
  | [d1, d2] => { results := [.lit (.bool false)], args := [d1, d2] }
  | _ => none }
def GradebookApartWrongFalsely : Prop := gradebookApartRow.holds Tryz.pinned (OpenSpec.ofChange gradebookApartWrong)

/-- 'backsteplaw50.GradebookRanks': WHATEVER THE INPUT: true; the input reads as it did. -/
def gradebookRanksSpec : ChangeSpec := { name := "gradebookRanks", fn := fun _ => fun
  | [d1, d2] => { results := [.lit (.bool true)], args := [d1, d2] }
  | _ => none }
def gradebookRanksRow : OpenClaim := { program := "yteiiipaobncfgaagreat", sum := "31f784aa3737920a920843d46fac4dc46cabadfd19511d0b6437160c3e260551", func := "backstep/backsteplaw50.GradebookRanks", spec := "gradebookRanks", inPlace := ["internal/bytealg.IndexByteString", "slices.overlaps[int]"], unfollowed := true, recurses := true, loops := true, apart := false }
def GradebookRanksSaid : Prop := gradebookRanksRow.holds Tryz.pinned (OpenSpec.ofChange gradebookRanksSpec)

/-- ITS FALSE NEIGHBOUR: 'it returns false'. Refute it at one input. -/
def gradebookRanksWrong : ChangeSpec := { name := "gradebookRanks", fn := fun _ => fun
  | [d1, d2] => { results := [.lit (.bool false)], args := [d1, d2] }
  | _ => none }
def GradebookRanksWrongFalsely : Prop := gradebookRanksRow.holds Tryz.pinned (OpenSpec.ofChange gradebookRanksWrong)

/-- 'backsteplaw50.GradebookSolves': WHATEVER THE INPUT: true; the input reads as it did. -/
def gradebookSolvesSpec : ChangeSpec := { name := "gradebookSolves", fn := fun _ => fun
  | [d1, d2, d3] => { results := [.lit (.bool true)], args := [d1, d2, d3] }
  | _ => none }
def gradebookSolvesRow : OpenClaim := { program := "yteiiipaobncfgaagreat", sum := "31f784aa3737920a920843d46fac4dc46cabadfd19511d0b6437160c3e260551", func := "backstep/backsteplaw50.GradebookSolves", spec := "gradebookSolves", inPlace := ["internal/bytealg.IndexByteString", "slices.overlaps[int]"], unfollowed := true, recurses := true, loops := true, apart := false }
def GradebookSolvesSaid : Prop := gradebookSolvesRow.holds Tryz.pinned (OpenSpec.ofChange gradebookSolvesSpec)

/-- ITS FALSE NEIGHBOUR: 'it returns false'. Refute it at one input. -/
def gradebookSolvesWrong : ChangeSpec := { name := "gradebookSolves", fn := fun _ => fun
  | [d1, d2, d3] => { results := [.lit (.bool false)], args := [d1, d2, d3] }
  | _ => none }
def GradebookSolvesWrongFalsely : Prop := gradebookSolvesRow.holds Tryz.pinned (OpenSpec.ofChange gradebookSolvesWrong)

/-- 'backsteplaw50.GradebookAll': WHATEVER THE INPUT: true; the input reads as it did. -/
def gradebookAllSpec : ChangeSpec := { name := "gradebookAll", fn := fun _ => fun
  | [d] => { results := [.lit (.bool true)], args := [d] }
  | _ => none }
def gradebookAllRow : OpenClaim := { program := "yteiiipaobncfgaagreat", sum := "31f784aa3737920a920843d46fac4dc46cabadfd19511d0b6437160c3e260551", func := "backstep/backsteplaw50.GradebookAll", spec := "gradebookAll", inPlace := ["internal/bytealg.IndexByteString", "slices.overlaps[int]"], unfollowed := true, recurses := true, loops := true, apart := false }
def GradebookAllSaid : Prop := gradebookAllRow.holds Tryz.pinned (OpenSpec.ofChange gradebookAllSpec)

/-- ITS FALSE NEIGHBOUR: 'it returns false'. Refute it at one input. -/
def gradebookAllWrong : ChangeSpec := { name := "gradebookAll", fn := fun _ => fun
  | [d] => { results := [.lit (.bool false)], args := [d] }
  | _ => none }
def GradebookAllWrongFalsely : Prop := gradebookAllRow.holds Tryz.pinned (OpenSpec.ofChange gradebookAllWrong)

/- THE SECOND FORM. 'bulk': how many values and letters a reading holds, each counted each time it is reached (what is shared counts as often as it is met; a slice's spare places count too). A statement '..UptoSaid' is the law's where the arguments, and the package variables that the reading takes, are together of bulk at most 1048576: NARROWER than '..Said'. Prove '..Said' where nothing that the law and all that it calls make is longer than what came in: it says more and counts as full. Else prove '..UptoSaid'. A law counts once. -/
mutual
def uptoBulk {H : Type} : DataW H → Nat
  | .lit (.string bytes) => bytes.length + 1
  | .lit _ => 1
  | .nil => 1
  | .ptr d => uptoBulk d + 1
  | .slice elems spare => uptoBulkAll elems + uptoBulkAll spare + 1
  | .agg parts => uptoBulkAll parts + 1
  | .iface _ d => uptoBulk d + 1
  | .map entries => uptoBulkEntries entries + 1
  | .held _ => 1
def uptoBulkAll {H : Type} : List (DataW H) → Nat
  | [] => 0
  | d :: r => uptoBulk d + uptoBulkAll r
def uptoBulkEntries {H : Type} : List (Lit × DataW H) → Nat
  | [] => 0
  | x :: r => uptoBulkEntry x + uptoBulkEntries r
def uptoBulkEntry {H : Type} : Lit × DataW H → Nat
  | (.string bytes, d) => bytes.length + uptoBulk d + 1
  | (_, d) => uptoBulk d + 1
 end
def uptoSmall : (H : Type) → List (DataW H) → Bool := fun _ ds => decide (uptoBulkAll ds ≤ 1048576)
def OpenSpec.upto (s : _root_.Go.ChangeSpec) : _root_.Go.OpenSpec := { _root_.Go.OpenSpec.ofChange s with cond := some uptoSmall }

/-- 'backsteplaw50.GradebookFull', WHERE WHAT IT READS IS OF BULK AT MOST 1048576: true; the input reads as it did. -/
def gradebookFullUptoRow : OpenClaim := { program := "yteiiipaobncfgaagreat", sum := "31f784aa3737920a920843d46fac4dc46cabadfd19511d0b6437160c3e260551", func := "backstep/backsteplaw50.GradebookFull", spec := "gradebookFull", inPlace := ["internal/bytealg.IndexByteString", "slices.overlaps[int]"], unfollowed := true, recurses := true, apart := false, narrowed := true }
def GradebookFullUptoSaid : Prop := gradebookFullUptoRow.holds Tryz.pinned (OpenSpec.upto gradebookFullSpec)

/-- 'backsteplaw50.GradebookNone', WHERE WHAT IT READS IS OF BULK AT MOST 1048576: true; the input reads as it did. -/
def gradebookNoneUptoRow : OpenClaim := { program := "yteiiipaobncfgaagreat", sum := "31f784aa3737920a920843d46fac4dc46cabadfd19511d0b6437160c3e260551", func := "backstep/backsteplaw50.GradebookNone", spec := "gradebookNone", inPlace := ["internal/bytealg.IndexByteString", "slices.overlaps[int]"], unfollowed := true, recurses := true, loops := true, apart := false, narrowed := true }
def GradebookNoneUptoSaid : Prop := gradebookNoneUptoRow.holds Tryz.pinned (OpenSpec.upto gradebookNoneSpec)

/-- 'backsteplaw50.GradebookNew', WHERE WHAT IT READS IS OF BULK AT MOST 1048576: true; the input reads as it did. -/
def gradebookNewUptoRow : OpenClaim := { program := "yteiiipaobncfgaagreat", sum := "31f784aa3737920a920843d46fac4dc46cabadfd19511d0b6437160c3e260551", func := "backstep/backsteplaw50.GradebookNew", spec := "gradebookNew", inPlace := ["internal/bytealg.IndexByteString", "slices.overlaps[int]"], unfollowed := true, recurses := true, loops := true, apart := false, narrowed := true }
def GradebookNewUptoSaid : Prop := gradebookNewUptoRow.holds Tryz.pinned (OpenSpec.upto gradebookNewSpec)

/-- 'backsteplaw50.GradebookPlays', WHERE WHAT IT READS IS OF BULK AT MOST 1048576: true; the input reads as it did. -/
def gradebookPlaysUptoRow : OpenClaim := { program := "yteiiipaobncfgaagreat", sum := "31f784aa3737920a920843d46fac4dc46cabadfd19511d0b6437160c3e260551", func := "backstep/backsteplaw50.GradebookPlays", spec := "gradebookPlays", inPlace := ["internal/bytealg.IndexByteString", "slices.overlaps[int]"], unfollowed := true, recurses := true, loops := true, apart := false, narrowed := true }
def GradebookPlaysUptoSaid : Prop := gradebookPlaysUptoRow.holds Tryz.pinned (OpenSpec.upto gradebookPlaysSpec)

/-- 'backsteplaw50.GradebookApart', WHERE WHAT IT READS IS OF BULK AT MOST 1048576: true; the input reads as it did. -/
def gradebookApartUptoRow : OpenClaim := { program := "yteiiipaobncfgaagreat", sum := "31f784aa3737920a920843d46fac4dc46cabadfd19511d0b6437160c3e260551", func := "backstep/backsteplaw50.GradebookApart", spec := "gradebookApart", inPlace := ["internal/bytealg.IndexByteString", "slices.overlaps[int]"], unfollowed := true, recurses := true, loops := true, apart := false, narrowed := true }
def GradebookApartUptoSaid : Prop := gradebookApartUptoRow.holds Tryz.pinned (OpenSpec.upto gradebookApartSpec)

/-- 'backsteplaw50.GradebookRanks', WHERE WHAT IT READS IS OF BULK AT MOST 1048576: true; the input reads as it did. -/
def gradebookRanksUptoRow : OpenClaim := { program := "yteiiipaobncfgaagreat", sum := "31f784aa3737920a920843d46fac4dc46cabadfd19511d0b6437160c3e260551", func := "backstep/backsteplaw50.GradebookRanks", spec := "gradebookRanks", inPlace := ["internal/bytealg.IndexByteString", "slices.overlaps[int]"], unfollowed := true, recurses := true, loops := true, apart := false, narrowed := true }
def GradebookRanksUptoSaid : Prop := gradebookRanksUptoRow.holds Tryz.pinned (OpenSpec.upto gradebookRanksSpec)

/-- 'backsteplaw50.GradebookSolves', WHERE WHAT IT READS IS OF BULK AT MOST 1048576: true; the input reads as it did. -/
def gradebookSolvesUptoRow : OpenClaim := { program := "yteiiipaobncfgaagreat", sum := "31f784aa3737920a920843d46fac4dc46cabadfd19511d0b6437160c3e260551", func := "backstep/backsteplaw50.GradebookSolves", spec := "gradebookSolves", inPlace := ["internal/bytealg.IndexByteString", "slices.overlaps[int]"], unfollowed := true, recurses := true, loops := true, apart := false, narrowed := true }
def GradebookSolvesUptoSaid : Prop := gradebookSolvesUptoRow.holds Tryz.pinned (OpenSpec.upto gradebookSolvesSpec)

/-- 'backsteplaw50.GradebookAll', WHERE WHAT IT READS IS OF BULK AT MOST 1048576: true; the input reads as it did. -/
def gradebookAllUptoRow : OpenClaim := { program := "yteiiipaobncfgaagreat", sum := "31f784aa3737920a920843d46fac4dc46cabadfd19511d0b6437160c3e260551", func := "backstep/backsteplaw50.GradebookAll", spec := "gradebookAll", inPlace := ["internal/bytealg.IndexByteString", "slices.overlaps[int]"], unfollowed := true, recurses := true, loops := true, apart := false, narrowed := true }
def GradebookAllUptoSaid : Prop := gradebookAllUptoRow.holds Tryz.pinned (OpenSpec.upto gradebookAllSpec)

end Rows
end Go.Proofs.YteiiipaobncfgaaGreat
