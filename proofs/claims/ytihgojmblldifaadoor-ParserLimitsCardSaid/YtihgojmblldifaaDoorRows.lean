/-
  NARROWER THAN 'FOR EVERY INPUT', by the rows' own cells (each row's printed sentence says how): ParserLayout: laid · ParserCut: laid · ParserFirst: laid · ParserParens: laid · ParserLevels: laid · ParserNumbers: laid · ParserLimits: laid.
  DERIVED. THE GIVEN ROWS OF THIS SEAT. 7 by the template 'for every input the law returns true; each argument reads behind the call as it read before'; 0 by the template 'total and deterministic' (their statements: YtihgojmblldifaaDoorTotals.lean).
  GIVEN WITH THE SEED: the statements are not yours to turn. If you find one false, say at which input.
  Laid BY PROGRAM, IN A SANDBOX (cutbox-rows.mjs): the forced cells as the released guide's own fill.sh prints them over the translation 58f404c100a2d975… (all of the seat's roots in one cut). By AI agents, Wed Nov 11 2026. No macro, syntax, notation, axiom, sorry.
-/
import Derived.Test.YtihgojmblldifaaDoorChecked
import GoSem.Claim
import GoSem.ClaimJoined
import GoSem.ClaimMapViews
import Derived.JoinedTies
import Derived.KernelRfl
namespace Go.Proofs.YtihgojmblldifaaDoor
/- THE CELL 'sum', in the pinned program and in every row, IS THE sha256 OF THE DUMP (.gsa) THAT YtihgojmblldifaaDoorProg.lean LOADS. Nothing in Lean hashes anything: it is a label: what it is worth is what the hold of that sum in a sandbox is worth. -/
noncomputable def Tryd.pinned : Pinned := { name := "ytihgojmblldifaadoor", sum := "58f404c100a2d975b0fbf4de6376c50dc7176f77ebe4953f85675745832bc0bb", checked := Tryd.checked }
namespace Rows
def none {H : Type} : Left H := { results := [], args := [] }

/- WHAT THE LISTED PACKAGE-LEVEL VARIABLES READ AS WHEN THE CALL BEGINS. Each datum BY PROGRAM (the guide's laid-datum.mjs) off the statement by which the dump's own 'gosem.cut.vars' lays the variable. In a bare row this is a premise. The card (YtihgojmblldifaaDoorCards.lean) ties it to the program's text. -/
def laid_backstep_arith_symbols {H : Type} : DataW H := .agg [.lit (.string []), .lit (.string []), .lit (.string []), .lit (.string []), .lit (.string []), .lit (.string []), .lit (.string [45]), .lit (.string [33]), .lit (.string [43]), .lit (.string [45]), .lit (.string [42]), .lit (.string [47]), .lit (.string [37]), .lit (.string [38]), .lit (.string [124]), .lit (.string [94]), .lit (.string [61, 61]), .lit (.string [33, 61]), .lit (.string [60]), .lit (.string [60, 61]), .lit (.string [62]), .lit (.string [62, 61]), .lit (.string [38, 38]), .lit (.string [124, 124]), .lit (.string []), .lit (.string []), .lit (.string []), .lit (.string []), .lit (.string []), .lit (.string []), .lit (.string []), .lit (.string []), .lit (.string []), .lit (.string []), .lit (.string []), .lit (.string []), .lit (.string []), .lit (.string []), .lit (.string []), .lit (.string []), .lit (.string [43, 61]), .lit (.string [45, 61]), .lit (.string [94, 61])]
def laid_math_bits_deBruijn32tab {H : Type} : DataW H := .agg [.lit (.int .u8 0), .lit (.int .u8 1), .lit (.int .u8 28), .lit (.int .u8 2), .lit (.int .u8 29), .lit (.int .u8 14), .lit (.int .u8 24), .lit (.int .u8 3), .lit (.int .u8 30), .lit (.int .u8 22), .lit (.int .u8 20), .lit (.int .u8 15), .lit (.int .u8 25), .lit (.int .u8 17), .lit (.int .u8 4), .lit (.int .u8 8), .lit (.int .u8 31), .lit (.int .u8 27), .lit (.int .u8 13), .lit (.int .u8 23), .lit (.int .u8 21), .lit (.int .u8 19), .lit (.int .u8 16), .lit (.int .u8 7), .lit (.int .u8 26), .lit (.int .u8 12), .lit (.int .u8 18), .lit (.int .u8 6), .lit (.int .u8 11), .lit (.int .u8 5), .lit (.int .u8 10), .lit (.int .u8 9)]
def laid_math_bits_deBruijn64tab {H : Type} : DataW H := .agg [.lit (.int .u8 0), .lit (.int .u8 1), .lit (.int .u8 56), .lit (.int .u8 2), .lit (.int .u8 57), .lit (.int .u8 49), .lit (.int .u8 28), .lit (.int .u8 3), .lit (.int .u8 61), .lit (.int .u8 58), .lit (.int .u8 42), .lit (.int .u8 50), .lit (.int .u8 38), .lit (.int .u8 29), .lit (.int .u8 17), .lit (.int .u8 4), .lit (.int .u8 62), .lit (.int .u8 47), .lit (.int .u8 59), .lit (.int .u8 36), .lit (.int .u8 45), .lit (.int .u8 43), .lit (.int .u8 51), .lit (.int .u8 22), .lit (.int .u8 53), .lit (.int .u8 39), .lit (.int .u8 33), .lit (.int .u8 30), .lit (.int .u8 24), .lit (.int .u8 18), .lit (.int .u8 12), .lit (.int .u8 5), .lit (.int .u8 63), .lit (.int .u8 55), .lit (.int .u8 48), .lit (.int .u8 27), .lit (.int .u8 60), .lit (.int .u8 41), .lit (.int .u8 37), .lit (.int .u8 16), .lit (.int .u8 46), .lit (.int .u8 35), .lit (.int .u8 44), .lit (.int .u8 21), .lit (.int .u8 52), .lit (.int .u8 32), .lit (.int .u8 23), .lit (.int .u8 11), .lit (.int .u8 54), .lit (.int .u8 26), .lit (.int .u8 40), .lit (.int .u8 15), .lit (.int .u8 34), .lit (.int .u8 20), .lit (.int .u8 31), .lit (.int .u8 10), .lit (.int .u8 25), .lit (.int .u8 14), .lit (.int .u8 19), .lit (.int .u8 9), .lit (.int .u8 13), .lit (.int .u8 8), .lit (.int .u8 7), .lit (.int .u8 6)]
def laid_internal_strconv_uint64pow10 {H : Type} : DataW H := .agg [.lit (.int .u64 1), .lit (.int .u64 10), .lit (.int .u64 100), .lit (.int .u64 1000), .lit (.int .u64 10000), .lit (.int .u64 100000), .lit (.int .u64 1000000), .lit (.int .u64 10000000), .lit (.int .u64 100000000), .lit (.int .u64 1000000000), .lit (.int .u64 10000000000), .lit (.int .u64 100000000000), .lit (.int .u64 1000000000000), .lit (.int .u64 10000000000000), .lit (.int .u64 100000000000000), .lit (.int .u64 1000000000000000), .lit (.int .u64 10000000000000000), .lit (.int .u64 100000000000000000), .lit (.int .u64 1000000000000000000), .lit (.int .u64 10000000000000000000)]
def laid_strconv_ErrRange {H : Type} : DataW H := .iface "*errors.errorString" (.ptr (.agg [.lit (.string [118, 97, 108, 117, 101, 32, 111, 117, 116, 32, 111, 102, 32, 114, 97, 110, 103, 101])]))
def laid_strconv_ErrSyntax {H : Type} : DataW H := .iface "*errors.errorString" (.ptr (.agg [.lit (.string [105, 110, 118, 97, 108, 105, 100, 32, 115, 121, 110, 116, 97, 120])]))

/-- 'backsteplaw04.ParserLayout': WHATEVER THE INPUT: true; the input reads as it did. -/
def parserLayoutSpec : ChangeSpec := { name := "parserLayout", fn := fun _ => fun
  | [d1, d2] => { results := [.lit (.bool true)], args := [d1, d2] }
  | _ => none }
def parserLayoutRow : OpenClaim := { program := "ytihgojmblldifaadoor", sum := "58f404c100a2d975b0fbf4de6376c50dc7176f77ebe4953f85675745832bc0bb", func := "backstep/backsteplaw04.ParserLayout", spec := "parserLayout", inPlace := ["internal/bytealg.IndexByteString"], unfollowed := true, recurses := true, named := ["backstep/arith.symbols", "strconv.ErrSyntax", "strconv.ErrRange", "internal/strconv.uint64pow10", "math/bits.deBruijn32tab", "math/bits.deBruijn64tab"], apart := false, laid := [("backstep/arith.symbols", laid_backstep_arith_symbols), ("math/bits.deBruijn32tab", laid_math_bits_deBruijn32tab), ("math/bits.deBruijn64tab", laid_math_bits_deBruijn64tab), ("internal/strconv.uint64pow10", laid_internal_strconv_uint64pow10), ("strconv.ErrRange", laid_strconv_ErrRange), ("strconv.ErrSyntax", laid_strconv_ErrSyntax)] }
def ParserLayoutSaid : Prop := parserLayoutRow.holds Tryd.pinned (OpenSpec.ofChange parserLayoutSpec)

/-- ITS FALSE NEIGHBOUR: 'it returns false'. Refute it at one input. -/
def parserLayoutWrong : ChangeSpec := { name := "parserLayout", fn := fun _ => fun
  | [d1, d2] => { results := [.lit (.bool false)], args := [d1, d2] }
  | _ => none }
def ParserLayoutWrongFalsely : Prop := parserLayoutRow.holds Tryd.pinned (OpenSpec.ofChange parserLayoutWrong)

/-- 'backsteplaw04.ParserCut': WHATEVER THE INPUT: true; the input reads as it did. -/
def parserCutSpec : ChangeSpec := { name := "parserCut", fn := fun _ => fun
  | [d1, d2] => { results := [.lit (.bool true)], args := [d1, d2] }
  | _ => none }
def parserCutRow : OpenClaim := { program := "ytihgojmblldifaadoor", sum := "58f404c100a2d975b0fbf4de6376c50dc7176f77ebe4953f85675745832bc0bb", func := "backstep/backsteplaw04.ParserCut", spec := "parserCut", inPlace := ["internal/bytealg.IndexByteString"], unfollowed := true, recurses := true, named := ["backstep/arith.symbols", "strconv.ErrSyntax", "strconv.ErrRange", "internal/strconv.uint64pow10", "math/bits.deBruijn32tab", "math/bits.deBruijn64tab"], apart := false, laid := [("backstep/arith.symbols", laid_backstep_arith_symbols), ("math/bits.deBruijn32tab", laid_math_bits_deBruijn32tab), ("math/bits.deBruijn64tab", laid_math_bits_deBruijn64tab), ("internal/strconv.uint64pow10", laid_internal_strconv_uint64pow10), ("strconv.ErrRange", laid_strconv_ErrRange), ("strconv.ErrSyntax", laid_strconv_ErrSyntax)] }
def ParserCutSaid : Prop := parserCutRow.holds Tryd.pinned (OpenSpec.ofChange parserCutSpec)

/-- ITS FALSE NEIGHBOUR: 'it returns false'. Refute it at one input. -/
def parserCutWrong : ChangeSpec := { name := "parserCut", fn := fun _ => fun
  | [d1, d2] => { results := [.lit (.bool false)], args := [d1, d2] }
  | _ => none }
def ParserCutWrongFalsely : Prop := parserCutRow.holds Tryd.pinned (OpenSpec.ofChange parserCutWrong)

/-- 'backsteplaw04.ParserFirst': WHATEVER THE INPUT: true; the input reads as it did. -/
def parserFirstSpec : ChangeSpec := { name := "parserFirst", fn := fun _ => fun
  | [d1, d2] => { results := [.lit (.bool true)], args := [d1, d2] }
  | _ => none }
def parserFirstRow : OpenClaim := { program := "ytihgojmblldifaadoor", sum := "58f404c100a2d975b0fbf4de6376c50dc7176f77ebe4953f85675745832bc0bb", func := "backstep/backsteplaw04.ParserFirst", spec := "parserFirst", inPlace := ["internal/bytealg.IndexByteString"], unfollowed := true, recurses := true, named := ["backstep/arith.symbols", "strconv.ErrSyntax", "strconv.ErrRange", "internal/strconv.uint64pow10", "math/bits.deBruijn32tab", "math/bits.deBruijn64tab"], apart := false, laid := [("backstep/arith.symbols", laid_backstep_arith_symbols), ("math/bits.deBruijn32tab", laid_math_bits_deBruijn32tab), ("math/bits.deBruijn64tab", laid_math_bits_deBruijn64tab), ("internal/strconv.uint64pow10", laid_internal_strconv_uint64pow10), ("strconv.ErrRange", laid_strconv_ErrRange), ("strconv.ErrSyntax", laid_strconv_ErrSyntax)] }
def ParserFirstSaid : Prop := parserFirstRow.holds Tryd.pinned (OpenSpec.ofChange parserFirstSpec)

/-- ITS FALSE NEIGHBOUR: 'it returns false'. Refute it at one input. -/
def parserFirstWrong : ChangeSpec := { name := "parserFirst", fn := fun _ => fun
  | [d1, d2] => { results := [.lit (.bool false)], args := [d1, d2] }
  | _ => none }
def ParserFirstWrongFalsely : Prop := parserFirstRow.holds Tryd.pinned (OpenSpec.ofChange parserFirstWrong)

/-- 'backsteplaw04.ParserParens': WHATEVER THE INPUT: true; the input reads as it did. -/
def parserParensSpec : ChangeSpec := { name := "parserParens", fn := fun _ => fun
  | [d1, d2] => { results := [.lit (.bool true)], args := [d1, d2] }
  | _ => none }
def parserParensRow : OpenClaim := { program := "ytihgojmblldifaadoor", sum := "58f404c100a2d975b0fbf4de6376c50dc7176f77ebe4953f85675745832bc0bb", func := "backstep/backsteplaw04.ParserParens", spec := "parserParens", inPlace := ["internal/bytealg.IndexByteString"], unfollowed := true, recurses := true, named := ["backstep/arith.symbols", "strconv.ErrSyntax", "strconv.ErrRange", "internal/strconv.uint64pow10", "math/bits.deBruijn32tab", "math/bits.deBruijn64tab"], apart := false, laid := [("backstep/arith.symbols", laid_backstep_arith_symbols), ("math/bits.deBruijn32tab", laid_math_bits_deBruijn32tab), ("math/bits.deBruijn64tab", laid_math_bits_deBruijn64tab), ("internal/strconv.uint64pow10", laid_internal_strconv_uint64pow10), ("strconv.ErrRange", laid_strconv_ErrRange), ("strconv.ErrSyntax", laid_strconv_ErrSyntax)] }
def ParserParensSaid : Prop := parserParensRow.holds Tryd.pinned (OpenSpec.ofChange parserParensSpec)

/-- ITS FALSE NEIGHBOUR: 'it returns false'. Refute it at one input. -/
def parserParensWrong : ChangeSpec := { name := "parserParens", fn := fun _ => fun
  | [d1, d2] => { results := [.lit (.bool false)], args := [d1, d2] }
  | _ => none }
def ParserParensWrongFalsely : Prop := parserParensRow.holds Tryd.pinned (OpenSpec.ofChange parserParensWrong)

/-- 'backsteplaw04.ParserLevels': WHATEVER THE INPUT: true; the input reads as it did. -/
def parserLevelsSpec : ChangeSpec := { name := "parserLevels", fn := fun _ => fun
  | [d1, d2] => { results := [.lit (.bool true)], args := [d1, d2] }
  | _ => none }
def parserLevelsRow : OpenClaim := { program := "ytihgojmblldifaadoor", sum := "58f404c100a2d975b0fbf4de6376c50dc7176f77ebe4953f85675745832bc0bb", func := "backstep/backsteplaw04.ParserLevels", spec := "parserLevels", inPlace := ["internal/bytealg.IndexByteString"], unfollowed := true, recurses := true, named := ["backstep/arith.symbols", "strconv.ErrSyntax", "strconv.ErrRange", "internal/strconv.uint64pow10", "math/bits.deBruijn32tab", "math/bits.deBruijn64tab"], apart := false, laid := [("backstep/arith.symbols", laid_backstep_arith_symbols), ("math/bits.deBruijn32tab", laid_math_bits_deBruijn32tab), ("math/bits.deBruijn64tab", laid_math_bits_deBruijn64tab), ("internal/strconv.uint64pow10", laid_internal_strconv_uint64pow10), ("strconv.ErrRange", laid_strconv_ErrRange), ("strconv.ErrSyntax", laid_strconv_ErrSyntax)] }
def ParserLevelsSaid : Prop := parserLevelsRow.holds Tryd.pinned (OpenSpec.ofChange parserLevelsSpec)

/-- ITS FALSE NEIGHBOUR: 'it returns false'. Refute it at one input. -/
def parserLevelsWrong : ChangeSpec := { name := "parserLevels", fn := fun _ => fun
  | [d1, d2] => { results := [.lit (.bool false)], args := [d1, d2] }
  | _ => none }
def ParserLevelsWrongFalsely : Prop := parserLevelsRow.holds Tryd.pinned (OpenSpec.ofChange parserLevelsWrong)

/-- 'backsteplaw04.ParserNumbers': WHATEVER THE INPUT: true; the input reads as it did. -/
def parserNumbersSpec : ChangeSpec := { name := "parserNumbers", fn := fun _ => fun
  | [d1, d2] => { results := [.lit (.bool true)], args := [d1, d2] }
  | _ => none }
def parserNumbersRow : OpenClaim := { program := "ytihgojmblldifaadoor", sum := "58f404c100a2d975b0fbf4de6376c50dc7176f77ebe4953f85675745832bc0bb", func := "backstep/backsteplaw04.ParserNumbers", spec := "parserNumbers", inPlace := ["internal/bytealg.IndexByteString"], unfollowed := true, recurses := true, named := ["backstep/arith.symbols", "strconv.ErrSyntax", "strconv.ErrRange", "internal/strconv.uint64pow10", "math/bits.deBruijn32tab", "math/bits.deBruijn64tab"], apart := false, laid := [("backstep/arith.symbols", laid_backstep_arith_symbols), ("math/bits.deBruijn32tab", laid_math_bits_deBruijn32tab), ("math/bits.deBruijn64tab", laid_math_bits_deBruijn64tab), ("internal/strconv.uint64pow10", laid_internal_strconv_uint64pow10), ("strconv.ErrRange", laid_strconv_ErrRange), ("strconv.ErrSyntax", laid_strconv_ErrSyntax)] }
def ParserNumbersSaid : Prop := parserNumbersRow.holds Tryd.pinned (OpenSpec.ofChange parserNumbersSpec)

/-- ITS FALSE NEIGHBOUR: 'it returns false'. Refute it at one input. -/
def parserNumbersWrong : ChangeSpec := { name := "parserNumbers", fn := fun _ => fun
  | [d1, d2] => { results := [.lit (.bool false)], args := [d1, d2] }
  | _ => none }
def ParserNumbersWrongFalsely : Prop := parserNumbersRow.holds Tryd.pinned (OpenSpec.ofChange parserNumbersWrong)

/-- 'backsteplaw04.ParserLimits': WHATEVER THE INPUT: true; the input reads as it did. -/
def parserLimitsSpec : ChangeSpec := { name := "parserLimits", fn := fun _ => fun
  | [d] => { results := [.lit (.bool true)], args := [d] }
  | _ => none }
def parserLimitsRow : OpenClaim := { program := "ytihgojmblldifaadoor", sum := "58f404c100a2d975b0fbf4de6376c50dc7176f77ebe4953f85675745832bc0bb", func := "backstep/backsteplaw04.ParserLimits", spec := "parserLimits", inPlace := ["internal/bytealg.IndexByteString"], unfollowed := true, recurses := true, named := ["backstep/arith.symbols", "strconv.ErrSyntax", "strconv.ErrRange", "internal/strconv.uint64pow10", "math/bits.deBruijn32tab", "math/bits.deBruijn64tab"], apart := false, laid := [("backstep/arith.symbols", laid_backstep_arith_symbols), ("math/bits.deBruijn32tab", laid_math_bits_deBruijn32tab), ("math/bits.deBruijn64tab", laid_math_bits_deBruijn64tab), ("internal/strconv.uint64pow10", laid_internal_strconv_uint64pow10), ("strconv.ErrRange", laid_strconv_ErrRange), ("strconv.ErrSyntax", laid_strconv_ErrSyntax)] }
def ParserLimitsSaid : Prop := parserLimitsRow.holds Tryd.pinned (OpenSpec.ofChange parserLimitsSpec)

/-- ITS FALSE NEIGHBOUR: 'it returns false'. Refute it at one input. -/
def parserLimitsWrong : ChangeSpec := { name := "parserLimits", fn := fun _ => fun
  | [d] => { results := [.lit (.bool false)], args := [d] }
  | _ => none }
def ParserLimitsWrongFalsely : Prop := parserLimitsRow.holds Tryd.pinned (OpenSpec.ofChange parserLimitsWrong)

/- THE SECOND FORM. 'bulk': how many values and letters a reading holds, each counted each time it is reached (what is shared counts as often as it is met; a slice's spare places count too). A statement '..UptoSaid' is the law's where the arguments, and the package variables that the reading takes, are together of bulk at most 1048576: NARROWER than '..Said'. Prove '..Said' where nothing that the law and all that it calls make is longer than what came in: it says more and counts as full. Else prove '..UptoSaid'. A law counts once. -/
mutual
def uptoBulk {H : Type} : DataW H → Nat
  | .lit (.string bytes) => bytes.length + 1
  | .lit _ => 1
  | .nil => 1
  | .ptr d => uptoBulk d + 1
  | .slice elems spare => uptoBulkAll elems + uptoBulkAll spare + 1
  | .agg parts => uptoBulkAll parts + 1
  | .iface _ d => uptoBulk d + 1
  | .map entries => uptoBulkEntries entries + 1
  | .held _ => 1
def uptoBulkAll {H : Type} : List (DataW H) → Nat
  | [] => 0
  | d :: r => uptoBulk d + uptoBulkAll r
def uptoBulkEntries {H : Type} : List (Lit × DataW H) → Nat
  | [] => 0
  | x :: r => uptoBulkEntry x + uptoBulkEntries r
def uptoBulkEntry {H : Type} : Lit × DataW H → Nat
  | (.string bytes, d) => bytes.length + uptoBulk d + 1
  | (_, d) => uptoBulk d + 1
 end
def uptoSmall : (H : Type) → List (DataW H) → Bool := fun _ ds => decide (uptoBulkAll ds ≤ 1048576)
def OpenSpec.upto (s : _root_.Go.ChangeSpec) : _root_.Go.OpenSpec := { _root_.Go.OpenSpec.ofChange s with cond := some uptoSmall }

/-- 'backsteplaw04.ParserLayout', WHERE WHAT IT READS IS OF BULK AT MOST 1048576: true; the input reads as it did. -/
def parserLayoutUptoRow : OpenClaim := { program := "ytihgojmblldifaadoor", sum := "58f404c100a2d975b0fbf4de6376c50dc7176f77ebe4953f85675745832bc0bb", func := "backstep/backsteplaw04.ParserLayout", spec := "parserLayout", inPlace := ["internal/bytealg.IndexByteString"], unfollowed := true, recurses := true, named := ["backstep/arith.symbols", "strconv.ErrSyntax", "strconv.ErrRange", "internal/strconv.uint64pow10", "math/bits.deBruijn32tab", "math/bits.deBruijn64tab"], apart := false, laid := [("backstep/arith.symbols", laid_backstep_arith_symbols), ("math/bits.deBruijn32tab", laid_math_bits_deBruijn32tab), ("math/bits.deBruijn64tab", laid_math_bits_deBruijn64tab), ("internal/strconv.uint64pow10", laid_internal_strconv_uint64pow10), ("strconv.ErrRange", laid_strconv_ErrRange), ("strconv.ErrSyntax", laid_strconv_ErrSyntax)], narrowed := true }
def ParserLayoutUptoSaid : Prop := parserLayoutUptoRow.holds Tryd.pinned (OpenSpec.upto parserLayoutSpec)

/-- 'backsteplaw04.ParserCut', WHERE WHAT IT READS IS OF BULK AT MOST 1048576: true; the input reads as it did. -/
def parserCutUptoRow : OpenClaim := { program := "ytihgojmblldifaadoor", sum := "58f404c100a2d975b0fbf4de6376c50dc7176f77ebe4953f85675745832bc0bb", func := "backstep/backsteplaw04.ParserCut", spec := "parserCut", inPlace := ["internal/bytealg.IndexByteString"], unfollowed := true, recurses := true, named := ["backstep/arith.symbols", "strconv.ErrSyntax", "strconv.ErrRange", "internal/strconv.uint64pow10", "math/bits.deBruijn32tab", "math/bits.deBruijn64tab"], apart := false, laid := [("backstep/arith.symbols", laid_backstep_arith_symbols), ("math/bits.deBruijn32tab", laid_math_bits_deBruijn32tab), ("math/bits.deBruijn64tab", laid_math_bits_deBruijn64tab), ("internal/strconv.uint64pow10", laid_internal_strconv_uint64pow10), ("strconv.ErrRange", laid_strconv_ErrRange), ("strconv.ErrSyntax", laid_strconv_ErrSyntax)], narrowed := true }
def ParserCutUptoSaid : Prop := parserCutUptoRow.holds Tryd.pinned (OpenSpec.upto parserCutSpec)

/-- 'backsteplaw04.ParserFirst', WHERE WHAT IT READS IS OF BULK AT MOST 1048576: true; the input reads as it did. -/
def parserFirstUptoRow : OpenClaim := { program := "ytihgojmblldifaadoor", sum := "58f404c100a2d975b0fbf4de6376c50dc7176f77ebe4953f85675745832bc0bb", func := "backstep/backsteplaw04.ParserFirst", spec := "parserFirst", inPlace := ["internal/bytealg.IndexByteString"], unfollowed := true, recurses := true, named := ["backstep/arith.symbols", "strconv.ErrSyntax", "strconv.ErrRange", "internal/strconv.uint64pow10", "math/bits.deBruijn32tab", "math/bits.deBruijn64tab"], apart := false, laid := [("backstep/arith.symbols", laid_backstep_arith_symbols), ("math/bits.deBruijn32tab", laid_math_bits_deBruijn32tab), ("math/bits.deBruijn64tab", laid_math_bits_deBruijn64tab), ("internal/strconv.uint64pow10", laid_internal_strconv_uint64pow10), ("strconv.ErrRange", laid_strconv_ErrRange), ("strconv.ErrSyntax", laid_strconv_ErrSyntax)], narrowed := true }
def ParserFirstUptoSaid : Prop := parserFirstUptoRow.holds Tryd.pinned (OpenSpec.upto parserFirstSpec)

/-- 'backsteplaw04.ParserParens', WHERE WHAT IT READS IS OF BULK AT MOST 1048576: true; the input reads as it did. -/
def parserParensUptoRow : OpenClaim := { program := "ytihgojmblldifaadoor", sum := "58f404c100a2d975b0fbf4de6376c50dc7176f77ebe4953f85675745832bc0bb", func := "backstep/backsteplaw04.ParserParens", spec := "parserParens", inPlace := ["internal/bytealg.IndexByteString"], unfollowed := true, recurses := true, named := ["backstep/arith.symbols", "strconv.ErrSyntax", "strconv.ErrRange", "internal/strconv.uint64pow10", "math/bits.deBruijn32tab", "math/bits.deBruijn64tab"], apart := false, laid := [("backstep/arith.symbols", laid_backstep_arith_symbols), ("math/bits.deBruijn32tab", laid_math_bits_deBruijn32tab), ("math/bits.deBruijn64tab", laid_math_bits_deBruijn64tab), ("internal/strconv.uint64pow10", laid_internal_strconv_uint64pow10), ("strconv.ErrRange", laid_strconv_ErrRange), ("strconv.ErrSyntax", laid_strconv_ErrSyntax)], narrowed := true }
def ParserParensUptoSaid : Prop := parserParensUptoRow.holds Tryd.pinned (OpenSpec.upto parserParensSpec)

/-- 'backsteplaw04.ParserLevels', WHERE WHAT IT READS IS OF BULK AT MOST 1048576: true; the input reads as it did. -/
def parserLevelsUptoRow : OpenClaim := { program := "ytihgojmblldifaadoor", sum := "58f404c100a2d975b0fbf4de6376c50dc7176f77ebe4953f85675745832bc0bb", func := "backstep/backsteplaw04.ParserLevels", spec := "parserLevels", inPlace := ["internal/bytealg.IndexByteString"], unfollowed := true, recurses := true, named := ["backstep/arith.symbols", "strconv.ErrSyntax", "strconv.ErrRange", "internal/strconv.uint64pow10", "math/bits.deBruijn32tab", "math/bits.deBruijn64tab"], apart := false, laid := [("backstep/arith.symbols", laid_backstep_arith_symbols), ("math/bits.deBruijn32tab", laid_math_bits_deBruijn32tab), ("math/bits.deBruijn64tab", laid_math_bits_deBruijn64tab), ("internal/strconv.uint64pow10", laid_internal_strconv_uint64pow10), ("strconv.ErrRange", laid_strconv_ErrRange), ("strconv.ErrSyntax", laid_strconv_ErrSyntax)], narrowed := true }
def ParserLevelsUptoSaid : Prop := parserLevelsUptoRow.holds Tryd.pinned (OpenSpec.upto parserLevelsSpec)

/-- 'backsteplaw04.ParserNumbers', WHERE WHAT IT READS IS OF BULK AT MOST 1048576: true; the input reads as it did. -/
def parserNumbersUptoRow : OpenClaim := { program := "ytihgojmblldifaadoor", sum := "58f404c100a2d975b0fbf4de6376c50dc7176f77ebe4953f85675745832bc0bb", func := "backstep/backsteplaw04.ParserNumbers", spec := "parserNumbers", inPlace := ["internal/bytealg.IndexByteString"], unfollowed := true, recurses := true, named := ["backstep/arith.symbols", "strconv.ErrSyntax", "strconv.ErrRange", "internal/strconv.uint64pow10", "math/bits.deBruijn32tab", "math/bits.deBruijn64tab"], apart := false, laid := [("backstep/arith.symbols", laid_backstep_arith_symbols), ("math/bits.deBruijn32tab", laid_math_bits_deBruijn32tab), ("math/bits.deBruijn64tab", laid_math_bits_deBruijn64tab), ("internal/strconv.uint64pow10", laid_internal_strconv_uint64pow10), ("strconv.ErrRange", laid_strconv_ErrRange), ("strconv.ErrSyntax", laid_strconv_ErrSyntax)], narrowed := true }
def ParserNumbersUptoSaid : Prop := parserNumbersUptoRow.holds Tryd.pinned (OpenSpec.upto parserNumbersSpec)

/-- 'backsteplaw04.ParserLimits', WHERE WHAT IT READS IS OF BULK AT MOST 1048576: true; the input reads as it did. -/
def parserLimitsUptoRow : OpenClaim := { program := "ytihgojmblldifaadoor", sum := "58f404c100a2d975b0fbf4de6376c50dc7176f77ebe4953f85675745832bc0bb", func := "backstep/backsteplaw04.ParserLimits", spec := "parserLimits", inPlace := ["internal/bytealg.IndexByteString"], unfollowed := true, recurses := true, named := ["backstep/arith.symbols", "strconv.ErrSyntax", "strconv.ErrRange", "internal/strconv.uint64pow10", "math/bits.deBruijn32tab", "math/bits.deBruijn64tab"], apart := false, laid := [("backstep/arith.symbols", laid_backstep_arith_symbols), ("math/bits.deBruijn32tab", laid_math_bits_deBruijn32tab), ("math/bits.deBruijn64tab", laid_math_bits_deBruijn64tab), ("internal/strconv.uint64pow10", laid_internal_strconv_uint64pow10), ("strconv.ErrRange", laid_strconv_ErrRange), ("strconv.ErrSyntax", laid_strconv_ErrSyntax)], narrowed := true }
def ParserLimitsUptoSaid : Prop := parserLimitsUptoRow.holds Tryd.pinned (OpenSpec.upto parserLimitsSpec)

end Rows
end Go.Proofs.YtihgojmblldifaaDoor
