/- Texts that the proofs of FuntextLayout, FuntextCanonical, FuntextCut need. No condition. (Part 8 of 8.) -/
import Derived.Test.YtmmjpjmkkhflkaaDoorPFjb7
set_option linter.unusedSimpArgs false
set_option linter.unusedVariables false
namespace Bk
open Go Go.RowKit Go.Proofs
theorem FuntextCut_d (s : List UInt8) (k : Int) (w : World) (hs : s.length ≤ 9223372036854775807) (h0 : 0 ≤ k) (h1 : k ≤ 65535) (ht : TabsF w) (hE : Errs w) :
 Calls Tryd.prog 6 #[str s, .int .u16 k] w fun e w' => e = .returned (.bool true) ∧ Ext w w' := cut36_c s k ⟨h0, h1⟩ w hs ht hE
end Bk
