/- Contracts of the printer's word and updater. -/
import Derived.Test.YtkadkafapjhhkaaDoorSpecS
import Derived.Test.YtkadkafapjhhkaaDoorPExpr5
namespace Bk
open Go Go.RowKit Go.Proofs
theorem word_c (k : Int) (w : World) (h0 : 0 ≤ k) (h1 : k ≤ 255) : Calls Tryd.prog 60 #[.int .u8 k] w fun e w' => e = .returned (str (kword k)) ∧ w = w' := by
  go_enter Tryd.func60, Tryd.ntmps60
  go_wp2_with fail
  all_goals go_ret
  all_goals (refine ⟨ret_str ?_, rfl⟩; (try simp only [beq_iff_eq, beq_eq_false_iff_ne, ne_eq, bne_iff_ne, decide_eq_true_eq, decide_eq_false_iff_not] at *); first | (subst k; rfl) | (unfold kword; (repeat' split) <;> first | rfl | omega))
theorem updater_c (k : Int) (w : World) (h0 : 0 ≤ k) (h1 : k ≤ 255) (ht : Tabs w) : Calls Tryd.prog 61 #[.int .u8 k] w fun e w' => e = .returned (str (updSign k)) ∧ w = w' := by
  have HT := Lib.hid ht; clear ht
  by_cases h56 : k = 56
  · subst h56
    go_enter Tryd.func61, Tryd.ntmps61
    go_wp2_with fail
    go_ret
    exact ⟨rfl, rfl⟩
  by_cases h43 : k = 43
  · subst h43
    go_enter Tryd.func61, Tryd.ntmps61
    go_wp2_with fail
    go_ret
    exact ⟨rfl, rfl⟩
  have hu : updSign k = symbol k := by unfold updSign; rw [if_neg h56, if_neg h43]
  rw [hu]
  have d1 : (k == 56) = false := by simpa using h56
  have d2 : (k == 43) = false := by simpa using h43
  clear hu h56 h43
  go_enter Tryd.func61, Tryd.ntmps61
  go_wp2_with (go_at_call 44; refine (arith_Symbol_c _ _ h0 h1 HT.out).mono ?_; rintro e w1 ⟨rfl, rfl⟩)
  go_ret
  exact ⟨rfl, rfl⟩
end Bk
