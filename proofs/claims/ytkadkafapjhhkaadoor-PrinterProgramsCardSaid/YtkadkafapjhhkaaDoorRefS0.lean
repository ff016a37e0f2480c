/- Contracts of the reference's tabs and word (layer 5). -/
import Derived.Test.YtkadkafapjhhkaaDoorRef05
import Derived.Test.YtkadkafapjhhkaaDoorSpecS
namespace Bk
open Go Go.RowKit Go.Proofs
/-- The reference's word: the keyword without a space. -/
def rword (k : Int) : List UInt8 :=
  if k = 44 then [112, 117, 115, 104] else if k = 45 then [112, 111, 112] else if k = 46 then [114, 101, 97, 100] else if k = 47 then [117, 110, 114, 101, 97, 100] else if k = 48 then [119, 114, 105, 116, 101] else if k = 49 then [117, 110, 119, 114, 105, 116, 101] else if k = 50 then [99, 97, 108, 108] else [117, 110, 99, 97, 108, 108]
theorem rword_kword (k : Int) (h : 44 ≤ k) (h' : k ≤ 51) : kword k = rword k ++ [32] := by
  have : k = 44 ∨ k = 45 ∨ k = 46 ∨ k = 47 ∨ k = 48 ∨ k = 49 ∨ k = 50 ∨ k = 51 := by omega
  rcases this with rfl | rfl | rfl | rfl | rfl | rfl | rfl | rfl <;> decide
theorem rword_c (k : Int) (w : World) (h0 : 0 ≤ k) (h1 : k ≤ 255) : Calls Tryd.prog 53 #[.int .u8 k] w fun e w' => e = .returned (str (rword k)) ∧ w = w' := by
  go_enter Tryd.func53, Tryd.ntmps53
  go_wp2_with fail
  all_goals go_ret
  all_goals refine ⟨ret_str ?_, rfl⟩
  all_goals simp only [beq_iff_eq, beq_eq_false_iff_ne, ne_eq] at *
  all_goals first | (subst k; rfl) | (unfold rword; rw [if_neg (by assumption), if_neg (by assumption), if_neg (by assumption), if_neg (by assumption), if_neg (by assumption), if_neg (by assumption), if_neg (by assumption)])
theorem rtabs_c (n : Nat) (w : World) (hn : n ≤ 1000000) : Calls Tryd.prog 52 #[.int .i64 n] w fun e w' => e = .returned (str (tabT n)) ∧ w = w' := by
  go_enter Tryd.func52, Tryd.ntmps52
  go_wp2_with fail
  go_loop [3, 4] (fun s i => ∃ j : Nat, j ≤ n ∧ i = .int .i64 j ∧ s = str (tabT j)) (fun _ i => n - (intOf i).toNat)
  case atStart => exact ⟨0, Nat.zero_le _, rfl, rfl⟩
  case round =>
    obtain ⟨j, hj, rfl, rfl⟩ := hrel
    have hl : (tabT j).length = j := by simp [tabT]
    have HL := Lib.hid hl
    have hz : ¬ 9223372036854775807 < (tabT j).length + 1 := by omega
    clear hl
    by_cases hlt : j < n
    · go_wp2_with fail
      go_round
      case rel => exact ⟨j + 1, by omega, by go_num, by
        show Value.string ((⟨(tabT j).toArray⟩ : ByteArray) ++ ⟨([9] : List UInt8).toArray⟩) = _
        rw [str_app]; simp [tabT, List.replicate_succ']⟩
      case measure => simp [intOf]; omega
    · go_wp2_with fail
      go_ret
      have : j = n := by omega
      subst this
      exact ⟨rfl, rfl⟩
end Bk
