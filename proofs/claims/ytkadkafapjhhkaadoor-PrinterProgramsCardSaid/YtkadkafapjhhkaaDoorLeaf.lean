/- Contracts of the small functions of arith, lexer, printer and their references: each returns what the plain function of the same name computes. No condition beyond the types' ranges. -/
import Derived.Test.YtkadkafapjhhkaaDoorProg
import Derived.Test.YtkadkafapjhhkaaDoorSpec
import Derived.Test.YtkadkafapjhhkaaDoorShelf
namespace Bk
open Go Go.RowKit Go.Proofs

theorem ret_int {k : IntKind} {a b : Int} (h : a = b) : Ending.returned (.int k a) = .returned (.int k b) := by rw [h]
theorem ret_str {a b : List UInt8} (h : a = b) : Ending.returned (str a) = .returned (str b) := by rw [h]
theorem ret_bool {a b : Bool} (h : a = b) : Ending.returned (.bool a) = .returned (.bool b) := by rw [h]

theorem arith_Level_c (k : Int) (w : World) (h0 : 0 ≤ k) (h1 : k ≤ 255) : Calls Tryd.prog 47 #[.int .u8 k] w fun e w' => e = .returned (.int .i64 (level k)) ∧ w = w' := by
  go_enter Tryd.func47, Tryd.ntmps47
  go_wp2_with fail
  all_goals go_ret
  all_goals (refine ⟨ret_int ?_, rfl⟩; (try simp only [beq_iff_eq, beq_eq_false_iff_ne, ne_eq, bne_iff_ne, decide_eq_true_eq, decide_eq_false_iff_not] at *); first | (subst k; rfl) | (unfold level; (repeat' split) <;> omega))
theorem ref_Level_c (k : Int) (w : World) (h0 : 0 ≤ k) (h1 : k ≤ 255) : Calls Tryd.prog 31 #[.int .u8 k] w fun e w' => e = .returned (.int .i64 (level k)) ∧ w = w' := by
  go_enter Tryd.func31, Tryd.ntmps31
  go_wp2_with fail
  all_goals go_ret
  all_goals (refine ⟨ret_int ?_, rfl⟩; (try simp only [beq_iff_eq, beq_eq_false_iff_ne, ne_eq, bne_iff_ne, decide_eq_true_eq, decide_eq_false_iff_not] at *); first | (subst k; rfl) | (unfold level; (repeat' split) <;> omega))

/-- The tables of package-level variables that the program reads. -/
structure Tabs (w : World) : Prop where
  sym : ∀ i, i < 43 → w.cell? ⟨0, i, none⟩ = some (str (symbols.getD i []))
  pow : Lib.TabIs Tryd.prog w "internal/strconv.uint64pow10" .u64 Lib.pow10Tab

theorem symbol_out (k : Int) (h : 43 ≤ k) : symbol k = [] := by
  unfold symbol
  rw [List.getD_eq_getElem?_getD, List.getElem?_eq_none (show 43 ≤ k.toNat by omega)]
  rfl
theorem symbol_else (k : Int) (h : ¬ (6 ≤ k ∧ k ≤ 23) ∧ ¬ (40 ≤ k ∧ k ≤ 42)) (h0 : 0 ≤ k) : symbol k = [] := by
  by_cases hk : 43 ≤ k
  · exact symbol_out k hk
  · have key : ∀ i : Fin 43, ¬ (6 ≤ i.val ∧ i.val ≤ 23) ∧ ¬ (40 ≤ i.val ∧ i.val ≤ 42) → symbols.getD i.val [] = [] := by decide
    exact key ⟨k.toNat, by omega⟩ (by simp only; omega)
theorem arith_Symbol_c (k : Int) (w : World) (h0 : 0 ≤ k) (h1 : k ≤ 255) (ht : Tabs w) : Calls Tryd.prog 44 #[.int .u8 k] w fun e w' => e = .returned (str (symbol k)) ∧ w = w' := by
  by_cases hk : k < 43
  · have g := ht.sym k.toNat (by omega)
    have G : Hid (symbols.getD k.toNat [] = symbol k) := Lib.hid rfl
    clear ht
    go_enter Tryd.func44, Tryd.ntmps44
    go_wp2_with fail
    go_ret
    rw [← G.out]
    exact ⟨by simp [go_sem], rfl⟩
  · have hn := symbol_out k (by omega)
    have HN := Lib.hid hn; clear hn ht
    go_enter Tryd.func44, Tryd.ntmps44
    go_wp2_with fail
    go_ret
    rw [HN.out]
    exact ⟨rfl, rfl⟩
theorem ref_Symbol_c (k : Int) (w : World) (h0 : 0 ≤ k) (h1 : k ≤ 255) : Calls Tryd.prog 28 #[.int .u8 k] w fun e w' => e = .returned (str (symbol k)) ∧ w = w' := by
  go_enter Tryd.func28, Tryd.ntmps28
  go_wp2_with fail
  all_goals go_ret
  all_goals refine ⟨ret_str ?_, rfl⟩
  all_goals (try simp only [beq_iff_eq, beq_eq_false_iff_ne, ne_eq, bne_iff_ne, decide_eq_true_eq, decide_eq_false_iff_not] at *)
  all_goals first | (subst k; rfl) | exact (symbol_else k (by omega) h0).symm
end Bk
