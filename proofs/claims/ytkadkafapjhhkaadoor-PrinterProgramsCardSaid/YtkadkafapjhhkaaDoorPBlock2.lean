/- Contract of printer.Block: the lines of a valid block, ErrForm else. (Printed by wip/mkpb2.py.) -/
import Derived.Test.YtkadkafapjhhkaaDoorPBlock
namespace Bk
open Go Go.RowKit Go.Proofs
theorem isPlace_expr {t : Nd} (h : t.isPlace = true) : t.isExpr = true := by
  simp only [Nd.isPlace, Bool.and_eq_true] at h; exact h.2
theorem isVar_expr {t : Nd} (h : t.isVar = true) : t.isExpr = true := by
  simp only [Nd.isVar, Bool.and_eq_true] at h; exact h.2
theorem rowStmt_all : ∀ l : List Nd, rowStmt l = l.all Nd.isStmt
  | [] => rfl
  | x :: r => by simp [rowStmt, rowStmt_all r]
theorem kind_of_stmt {k n : Int} {s : List UInt8} {l : List Nd} (h : (Nd.mk k n s l).isStmt = true) : 40 ≤ k ∧ k ≤ 56 := by
  by_cases hk : k < 40 ∨ 56 < k
  · rw [isStmt_else k n s l hk] at h; simp at h
  · omega
set_option maxHeartbeats 4000000 in
theorem stmt_all (N : Nat) : (∀ t : Nd, t.size < N → t.wf → t.isStmt = true → PrintsD 49 Nd.stmtT t) ∧ (∀ t : Nd, t.size < N → t.wf → t.isBlock = true → PrintsD 32 Nd.linesT t) := by
  induction N with
  | zero => exact ⟨fun t h => absurd h (Nat.not_lt_zero _), fun t h => absurd h (Nat.not_lt_zero _)⟩
  | succ N ih =>
    refine ⟨?_, ?_⟩
    · rintro ⟨k, n, s, l⟩ hN hwf he
      have hk := kind_of_stmt he
      simp only [Nd.wf, Nd.size] at hwf hN
      obtain ⟨hk0, hk1, hn0, hn1, hsl, hll, hrw⟩ := hwf
      by_cases c40 : k = 40
      · subst c40
        rw [isStmt_40] at he
        rcases l with _ | ⟨x, _ | ⟨y, _ | ⟨v4, l⟩⟩⟩
        · simp [kidsOk] at he
        · simp [kidsOk] at he
        · simp only [kidsOk, Bool.and_eq_true, Bool.and_true, and_true] at he
          simp only [rowSize, rowWf] at hN hrw
          exact stmt_40 n s x y (expr_t x hrw.1 (isPlace_expr (he.2.1))) (expr_t y hrw.2.1 (he.2.2))
        · simp [kidsOk] at he
      by_cases c41 : k = 41
      · subst c41
        rw [isStmt_41] at he
        rcases l with _ | ⟨x, _ | ⟨y, _ | ⟨v4, l⟩⟩⟩
        · simp [kidsOk] at he
        · simp [kidsOk] at he
        · simp only [kidsOk, Bool.and_eq_true, Bool.and_true, and_true] at he
          simp only [rowSize, rowWf] at hN hrw
          exact stmt_41 n s x y (expr_t x hrw.1 (isPlace_expr (he.2.1))) (expr_t y hrw.2.1 (he.2.2))
        · simp [kidsOk] at he
      by_cases c42 : k = 42
      · subst c42
        rw [isStmt_42] at he
        rcases l with _ | ⟨x, _ | ⟨y, _ | ⟨v4, l⟩⟩⟩
        · simp [kidsOk] at he
        · simp [kidsOk] at he
        · simp only [kidsOk, Bool.and_eq_true, Bool.and_true, and_true] at he
          simp only [rowSize, rowWf] at hN hrw
          exact stmt_42 n s x y (expr_t x hrw.1 (isPlace_expr (he.2.1))) (expr_t y hrw.2.1 (he.2.2))
        · simp [kidsOk] at he
      by_cases c43 : k = 43
      · subst c43
        rw [isStmt_43] at he
        rcases l with _ | ⟨x, _ | ⟨y, _ | ⟨v4, l⟩⟩⟩
        · simp [kidsOk] at he
        · simp [kidsOk] at he
        · simp only [kidsOk, Bool.and_eq_true, Bool.and_true, and_true] at he
          simp only [rowSize, rowWf] at hN hrw
          exact stmt_43 n s x y (expr_t x hrw.1 (isPlace_expr (he.2.1))) (expr_t y hrw.2.1 (isPlace_expr (he.2.2)))
        · simp [kidsOk] at he
      by_cases c44 : k = 44
      · subst c44
        rw [isStmt_44] at he
        rcases l with _ | ⟨x, _ | ⟨v4, l⟩⟩
        · simp [kidsOk] at he
        · simp only [kidsOk, Bool.and_eq_true, Bool.and_true, and_true] at he
          simp only [rowSize, rowWf] at hN hrw
          exact stmt_44 n s x (expr_t x hrw.1 (isPlace_expr (he.2)))
        · simp [kidsOk] at he
      by_cases c45 : k = 45
      · subst c45
        rw [isStmt_45] at he
        rcases l with _ | ⟨x, _ | ⟨v4, l⟩⟩
        · simp [kidsOk] at he
        · simp only [kidsOk, Bool.and_eq_true, Bool.and_true, and_true] at he
          simp only [rowSize, rowWf] at hN hrw
          exact stmt_45 n s x (expr_t x hrw.1 (isPlace_expr (he.2)))
        · simp [kidsOk] at he
      by_cases c46 : k = 46
      · subst c46
        rw [isStmt_46] at he
        rcases l with _ | ⟨x, _ | ⟨v4, l⟩⟩
        · simp [kidsOk] at he
        · simp only [kidsOk, Bool.and_eq_true, Bool.and_true, and_true] at he
          simp only [rowSize, rowWf] at hN hrw
          exact stmt_46 n s x (expr_t x hrw.1 (isPlace_expr (he.2)))
        · simp [kidsOk] at he
      by_cases c47 : k = 47
      · subst c47
        rw [isStmt_47] at he
        rcases l with _ | ⟨x, _ | ⟨v4, l⟩⟩
        · simp [kidsOk] at he
        · simp only [kidsOk, Bool.and_eq_true, Bool.and_true, and_true] at he
          simp only [rowSize, rowWf] at hN hrw
          exact stmt_47 n s x (expr_t x hrw.1 (isPlace_expr (he.2)))
        · simp [kidsOk] at he
      by_cases c48 : k = 48
      · subst c48
        rw [isStmt_48] at he
        rcases l with _ | ⟨x, _ | ⟨v4, l⟩⟩
        · simp [kidsOk] at he
        · simp only [kidsOk, Bool.and_eq_true, Bool.and_true, and_true] at he
          simp only [rowSize, rowWf] at hN hrw
          exact stmt_48 n s x (expr_t x hrw.1 (isPlace_expr (he.2)))
        · simp [kidsOk] at he
      by_cases c49 : k = 49
      · subst c49
        rw [isStmt_49] at he
        rcases l with _ | ⟨x, _ | ⟨v4, l⟩⟩
        · simp [kidsOk] at he
        · simp only [kidsOk, Bool.and_eq_true, Bool.and_true, and_true] at he
          simp only [rowSize, rowWf] at hN hrw
          exact stmt_49 n s x (expr_t x hrw.1 (isPlace_expr (he.2)))
        · simp [kidsOk] at he
      by_cases c50 : k = 50
      · subst c50
        rw [isStmt_50] at he
        simp only [Bool.and_eq_true, List.all_eq_true] at he
        exact stmt_50 n s l hll (fun x hx => expr_t x (rowWf_get hrw x hx) (isVar_expr (he.2 x hx)))
      by_cases c51 : k = 51
      · subst c51
        rw [isStmt_51] at he
        simp only [Bool.and_eq_true, List.all_eq_true] at he
        exact stmt_51 n s l hll (fun x hx => expr_t x (rowWf_get hrw x hx) (isVar_expr (he.2 x hx)))
      by_cases c52 : k = 52
      · subst c52
        rw [isStmt_52] at he
        rcases l with _ | ⟨x, _ | ⟨y, _ | ⟨z, _ | ⟨u, _ | ⟨v4, l⟩⟩⟩⟩⟩
        · simp [kidsOk] at he
        · simp [kidsOk] at he
        · simp [kidsOk] at he
        · simp [kidsOk] at he
        · simp only [kidsOk, Bool.and_eq_true, Bool.and_true, and_true] at he
          simp only [rowSize, rowWf] at hN hrw
          exact stmt_52 n s x y z u (expr_t x hrw.1 (he.2.1)) (ih.2 y (by omega) hrw.2.1 (he.2.2.1)) (ih.2 z (by omega) hrw.2.2.1 (he.2.2.2.1)) (expr_t u hrw.2.2.2.1 (he.2.2.2.2))
        · simp [kidsOk] at he
      by_cases c53 : k = 53
      · subst c53
        rw [isStmt_53] at he
        rcases l with _ | ⟨x, _ | ⟨y, _ | ⟨z, _ | ⟨u, _ | ⟨v4, l⟩⟩⟩⟩⟩
        · simp [kidsOk] at he
        · simp [kidsOk] at he
        · simp [kidsOk] at he
        · simp [kidsOk] at he
        · simp only [kidsOk, Bool.and_eq_true, Bool.and_true, and_true] at he
          simp only [rowSize, rowWf] at hN hrw
          exact stmt_53 n s x y z u (expr_t x hrw.1 (he.2.1)) (ih.2 y (by omega) hrw.2.1 (he.2.2.1)) (ih.2 z (by omega) hrw.2.2.1 (he.2.2.2.1)) (expr_t u hrw.2.2.2.1 (he.2.2.2.2))
        · simp [kidsOk] at he
      by_cases c54 : k = 54
      · subst c54
        rw [isStmt_54] at he
        rcases l with _ | ⟨x, _ | ⟨y, _ | ⟨z, _ | ⟨v4, l⟩⟩⟩⟩
        · simp [kidsOk] at he
        · simp [kidsOk] at he
        · simp [kidsOk] at he
        · simp only [kidsOk, Bool.and_eq_true, Bool.and_true, and_true] at he
          simp only [rowSize, rowWf] at hN hrw
          exact stmt_54 n s x y z (expr_t x hrw.1 (he.2.1)) (ih.2 y (by omega) hrw.2.1 (he.2.2.1)) (expr_t z hrw.2.2.1 (he.2.2.2))
        · simp [kidsOk] at he
      by_cases c55 : k = 55
      · subst c55
        rw [isStmt_55] at he
        rcases l with _ | ⟨x, _ | ⟨v4, l⟩⟩
        · simp [kidsOk] at he
        · simp only [kidsOk, Bool.and_eq_true, Bool.and_true, and_true] at he
          simp only [rowSize, rowWf] at hN hrw
          exact stmt_55 n s x (ih.2 x (by omega) hrw.1 (he.2))
        · simp [kidsOk] at he
      by_cases c56 : k = 56
      · subst c56
        rw [isStmt_56] at he
        rcases l with _ | ⟨x, _ | ⟨y, _ | ⟨v4, l⟩⟩⟩
        · simp [kidsOk] at he
        · simp [kidsOk] at he
        · simp only [kidsOk, Bool.and_eq_true, Bool.and_true, and_true] at he
          simp only [rowSize, rowWf] at hN hrw
          exact stmt_56 n s x y (expr_t x hrw.1 (isPlace_expr (he.2.1))) (expr_t y hrw.2.1 (he.2.2))
        · simp [kidsOk] at he
      omega
    · rintro ⟨k, n, s, l⟩ hN hwf he
      simp only [Nd.wf, Nd.size] at hwf hN
      obtain ⟨hk0, hk1, hn0, hn1, hsl, hll, hrw⟩ := hwf
      simp only [Nd.isBlock, Bool.and_eq_true, rowStmt_all, List.all_eq_true] at he
      exact block_c k n s l hll (fun x hx => ih.1 x (by have := size_mem hx; omega) (rowWf_get hrw x hx) (he.2 x hx))
theorem stmt_t (t : Nd) (hwf : t.wf) (h : t.isStmt = true) : PrintsD 49 Nd.stmtT t := (stmt_all (t.size + 1)).1 t (by omega) hwf h
theorem block_t (t : Nd) (hwf : t.wf) (h : t.isBlock = true) : PrintsD 32 Nd.linesT t := (stmt_all (t.size + 1)).2 t (by omega) hwf h
end Bk
