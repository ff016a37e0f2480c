/- How long the printed lines are; contract of printer.Block. (Printed by wip/mkpb3.py.) -/
import Derived.Test.YtkadkafapjhhkaaDoorPBlock2
namespace Bk
open Go Go.RowKit Go.Proofs
theorem textLen (t : Nd) (hwf : t.wf) (h : t.isExpr = true) : t.text.length ≤ 30 * t.size := text_len (t.size + 1) t (by omega) hwf h
theorem kword_len (k : Int) : (kword k).length ≤ 12 := by
  unfold kword
  by_cases c44 : k = 44
  · rw [if_pos c44]; decide
  rw [if_neg c44]
  by_cases c45 : k = 45
  · rw [if_pos c45]; decide
  rw [if_neg c45]
  by_cases c46 : k = 46
  · rw [if_pos c46]; decide
  rw [if_neg c46]
  by_cases c47 : k = 47
  · rw [if_pos c47]; decide
  rw [if_neg c47]
  by_cases c48 : k = 48
  · rw [if_pos c48]; decide
  rw [if_neg c48]
  by_cases c49 : k = 49
  · rw [if_pos c49]; decide
  rw [if_neg c49]
  by_cases c50 : k = 50
  · rw [if_pos c50]; decide
  rw [if_neg c50]
  by_cases c51 : k = 51
  · rw [if_pos c51]; decide
  rw [if_neg c51]
  by_cases c52 : k = 52
  · rw [if_pos c52]; decide
  rw [if_neg c52]
  by_cases c53 : k = 53
  · rw [if_pos c53]; decide
  rw [if_neg c53]
  by_cases c54 : k = 54
  · rw [if_pos c54]; decide
  rw [if_neg c54]
  by_cases c55 : k = 55
  · rw [if_pos c55]; decide
  rw [if_neg c55]
  decide
theorem updSign_len (k : Int) : (updSign k).length ≤ 3 := by
  unfold updSign
  split
  · decide
  · split
    · decide
    · have := symbol_len k; omega
theorem argsT_len : ∀ (l : List Nd) (q : Bool), rowWf l → (∀ x ∈ l, x.isExpr = true) → (argsT q l).length ≤ 32 * rowSize l
  | [], _, _, _ => by simp [argsT, rowSize]
  | x :: r, q, hw, h => by
    simp only [rowWf] at hw
    have h1 := textLen x hw.1 (h x (by simp))
    have h2 := argsT_len r false hw.2 (fun y hy => h y (by simp [hy]))
    have h3 := x.size_pos
    simp only [argsT, rowSize, List.length_append]
    split <;> simp <;> omega
theorem rowLines_len (d : Nat) : ∀ l : List Nd, (∀ x ∈ l, (x.stmtT d).length + d + 2 ≤ 4000100 * x.size) → (rowLines l d).length ≤ 4000100 * rowSize l
  | [], _ => by simp [rowLines, rowSize]
  | x :: r, h => by
    have h1 := h x (by simp)
    have h2 := rowLines_len d r (fun y hy => h y (by simp [hy]))
    simp only [rowLines, rowSize, tabT, List.length_append, List.length_replicate, List.length_cons, List.length_nil]
    omega
theorem stmt_len (N : Nat) : (∀ (t : Nd) (d : Nat), t.size < N → t.wf → t.isStmt = true → d + t.size ≤ 1000000 → (t.stmtT d).length + d + 2 ≤ 4000100 * t.size) ∧ (∀ (t : Nd) (d : Nat), t.size < N → t.wf → t.isBlock = true → d + t.size ≤ 1000000 → (t.linesT d).length + 4000100 ≤ 4000100 * t.size) := by
  induction N with
  | zero => exact ⟨fun t _ h => absurd h (Nat.not_lt_zero _), fun t _ h => absurd h (Nat.not_lt_zero _)⟩
  | succ N ih =>
    refine ⟨?_, ?_⟩
    · rintro ⟨k, n, s, l⟩ d hN hwf he hd
      have hk := kind_of_stmt he
      have hkw := kword_len k
      have hup := updSign_len k
      simp only [Nd.wf, Nd.size] at hwf hN hd ⊢
      obtain ⟨hk0, hk1, hn0, hn1, hsl, hll, hrw⟩ := hwf
      by_cases c40 : k = 40
      · subst c40
        rw [isStmt_40] at he
        rcases l with _ | ⟨x, _ | ⟨y, _ | ⟨v4, l⟩⟩⟩
        · simp [kidsOk] at he
        · simp [kidsOk] at he
        · simp only [kidsOk, Bool.and_eq_true, Bool.and_true, and_true] at he
          simp only [rowSize, rowWf] at hN hrw hd ⊢
          have zx := x.size_pos
          have lx := textLen x hrw.1 (isPlace_expr (he.2.1))
          have zy := y.size_pos
          have ly := textLen y hrw.2.1 (he.2.2)
          rw [Nd.stmtT.eq_def]
          simp only [tabT]
          simp [-List.length_append]
          simp only [List.length_append, List.length_cons, List.length_nil, List.length_replicate]
          omega
        · simp [kidsOk] at he
      by_cases c41 : k = 41
      · subst c41
        rw [isStmt_41] at he
        rcases l with _ | ⟨x, _ | ⟨y, _ | ⟨v4, l⟩⟩⟩
        · simp [kidsOk] at he
        · simp [kidsOk] at he
        · simp only [kidsOk, Bool.and_eq_true, Bool.and_true, and_true] at he
          simp only [rowSize, rowWf] at hN hrw hd ⊢
          have zx := x.size_pos
          have lx := textLen x hrw.1 (isPlace_expr (he.2.1))
          have zy := y.size_pos
          have ly := textLen y hrw.2.1 (he.2.2)
          rw [Nd.stmtT.eq_def]
          simp only [tabT]
          simp [-List.length_append]
          simp only [List.length_append, List.length_cons, List.length_nil, List.length_replicate]
          omega
        · simp [kidsOk] at he
      by_cases c42 : k = 42
      · subst c42
        rw [isStmt_42] at he
        rcases l with _ | ⟨x, _ | ⟨y, _ | ⟨v4, l⟩⟩⟩
        · simp [kidsOk] at he
        · simp [kidsOk] at he
        · simp only [kidsOk, Bool.and_eq_true, Bool.and_true, and_true] at he
          simp only [rowSize, rowWf] at hN hrw hd ⊢
          have zx := x.size_pos
          have lx := textLen x hrw.1 (isPlace_expr (he.2.1))
          have zy := y.size_pos
          have ly := textLen y hrw.2.1 (he.2.2)
          rw [Nd.stmtT.eq_def]
          simp only [tabT]
          simp [-List.length_append]
          simp only [List.length_append, List.length_cons, List.length_nil, List.length_replicate]
          omega
        · simp [kidsOk] at he
      by_cases c43 : k = 43
      · subst c43
        rw [isStmt_43] at he
        rcases l with _ | ⟨x, _ | ⟨y, _ | ⟨v4, l⟩⟩⟩
        · simp [kidsOk] at he
        · simp [kidsOk] at he
        · simp only [kidsOk, Bool.and_eq_true, Bool.and_true, and_true] at he
          simp only [rowSize, rowWf] at hN hrw hd ⊢
          have zx := x.size_pos
          have lx := textLen x hrw.1 (isPlace_expr (he.2.1))
          have zy := y.size_pos
          have ly := textLen y hrw.2.1 (isPlace_expr (he.2.2))
          rw [Nd.stmtT.eq_def]
          simp only [tabT]
          simp [-List.length_append]
          simp only [List.length_append, List.length_cons, List.length_nil, List.length_replicate]
          omega
        · simp [kidsOk] at he
      by_cases c44 : k = 44
      · subst c44
        rw [isStmt_44] at he
        rcases l with _ | ⟨x, _ | ⟨v4, l⟩⟩
        · simp [kidsOk] at he
        · simp only [kidsOk, Bool.and_eq_true, Bool.and_true, and_true] at he
          simp only [rowSize, rowWf] at hN hrw hd ⊢
          have zx := x.size_pos
          have lx := textLen x hrw.1 (isPlace_expr (he.2))
          simp only [named, Bool.and_eq_true] at he
          have hnl := isName_len he.1.2
          rw [Nd.stmtT.eq_def]
          simp only [tabT]
          simp [-List.length_append]
          simp only [List.length_append, List.length_cons, List.length_nil, List.length_replicate]
          omega
        · simp [kidsOk] at he
      by_cases c45 : k = 45
      · subst c45
        rw [isStmt_45] at he
        rcases l with _ | ⟨x, _ | ⟨v4, l⟩⟩
        · simp [kidsOk] at he
        · simp only [kidsOk, Bool.and_eq_true, Bool.and_true, and_true] at he
          simp only [rowSize, rowWf] at hN hrw hd ⊢
          have zx := x.size_pos
          have lx := textLen x hrw.1 (isPlace_expr (he.2))
          simp only [named, Bool.and_eq_true] at he
          have hnl := isName_len he.1.2
          rw [Nd.stmtT.eq_def]
          simp only [tabT]
          simp [-List.length_append]
          simp only [List.length_append, List.length_cons, List.length_nil, List.length_replicate]
          omega
        · simp [kidsOk] at he
      by_cases c46 : k = 46
      · subst c46
        rw [isStmt_46] at he
        rcases l with _ | ⟨x, _ | ⟨v4, l⟩⟩
        · simp [kidsOk] at he
        · simp only [kidsOk, Bool.and_eq_true, Bool.and_true, and_true] at he
          simp only [rowSize, rowWf] at hN hrw hd ⊢
          have zx := x.size_pos
          have lx := textLen x hrw.1 (isPlace_expr (he.2))
          rw [Nd.stmtT.eq_def]
          simp only [tabT]
          simp [-List.length_append]
          simp only [List.length_append, List.length_cons, List.length_nil, List.length_replicate]
          omega
        · simp [kidsOk] at he
      by_cases c47 : k = 47
      · subst c47
        rw [isStmt_47] at he
        rcases l with _ | ⟨x, _ | ⟨v4, l⟩⟩
        · simp [kidsOk] at he
        · simp only [kidsOk, Bool.and_eq_true, Bool.and_true, and_true] at he
          simp only [rowSize, rowWf] at hN hrw hd ⊢
          have zx := x.size_pos
          have lx := textLen x hrw.1 (isPlace_expr (he.2))
          rw [Nd.stmtT.eq_def]
          simp only [tabT]
          simp [-List.length_append]
          simp only [List.length_append, List.length_cons, List.length_nil, List.length_replicate]
          omega
        · simp [kidsOk] at he
      by_cases c48 : k = 48
      · subst c48
        rw [isStmt_48] at he
        rcases l with _ | ⟨x, _ | ⟨v4, l⟩⟩
        · simp [kidsOk] at he
        · simp only [kidsOk, Bool.and_eq_true, Bool.and_true, and_true] at he
          simp only [rowSize, rowWf] at hN hrw hd ⊢
          have zx := x.size_pos
          have lx := textLen x hrw.1 (isPlace_expr (he.2))
          rw [Nd.stmtT.eq_def]
          simp only [tabT]
          simp [-List.length_append]
          simp only [List.length_append, List.length_cons, List.length_nil, List.length_replicate]
          omega
        · simp [kidsOk] at he
      by_cases c49 : k = 49
      · subst c49
        rw [isStmt_49] at he
        rcases l with _ | ⟨x, _ | ⟨v4, l⟩⟩
        · simp [kidsOk] at he
        · simp only [kidsOk, Bool.and_eq_true, Bool.and_true, and_true] at he
          simp only [rowSize, rowWf] at hN hrw hd ⊢
          have zx := x.size_pos
          have lx := textLen x hrw.1 (isPlace_expr (he.2))
          rw [Nd.stmtT.eq_def]
          simp only [tabT]
          simp [-List.length_append]
          simp only [List.length_append, List.length_cons, List.length_nil, List.length_replicate]
          omega
        · simp [kidsOk] at he
      by_cases c50 : k = 50
      · subst c50
        rw [isStmt_50] at he
        simp only [Bool.and_eq_true, List.all_eq_true, named] at he
        have hnl := isName_len he.1.1.2
        have hal := argsT_len l true hrw (fun x hx => isVar_expr (he.2 x hx))
        have htx : (Nd.mk 50 n s l).stmtT d = kword 50 ++ s ++ [40] ++ argsT true l ++ [41] := by rw [Nd.stmtT.eq_def]; simp
        rw [htx]
        simp only [List.length_append, List.length_cons, List.length_nil]
        omega
      by_cases c51 : k = 51
      · subst c51
        rw [isStmt_51] at he
        simp only [Bool.and_eq_true, List.all_eq_true, named] at he
        have hnl := isName_len he.1.1.2
        have hal := argsT_len l true hrw (fun x hx => isVar_expr (he.2 x hx))
        have htx : (Nd.mk 51 n s l).stmtT d = kword 51 ++ s ++ [40] ++ argsT true l ++ [41] := by rw [Nd.stmtT.eq_def]; simp
        rw [htx]
        simp only [List.length_append, List.length_cons, List.length_nil]
        omega
      by_cases c52 : k = 52
      · subst c52
        rw [isStmt_52] at he
        rcases l with _ | ⟨x, _ | ⟨y, _ | ⟨z, _ | ⟨u, _ | ⟨v4, l⟩⟩⟩⟩⟩
        · simp [kidsOk] at he
        · simp [kidsOk] at he
        · simp [kidsOk] at he
        · simp [kidsOk] at he
        · simp only [kidsOk, Bool.and_eq_true, Bool.and_true, and_true] at he
          simp only [rowSize, rowWf] at hN hrw hd ⊢
          have zx := x.size_pos
          have lx := textLen x hrw.1 (he.2.1)
          have zy := y.size_pos
          have ly := ih.2 y (d + 1) (by omega) hrw.2.1 (he.2.2.1) (by omega)
          have zz := z.size_pos
          have lz := ih.2 z (d + 1) (by omega) hrw.2.2.1 (he.2.2.2.1) (by omega)
          have zu := u.size_pos
          have lu := textLen u hrw.2.2.2.1 (he.2.2.2.2)
          rw [Nd.stmtT.eq_def]
          simp only [tabT]
          simp [-List.length_append]
          simp only [List.length_append, List.length_cons, List.length_nil, List.length_replicate]
          omega
        · simp [kidsOk] at he
      by_cases c53 : k = 53
      · subst c53
        rw [isStmt_53] at he
        rcases l with _ | ⟨x, _ | ⟨y, _ | ⟨z, _ | ⟨u, _ | ⟨v4, l⟩⟩⟩⟩⟩
        · simp [kidsOk] at he
        · simp [kidsOk] at he
        · simp [kidsOk] at he
        · simp [kidsOk] at he
        · simp only [kidsOk, Bool.and_eq_true, Bool.and_true, and_true] at he
          simp only [rowSize, rowWf] at hN hrw hd ⊢
          have zx := x.size_pos
          have lx := textLen x hrw.1 (he.2.1)
          have zy := y.size_pos
          have ly := ih.2 y (d + 1) (by omega) hrw.2.1 (he.2.2.1) (by omega)
          have zz := z.size_pos
          have lz := ih.2 z (d + 1) (by omega) hrw.2.2.1 (he.2.2.2.1) (by omega)
          have zu := u.size_pos
          have lu := textLen u hrw.2.2.2.1 (he.2.2.2.2)
          rw [Nd.stmtT.eq_def]
          simp only [tabT]
          simp [-List.length_append]
          simp only [List.length_append, List.length_cons, List.length_nil, List.length_replicate]
          omega
        · simp [kidsOk] at he
      by_cases c54 : k = 54
      · subst c54
        rw [isStmt_54] at he
        rcases l with _ | ⟨x, _ | ⟨y, _ | ⟨z, _ | ⟨v4, l⟩⟩⟩⟩
        · simp [kidsOk] at he
        · simp [kidsOk] at he
        · simp [kidsOk] at he
        · simp only [kidsOk, Bool.and_eq_true, Bool.and_true, and_true] at he
          simp only [rowSize, rowWf] at hN hrw hd ⊢
          have zx := x.size_pos
          have lx := textLen x hrw.1 (he.2.1)
          have zy := y.size_pos
          have ly := ih.2 y (d + 1) (by omega) hrw.2.1 (he.2.2.1) (by omega)
          have zz := z.size_pos
          have lz := textLen z hrw.2.2.1 (he.2.2.2)
          simp only [named, Bool.and_eq_true] at he
          have hnl := isName_len he.1.2
          rw [Nd.stmtT.eq_def]
          simp only [tabT]
          simp [-List.length_append]
          simp only [List.length_append, List.length_cons, List.length_nil, List.length_replicate]
          omega
        · simp [kidsOk] at he
      by_cases c55 : k = 55
      · subst c55
        rw [isStmt_55] at he
        rcases l with _ | ⟨x, _ | ⟨v4, l⟩⟩
        · simp [kidsOk] at he
        · simp only [kidsOk, Bool.and_eq_true, Bool.and_true, and_true] at he
          simp only [rowSize, rowWf] at hN hrw hd ⊢
          have zx := x.size_pos
          have lx := ih.2 x (d + 1) (by omega) hrw.1 (he.2) (by omega)
          simp only [named, Bool.and_eq_true] at he
          have hnl := isName_len he.1.2
          rw [Nd.stmtT.eq_def]
          simp only [tabT]
          simp [-List.length_append]
          simp only [List.length_append, List.length_cons, List.length_nil, List.length_replicate]
          omega
        · simp [kidsOk] at he
      by_cases c56 : k = 56
      · subst c56
        rw [isStmt_56] at he
        rcases l with _ | ⟨x, _ | ⟨y, _ | ⟨v4, l⟩⟩⟩
        · simp [kidsOk] at he
        · simp [kidsOk] at he
        · simp only [kidsOk, Bool.and_eq_true, Bool.and_true, and_true] at he
          simp only [rowSize, rowWf] at hN hrw hd ⊢
          have zx := x.size_pos
          have lx := textLen x hrw.1 (isPlace_expr (he.2.1))
          have zy := y.size_pos
          have ly := textLen y hrw.2.1 (he.2.2)
          rw [Nd.stmtT.eq_def]
          simp only [tabT]
          simp [-List.length_append]
          simp only [List.length_append, List.length_cons, List.length_nil, List.length_replicate]
          omega
        · simp [kidsOk] at he
      omega
    · rintro ⟨k, n, s, l⟩ d hN hwf he hd
      simp only [Nd.wf, Nd.size] at hwf hN hd ⊢
      obtain ⟨hk0, hk1, hn0, hn1, hsl, hll, hrw⟩ := hwf
      simp only [Nd.isBlock, Bool.and_eq_true, rowStmt_all, List.all_eq_true] at he
      have := rowLines_len d l (fun x hx => ih.1 x d (by have := size_mem hx; omega) (rowWf_get hrw x hx) (he.2 x hx) (by have := size_mem hx; omega))
      simp only [Nd.linesT]
      omega
theorem linesLen (t : Nd) (d : Nat) (hwf : t.wf) (h : t.isBlock = true) (hd : d + t.size ≤ 1000000) : (t.linesT d).length + 4000100 ≤ 4000100 * t.size := (stmt_len (t.size + 1)).2 t d (by omega) hwf h hd
theorem Block_c (t : Nd) (hwf : t.wf) (hsz : t.size ≤ 1000000) (S : Nat → Prop) (a : Option Addr) (c : Nat) (w : World) (ht : Tabs w) (hg : Tryd.prog.globals.size ≤ w.heap.size) (hs : t.sits S w a) :
    Calls Tryd.prog 11 #[t.val a c] w fun e w' => e = .returned (.tuple #[str (if t.isBlock then t.linesT 0 else []), .int .i64 (if t.isBlock then 0 else 3)]) ∧ Ext w w' := by
  have HE := Lib.hid (IsBlock_t S t hwf)
  cases he : t.isBlock
  · have HT := Lib.hid he; clear he
    obtain ⟨k, n, s, l⟩ := t
    simp only [Nd.kind, Nd.num, Nd.name, Nd.kids, Nd.val]
    go_enter Tryd.func11, Tryd.ntmps11
    go_wp2_with (go_at_call 12; refine (HE.out a c _ (hs.ext (by repeat (first | exact Ext.refl _ | assumption | refine Ext.alloc ?_ _ | refine Ext.drew ?_ | refine Ext.trans ?_ (by assumption))))).mono ?_; rintro e w1 ⟨rfl, hx1⟩; rw [HT.out])
    go_ret2
    exact ⟨rfl, (by repeat (first | exact Ext.refl _ | assumption | refine Ext.alloc ?_ _ | refine Ext.drew ?_ | refine Ext.trans ?_ (by assumption)))⟩
  · have hp := block_t t hwf he
    have hl := linesLen t 0 hwf he (by omega)
    have HP := Lib.hid hp; clear hp
    have HT := Lib.hid he; clear he
    obtain ⟨k, n, s, l⟩ := t
    have HS := Lib.hid (sits_lt _ _ hs)
    have hle : ((Nd.mk k n s l).linesT 0).length ≤ 130000000000000 := by omega
    clear hl hwf
    simp only [Nd.kind, Nd.num, Nd.name, Nd.kids, Nd.val]
    go_enter Tryd.func11, Tryd.ntmps11
    go_wp2_with fail
    refine (HE.out a c _ (hs.ext ((Ext.refl _).alloc _))).mono ?_
    rintro e w1 ⟨rfl, hx1⟩
    have hc1 := hx1.cells
    have hz1 : w.heap.size < w1.heap.size := by
      have := hx1.size
      simp at this
      omega
    rw [HT.out]
    simp only
    go_wp2_with fail
    have hxx1 : Ext w w1 := (by repeat (first | exact Ext.refl _ | assumption | refine Ext.alloc ?_ _ | refine Ext.drew ?_ | refine Ext.trans ?_ (by assumption)))
    have hlew : w.heap.size ≤ w1.heap.size := hxx1.size
    have hx2 : Ext w (w1.alloc (.cells #[.pointer none, .slice none 0 0] 50)) := (by repeat (first | exact Ext.refl _ | assumption | refine Ext.alloc ?_ _ | refine Ext.drew ?_ | refine Ext.trans ?_ (by assumption)))
    refine (HP.out w.heap.size w1.heap.size [] _ a c 0 (Bld.new w1 w.heap.size hlew) (ht.ext hx2 hg) hg (HS.out.ext hx2) (by omega) (by simp; omega)).mono ?_
    rintro e w3 ⟨rfl, hb3, hx3⟩
    simp only
    go_wp2_with fail
    refine (String_any 50 w.heap.size w1.heap.size _ _ hb3.is hb3.le).mono ?_
    rintro e w4 ⟨rfl, hb4, hx4⟩
    simp only
    go_wp2_with fail
    go_ret2
    exact ⟨by simp, Below.trans hx2 (Below.trans hx3.below hx4.below)⟩
end Bk
