/- Contracts of the reference's Stmt and Lines (layer 5). (Printed by wip/mkrefstmt.py.) -/
import Derived.Test.YtkadkafapjhhkaaDoorTab
import Derived.Test.YtkadkafapjhhkaaDoorLawExprs
import Derived.Test.YtkadkafapjhhkaaDoorRefS0
import Derived.IntWalk
namespace Bk
open Go Go.RowKit Go.Proofs
/-- The cells of a node. -/
abbrev Nd.cells (t : Nd) (a : Option Addr) (c : Nat) : List Value := [.int .u8 t.kind, .int .i64 t.num, str t.name, .slice a t.kids.length c]
theorem row_of_cells {w : World} {b o : Nat} {v0 v1 v2 v3 : Value} (h0 : w.cell? ⟨b, o, none⟩ = some v0) (h1 : w.cell? ⟨b, o + 1, none⟩ = some v1) (h2 : w.cell? ⟨b, o + 2, none⟩ = some v2) (h3 : w.cell? ⟨b, o + 3, none⟩ = some v3) : Row w ⟨b, o, none⟩ [v0, v1, v2, v3] := fun i v hi => by
  rcases i with _ | _ | _ | _ | i <;> simp at hi <;> (subst hi; simpa [Addr.add])
theorem kidRows {S : Nat → Prop} {w : World} {l : List Nd} {a : Option Addr} (h : rowSits S w l a) (hl : l ≠ []) : ∃ b o, a = some ⟨b, o, none⟩ ∧ S b ∧ ∀ i t, l[i]? = some t → ∃ a' c, Row w ⟨b, o + i * 4, none⟩ (t.cells a' c) ∧ t.sits S w a' := by
  cases l with
  | nil => exact absurd rfl hl
  | cons x r =>
    obtain ⟨b, o, a', c, rfl, hS, -⟩ := rowSits_get h (i := 0) (t := x) rfl
    refine ⟨b, o, rfl, hS, fun i t ht => ?_⟩
    obtain ⟨b', o', a', c, he, -, h0, h1, h2, h3, hs⟩ := rowSits_get h ht
    simp only [Option.some.injEq, Addr.mk.injEq] at he
    obtain ⟨rfl, rfl, -⟩ := he
    exact ⟨a', c, row_of_cells h0 h1 h2 h3, hs⟩
/-- The reference's Stmt on t. -/
def TD (S : Nat → Prop) (t : Nd) : Prop := ∀ (a : Option Addr) (c d : Nat) (w : World), d + t.size ≤ 1000000 → (t.stmtT d).length ≤ 1000000000000000 → t.sits S w a →
  Calls Tryd.prog 35 #[t.val a c, .int .i64 d] w fun e w' => e = .returned (str (tabT d ++ t.stmtT d ++ [59, 10])) ∧ Ext w w'
/-- The reference's Lines on t. -/
def LD (S : Nat → Prop) (t : Nd) : Prop := ∀ (a : Option Addr) (c d : Nat) (w : World), d + t.size ≤ 1000000 → (t.linesT d).length ≤ 1000000000000000 → t.sits S w a →
  Calls Tryd.prog 13 #[t.val a c, .int .i64 d] w fun e w' => e = .returned (str (t.linesT d)) ∧ Ext w w'
set_option maxRecDepth 100000 in
set_option maxHeartbeats 1000000 in
theorem rs_40 (S : Nat → Prop) (n : Int) (s : List UInt8) (x y : Nd) (hx : Tells S 10 Nd.text x) (hy : Tells S 10 Nd.text y) : TD S (.mk 40 n s [x, y]) := by
  intro a c d w hd hlen hs
  rw [show (Nd.stmtT (.mk 40 n s [x, y]) d) = _ from by rw [Nd.stmtT.eq_def]] at hlen ⊢
  simp only [reduceIte, Int.reduceEq, or_false, Int.reduceLE, and_true] at hlen ⊢
  simp only [List.length_append, List.length_cons, List.length_nil] at hlen
  simp only [Nd.val, Nd.kind, Nd.num, Nd.name, Nd.kids, List.length_cons, List.length_nil]
  simp only [Nd.sits] at hs
  simp only [Nd.size, rowSize] at hd
  obtain ⟨kb, ko, rfl, -, hkid⟩ := kidRows hs (by simp)
  obtain ⟨xa, xc, rx, sx⟩ := hkid 0 x rfl
  obtain ⟨ya, yc, ry, sy⟩ := hkid 1 y rfl
  clear hkid hs
  have htl : (tabT d).length = d := tabT_len d
  have hsl := symbol_len 40
  refine calls_in Tryd.func35 Tryd.ntmps35 rfl rfl ?_
  (refine cw_seq ?_; refine cw_region ?_)
  refine lw_does (does_box rfl rfl) rfl ?_ (fun _ h => h)
  rintro _ w1 ⟨b1, rfl, hn1⟩
  have h1 := hn1.blk
  have x1 := hn1.ext
  ((refine lw_is ?_; refine lw_pure (by exact pur_assign rfl) rfl ?_); refine lw_nil ?_; refine qw_then ?_; refine cw_seq ?_; refine cw_region ?_; (refine lw_is ?_; refine lw_pure (by exact pur_move rfl) rfl ?_))
  refine lw_does (does_call (by kernel_rfl) rfl (rtabs_c _ _ (by omega)) (fun _ _ h => ⟨_, h.1⟩)) rfl ?_ (fun _ h => h)
  rintro _ _ ⟨⟨⟩, rfl⟩
  ((refine lw_is ?_; refine lw_pure (by exact pur_assign rfl) rfl ?_); refine lw_nil ?_; refine qw_then ?_; refine cw_seq ?_; refine cw_seq ?_; refine cw_region ?_; (refine lw_is ?_; refine lw_pure (by exact pur_fieldAddr0 tabOk rfl rfl rfl) rfl ?_); (refine lw_is ?_; refine lw_pure (by exact pur_load tabOk rfl rfl rfl (by exact fun wz hz => by (try subst hz); exact (Blk.cell (by assumption) (by rfl)))) rfl ?_); refine lw_nil ?_; refine qw_then ?_; refine cw_block ?_; refine cw_seq ?_; refine cw_seq ?_; refine cw_region ?_; (refine lw_is ?_; refine lw_pure (by exact pur_eql rfl rfl) rfl ?_); (refine lw_is ?_; refine lw_pure (by exact pur_assign rfl) rfl ?_); refine lw_nil ?_; refine qw_then ?_; (refine cw_is ?_; refine cw_yes rfl (by omega) ?_); refine cw_skip ?_; refine qw_then ?_; (refine cw_is ?_; refine cw_yes rfl (by omega) ?_); refine cw_seq ?_)
  refine cw_draw (fun w' => Ext w1 w') (.pure 0 (.pure 1 (.pure 2 (.pure 3 (.pure 4 (.pure 8 (.pure 9 (.pure 13 (.pure 14 (.pure 15 (.pure 16 (.fork 5 (.pure 6 (.pure 7 (.fork 10 (.pure 11 (.pure 12 (.fork 17 (.pure 18 (.pure 19 (.pure 20 .done))) .none))) .none))) .none)))))))))))) mixed (by kernel_rfl) (by refine panicOk_then ?_; refine panicOk_block ?_; refine panicOk_then ?_; exact panicOk_body) ?_
  intro w2 x2 _
  refine ⟨x2, ?_⟩
  (refine dw_pure rfl (by exact pur_move rfl) rfl ?_; refine dw_pure rfl (by exact pur_fieldAddr tabOk rfl rfl rfl) rfl ?_; refine dw_pure rfl (by exact pur_load tabOk rfl rfl rfl (by exact fun wz hz => by (try subst hz); exact (Ext.keep (by assumption) (Blk.cell (by assumption) (by rfl))))) rfl ?_; refine dw_pure rfl (by exact pur_indexAddr tabOk rfl rfl rfl rfl (by omega) (by omega)) rfl ?_; refine dw_pure rfl (by exact pur_loads' tabOk rfl rfl rfl (by exact fun wz hz => by (try subst hz); exact (Row.ext (Row.ext (by assumption) (by assumption)) (by assumption))) (by rfl)) rfl ?_; refine dw_pure rfl (by exact pur_fieldAddr0 tabOk rfl rfl rfl) rfl ?_; refine dw_pure rfl (by exact pur_load tabOk rfl rfl rfl (by exact fun wz hz => by (try subst hz); exact (Ext.keep (by assumption) (Blk.cell (by assumption) (by rfl))))) rfl ?_; refine dw_pure rfl (by exact pur_fieldAddr tabOk rfl rfl rfl) rfl ?_; refine dw_pure rfl (by exact pur_load tabOk rfl rfl rfl (by exact fun wz hz => by (try subst hz); exact (Ext.keep (by assumption) (Blk.cell (by assumption) (by rfl))))) rfl ?_; refine dw_pure rfl (by exact pur_indexAddr tabOk rfl rfl rfl rfl (by omega) (by omega)) rfl ?_; refine dw_pure rfl (by exact pur_loads' tabOk rfl rfl rfl (by exact fun wz hz => by (try subst hz); exact (Row.ext (Row.ext (by assumption) (by assumption)) (by assumption))) (by rfl)) rfl ?_)
  refine dw_does rfl (does_call (by kernel_rfl) rfl (hx _ _ _ (sx.ext (by refine Ext.trans ?_ (by assumption); assumption))) (fun _ _ h => ⟨_, h.1⟩)) rfl ?_ (fun _ h => h) dw_none
  rintro _ w3 ⟨⟨⟩, x3⟩
  refine ⟨(by refine Ext.trans ?_ (by assumption); assumption), ?_⟩
  (refine dw_pure rfl (by exact pur_sadd rfl rfl (by omega)) rfl ?_; refine dw_pure rfl (by exact pur_sadd rfl rfl (by (simp only [List.length_append, List.length_cons, List.length_nil]; omega))) rfl ?_)
  refine dw_does rfl (does_call (by kernel_rfl) rfl (ref_Symbol_c _ _ (by omega) (by omega)) (fun _ _ h => ⟨_, h.1⟩)) rfl ?_ (fun _ h => h) dw_none
  rintro _ _ ⟨⟨⟩, rfl⟩
  refine ⟨(by refine Ext.trans ?_ (by assumption); assumption), ?_⟩
  (refine dw_pure rfl (by exact pur_sadd rfl rfl (by (simp only [List.length_append, List.length_cons, List.length_nil]; omega))) rfl ?_; refine dw_pure rfl (by exact pur_sadd rfl rfl (by (simp only [List.length_append, List.length_cons, List.length_nil]; omega))) rfl ?_)
  refine dw_does rfl (does_call (by kernel_rfl) rfl (hy _ _ _ (sy.ext (by refine Ext.trans ?_ (by assumption); refine Ext.trans ?_ (by assumption); assumption))) (fun _ _ h => ⟨_, h.1⟩)) rfl ?_ (fun _ h => h) dw_none
  rintro _ w4 ⟨⟨⟩, x4⟩
  refine ⟨(by refine Ext.trans ?_ (by assumption); refine Ext.trans ?_ (by assumption); assumption), ?_⟩
  (refine dw_pure rfl (by exact pur_sadd rfl rfl (by (simp only [List.length_append, List.length_cons, List.length_nil]; omega))) rfl ?_; refine dw_pure rfl (by exact pur_sadd rfl rfl (by (simp only [List.length_append, List.length_cons, List.length_nil]; omega))) rfl ?_; refine dw_pure rfl (by exact pur_assign rfl) rfl ?_; refine dw_done ?_)
  (refine qw_then ?_; refine cw_ret ?_; refine qw_block_ret ?_; refine qw_then_ret ?_)
  exact qw_ret1 Tryd.results35 rfl ⟨ret_str (by simp [updSign, List.append_assoc]), (by refine Ext.trans ?_ (by assumption); refine Ext.trans ?_ (by assumption); refine Ext.trans ?_ (by assumption); assumption)⟩
set_option maxRecDepth 100000 in
set_option maxHeartbeats 1000000 in
theorem rs_41 (S : Nat → Prop) (n : Int) (s : List UInt8) (x y : Nd) (hx : Tells S 10 Nd.text x) (hy : Tells S 10 Nd.text y) : TD S (.mk 41 n s [x, y]) := by
  intro a c d w hd hlen hs
  rw [show (Nd.stmtT (.mk 41 n s [x, y]) d) = _ from by rw [Nd.stmtT.eq_def]] at hlen ⊢
  simp only [reduceIte, Int.reduceEq, or_false, or_true, Int.reduceLE, and_true] at hlen ⊢
  simp only [List.length_append, List.length_cons, List.length_nil] at hlen
  simp only [Nd.val, Nd.kind, Nd.num, Nd.name, Nd.kids, List.length_cons, List.length_nil]
  simp only [Nd.sits] at hs
  simp only [Nd.size, rowSize] at hd
  obtain ⟨kb, ko, rfl, -, hkid⟩ := kidRows hs (by simp)
  obtain ⟨xa, xc, rx, sx⟩ := hkid 0 x rfl
  obtain ⟨ya, yc, ry, sy⟩ := hkid 1 y rfl
  clear hkid hs
  have htl : (tabT d).length = d := tabT_len d
  have hsl := symbol_len 41
  refine calls_in Tryd.func35 Tryd.ntmps35 rfl rfl ?_
  (refine cw_seq ?_; refine cw_region ?_)
  refine lw_does (does_box rfl rfl) rfl ?_ (fun _ h => h)
  rintro _ w1 ⟨b1, rfl, hn1⟩
  have h1 := hn1.blk
  have x1 := hn1.ext
  ((refine lw_is ?_; refine lw_pure (by exact pur_assign rfl) rfl ?_); refine lw_nil ?_; refine qw_then ?_; refine cw_seq ?_; refine cw_region ?_; (refine lw_is ?_; refine lw_pure (by exact pur_move rfl) rfl ?_))
  refine lw_does (does_call (by kernel_rfl) rfl (rtabs_c _ _ (by omega)) (fun _ _ h => ⟨_, h.1⟩)) rfl ?_ (fun _ h => h)
  rintro _ _ ⟨⟨⟩, rfl⟩
  ((refine lw_is ?_; refine lw_pure (by exact pur_assign rfl) rfl ?_); refine lw_nil ?_; refine qw_then ?_; refine cw_seq ?_; refine cw_seq ?_; refine cw_region ?_; (refine lw_is ?_; refine lw_pure (by exact pur_fieldAddr0 tabOk rfl rfl rfl) rfl ?_); (refine lw_is ?_; refine lw_pure (by exact pur_load tabOk rfl rfl rfl (by exact fun wz hz => by (try subst hz); exact (Blk.cell (by assumption) (by rfl)))) rfl ?_); refine lw_nil ?_; refine qw_then ?_; refine cw_block ?_; refine cw_seq ?_; refine cw_seq ?_; refine cw_region ?_; (refine lw_is ?_; refine lw_pure (by exact pur_eql rfl rfl) rfl ?_); (refine lw_is ?_; refine lw_pure (by exact pur_assign rfl) rfl ?_); refine lw_nil ?_; refine qw_then ?_; (refine cw_is ?_; refine cw_no rfl (by omega) ?_); refine cw_seq ?_; refine cw_region ?_; (refine lw_is ?_; refine lw_pure (by exact pur_eql rfl rfl) rfl ?_); (refine lw_is ?_; refine lw_pure (by exact pur_assign rfl) rfl ?_); refine lw_nil ?_; refine qw_then ?_; (refine cw_is ?_; refine cw_yes rfl (by omega) ?_); refine cw_skip ?_; refine qw_then ?_; (refine cw_is ?_; refine cw_yes rfl (by omega) ?_); refine cw_seq ?_)
  refine cw_draw (fun w' => Ext w1 w') (.pure 0 (.pure 1 (.pure 2 (.pure 3 (.pure 4 (.pure 8 (.pure 9 (.pure 13 (.pure 14 (.pure 15 (.pure 16 (.fork 5 (.pure 6 (.pure 7 (.fork 10 (.pure 11 (.pure 12 (.fork 17 (.pure 18 (.pure 19 (.pure 20 .done))) .none))) .none))) .none)))))))))))) mixed (by kernel_rfl) (by refine panicOk_then ?_; refine panicOk_block ?_; refine panicOk_then ?_; exact panicOk_body) ?_
  intro w2 x2 _
  refine ⟨x2, ?_⟩
  (refine dw_pure rfl (by exact pur_move rfl) rfl ?_; refine dw_pure rfl (by exact pur_fieldAddr tabOk rfl rfl rfl) rfl ?_; refine dw_pure rfl (by exact pur_load tabOk rfl rfl rfl (by exact fun wz hz => by (try subst hz); exact (Ext.keep (by assumption) (Blk.cell (by assumption) (by rfl))))) rfl ?_; refine dw_pure rfl (by exact pur_indexAddr tabOk rfl rfl rfl rfl (by omega) (by omega)) rfl ?_; refine dw_pure rfl (by exact pur_loads' tabOk rfl rfl rfl (by exact fun wz hz => by (try subst hz); exact (Row.ext (Row.ext (by assumption) (by assumption)) (by assumption))) (by rfl)) rfl ?_; refine dw_pure rfl (by exact pur_fieldAddr0 tabOk rfl rfl rfl) rfl ?_; refine dw_pure rfl (by exact pur_load tabOk rfl rfl rfl (by exact fun wz hz => by (try subst hz); exact (Ext.keep (by assumption) (Blk.cell (by assumption) (by rfl))))) rfl ?_; refine dw_pure rfl (by exact pur_fieldAddr tabOk rfl rfl rfl) rfl ?_; refine dw_pure rfl (by exact pur_load tabOk rfl rfl rfl (by exact fun wz hz => by (try subst hz); exact (Ext.keep (by assumption) (Blk.cell (by assumption) (by rfl))))) rfl ?_; refine dw_pure rfl (by exact pur_indexAddr tabOk rfl rfl rfl rfl (by omega) (by omega)) rfl ?_; refine dw_pure rfl (by exact pur_loads' tabOk rfl rfl rfl (by exact fun wz hz => by (try subst hz); exact (Row.ext (Row.ext (by assumption) (by assumption)) (by assumption))) (by rfl)) rfl ?_)
  refine dw_does rfl (does_call (by kernel_rfl) rfl (hx _ _ _ (sx.ext (by refine Ext.trans ?_ (by assumption); assumption))) (fun _ _ h => ⟨_, h.1⟩)) rfl ?_ (fun _ h => h) dw_none
  rintro _ w3 ⟨⟨⟩, x3⟩
  refine ⟨(by refine Ext.trans ?_ (by assumption); assumption), ?_⟩
  (refine dw_pure rfl (by exact pur_sadd rfl rfl (by omega)) rfl ?_; refine dw_pure rfl (by exact pur_sadd rfl rfl (by (simp only [List.length_append, List.length_cons, List.length_nil]; omega))) rfl ?_)
  refine dw_does rfl (does_call (by kernel_rfl) rfl (ref_Symbol_c _ _ (by omega) (by omega)) (fun _ _ h => ⟨_, h.1⟩)) rfl ?_ (fun _ h => h) dw_none
  rintro _ _ ⟨⟨⟩, rfl⟩
  refine ⟨(by refine Ext.trans ?_ (by assumption); assumption), ?_⟩
  (refine dw_pure rfl (by exact pur_sadd rfl rfl (by (simp only [List.length_append, List.length_cons, List.length_nil]; omega))) rfl ?_; refine dw_pure rfl (by exact pur_sadd rfl rfl (by (simp only [List.length_append, List.length_cons, List.length_nil]; omega))) rfl ?_)
  refine dw_does rfl (does_call (by kernel_rfl) rfl (hy _ _ _ (sy.ext (by refine Ext.trans ?_ (by assumption); refine Ext.trans ?_ (by assumption); assumption))) (fun _ _ h => ⟨_, h.1⟩)) rfl ?_ (fun _ h => h) dw_none
  rintro _ w4 ⟨⟨⟩, x4⟩
  refine ⟨(by refine Ext.trans ?_ (by assumption); refine Ext.trans ?_ (by assumption); assumption), ?_⟩
  (refine dw_pure rfl (by exact pur_sadd rfl rfl (by (simp only [List.length_append, List.length_cons, List.length_nil]; omega))) rfl ?_; refine dw_pure rfl (by exact pur_sadd rfl rfl (by (simp only [List.length_append, List.length_cons, List.length_nil]; omega))) rfl ?_; refine dw_pure rfl (by exact pur_assign rfl) rfl ?_; refine dw_done ?_)
  (refine qw_then ?_; refine cw_ret ?_; refine qw_block_ret ?_; refine qw_then_ret ?_)
  exact qw_ret1 Tryd.results35 rfl ⟨ret_str (by simp [updSign, List.append_assoc]), (by refine Ext.trans ?_ (by assumption); refine Ext.trans ?_ (by assumption); refine Ext.trans ?_ (by assumption); assumption)⟩
set_option maxRecDepth 100000 in
set_option maxHeartbeats 1000000 in
theorem rs_42 (S : Nat → Prop) (n : Int) (s : List UInt8) (x y : Nd) (hx : Tells S 10 Nd.text x) (hy : Tells S 10 Nd.text y) : TD S (.mk 42 n s [x, y]) := by
  intro a c d w hd hlen hs
  rw [show (Nd.stmtT (.mk 42 n s [x, y]) d) = _ from by rw [Nd.stmtT.eq_def]] at hlen ⊢
  simp only [reduceIte, Int.reduceEq, or_false, or_true, Int.reduceLE, and_true] at hlen ⊢
  simp only [List.length_append, List.length_cons, List.length_nil] at hlen
  simp only [Nd.val, Nd.kind, Nd.num, Nd.name, Nd.kids, List.length_cons, List.length_nil]
  simp only [Nd.sits] at hs
  simp only [Nd.size, rowSize] at hd
  obtain ⟨kb, ko, rfl, -, hkid⟩ := kidRows hs (by simp)
  obtain ⟨xa, xc, rx, sx⟩ := hkid 0 x rfl
  obtain ⟨ya, yc, ry, sy⟩ := hkid 1 y rfl
  clear hkid hs
  have htl : (tabT d).length = d := tabT_len d
  have hsl := symbol_len 42
  refine calls_in Tryd.func35 Tryd.ntmps35 rfl rfl ?_
  (refine cw_seq ?_; refine cw_region ?_)
  refine lw_does (does_box rfl rfl) rfl ?_ (fun _ h => h)
  rintro _ w1 ⟨b1, rfl, hn1⟩
  have h1 := hn1.blk
  have x1 := hn1.ext
  ((refine lw_is ?_; refine lw_pure (by exact pur_assign rfl) rfl ?_); refine lw_nil ?_; refine qw_then ?_; refine cw_seq ?_; refine cw_region ?_; (refine lw_is ?_; refine lw_pure (by exact pur_move rfl) rfl ?_))
  refine lw_does (does_call (by kernel_rfl) rfl (rtabs_c _ _ (by omega)) (fun _ _ h => ⟨_, h.1⟩)) rfl ?_ (fun _ h => h)
  rintro _ _ ⟨⟨⟩, rfl⟩
  ((refine lw_is ?_; refine lw_pure (by exact pur_assign rfl) rfl ?_); refine lw_nil ?_; refine qw_then ?_; refine cw_seq ?_; refine cw_seq ?_; refine cw_region ?_; (refine lw_is ?_; refine lw_pure (by exact pur_fieldAddr0 tabOk rfl rfl rfl) rfl ?_); (refine lw_is ?_; refine lw_pure (by exact pur_load tabOk rfl rfl rfl (by exact fun wz hz => by (try subst hz); exact (Blk.cell (by assumption) (by rfl)))) rfl ?_); refine lw_nil ?_; refine qw_then ?_; refine cw_block ?_; refine cw_seq ?_; refine cw_seq ?_; refine cw_region ?_; (refine lw_is ?_; refine lw_pure (by exact pur_eql rfl rfl) rfl ?_); (refine lw_is ?_; refine lw_pure (by exact pur_assign rfl) rfl ?_); refine lw_nil ?_; refine qw_then ?_; (refine cw_is ?_; refine cw_no rfl (by omega) ?_); refine cw_seq ?_; refine cw_region ?_; (refine lw_is ?_; refine lw_pure (by exact pur_eql rfl rfl) rfl ?_); (refine lw_is ?_; refine lw_pure (by exact pur_assign rfl) rfl ?_); refine lw_nil ?_; refine qw_then ?_; (refine cw_is ?_; refine cw_no rfl (by omega) ?_); refine cw_region ?_; (refine lw_is ?_; refine lw_pure (by exact pur_eql rfl rfl) rfl ?_); (refine lw_is ?_; refine lw_pure (by exact pur_assign rfl) rfl ?_); refine lw_nil ?_; refine qw_then ?_; (refine cw_is ?_; refine cw_yes rfl (by omega) ?_); refine cw_seq ?_)
  refine cw_draw (fun w' => Ext w1 w') (.pure 0 (.pure 1 (.pure 2 (.pure 3 (.pure 4 (.pure 8 (.pure 9 (.pure 13 (.pure 14 (.pure 15 (.pure 16 (.fork 5 (.pure 6 (.pure 7 (.fork 10 (.pure 11 (.pure 12 (.fork 17 (.pure 18 (.pure 19 (.pure 20 .done))) .none))) .none))) .none)))))))))))) mixed (by kernel_rfl) (by refine panicOk_then ?_; refine panicOk_block ?_; refine panicOk_then ?_; exact panicOk_body) ?_
  intro w2 x2 _
  refine ⟨x2, ?_⟩
  (refine dw_pure rfl (by exact pur_move rfl) rfl ?_; refine dw_pure rfl (by exact pur_fieldAddr tabOk rfl rfl rfl) rfl ?_; refine dw_pure rfl (by exact pur_load tabOk rfl rfl rfl (by exact fun wz hz => by (try subst hz); exact (Ext.keep (by assumption) (Blk.cell (by assumption) (by rfl))))) rfl ?_; refine dw_pure rfl (by exact pur_indexAddr tabOk rfl rfl rfl rfl (by omega) (by omega)) rfl ?_; refine dw_pure rfl (by exact pur_loads' tabOk rfl rfl rfl (by exact fun wz hz => by (try subst hz); exact (Row.ext (Row.ext (by assumption) (by assumption)) (by assumption))) (by rfl)) rfl ?_; refine dw_pure rfl (by exact pur_fieldAddr0 tabOk rfl rfl rfl) rfl ?_; refine dw_pure rfl (by exact pur_load tabOk rfl rfl rfl (by exact fun wz hz => by (try subst hz); exact (Ext.keep (by assumption) (Blk.cell (by assumption) (by rfl))))) rfl ?_; refine dw_pure rfl (by exact pur_fieldAddr tabOk rfl rfl rfl) rfl ?_; refine dw_pure rfl (by exact pur_load tabOk rfl rfl rfl (by exact fun wz hz => by (try subst hz); exact (Ext.keep (by assumption) (Blk.cell (by assumption) (by rfl))))) rfl ?_; refine dw_pure rfl (by exact pur_indexAddr tabOk rfl rfl rfl rfl (by omega) (by omega)) rfl ?_; refine dw_pure rfl (by exact pur_loads' tabOk rfl rfl rfl (by exact fun wz hz => by (try subst hz); exact (Row.ext (Row.ext (by assumption) (by assumption)) (by assumption))) (by rfl)) rfl ?_)
  refine dw_does rfl (does_call (by kernel_rfl) rfl (hx _ _ _ (sx.ext (by refine Ext.trans ?_ (by assumption); assumption))) (fun _ _ h => ⟨_, h.1⟩)) rfl ?_ (fun _ h => h) dw_none
  rintro _ w3 ⟨⟨⟩, x3⟩
  refine ⟨(by refine Ext.trans ?_ (by assumption); assumption), ?_⟩
  (refine dw_pure rfl (by exact pur_sadd rfl rfl (by omega)) rfl ?_; refine dw_pure rfl (by exact pur_sadd rfl rfl (by (simp only [List.length_append, List.length_cons, List.length_nil]; omega))) rfl ?_)
  refine dw_does rfl (does_call (by kernel_rfl) rfl (ref_Symbol_c _ _ (by omega) (by omega)) (fun _ _ h => ⟨_, h.1⟩)) rfl ?_ (fun _ h => h) dw_none
  rintro _ _ ⟨⟨⟩, rfl⟩
  refine ⟨(by refine Ext.trans ?_ (by assumption); assumption), ?_⟩
  (refine dw_pure rfl (by exact pur_sadd rfl rfl (by (simp only [List.length_append, List.length_cons, List.length_nil]; omega))) rfl ?_; refine dw_pure rfl (by exact pur_sadd rfl rfl (by (simp only [List.length_append, List.length_cons, List.length_nil]; omega))) rfl ?_)
  refine dw_does rfl (does_call (by kernel_rfl) rfl (hy _ _ _ (sy.ext (by refine Ext.trans ?_ (by assumption); refine Ext.trans ?_ (by assumption); assumption))) (fun _ _ h => ⟨_, h.1⟩)) rfl ?_ (fun _ h => h) dw_none
  rintro _ w4 ⟨⟨⟩, x4⟩
  refine ⟨(by refine Ext.trans ?_ (by assumption); refine Ext.trans ?_ (by assumption); assumption), ?_⟩
  (refine dw_pure rfl (by exact pur_sadd rfl rfl (by (simp only [List.length_append, List.length_cons, List.length_nil]; omega))) rfl ?_; refine dw_pure rfl (by exact pur_sadd rfl rfl (by (simp only [List.length_append, List.length_cons, List.length_nil]; omega))) rfl ?_; refine dw_pure rfl (by exact pur_assign rfl) rfl ?_; refine dw_done ?_)
  (refine qw_then ?_; refine cw_ret ?_; refine qw_block_ret ?_; refine qw_then_ret ?_)
  exact qw_ret1 Tryd.results35 rfl ⟨ret_str (by simp [updSign, List.append_assoc]), (by refine Ext.trans ?_ (by assumption); refine Ext.trans ?_ (by assumption); refine Ext.trans ?_ (by assumption); assumption)⟩
set_option maxRecDepth 100000 in
set_option maxHeartbeats 1000000 in
theorem rs_56 (S : Nat → Prop) (n : Int) (s : List UInt8) (x y : Nd) (hx : Tells S 10 Nd.text x) (hy : Tells S 10 Nd.text y) : TD S (.mk 56 n s [x, y]) := by
  intro a c d w hd hlen hs
  rw [show (Nd.stmtT (.mk 56 n s [x, y]) d) = _ from by rw [Nd.stmtT.eq_def]] at hlen ⊢
  simp only [reduceIte, Int.reduceEq, or_false, or_true, Int.reduceLE, and_false] at hlen ⊢
  simp only [List.length_append, List.length_cons, List.length_nil] at hlen
  simp only [Nd.val, Nd.kind, Nd.num, Nd.name, Nd.kids, List.length_cons, List.length_nil]
  simp only [Nd.sits] at hs
  simp only [Nd.size, rowSize] at hd
  obtain ⟨kb, ko, rfl, -, hkid⟩ := kidRows hs (by simp)
  obtain ⟨xa, xc, rx, sx⟩ := hkid 0 x rfl
  obtain ⟨ya, yc, ry, sy⟩ := hkid 1 y rfl
  clear hkid hs
  have htl : (tabT d).length = d := tabT_len d
  refine calls_in Tryd.func35 Tryd.ntmps35 rfl rfl ?_
  (refine cw_seq ?_; refine cw_region ?_)
  refine lw_does (does_box rfl rfl) rfl ?_ (fun _ h => h)
  rintro _ w1 ⟨b1, rfl, hn1⟩
  have h1 := hn1.blk
  have x1 := hn1.ext
  ((refine lw_is ?_; refine lw_pure (by exact pur_assign rfl) rfl ?_); refine lw_nil ?_; refine qw_then ?_; refine cw_seq ?_; refine cw_region ?_; (refine lw_is ?_; refine lw_pure (by exact pur_move rfl) rfl ?_))
  refine lw_does (does_call (by kernel_rfl) rfl (rtabs_c _ _ (by omega)) (fun _ _ h => ⟨_, h.1⟩)) rfl ?_ (fun _ h => h)
  rintro _ _ ⟨⟨⟩, rfl⟩
  ((refine lw_is ?_; refine lw_pure (by exact pur_assign rfl) rfl ?_); refine lw_nil ?_; refine qw_then ?_; refine cw_seq ?_; refine cw_seq ?_; refine cw_region ?_; (refine lw_is ?_; refine lw_pure (by exact pur_fieldAddr0 tabOk rfl rfl rfl) rfl ?_); (refine lw_is ?_; refine lw_pure (by exact pur_load tabOk rfl rfl rfl (by exact fun wz hz => by (try subst hz); exact (Blk.cell (by assumption) (by rfl)))) rfl ?_); refine lw_nil ?_; refine qw_then ?_; refine cw_block ?_; refine cw_seq ?_; refine cw_seq ?_; refine cw_region ?_; (refine lw_is ?_; refine lw_pure (by exact pur_eql rfl rfl) rfl ?_); (refine lw_is ?_; refine lw_pure (by exact pur_assign rfl) rfl ?_); refine lw_nil ?_; refine qw_then ?_; (refine cw_is ?_; refine cw_no rfl (by omega) ?_); refine cw_seq ?_; refine cw_region ?_; (refine lw_is ?_; refine lw_pure (by exact pur_eql rfl rfl) rfl ?_); (refine lw_is ?_; refine lw_pure (by exact pur_assign rfl) rfl ?_); refine lw_nil ?_; refine qw_then ?_; (refine cw_is ?_; refine cw_no rfl (by omega) ?_); refine cw_region ?_; (refine lw_is ?_; refine lw_pure (by exact pur_eql rfl rfl) rfl ?_); (refine lw_is ?_; refine lw_pure (by exact pur_assign rfl) rfl ?_); refine lw_nil ?_; refine qw_then ?_; (refine cw_is ?_; refine cw_no rfl (by omega) ?_); refine cw_seq ?_; refine cw_region ?_; (refine lw_is ?_; refine lw_pure (by exact pur_eql rfl rfl) rfl ?_); (refine lw_is ?_; refine lw_pure (by exact pur_assign rfl) rfl ?_); refine lw_nil ?_; refine qw_then ?_; (refine cw_is ?_; refine cw_yes rfl (by omega) ?_); refine cw_seq ?_)
  refine cw_draw (fun w' => Ext w1 w') (.pure 0 (.pure 1 (.pure 2 (.pure 3 (.pure 4 (.pure 8 (.pure 9 (.pure 10 (.pure 11 (.fork 5 (.pure 6 (.pure 7 (.fork 12 (.pure 13 (.pure 14 (.pure 15 .done))) .none))) .none)))))))))) mixed (by kernel_rfl) (by refine panicOk_then ?_; refine panicOk_block ?_; refine panicOk_then ?_; exact panicOk_body) ?_
  intro w2 x2 _
  refine ⟨x2, ?_⟩
  (refine dw_pure rfl (by exact pur_move rfl) rfl ?_; refine dw_pure rfl (by exact pur_fieldAddr tabOk rfl rfl rfl) rfl ?_; refine dw_pure rfl (by exact pur_load tabOk rfl rfl rfl (by exact fun wz hz => by (try subst hz); exact (Ext.keep (by assumption) (Blk.cell (by assumption) (by rfl))))) rfl ?_; refine dw_pure rfl (by exact pur_indexAddr tabOk rfl rfl rfl rfl (by omega) (by omega)) rfl ?_; refine dw_pure rfl (by exact pur_loads' tabOk rfl rfl rfl (by exact fun wz hz => by (try subst hz); exact (Row.ext (Row.ext (by assumption) (by assumption)) (by assumption))) (by rfl)) rfl ?_; refine dw_pure rfl (by exact pur_fieldAddr tabOk rfl rfl rfl) rfl ?_; refine dw_pure rfl (by exact pur_load tabOk rfl rfl rfl (by exact fun wz hz => by (try subst hz); exact (Ext.keep (by assumption) (Blk.cell (by assumption) (by rfl))))) rfl ?_; refine dw_pure rfl (by exact pur_indexAddr tabOk rfl rfl rfl rfl (by omega) (by omega)) rfl ?_; refine dw_pure rfl (by exact pur_loads' tabOk rfl rfl rfl (by exact fun wz hz => by (try subst hz); exact (Row.ext (Row.ext (by assumption) (by assumption)) (by assumption))) (by rfl)) rfl ?_)
  refine dw_does rfl (does_call (by kernel_rfl) rfl (hx _ _ _ (sx.ext (by refine Ext.trans ?_ (by assumption); assumption))) (fun _ _ h => ⟨_, h.1⟩)) rfl ?_ (fun _ h => h) dw_none
  rintro _ w3 ⟨⟨⟩, x3⟩
  refine ⟨(by refine Ext.trans ?_ (by assumption); assumption), ?_⟩
  (refine dw_pure rfl (by exact pur_sadd rfl rfl (by omega)) rfl ?_; refine dw_pure rfl (by exact pur_sadd rfl rfl (by (simp only [List.length_append, List.length_cons, List.length_nil]; omega))) rfl ?_)
  refine dw_does rfl (does_call (by kernel_rfl) rfl (hy _ _ _ (sy.ext (by refine Ext.trans ?_ (by assumption); refine Ext.trans ?_ (by assumption); assumption))) (fun _ _ h => ⟨_, h.1⟩)) rfl ?_ (fun _ h => h) dw_none
  rintro _ w4 ⟨⟨⟩, x4⟩
  refine ⟨(by refine Ext.trans ?_ (by assumption); refine Ext.trans ?_ (by assumption); assumption), ?_⟩
  (refine dw_pure rfl (by exact pur_sadd rfl rfl (by (simp only [List.length_append, List.length_cons, List.length_nil]; omega))) rfl ?_; refine dw_pure rfl (by exact pur_sadd rfl rfl (by (simp only [List.length_append, List.length_cons, List.length_nil]; omega))) rfl ?_; refine dw_pure rfl (by exact pur_assign rfl) rfl ?_; refine dw_done ?_)
  (refine qw_then ?_; refine cw_ret ?_; refine qw_block_ret ?_; refine qw_then_ret ?_)
  exact qw_ret1 Tryd.results35 rfl ⟨ret_str (by simp [updSign, List.append_assoc]), (by refine Ext.trans ?_ (by assumption); refine Ext.trans ?_ (by assumption); refine Ext.trans ?_ (by assumption); assumption)⟩
set_option maxRecDepth 100000 in
set_option maxHeartbeats 1000000 in
theorem rs_43 (S : Nat → Prop) (n : Int) (s : List UInt8) (x y : Nd) (hx : Tells S 10 Nd.text x) (hy : Tells S 10 Nd.text y) : TD S (.mk 43 n s [x, y]) := by
  intro a c d w hd hlen hs
  rw [show (Nd.stmtT (.mk 43 n s [x, y]) d) = _ from by rw [Nd.stmtT.eq_def]] at hlen ⊢
  simp only [reduceIte, Int.reduceEq, or_false, or_true, Int.reduceLE, and_true] at hlen ⊢
  simp only [List.length_append, List.length_cons, List.length_nil] at hlen
  simp only [Nd.val, Nd.kind, Nd.num, Nd.name, Nd.kids, List.length_cons, List.length_nil]
  simp only [Nd.sits] at hs
  simp only [Nd.size, rowSize] at hd
  obtain ⟨kb, ko, rfl, -, hkid⟩ := kidRows hs (by simp)
  obtain ⟨xa, xc, rx, sx⟩ := hkid 0 x rfl
  obtain ⟨ya, yc, ry, sy⟩ := hkid 1 y rfl
  clear hkid hs
  have htl : (tabT d).length = d := tabT_len d
  refine calls_in Tryd.func35 Tryd.ntmps35 rfl rfl ?_
  (refine cw_seq ?_; refine cw_region ?_)
  refine lw_does (does_box rfl rfl) rfl ?_ (fun _ h => h)
  rintro _ w1 ⟨b1, rfl, hn1⟩
  have h1 := hn1.blk
  have x1 := hn1.ext
  ((refine lw_is ?_; refine lw_pure (by exact pur_assign rfl) rfl ?_); refine lw_nil ?_; refine qw_then ?_; refine cw_seq ?_; refine cw_region ?_; (refine lw_is ?_; refine lw_pure (by exact pur_move rfl) rfl ?_))
  refine lw_does (does_call (by kernel_rfl) rfl (rtabs_c _ _ (by omega)) (fun _ _ h => ⟨_, h.1⟩)) rfl ?_ (fun _ h => h)
  rintro _ _ ⟨⟨⟩, rfl⟩
  ((refine lw_is ?_; refine lw_pure (by exact pur_assign rfl) rfl ?_); refine lw_nil ?_; refine qw_then ?_; refine cw_seq ?_; refine cw_seq ?_; refine cw_region ?_; (refine lw_is ?_; refine lw_pure (by exact pur_fieldAddr0 tabOk rfl rfl rfl) rfl ?_); (refine lw_is ?_; refine lw_pure (by exact pur_load tabOk rfl rfl rfl (by exact fun wz hz => by (try subst hz); exact (Blk.cell (by assumption) (by rfl)))) rfl ?_); refine lw_nil ?_; refine qw_then ?_; refine cw_block ?_; refine cw_seq ?_; refine cw_seq ?_; refine cw_region ?_; (refine lw_is ?_; refine lw_pure (by exact pur_eql rfl rfl) rfl ?_); (refine lw_is ?_; refine lw_pure (by exact pur_assign rfl) rfl ?_); refine lw_nil ?_; refine qw_then ?_; (refine cw_is ?_; refine cw_no rfl (by omega) ?_); refine cw_seq ?_; refine cw_region ?_; (refine lw_is ?_; refine lw_pure (by exact pur_eql rfl rfl) rfl ?_); (refine lw_is ?_; refine lw_pure (by exact pur_assign rfl) rfl ?_); refine lw_nil ?_; refine qw_then ?_; (refine cw_is ?_; refine cw_no rfl (by omega) ?_); refine cw_region ?_; (refine lw_is ?_; refine lw_pure (by exact pur_eql rfl rfl) rfl ?_); (refine lw_is ?_; refine lw_pure (by exact pur_assign rfl) rfl ?_); refine lw_nil ?_; refine qw_then ?_; (refine cw_is ?_; refine cw_no rfl (by omega) ?_); refine cw_seq ?_; refine cw_region ?_; (refine lw_is ?_; refine lw_pure (by exact pur_eql rfl rfl) rfl ?_); (refine lw_is ?_; refine lw_pure (by exact pur_assign rfl) rfl ?_); refine lw_nil ?_; refine qw_then ?_; (refine cw_is ?_; refine cw_no rfl (by omega) ?_); refine cw_seq ?_; refine cw_region ?_; (refine lw_is ?_; refine lw_pure (by exact pur_eql rfl rfl) rfl ?_); (refine lw_is ?_; refine lw_pure (by exact pur_assign rfl) rfl ?_); refine lw_nil ?_; refine qw_then ?_; (refine cw_is ?_; refine cw_yes rfl (by omega) ?_); refine cw_seq ?_)
  refine cw_draw (fun w' => Ext w1 w') (.pure 0 (.pure 1 (.pure 2 (.pure 3 (.pure 4 (.pure 8 (.pure 9 (.pure 10 (.pure 11 (.fork 5 (.pure 6 (.pure 7 (.fork 12 (.pure 13 (.pure 14 (.pure 15 .done))) .none))) .none)))))))))) mixed (by kernel_rfl) (by refine panicOk_then ?_; refine panicOk_block ?_; refine panicOk_then ?_; exact panicOk_body) ?_
  intro w2 x2 _
  refine ⟨x2, ?_⟩
  (refine dw_pure rfl (by exact pur_move rfl) rfl ?_; refine dw_pure rfl (by exact pur_fieldAddr tabOk rfl rfl rfl) rfl ?_; refine dw_pure rfl (by exact pur_load tabOk rfl rfl rfl (by exact fun wz hz => by (try subst hz); exact (Ext.keep (by assumption) (Blk.cell (by assumption) (by rfl))))) rfl ?_; refine dw_pure rfl (by exact pur_indexAddr tabOk rfl rfl rfl rfl (by omega) (by omega)) rfl ?_; refine dw_pure rfl (by exact pur_loads' tabOk rfl rfl rfl (by exact fun wz hz => by (try subst hz); exact (Row.ext (Row.ext (by assumption) (by assumption)) (by assumption))) (by rfl)) rfl ?_; refine dw_pure rfl (by exact pur_fieldAddr tabOk rfl rfl rfl) rfl ?_; refine dw_pure rfl (by exact pur_load tabOk rfl rfl rfl (by exact fun wz hz => by (try subst hz); exact (Ext.keep (by assumption) (Blk.cell (by assumption) (by rfl))))) rfl ?_; refine dw_pure rfl (by exact pur_indexAddr tabOk rfl rfl rfl rfl (by omega) (by omega)) rfl ?_; refine dw_pure rfl (by exact pur_loads' tabOk rfl rfl rfl (by exact fun wz hz => by (try subst hz); exact (Row.ext (Row.ext (by assumption) (by assumption)) (by assumption))) (by rfl)) rfl ?_)
  refine dw_does rfl (does_call (by kernel_rfl) rfl (hx _ _ _ (sx.ext (by refine Ext.trans ?_ (by assumption); assumption))) (fun _ _ h => ⟨_, h.1⟩)) rfl ?_ (fun _ h => h) dw_none
  rintro _ w3 ⟨⟨⟩, x3⟩
  refine ⟨(by refine Ext.trans ?_ (by assumption); assumption), ?_⟩
  (refine dw_pure rfl (by exact pur_sadd rfl rfl (by omega)) rfl ?_; refine dw_pure rfl (by exact pur_sadd rfl rfl (by (simp only [List.length_append, List.length_cons, List.length_nil]; omega))) rfl ?_)
  refine dw_does rfl (does_call (by kernel_rfl) rfl (hy _ _ _ (sy.ext (by refine Ext.trans ?_ (by assumption); refine Ext.trans ?_ (by assumption); assumption))) (fun _ _ h => ⟨_, h.1⟩)) rfl ?_ (fun _ h => h) dw_none
  rintro _ w4 ⟨⟨⟩, x4⟩
  refine ⟨(by refine Ext.trans ?_ (by assumption); refine Ext.trans ?_ (by assumption); assumption), ?_⟩
  (refine dw_pure rfl (by exact pur_sadd rfl rfl (by (simp only [List.length_append, List.length_cons, List.length_nil]; omega))) rfl ?_; refine dw_pure rfl (by exact pur_sadd rfl rfl (by (simp only [List.length_append, List.length_cons, List.length_nil]; omega))) rfl ?_; refine dw_pure rfl (by exact pur_assign rfl) rfl ?_; refine dw_done ?_)
  (refine qw_then ?_; refine cw_ret ?_; refine qw_block_ret ?_; refine qw_then_ret ?_)
  exact qw_ret1 Tryd.results35 rfl ⟨ret_str (by simp [updSign, List.append_assoc]), (by refine Ext.trans ?_ (by assumption); refine Ext.trans ?_ (by assumption); refine Ext.trans ?_ (by assumption); assumption)⟩
set_option maxRecDepth 100000 in
set_option maxHeartbeats 1000000 in
theorem rs_44 (S : Nat → Prop) (n : Int) (s : List UInt8) (x : Nd) (hx : Tells S 10 Nd.text x) : TD S (.mk 44 n s [x]) := by
  intro a c d w hd hlen hs
  rw [show (Nd.stmtT (.mk 44 n s [x]) d) = _ from by rw [Nd.stmtT.eq_def]] at hlen ⊢
  simp only [reduceIte, Int.reduceEq, or_false, Int.reduceLE, and_true] at hlen ⊢
  simp only [List.length_append, List.length_cons, List.length_nil] at hlen
  simp only [Nd.val, Nd.kind, Nd.num, Nd.name, Nd.kids, List.length_cons, List.length_nil]
  simp only [Nd.sits] at hs
  simp only [Nd.size, rowSize] at hd
  obtain ⟨kb, ko, rfl, -, hkid⟩ := kidRows hs (by simp)
  obtain ⟨xa, xc, rx, sx⟩ := hkid 0 x rfl
  clear hkid hs
  have htl : (tabT d).length = d := tabT_len d
  refine calls_in Tryd.func35 Tryd.ntmps35 rfl rfl ?_
  (refine cw_seq ?_; refine cw_region ?_)
  refine lw_does (does_box rfl rfl) rfl ?_ (fun _ h => h)
  rintro _ w1 ⟨b1, rfl, hn1⟩
  have h1 := hn1.blk
  have x1 := hn1.ext
  ((refine lw_is ?_; refine lw_pure (by exact pur_assign rfl) rfl ?_); refine lw_nil ?_; refine qw_then ?_; refine cw_seq ?_; refine cw_region ?_; (refine lw_is ?_; refine lw_pure (by exact pur_move rfl) rfl ?_))
  refine lw_does (does_call (by kernel_rfl) rfl (rtabs_c _ _ (by omega)) (fun _ _ h => ⟨_, h.1⟩)) rfl ?_ (fun _ h => h)
  rintro _ _ ⟨⟨⟩, rfl⟩
  ((refine lw_is ?_; refine lw_pure (by exact pur_assign rfl) rfl ?_); refine lw_nil ?_; refine qw_then ?_; refine cw_seq ?_; refine cw_seq ?_; refine cw_region ?_; (refine lw_is ?_; refine lw_pure (by exact pur_fieldAddr0 tabOk rfl rfl rfl) rfl ?_); (refine lw_is ?_; refine lw_pure (by exact pur_load tabOk rfl rfl rfl (by exact fun wz hz => by (try subst hz); exact (Blk.cell (by assumption) (by rfl)))) rfl ?_); refine lw_nil ?_; refine qw_then ?_; refine cw_block ?_; refine cw_seq ?_; refine cw_seq ?_; refine cw_region ?_; (refine lw_is ?_; refine lw_pure (by exact pur_eql rfl rfl) rfl ?_); (refine lw_is ?_; refine lw_pure (by exact pur_assign rfl) rfl ?_); refine lw_nil ?_; refine qw_then ?_; (refine cw_is ?_; refine cw_no rfl (by omega) ?_); refine cw_seq ?_; refine cw_region ?_; (refine lw_is ?_; refine lw_pure (by exact pur_eql rfl rfl) rfl ?_); (refine lw_is ?_; refine lw_pure (by exact pur_assign rfl) rfl ?_); refine lw_nil ?_; refine qw_then ?_; (refine cw_is ?_; refine cw_no rfl (by omega) ?_); refine cw_region ?_; (refine lw_is ?_; refine lw_pure (by exact pur_eql rfl rfl) rfl ?_); (refine lw_is ?_; refine lw_pure (by exact pur_assign rfl) rfl ?_); refine lw_nil ?_; refine qw_then ?_; (refine cw_is ?_; refine cw_no rfl (by omega) ?_); refine cw_seq ?_; refine cw_region ?_; (refine lw_is ?_; refine lw_pure (by exact pur_eql rfl rfl) rfl ?_); (refine lw_is ?_; refine lw_pure (by exact pur_assign rfl) rfl ?_); refine lw_nil ?_; refine qw_then ?_; (refine cw_is ?_; refine cw_no rfl (by omega) ?_); refine cw_seq ?_; refine cw_region ?_; (refine lw_is ?_; refine lw_pure (by exact pur_eql rfl rfl) rfl ?_); (refine lw_is ?_; refine lw_pure (by exact pur_assign rfl) rfl ?_); refine lw_nil ?_; refine qw_then ?_; (refine cw_is ?_; refine cw_no rfl (by omega) ?_); refine cw_seq ?_; refine cw_seq ?_; refine cw_region ?_; (refine lw_is ?_; refine lw_pure (by exact pur_eql rfl rfl) rfl ?_); (refine lw_is ?_; refine lw_pure (by exact pur_assign rfl) rfl ?_); refine lw_nil ?_; refine qw_then ?_; (refine cw_is ?_; refine cw_yes rfl (by omega) ?_); refine cw_skip ?_; refine qw_then ?_; (refine cw_is ?_; refine cw_yes rfl (by omega) ?_); refine cw_seq ?_)
  refine cw_draw (fun w' => Ext w1 w') (.pure 0 (.pure 1 (.pure 2 (.pure 6 (.pure 7 (.pure 8 (.pure 9 (.pure 13 (.pure 14 (.fork 3 (.pure 4 (.pure 5 (.fork 10 (.pure 11 (.pure 12 (.pure 15 (.pure 16 (.pure 17 .done))))) .none))) .none)))))))))) mixed (by kernel_rfl) (by refine panicOk_then ?_; refine panicOk_block ?_; refine panicOk_then ?_; exact panicOk_body) ?_
  intro w2 x2 _
  refine ⟨x2, ?_⟩
  (refine dw_pure rfl (by exact pur_move rfl) rfl ?_; refine dw_pure rfl (by exact pur_fieldAddr0 tabOk rfl rfl rfl) rfl ?_; refine dw_pure rfl (by exact pur_load tabOk rfl rfl rfl (by exact fun wz hz => by (try subst hz); exact (Ext.keep (by assumption) (Blk.cell (by assumption) (by rfl))))) rfl ?_; refine dw_pure rfl (by exact pur_fieldAddr tabOk rfl rfl rfl) rfl ?_; refine dw_pure rfl (by exact pur_load tabOk rfl rfl rfl (by exact fun wz hz => by (try subst hz); exact (Ext.keep (by assumption) (Blk.cell (by assumption) (by rfl))))) rfl ?_; refine dw_pure rfl (by exact pur_indexAddr tabOk rfl rfl rfl rfl (by omega) (by omega)) rfl ?_; refine dw_pure rfl (by exact pur_loads' tabOk rfl rfl rfl (by exact fun wz hz => by (try subst hz); exact (Row.ext (Row.ext (by assumption) (by assumption)) (by assumption))) (by rfl)) rfl ?_; refine dw_pure rfl (by exact pur_fieldAddr tabOk rfl rfl rfl) rfl ?_; refine dw_pure rfl (by exact pur_load tabOk rfl rfl rfl (by exact fun wz hz => by (try subst hz); exact (Ext.keep (by assumption) (Blk.cell (by assumption) (by rfl))))) rfl ?_)
  refine dw_does rfl (does_call (by kernel_rfl) rfl (rword_c _ _ (by omega) (by omega)) (fun _ _ h => ⟨_, h.1⟩)) rfl ?_ (fun _ h => h) dw_none
  rintro _ _ ⟨⟨⟩, rfl⟩
  have hrw : (rword 44).length ≤ 7 := by decide
  refine ⟨(by assumption), ?_⟩
  (refine dw_pure rfl (by exact pur_sadd rfl rfl (by omega)) rfl ?_; refine dw_pure rfl (by exact pur_sadd rfl rfl (by (simp only [List.length_append, List.length_cons, List.length_nil]; omega))) rfl ?_)
  refine dw_does rfl (does_call (by kernel_rfl) rfl (hx _ _ _ (sx.ext (by refine Ext.trans ?_ (by assumption); assumption))) (fun _ _ h => ⟨_, h.1⟩)) rfl ?_ (fun _ h => h) dw_none
  rintro _ w3 ⟨⟨⟩, x3⟩
  refine ⟨(by refine Ext.trans ?_ (by assumption); assumption), ?_⟩
  (refine dw_pure rfl (by exact pur_sadd rfl rfl (by (simp only [List.length_append, List.length_cons, List.length_nil]; omega))) rfl ?_; refine dw_pure rfl (by exact pur_sadd rfl rfl (by (simp only [List.length_append, List.length_cons, List.length_nil]; omega))) rfl ?_; refine dw_pure rfl (by exact pur_sadd rfl rfl (by (simp only [List.length_append, List.length_cons, List.length_nil]; omega))) rfl ?_; refine dw_pure rfl (by exact pur_sadd rfl rfl (by (simp only [List.length_append, List.length_cons, List.length_nil]; omega))) rfl ?_; refine dw_pure rfl (by exact pur_assign rfl) rfl ?_; refine dw_done ?_)
  (refine qw_then ?_; refine cw_ret ?_; refine qw_block_ret ?_; refine qw_then_ret ?_)
  exact qw_ret1 Tryd.results35 rfl ⟨ret_str (by simp [kword, rword, List.append_assoc]), (by refine Ext.trans ?_ (by assumption); refine Ext.trans ?_ (by assumption); assumption)⟩
set_option maxRecDepth 100000 in
set_option maxHeartbeats 1000000 in
theorem rs_45 (S : Nat → Prop) (n : Int) (s : List UInt8) (x : Nd) (hx : Tells S 10 Nd.text x) : TD S (.mk 45 n s [x]) := by
  intro a c d w hd hlen hs
  rw [show (Nd.stmtT (.mk 45 n s [x]) d) = _ from by rw [Nd.stmtT.eq_def]] at hlen ⊢
  simp only [reduceIte, Int.reduceEq, or_false, or_true, Int.reduceLE, and_true] at hlen ⊢
  simp only [List.length_append, List.length_cons, List.length_nil] at hlen
  simp only [Nd.val, Nd.kind, Nd.num, Nd.name, Nd.kids, List.length_cons, List.length_nil]
  simp only [Nd.sits] at hs
  simp only [Nd.size, rowSize] at hd
  obtain ⟨kb, ko, rfl, -, hkid⟩ := kidRows hs (by simp)
  obtain ⟨xa, xc, rx, sx⟩ := hkid 0 x rfl
  clear hkid hs
  have htl : (tabT d).length = d := tabT_len d
  refine calls_in Tryd.func35 Tryd.ntmps35 rfl rfl ?_
  (refine cw_seq ?_; refine cw_region ?_)
  refine lw_does (does_box rfl rfl) rfl ?_ (fun _ h => h)
  rintro _ w1 ⟨b1, rfl, hn1⟩
  have h1 := hn1.blk
  have x1 := hn1.ext
  ((refine lw_is ?_; refine lw_pure (by exact pur_assign rfl) rfl ?_); refine lw_nil ?_; refine qw_then ?_; refine cw_seq ?_; refine cw_region ?_; (refine lw_is ?_; refine lw_pure (by exact pur_move rfl) rfl ?_))
  refine lw_does (does_call (by kernel_rfl) rfl (rtabs_c _ _ (by omega)) (fun _ _ h => ⟨_, h.1⟩)) rfl ?_ (fun _ h => h)
  rintro _ _ ⟨⟨⟩, rfl⟩
  ((refine lw_is ?_; refine lw_pure (by exact pur_assign rfl) rfl ?_); refine lw_nil ?_; refine qw_then ?_; refine cw_seq ?_; refine cw_seq ?_; refine cw_region ?_; (refine lw_is ?_; refine lw_pure (by exact pur_fieldAddr0 tabOk rfl rfl rfl) rfl ?_); (refine lw_is ?_; refine lw_pure (by exact pur_load tabOk rfl rfl rfl (by exact fun wz hz => by (try subst hz); exact (Blk.cell (by assumption) (by rfl)))) rfl ?_); refine lw_nil ?_; refine qw_then ?_; refine cw_block ?_; refine cw_seq ?_; refine cw_seq ?_; refine cw_region ?_; (refine lw_is ?_; refine lw_pure (by exact pur_eql rfl rfl) rfl ?_); (refine lw_is ?_; refine lw_pure (by exact pur_assign rfl) rfl ?_); refine lw_nil ?_; refine qw_then ?_; (refine cw_is ?_; refine cw_no rfl (by omega) ?_); refine cw_seq ?_; refine cw_region ?_; (refine lw_is ?_; refine lw_pure (by exact pur_eql rfl rfl) rfl ?_); (refine lw_is ?_; refine lw_pure (by exact pur_assign rfl) rfl ?_); refine lw_nil ?_; refine qw_then ?_; (refine cw_is ?_; refine cw_no rfl (by omega) ?_); refine cw_region ?_; (refine lw_is ?_; refine lw_pure (by exact pur_eql rfl rfl) rfl ?_); (refine lw_is ?_; refine lw_pure (by exact pur_assign rfl) rfl ?_); refine lw_nil ?_; refine qw_then ?_; (refine cw_is ?_; refine cw_no rfl (by omega) ?_); refine cw_seq ?_; refine cw_region ?_; (refine lw_is ?_; refine lw_pure (by exact pur_eql rfl rfl) rfl ?_); (refine lw_is ?_; refine lw_pure (by exact pur_assign rfl) rfl ?_); refine lw_nil ?_; refine qw_then ?_; (refine cw_is ?_; refine cw_no rfl (by omega) ?_); refine cw_seq ?_; refine cw_region ?_; (refine lw_is ?_; refine lw_pure (by exact pur_eql rfl rfl) rfl ?_); (refine lw_is ?_; refine lw_pure (by exact pur_assign rfl) rfl ?_); refine lw_nil ?_; refine qw_then ?_; (refine cw_is ?_; refine cw_no rfl (by omega) ?_); refine cw_seq ?_; refine cw_seq ?_; refine cw_region ?_; (refine lw_is ?_; refine lw_pure (by exact pur_eql rfl rfl) rfl ?_); (refine lw_is ?_; refine lw_pure (by exact pur_assign rfl) rfl ?_); refine lw_nil ?_; refine qw_then ?_; (refine cw_is ?_; refine cw_no rfl (by omega) ?_); refine cw_region ?_; (refine lw_is ?_; refine lw_pure (by exact pur_eql rfl rfl) rfl ?_); (refine lw_is ?_; refine lw_pure (by exact pur_assign rfl) rfl ?_); refine lw_nil ?_; refine qw_then ?_; (refine cw_is ?_; refine cw_yes rfl (by omega) ?_); refine cw_seq ?_)
  refine cw_draw (fun w' => Ext w1 w') (.pure 0 (.pure 1 (.pure 2 (.pure 6 (.pure 7 (.pure 8 (.pure 9 (.pure 13 (.pure 14 (.fork 3 (.pure 4 (.pure 5 (.fork 10 (.pure 11 (.pure 12 (.pure 15 (.pure 16 (.pure 17 .done))))) .none))) .none)))))))))) mixed (by kernel_rfl) (by refine panicOk_then ?_; refine panicOk_block ?_; refine panicOk_then ?_; exact panicOk_body) ?_
  intro w2 x2 _
  refine ⟨x2, ?_⟩
  (refine dw_pure rfl (by exact pur_move rfl) rfl ?_; refine dw_pure rfl (by exact pur_fieldAddr0 tabOk rfl rfl rfl) rfl ?_; refine dw_pure rfl (by exact pur_load tabOk rfl rfl rfl (by exact fun wz hz => by (try subst hz); exact (Ext.keep (by assumption) (Blk.cell (by assumption) (by rfl))))) rfl ?_; refine dw_pure rfl (by exact pur_fieldAddr tabOk rfl rfl rfl) rfl ?_; refine dw_pure rfl (by exact pur_load tabOk rfl rfl rfl (by exact fun wz hz => by (try subst hz); exact (Ext.keep (by assumption) (Blk.cell (by assumption) (by rfl))))) rfl ?_; refine dw_pure rfl (by exact pur_indexAddr tabOk rfl rfl rfl rfl (by omega) (by omega)) rfl ?_; refine dw_pure rfl (by exact pur_loads' tabOk rfl rfl rfl (by exact fun wz hz => by (try subst hz); exact (Row.ext (Row.ext (by assumption) (by assumption)) (by assumption))) (by rfl)) rfl ?_; refine dw_pure rfl (by exact pur_fieldAddr tabOk rfl rfl rfl) rfl ?_; refine dw_pure rfl (by exact pur_load tabOk rfl rfl rfl (by exact fun wz hz => by (try subst hz); exact (Ext.keep (by assumption) (Blk.cell (by assumption) (by rfl))))) rfl ?_)
  refine dw_does rfl (does_call (by kernel_rfl) rfl (rword_c _ _ (by omega) (by omega)) (fun _ _ h => ⟨_, h.1⟩)) rfl ?_ (fun _ h => h) dw_none
  rintro _ _ ⟨⟨⟩, rfl⟩
  have hrw : (rword 45).length ≤ 7 := by decide
  refine ⟨(by assumption), ?_⟩
  (refine dw_pure rfl (by exact pur_sadd rfl rfl (by omega)) rfl ?_; refine dw_pure rfl (by exact pur_sadd rfl rfl (by (simp only [List.length_append, List.length_cons, List.length_nil]; omega))) rfl ?_)
  refine dw_does rfl (does_call (by kernel_rfl) rfl (hx _ _ _ (sx.ext (by refine Ext.trans ?_ (by assumption); assumption))) (fun _ _ h => ⟨_, h.1⟩)) rfl ?_ (fun _ h => h) dw_none
  rintro _ w3 ⟨⟨⟩, x3⟩
  refine ⟨(by refine Ext.trans ?_ (by assumption); assumption), ?_⟩
  (refine dw_pure rfl (by exact pur_sadd rfl rfl (by (simp only [List.length_append, List.length_cons, List.length_nil]; omega))) rfl ?_; refine dw_pure rfl (by exact pur_sadd rfl rfl (by (simp only [List.length_append, List.length_cons, List.length_nil]; omega))) rfl ?_; refine dw_pure rfl (by exact pur_sadd rfl rfl (by (simp only [List.length_append, List.length_cons, List.length_nil]; omega))) rfl ?_; refine dw_pure rfl (by exact pur_sadd rfl rfl (by (simp only [List.length_append, List.length_cons, List.length_nil]; omega))) rfl ?_; refine dw_pure rfl (by exact pur_assign rfl) rfl ?_; refine dw_done ?_)
  (refine qw_then ?_; refine cw_ret ?_; refine qw_block_ret ?_; refine qw_then_ret ?_)
  exact qw_ret1 Tryd.results35 rfl ⟨ret_str (by simp [kword, rword, List.append_assoc]), (by refine Ext.trans ?_ (by assumption); refine Ext.trans ?_ (by assumption); assumption)⟩
set_option maxRecDepth 100000 in
set_option maxHeartbeats 1000000 in
theorem rs_46 (S : Nat → Prop) (n : Int) (s : List UInt8) (x : Nd) (hx : Tells S 10 Nd.text x) : TD S (.mk 46 n s [x]) := by
  intro a c d w hd hlen hs
  rw [show (Nd.stmtT (.mk 46 n s [x]) d) = _ from by rw [Nd.stmtT.eq_def]] at hlen ⊢
  simp only [reduceIte, Int.reduceEq, or_false, Int.reduceLE, and_self] at hlen ⊢
  simp only [List.length_append] at hlen
  simp only [Nd.val, Nd.kind, Nd.num, Nd.name, Nd.kids, List.length_cons, List.length_nil]
  simp only [Nd.sits] at hs
  simp only [Nd.size, rowSize] at hd
  obtain ⟨kb, ko, rfl, -, hkid⟩ := kidRows hs (by simp)
  obtain ⟨xa, xc, rx, sx⟩ := hkid 0 x rfl
  clear hkid hs
  have htl : (tabT d).length = d := tabT_len d
  refine calls_in Tryd.func35 Tryd.ntmps35 rfl rfl ?_
  (refine cw_seq ?_; refine cw_region ?_)
  refine lw_does (does_box rfl rfl) rfl ?_ (fun _ h => h)
  rintro _ w1 ⟨b1, rfl, hn1⟩
  have h1 := hn1.blk
  have x1 := hn1.ext
  ((refine lw_is ?_; refine lw_pure (by exact pur_assign rfl) rfl ?_); refine lw_nil ?_; refine qw_then ?_; refine cw_seq ?_; refine cw_region ?_; (refine lw_is ?_; refine lw_pure (by exact pur_move rfl) rfl ?_))
  refine lw_does (does_call (by kernel_rfl) rfl (rtabs_c _ _ (by omega)) (fun _ _ h => ⟨_, h.1⟩)) rfl ?_ (fun _ h => h)
  rintro _ _ ⟨⟨⟩, rfl⟩
  ((refine lw_is ?_; refine lw_pure (by exact pur_assign rfl) rfl ?_); refine lw_nil ?_; refine qw_then ?_; refine cw_seq ?_; refine cw_seq ?_; refine cw_region ?_; (refine lw_is ?_; refine lw_pure (by exact pur_fieldAddr0 tabOk rfl rfl rfl) rfl ?_); (refine lw_is ?_; refine lw_pure (by exact pur_load tabOk rfl rfl rfl (by exact fun wz hz => by (try subst hz); exact (Blk.cell (by assumption) (by rfl)))) rfl ?_); refine lw_nil ?_; refine qw_then ?_; refine cw_block ?_; refine cw_seq ?_; refine cw_seq ?_; refine cw_region ?_; (refine lw_is ?_; refine lw_pure (by exact pur_eql rfl rfl) rfl ?_); (refine lw_is ?_; refine lw_pure (by exact pur_assign rfl) rfl ?_); refine lw_nil ?_; refine qw_then ?_; (refine cw_is ?_; refine cw_no rfl (by omega) ?_); refine cw_seq ?_; refine cw_region ?_; (refine lw_is ?_; refine lw_pure (by exact pur_eql rfl rfl) rfl ?_); (refine lw_is ?_; refine lw_pure (by exact pur_assign rfl) rfl ?_); refine lw_nil ?_; refine qw_then ?_; (refine cw_is ?_; refine cw_no rfl (by omega) ?_); refine cw_region ?_; (refine lw_is ?_; refine lw_pure (by exact pur_eql rfl rfl) rfl ?_); (refine lw_is ?_; refine lw_pure (by exact pur_assign rfl) rfl ?_); refine lw_nil ?_; refine qw_then ?_; (refine cw_is ?_; refine cw_no rfl (by omega) ?_); refine cw_seq ?_; refine cw_region ?_; (refine lw_is ?_; refine lw_pure (by exact pur_eql rfl rfl) rfl ?_); (refine lw_is ?_; refine lw_pure (by exact pur_assign rfl) rfl ?_); refine lw_nil ?_; refine qw_then ?_; (refine cw_is ?_; refine cw_no rfl (by omega) ?_); refine cw_seq ?_; refine cw_region ?_; (refine lw_is ?_; refine lw_pure (by exact pur_eql rfl rfl) rfl ?_); (refine lw_is ?_; refine lw_pure (by exact pur_assign rfl) rfl ?_); refine lw_nil ?_; refine qw_then ?_; (refine cw_is ?_; refine cw_no rfl (by omega) ?_); refine cw_seq ?_; refine cw_seq ?_; refine cw_region ?_; (refine lw_is ?_; refine lw_pure (by exact pur_eql rfl rfl) rfl ?_); (refine lw_is ?_; refine lw_pure (by exact pur_assign rfl) rfl ?_); refine lw_nil ?_; refine qw_then ?_; (refine cw_is ?_; refine cw_no rfl (by omega) ?_); refine cw_region ?_; (refine lw_is ?_; refine lw_pure (by exact pur_eql rfl rfl) rfl ?_); (refine lw_is ?_; refine lw_pure (by exact pur_assign rfl) rfl ?_); refine lw_nil ?_; refine qw_then ?_; (refine cw_is ?_; refine cw_no rfl (by omega) ?_); refine cw_seq ?_; refine cw_seq ?_; refine cw_region ?_; (refine lw_is ?_; refine lw_pure (by exact pur_eql rfl rfl) rfl ?_); (refine lw_is ?_; refine lw_pure (by exact pur_assign rfl) rfl ?_); refine lw_nil ?_; refine qw_then ?_; (refine cw_is ?_; refine cw_yes rfl (by omega) ?_); refine cw_skip ?_; refine qw_then ?_; (refine cw_is ?_; refine cw_yes rfl (by omega) ?_); refine cw_seq ?_)
  refine cw_draw (fun w' => Ext w1 w') (.pure 0 (.pure 1 (.pure 2 (.pure 6 (.pure 7 (.pure 8 (.pure 9 (.fork 3 (.pure 4 (.pure 5 (.fork 10 (.pure 11 (.pure 12 (.pure 13 .done))) .none))) .none)))))))) mixed (by kernel_rfl) (by refine panicOk_then ?_; refine panicOk_block ?_; refine panicOk_then ?_; exact panicOk_body) ?_
  intro w2 x2 _
  refine ⟨x2, ?_⟩
  (refine dw_pure rfl (by exact pur_move rfl) rfl ?_; refine dw_pure rfl (by exact pur_fieldAddr0 tabOk rfl rfl rfl) rfl ?_; refine dw_pure rfl (by exact pur_load tabOk rfl rfl rfl (by exact fun wz hz => by (try subst hz); exact (Ext.keep (by assumption) (Blk.cell (by assumption) (by rfl))))) rfl ?_; refine dw_pure rfl (by exact pur_fieldAddr tabOk rfl rfl rfl) rfl ?_; refine dw_pure rfl (by exact pur_load tabOk rfl rfl rfl (by exact fun wz hz => by (try subst hz); exact (Ext.keep (by assumption) (Blk.cell (by assumption) (by rfl))))) rfl ?_; refine dw_pure rfl (by exact pur_indexAddr tabOk rfl rfl rfl rfl (by omega) (by omega)) rfl ?_; refine dw_pure rfl (by exact pur_loads' tabOk rfl rfl rfl (by exact fun wz hz => by (try subst hz); exact (Row.ext (Row.ext (by assumption) (by assumption)) (by assumption))) (by rfl)) rfl ?_)
  refine dw_does rfl (does_call (by kernel_rfl) rfl (rword_c _ _ (by omega) (by omega)) (fun _ _ h => ⟨_, h.1⟩)) rfl ?_ (fun _ h => h) dw_none
  rintro _ _ ⟨⟨⟩, rfl⟩
  have hrw : (rword 46).length ≤ 7 := by decide
  refine ⟨(by assumption), ?_⟩
  (refine dw_pure rfl (by exact pur_sadd rfl rfl (by omega)) rfl ?_; refine dw_pure rfl (by exact pur_sadd rfl rfl (by (simp only [List.length_append, List.length_cons, List.length_nil]; omega))) rfl ?_)
  refine dw_does rfl (does_call (by kernel_rfl) rfl (hx _ _ _ (sx.ext (by refine Ext.trans ?_ (by assumption); assumption))) (fun _ _ h => ⟨_, h.1⟩)) rfl ?_ (fun _ h => h) dw_none
  rintro _ w3 ⟨⟨⟩, x3⟩
  refine ⟨(by refine Ext.trans ?_ (by assumption); assumption), ?_⟩
  (refine dw_pure rfl (by exact pur_sadd rfl rfl (by (simp only [List.length_append, List.length_cons, List.length_nil]; omega))) rfl ?_; refine dw_pure rfl (by exact pur_sadd rfl rfl (by (simp only [List.length_append, List.length_cons, List.length_nil]; omega))) rfl ?_; refine dw_pure rfl (by exact pur_assign rfl) rfl ?_; refine dw_done ?_)
  (refine qw_then ?_; refine cw_ret ?_; refine qw_block_ret ?_; refine qw_then_ret ?_)
  exact qw_ret1 Tryd.results35 rfl ⟨ret_str (by simp [kword, rword, List.append_assoc]), (by refine Ext.trans ?_ (by assumption); refine Ext.trans ?_ (by assumption); assumption)⟩
set_option maxRecDepth 100000 in
set_option maxHeartbeats 1000000 in
theorem rs_47 (S : Nat → Prop) (n : Int) (s : List UInt8) (x : Nd) (hx : Tells S 10 Nd.text x) : TD S (.mk 47 n s [x]) := by
  intro a c d w hd hlen hs
  rw [show (Nd.stmtT (.mk 47 n s [x]) d) = _ from by rw [Nd.stmtT.eq_def]] at hlen ⊢
  simp only [reduceIte, Int.reduceEq, or_false, Int.reduceLE, and_self] at hlen ⊢
  simp only [List.length_append] at hlen
  simp only [Nd.val, Nd.kind, Nd.num, Nd.name, Nd.kids, List.length_cons, List.length_nil]
  simp only [Nd.sits] at hs
  simp only [Nd.size, rowSize] at hd
  obtain ⟨kb, ko, rfl, -, hkid⟩ := kidRows hs (by simp)
  obtain ⟨xa, xc, rx, sx⟩ := hkid 0 x rfl
  clear hkid hs
  have htl : (tabT d).length = d := tabT_len d
  refine calls_in Tryd.func35 Tryd.ntmps35 rfl rfl ?_
  (refine cw_seq ?_; refine cw_region ?_)
  refine lw_does (does_box rfl rfl) rfl ?_ (fun _ h => h)
  rintro _ w1 ⟨b1, rfl, hn1⟩
  have h1 := hn1.blk
  have x1 := hn1.ext
  ((refine lw_is ?_; refine lw_pure (by exact pur_assign rfl) rfl ?_); refine lw_nil ?_; refine qw_then ?_; refine cw_seq ?_; refine cw_region ?_; (refine lw_is ?_; refine lw_pure (by exact pur_move rfl) rfl ?_))
  refine lw_does (does_call (by kernel_rfl) rfl (rtabs_c _ _ (by omega)) (fun _ _ h => ⟨_, h.1⟩)) rfl ?_ (fun _ h => h)
  rintro _ _ ⟨⟨⟩, rfl⟩
  ((refine lw_is ?_; refine lw_pure (by exact pur_assign rfl) rfl ?_); refine lw_nil ?_; refine qw_then ?_; refine cw_seq ?_; refine cw_seq ?_; refine cw_region ?_; (refine lw_is ?_; refine lw_pure (by exact pur_fieldAddr0 tabOk rfl rfl rfl) rfl ?_); (refine lw_is ?_; refine lw_pure (by exact pur_load tabOk rfl rfl rfl (by exact fun wz hz => by (try subst hz); exact (Blk.cell (by assumption) (by rfl)))) rfl ?_); refine lw_nil ?_; refine qw_then ?_; refine cw_block ?_; refine cw_seq ?_; refine cw_seq ?_; refine cw_region ?_; (refine lw_is ?_; refine lw_pure (by exact pur_eql rfl rfl) rfl ?_); (refine lw_is ?_; refine lw_pure (by exact pur_assign rfl) rfl ?_); refine lw_nil ?_; refine qw_then ?_; (refine cw_is ?_; refine cw_no rfl (by omega) ?_); refine cw_seq ?_; refine cw_region ?_; (refine lw_is ?_; refine lw_pure (by exact pur_eql rfl rfl) rfl ?_); (refine lw_is ?_; refine lw_pure (by exact pur_assign rfl) rfl ?_); refine lw_nil ?_; refine qw_then ?_; (refine cw_is ?_; refine cw_no rfl (by omega) ?_); refine cw_region ?_; (refine lw_is ?_; refine lw_pure (by exact pur_eql rfl rfl) rfl ?_); (refine lw_is ?_; refine lw_pure (by exact pur_assign rfl) rfl ?_); refine lw_nil ?_; refine qw_then ?_; (refine cw_is ?_; refine cw_no rfl (by omega) ?_); refine cw_seq ?_; refine cw_region ?_; (refine lw_is ?_; refine lw_pure (by exact pur_eql rfl rfl) rfl ?_); (refine lw_is ?_; refine lw_pure (by exact pur_assign rfl) rfl ?_); refine lw_nil ?_; refine qw_then ?_; (refine cw_is ?_; refine cw_no rfl (by omega) ?_); refine cw_seq ?_; refine cw_region ?_; (refine lw_is ?_; refine lw_pure (by exact pur_eql rfl rfl) rfl ?_); (refine lw_is ?_; refine lw_pure (by exact pur_assign rfl) rfl ?_); refine lw_nil ?_; refine qw_then ?_; (refine cw_is ?_; refine cw_no rfl (by omega) ?_); refine cw_seq ?_; refine cw_seq ?_; refine cw_region ?_; (refine lw_is ?_; refine lw_pure (by exact pur_eql rfl rfl) rfl ?_); (refine lw_is ?_; refine lw_pure (by exact pur_assign rfl) rfl ?_); refine lw_nil ?_; refine qw_then ?_; (refine cw_is ?_; refine cw_no rfl (by omega) ?_); refine cw_region ?_; (refine lw_is ?_; refine lw_pure (by exact pur_eql rfl rfl) rfl ?_); (refine lw_is ?_; refine lw_pure (by exact pur_assign rfl) rfl ?_); refine lw_nil ?_; refine qw_then ?_; (refine cw_is ?_; refine cw_no rfl (by omega) ?_); refine cw_seq ?_; refine cw_seq ?_; refine cw_region ?_; (refine lw_is ?_; refine lw_pure (by exact pur_eql rfl rfl) rfl ?_); (refine lw_is ?_; refine lw_pure (by exact pur_assign rfl) rfl ?_); refine lw_nil ?_; refine qw_then ?_; (refine cw_is ?_; refine cw_no rfl (by omega) ?_); refine cw_seq ?_; refine cw_region ?_; (refine lw_is ?_; refine lw_pure (by exact pur_eql rfl rfl) rfl ?_); (refine lw_is ?_; refine lw_pure (by exact pur_assign rfl) rfl ?_); refine lw_nil ?_; refine qw_then ?_; (refine cw_is ?_; refine cw_yes rfl (by omega) ?_); refine cw_skip ?_; refine qw_then ?_; (refine cw_is ?_; refine cw_yes rfl (by omega) ?_); refine cw_seq ?_)
  refine cw_draw (fun w' => Ext w1 w') (.pure 0 (.pure 1 (.pure 2 (.pure 6 (.pure 7 (.pure 8 (.pure 9 (.fork 3 (.pure 4 (.pure 5 (.fork 10 (.pure 11 (.pure 12 (.pure 13 .done))) .none))) .none)))))))) mixed (by kernel_rfl) (by refine panicOk_then ?_; refine panicOk_block ?_; refine panicOk_then ?_; exact panicOk_body) ?_
  intro w2 x2 _
  refine ⟨x2, ?_⟩
  (refine dw_pure rfl (by exact pur_move rfl) rfl ?_; refine dw_pure rfl (by exact pur_fieldAddr0 tabOk rfl rfl rfl) rfl ?_; refine dw_pure rfl (by exact pur_load tabOk rfl rfl rfl (by exact fun wz hz => by (try subst hz); exact (Ext.keep (by assumption) (Blk.cell (by assumption) (by rfl))))) rfl ?_; refine dw_pure rfl (by exact pur_fieldAddr tabOk rfl rfl rfl) rfl ?_; refine dw_pure rfl (by exact pur_load tabOk rfl rfl rfl (by exact fun wz hz => by (try subst hz); exact (Ext.keep (by assumption) (Blk.cell (by assumption) (by rfl))))) rfl ?_; refine dw_pure rfl (by exact pur_indexAddr tabOk rfl rfl rfl rfl (by omega) (by omega)) rfl ?_; refine dw_pure rfl (by exact pur_loads' tabOk rfl rfl rfl (by exact fun wz hz => by (try subst hz); exact (Row.ext (Row.ext (by assumption) (by assumption)) (by assumption))) (by rfl)) rfl ?_)
  refine dw_does rfl (does_call (by kernel_rfl) rfl (rword_c _ _ (by omega) (by omega)) (fun _ _ h => ⟨_, h.1⟩)) rfl ?_ (fun _ h => h) dw_none
  rintro _ _ ⟨⟨⟩, rfl⟩
  have hrw : (rword 47).length ≤ 7 := by decide
  refine ⟨(by assumption), ?_⟩
  (refine dw_pure rfl (by exact pur_sadd rfl rfl (by omega)) rfl ?_; refine dw_pure rfl (by exact pur_sadd rfl rfl (by (simp only [List.length_append, List.length_cons, List.length_nil]; omega))) rfl ?_)
  refine dw_does rfl (does_call (by kernel_rfl) rfl (hx _ _ _ (sx.ext (by refine Ext.trans ?_ (by assumption); assumption))) (fun _ _ h => ⟨_, h.1⟩)) rfl ?_ (fun _ h => h) dw_none
  rintro _ w3 ⟨⟨⟩, x3⟩
  refine ⟨(by refine Ext.trans ?_ (by assumption); assumption), ?_⟩
  (refine dw_pure rfl (by exact pur_sadd rfl rfl (by (simp only [List.length_append, List.length_cons, List.length_nil]; omega))) rfl ?_; refine dw_pure rfl (by exact pur_sadd rfl rfl (by (simp only [List.length_append, List.length_cons, List.length_nil]; omega))) rfl ?_; refine dw_pure rfl (by exact pur_assign rfl) rfl ?_; refine dw_done ?_)
  (refine qw_then ?_; refine cw_ret ?_; refine qw_block_ret ?_; refine qw_then_ret ?_)
  exact qw_ret1 Tryd.results35 rfl ⟨ret_str (by simp [kword, rword, List.append_assoc]), (by refine Ext.trans ?_ (by assumption); refine Ext.trans ?_ (by assumption); assumption)⟩
set_option maxRecDepth 100000 in
set_option maxHeartbeats 1000000 in
theorem rs_48 (S : Nat → Prop) (n : Int) (s : List UInt8) (x : Nd) (hx : Tells S 10 Nd.text x) : TD S (.mk 48 n s [x]) := by
  intro a c d w hd hlen hs
  rw [show (Nd.stmtT (.mk 48 n s [x]) d) = _ from by rw [Nd.stmtT.eq_def]] at hlen ⊢
  simp only [reduceIte, Int.reduceEq, or_false, Int.reduceLE, and_self] at hlen ⊢
  simp only [List.length_append] at hlen
  simp only [Nd.val, Nd.kind, Nd.num, Nd.name, Nd.kids, List.length_cons, List.length_nil]
  simp only [Nd.sits] at hs
  simp only [Nd.size, rowSize] at hd
  obtain ⟨kb, ko, rfl, -, hkid⟩ := kidRows hs (by simp)
  obtain ⟨xa, xc, rx, sx⟩ := hkid 0 x rfl
  clear hkid hs
  have htl : (tabT d).length = d := tabT_len d
  refine calls_in Tryd.func35 Tryd.ntmps35 rfl rfl ?_
  (refine cw_seq ?_; refine cw_region ?_)
  refine lw_does (does_box rfl rfl) rfl ?_ (fun _ h => h)
  rintro _ w1 ⟨b1, rfl, hn1⟩
  have h1 := hn1.blk
  have x1 := hn1.ext
  ((refine lw_is ?_; refine lw_pure (by exact pur_assign rfl) rfl ?_); refine lw_nil ?_; refine qw_then ?_; refine cw_seq ?_; refine cw_region ?_; (refine lw_is ?_; refine lw_pure (by exact pur_move rfl) rfl ?_))
  refine lw_does (does_call (by kernel_rfl) rfl (rtabs_c _ _ (by omega)) (fun _ _ h => ⟨_, h.1⟩)) rfl ?_ (fun _ h => h)
  rintro _ _ ⟨⟨⟩, rfl⟩
  ((refine lw_is ?_; refine lw_pure (by exact pur_assign rfl) rfl ?_); refine lw_nil ?_; refine qw_then ?_; refine cw_seq ?_; refine cw_seq ?_; refine cw_region ?_; (refine lw_is ?_; refine lw_pure (by exact pur_fieldAddr0 tabOk rfl rfl rfl) rfl ?_); (refine lw_is ?_; refine lw_pure (by exact pur_load tabOk rfl rfl rfl (by exact fun wz hz => by (try subst hz); exact (Blk.cell (by assumption) (by rfl)))) rfl ?_); refine lw_nil ?_; refine qw_then ?_; refine cw_block ?_; refine cw_seq ?_; refine cw_seq ?_; refine cw_region ?_; (refine lw_is ?_; refine lw_pure (by exact pur_eql rfl rfl) rfl ?_); (refine lw_is ?_; refine lw_pure (by exact pur_assign rfl) rfl ?_); refine lw_nil ?_; refine qw_then ?_; (refine cw_is ?_; refine cw_no rfl (by omega) ?_); refine cw_seq ?_; refine cw_region ?_; (refine lw_is ?_; refine lw_pure (by exact pur_eql rfl rfl) rfl ?_); (refine lw_is ?_; refine lw_pure (by exact pur_assign rfl) rfl ?_); refine lw_nil ?_; refine qw_then ?_; (refine cw_is ?_; refine cw_no rfl (by omega) ?_); refine cw_region ?_; (refine lw_is ?_; refine lw_pure (by exact pur_eql rfl rfl) rfl ?_); (refine lw_is ?_; refine lw_pure (by exact pur_assign rfl) rfl ?_); refine lw_nil ?_; refine qw_then ?_; (refine cw_is ?_; refine cw_no rfl (by omega) ?_); refine cw_seq ?_; refine cw_region ?_; (refine lw_is ?_; refine lw_pure (by exact pur_eql rfl rfl) rfl ?_); (refine lw_is ?_; refine lw_pure (by exact pur_assign rfl) rfl ?_); refine lw_nil ?_; refine qw_then ?_; (refine cw_is ?_; refine cw_no rfl (by omega) ?_); refine cw_seq ?_; refine cw_region ?_; (refine lw_is ?_; refine lw_pure (by exact pur_eql rfl rfl) rfl ?_); (refine lw_is ?_; refine lw_pure (by exact pur_assign rfl) rfl ?_); refine lw_nil ?_; refine qw_then ?_; (refine cw_is ?_; refine cw_no rfl (by omega) ?_); refine cw_seq ?_; refine cw_seq ?_; refine cw_region ?_; (refine lw_is ?_; refine lw_pure (by exact pur_eql rfl rfl) rfl ?_); (refine lw_is ?_; refine lw_pure (by exact pur_assign rfl) rfl ?_); refine lw_nil ?_; refine qw_then ?_; (refine cw_is ?_; refine cw_no rfl (by omega) ?_); refine cw_region ?_; (refine lw_is ?_; refine lw_pure (by exact pur_eql rfl rfl) rfl ?_); (refine lw_is ?_; refine lw_pure (by exact pur_assign rfl) rfl ?_); refine lw_nil ?_; refine qw_then ?_; (refine cw_is ?_; refine cw_no rfl (by omega) ?_); refine cw_seq ?_; refine cw_seq ?_; refine cw_region ?_; (refine lw_is ?_; refine lw_pure (by exact pur_eql rfl rfl) rfl ?_); (refine lw_is ?_; refine lw_pure (by exact pur_assign rfl) rfl ?_); refine lw_nil ?_; refine qw_then ?_; (refine cw_is ?_; refine cw_no rfl (by omega) ?_); refine cw_seq ?_; refine cw_region ?_; (refine lw_is ?_; refine lw_pure (by exact pur_eql rfl rfl) rfl ?_); (refine lw_is ?_; refine lw_pure (by exact pur_assign rfl) rfl ?_); refine lw_nil ?_; refine qw_then ?_; (refine cw_is ?_; refine cw_no rfl (by omega) ?_); refine cw_seq ?_; refine cw_region ?_; (refine lw_is ?_; refine lw_pure (by exact pur_eql rfl rfl) rfl ?_); (refine lw_is ?_; refine lw_pure (by exact pur_assign rfl) rfl ?_); refine lw_nil ?_; refine qw_then ?_; (refine cw_is ?_; refine cw_yes rfl (by omega) ?_); refine cw_skip ?_; refine qw_then ?_; (refine cw_is ?_; refine cw_yes rfl (by omega) ?_); refine cw_seq ?_)
  refine cw_draw (fun w' => Ext w1 w') (.pure 0 (.pure 1 (.pure 2 (.pure 6 (.pure 7 (.pure 8 (.pure 9 (.fork 3 (.pure 4 (.pure 5 (.fork 10 (.pure 11 (.pure 12 (.pure 13 .done))) .none))) .none)))))))) mixed (by kernel_rfl) (by refine panicOk_then ?_; refine panicOk_block ?_; refine panicOk_then ?_; exact panicOk_body) ?_
  intro w2 x2 _
  refine ⟨x2, ?_⟩
  (refine dw_pure rfl (by exact pur_move rfl) rfl ?_; refine dw_pure rfl (by exact pur_fieldAddr0 tabOk rfl rfl rfl) rfl ?_; refine dw_pure rfl (by exact pur_load tabOk rfl rfl rfl (by exact fun wz hz => by (try subst hz); exact (Ext.keep (by assumption) (Blk.cell (by assumption) (by rfl))))) rfl ?_; refine dw_pure rfl (by exact pur_fieldAddr tabOk rfl rfl rfl) rfl ?_; refine dw_pure rfl (by exact pur_load tabOk rfl rfl rfl (by exact fun wz hz => by (try subst hz); exact (Ext.keep (by assumption) (Blk.cell (by assumption) (by rfl))))) rfl ?_; refine dw_pure rfl (by exact pur_indexAddr tabOk rfl rfl rfl rfl (by omega) (by omega)) rfl ?_; refine dw_pure rfl (by exact pur_loads' tabOk rfl rfl rfl (by exact fun wz hz => by (try subst hz); exact (Row.ext (Row.ext (by assumption) (by assumption)) (by assumption))) (by rfl)) rfl ?_)
  refine dw_does rfl (does_call (by kernel_rfl) rfl (rword_c _ _ (by omega) (by omega)) (fun _ _ h => ⟨_, h.1⟩)) rfl ?_ (fun _ h => h) dw_none
  rintro _ _ ⟨⟨⟩, rfl⟩
  have hrw : (rword 48).length ≤ 7 := by decide
  refine ⟨(by assumption), ?_⟩
  (refine dw_pure rfl (by exact pur_sadd rfl rfl (by omega)) rfl ?_; refine dw_pure rfl (by exact pur_sadd rfl rfl (by (simp only [List.length_append, List.length_cons, List.length_nil]; omega))) rfl ?_)
  refine dw_does rfl (does_call (by kernel_rfl) rfl (hx _ _ _ (sx.ext (by refine Ext.trans ?_ (by assumption); assumption))) (fun _ _ h => ⟨_, h.1⟩)) rfl ?_ (fun _ h => h) dw_none
  rintro _ w3 ⟨⟨⟩, x3⟩
  refine ⟨(by refine Ext.trans ?_ (by assumption); assumption), ?_⟩
  (refine dw_pure rfl (by exact pur_sadd rfl rfl (by (simp only [List.length_append, List.length_cons, List.length_nil]; omega))) rfl ?_; refine dw_pure rfl (by exact pur_sadd rfl rfl (by (simp only [List.length_append, List.length_cons, List.length_nil]; omega))) rfl ?_; refine dw_pure rfl (by exact pur_assign rfl) rfl ?_; refine dw_done ?_)
  (refine qw_then ?_; refine cw_ret ?_; refine qw_block_ret ?_; refine qw_then_ret ?_)
  exact qw_ret1 Tryd.results35 rfl ⟨ret_str (by simp [kword, rword, List.append_assoc]), (by refine Ext.trans ?_ (by assumption); refine Ext.trans ?_ (by assumption); assumption)⟩
set_option maxRecDepth 100000 in
set_option maxHeartbeats 1000000 in
theorem rs_49 (S : Nat → Prop) (n : Int) (s : List UInt8) (x : Nd) (hx : Tells S 10 Nd.text x) : TD S (.mk 49 n s [x]) := by
  intro a c d w hd hlen hs
  rw [show (Nd.stmtT (.mk 49 n s [x]) d) = _ from by rw [Nd.stmtT.eq_def]] at hlen ⊢
  simp only [reduceIte, Int.reduceEq, or_false, Int.reduceLE, and_self] at hlen ⊢
  simp only [List.length_append] at hlen
  simp only [Nd.val, Nd.kind, Nd.num, Nd.name, Nd.kids, List.length_cons, List.length_nil]
  simp only [Nd.sits] at hs
  simp only [Nd.size, rowSize] at hd
  obtain ⟨kb, ko, rfl, -, hkid⟩ := kidRows hs (by simp)
  obtain ⟨xa, xc, rx, sx⟩ := hkid 0 x rfl
  clear hkid hs
  have htl : (tabT d).length = d := tabT_len d
  refine calls_in Tryd.func35 Tryd.ntmps35 rfl rfl ?_
  (refine cw_seq ?_; refine cw_region ?_)
  refine lw_does (does_box rfl rfl) rfl ?_ (fun _ h => h)
  rintro _ w1 ⟨b1, rfl, hn1⟩
  have h1 := hn1.blk
  have x1 := hn1.ext
  ((refine lw_is ?_; refine lw_pure (by exact pur_assign rfl) rfl ?_); refine lw_nil ?_; refine qw_then ?_; refine cw_seq ?_; refine cw_region ?_; (refine lw_is ?_; refine lw_pure (by exact pur_move rfl) rfl ?_))
  refine lw_does (does_call (by kernel_rfl) rfl (rtabs_c _ _ (by omega)) (fun _ _ h => ⟨_, h.1⟩)) rfl ?_ (fun _ h => h)
  rintro _ _ ⟨⟨⟩, rfl⟩
  ((refine lw_is ?_; refine lw_pure (by exact pur_assign rfl) rfl ?_); refine lw_nil ?_; refine qw_then ?_; refine cw_seq ?_; refine cw_seq ?_; refine cw_region ?_; (refine lw_is ?_; refine lw_pure (by exact pur_fieldAddr0 tabOk rfl rfl rfl) rfl ?_); (refine lw_is ?_; refine lw_pure (by exact pur_load tabOk rfl rfl rfl (by exact fun wz hz => by (try subst hz); exact (Blk.cell (by assumption) (by rfl)))) rfl ?_); refine lw_nil ?_; refine qw_then ?_; refine cw_block ?_; refine cw_seq ?_; refine cw_seq ?_; refine cw_region ?_; (refine lw_is ?_; refine lw_pure (by exact pur_eql rfl rfl) rfl ?_); (refine lw_is ?_; refine lw_pure (by exact pur_assign rfl) rfl ?_); refine lw_nil ?_; refine qw_then ?_; (refine cw_is ?_; refine cw_no rfl (by omega) ?_); refine cw_seq ?_; refine cw_region ?_; (refine lw_is ?_; refine lw_pure (by exact pur_eql rfl rfl) rfl ?_); (refine lw_is ?_; refine lw_pure (by exact pur_assign rfl) rfl ?_); refine lw_nil ?_; refine qw_then ?_; (refine cw_is ?_; refine cw_no rfl (by omega) ?_); refine cw_region ?_; (refine lw_is ?_; refine lw_pure (by exact pur_eql rfl rfl) rfl ?_); (refine lw_is ?_; refine lw_pure (by exact pur_assign rfl) rfl ?_); refine lw_nil ?_; refine qw_then ?_; (refine cw_is ?_; refine cw_no rfl (by omega) ?_); refine cw_seq ?_; refine cw_region ?_; (refine lw_is ?_; refine lw_pure (by exact pur_eql rfl rfl) rfl ?_); (refine lw_is ?_; refine lw_pure (by exact pur_assign rfl) rfl ?_); refine lw_nil ?_; refine qw_then ?_; (refine cw_is ?_; refine cw_no rfl (by omega) ?_); refine cw_seq ?_; refine cw_region ?_; (refine lw_is ?_; refine lw_pure (by exact pur_eql rfl rfl) rfl ?_); (refine lw_is ?_; refine lw_pure (by exact pur_assign rfl) rfl ?_); refine lw_nil ?_; refine qw_then ?_; (refine cw_is ?_; refine cw_no rfl (by omega) ?_); refine cw_seq ?_; refine cw_seq ?_; refine cw_region ?_; (refine lw_is ?_; refine lw_pure (by exact pur_eql rfl rfl) rfl ?_); (refine lw_is ?_; refine lw_pure (by exact pur_assign rfl) rfl ?_); refine lw_nil ?_; refine qw_then ?_; (refine cw_is ?_; refine cw_no rfl (by omega) ?_); refine cw_region ?_; (refine lw_is ?_; refine lw_pure (by exact pur_eql rfl rfl) rfl ?_); (refine lw_is ?_; refine lw_pure (by exact pur_assign rfl) rfl ?_); refine lw_nil ?_; refine qw_then ?_; (refine cw_is ?_; refine cw_no rfl (by omega) ?_); refine cw_seq ?_; refine cw_seq ?_; refine cw_region ?_; (refine lw_is ?_; refine lw_pure (by exact pur_eql rfl rfl) rfl ?_); (refine lw_is ?_; refine lw_pure (by exact pur_assign rfl) rfl ?_); refine lw_nil ?_; refine qw_then ?_; (refine cw_is ?_; refine cw_no rfl (by omega) ?_); refine cw_seq ?_; refine cw_region ?_; (refine lw_is ?_; refine lw_pure (by exact pur_eql rfl rfl) rfl ?_); (refine lw_is ?_; refine lw_pure (by exact pur_assign rfl) rfl ?_); refine lw_nil ?_; refine qw_then ?_; (refine cw_is ?_; refine cw_no rfl (by omega) ?_); refine cw_seq ?_; refine cw_region ?_; (refine lw_is ?_; refine lw_pure (by exact pur_eql rfl rfl) rfl ?_); (refine lw_is ?_; refine lw_pure (by exact pur_assign rfl) rfl ?_); refine lw_nil ?_; refine qw_then ?_; (refine cw_is ?_; refine cw_no rfl (by omega) ?_); refine cw_region ?_; (refine lw_is ?_; refine lw_pure (by exact pur_eql rfl rfl) rfl ?_); (refine lw_is ?_; refine lw_pure (by exact pur_assign rfl) rfl ?_); refine lw_nil ?_; refine qw_then ?_; (refine cw_is ?_; refine cw_yes rfl (by omega) ?_); refine cw_seq ?_)
  refine cw_draw (fun w' => Ext w1 w') (.pure 0 (.pure 1 (.pure 2 (.pure 6 (.pure 7 (.pure 8 (.pure 9 (.fork 3 (.pure 4 (.pure 5 (.fork 10 (.pure 11 (.pure 12 (.pure 13 .done))) .none))) .none)))))))) mixed (by kernel_rfl) (by refine panicOk_then ?_; refine panicOk_block ?_; refine panicOk_then ?_; exact panicOk_body) ?_
  intro w2 x2 _
  refine ⟨x2, ?_⟩
  (refine dw_pure rfl (by exact pur_move rfl) rfl ?_; refine dw_pure rfl (by exact pur_fieldAddr0 tabOk rfl rfl rfl) rfl ?_; refine dw_pure rfl (by exact pur_load tabOk rfl rfl rfl (by exact fun wz hz => by (try subst hz); exact (Ext.keep (by assumption) (Blk.cell (by assumption) (by rfl))))) rfl ?_; refine dw_pure rfl (by exact pur_fieldAddr tabOk rfl rfl rfl) rfl ?_; refine dw_pure rfl (by exact pur_load tabOk rfl rfl rfl (by exact fun wz hz => by (try subst hz); exact (Ext.keep (by assumption) (Blk.cell (by assumption) (by rfl))))) rfl ?_; refine dw_pure rfl (by exact pur_indexAddr tabOk rfl rfl rfl rfl (by omega) (by omega)) rfl ?_; refine dw_pure rfl (by exact pur_loads' tabOk rfl rfl rfl (by exact fun wz hz => by (try subst hz); exact (Row.ext (Row.ext (by assumption) (by assumption)) (by assumption))) (by rfl)) rfl ?_)
  refine dw_does rfl (does_call (by kernel_rfl) rfl (rword_c _ _ (by omega) (by omega)) (fun _ _ h => ⟨_, h.1⟩)) rfl ?_ (fun _ h => h) dw_none
  rintro _ _ ⟨⟨⟩, rfl⟩
  have hrw : (rword 49).length ≤ 7 := by decide
  refine ⟨(by assumption), ?_⟩
  (refine dw_pure rfl (by exact pur_sadd rfl rfl (by omega)) rfl ?_; refine dw_pure rfl (by exact pur_sadd rfl rfl (by (simp only [List.length_append, List.length_cons, List.length_nil]; omega))) rfl ?_)
  refine dw_does rfl (does_call (by kernel_rfl) rfl (hx _ _ _ (sx.ext (by refine Ext.trans ?_ (by assumption); assumption))) (fun _ _ h => ⟨_, h.1⟩)) rfl ?_ (fun _ h => h) dw_none
  rintro _ w3 ⟨⟨⟩, x3⟩
  refine ⟨(by refine Ext.trans ?_ (by assumption); assumption), ?_⟩
  (refine dw_pure rfl (by exact pur_sadd rfl rfl (by (simp only [List.length_append, List.length_cons, List.length_nil]; omega))) rfl ?_; refine dw_pure rfl (by exact pur_sadd rfl rfl (by (simp only [List.length_append, List.length_cons, List.length_nil]; omega))) rfl ?_; refine dw_pure rfl (by exact pur_assign rfl) rfl ?_; refine dw_done ?_)
  (refine qw_then ?_; refine cw_ret ?_; refine qw_block_ret ?_; refine qw_then_ret ?_)
  exact qw_ret1 Tryd.results35 rfl ⟨ret_str (by simp [kword, rword, List.append_assoc]), (by refine Ext.trans ?_ (by assumption); refine Ext.trans ?_ (by assumption); assumption)⟩
set_option maxRecDepth 100000 in
set_option maxHeartbeats 1000000 in
theorem rs_52 (S : Nat → Prop) (n : Int) (s : List UInt8) (x y z u : Nd) (hx : Tells S 10 Nd.text x) (hy : LD S y) (hz : LD S z) (hu : Tells S 10 Nd.text u) : TD S (.mk 52 n s [x, y, z, u]) := by
  intro a c d w hd hlen hs
  rw [show (Nd.stmtT (.mk 52 n s [x, y, z, u]) d) = _ from by rw [Nd.stmtT.eq_def]] at hlen ⊢
  simp only [reduceIte, Int.reduceEq, or_false, Int.reduceLE, and_false] at hlen ⊢
  simp only [List.length_append, List.length_cons, List.length_nil, tabT_len] at hlen
  simp only [Nd.val, Nd.kind, Nd.num, Nd.name, Nd.kids, List.length_cons, List.length_nil]
  simp only [Nd.sits] at hs
  simp only [Nd.size, rowSize] at hd
  obtain ⟨kb, ko, rfl, -, hkid⟩ := kidRows hs (by simp)
  obtain ⟨xa, xc, rx, sx⟩ := hkid 0 x rfl
  obtain ⟨ya, yc, ry, sy⟩ := hkid 1 y rfl
  obtain ⟨za, zc, rz, sz⟩ := hkid 2 z rfl
  obtain ⟨ua, uc, ru, su⟩ := hkid 3 u rfl
  clear hkid hs
  have htl : (tabT d).length = d := tabT_len d
  refine calls_in Tryd.func35 Tryd.ntmps35 rfl rfl ?_
  (refine cw_seq ?_; refine cw_region ?_)
  refine lw_does (does_box rfl rfl) rfl ?_ (fun _ h => h)
  rintro _ w1 ⟨b1, rfl, hn1⟩
  have h1 := hn1.blk
  have x1 := hn1.ext
  ((refine lw_is ?_; refine lw_pure (by exact pur_assign rfl) rfl ?_); refine lw_nil ?_; refine qw_then ?_; refine cw_seq ?_; refine cw_region ?_; (refine lw_is ?_; refine lw_pure (by exact pur_move rfl) rfl ?_))
  refine lw_does (does_call (by kernel_rfl) rfl (rtabs_c _ _ (by omega)) (fun _ _ h => ⟨_, h.1⟩)) rfl ?_ (fun _ h => h)
  rintro _ _ ⟨⟨⟩, rfl⟩
  ((refine lw_is ?_; refine lw_pure (by exact pur_assign rfl) rfl ?_); refine lw_nil ?_; refine qw_then ?_; refine cw_seq ?_; refine cw_seq ?_; refine cw_region ?_; (refine lw_is ?_; refine lw_pure (by exact pur_fieldAddr0 tabOk rfl rfl rfl) rfl ?_); (refine lw_is ?_; refine lw_pure (by exact pur_load tabOk rfl rfl rfl (by exact fun wz hz => by (try subst hz); exact (Blk.cell (by assumption) (by rfl)))) rfl ?_); refine lw_nil ?_; refine qw_then ?_; refine cw_block ?_; refine cw_seq ?_; refine cw_seq ?_; refine cw_region ?_; (refine lw_is ?_; refine lw_pure (by exact pur_eql rfl rfl) rfl ?_); (refine lw_is ?_; refine lw_pure (by exact pur_assign rfl) rfl ?_); refine lw_nil ?_; refine qw_then ?_; (refine cw_is ?_; refine cw_no rfl (by omega) ?_); refine cw_seq ?_; refine cw_region ?_; (refine lw_is ?_; refine lw_pure (by exact pur_eql rfl rfl) rfl ?_); (refine lw_is ?_; refine lw_pure (by exact pur_assign rfl) rfl ?_); refine lw_nil ?_; refine qw_then ?_; (refine cw_is ?_; refine cw_no rfl (by omega) ?_); refine cw_region ?_; (refine lw_is ?_; refine lw_pure (by exact pur_eql rfl rfl) rfl ?_); (refine lw_is ?_; refine lw_pure (by exact pur_assign rfl) rfl ?_); refine lw_nil ?_; refine qw_then ?_; (refine cw_is ?_; refine cw_no rfl (by omega) ?_); refine cw_seq ?_; refine cw_region ?_; (refine lw_is ?_; refine lw_pure (by exact pur_eql rfl rfl) rfl ?_); (refine lw_is ?_; refine lw_pure (by exact pur_assign rfl) rfl ?_); refine lw_nil ?_; refine qw_then ?_; (refine cw_is ?_; refine cw_no rfl (by omega) ?_); refine cw_seq ?_; refine cw_region ?_; (refine lw_is ?_; refine lw_pure (by exact pur_eql rfl rfl) rfl ?_); (refine lw_is ?_; refine lw_pure (by exact pur_assign rfl) rfl ?_); refine lw_nil ?_; refine qw_then ?_; (refine cw_is ?_; refine cw_no rfl (by omega) ?_); refine cw_seq ?_; refine cw_seq ?_; refine cw_region ?_; (refine lw_is ?_; refine lw_pure (by exact pur_eql rfl rfl) rfl ?_); (refine lw_is ?_; refine lw_pure (by exact pur_assign rfl) rfl ?_); refine lw_nil ?_; refine qw_then ?_; (refine cw_is ?_; refine cw_no rfl (by omega) ?_); refine cw_region ?_; (refine lw_is ?_; refine lw_pure (by exact pur_eql rfl rfl) rfl ?_); (refine lw_is ?_; refine lw_pure (by exact pur_assign rfl) rfl ?_); refine lw_nil ?_; refine qw_then ?_; (refine cw_is ?_; refine cw_no rfl (by omega) ?_); refine cw_seq ?_; refine cw_seq ?_; refine cw_region ?_; (refine lw_is ?_; refine lw_pure (by exact pur_eql rfl rfl) rfl ?_); (refine lw_is ?_; refine lw_pure (by exact pur_assign rfl) rfl ?_); refine lw_nil ?_; refine qw_then ?_; (refine cw_is ?_; refine cw_no rfl (by omega) ?_); refine cw_seq ?_; refine cw_region ?_; (refine lw_is ?_; refine lw_pure (by exact pur_eql rfl rfl) rfl ?_); (refine lw_is ?_; refine lw_pure (by exact pur_assign rfl) rfl ?_); refine lw_nil ?_; refine qw_then ?_; (refine cw_is ?_; refine cw_no rfl (by omega) ?_); refine cw_seq ?_; refine cw_region ?_; (refine lw_is ?_; refine lw_pure (by exact pur_eql rfl rfl) rfl ?_); (refine lw_is ?_; refine lw_pure (by exact pur_assign rfl) rfl ?_); refine lw_nil ?_; refine qw_then ?_; (refine cw_is ?_; refine cw_no rfl (by omega) ?_); refine cw_region ?_; (refine lw_is ?_; refine lw_pure (by exact pur_eql rfl rfl) rfl ?_); (refine lw_is ?_; refine lw_pure (by exact pur_assign rfl) rfl ?_); refine lw_nil ?_; refine qw_then ?_; (refine cw_is ?_; refine cw_no rfl (by omega) ?_); refine cw_seq ?_; refine cw_seq ?_; refine cw_region ?_; (refine lw_is ?_; refine lw_pure (by exact pur_eql rfl rfl) rfl ?_); (refine lw_is ?_; refine lw_pure (by exact pur_assign rfl) rfl ?_); refine lw_nil ?_; refine qw_then ?_; (refine cw_is ?_; refine cw_no rfl (by omega) ?_); refine cw_region ?_; (refine lw_is ?_; refine lw_pure (by exact pur_eql rfl rfl) rfl ?_); (refine lw_is ?_; refine lw_pure (by exact pur_assign rfl) rfl ?_); refine lw_nil ?_; refine qw_then ?_; (refine cw_is ?_; refine cw_no rfl (by omega) ?_); refine cw_seq ?_; refine cw_region ?_; (refine lw_is ?_; refine lw_pure (by exact pur_eql rfl rfl) rfl ?_); (refine lw_is ?_; refine lw_pure (by exact pur_assign rfl) rfl ?_); refine lw_nil ?_; refine qw_then ?_; (refine cw_is ?_; refine cw_yes rfl (by omega) ?_); refine cw_seq ?_)
  refine cw_draw (fun w' => Ext w1 w') (.pure 0 (.pure 1 (.pure 2 (.pure 3 (.pure 4 (.pure 5 (.pure 9 (.pure 10 (.pure 11 (.pure 12 (.pure 13 (.pure 14 (.pure 17 (.pure 20 (.pure 21 (.pure 22 (.pure 23 (.pure 24 (.pure 25 (.pure 28 (.pure 31 (.pure 32 (.pure 33 (.pure 34 (.fork 6 (.pure 7 (.pure 8 (.fork 15 (.pure 16 (.pure 18 (.pure 19 (.fork 26 (.pure 27 (.pure 29 (.pure 30 (.fork 35 (.pure 36 (.pure 37 (.pure 38 .done))) .none)))) .none)))) .none))) .none))))))))))))))))))))))))) mixed (by kernel_rfl) (by refine panicOk_then ?_; refine panicOk_block ?_; refine panicOk_then ?_; exact panicOk_body) ?_
  intro w2 x2 _
  refine ⟨x2, ?_⟩
  (refine dw_pure rfl (by exact pur_move rfl) rfl ?_; refine dw_pure rfl (by exact pur_sadd rfl rfl (by (simp only [List.length_cons, List.length_nil]; omega))) rfl ?_; refine dw_pure rfl (by exact pur_fieldAddr tabOk rfl rfl rfl) rfl ?_; refine dw_pure rfl (by exact pur_load tabOk rfl rfl rfl (by exact fun wz hz => by (try subst hz); exact (Ext.keep (by assumption) (Blk.cell (by assumption) (by rfl))))) rfl ?_; refine dw_pure rfl (by exact pur_indexAddr tabOk rfl rfl rfl rfl (by omega) (by omega)) rfl ?_; refine dw_pure rfl (by exact pur_loads' tabOk rfl rfl rfl (by exact fun wz hz => by (try subst hz); exact (Row.ext (Row.ext (by assumption) (by assumption)) (by assumption))) (by rfl)) rfl ?_; refine dw_pure rfl (by exact pur_fieldAddr tabOk rfl rfl rfl) rfl ?_; refine dw_pure rfl (by exact pur_load tabOk rfl rfl rfl (by exact fun wz hz => by (try subst hz); exact (Ext.keep (by assumption) (Blk.cell (by assumption) (by rfl))))) rfl ?_; refine dw_pure rfl (by exact pur_indexAddr tabOk rfl rfl rfl rfl (by omega) (by omega)) rfl ?_; refine dw_pure rfl (by exact pur_loads' tabOk rfl rfl rfl (by exact fun wz hz => by (try subst hz); exact (Row.ext (Row.ext (by assumption) (by assumption)) (by assumption))) (by rfl)) rfl ?_; refine dw_pure rfl (by exact pur_move rfl) rfl ?_; refine dw_pure rfl (by exact pur_add rfl rfl (IntWalk.i64_in _ (by omega))) rfl ?_; refine dw_pure rfl (by exact pur_move rfl) rfl ?_; refine dw_pure rfl (by exact pur_fieldAddr tabOk rfl rfl rfl) rfl ?_; refine dw_pure rfl (by exact pur_load tabOk rfl rfl rfl (by exact fun wz hz => by (try subst hz); exact (Ext.keep (by assumption) (Blk.cell (by assumption) (by rfl))))) rfl ?_; refine dw_pure rfl (by exact pur_indexAddr tabOk rfl rfl rfl rfl (by omega) (by omega)) rfl ?_; refine dw_pure rfl (by exact pur_loads' tabOk rfl rfl rfl (by exact fun wz hz => by (try subst hz); exact (Row.ext (Row.ext (by assumption) (by assumption)) (by assumption))) (by rfl)) rfl ?_; refine dw_pure rfl (by exact pur_move rfl) rfl ?_; refine dw_pure rfl (by exact pur_add rfl rfl (IntWalk.i64_in _ (by omega))) rfl ?_; refine dw_pure rfl (by exact pur_move rfl) rfl ?_; refine dw_pure rfl (by exact pur_fieldAddr tabOk rfl rfl rfl) rfl ?_; refine dw_pure rfl (by exact pur_load tabOk rfl rfl rfl (by exact fun wz hz => by (try subst hz); exact (Ext.keep (by assumption) (Blk.cell (by assumption) (by rfl))))) rfl ?_; refine dw_pure rfl (by exact pur_indexAddr tabOk rfl rfl rfl rfl (by omega) (by omega)) rfl ?_; refine dw_pure rfl (by exact pur_loads' tabOk rfl rfl rfl (by exact fun wz hz => by (try subst hz); exact (Row.ext (Row.ext (by assumption) (by assumption)) (by assumption))) (by rfl)) rfl ?_)
  refine dw_does rfl (does_call (by kernel_rfl) rfl (hx _ _ _ (sx.ext (by refine Ext.trans ?_ (by assumption); assumption))) (fun _ _ h => ⟨_, h.1⟩)) rfl ?_ (fun _ h => h) dw_none
  rintro _ w3 ⟨⟨⟩, x3⟩
  refine ⟨(by refine Ext.trans ?_ (by assumption); assumption), ?_⟩
  (refine dw_pure rfl (by exact pur_sadd rfl rfl (by (simp only [List.length_append, List.length_cons, List.length_nil]; omega))) rfl ?_; refine dw_pure rfl (by exact pur_sadd rfl rfl (by (simp only [List.length_append, List.length_cons, List.length_nil]; omega))) rfl ?_)
  refine dw_does rfl (does_call (by kernel_rfl) rfl (hy _ _ (d + 1) _ (by omega) (by omega) (sy.ext (by refine Ext.trans ?_ (by assumption); refine Ext.trans ?_ (by assumption); assumption))) (fun _ _ h => ⟨_, h.1⟩)) rfl ?_ (fun _ h => h) dw_none
  rintro _ w4 ⟨⟨⟩, x4⟩
  refine ⟨(by refine Ext.trans ?_ (by assumption); refine Ext.trans ?_ (by assumption); assumption), ?_⟩
  (refine dw_pure rfl (by exact pur_sadd rfl rfl (by (simp only [List.length_append, List.length_cons, List.length_nil]; omega))) rfl ?_; refine dw_pure rfl (by exact pur_sadd rfl rfl (by (simp only [List.length_append, List.length_cons, List.length_nil]; omega))) rfl ?_; refine dw_pure rfl (by exact pur_sadd rfl rfl (by (simp only [List.length_append, List.length_cons, List.length_nil]; omega))) rfl ?_)
  refine dw_does rfl (does_call (by kernel_rfl) rfl (hz _ _ (d + 1) _ (by omega) (by omega) (sz.ext (by refine Ext.trans ?_ (by assumption); refine Ext.trans ?_ (by assumption); refine Ext.trans ?_ (by assumption); assumption))) (fun _ _ h => ⟨_, h.1⟩)) rfl ?_ (fun _ h => h) dw_none
  rintro _ w5 ⟨⟨⟩, x5⟩
  refine ⟨(by refine Ext.trans ?_ (by assumption); refine Ext.trans ?_ (by assumption); refine Ext.trans ?_ (by assumption); assumption), ?_⟩
  (refine dw_pure rfl (by exact pur_sadd rfl rfl (by (simp only [List.length_append, List.length_cons, List.length_nil]; omega))) rfl ?_; refine dw_pure rfl (by exact pur_sadd rfl rfl (by (simp only [List.length_append, List.length_cons, List.length_nil]; omega))) rfl ?_; refine dw_pure rfl (by exact pur_sadd rfl rfl (by (simp only [List.length_append, List.length_cons, List.length_nil]; omega))) rfl ?_)
  refine dw_does rfl (does_call (by kernel_rfl) rfl (hu _ _ _ (su.ext (by refine Ext.trans ?_ (by assumption); refine Ext.trans ?_ (by assumption); refine Ext.trans ?_ (by assumption); refine Ext.trans ?_ (by assumption); assumption))) (fun _ _ h => ⟨_, h.1⟩)) rfl ?_ (fun _ h => h) dw_none
  rintro _ w6 ⟨⟨⟩, x6⟩
  refine ⟨(by refine Ext.trans ?_ (by assumption); refine Ext.trans ?_ (by assumption); refine Ext.trans ?_ (by assumption); refine Ext.trans ?_ (by assumption); assumption), ?_⟩
  (refine dw_pure rfl (by exact pur_sadd rfl rfl (by (simp only [List.length_append, List.length_cons, List.length_nil]; omega))) rfl ?_; refine dw_pure rfl (by exact pur_sadd rfl rfl (by (simp only [List.length_append, List.length_cons, List.length_nil]; omega))) rfl ?_; refine dw_pure rfl (by exact pur_assign rfl) rfl ?_; refine dw_done ?_)
  (refine qw_then ?_; refine cw_ret ?_; refine qw_block_ret ?_; refine qw_then_ret ?_)
  exact qw_ret1 Tryd.results35 rfl ⟨ret_str (by simp [kword, List.append_assoc]), (by refine Ext.trans ?_ (by assumption); refine Ext.trans ?_ (by assumption); refine Ext.trans ?_ (by assumption); refine Ext.trans ?_ (by assumption); refine Ext.trans ?_ (by assumption); assumption)⟩
set_option maxRecDepth 100000 in
set_option maxHeartbeats 1000000 in
theorem rs_53 (S : Nat → Prop) (n : Int) (s : List UInt8) (x y z u : Nd) (hx : Tells S 10 Nd.text x) (hy : LD S y) (hz : LD S z) (hu : Tells S 10 Nd.text u) : TD S (.mk 53 n s [x, y, z, u]) := by
  intro a c d w hd hlen hs
  rw [show (Nd.stmtT (.mk 53 n s [x, y, z, u]) d) = _ from by rw [Nd.stmtT.eq_def]] at hlen ⊢
  simp only [reduceIte, Int.reduceEq, or_false, Int.reduceLE, and_false] at hlen ⊢
  simp only [List.length_append, List.length_cons, List.length_nil, tabT_len] at hlen
  simp only [Nd.val, Nd.kind, Nd.num, Nd.name, Nd.kids, List.length_cons, List.length_nil]
  simp only [Nd.sits] at hs
  simp only [Nd.size, rowSize] at hd
  obtain ⟨kb, ko, rfl, -, hkid⟩ := kidRows hs (by simp)
  obtain ⟨xa, xc, rx, sx⟩ := hkid 0 x rfl
  obtain ⟨ya, yc, ry, sy⟩ := hkid 1 y rfl
  obtain ⟨za, zc, rz, sz⟩ := hkid 2 z rfl
  obtain ⟨ua, uc, ru, su⟩ := hkid 3 u rfl
  clear hkid hs
  have htl : (tabT d).length = d := tabT_len d
  refine calls_in Tryd.func35 Tryd.ntmps35 rfl rfl ?_
  (refine cw_seq ?_; refine cw_region ?_)
  refine lw_does (does_box rfl rfl) rfl ?_ (fun _ h => h)
  rintro _ w1 ⟨b1, rfl, hn1⟩
  have h1 := hn1.blk
  have x1 := hn1.ext
  ((refine lw_is ?_; refine lw_pure (by exact pur_assign rfl) rfl ?_); refine lw_nil ?_; refine qw_then ?_; refine cw_seq ?_; refine cw_region ?_; (refine lw_is ?_; refine lw_pure (by exact pur_move rfl) rfl ?_))
  refine lw_does (does_call (by kernel_rfl) rfl (rtabs_c _ _ (by omega)) (fun _ _ h => ⟨_, h.1⟩)) rfl ?_ (fun _ h => h)
  rintro _ _ ⟨⟨⟩, rfl⟩
  ((refine lw_is ?_; refine lw_pure (by exact pur_assign rfl) rfl ?_); refine lw_nil ?_; refine qw_then ?_; refine cw_seq ?_; refine cw_seq ?_; refine cw_region ?_; (refine lw_is ?_; refine lw_pure (by exact pur_fieldAddr0 tabOk rfl rfl rfl) rfl ?_); (refine lw_is ?_; refine lw_pure (by exact pur_load tabOk rfl rfl rfl (by exact fun wz hz => by (try subst hz); exact (Blk.cell (by assumption) (by rfl)))) rfl ?_); refine lw_nil ?_; refine qw_then ?_; refine cw_block ?_; refine cw_seq ?_; refine cw_seq ?_; refine cw_region ?_; (refine lw_is ?_; refine lw_pure (by exact pur_eql rfl rfl) rfl ?_); (refine lw_is ?_; refine lw_pure (by exact pur_assign rfl) rfl ?_); refine lw_nil ?_; refine qw_then ?_; (refine cw_is ?_; refine cw_no rfl (by omega) ?_); refine cw_seq ?_; refine cw_region ?_; (refine lw_is ?_; refine lw_pure (by exact pur_eql rfl rfl) rfl ?_); (refine lw_is ?_; refine lw_pure (by exact pur_assign rfl) rfl ?_); refine lw_nil ?_; refine qw_then ?_; (refine cw_is ?_; refine cw_no rfl (by omega) ?_); refine cw_region ?_; (refine lw_is ?_; refine lw_pure (by exact pur_eql rfl rfl) rfl ?_); (refine lw_is ?_; refine lw_pure (by exact pur_assign rfl) rfl ?_); refine lw_nil ?_; refine qw_then ?_; (refine cw_is ?_; refine cw_no rfl (by omega) ?_); refine cw_seq ?_; refine cw_region ?_; (refine lw_is ?_; refine lw_pure (by exact pur_eql rfl rfl) rfl ?_); (refine lw_is ?_; refine lw_pure (by exact pur_assign rfl) rfl ?_); refine lw_nil ?_; refine qw_then ?_; (refine cw_is ?_; refine cw_no rfl (by omega) ?_); refine cw_seq ?_; refine cw_region ?_; (refine lw_is ?_; refine lw_pure (by exact pur_eql rfl rfl) rfl ?_); (refine lw_is ?_; refine lw_pure (by exact pur_assign rfl) rfl ?_); refine lw_nil ?_; refine qw_then ?_; (refine cw_is ?_; refine cw_no rfl (by omega) ?_); refine cw_seq ?_; refine cw_seq ?_; refine cw_region ?_; (refine lw_is ?_; refine lw_pure (by exact pur_eql rfl rfl) rfl ?_); (refine lw_is ?_; refine lw_pure (by exact pur_assign rfl) rfl ?_); refine lw_nil ?_; refine qw_then ?_; (refine cw_is ?_; refine cw_no rfl (by omega) ?_); refine cw_region ?_; (refine lw_is ?_; refine lw_pure (by exact pur_eql rfl rfl) rfl ?_); (refine lw_is ?_; refine lw_pure (by exact pur_assign rfl) rfl ?_); refine lw_nil ?_; refine qw_then ?_; (refine cw_is ?_; refine cw_no rfl (by omega) ?_); refine cw_seq ?_; refine cw_seq ?_; refine cw_region ?_; (refine lw_is ?_; refine lw_pure (by exact pur_eql rfl rfl) rfl ?_); (refine lw_is ?_; refine lw_pure (by exact pur_assign rfl) rfl ?_); refine lw_nil ?_; refine qw_then ?_; (refine cw_is ?_; refine cw_no rfl (by omega) ?_); refine cw_seq ?_; refine cw_region ?_; (refine lw_is ?_; refine lw_pure (by exact pur_eql rfl rfl) rfl ?_); (refine lw_is ?_; refine lw_pure (by exact pur_assign rfl) rfl ?_); refine lw_nil ?_; refine qw_then ?_; (refine cw_is ?_; refine cw_no rfl (by omega) ?_); refine cw_seq ?_; refine cw_region ?_; (refine lw_is ?_; refine lw_pure (by exact pur_eql rfl rfl) rfl ?_); (refine lw_is ?_; refine lw_pure (by exact pur_assign rfl) rfl ?_); refine lw_nil ?_; refine qw_then ?_; (refine cw_is ?_; refine cw_no rfl (by omega) ?_); refine cw_region ?_; (refine lw_is ?_; refine lw_pure (by exact pur_eql rfl rfl) rfl ?_); (refine lw_is ?_; refine lw_pure (by exact pur_assign rfl) rfl ?_); refine lw_nil ?_; refine qw_then ?_; (refine cw_is ?_; refine cw_no rfl (by omega) ?_); refine cw_seq ?_; refine cw_seq ?_; refine cw_region ?_; (refine lw_is ?_; refine lw_pure (by exact pur_eql rfl rfl) rfl ?_); (refine lw_is ?_; refine lw_pure (by exact pur_assign rfl) rfl ?_); refine lw_nil ?_; refine qw_then ?_; (refine cw_is ?_; refine cw_no rfl (by omega) ?_); refine cw_region ?_; (refine lw_is ?_; refine lw_pure (by exact pur_eql rfl rfl) rfl ?_); (refine lw_is ?_; refine lw_pure (by exact pur_assign rfl) rfl ?_); refine lw_nil ?_; refine qw_then ?_; (refine cw_is ?_; refine cw_no rfl (by omega) ?_); refine cw_seq ?_; refine cw_region ?_; (refine lw_is ?_; refine lw_pure (by exact pur_eql rfl rfl) rfl ?_); (refine lw_is ?_; refine lw_pure (by exact pur_assign rfl) rfl ?_); refine lw_nil ?_; refine qw_then ?_; (refine cw_is ?_; refine cw_no rfl (by omega) ?_); refine cw_seq ?_; refine cw_region ?_; (refine lw_is ?_; refine lw_pure (by exact pur_eql rfl rfl) rfl ?_); (refine lw_is ?_; refine lw_pure (by exact pur_assign rfl) rfl ?_); refine lw_nil ?_; refine qw_then ?_; (refine cw_is ?_; refine cw_yes rfl (by omega) ?_); refine cw_seq ?_)
  refine cw_draw (fun w' => Ext w1 w') (.pure 0 (.pure 1 (.pure 2 (.pure 3 (.pure 4 (.pure 5 (.pure 9 (.pure 10 (.pure 11 (.pure 12 (.pure 13 (.pure 14 (.pure 17 (.pure 20 (.pure 21 (.pure 22 (.pure 23 (.pure 24 (.pure 25 (.pure 28 (.pure 31 (.pure 32 (.pure 33 (.pure 34 (.fork 6 (.pure 7 (.pure 8 (.fork 15 (.pure 16 (.pure 18 (.pure 19 (.fork 26 (.pure 27 (.pure 29 (.pure 30 (.fork 35 (.pure 36 (.pure 37 (.pure 38 .done))) .none)))) .none)))) .none))) .none))))))))))))))))))))))))) mixed (by kernel_rfl) (by refine panicOk_then ?_; refine panicOk_block ?_; refine panicOk_then ?_; exact panicOk_body) ?_
  intro w2 x2 _
  refine ⟨x2, ?_⟩
  (refine dw_pure rfl (by exact pur_move rfl) rfl ?_; refine dw_pure rfl (by exact pur_sadd rfl rfl (by (simp only [List.length_cons, List.length_nil]; omega))) rfl ?_; refine dw_pure rfl (by exact pur_fieldAddr tabOk rfl rfl rfl) rfl ?_; refine dw_pure rfl (by exact pur_load tabOk rfl rfl rfl (by exact fun wz hz => by (try subst hz); exact (Ext.keep (by assumption) (Blk.cell (by assumption) (by rfl))))) rfl ?_; refine dw_pure rfl (by exact pur_indexAddr tabOk rfl rfl rfl rfl (by omega) (by omega)) rfl ?_; refine dw_pure rfl (by exact pur_loads' tabOk rfl rfl rfl (by exact fun wz hz => by (try subst hz); exact (Row.ext (Row.ext (by assumption) (by assumption)) (by assumption))) (by rfl)) rfl ?_; refine dw_pure rfl (by exact pur_fieldAddr tabOk rfl rfl rfl) rfl ?_; refine dw_pure rfl (by exact pur_load tabOk rfl rfl rfl (by exact fun wz hz => by (try subst hz); exact (Ext.keep (by assumption) (Blk.cell (by assumption) (by rfl))))) rfl ?_; refine dw_pure rfl (by exact pur_indexAddr tabOk rfl rfl rfl rfl (by omega) (by omega)) rfl ?_; refine dw_pure rfl (by exact pur_loads' tabOk rfl rfl rfl (by exact fun wz hz => by (try subst hz); exact (Row.ext (Row.ext (by assumption) (by assumption)) (by assumption))) (by rfl)) rfl ?_; refine dw_pure rfl (by exact pur_move rfl) rfl ?_; refine dw_pure rfl (by exact pur_add rfl rfl (IntWalk.i64_in _ (by omega))) rfl ?_; refine dw_pure rfl (by exact pur_move rfl) rfl ?_; refine dw_pure rfl (by exact pur_fieldAddr tabOk rfl rfl rfl) rfl ?_; refine dw_pure rfl (by exact pur_load tabOk rfl rfl rfl (by exact fun wz hz => by (try subst hz); exact (Ext.keep (by assumption) (Blk.cell (by assumption) (by rfl))))) rfl ?_; refine dw_pure rfl (by exact pur_indexAddr tabOk rfl rfl rfl rfl (by omega) (by omega)) rfl ?_; refine dw_pure rfl (by exact pur_loads' tabOk rfl rfl rfl (by exact fun wz hz => by (try subst hz); exact (Row.ext (Row.ext (by assumption) (by assumption)) (by assumption))) (by rfl)) rfl ?_; refine dw_pure rfl (by exact pur_move rfl) rfl ?_; refine dw_pure rfl (by exact pur_add rfl rfl (IntWalk.i64_in _ (by omega))) rfl ?_; refine dw_pure rfl (by exact pur_move rfl) rfl ?_; refine dw_pure rfl (by exact pur_fieldAddr tabOk rfl rfl rfl) rfl ?_; refine dw_pure rfl (by exact pur_load tabOk rfl rfl rfl (by exact fun wz hz => by (try subst hz); exact (Ext.keep (by assumption) (Blk.cell (by assumption) (by rfl))))) rfl ?_; refine dw_pure rfl (by exact pur_indexAddr tabOk rfl rfl rfl rfl (by omega) (by omega)) rfl ?_; refine dw_pure rfl (by exact pur_loads' tabOk rfl rfl rfl (by exact fun wz hz => by (try subst hz); exact (Row.ext (Row.ext (by assumption) (by assumption)) (by assumption))) (by rfl)) rfl ?_)
  refine dw_does rfl (does_call (by kernel_rfl) rfl (hx _ _ _ (sx.ext (by refine Ext.trans ?_ (by assumption); assumption))) (fun _ _ h => ⟨_, h.1⟩)) rfl ?_ (fun _ h => h) dw_none
  rintro _ w3 ⟨⟨⟩, x3⟩
  refine ⟨(by refine Ext.trans ?_ (by assumption); assumption), ?_⟩
  (refine dw_pure rfl (by exact pur_sadd rfl rfl (by (simp only [List.length_append, List.length_cons, List.length_nil]; omega))) rfl ?_; refine dw_pure rfl (by exact pur_sadd rfl rfl (by (simp only [List.length_append, List.length_cons, List.length_nil]; omega))) rfl ?_)
  refine dw_does rfl (does_call (by kernel_rfl) rfl (hy _ _ (d + 1) _ (by omega) (by omega) (sy.ext (by refine Ext.trans ?_ (by assumption); refine Ext.trans ?_ (by assumption); assumption))) (fun _ _ h => ⟨_, h.1⟩)) rfl ?_ (fun _ h => h) dw_none
  rintro _ w4 ⟨⟨⟩, x4⟩
  refine ⟨(by refine Ext.trans ?_ (by assumption); refine Ext.trans ?_ (by assumption); assumption), ?_⟩
  (refine dw_pure rfl (by exact pur_sadd rfl rfl (by (simp only [List.length_append, List.length_cons, List.length_nil]; omega))) rfl ?_; refine dw_pure rfl (by exact pur_sadd rfl rfl (by (simp only [List.length_append, List.length_cons, List.length_nil]; omega))) rfl ?_; refine dw_pure rfl (by exact pur_sadd rfl rfl (by (simp only [List.length_append, List.length_cons, List.length_nil]; omega))) rfl ?_)
  refine dw_does rfl (does_call (by kernel_rfl) rfl (hz _ _ (d + 1) _ (by omega) (by omega) (sz.ext (by refine Ext.trans ?_ (by assumption); refine Ext.trans ?_ (by assumption); refine Ext.trans ?_ (by assumption); assumption))) (fun _ _ h => ⟨_, h.1⟩)) rfl ?_ (fun _ h => h) dw_none
  rintro _ w5 ⟨⟨⟩, x5⟩
  refine ⟨(by refine Ext.trans ?_ (by assumption); refine Ext.trans ?_ (by assumption); refine Ext.trans ?_ (by assumption); assumption), ?_⟩
  (refine dw_pure rfl (by exact pur_sadd rfl rfl (by (simp only [List.length_append, List.length_cons, List.length_nil]; omega))) rfl ?_; refine dw_pure rfl (by exact pur_sadd rfl rfl (by (simp only [List.length_append, List.length_cons, List.length_nil]; omega))) rfl ?_; refine dw_pure rfl (by exact pur_sadd rfl rfl (by (simp only [List.length_append, List.length_cons, List.length_nil]; omega))) rfl ?_)
  refine dw_does rfl (does_call (by kernel_rfl) rfl (hu _ _ _ (su.ext (by refine Ext.trans ?_ (by assumption); refine Ext.trans ?_ (by assumption); refine Ext.trans ?_ (by assumption); refine Ext.trans ?_ (by assumption); assumption))) (fun _ _ h => ⟨_, h.1⟩)) rfl ?_ (fun _ h => h) dw_none
  rintro _ w6 ⟨⟨⟩, x6⟩
  refine ⟨(by refine Ext.trans ?_ (by assumption); refine Ext.trans ?_ (by assumption); refine Ext.trans ?_ (by assumption); refine Ext.trans ?_ (by assumption); assumption), ?_⟩
  (refine dw_pure rfl (by exact pur_sadd rfl rfl (by (simp only [List.length_append, List.length_cons, List.length_nil]; omega))) rfl ?_; refine dw_pure rfl (by exact pur_sadd rfl rfl (by (simp only [List.length_append, List.length_cons, List.length_nil]; omega))) rfl ?_; refine dw_pure rfl (by exact pur_assign rfl) rfl ?_; refine dw_done ?_)
  (refine qw_then ?_; refine cw_ret ?_; refine qw_block_ret ?_; refine qw_then_ret ?_)
  exact qw_ret1 Tryd.results35 rfl ⟨ret_str (by simp [kword, List.append_assoc]), (by refine Ext.trans ?_ (by assumption); refine Ext.trans ?_ (by assumption); refine Ext.trans ?_ (by assumption); refine Ext.trans ?_ (by assumption); refine Ext.trans ?_ (by assumption); assumption)⟩
set_option maxRecDepth 100000 in
set_option maxHeartbeats 1000000 in
theorem rs_54 (S : Nat → Prop) (n : Int) (s : List UInt8) (x y z : Nd) (hx : Tells S 10 Nd.text x) (hy : LD S y) (hz : Tells S 10 Nd.text z) : TD S (.mk 54 n s [x, y, z]) := by
  intro a c d w hd hlen hs
  rw [show (Nd.stmtT (.mk 54 n s [x, y, z]) d) = _ from by rw [Nd.stmtT.eq_def]] at hlen ⊢
  simp only [reduceIte, Int.reduceEq, or_false, Int.reduceLE, and_false] at hlen ⊢
  simp only [List.length_append, List.length_cons, List.length_nil, tabT_len] at hlen
  simp only [Nd.val, Nd.kind, Nd.num, Nd.name, Nd.kids, List.length_cons, List.length_nil]
  simp only [Nd.sits] at hs
  simp only [Nd.size, rowSize] at hd
  obtain ⟨kb, ko, rfl, -, hkid⟩ := kidRows hs (by simp)
  obtain ⟨xa, xc, rx, sx⟩ := hkid 0 x rfl
  obtain ⟨ya, yc, ry, sy⟩ := hkid 1 y rfl
  obtain ⟨za, zc, rz, sz⟩ := hkid 2 z rfl
  clear hkid hs
  have htl : (tabT d).length = d := tabT_len d
  refine calls_in Tryd.func35 Tryd.ntmps35 rfl rfl ?_
  (refine cw_seq ?_; refine cw_region ?_)
  refine lw_does (does_box rfl rfl) rfl ?_ (fun _ h => h)
  rintro _ w1 ⟨b1, rfl, hn1⟩
  have h1 := hn1.blk
  have x1 := hn1.ext
  ((refine lw_is ?_; refine lw_pure (by exact pur_assign rfl) rfl ?_); refine lw_nil ?_; refine qw_then ?_; refine cw_seq ?_; refine cw_region ?_; (refine lw_is ?_; refine lw_pure (by exact pur_move rfl) rfl ?_))
  refine lw_does (does_call (by kernel_rfl) rfl (rtabs_c _ _ (by omega)) (fun _ _ h => ⟨_, h.1⟩)) rfl ?_ (fun _ h => h)
  rintro _ _ ⟨⟨⟩, rfl⟩
  ((refine lw_is ?_; refine lw_pure (by exact pur_assign rfl) rfl ?_); refine lw_nil ?_; refine qw_then ?_; refine cw_seq ?_; refine cw_seq ?_; refine cw_region ?_; (refine lw_is ?_; refine lw_pure (by exact pur_fieldAddr0 tabOk rfl rfl rfl) rfl ?_); (refine lw_is ?_; refine lw_pure (by exact pur_load tabOk rfl rfl rfl (by exact fun wz hz => by (try subst hz); exact (Blk.cell (by assumption) (by rfl)))) rfl ?_); refine lw_nil ?_; refine qw_then ?_; refine cw_block ?_; refine cw_seq ?_; refine cw_seq ?_; refine cw_region ?_; (refine lw_is ?_; refine lw_pure (by exact pur_eql rfl rfl) rfl ?_); (refine lw_is ?_; refine lw_pure (by exact pur_assign rfl) rfl ?_); refine lw_nil ?_; refine qw_then ?_; (refine cw_is ?_; refine cw_no rfl (by omega) ?_); refine cw_seq ?_; refine cw_region ?_; (refine lw_is ?_; refine lw_pure (by exact pur_eql rfl rfl) rfl ?_); (refine lw_is ?_; refine lw_pure (by exact pur_assign rfl) rfl ?_); refine lw_nil ?_; refine qw_then ?_; (refine cw_is ?_; refine cw_no rfl (by omega) ?_); refine cw_region ?_; (refine lw_is ?_; refine lw_pure (by exact pur_eql rfl rfl) rfl ?_); (refine lw_is ?_; refine lw_pure (by exact pur_assign rfl) rfl ?_); refine lw_nil ?_; refine qw_then ?_; (refine cw_is ?_; refine cw_no rfl (by omega) ?_); refine cw_seq ?_; refine cw_region ?_; (refine lw_is ?_; refine lw_pure (by exact pur_eql rfl rfl) rfl ?_); (refine lw_is ?_; refine lw_pure (by exact pur_assign rfl) rfl ?_); refine lw_nil ?_; refine qw_then ?_; (refine cw_is ?_; refine cw_no rfl (by omega) ?_); refine cw_seq ?_; refine cw_region ?_; (refine lw_is ?_; refine lw_pure (by exact pur_eql rfl rfl) rfl ?_); (refine lw_is ?_; refine lw_pure (by exact pur_assign rfl) rfl ?_); refine lw_nil ?_; refine qw_then ?_; (refine cw_is ?_; refine cw_no rfl (by omega) ?_); refine cw_seq ?_; refine cw_seq ?_; refine cw_region ?_; (refine lw_is ?_; refine lw_pure (by exact pur_eql rfl rfl) rfl ?_); (refine lw_is ?_; refine lw_pure (by exact pur_assign rfl) rfl ?_); refine lw_nil ?_; refine qw_then ?_; (refine cw_is ?_; refine cw_no rfl (by omega) ?_); refine cw_region ?_; (refine lw_is ?_; refine lw_pure (by exact pur_eql rfl rfl) rfl ?_); (refine lw_is ?_; refine lw_pure (by exact pur_assign rfl) rfl ?_); refine lw_nil ?_; refine qw_then ?_; (refine cw_is ?_; refine cw_no rfl (by omega) ?_); refine cw_seq ?_; refine cw_seq ?_; refine cw_region ?_; (refine lw_is ?_; refine lw_pure (by exact pur_eql rfl rfl) rfl ?_); (refine lw_is ?_; refine lw_pure (by exact pur_assign rfl) rfl ?_); refine lw_nil ?_; refine qw_then ?_; (refine cw_is ?_; refine cw_no rfl (by omega) ?_); refine cw_seq ?_; refine cw_region ?_; (refine lw_is ?_; refine lw_pure (by exact pur_eql rfl rfl) rfl ?_); (refine lw_is ?_; refine lw_pure (by exact pur_assign rfl) rfl ?_); refine lw_nil ?_; refine qw_then ?_; (refine cw_is ?_; refine cw_no rfl (by omega) ?_); refine cw_seq ?_; refine cw_region ?_; (refine lw_is ?_; refine lw_pure (by exact pur_eql rfl rfl) rfl ?_); (refine lw_is ?_; refine lw_pure (by exact pur_assign rfl) rfl ?_); refine lw_nil ?_; refine qw_then ?_; (refine cw_is ?_; refine cw_no rfl (by omega) ?_); refine cw_region ?_; (refine lw_is ?_; refine lw_pure (by exact pur_eql rfl rfl) rfl ?_); (refine lw_is ?_; refine lw_pure (by exact pur_assign rfl) rfl ?_); refine lw_nil ?_; refine qw_then ?_; (refine cw_is ?_; refine cw_no rfl (by omega) ?_); refine cw_seq ?_; refine cw_seq ?_; refine cw_region ?_; (refine lw_is ?_; refine lw_pure (by exact pur_eql rfl rfl) rfl ?_); (refine lw_is ?_; refine lw_pure (by exact pur_assign rfl) rfl ?_); refine lw_nil ?_; refine qw_then ?_; (refine cw_is ?_; refine cw_no rfl (by omega) ?_); refine cw_region ?_; (refine lw_is ?_; refine lw_pure (by exact pur_eql rfl rfl) rfl ?_); (refine lw_is ?_; refine lw_pure (by exact pur_assign rfl) rfl ?_); refine lw_nil ?_; refine qw_then ?_; (refine cw_is ?_; refine cw_no rfl (by omega) ?_); refine cw_seq ?_; refine cw_region ?_; (refine lw_is ?_; refine lw_pure (by exact pur_eql rfl rfl) rfl ?_); (refine lw_is ?_; refine lw_pure (by exact pur_assign rfl) rfl ?_); refine lw_nil ?_; refine qw_then ?_; (refine cw_is ?_; refine cw_no rfl (by omega) ?_); refine cw_seq ?_; refine cw_region ?_; (refine lw_is ?_; refine lw_pure (by exact pur_eql rfl rfl) rfl ?_); (refine lw_is ?_; refine lw_pure (by exact pur_assign rfl) rfl ?_); refine lw_nil ?_; refine qw_then ?_; (refine cw_is ?_; refine cw_no rfl (by omega) ?_); refine cw_seq ?_; refine cw_region ?_; (refine lw_is ?_; refine lw_pure (by exact pur_eql rfl rfl) rfl ?_); (refine lw_is ?_; refine lw_pure (by exact pur_assign rfl) rfl ?_); refine lw_nil ?_; refine qw_then ?_; (refine cw_is ?_; refine cw_yes rfl (by omega) ?_); refine cw_seq ?_)
  refine cw_draw (fun w' => Ext w1 w') (.pure 0 (.pure 1 (.pure 2 (.pure 3 (.pure 4 (.pure 5 (.pure 6 (.pure 7 (.pure 8 (.pure 9 (.pure 13 (.pure 14 (.pure 15 (.pure 16 (.pure 17 (.pure 18 (.pure 21 (.pure 24 (.pure 25 (.pure 26 (.pure 27 (.fork 10 (.pure 11 (.pure 12 (.fork 19 (.pure 20 (.pure 22 (.pure 23 (.fork 28 (.pure 29 (.pure 30 (.pure 31 .done))) .none)))) .none))) .none)))))))))))))))))))))) mixed (by kernel_rfl) (by refine panicOk_then ?_; refine panicOk_block ?_; refine panicOk_then ?_; exact panicOk_body) ?_
  intro w2 x2 _
  refine ⟨x2, ?_⟩
  (refine dw_pure rfl (by exact pur_move rfl) rfl ?_; refine dw_pure rfl (by exact pur_sadd rfl rfl (by (simp only [List.length_cons, List.length_nil]; omega))) rfl ?_; refine dw_pure rfl (by exact pur_fieldAddr tabOk rfl rfl rfl) rfl ?_; refine dw_pure rfl (by exact pur_load tabOk rfl rfl rfl (by exact fun wz hz => by (try subst hz); exact (Ext.keep (by assumption) (Blk.cell (by assumption) (by rfl))))) rfl ?_; refine dw_pure rfl (by exact pur_sadd rfl rfl (by (simp only [List.length_append, List.length_cons, List.length_nil]; omega))) rfl ?_; refine dw_pure rfl (by exact pur_sadd rfl rfl (by (simp only [List.length_append, List.length_cons, List.length_nil]; omega))) rfl ?_; refine dw_pure rfl (by exact pur_fieldAddr tabOk rfl rfl rfl) rfl ?_; refine dw_pure rfl (by exact pur_load tabOk rfl rfl rfl (by exact fun wz hz => by (try subst hz); exact (Ext.keep (by assumption) (Blk.cell (by assumption) (by rfl))))) rfl ?_; refine dw_pure rfl (by exact pur_indexAddr tabOk rfl rfl rfl rfl (by omega) (by omega)) rfl ?_; refine dw_pure rfl (by exact pur_loads' tabOk rfl rfl rfl (by exact fun wz hz => by (try subst hz); exact (Row.ext (Row.ext (by assumption) (by assumption)) (by assumption))) (by rfl)) rfl ?_; refine dw_pure rfl (by exact pur_fieldAddr tabOk rfl rfl rfl) rfl ?_; refine dw_pure rfl (by exact pur_load tabOk rfl rfl rfl (by exact fun wz hz => by (try subst hz); exact (Ext.keep (by assumption) (Blk.cell (by assumption) (by rfl))))) rfl ?_; refine dw_pure rfl (by exact pur_indexAddr tabOk rfl rfl rfl rfl (by omega) (by omega)) rfl ?_; refine dw_pure rfl (by exact pur_loads' tabOk rfl rfl rfl (by exact fun wz hz => by (try subst hz); exact (Row.ext (Row.ext (by assumption) (by assumption)) (by assumption))) (by rfl)) rfl ?_; refine dw_pure rfl (by exact pur_move rfl) rfl ?_; refine dw_pure rfl (by exact pur_add rfl rfl (IntWalk.i64_in _ (by omega))) rfl ?_; refine dw_pure rfl (by exact pur_move rfl) rfl ?_; refine dw_pure rfl (by exact pur_fieldAddr tabOk rfl rfl rfl) rfl ?_; refine dw_pure rfl (by exact pur_load tabOk rfl rfl rfl (by exact fun wz hz => by (try subst hz); exact (Ext.keep (by assumption) (Blk.cell (by assumption) (by rfl))))) rfl ?_; refine dw_pure rfl (by exact pur_indexAddr tabOk rfl rfl rfl rfl (by omega) (by omega)) rfl ?_; refine dw_pure rfl (by exact pur_loads' tabOk rfl rfl rfl (by exact fun wz hz => by (try subst hz); exact (Row.ext (Row.ext (by assumption) (by assumption)) (by assumption))) (by rfl)) rfl ?_)
  refine dw_does rfl (does_call (by kernel_rfl) rfl (hx _ _ _ (sx.ext (by refine Ext.trans ?_ (by assumption); assumption))) (fun _ _ h => ⟨_, h.1⟩)) rfl ?_ (fun _ h => h) dw_none
  rintro _ w3 ⟨⟨⟩, x3⟩
  refine ⟨(by refine Ext.trans ?_ (by assumption); assumption), ?_⟩
  (refine dw_pure rfl (by exact pur_sadd rfl rfl (by (simp only [List.length_append, List.length_cons, List.length_nil]; omega))) rfl ?_; refine dw_pure rfl (by exact pur_sadd rfl rfl (by (simp only [List.length_append, List.length_cons, List.length_nil]; omega))) rfl ?_)
  refine dw_does rfl (does_call (by kernel_rfl) rfl (hy _ _ (d + 1) _ (by omega) (by omega) (sy.ext (by refine Ext.trans ?_ (by assumption); refine Ext.trans ?_ (by assumption); assumption))) (fun _ _ h => ⟨_, h.1⟩)) rfl ?_ (fun _ h => h) dw_none
  rintro _ w4 ⟨⟨⟩, x4⟩
  refine ⟨(by refine Ext.trans ?_ (by assumption); refine Ext.trans ?_ (by assumption); assumption), ?_⟩
  (refine dw_pure rfl (by exact pur_sadd rfl rfl (by (simp only [List.length_append, List.length_cons, List.length_nil]; omega))) rfl ?_; refine dw_pure rfl (by exact pur_sadd rfl rfl (by (simp only [List.length_append, List.length_cons, List.length_nil]; omega))) rfl ?_; refine dw_pure rfl (by exact pur_sadd rfl rfl (by (simp only [List.length_append, List.length_cons, List.length_nil]; omega))) rfl ?_)
  refine dw_does rfl (does_call (by kernel_rfl) rfl (hz _ _ _ (sz.ext (by refine Ext.trans ?_ (by assumption); refine Ext.trans ?_ (by assumption); refine Ext.trans ?_ (by assumption); assumption))) (fun _ _ h => ⟨_, h.1⟩)) rfl ?_ (fun _ h => h) dw_none
  rintro _ w5 ⟨⟨⟩, x5⟩
  refine ⟨(by refine Ext.trans ?_ (by assumption); refine Ext.trans ?_ (by assumption); refine Ext.trans ?_ (by assumption); assumption), ?_⟩
  (refine dw_pure rfl (by exact pur_sadd rfl rfl (by (simp only [List.length_append, List.length_cons, List.length_nil]; omega))) rfl ?_; refine dw_pure rfl (by exact pur_sadd rfl rfl (by (simp only [List.length_append, List.length_cons, List.length_nil]; omega))) rfl ?_; refine dw_pure rfl (by exact pur_assign rfl) rfl ?_; refine dw_done ?_)
  (refine qw_then ?_; refine cw_ret ?_; refine qw_block_ret ?_; refine qw_then_ret ?_)
  exact qw_ret1 Tryd.results35 rfl ⟨ret_str (by simp [kword, List.append_assoc]), (by refine Ext.trans ?_ (by assumption); refine Ext.trans ?_ (by assumption); refine Ext.trans ?_ (by assumption); refine Ext.trans ?_ (by assumption); assumption)⟩
set_option maxRecDepth 100000 in
set_option maxHeartbeats 1000000 in
theorem rs_55 (S : Nat → Prop) (n : Int) (s : List UInt8) (x : Nd) (hx : LD S x) : TD S (.mk 55 n s [x]) := by
  intro a c d w hd hlen hs
  rw [show (Nd.stmtT (.mk 55 n s [x]) d) = _ from by rw [Nd.stmtT.eq_def]] at hlen ⊢
  simp only [reduceIte, Int.reduceEq, or_false, Int.reduceLE, and_false] at hlen ⊢
  simp only [List.length_append, List.length_cons, List.length_nil, tabT_len] at hlen
  simp only [Nd.val, Nd.kind, Nd.num, Nd.name, Nd.kids, List.length_cons, List.length_nil]
  simp only [Nd.sits] at hs
  simp only [Nd.size, rowSize] at hd
  obtain ⟨kb, ko, rfl, -, hkid⟩ := kidRows hs (by simp)
  obtain ⟨xa, xc, rx, sx⟩ := hkid 0 x rfl
  clear hkid hs
  have htl : (tabT d).length = d := tabT_len d
  refine calls_in Tryd.func35 Tryd.ntmps35 rfl rfl ?_
  (refine cw_seq ?_; refine cw_region ?_)
  refine lw_does (does_box rfl rfl) rfl ?_ (fun _ h => h)
  rintro _ w1 ⟨b1, rfl, hn1⟩
  have h1 := hn1.blk
  have x1 := hn1.ext
  ((refine lw_is ?_; refine lw_pure (by exact pur_assign rfl) rfl ?_); refine lw_nil ?_; refine qw_then ?_; refine cw_seq ?_; refine cw_region ?_; (refine lw_is ?_; refine lw_pure (by exact pur_move rfl) rfl ?_))
  refine lw_does (does_call (by kernel_rfl) rfl (rtabs_c _ _ (by omega)) (fun _ _ h => ⟨_, h.1⟩)) rfl ?_ (fun _ h => h)
  rintro _ _ ⟨⟨⟩, rfl⟩
  ((refine lw_is ?_; refine lw_pure (by exact pur_assign rfl) rfl ?_); refine lw_nil ?_; refine qw_then ?_; refine cw_seq ?_; refine cw_seq ?_; refine cw_region ?_; (refine lw_is ?_; refine lw_pure (by exact pur_fieldAddr0 tabOk rfl rfl rfl) rfl ?_); (refine lw_is ?_; refine lw_pure (by exact pur_load tabOk rfl rfl rfl (by exact fun wz hz => by (try subst hz); exact (Blk.cell (by assumption) (by rfl)))) rfl ?_); refine lw_nil ?_; refine qw_then ?_; refine cw_block ?_; refine cw_seq ?_; refine cw_seq ?_; refine cw_region ?_; (refine lw_is ?_; refine lw_pure (by exact pur_eql rfl rfl) rfl ?_); (refine lw_is ?_; refine lw_pure (by exact pur_assign rfl) rfl ?_); refine lw_nil ?_; refine qw_then ?_; (refine cw_is ?_; refine cw_no rfl (by omega) ?_); refine cw_seq ?_; refine cw_region ?_; (refine lw_is ?_; refine lw_pure (by exact pur_eql rfl rfl) rfl ?_); (refine lw_is ?_; refine lw_pure (by exact pur_assign rfl) rfl ?_); refine lw_nil ?_; refine qw_then ?_; (refine cw_is ?_; refine cw_no rfl (by omega) ?_); refine cw_region ?_; (refine lw_is ?_; refine lw_pure (by exact pur_eql rfl rfl) rfl ?_); (refine lw_is ?_; refine lw_pure (by exact pur_assign rfl) rfl ?_); refine lw_nil ?_; refine qw_then ?_; (refine cw_is ?_; refine cw_no rfl (by omega) ?_); refine cw_seq ?_; refine cw_region ?_; (refine lw_is ?_; refine lw_pure (by exact pur_eql rfl rfl) rfl ?_); (refine lw_is ?_; refine lw_pure (by exact pur_assign rfl) rfl ?_); refine lw_nil ?_; refine qw_then ?_; (refine cw_is ?_; refine cw_no rfl (by omega) ?_); refine cw_seq ?_; refine cw_region ?_; (refine lw_is ?_; refine lw_pure (by exact pur_eql rfl rfl) rfl ?_); (refine lw_is ?_; refine lw_pure (by exact pur_assign rfl) rfl ?_); refine lw_nil ?_; refine qw_then ?_; (refine cw_is ?_; refine cw_no rfl (by omega) ?_); refine cw_seq ?_; refine cw_seq ?_; refine cw_region ?_; (refine lw_is ?_; refine lw_pure (by exact pur_eql rfl rfl) rfl ?_); (refine lw_is ?_; refine lw_pure (by exact pur_assign rfl) rfl ?_); refine lw_nil ?_; refine qw_then ?_; (refine cw_is ?_; refine cw_no rfl (by omega) ?_); refine cw_region ?_; (refine lw_is ?_; refine lw_pure (by exact pur_eql rfl rfl) rfl ?_); (refine lw_is ?_; refine lw_pure (by exact pur_assign rfl) rfl ?_); refine lw_nil ?_; refine qw_then ?_; (refine cw_is ?_; refine cw_no rfl (by omega) ?_); refine cw_seq ?_; refine cw_seq ?_; refine cw_region ?_; (refine lw_is ?_; refine lw_pure (by exact pur_eql rfl rfl) rfl ?_); (refine lw_is ?_; refine lw_pure (by exact pur_assign rfl) rfl ?_); refine lw_nil ?_; refine qw_then ?_; (refine cw_is ?_; refine cw_no rfl (by omega) ?_); refine cw_seq ?_; refine cw_region ?_; (refine lw_is ?_; refine lw_pure (by exact pur_eql rfl rfl) rfl ?_); (refine lw_is ?_; refine lw_pure (by exact pur_assign rfl) rfl ?_); refine lw_nil ?_; refine qw_then ?_; (refine cw_is ?_; refine cw_no rfl (by omega) ?_); refine cw_seq ?_; refine cw_region ?_; (refine lw_is ?_; refine lw_pure (by exact pur_eql rfl rfl) rfl ?_); (refine lw_is ?_; refine lw_pure (by exact pur_assign rfl) rfl ?_); refine lw_nil ?_; refine qw_then ?_; (refine cw_is ?_; refine cw_no rfl (by omega) ?_); refine cw_region ?_; (refine lw_is ?_; refine lw_pure (by exact pur_eql rfl rfl) rfl ?_); (refine lw_is ?_; refine lw_pure (by exact pur_assign rfl) rfl ?_); refine lw_nil ?_; refine qw_then ?_; (refine cw_is ?_; refine cw_no rfl (by omega) ?_); refine cw_seq ?_; refine cw_seq ?_; refine cw_region ?_; (refine lw_is ?_; refine lw_pure (by exact pur_eql rfl rfl) rfl ?_); (refine lw_is ?_; refine lw_pure (by exact pur_assign rfl) rfl ?_); refine lw_nil ?_; refine qw_then ?_; (refine cw_is ?_; refine cw_no rfl (by omega) ?_); refine cw_region ?_; (refine lw_is ?_; refine lw_pure (by exact pur_eql rfl rfl) rfl ?_); (refine lw_is ?_; refine lw_pure (by exact pur_assign rfl) rfl ?_); refine lw_nil ?_; refine qw_then ?_; (refine cw_is ?_; refine cw_no rfl (by omega) ?_); refine cw_seq ?_; refine cw_region ?_; (refine lw_is ?_; refine lw_pure (by exact pur_eql rfl rfl) rfl ?_); (refine lw_is ?_; refine lw_pure (by exact pur_assign rfl) rfl ?_); refine lw_nil ?_; refine qw_then ?_; (refine cw_is ?_; refine cw_no rfl (by omega) ?_); refine cw_seq ?_; refine cw_region ?_; (refine lw_is ?_; refine lw_pure (by exact pur_eql rfl rfl) rfl ?_); (refine lw_is ?_; refine lw_pure (by exact pur_assign rfl) rfl ?_); refine lw_nil ?_; refine qw_then ?_; (refine cw_is ?_; refine cw_no rfl (by omega) ?_); refine cw_seq ?_; refine cw_region ?_; (refine lw_is ?_; refine lw_pure (by exact pur_eql rfl rfl) rfl ?_); (refine lw_is ?_; refine lw_pure (by exact pur_assign rfl) rfl ?_); refine lw_nil ?_; refine qw_then ?_; (refine cw_is ?_; refine cw_no rfl (by omega) ?_); refine cw_skip ?_; refine qw_block_norm ?_; refine qw_then ?_; refine cw_seq ?_)
  refine cw_draw (fun w' => Ext w1 w') (.pure 0 (.pure 1 (.pure 2 (.pure 3 (.pure 4 (.pure 5 (.pure 6 (.pure 7 (.pure 8 (.pure 9 (.pure 10 (.pure 11 (.pure 14 (.fork 12 (.pure 13 (.pure 15 (.pure 16 (.pure 17 .done)))) .none)))))))))))))) mixed (by kernel_rfl) (by refine panicOk_then ?_; exact panicOk_body) ?_
  intro w2 x2 _
  refine ⟨x2, ?_⟩
  (refine dw_pure rfl (by exact pur_move rfl) rfl ?_; refine dw_pure rfl (by exact pur_sadd rfl rfl (by (simp only [List.length_cons, List.length_nil]; omega))) rfl ?_; refine dw_pure rfl (by exact pur_fieldAddr tabOk rfl rfl rfl) rfl ?_; refine dw_pure rfl (by exact pur_load tabOk rfl rfl rfl (by exact fun wz hz => by (try subst hz); exact (Ext.keep (by assumption) (Blk.cell (by assumption) (by rfl))))) rfl ?_; refine dw_pure rfl (by exact pur_sadd rfl rfl (by (simp only [List.length_append, List.length_cons, List.length_nil]; omega))) rfl ?_; refine dw_pure rfl (by exact pur_sadd rfl rfl (by (simp only [List.length_append, List.length_cons, List.length_nil]; omega))) rfl ?_; refine dw_pure rfl (by exact pur_fieldAddr tabOk rfl rfl rfl) rfl ?_; refine dw_pure rfl (by exact pur_load tabOk rfl rfl rfl (by exact fun wz hz => by (try subst hz); exact (Ext.keep (by assumption) (Blk.cell (by assumption) (by rfl))))) rfl ?_; refine dw_pure rfl (by exact pur_indexAddr tabOk rfl rfl rfl rfl (by omega) (by omega)) rfl ?_; refine dw_pure rfl (by exact pur_loads' tabOk rfl rfl rfl (by exact fun wz hz => by (try subst hz); exact (Row.ext (Row.ext (by assumption) (by assumption)) (by assumption))) (by rfl)) rfl ?_; refine dw_pure rfl (by exact pur_move rfl) rfl ?_; refine dw_pure rfl (by exact pur_add rfl rfl (IntWalk.i64_in _ (by omega))) rfl ?_; refine dw_pure rfl (by exact pur_move rfl) rfl ?_)
  refine dw_does rfl (does_call (by kernel_rfl) rfl (hx _ _ (d + 1) _ (by omega) (by omega) (sx.ext (by refine Ext.trans ?_ (by assumption); assumption))) (fun _ _ h => ⟨_, h.1⟩)) rfl ?_ (fun _ h => h) dw_none
  rintro _ w3 ⟨⟨⟩, x3⟩
  refine ⟨(by refine Ext.trans ?_ (by assumption); assumption), ?_⟩
  (refine dw_pure rfl (by exact pur_sadd rfl rfl (by (simp only [List.length_append, List.length_cons, List.length_nil]; omega))) rfl ?_; refine dw_pure rfl (by exact pur_sadd rfl rfl (by (simp only [List.length_append, List.length_cons, List.length_nil]; omega))) rfl ?_; refine dw_pure rfl (by exact pur_sadd rfl rfl (by (simp only [List.length_append, List.length_cons, List.length_nil]; omega))) rfl ?_; refine dw_pure rfl (by exact pur_assign rfl) rfl ?_; refine dw_done ?_)
  (refine qw_then ?_; refine cw_ret ?_)
  exact qw_ret1 Tryd.results35 rfl ⟨ret_str (by simp [kword, List.append_assoc]), (by refine Ext.trans ?_ (by assumption); refine Ext.trans ?_ (by assumption); assumption)⟩
end Bk
