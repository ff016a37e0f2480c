/- Contracts of the reference's Stmt at calls, of Lines, and both for all trees (layer 5). -/
import Derived.Test.YtkadkafapjhhkaaDoorRefStmt
namespace Bk
open Go Go.RowKit Go.Proofs
theorem isVar_text {t : Nd} (h : t.isVar = true) : t.text = t.name := by
  obtain ⟨k, n, s, l⟩ := t
  simp only [Nd.isVar, Nd.kind, Bool.and_eq_true, beq_iff_eq] at h
  rw [h.1, Nd.text.eq_def]; simp [Nd.name]
set_option maxRecDepth 100000 in
set_option maxHeartbeats 1000000 in
theorem rs_50 (S : Nat → Prop) (k n : Int) (s : List UInt8) (l : List Nd) (hk : k = 50) (hv : ∀ t ∈ l, t.isVar = true) : TD S (.mk k n s l) := by
  intro a c d w hd hlen hs
  have hT : (Nd.mk k n s l).stmtT d = kword k ++ s ++ [40] ++ argsT true l ++ [41] := by subst hk; (rw [Nd.stmtT.eq_def]; simp)
  rw [hT] at hlen ⊢
  have hkw : kword k = rword k ++ [32] := rword_kword k (by omega) (by omega)
  rw [hkw] at hlen ⊢
  have HH := Lib.hid hkw
  clear hT hkw
  simp only [List.length_append, List.length_cons, List.length_nil, tabT_len] at hlen
  simp only [Nd.val, Nd.kind, Nd.num, Nd.name, Nd.kids, List.length_cons, List.length_nil]
  simp only [Nd.sits] at hs
  simp only [Nd.size, rowSize] at hd
  have htl : (tabT d).length = d := tabT_len d
  have hrw : (rword k).length ≤ 7 := by subst hk; decide
  have hk0 : 50 ≤ k := by omega
  have hk1 : k ≤ 51 := by omega
  have hmem : ∀ t ∈ l, t.size ≤ rowSize l := fun t ht => size_mem ht
  have hll : l.length ≤ rowSize l := by
    clear hlen hs hv hmem hd
    induction l with
    | nil => simp [rowSize]
    | cons x r ih => have := Nd.size_pos x; simp only [rowSize, List.length_cons]; omega
  refine calls_in Tryd.func35 Tryd.ntmps35 rfl rfl ?_
  (refine cw_seq ?_; refine cw_region ?_)
  refine lw_does (does_box rfl rfl) rfl ?_ (fun _ h => h)
  rintro _ w1 ⟨b1, rfl, hn1⟩
  have h1 := hn1.blk
  have x1 := hn1.ext
  ((refine lw_is ?_; refine lw_pure (by exact pur_assign rfl) rfl ?_); refine lw_nil ?_; refine qw_then ?_; refine cw_seq ?_; refine cw_region ?_; (refine lw_is ?_; refine lw_pure (by exact pur_move rfl) rfl ?_))
  refine lw_does (does_call (by kernel_rfl) rfl (rtabs_c _ _ (by omega)) (fun _ _ h => ⟨_, h.1⟩)) rfl ?_ (fun _ h => h)
  rintro _ _ ⟨⟨⟩, rfl⟩
  ((refine lw_is ?_; refine lw_pure (by exact pur_assign rfl) rfl ?_); refine lw_nil ?_; refine qw_then ?_; refine cw_seq ?_; refine cw_seq ?_; refine cw_region ?_; (refine lw_is ?_; refine lw_pure (by exact pur_fieldAddr0 tabOk rfl rfl rfl) rfl ?_); (refine lw_is ?_; refine lw_pure (by exact pur_load tabOk rfl rfl rfl (by exact fun wz hz => by (try subst hz); exact (Blk.cell (by assumption) (by rfl)))) rfl ?_); refine lw_nil ?_; refine qw_then ?_; refine cw_block ?_; refine cw_seq ?_; refine cw_seq ?_; refine cw_region ?_; (refine lw_is ?_; refine lw_pure (by exact pur_eql rfl rfl) rfl ?_); (refine lw_is ?_; refine lw_pure (by exact pur_assign rfl) rfl ?_); refine lw_nil ?_; refine qw_then ?_; (refine cw_is ?_; refine cw_no rfl (by omega) ?_); refine cw_seq ?_; refine cw_region ?_; (refine lw_is ?_; refine lw_pure (by exact pur_eql rfl rfl) rfl ?_); (refine lw_is ?_; refine lw_pure (by exact pur_assign rfl) rfl ?_); refine lw_nil ?_; refine qw_then ?_; (refine cw_is ?_; refine cw_no rfl (by omega) ?_); refine cw_region ?_; (refine lw_is ?_; refine lw_pure (by exact pur_eql rfl rfl) rfl ?_); (refine lw_is ?_; refine lw_pure (by exact pur_assign rfl) rfl ?_); refine lw_nil ?_; refine qw_then ?_; (refine cw_is ?_; refine cw_no rfl (by omega) ?_); refine cw_seq ?_; refine cw_region ?_; (refine lw_is ?_; refine lw_pure (by exact pur_eql rfl rfl) rfl ?_); (refine lw_is ?_; refine lw_pure (by exact pur_assign rfl) rfl ?_); refine lw_nil ?_; refine qw_then ?_; (refine cw_is ?_; refine cw_no rfl (by omega) ?_); refine cw_seq ?_; refine cw_region ?_; (refine lw_is ?_; refine lw_pure (by exact pur_eql rfl rfl) rfl ?_); (refine lw_is ?_; refine lw_pure (by exact pur_assign rfl) rfl ?_); refine lw_nil ?_; refine qw_then ?_; (refine cw_is ?_; refine cw_no rfl (by omega) ?_); refine cw_seq ?_; refine cw_seq ?_; refine cw_region ?_; (refine lw_is ?_; refine lw_pure (by exact pur_eql rfl rfl) rfl ?_); (refine lw_is ?_; refine lw_pure (by exact pur_assign rfl) rfl ?_); refine lw_nil ?_; refine qw_then ?_; (refine cw_is ?_; refine cw_no rfl (by omega) ?_); refine cw_region ?_; (refine lw_is ?_; refine lw_pure (by exact pur_eql rfl rfl) rfl ?_); (refine lw_is ?_; refine lw_pure (by exact pur_assign rfl) rfl ?_); refine lw_nil ?_; refine qw_then ?_; (refine cw_is ?_; refine cw_no rfl (by omega) ?_); refine cw_seq ?_; refine cw_seq ?_; refine cw_region ?_; (refine lw_is ?_; refine lw_pure (by exact pur_eql rfl rfl) rfl ?_); (refine lw_is ?_; refine lw_pure (by exact pur_assign rfl) rfl ?_); refine lw_nil ?_; refine qw_then ?_; (refine cw_is ?_; refine cw_no rfl (by omega) ?_); refine cw_seq ?_; refine cw_region ?_; (refine lw_is ?_; refine lw_pure (by exact pur_eql rfl rfl) rfl ?_); (refine lw_is ?_; refine lw_pure (by exact pur_assign rfl) rfl ?_); refine lw_nil ?_; refine qw_then ?_; (refine cw_is ?_; refine cw_no rfl (by omega) ?_); refine cw_seq ?_; refine cw_region ?_; (refine lw_is ?_; refine lw_pure (by exact pur_eql rfl rfl) rfl ?_); (refine lw_is ?_; refine lw_pure (by exact pur_assign rfl) rfl ?_); refine lw_nil ?_; refine qw_then ?_; (refine cw_is ?_; refine cw_no rfl (by omega) ?_); refine cw_region ?_; (refine lw_is ?_; refine lw_pure (by exact pur_eql rfl rfl) rfl ?_); (refine lw_is ?_; refine lw_pure (by exact pur_assign rfl) rfl ?_); refine lw_nil ?_; refine qw_then ?_; (refine cw_is ?_; refine cw_no rfl (by omega) ?_); refine cw_seq ?_; refine cw_seq ?_; refine cw_region ?_; (refine lw_is ?_; refine lw_pure (by exact pur_eql rfl rfl) rfl ?_); (refine lw_is ?_; refine lw_pure (by exact pur_assign rfl) rfl ?_); refine lw_nil ?_; refine qw_then ?_; (refine cw_is ?_; refine cw_yes rfl (by assumption) ?_); refine cw_skip ?_; refine qw_then ?_; (refine cw_is ?_; refine cw_yes rfl (by assumption) ?_); refine cw_seq ?_)
  refine cw_draw (fun w' => Ext w1 w') (.pure 0 (.pure 1 (.pure 2 (.pure 6 (.pure 7 (.fork 3 (.pure 4 (.pure 5 (.pure 8 (.pure 9 (.pure 10 .done))))) .none)))))) mixed (by kernel_rfl) (by refine panicOk_then ?_; refine panicOk_block ?_; refine panicOk_then ?_; exact panicOk_body) ?_
  intro w2 x2 _
  refine ⟨x2, ?_⟩
  (refine dw_pure rfl (by exact pur_move rfl) rfl ?_; refine dw_pure rfl (by exact pur_fieldAddr0 tabOk rfl rfl rfl) rfl ?_; refine dw_pure rfl (by exact pur_load tabOk rfl rfl rfl (by exact fun wz hz => by (try subst hz); exact (Ext.keep (by assumption) (Blk.cell (by assumption) (by rfl))))) rfl ?_; refine dw_pure rfl (by exact pur_fieldAddr tabOk rfl rfl rfl) rfl ?_; refine dw_pure rfl (by exact pur_load tabOk rfl rfl rfl (by exact fun wz hz => by (try subst hz); exact (Ext.keep (by assumption) (Blk.cell (by assumption) (by rfl))))) rfl ?_)
  refine dw_does rfl (does_call (by kernel_rfl) rfl (rword_c _ _ (by omega) (by omega)) (fun _ _ h => ⟨_, h.1⟩)) rfl ?_ (fun _ h => h) dw_none
  rintro _ _ ⟨⟨⟩, rfl⟩
  refine ⟨(by assumption), ?_⟩
  (refine dw_pure rfl (by exact pur_sadd rfl rfl (by omega)) rfl ?_; refine dw_pure rfl (by exact pur_sadd rfl rfl (by (simp only [List.length_append, List.length_cons, List.length_nil]; omega))) rfl ?_; refine dw_pure rfl (by exact pur_sadd rfl rfl (by (simp only [List.length_append, List.length_cons, List.length_nil]; omega))) rfl ?_; refine dw_pure rfl (by exact pur_sadd rfl rfl (by (simp only [List.length_append, List.length_cons, List.length_nil]; omega))) rfl ?_; refine dw_pure rfl (by exact pur_assign rfl) rfl ?_; refine dw_done ?_)
  (refine qw_then ?_; refine cw_seq ?_; refine cw_seq ?_; refine cw_region ?_; (refine lw_is ?_; refine lw_pure (by exact pur_assign rfl) rfl ?_); refine lw_nil ?_; refine qw_then ?_; refine cw_block ?_)
  have h2 := h1.ext x2
  have hs2 := hs.ext (x1.trans x2)
  refine cw_loop (ι := Nat) (fun j => [(7, .int .i64 j), (6, str (tabT d ++ rword k ++ [32] ++ s ++ [40] ++ argsT true (l.take j))), (2, .pointer (some ⟨b1, 0, none⟩))]) (fun j w' => w' = w2 ∧ j ≤ l.length) (fun j => l.length - j) 0 ?_ ⟨rfl, by omega⟩ ?_
  · refine sub_cons rfl (sub_cons' rfl ?_ (sub_cons rfl sub_nil))
    simp [argsT]
  rintro j w' ⟨rfl, hj⟩
  have hal := argsT_le l j
  by_cases hlt : j < l.length
  · obtain ⟨kb, ko, rfl, -, hkid⟩ := kidRows hs2 (by intro e; subst e; simp at hlt)
    obtain ⟨xa, xc, rx, -⟩ := hkid j l[j] (List.getElem?_eq_getElem hlt)
    have hsn := argsT_snoc l j hlt
    have hvt := isVar_text (hv l[j] (List.getElem_mem hlt))
    have hle2 := argsT_le l (j + 1)
    rw [hsn] at hle2
    rw [hvt] at hle2
    simp only [List.length_append] at hle2
    have HSN := Lib.hid hsn
    have HVT := Lib.hid hvt
    clear hsn hvt hkid
    by_cases hj0 : j = 0
    · subst hj0
      (refine cw_seq ?_; refine cw_seq ?_; refine cw_region ?_; (refine lw_is ?_; refine lw_pure (by exact pur_move rfl) rfl ?_); (refine lw_is ?_; refine lw_pure (by exact pur_fieldAddr tabOk rfl rfl rfl) rfl ?_); (refine lw_is ?_; refine lw_pure (by exact pur_load tabOk rfl rfl rfl (by exact fun wz hz => by (try subst hz); exact (Blk.cell (by assumption) (by rfl)))) rfl ?_); (refine lw_is ?_; refine lw_pure (by exact pur_len_slice tabOk rfl rfl) rfl ?_); (refine lw_is ?_; refine lw_pure (by exact pur_lss rfl rfl) rfl ?_); refine lw_nil ?_; refine qw_then ?_; (refine cw_is ?_; refine cw_yes rfl (by omega) ?_); refine cw_skip ?_; refine qw_then ?_; refine cw_seq ?_; refine cw_block ?_; refine cw_seq ?_; refine cw_seq ?_; refine cw_region ?_; (refine lw_is ?_; refine lw_pure (by exact pur_move rfl) rfl ?_); (refine lw_is ?_; refine lw_pure (by exact pur_gtr rfl rfl) rfl ?_); refine lw_nil ?_; refine qw_then ?_; (refine cw_is ?_; refine cw_no rfl (by omega) ?_); refine cw_skip ?_; refine qw_then ?_; refine cw_region ?_; (refine lw_is ?_; refine lw_pure (by exact pur_move rfl) rfl ?_); (refine lw_is ?_; refine lw_pure (by exact pur_fieldAddr tabOk rfl rfl rfl) rfl ?_); (refine lw_is ?_; refine lw_pure (by exact pur_load tabOk rfl rfl rfl (by exact fun wz hz => by (try subst hz); exact (Blk.cell (by assumption) (by rfl)))) rfl ?_); (refine lw_is ?_; refine lw_pure (by exact pur_move rfl) rfl ?_); (refine lw_is ?_; refine lw_pure (by exact pur_indexAddr tabOk rfl rfl rfl rfl (by omega) (by omega)) rfl ?_); (refine lw_is ?_; refine lw_pure (by exact pur_fieldAddr tabOk rfl rfl rfl) rfl ?_); (refine lw_is ?_; refine lw_pure (by exact pur_load tabOk rfl rfl rfl (by exact fun wz hz => by (try subst hz); exact (Row.at (by assumption) (by rfl)))) rfl ?_); (refine lw_is ?_; refine lw_pure (by exact pur_sadd rfl rfl (by (simp only [List.length_append, List.length_cons, List.length_nil]; omega))) rfl ?_); (refine lw_is ?_; refine lw_pure (by exact pur_assign rfl) rfl ?_); refine lw_nil ?_; refine qw_block_norm ?_; refine qw_then ?_; refine cw_region ?_; (refine lw_is ?_; refine lw_pure (by exact pur_move rfl) rfl ?_); (refine lw_is ?_; refine lw_pure (by exact pur_add rfl rfl (IntWalk.i64_in _ (by omega))) rfl ?_); (refine lw_is ?_; refine lw_pure (by exact pur_assign rfl) rfl ?_); refine lw_nil ?_)
      refine qw_round (1 : Nat) ?_ ⟨rfl, by omega⟩ (by simp; omega)
      refine sub_cons rfl (sub_cons' rfl ?_ (sub_cons rfl sub_nil))
      rw [HSN.out, HVT.out]; simp
    · rw [if_neg hj0] at hle2
      (refine cw_seq ?_; refine cw_seq ?_; refine cw_region ?_; (refine lw_is ?_; refine lw_pure (by exact pur_move rfl) rfl ?_); (refine lw_is ?_; refine lw_pure (by exact pur_fieldAddr tabOk rfl rfl rfl) rfl ?_); (refine lw_is ?_; refine lw_pure (by exact pur_load tabOk rfl rfl rfl (by exact fun wz hz => by (try subst hz); exact (Blk.cell (by assumption) (by rfl)))) rfl ?_); (refine lw_is ?_; refine lw_pure (by exact pur_len_slice tabOk rfl rfl) rfl ?_); (refine lw_is ?_; refine lw_pure (by exact pur_lss rfl rfl) rfl ?_); refine lw_nil ?_; refine qw_then ?_; (refine cw_is ?_; refine cw_yes rfl (by omega) ?_); refine cw_skip ?_; refine qw_then ?_; refine cw_seq ?_; refine cw_block ?_; refine cw_seq ?_; refine cw_seq ?_; refine cw_region ?_; (refine lw_is ?_; refine lw_pure (by exact pur_move rfl) rfl ?_); (refine lw_is ?_; refine lw_pure (by exact pur_gtr rfl rfl) rfl ?_); refine lw_nil ?_; refine qw_then ?_; (refine cw_is ?_; refine cw_yes rfl (by omega) ?_); refine cw_region ?_; (refine lw_is ?_; refine lw_pure (by exact pur_move rfl) rfl ?_); (refine lw_is ?_; refine lw_pure (by exact pur_sadd rfl rfl (by (simp only [List.length_append, List.length_cons, List.length_nil]; omega))) rfl ?_); (refine lw_is ?_; refine lw_pure (by exact pur_assign rfl) rfl ?_); refine lw_nil ?_; refine qw_then ?_; refine cw_region ?_; (refine lw_is ?_; refine lw_pure (by exact pur_move rfl) rfl ?_); (refine lw_is ?_; refine lw_pure (by exact pur_fieldAddr tabOk rfl rfl rfl) rfl ?_); (refine lw_is ?_; refine lw_pure (by exact pur_load tabOk rfl rfl rfl (by exact fun wz hz => by (try subst hz); exact (Blk.cell (by assumption) (by rfl)))) rfl ?_); (refine lw_is ?_; refine lw_pure (by exact pur_move rfl) rfl ?_); (refine lw_is ?_; refine lw_pure (by exact pur_indexAddr tabOk rfl rfl rfl rfl (by omega) (by omega)) rfl ?_); (refine lw_is ?_; refine lw_pure (by exact pur_fieldAddr tabOk rfl rfl rfl) rfl ?_); (refine lw_is ?_; refine lw_pure (by exact pur_load tabOk rfl rfl rfl (by exact fun wz hz => by (try subst hz); exact (Row.at (by assumption) (by rfl)))) rfl ?_); (refine lw_is ?_; refine lw_pure (by exact pur_sadd rfl rfl (by (simp only [List.length_append, List.length_cons, List.length_nil]; omega))) rfl ?_); (refine lw_is ?_; refine lw_pure (by exact pur_assign rfl) rfl ?_); refine lw_nil ?_; refine qw_block_norm ?_; refine qw_then ?_; refine cw_region ?_; (refine lw_is ?_; refine lw_pure (by exact pur_move rfl) rfl ?_); (refine lw_is ?_; refine lw_pure (by exact pur_add rfl rfl (IntWalk.i64_in _ (by omega))) rfl ?_); (refine lw_is ?_; refine lw_pure (by exact pur_assign rfl) rfl ?_); refine lw_nil ?_)
      refine qw_round (j + 1) ?_ ⟨rfl, by omega⟩ (by omega)
      refine sub_cons rfl (sub_cons' rfl ?_ (sub_cons rfl sub_nil))
      rw [HSN.out, HVT.out]; simp [hj0]
  · (refine cw_seq ?_; refine cw_seq ?_; refine cw_region ?_; (refine lw_is ?_; refine lw_pure (by exact pur_move rfl) rfl ?_); (refine lw_is ?_; refine lw_pure (by exact pur_fieldAddr tabOk rfl rfl rfl) rfl ?_); (refine lw_is ?_; refine lw_pure (by exact pur_load tabOk rfl rfl rfl (by exact fun wz hz => by (try subst hz); exact (Blk.cell (by assumption) (by rfl)))) rfl ?_); (refine lw_is ?_; refine lw_pure (by exact pur_len_slice tabOk rfl rfl) rfl ?_); (refine lw_is ?_; refine lw_pure (by exact pur_lss rfl rfl) rfl ?_); refine lw_nil ?_; refine qw_then ?_; (refine cw_is ?_; refine cw_no rfl (by omega) ?_); refine cw_exit ?_; refine qw_then_exit ?_; refine qw_then_exit ?_; refine qw_block_exit ?_; refine qw_then ?_; refine cw_seq ?_; refine cw_region ?_; (refine lw_is ?_; refine lw_pure (by exact pur_move rfl) rfl ?_); (refine lw_is ?_; refine lw_pure (by exact pur_sadd rfl rfl (by (simp only [List.length_append, List.length_cons, List.length_nil]; omega))) rfl ?_); (refine lw_is ?_; refine lw_pure (by exact pur_assign rfl) rfl ?_); refine lw_nil ?_; refine qw_then ?_; refine cw_ret ?_; refine qw_block_ret ?_; refine qw_then_ret ?_)
    have : j = l.length := by omega
    subst this
    exact qw_ret1 Tryd.results35 rfl ⟨ret_str (by simp), (by refine Ext.trans ?_ (by assumption); assumption)⟩
set_option maxRecDepth 100000 in
set_option maxHeartbeats 1000000 in
theorem rs_51 (S : Nat → Prop) (k n : Int) (s : List UInt8) (l : List Nd) (hk : k = 51) (hv : ∀ t ∈ l, t.isVar = true) : TD S (.mk k n s l) := by
  intro a c d w hd hlen hs
  have hT : (Nd.mk k n s l).stmtT d = kword k ++ s ++ [40] ++ argsT true l ++ [41] := by subst hk; (rw [Nd.stmtT.eq_def]; simp)
  rw [hT] at hlen ⊢
  have hkw : kword k = rword k ++ [32] := rword_kword k (by omega) (by omega)
  rw [hkw] at hlen ⊢
  have HH := Lib.hid hkw
  clear hT hkw
  simp only [List.length_append, List.length_cons, List.length_nil, tabT_len] at hlen
  simp only [Nd.val, Nd.kind, Nd.num, Nd.name, Nd.kids, List.length_cons, List.length_nil]
  simp only [Nd.sits] at hs
  simp only [Nd.size, rowSize] at hd
  have htl : (tabT d).length = d := tabT_len d
  have hrw : (rword k).length ≤ 7 := by subst hk; decide
  have hk0 : 50 ≤ k := by omega
  have hk1 : k ≤ 51 := by omega
  have hmem : ∀ t ∈ l, t.size ≤ rowSize l := fun t ht => size_mem ht
  have hll : l.length ≤ rowSize l := by
    clear hlen hs hv hmem hd
    induction l with
    | nil => simp [rowSize]
    | cons x r ih => have := Nd.size_pos x; simp only [rowSize, List.length_cons]; omega
  refine calls_in Tryd.func35 Tryd.ntmps35 rfl rfl ?_
  (refine cw_seq ?_; refine cw_region ?_)
  refine lw_does (does_box rfl rfl) rfl ?_ (fun _ h => h)
  rintro _ w1 ⟨b1, rfl, hn1⟩
  have h1 := hn1.blk
  have x1 := hn1.ext
  ((refine lw_is ?_; refine lw_pure (by exact pur_assign rfl) rfl ?_); refine lw_nil ?_; refine qw_then ?_; refine cw_seq ?_; refine cw_region ?_; (refine lw_is ?_; refine lw_pure (by exact pur_move rfl) rfl ?_))
  refine lw_does (does_call (by kernel_rfl) rfl (rtabs_c _ _ (by omega)) (fun _ _ h => ⟨_, h.1⟩)) rfl ?_ (fun _ h => h)
  rintro _ _ ⟨⟨⟩, rfl⟩
  ((refine lw_is ?_; refine lw_pure (by exact pur_assign rfl) rfl ?_); refine lw_nil ?_; refine qw_then ?_; refine cw_seq ?_; refine cw_seq ?_; refine cw_region ?_; (refine lw_is ?_; refine lw_pure (by exact pur_fieldAddr0 tabOk rfl rfl rfl) rfl ?_); (refine lw_is ?_; refine lw_pure (by exact pur_load tabOk rfl rfl rfl (by exact fun wz hz => by (try subst hz); exact (Blk.cell (by assumption) (by rfl)))) rfl ?_); refine lw_nil ?_; refine qw_then ?_; refine cw_block ?_; refine cw_seq ?_; refine cw_seq ?_; refine cw_region ?_; (refine lw_is ?_; refine lw_pure (by exact pur_eql rfl rfl) rfl ?_); (refine lw_is ?_; refine lw_pure (by exact pur_assign rfl) rfl ?_); refine lw_nil ?_; refine qw_then ?_; (refine cw_is ?_; refine cw_no rfl (by omega) ?_); refine cw_seq ?_; refine cw_region ?_; (refine lw_is ?_; refine lw_pure (by exact pur_eql rfl rfl) rfl ?_); (refine lw_is ?_; refine lw_pure (by exact pur_assign rfl) rfl ?_); refine lw_nil ?_; refine qw_then ?_; (refine cw_is ?_; refine cw_no rfl (by omega) ?_); refine cw_region ?_; (refine lw_is ?_; refine lw_pure (by exact pur_eql rfl rfl) rfl ?_); (refine lw_is ?_; refine lw_pure (by exact pur_assign rfl) rfl ?_); refine lw_nil ?_; refine qw_then ?_; (refine cw_is ?_; refine cw_no rfl (by omega) ?_); refine cw_seq ?_; refine cw_region ?_; (refine lw_is ?_; refine lw_pure (by exact pur_eql rfl rfl) rfl ?_); (refine lw_is ?_; refine lw_pure (by exact pur_assign rfl) rfl ?_); refine lw_nil ?_; refine qw_then ?_; (refine cw_is ?_; refine cw_no rfl (by omega) ?_); refine cw_seq ?_; refine cw_region ?_; (refine lw_is ?_; refine lw_pure (by exact pur_eql rfl rfl) rfl ?_); (refine lw_is ?_; refine lw_pure (by exact pur_assign rfl) rfl ?_); refine lw_nil ?_; refine qw_then ?_; (refine cw_is ?_; refine cw_no rfl (by omega) ?_); refine cw_seq ?_; refine cw_seq ?_; refine cw_region ?_; (refine lw_is ?_; refine lw_pure (by exact pur_eql rfl rfl) rfl ?_); (refine lw_is ?_; refine lw_pure (by exact pur_assign rfl) rfl ?_); refine lw_nil ?_; refine qw_then ?_; (refine cw_is ?_; refine cw_no rfl (by omega) ?_); refine cw_region ?_; (refine lw_is ?_; refine lw_pure (by exact pur_eql rfl rfl) rfl ?_); (refine lw_is ?_; refine lw_pure (by exact pur_assign rfl) rfl ?_); refine lw_nil ?_; refine qw_then ?_; (refine cw_is ?_; refine cw_no rfl (by omega) ?_); refine cw_seq ?_; refine cw_seq ?_; refine cw_region ?_; (refine lw_is ?_; refine lw_pure (by exact pur_eql rfl rfl) rfl ?_); (refine lw_is ?_; refine lw_pure (by exact pur_assign rfl) rfl ?_); refine lw_nil ?_; refine qw_then ?_; (refine cw_is ?_; refine cw_no rfl (by omega) ?_); refine cw_seq ?_; refine cw_region ?_; (refine lw_is ?_; refine lw_pure (by exact pur_eql rfl rfl) rfl ?_); (refine lw_is ?_; refine lw_pure (by exact pur_assign rfl) rfl ?_); refine lw_nil ?_; refine qw_then ?_; (refine cw_is ?_; refine cw_no rfl (by omega) ?_); refine cw_seq ?_; refine cw_region ?_; (refine lw_is ?_; refine lw_pure (by exact pur_eql rfl rfl) rfl ?_); (refine lw_is ?_; refine lw_pure (by exact pur_assign rfl) rfl ?_); refine lw_nil ?_; refine qw_then ?_; (refine cw_is ?_; refine cw_no rfl (by omega) ?_); refine cw_region ?_; (refine lw_is ?_; refine lw_pure (by exact pur_eql rfl rfl) rfl ?_); (refine lw_is ?_; refine lw_pure (by exact pur_assign rfl) rfl ?_); refine lw_nil ?_; refine qw_then ?_; (refine cw_is ?_; refine cw_no rfl (by omega) ?_); refine cw_seq ?_; refine cw_seq ?_; refine cw_region ?_; (refine lw_is ?_; refine lw_pure (by exact pur_eql rfl rfl) rfl ?_); (refine lw_is ?_; refine lw_pure (by exact pur_assign rfl) rfl ?_); refine lw_nil ?_; refine qw_then ?_; (refine cw_is ?_; refine cw_no rfl (by omega) ?_); refine cw_region ?_; (refine lw_is ?_; refine lw_pure (by exact pur_eql rfl rfl) rfl ?_); (refine lw_is ?_; refine lw_pure (by exact pur_assign rfl) rfl ?_); refine lw_nil ?_; refine qw_then ?_; (refine cw_is ?_; refine cw_yes rfl (by assumption) ?_); refine cw_seq ?_)
  refine cw_draw (fun w' => Ext w1 w') (.pure 0 (.pure 1 (.pure 2 (.pure 6 (.pure 7 (.fork 3 (.pure 4 (.pure 5 (.pure 8 (.pure 9 (.pure 10 .done))))) .none)))))) mixed (by kernel_rfl) (by refine panicOk_then ?_; refine panicOk_block ?_; refine panicOk_then ?_; exact panicOk_body) ?_
  intro w2 x2 _
  refine ⟨x2, ?_⟩
  (refine dw_pure rfl (by exact pur_move rfl) rfl ?_; refine dw_pure rfl (by exact pur_fieldAddr0 tabOk rfl rfl rfl) rfl ?_; refine dw_pure rfl (by exact pur_load tabOk rfl rfl rfl (by exact fun wz hz => by (try subst hz); exact (Ext.keep (by assumption) (Blk.cell (by assumption) (by rfl))))) rfl ?_; refine dw_pure rfl (by exact pur_fieldAddr tabOk rfl rfl rfl) rfl ?_; refine dw_pure rfl (by exact pur_load tabOk rfl rfl rfl (by exact fun wz hz => by (try subst hz); exact (Ext.keep (by assumption) (Blk.cell (by assumption) (by rfl))))) rfl ?_)
  refine dw_does rfl (does_call (by kernel_rfl) rfl (rword_c _ _ (by omega) (by omega)) (fun _ _ h => ⟨_, h.1⟩)) rfl ?_ (fun _ h => h) dw_none
  rintro _ _ ⟨⟨⟩, rfl⟩
  refine ⟨(by assumption), ?_⟩
  (refine dw_pure rfl (by exact pur_sadd rfl rfl (by omega)) rfl ?_; refine dw_pure rfl (by exact pur_sadd rfl rfl (by (simp only [List.length_append, List.length_cons, List.length_nil]; omega))) rfl ?_; refine dw_pure rfl (by exact pur_sadd rfl rfl (by (simp only [List.length_append, List.length_cons, List.length_nil]; omega))) rfl ?_; refine dw_pure rfl (by exact pur_sadd rfl rfl (by (simp only [List.length_append, List.length_cons, List.length_nil]; omega))) rfl ?_; refine dw_pure rfl (by exact pur_assign rfl) rfl ?_; refine dw_done ?_)
  (refine qw_then ?_; refine cw_seq ?_; refine cw_seq ?_; refine cw_region ?_; (refine lw_is ?_; refine lw_pure (by exact pur_assign rfl) rfl ?_); refine lw_nil ?_; refine qw_then ?_; refine cw_block ?_)
  have h2 := h1.ext x2
  have hs2 := hs.ext (x1.trans x2)
  refine cw_loop (ι := Nat) (fun j => [(7, .int .i64 j), (6, str (tabT d ++ rword k ++ [32] ++ s ++ [40] ++ argsT true (l.take j))), (2, .pointer (some ⟨b1, 0, none⟩))]) (fun j w' => w' = w2 ∧ j ≤ l.length) (fun j => l.length - j) 0 ?_ ⟨rfl, by omega⟩ ?_
  · refine sub_cons rfl (sub_cons' rfl ?_ (sub_cons rfl sub_nil))
    simp [argsT]
  rintro j w' ⟨rfl, hj⟩
  have hal := argsT_le l j
  by_cases hlt : j < l.length
  · obtain ⟨kb, ko, rfl, -, hkid⟩ := kidRows hs2 (by intro e; subst e; simp at hlt)
    obtain ⟨xa, xc, rx, -⟩ := hkid j l[j] (List.getElem?_eq_getElem hlt)
    have hsn := argsT_snoc l j hlt
    have hvt := isVar_text (hv l[j] (List.getElem_mem hlt))
    have hle2 := argsT_le l (j + 1)
    rw [hsn] at hle2
    rw [hvt] at hle2
    simp only [List.length_append] at hle2
    have HSN := Lib.hid hsn
    have HVT := Lib.hid hvt
    clear hsn hvt hkid
    by_cases hj0 : j = 0
    · subst hj0
      (refine cw_seq ?_; refine cw_seq ?_; refine cw_region ?_; (refine lw_is ?_; refine lw_pure (by exact pur_move rfl) rfl ?_); (refine lw_is ?_; refine lw_pure (by exact pur_fieldAddr tabOk rfl rfl rfl) rfl ?_); (refine lw_is ?_; refine lw_pure (by exact pur_load tabOk rfl rfl rfl (by exact fun wz hz => by (try subst hz); exact (Blk.cell (by assumption) (by rfl)))) rfl ?_); (refine lw_is ?_; refine lw_pure (by exact pur_len_slice tabOk rfl rfl) rfl ?_); (refine lw_is ?_; refine lw_pure (by exact pur_lss rfl rfl) rfl ?_); refine lw_nil ?_; refine qw_then ?_; (refine cw_is ?_; refine cw_yes rfl (by omega) ?_); refine cw_skip ?_; refine qw_then ?_; refine cw_seq ?_; refine cw_block ?_; refine cw_seq ?_; refine cw_seq ?_; refine cw_region ?_; (refine lw_is ?_; refine lw_pure (by exact pur_move rfl) rfl ?_); (refine lw_is ?_; refine lw_pure (by exact pur_gtr rfl rfl) rfl ?_); refine lw_nil ?_; refine qw_then ?_; (refine cw_is ?_; refine cw_no rfl (by omega) ?_); refine cw_skip ?_; refine qw_then ?_; refine cw_region ?_; (refine lw_is ?_; refine lw_pure (by exact pur_move rfl) rfl ?_); (refine lw_is ?_; refine lw_pure (by exact pur_fieldAddr tabOk rfl rfl rfl) rfl ?_); (refine lw_is ?_; refine lw_pure (by exact pur_load tabOk rfl rfl rfl (by exact fun wz hz => by (try subst hz); exact (Blk.cell (by assumption) (by rfl)))) rfl ?_); (refine lw_is ?_; refine lw_pure (by exact pur_move rfl) rfl ?_); (refine lw_is ?_; refine lw_pure (by exact pur_indexAddr tabOk rfl rfl rfl rfl (by omega) (by omega)) rfl ?_); (refine lw_is ?_; refine lw_pure (by exact pur_fieldAddr tabOk rfl rfl rfl) rfl ?_); (refine lw_is ?_; refine lw_pure (by exact pur_load tabOk rfl rfl rfl (by exact fun wz hz => by (try subst hz); exact (Row.at (by assumption) (by rfl)))) rfl ?_); (refine lw_is ?_; refine lw_pure (by exact pur_sadd rfl rfl (by (simp only [List.length_append, List.length_cons, List.length_nil]; omega))) rfl ?_); (refine lw_is ?_; refine lw_pure (by exact pur_assign rfl) rfl ?_); refine lw_nil ?_; refine qw_block_norm ?_; refine qw_then ?_; refine cw_region ?_; (refine lw_is ?_; refine lw_pure (by exact pur_move rfl) rfl ?_); (refine lw_is ?_; refine lw_pure (by exact pur_add rfl rfl (IntWalk.i64_in _ (by omega))) rfl ?_); (refine lw_is ?_; refine lw_pure (by exact pur_assign rfl) rfl ?_); refine lw_nil ?_)
      refine qw_round (1 : Nat) ?_ ⟨rfl, by omega⟩ (by simp; omega)
      refine sub_cons rfl (sub_cons' rfl ?_ (sub_cons rfl sub_nil))
      rw [HSN.out, HVT.out]; simp
    · rw [if_neg hj0] at hle2
      (refine cw_seq ?_; refine cw_seq ?_; refine cw_region ?_; (refine lw_is ?_; refine lw_pure (by exact pur_move rfl) rfl ?_); (refine lw_is ?_; refine lw_pure (by exact pur_fieldAddr tabOk rfl rfl rfl) rfl ?_); (refine lw_is ?_; refine lw_pure (by exact pur_load tabOk rfl rfl rfl (by exact fun wz hz => by (try subst hz); exact (Blk.cell (by assumption) (by rfl)))) rfl ?_); (refine lw_is ?_; refine lw_pure (by exact pur_len_slice tabOk rfl rfl) rfl ?_); (refine lw_is ?_; refine lw_pure (by exact pur_lss rfl rfl) rfl ?_); refine lw_nil ?_; refine qw_then ?_; (refine cw_is ?_; refine cw_yes rfl (by omega) ?_); refine cw_skip ?_; refine qw_then ?_; refine cw_seq ?_; refine cw_block ?_; refine cw_seq ?_; refine cw_seq ?_; refine cw_region ?_; (refine lw_is ?_; refine lw_pure (by exact pur_move rfl) rfl ?_); (refine lw_is ?_; refine lw_pure (by exact pur_gtr rfl rfl) rfl ?_); refine lw_nil ?_; refine qw_then ?_; (refine cw_is ?_; refine cw_yes rfl (by omega) ?_); refine cw_region ?_; (refine lw_is ?_; refine lw_pure (by exact pur_move rfl) rfl ?_); (refine lw_is ?_; refine lw_pure (by exact pur_sadd rfl rfl (by (simp only [List.length_append, List.length_cons, List.length_nil]; omega))) rfl ?_); (refine lw_is ?_; refine lw_pure (by exact pur_assign rfl) rfl ?_); refine lw_nil ?_; refine qw_then ?_; refine cw_region ?_; (refine lw_is ?_; refine lw_pure (by exact pur_move rfl) rfl ?_); (refine lw_is ?_; refine lw_pure (by exact pur_fieldAddr tabOk rfl rfl rfl) rfl ?_); (refine lw_is ?_; refine lw_pure (by exact pur_load tabOk rfl rfl rfl (by exact fun wz hz => by (try subst hz); exact (Blk.cell (by assumption) (by rfl)))) rfl ?_); (refine lw_is ?_; refine lw_pure (by exact pur_move rfl) rfl ?_); (refine lw_is ?_; refine lw_pure (by exact pur_indexAddr tabOk rfl rfl rfl rfl (by omega) (by omega)) rfl ?_); (refine lw_is ?_; refine lw_pure (by exact pur_fieldAddr tabOk rfl rfl rfl) rfl ?_); (refine lw_is ?_; refine lw_pure (by exact pur_load tabOk rfl rfl rfl (by exact fun wz hz => by (try subst hz); exact (Row.at (by assumption) (by rfl)))) rfl ?_); (refine lw_is ?_; refine lw_pure (by exact pur_sadd rfl rfl (by (simp only [List.length_append, List.length_cons, List.length_nil]; omega))) rfl ?_); (refine lw_is ?_; refine lw_pure (by exact pur_assign rfl) rfl ?_); refine lw_nil ?_; refine qw_block_norm ?_; refine qw_then ?_; refine cw_region ?_; (refine lw_is ?_; refine lw_pure (by exact pur_move rfl) rfl ?_); (refine lw_is ?_; refine lw_pure (by exact pur_add rfl rfl (IntWalk.i64_in _ (by omega))) rfl ?_); (refine lw_is ?_; refine lw_pure (by exact pur_assign rfl) rfl ?_); refine lw_nil ?_)
      refine qw_round (j + 1) ?_ ⟨rfl, by omega⟩ (by omega)
      refine sub_cons rfl (sub_cons' rfl ?_ (sub_cons rfl sub_nil))
      rw [HSN.out, HVT.out]; simp [hj0]
  · (refine cw_seq ?_; refine cw_seq ?_; refine cw_region ?_; (refine lw_is ?_; refine lw_pure (by exact pur_move rfl) rfl ?_); (refine lw_is ?_; refine lw_pure (by exact pur_fieldAddr tabOk rfl rfl rfl) rfl ?_); (refine lw_is ?_; refine lw_pure (by exact pur_load tabOk rfl rfl rfl (by exact fun wz hz => by (try subst hz); exact (Blk.cell (by assumption) (by rfl)))) rfl ?_); (refine lw_is ?_; refine lw_pure (by exact pur_len_slice tabOk rfl rfl) rfl ?_); (refine lw_is ?_; refine lw_pure (by exact pur_lss rfl rfl) rfl ?_); refine lw_nil ?_; refine qw_then ?_; (refine cw_is ?_; refine cw_no rfl (by omega) ?_); refine cw_exit ?_; refine qw_then_exit ?_; refine qw_then_exit ?_; refine qw_block_exit ?_; refine qw_then ?_; refine cw_seq ?_; refine cw_region ?_; (refine lw_is ?_; refine lw_pure (by exact pur_move rfl) rfl ?_); (refine lw_is ?_; refine lw_pure (by exact pur_sadd rfl rfl (by (simp only [List.length_append, List.length_cons, List.length_nil]; omega))) rfl ?_); (refine lw_is ?_; refine lw_pure (by exact pur_assign rfl) rfl ?_); refine lw_nil ?_; refine qw_then ?_; refine cw_ret ?_; refine qw_block_ret ?_; refine qw_then_ret ?_)
    have : j = l.length := by omega
    subst this
    exact qw_ret1 Tryd.results35 rfl ⟨ret_str (by simp), (by refine Ext.trans ?_ (by assumption); assumption)⟩
set_option maxRecDepth 100000 in
set_option maxHeartbeats 1000000 in
theorem rlines (S : Nat → Prop) (k n : Int) (s : List UInt8) (l : List Nd) (hx : ∀ t ∈ l, TD S t) : LD S (.mk k n s l) := by
  intro a c d w hd hlen hs
  rw [show (Nd.mk k n s l).linesT d = rowLines l d from by simp [Nd.linesT]] at hlen ⊢
  simp only [Nd.val, Nd.kind, Nd.num, Nd.name, Nd.kids]
  simp only [Nd.sits] at hs
  simp only [Nd.size, rowSize] at hd
  have hll : l.length ≤ rowSize l := by
    clear hlen hs hx hd
    induction l with
    | nil => simp [rowSize]
    | cons x r ih => have := Nd.size_pos x; simp only [rowSize, List.length_cons]; omega
  refine calls_in Tryd.func13 Tryd.ntmps13 rfl rfl ?_
  (refine cw_seq ?_; refine cw_region ?_)
  refine lw_does (does_box rfl rfl) rfl ?_ (fun _ h => h)
  rintro _ w1 ⟨b1, rfl, hn1⟩
  have h1 := hn1.blk
  have x1 := hn1.ext
  ((refine lw_is ?_; refine lw_pure (by exact pur_assign rfl) rfl ?_); refine lw_nil ?_; refine qw_then ?_; refine cw_seq ?_; refine cw_region ?_; (refine lw_is ?_; refine lw_pure (by exact pur_assign rfl) rfl ?_); refine lw_nil ?_; refine qw_then ?_; refine cw_seq ?_; refine cw_seq ?_; refine cw_region ?_; (refine lw_is ?_; refine lw_pure (by exact pur_assign rfl) rfl ?_); refine lw_nil ?_; refine qw_then ?_; refine cw_block ?_)
  refine cw_loop (ι := Nat) (fun j => [(6, .int .i64 j), (5, str (rowLines (l.take j) d)), (2, .pointer (some ⟨b1, 0, none⟩)), (1, .int .i64 d)]) (fun j w' => Ext w1 w' ∧ j ≤ l.length) (fun j => l.length - j) 0 ?_ ⟨Ext.refl _, by omega⟩ ?_
  · refine sub_cons rfl (sub_cons' rfl ?_ (sub_cons rfl (sub_cons rfl sub_nil)))
    simp [rowLines]
  rintro j w2 ⟨x2, hj⟩
  have hal := rowLines_le l j d
  have h2 := h1.ext x2
  have hs2 := hs.ext (x1.trans x2)
  by_cases hlt : j < l.length
  · obtain ⟨kb, ko, rfl, -, hkid⟩ := kidRows hs2 (by intro e; subst e; simp at hlt)
    obtain ⟨xa, xc, rx, sx⟩ := hkid j l[j] (List.getElem?_eq_getElem hlt)
    have hsn := rowLines_snoc l j d hlt
    have hle2 := rowLines_le l (j + 1) d
    rw [hsn] at hle2
    simp only [List.length_append, List.length_cons, List.length_nil] at hle2
    have hsz := size_mem (List.getElem_mem hlt)
    have HSN := Lib.hid hsn
    clear hsn hkid
    (refine cw_seq ?_; refine cw_seq ?_; refine cw_region ?_; (refine lw_is ?_; refine lw_pure (by exact pur_move rfl) rfl ?_); (refine lw_is ?_; refine lw_pure (by exact pur_fieldAddr tabOk rfl rfl rfl) rfl ?_); (refine lw_is ?_; refine lw_pure (by exact pur_load tabOk rfl rfl rfl (by exact fun wz hz => by (try subst hz); exact (Blk.cell (by assumption) (by rfl)))) rfl ?_); (refine lw_is ?_; refine lw_pure (by exact pur_len_slice tabOk rfl rfl) rfl ?_); (refine lw_is ?_; refine lw_pure (by exact pur_lss rfl rfl) rfl ?_); refine lw_nil ?_; refine qw_then ?_; (refine cw_is ?_; refine cw_yes rfl (by omega) ?_); refine cw_skip ?_; refine qw_then ?_; refine cw_seq ?_; refine cw_block ?_; refine cw_region ?_; (refine lw_is ?_; refine lw_pure (by exact pur_move rfl) rfl ?_); (refine lw_is ?_; refine lw_pure (by exact pur_fieldAddr tabOk rfl rfl rfl) rfl ?_); (refine lw_is ?_; refine lw_pure (by exact pur_load tabOk rfl rfl rfl (by exact fun wz hz => by (try subst hz); exact (Blk.cell (by assumption) (by rfl)))) rfl ?_); (refine lw_is ?_; refine lw_pure (by exact pur_move rfl) rfl ?_); (refine lw_is ?_; refine lw_pure (by exact pur_indexAddr tabOk rfl rfl rfl rfl (by omega) (by omega)) rfl ?_); (refine lw_is ?_; refine lw_pure (by exact pur_loads' tabOk rfl rfl rfl (by exact fun wz hz => by (try subst hz); exact (by assumption)) (by rfl)) rfl ?_); (refine lw_is ?_; refine lw_pure (by exact pur_move rfl) rfl ?_))
    refine lw_does (does_call (by kernel_rfl) rfl (hx l[j] (List.getElem_mem hlt) _ _ d _ (by omega) (by omega) sx) (fun _ _ h => ⟨_, h.1⟩)) rfl ?_ (fun _ h => h)
    rintro _ w3 ⟨⟨⟩, x3⟩
    ((refine lw_is ?_; refine lw_pure (by exact pur_sadd rfl rfl (by (simp only [List.length_append, List.length_cons, List.length_nil]; omega))) rfl ?_); (refine lw_is ?_; refine lw_pure (by exact pur_assign rfl) rfl ?_); refine lw_nil ?_; refine qw_block_norm ?_; refine qw_then ?_; refine cw_region ?_; (refine lw_is ?_; refine lw_pure (by exact pur_move rfl) rfl ?_); (refine lw_is ?_; refine lw_pure (by exact pur_add rfl rfl (IntWalk.i64_in _ (by omega))) rfl ?_); (refine lw_is ?_; refine lw_pure (by exact pur_assign rfl) rfl ?_); refine lw_nil ?_)
    refine qw_round (j + 1) ?_ ⟨x2.trans x3, by omega⟩ (by omega)
    refine sub_cons rfl (sub_cons' rfl ?_ (sub_cons rfl (sub_cons rfl sub_nil)))
    rw [HSN.out]
  · (refine cw_seq ?_; refine cw_seq ?_; refine cw_region ?_; (refine lw_is ?_; refine lw_pure (by exact pur_move rfl) rfl ?_); (refine lw_is ?_; refine lw_pure (by exact pur_fieldAddr tabOk rfl rfl rfl) rfl ?_); (refine lw_is ?_; refine lw_pure (by exact pur_load tabOk rfl rfl rfl (by exact fun wz hz => by (try subst hz); exact (Blk.cell (by assumption) (by rfl)))) rfl ?_); (refine lw_is ?_; refine lw_pure (by exact pur_len_slice tabOk rfl rfl) rfl ?_); (refine lw_is ?_; refine lw_pure (by exact pur_lss rfl rfl) rfl ?_); refine lw_nil ?_; refine qw_then ?_; (refine cw_is ?_; refine cw_no rfl (by omega) ?_); refine cw_exit ?_; refine qw_then_exit ?_; refine qw_then_exit ?_; refine qw_block_exit ?_; refine qw_then ?_; refine cw_seq ?_; refine cw_region ?_; (refine lw_is ?_; refine lw_pure (by exact pur_move rfl) rfl ?_); (refine lw_is ?_; refine lw_pure (by exact pur_assign rfl) rfl ?_); refine lw_nil ?_; refine qw_then ?_; refine cw_ret ?_)
    have : j = l.length := by omega
    subst this
    exact qw_ret1 Tryd.results13 rfl ⟨ret_str (by simp), x1.trans x2⟩
theorem rstmt_all (S : Nat → Prop) (N : Nat) : (∀ t : Nd, t.size < N → t.size ≤ 1000000 → t.wf → t.isStmt = true → TD S t) ∧ (∀ t : Nd, t.size < N → t.size ≤ 1000000 → t.wf → t.isBlock = true → LD S t) := by
  induction N with
  | zero => exact ⟨fun t h => absurd h (Nat.not_lt_zero _), fun t h => absurd h (Nat.not_lt_zero _)⟩
  | succ N ih =>
    have hE : ∀ t : Nd, t.size ≤ 1000000 → t.wf → t.isExpr = true → Tells S 10 Nd.text t := fun t h1 h2 h3 => refExpr_t S t (by omega) h2 h3
    have hP : ∀ t : Nd, t.isPlace = true → t.isExpr = true := fun t h => by simp only [Nd.isPlace, Bool.and_eq_true] at h; exact h.2
    refine ⟨?_, ?_⟩
    · rintro ⟨k, n, s, l⟩ hN hM hwf he
      simp only [Nd.wf, Nd.size] at hwf hN hM
      obtain ⟨hk0, hk1, hn0, hn1, hsl, hll, hrw⟩ := hwf
      rw [Nd.isStmt.eq_def] at he
      simp only [] at he
      by_cases c1 : k = 40 ∨ k = 41 ∨ k = 42 ∨ k = 56
      · rw [if_pos c1] at he
        rcases l with _ | ⟨x, _ | ⟨y, _ | ⟨z, l⟩⟩⟩ <;> simp at he
        simp only [rowSize, rowWf] at hN hM hrw
        have ex := hE x (by omega) hrw.1 (hP x he.2.1)
        have ey := hE y (by omega) hrw.2.1 he.2.2
        rcases c1 with rfl | rfl | rfl | rfl
        · exact rs_40 S n s x y ex ey
        · exact rs_41 S n s x y ex ey
        · exact rs_42 S n s x y ex ey
        · exact rs_56 S n s x y ex ey
      rw [if_neg c1] at he
      by_cases c2 : k = 43
      · rw [if_pos c2] at he
        rcases l with _ | ⟨x, _ | ⟨y, _ | ⟨z, l⟩⟩⟩ <;> simp at he
        simp only [rowSize, rowWf] at hN hM hrw
        subst c2
        exact rs_43 S n s x y (hE x (by omega) hrw.1 (hP x he.2.1)) (hE y (by omega) hrw.2.1 (hP y he.2.2))
      rw [if_neg c2] at he
      by_cases c3 : k = 44 ∨ k = 45
      · rw [if_pos c3] at he
        rcases l with _ | ⟨x, _ | ⟨y, l⟩⟩ <;> simp at he
        simp only [rowSize, rowWf] at hN hM hrw
        have ex := hE x (by omega) hrw.1 (hP x he.2)
        rcases c3 with rfl | rfl
        · exact rs_44 S n s x ex
        · exact rs_45 S n s x ex
      rw [if_neg c3] at he
      by_cases c4 : 46 ≤ k ∧ k ≤ 49
      · rw [if_pos c4] at he
        rcases l with _ | ⟨x, _ | ⟨y, l⟩⟩ <;> simp at he
        simp only [rowSize, rowWf] at hN hM hrw
        have ex := hE x (by omega) hrw.1 (hP x he.2)
        have : k = 46 ∨ k = 47 ∨ k = 48 ∨ k = 49 := by omega
        rcases this with rfl | rfl | rfl | rfl
        · exact rs_46 S n s x ex
        · exact rs_47 S n s x ex
        · exact rs_48 S n s x ex
        · exact rs_49 S n s x ex
      rw [if_neg c4] at he
      by_cases c5 : k = 50 ∨ k = 51
      · rw [if_pos c5] at he
        simp only [Bool.and_eq_true, List.all_eq_true] at he
        rcases c5 with c5 | c5
        · exact rs_50 S k n s l c5 he.2
        · exact rs_51 S k n s l c5 he.2
      rw [if_neg c5] at he
      by_cases c6 : k = 52 ∨ k = 53
      · rw [if_pos c6] at he
        rcases l with _ | ⟨x, _ | ⟨y, _ | ⟨z, _ | ⟨u, _ | ⟨v, l⟩⟩⟩⟩⟩ <;> simp at he
        simp only [rowSize, rowWf] at hN hM hrw
        have ex := hE x (by omega) hrw.1 he.2.1.1.1
        have ey := ih.2 y (by omega) (by omega) hrw.2.1 he.2.1.1.2
        have ez := ih.2 z (by omega) (by omega) hrw.2.2.1 he.2.1.2
        have eu := hE u (by omega) hrw.2.2.2.1 he.2.2
        rcases c6 with rfl | rfl
        · exact rs_52 S n s x y z u ex ey ez eu
        · exact rs_53 S n s x y z u ex ey ez eu
      rw [if_neg c6] at he
      by_cases c7 : k = 54
      · rw [if_pos c7] at he
        rcases l with _ | ⟨x, _ | ⟨y, _ | ⟨z, _ | ⟨u, l⟩⟩⟩⟩ <;> simp at he
        simp only [rowSize, rowWf] at hN hM hrw
        subst c7
        exact rs_54 S n s x y z (hE x (by omega) hrw.1 he.2.1.1) (ih.2 y (by omega) (by omega) hrw.2.1 he.2.1.2) (hE z (by omega) hrw.2.2.1 he.2.2)
      rw [if_neg c7] at he
      by_cases c8 : k = 55
      · rw [if_pos c8] at he
        rcases l with _ | ⟨x, _ | ⟨y, l⟩⟩ <;> simp at he
        simp only [rowSize, rowWf] at hN hM hrw
        subst c8
        exact rs_55 S n s x (ih.2 x (by omega) (by omega) hrw.1 he.2)
      · rw [if_neg c8] at he; simp at he
    · rintro ⟨k, n, s, l⟩ hN hM hwf he
      simp only [Nd.wf, Nd.size] at hwf hN hM
      obtain ⟨hk0, hk1, hn0, hn1, hsl, hll, hrw⟩ := hwf
      rw [Nd.isBlock.eq_def] at he
      simp only [Bool.and_eq_true] at he
      have hst : ∀ t ∈ l, t.isStmt = true := by have := he.2; rw [rowStmt_all, List.all_eq_true] at this; exact this
      refine rlines S k n s l fun t ht => ?_
      have := size_mem ht
      exact ih.1 t (by omega) (by omega) (rowWf_get hrw t ht) (hst t ht)
theorem refLines_t (S : Nat → Prop) (t : Nd) (hM : t.size ≤ 1000000) (hwf : t.wf) (he : t.isBlock = true) : LD S t := (rstmt_all S (t.size + 1)).2 t (by omega) hM hwf he
end Bk
