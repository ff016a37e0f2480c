/- Contracts of the printer's stmt at calls, of block, and of printer.Block. (Printed by wip/mkpblock.py.) -/
import Derived.Test.YtkadkafapjhhkaaDoorPStmt
namespace Bk
open Go Go.RowKit Go.Proofs
theorem argsT_append (q : Bool) (l r : List Nd) : argsT q (l ++ r) = argsT q l ++ argsT (q && l.isEmpty) r := by
  induction l generalizing q with
  | nil => simp [argsT]
  | cons x l ih => simp [argsT, ih]
theorem argsT_snoc (l : List Nd) (j : Nat) (h : j < l.length) : argsT true (l.take (j + 1)) = argsT true (l.take j) ++ ((if j = 0 then [] else [44, 32]) ++ l[j].text) := by
  rw [List.take_succ_eq_append_getElem h, argsT_append]
  rcases j with _ | j
  · simp [argsT]
  · have : (l.take (j + 1)).isEmpty = false := by
      rw [List.isEmpty_eq_false_iff]; intro e
      have h1 : (l.take (j + 1)).length = j + 1 := by simp; omega
      rw [e] at h1; simp at h1
    rw [this]; simp [argsT]
theorem argsT_le (l : List Nd) (j : Nat) : (argsT true (l.take j)).length ≤ (argsT true l).length := by
  have e := argsT_append true (l.take j) (l.drop j)
  rw [List.take_append_drop] at e
  rw [e]; simp
theorem rowLines_append (l r : List Nd) (d : Nat) : rowLines (l ++ r) d = rowLines l d ++ rowLines r d := by
  induction l with
  | nil => simp [rowLines]
  | cons x l ih => simp [rowLines, ih]
theorem rowLines_snoc (l : List Nd) (j d : Nat) (h : j < l.length) : rowLines (l.take (j + 1)) d = rowLines (l.take j) d ++ (tabT d ++ l[j].stmtT d ++ [59, 10]) := by
  rw [List.take_succ_eq_append_getElem h, rowLines_append]; simp [rowLines]
theorem rowLines_le (l : List Nd) (j d : Nat) : (rowLines (l.take j) d).length ≤ (rowLines l d).length := by
  have e := rowLines_append (l.take j) (l.drop j) d
  rw [List.take_append_drop] at e
  rw [e]; simp
set_option maxHeartbeats 2000000 in
theorem block_c (k n : Int) (s : List UInt8) (l : List Nd) (hll : l.length ≤ 9223372036854775807) (hx : ∀ x ∈ l, PrintsD 49 Nd.stmtT x) : PrintsD 32 Nd.linesT (.mk k n s l) := by
  intro B b t w a c d h ht hB hs hd hlen
  have htx : (Nd.mk k n s l).linesT d = rowLines l d := by simp [Nd.linesT]
  rw [htx] at hlen ⊢
  clear htx
  have hle := h.le
  have hlt := h.lt
  simp only [Nd.kind, Nd.num, Nd.name, Nd.kids, Nd.val, Nd.sits, Nd.size] at hs hd ⊢
  have HX := Lib.hid hx; clear hx
  simp only [List.length_append] at hlen
  go_enter Tryd.func32, Tryd.ntmps32
  go_wp2_with fail
  go_loopw [11] (fun i wr => ∃ j : Nat, j ≤ l.length ∧ i = .int .i64 j ∧ Bld B b (t ++ rowLines (l.take j) d) wr ∧ Fb B b w wr) (fun i _ => l.length - (intOf i).toNat)
  case atStart => exact ⟨0, Nat.zero_le _, rfl, by simpa [rowLines] using h.alloc _, Fb.of_ext ((Ext.refl _).alloc _) hle⟩
  case round =>
    obtain ⟨j, hj, rfl, hb0, hxx0⟩ := hrel
    clear h
    by_cases hlj : j < l.length
    · have hg : l[j]? = some l[j] := List.getElem?_eq_getElem hlj
      have hmem : l[j] ∈ l := List.getElem_mem hlj
      have hsz := size_mem hmem
      have hsn := rowLines_snoc l j d hlj
      have hsl := rowLines_le l (j + 1) d
      obtain ⟨kb, ko, xa, xc, rfl, hkB, k0, k1, k2, k3, hxs⟩ := rowSits_get (hs.fb hxx0) hg
      have hP := HX.out l[j] hmem
      have HG := Lib.hid hg; clear hg
      generalize l[j] = x at *
      have HSN := Lib.hid hsn
      rw [hsn] at hsl
      clear hsn
      have HP := Lib.hid hP; clear hP
      simp only [List.length_append, List.length_cons, List.length_nil] at hsl
      have hb0l := hb0.le
      have hb0t := hb0.lt
      have hkw : kb < wr.heap.size := by omega
      have hbx0 : Box wr.heap.size #[.int .u8 x.kind, .int .i64 x.num, str x.name, .slice xa x.kids.length xc] 24 (wr.alloc (.cells #[.int .u8 x.kind, .int .i64 x.num, str x.name, .slice xa x.kids.length xc] 24)) := Box.new _ _ _
      have hxW : Fb B b wr (wr.alloc (.cells #[.int .u8 x.kind, .int .i64 x.num, str x.name, .slice xa x.kids.length xc] 24)) := Fb.of_ext ((Ext.refl _).alloc _) hb0l
      go_wp2_with fail
      refine (tabs_c B b _ d _ (hb0.alloc _) (by omega) (by simp only [tabT, List.length_replicate, List.length_append] at *; omega)).mono ?_
      rintro e u1 ⟨rfl, hb1, hx1⟩
      obtain ⟨g0, g1, g2, g3⟩ := (hbx0.fb hx1 (by omega) (by decide)).node
      have hxx1 : Fb B b w u1 := (hxx0.trans hxW).trans hx1
      have hxs1 := (hxs.fb hxW).fb hx1
      have ht1 := ht.fb hxx1 hB
      clear k0 k1 k2 k3
      simp only
      go_wp2_with fail
      refine (HP.out B b _ _ xa xc d hb1 ht1 hB hxs1 (by omega) (by simp only [tabT, List.length_replicate, List.length_append] at *; omega)).mono ?_
      rintro e u2 ⟨rfl, hb2, hx2⟩
      simp only
      go_wp2_with fail
      refine (write_c B b u2.heap.size 1 _ [[59, 10]] _ (hb2.alloc _) (Box.new' _ _ (by simp)) (by simp) (by simp only [tabT, List.length_replicate, List.length_append, List.flatten_cons, List.flatten_nil, List.length_cons, List.length_nil] at *; omega)).mono ?_
      rintro e u3 ⟨rfl, hb3, hx3⟩
      have hb4 : Bld B b (t ++ rowLines (l.take (j + 1)) d) u3 := by rw [HSN.out]; simpa [tabT] using hb3
      have hxx3 : Fb B b w u3 := (hxx1.trans hx2).trans (Fb.trans (Fb.of_ext ((Ext.refl _).alloc _) hb2.le) hx3)
      clear g0 g1 g2 g3 hb0 hb1 hb2 hb3 hsl
      simp only
      go_wp2_with fail
      go_roundw
      case rel => exact ⟨j + 1, by omega, by go_num, hb4, hxx3⟩
      case measure => simp [intOf]; omega
    · go_wp2_with fail
      go_end0
      rw [List.take_of_length_le (by omega)] at hb0
      exact ⟨rfl, hb0, hxx0⟩
set_option maxHeartbeats 4000000 in
set_option maxRecDepth 100000 in
theorem stmt_50 (n : Int) (s : List UInt8) (l : List Nd) (hll : l.length ≤ 9223372036854775807) (hx : ∀ x ∈ l, Prints 22 Nd.text x) : PrintsD 49 Nd.stmtT (.mk 50 n s l) := by
  intro B b t w a c d h ht hB hs hd hlen
  have htx : (Nd.mk 50 n s l).stmtT d = kword 50 ++ s ++ [40] ++ argsT true l ++ [41] := by rw [Nd.stmtT.eq_def]; simp
  rw [htx] at hlen ⊢
  clear htx
  have hle := h.le
  have hlt := h.lt
  simp only [Nd.kind, Nd.num, Nd.name, Nd.kids, Nd.val, Nd.sits, Nd.size] at hs hd ⊢
  have HX := Lib.hid hx; clear hx
  have hbx0 : Box w.heap.size #[.int .u8 50, .int .i64 n, str s, .slice a l.length c] 24 (w.alloc (.cells #[.int .u8 50, .int .i64 n, str s, .slice a l.length c] 24)) := Box.new _ _ _
  have hxW : Fb B b w (w.alloc (.cells #[.int .u8 50, .int .i64 n, str s, .slice a l.length c] 24)) := Fb.of_ext ((Ext.refl _).alloc _) hle
  have hb0 : Bld B b t (w.alloc (.cells #[.int .u8 50, .int .i64 n, str s, .slice a l.length c] 24)) := h.alloc _
  have ht0 := ht.fb hxW hB
  have hs0 := hs.fb hxW
  go_enter Tryd.func49, Tryd.ntmps49
  go_wp2_with fail
  refine (word_c _ _ (by omega) (by omega)).mono ?_
  rintro e w1 ⟨rfl, rfl⟩
  simp only
  go_wp2_with fail
  refine (write_c B b (w.heap.size + 1) 1 _ [kword 50] _ (hb0.alloc _) (Box.new' _ _ (by simp)) (by simp) (by simp only [List.length_append, List.flatten_cons, List.flatten_nil, List.length_cons, List.length_nil, List.length_replicate, bracesT, tabT] at hlen ⊢; omega)).mono ?_
  rintro e u1 ⟨rfl, hb1, hx1⟩
  have hxx1 : Fb B b (w.alloc (.cells #[.int .u8 50, .int .i64 n, str s, .slice a l.length c] 24)) u1 := Fb.trans (Fb.of_ext ((Ext.refl _).alloc _) hb0.le) hx1
  obtain ⟨g0, g1, g2, g3⟩ := (hbx0.fb hxx1 (by omega) (by decide)).node
  have ht1 := ht0.fb hxx1 hB
  have hs1 := hs0.fb hxx1
  simp only
  go_wp2_with fail
  refine (write_c B b u1.heap.size 2 _ [s, [40]] _ (hb1.alloc _) (Box.new' _ _ (by simp)) (by simp) (by simp only [List.length_append, List.flatten_cons, List.flatten_nil, List.length_cons, List.length_nil, List.length_replicate, bracesT, tabT] at hlen ⊢; omega)).mono ?_
  rintro e u2 ⟨rfl, hb2, hx2⟩
  have hxx2 : Fb B b (w.alloc (.cells #[.int .u8 50, .int .i64 n, str s, .slice a l.length c] 24)) u2 := Fb.trans (Fb.trans hxx1 (Fb.of_ext ((Ext.refl _).alloc _) hb1.le)) hx2
  obtain ⟨g0, g1, g2, g3⟩ := (hbx0.fb hxx2 (by omega) (by decide)).node
  have ht2 := ht0.fb hxx2 hB
  have hs2 := hs0.fb hxx2
  clear g0 g1 g2
  simp only
  go_wp2_with fail
  simp only [List.length_append, List.length_cons, List.length_nil] at hlen
  clear g3
  go_loopw [76] (fun i wr => ∃ j : Nat, j ≤ l.length ∧ i = .int .i64 j ∧ Bld B b (t ++ kword 50 ++ s ++ [40] ++ argsT true (l.take j)) wr ∧ Fb B b (w.alloc (.cells #[.int .u8 50, .int .i64 n, str s, .slice a l.length c] 24)) wr) (fun i _ => l.length - (intOf i).toNat)
  case atStart => exact ⟨0, Nat.zero_le _, rfl, by simpa [argsT] using hb2, hxx2⟩
  case round =>
    obtain ⟨j, hj, rfl, hb3, hxx3⟩ := hrel
    clear hb1 hx1 hxx1 hb2 hx2 hxx2 ht1 ht2 hs1 hs2
    by_cases hlj : j < l.length
    · have hg : l[j]? = some l[j] := List.getElem?_eq_getElem hlj
      have hmem : l[j] ∈ l := List.getElem_mem hlj
      have hsn := argsT_snoc l j hlj
      have hsl := argsT_le l (j + 1)
      obtain ⟨kb, ko, xa, xc, rfl, hkB, k0, k1, k2, k3, hxs⟩ := rowSits_get (hs0.fb hxx3) hg
      have hP := HX.out l[j] hmem
      have HG := Lib.hid hg; clear hg
      generalize l[j] = x at *
      have HSN := Lib.hid hsn
      rw [hsn] at hsl
      clear hsn
      have HP := Lib.hid hP; clear hP
      have hb3l := hb3.le
      have hb3t := hb3.lt
      have hkw : kb < wr.heap.size := by omega
      have hbx3 : Box wr.heap.size #[.int .u8 x.kind, .int .i64 x.num, str x.name, .slice xa x.kids.length xc] 24 (wr.alloc (.cells #[.int .u8 x.kind, .int .i64 x.num, str x.name, .slice xa x.kids.length xc] 24)) := Box.new _ _ _
      have hxV : Fb B b wr (wr.alloc (.cells #[.int .u8 x.kind, .int .i64 x.num, str x.name, .slice xa x.kids.length xc] 24)) := Fb.of_ext ((Ext.refl _).alloc _) hb3l
      by_cases hj0 : j = 0
      · have dj : decide (0 < j) = false := by simp; omega
        have hjz : j ≤ 0 := by omega
        simp only [if_pos hj0, List.nil_append, List.length_append] at hsl
        have HJ := Lib.hid hj0; clear hj0
        go_wp2_with fail
        refine (HP.out B b _ _ xa xc (hb3.alloc _) (ht0.fb (hxx3.trans hxV) hB) hB (hxs.fb hxV) (by simp only [List.length_append, List.length_cons, List.length_nil]; omega)).mono ?_
        rintro e u5 ⟨rfl, hb5, hx5⟩
        have hb6 : Bld B b (t ++ kword 50 ++ s ++ [40] ++ argsT true (l.take (j + 1))) u5 := by rw [HSN.out, if_pos HJ.out]; simpa using hb5
        have hxx6 := (hxx3.trans hxV).trans hx5
        clear k0 k1 k2 k3 hb3 hb5 hsl
        simp only
        go_wp2_with fail
        go_roundw
        case rel => exact ⟨j + 1, by omega, by go_num, hb6, hxx6⟩
        case measure => simp [intOf]; omega
      · have dj : decide ((0 : Int) < j) = true := by simp; omega
        simp only [if_neg hj0, List.length_append, List.length_cons, List.length_nil] at hsl
        go_wp2_with fail
        refine (write_c B b (wr.heap.size + 1) 1 _ [[44, 32]] _ ((hb3.alloc _).alloc _) (Box.new' _ _ (by simp)) (by simp) (by simp only [List.length_append, List.flatten_cons, List.flatten_nil, List.length_cons, List.length_nil]; omega)).mono ?_
        rintro e u4 ⟨rfl, hb4, hx4⟩
        have hx4' : Fb B b (wr.alloc (.cells #[.int .u8 x.kind, .int .i64 x.num, str x.name, .slice xa x.kids.length xc] 24)) u4 := Fb.trans (Fb.of_ext ((Ext.refl _).alloc _) (hb3.alloc _).le) hx4
        obtain ⟨g0, g1, g2, g3⟩ := (hbx3.fb hx4' (by omega) (by decide)).node
        clear k0 k1 k2 k3
        simp only
        go_wp2_with fail
        refine (HP.out B b _ _ xa xc hb4 (ht0.fb ((hxx3.trans hxV).trans hx4') hB) hB ((hxs.fb hxV).fb hx4') (by simp only [List.length_append, List.flatten_cons, List.flatten_nil, List.length_cons, List.length_nil]; omega)).mono ?_
        rintro e u5 ⟨rfl, hb5, hx5⟩
        have hb6 : Bld B b (t ++ kword 50 ++ s ++ [40] ++ argsT true (l.take (j + 1))) u5 := by rw [HSN.out, if_neg hj0]; simpa using hb5
        have hxx6 := ((hxx3.trans hxV).trans hx4').trans hx5
        clear g0 g1 g2 g3 hb3 hb5 hsl hb4
        simp only
        go_wp2_with fail
        go_roundw
        case rel => exact ⟨j + 1, by omega, by go_num, hb6, hxx6⟩
        case measure => simp [intOf]; omega
    · rw [List.take_of_length_le (by omega)] at hb3
      go_wp2_with fail
      refine (write_c B b wr.heap.size 1 _ [[41]] _ (hb3.alloc _) (Box.new' _ _ (by simp)) (by simp) (by simp only [List.length_append, List.flatten_cons, List.flatten_nil, List.length_cons, List.length_nil]; omega)).mono ?_
      rintro e u5 ⟨rfl, hb5, hx5⟩
      simp only
      go_wp2_with fail
      go_end0
      exact ⟨rfl, by simpa using hb5, (hxW.trans hxx3).trans (Fb.trans (Fb.of_ext ((Ext.refl _).alloc _) hb3.le) hx5)⟩
set_option maxHeartbeats 4000000 in
set_option maxRecDepth 100000 in
theorem stmt_51 (n : Int) (s : List UInt8) (l : List Nd) (hll : l.length ≤ 9223372036854775807) (hx : ∀ x ∈ l, Prints 22 Nd.text x) : PrintsD 49 Nd.stmtT (.mk 51 n s l) := by
  intro B b t w a c d h ht hB hs hd hlen
  have htx : (Nd.mk 51 n s l).stmtT d = kword 51 ++ s ++ [40] ++ argsT true l ++ [41] := by rw [Nd.stmtT.eq_def]; simp
  rw [htx] at hlen ⊢
  clear htx
  have hle := h.le
  have hlt := h.lt
  simp only [Nd.kind, Nd.num, Nd.name, Nd.kids, Nd.val, Nd.sits, Nd.size] at hs hd ⊢
  have HX := Lib.hid hx; clear hx
  have hbx0 : Box w.heap.size #[.int .u8 51, .int .i64 n, str s, .slice a l.length c] 24 (w.alloc (.cells #[.int .u8 51, .int .i64 n, str s, .slice a l.length c] 24)) := Box.new _ _ _
  have hxW : Fb B b w (w.alloc (.cells #[.int .u8 51, .int .i64 n, str s, .slice a l.length c] 24)) := Fb.of_ext ((Ext.refl _).alloc _) hle
  have hb0 : Bld B b t (w.alloc (.cells #[.int .u8 51, .int .i64 n, str s, .slice a l.length c] 24)) := h.alloc _
  have ht0 := ht.fb hxW hB
  have hs0 := hs.fb hxW
  go_enter Tryd.func49, Tryd.ntmps49
  go_wp2_with fail
  refine (word_c _ _ (by omega) (by omega)).mono ?_
  rintro e w1 ⟨rfl, rfl⟩
  simp only
  go_wp2_with fail
  refine (write_c B b (w.heap.size + 1) 1 _ [kword 51] _ (hb0.alloc _) (Box.new' _ _ (by simp)) (by simp) (by simp only [List.length_append, List.flatten_cons, List.flatten_nil, List.length_cons, List.length_nil, List.length_replicate, bracesT, tabT] at hlen ⊢; omega)).mono ?_
  rintro e u1 ⟨rfl, hb1, hx1⟩
  have hxx1 : Fb B b (w.alloc (.cells #[.int .u8 51, .int .i64 n, str s, .slice a l.length c] 24)) u1 := Fb.trans (Fb.of_ext ((Ext.refl _).alloc _) hb0.le) hx1
  obtain ⟨g0, g1, g2, g3⟩ := (hbx0.fb hxx1 (by omega) (by decide)).node
  have ht1 := ht0.fb hxx1 hB
  have hs1 := hs0.fb hxx1
  simp only
  go_wp2_with fail
  refine (write_c B b u1.heap.size 2 _ [s, [40]] _ (hb1.alloc _) (Box.new' _ _ (by simp)) (by simp) (by simp only [List.length_append, List.flatten_cons, List.flatten_nil, List.length_cons, List.length_nil, List.length_replicate, bracesT, tabT] at hlen ⊢; omega)).mono ?_
  rintro e u2 ⟨rfl, hb2, hx2⟩
  have hxx2 : Fb B b (w.alloc (.cells #[.int .u8 51, .int .i64 n, str s, .slice a l.length c] 24)) u2 := Fb.trans (Fb.trans hxx1 (Fb.of_ext ((Ext.refl _).alloc _) hb1.le)) hx2
  obtain ⟨g0, g1, g2, g3⟩ := (hbx0.fb hxx2 (by omega) (by decide)).node
  have ht2 := ht0.fb hxx2 hB
  have hs2 := hs0.fb hxx2
  clear g0 g1 g2
  simp only
  go_wp2_with fail
  simp only [List.length_append, List.length_cons, List.length_nil] at hlen
  clear g3
  go_loopw [76] (fun i wr => ∃ j : Nat, j ≤ l.length ∧ i = .int .i64 j ∧ Bld B b (t ++ kword 51 ++ s ++ [40] ++ argsT true (l.take j)) wr ∧ Fb B b (w.alloc (.cells #[.int .u8 51, .int .i64 n, str s, .slice a l.length c] 24)) wr) (fun i _ => l.length - (intOf i).toNat)
  case atStart => exact ⟨0, Nat.zero_le _, rfl, by simpa [argsT] using hb2, hxx2⟩
  case round =>
    obtain ⟨j, hj, rfl, hb3, hxx3⟩ := hrel
    clear hb1 hx1 hxx1 hb2 hx2 hxx2 ht1 ht2 hs1 hs2
    by_cases hlj : j < l.length
    · have hg : l[j]? = some l[j] := List.getElem?_eq_getElem hlj
      have hmem : l[j] ∈ l := List.getElem_mem hlj
      have hsn := argsT_snoc l j hlj
      have hsl := argsT_le l (j + 1)
      obtain ⟨kb, ko, xa, xc, rfl, hkB, k0, k1, k2, k3, hxs⟩ := rowSits_get (hs0.fb hxx3) hg
      have hP := HX.out l[j] hmem
      have HG := Lib.hid hg; clear hg
      generalize l[j] = x at *
      have HSN := Lib.hid hsn
      rw [hsn] at hsl
      clear hsn
      have HP := Lib.hid hP; clear hP
      have hb3l := hb3.le
      have hb3t := hb3.lt
      have hkw : kb < wr.heap.size := by omega
      have hbx3 : Box wr.heap.size #[.int .u8 x.kind, .int .i64 x.num, str x.name, .slice xa x.kids.length xc] 24 (wr.alloc (.cells #[.int .u8 x.kind, .int .i64 x.num, str x.name, .slice xa x.kids.length xc] 24)) := Box.new _ _ _
      have hxV : Fb B b wr (wr.alloc (.cells #[.int .u8 x.kind, .int .i64 x.num, str x.name, .slice xa x.kids.length xc] 24)) := Fb.of_ext ((Ext.refl _).alloc _) hb3l
      by_cases hj0 : j = 0
      · have dj : decide (0 < j) = false := by simp; omega
        have hjz : j ≤ 0 := by omega
        simp only [if_pos hj0, List.nil_append, List.length_append] at hsl
        have HJ := Lib.hid hj0; clear hj0
        go_wp2_with fail
        refine (HP.out B b _ _ xa xc (hb3.alloc _) (ht0.fb (hxx3.trans hxV) hB) hB (hxs.fb hxV) (by simp only [List.length_append, List.length_cons, List.length_nil]; omega)).mono ?_
        rintro e u5 ⟨rfl, hb5, hx5⟩
        have hb6 : Bld B b (t ++ kword 51 ++ s ++ [40] ++ argsT true (l.take (j + 1))) u5 := by rw [HSN.out, if_pos HJ.out]; simpa using hb5
        have hxx6 := (hxx3.trans hxV).trans hx5
        clear k0 k1 k2 k3 hb3 hb5 hsl
        simp only
        go_wp2_with fail
        go_roundw
        case rel => exact ⟨j + 1, by omega, by go_num, hb6, hxx6⟩
        case measure => simp [intOf]; omega
      · have dj : decide ((0 : Int) < j) = true := by simp; omega
        simp only [if_neg hj0, List.length_append, List.length_cons, List.length_nil] at hsl
        go_wp2_with fail
        refine (write_c B b (wr.heap.size + 1) 1 _ [[44, 32]] _ ((hb3.alloc _).alloc _) (Box.new' _ _ (by simp)) (by simp) (by simp only [List.length_append, List.flatten_cons, List.flatten_nil, List.length_cons, List.length_nil]; omega)).mono ?_
        rintro e u4 ⟨rfl, hb4, hx4⟩
        have hx4' : Fb B b (wr.alloc (.cells #[.int .u8 x.kind, .int .i64 x.num, str x.name, .slice xa x.kids.length xc] 24)) u4 := Fb.trans (Fb.of_ext ((Ext.refl _).alloc _) (hb3.alloc _).le) hx4
        obtain ⟨g0, g1, g2, g3⟩ := (hbx3.fb hx4' (by omega) (by decide)).node
        clear k0 k1 k2 k3
        simp only
        go_wp2_with fail
        refine (HP.out B b _ _ xa xc hb4 (ht0.fb ((hxx3.trans hxV).trans hx4') hB) hB ((hxs.fb hxV).fb hx4') (by simp only [List.length_append, List.flatten_cons, List.flatten_nil, List.length_cons, List.length_nil]; omega)).mono ?_
        rintro e u5 ⟨rfl, hb5, hx5⟩
        have hb6 : Bld B b (t ++ kword 51 ++ s ++ [40] ++ argsT true (l.take (j + 1))) u5 := by rw [HSN.out, if_neg hj0]; simpa using hb5
        have hxx6 := ((hxx3.trans hxV).trans hx4').trans hx5
        clear g0 g1 g2 g3 hb3 hb5 hsl hb4
        simp only
        go_wp2_with fail
        go_roundw
        case rel => exact ⟨j + 1, by omega, by go_num, hb6, hxx6⟩
        case measure => simp [intOf]; omega
    · rw [List.take_of_length_le (by omega)] at hb3
      go_wp2_with fail
      refine (write_c B b wr.heap.size 1 _ [[41]] _ (hb3.alloc _) (Box.new' _ _ (by simp)) (by simp) (by simp only [List.length_append, List.flatten_cons, List.flatten_nil, List.length_cons, List.length_nil]; omega)).mono ?_
      rintro e u5 ⟨rfl, hb5, hx5⟩
      simp only
      go_wp2_with fail
      go_end0
      exact ⟨rfl, by simpa using hb5, (hxW.trans hxx3).trans (Fb.trans (Fb.of_ext ((Ext.refl _).alloc _) hb3.le) hx5)⟩
end Bk
