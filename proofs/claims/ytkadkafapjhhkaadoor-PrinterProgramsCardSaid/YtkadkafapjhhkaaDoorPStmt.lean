/- Contracts of the printer's braces, branches and stmt, given those of the parts. (Printed by wip/mkpstmt.py.) The text stays below 2^47 bytes; the indentation is at most 1000000. -/
import Derived.Test.YtkadkafapjhhkaaDoorPStmt0
namespace Bk
open Go Go.RowKit Go.Proofs
theorem tabT_len (d : Nat) : (tabT d).length = d := by simp [tabT]
theorem bracesT_len (t : Nd) (d : Nat) : (bracesT t d).length = (t.linesT (d + 1)).length + d + 4 := by
  simp [bracesT, tabT_len]; omega
attribute [local simp] tabT_len bracesT_len
def PrintsD (f : FuncId) (txt : Nd → Nat → List UInt8) (t : Nd) : Prop :=
  ∀ (B b : Nat) (l : List UInt8) (w : World) (a : Option Addr) (c d : Nat), Bld B b l w → Tabs w → Tryd.prog.globals.size ≤ B → t.sits (· < B) w a → d + t.size ≤ 1000000 → (l ++ txt t d).length ≤ 140737488355328 →
    Calls Tryd.prog f #[.pointer (some ⟨b, 0, none⟩), t.val a c, .int .i64 d] w fun e w' => e = .returned (.tuple #[]) ∧ Bld B b (l ++ txt t d) w' ∧ Fb B b w w'
theorem kid0 {S : Nat → Prop} {w : World} {x : Nd} {r : List Nd} {kb ko : Nat} (h : rowSits S w (x :: r) (some ⟨kb, ko, none⟩)) :
    ∃ xa xc, w.cell? ⟨kb, ko, none⟩ = some (.int .u8 x.kind) ∧ w.cell? ⟨kb, ko + 1, none⟩ = some (.int .i64 x.num) ∧ w.cell? ⟨kb, ko + 2, none⟩ = some (str x.name) ∧ w.cell? ⟨kb, ko + 3, none⟩ = some (.slice xa x.kids.length xc) ∧ x.sits S w xa := by
  obtain ⟨b, o, a', c, he, h0, h1, h2, h3, h4, h5⟩ := rowSits_get h (i := 0) (t := x) rfl
  simp only [Option.some.injEq, Addr.mk.injEq] at he
  obtain ⟨rfl, rfl, -⟩ := he
  exact ⟨a', c, by simpa using h1, by simpa using h2, by simpa using h3, by simpa using h4, h5⟩
theorem kid1 {S : Nat → Prop} {w : World} {x0 x : Nd} {r : List Nd} {kb ko : Nat} (h : rowSits S w (x0 :: x :: r) (some ⟨kb, ko, none⟩)) :
    ∃ xa xc, w.cell? ⟨kb, ko + 4, none⟩ = some (.int .u8 x.kind) ∧ w.cell? ⟨kb, ko + 4 + 1, none⟩ = some (.int .i64 x.num) ∧ w.cell? ⟨kb, ko + 4 + 2, none⟩ = some (str x.name) ∧ w.cell? ⟨kb, ko + 4 + 3, none⟩ = some (.slice xa x.kids.length xc) ∧ w.cell? ⟨kb, ko + 5, none⟩ = some (.int .i64 x.num) ∧ w.cell? ⟨kb, ko + 6, none⟩ = some (str x.name) ∧ w.cell? ⟨kb, ko + 7, none⟩ = some (.slice xa x.kids.length xc) ∧ x.sits S w xa := by
  obtain ⟨b, o, a', c, he, h0, h1, h2, h3, h4, h5⟩ := rowSits_get h (i := 1) (t := x) rfl
  simp only [Option.some.injEq, Addr.mk.injEq] at he
  obtain ⟨rfl, rfl, -⟩ := he
  exact ⟨a', c, by simpa using h1, by simpa using h2, by simpa using h3, by simpa using h4, by simpa using h2, by simpa using h3, by simpa using h4, h5⟩
theorem kid2 {S : Nat → Prop} {w : World} {x0 x1 x : Nd} {r : List Nd} {kb ko : Nat} (h : rowSits S w (x0 :: x1 :: x :: r) (some ⟨kb, ko, none⟩)) :
    ∃ xa xc, w.cell? ⟨kb, ko + 8, none⟩ = some (.int .u8 x.kind) ∧ w.cell? ⟨kb, ko + 8 + 1, none⟩ = some (.int .i64 x.num) ∧ w.cell? ⟨kb, ko + 8 + 2, none⟩ = some (str x.name) ∧ w.cell? ⟨kb, ko + 8 + 3, none⟩ = some (.slice xa x.kids.length xc) ∧ w.cell? ⟨kb, ko + 9, none⟩ = some (.int .i64 x.num) ∧ w.cell? ⟨kb, ko + 10, none⟩ = some (str x.name) ∧ w.cell? ⟨kb, ko + 11, none⟩ = some (.slice xa x.kids.length xc) ∧ x.sits S w xa := by
  obtain ⟨b, o, a', c, he, h0, h1, h2, h3, h4, h5⟩ := rowSits_get h (i := 2) (t := x) rfl
  simp only [Option.some.injEq, Addr.mk.injEq] at he
  obtain ⟨rfl, rfl, -⟩ := he
  exact ⟨a', c, by simpa using h1, by simpa using h2, by simpa using h3, by simpa using h4, by simpa using h2, by simpa using h3, by simpa using h4, h5⟩
theorem kid3 {S : Nat → Prop} {w : World} {x0 x1 x2 x : Nd} {r : List Nd} {kb ko : Nat} (h : rowSits S w (x0 :: x1 :: x2 :: x :: r) (some ⟨kb, ko, none⟩)) :
    ∃ xa xc, w.cell? ⟨kb, ko + 12, none⟩ = some (.int .u8 x.kind) ∧ w.cell? ⟨kb, ko + 12 + 1, none⟩ = some (.int .i64 x.num) ∧ w.cell? ⟨kb, ko + 12 + 2, none⟩ = some (str x.name) ∧ w.cell? ⟨kb, ko + 12 + 3, none⟩ = some (.slice xa x.kids.length xc) ∧ w.cell? ⟨kb, ko + 13, none⟩ = some (.int .i64 x.num) ∧ w.cell? ⟨kb, ko + 14, none⟩ = some (str x.name) ∧ w.cell? ⟨kb, ko + 15, none⟩ = some (.slice xa x.kids.length xc) ∧ x.sits S w xa := by
  obtain ⟨b, o, a', c, he, h0, h1, h2, h3, h4, h5⟩ := rowSits_get h (i := 3) (t := x) rfl
  simp only [Option.some.injEq, Addr.mk.injEq] at he
  obtain ⟨rfl, rfl, -⟩ := he
  exact ⟨a', c, by simpa using h1, by simpa using h2, by simpa using h3, by simpa using h4, by simpa using h2, by simpa using h3, by simpa using h4, h5⟩
theorem braces_c (y : Nd) (hy : PrintsD 32 Nd.linesT y) :
    ∀ (B b : Nat) (t : List UInt8) (w : World) (a : Option Addr) (c d : Nat), Bld B b t w → Tabs w → Tryd.prog.globals.size ≤ B → y.sits (· < B) w a → d + 1 + y.size ≤ 1000000 → (t ++ bracesT y d).length ≤ 140737488355328 →
    Calls Tryd.prog 38 #[.pointer (some ⟨b, 0, none⟩), y.val a c, .int .i64 d] w fun e w' => e = .returned (.tuple #[]) ∧ Bld B b (t ++ bracesT y d) w' ∧ Fb B b w w' := by
  intro B b t w a c d h ht hB hs hd hlen
  have hle := h.le
  have hlt := h.lt
  have HY := Lib.hid hy; clear hy
  have hbx0 : Box w.heap.size #[.int .u8 y.kind, .int .i64 y.num, str y.name, .slice a y.kids.length c] 24 (w.alloc (.cells #[.int .u8 y.kind, .int .i64 y.num, str y.name, .slice a y.kids.length c] 24)) := Box.new _ _ _
  have hxW : Fb B b w (w.alloc (.cells #[.int .u8 y.kind, .int .i64 y.num, str y.name, .slice a y.kids.length c] 24)) := Fb.of_ext ((Ext.refl _).alloc _) hle
  have hb0 : Bld B b t (w.alloc (.cells #[.int .u8 y.kind, .int .i64 y.num, str y.name, .slice a y.kids.length c] 24)) := h.alloc _
  have ht0 := ht.fb hxW hB
  have hs0 := hs.fb hxW
  go_enter Tryd.func38, Tryd.ntmps38
  go_wp2_with fail
  refine (write_c B b (w.heap.size + 1) 1 _ [[32, 123, 10]] _ (hb0.alloc _) (Box.new' _ _ (by simp)) (by simp) (by (try simp at hlen ⊢) <;> omega)).mono ?_
  rintro e u1 ⟨rfl, hb1, hx1⟩
  have hxx1 : Fb B b (w.alloc (.cells #[.int .u8 y.kind, .int .i64 y.num, str y.name, .slice a y.kids.length c] 24)) u1 := Fb.trans (Fb.of_ext ((Ext.refl _).alloc _) hb0.le) hx1
  obtain ⟨g0, g1, g2, g3⟩ := (hbx0.fb hxx1 (by omega) (by decide)).node
  have ht1 := ht0.fb hxx1 hB
  have hs1 := hs0.fb hxx1
  simp only
  go_wp2_with fail
  rw [show ((d : Int) + 1) = ((d + 1 : Nat) : Int) from by omega]
  refine (HY.out B b _ _ a c (d + 1) hb1 ht1 hB hs1 (by omega) (by (try simp at hlen ⊢) <;> omega)).mono ?_
  rintro e u2 ⟨rfl, hb2, hx2⟩
  have hxx2 : Fb B b (w.alloc (.cells #[.int .u8 y.kind, .int .i64 y.num, str y.name, .slice a y.kids.length c] 24)) u2 := Fb.trans hxx1 hx2
  obtain ⟨g0, g1, g2, g3⟩ := (hbx0.fb hxx2 (by omega) (by decide)).node
  have ht2 := ht0.fb hxx2 hB
  simp only
  go_wp2_with fail
  refine (tabs_c B b _ d _ hb2 (by omega) (by (try simp at hlen ⊢) <;> omega)).mono ?_
  rintro e u3 ⟨rfl, hb3, hx3⟩
  have hxx3 : Fb B b (w.alloc (.cells #[.int .u8 y.kind, .int .i64 y.num, str y.name, .slice a y.kids.length c] 24)) u3 := Fb.trans hxx2 hx3
  obtain ⟨g0, g1, g2, g3⟩ := (hbx0.fb hxx3 (by omega) (by decide)).node
  have ht3 := ht0.fb hxx3 hB
  simp only
  go_wp2_with fail
  refine (write_c B b u3.heap.size 1 _ [[125]] _ (hb3.alloc _) (Box.new' _ _ (by simp)) (by simp) (by (try simp at hlen ⊢) <;> omega)).mono ?_
  rintro e u4 ⟨rfl, hb4, hx4⟩
  have hxx4 : Fb B b (w.alloc (.cells #[.int .u8 y.kind, .int .i64 y.num, str y.name, .slice a y.kids.length c] 24)) u4 := Fb.trans (Fb.trans hxx3 (Fb.of_ext ((Ext.refl _).alloc _) hb3.le)) hx4
  obtain ⟨g0, g1, g2, g3⟩ := (hbx0.fb hxx4 (by omega) (by decide)).node
  have ht4 := ht0.fb hxx4 hB
  simp only
  go_wp2_with fail
  go_end0
  exact ⟨rfl, by simpa [bracesT, tabT] using hb4, hxW.trans hxx4⟩
set_option maxHeartbeats 2000000 in
set_option maxRecDepth 100000 in
theorem stmt_40 (n : Int) (s : List UInt8) (x y : Nd) (hx : Prints 22 Nd.text x) (hy : Prints 22 Nd.text y) : PrintsD 49 Nd.stmtT (.mk 40 n s [x, y]) := by
  intro B b t w a c d h ht hB hs hd hlen
  have htx : (Nd.mk 40 n s [x, y]).stmtT d = kword 40 ++ x.text ++ [32] ++ updSign 40 ++ [32] ++ y.text := by rw [Nd.stmtT.eq_def]; simp [kword]
  rw [htx] at hlen ⊢
  clear htx
  have hle := h.le
  have hlt := h.lt
  simp only [Nd.kind, Nd.num, Nd.name, Nd.kids, Nd.val, Nd.sits, Nd.size, rowSize, List.length_cons, List.length_nil] at hs hd ⊢
  obtain ⟨kb, ko, rfl⟩ : ∃ kb ko, a = some ⟨kb, ko, none⟩ := by
    obtain ⟨b0, o0, _, _, he, _⟩ := rowSits_get hs (i := 0) rfl
    exact ⟨b0, o0, he⟩
  have HX := Lib.hid hx; clear hx
  have HY := Lib.hid hy; clear hy
  have hbx0 : Box w.heap.size #[.int .u8 40, .int .i64 n, str s, .slice (some ⟨kb, ko, none⟩) 2 c] 24 (w.alloc (.cells #[.int .u8 40, .int .i64 n, str s, .slice (some ⟨kb, ko, none⟩) 2 c] 24)) := Box.new _ _ _
  have hxW : Fb B b w (w.alloc (.cells #[.int .u8 40, .int .i64 n, str s, .slice (some ⟨kb, ko, none⟩) 2 c] 24)) := Fb.of_ext ((Ext.refl _).alloc _) hle
  have hb0 : Bld B b t (w.alloc (.cells #[.int .u8 40, .int .i64 n, str s, .slice (some ⟨kb, ko, none⟩) 2 c] 24)) := h.alloc _
  have ht0 := ht.fb hxW hB
  have hs0 := hs.fb hxW
  go_enter Tryd.func49, Tryd.ntmps49
  go_wp2_with fail
  refine (word_c _ _ (by omega) (by omega)).mono ?_
  rintro e w1 ⟨rfl, rfl⟩
  simp only
  go_wp2_with fail
  refine (write_c B b (w.heap.size + 1) 1 _ [kword 40] _ (hb0.alloc _) (Box.new' _ _ (by simp)) (by simp) (by (try simp at hlen ⊢) <;> omega)).mono ?_
  rintro e u1 ⟨rfl, hb1, hx1⟩
  have hxx1 : Fb B b (w.alloc (.cells #[.int .u8 40, .int .i64 n, str s, .slice (some ⟨kb, ko, none⟩) 2 c] 24)) u1 := Fb.trans (Fb.of_ext ((Ext.refl _).alloc _) hb0.le) hx1
  obtain ⟨g0, g1, g2, g3⟩ := (hbx0.fb hxx1 (by omega) (by decide)).node
  have ht1 := ht0.fb hxx1 hB
  have hs1 := hs0.fb hxx1
  obtain ⟨ka1, kc1, m0, m1, m2, m3, hk1⟩ := kid0 hs1
  simp only
  go_wp2_with fail
  refine (HX.out B b _ _ ka1 kc1 hb1 ht1 hB hk1 (by (try simp at hlen ⊢) <;> omega)).mono ?_
  rintro e u2 ⟨rfl, hb2, hx2⟩
  have hxx2 : Fb B b (w.alloc (.cells #[.int .u8 40, .int .i64 n, str s, .slice (some ⟨kb, ko, none⟩) 2 c] 24)) u2 := Fb.trans hxx1 hx2
  obtain ⟨g0, g1, g2, g3⟩ := (hbx0.fb hxx2 (by omega) (by decide)).node
  have ht2 := ht0.fb hxx2 hB
  have hs2 := hs0.fb hxx2
  simp only
  go_wp2_with fail
  refine (updater_c _ _ (by omega) (by omega) ht2).mono ?_
  rintro e w1 ⟨rfl, rfl⟩
  simp only
  go_wp2_with fail
  refine (write_c B b u2.heap.size 3 _ [[32], updSign 40, [32]] _ (hb2.alloc _) (Box.new' _ _ (by simp)) (by simp) (by (try simp at hlen ⊢) <;> omega)).mono ?_
  rintro e u3 ⟨rfl, hb3, hx3⟩
  have hxx3 : Fb B b (w.alloc (.cells #[.int .u8 40, .int .i64 n, str s, .slice (some ⟨kb, ko, none⟩) 2 c] 24)) u3 := Fb.trans (Fb.trans hxx2 (Fb.of_ext ((Ext.refl _).alloc _) hb2.le)) hx3
  obtain ⟨g0, g1, g2, g3⟩ := (hbx0.fb hxx3 (by omega) (by decide)).node
  have ht3 := ht0.fb hxx3 hB
  have hs3 := hs0.fb hxx3
  obtain ⟨ka3, kc3, m0, m1, m2, m3, m4, m5, m6, hk3⟩ := kid1 hs3
  simp only
  go_wp2_with fail
  refine (HY.out B b _ _ ka3 kc3 hb3 ht3 hB hk3 (by (try simp at hlen ⊢) <;> omega)).mono ?_
  rintro e u4 ⟨rfl, hb4, hx4⟩
  have hxx4 : Fb B b (w.alloc (.cells #[.int .u8 40, .int .i64 n, str s, .slice (some ⟨kb, ko, none⟩) 2 c] 24)) u4 := Fb.trans hxx3 hx4
  obtain ⟨g0, g1, g2, g3⟩ := (hbx0.fb hxx4 (by omega) (by decide)).node
  have ht4 := ht0.fb hxx4 hB
  have hs4 := hs0.fb hxx4
  simp only
  go_wp2_with fail
  go_end0
  exact ⟨rfl, by simpa using hb4, hxW.trans hxx4⟩
set_option maxHeartbeats 2000000 in
set_option maxRecDepth 100000 in
theorem stmt_41 (n : Int) (s : List UInt8) (x y : Nd) (hx : Prints 22 Nd.text x) (hy : Prints 22 Nd.text y) : PrintsD 49 Nd.stmtT (.mk 41 n s [x, y]) := by
  intro B b t w a c d h ht hB hs hd hlen
  have htx : (Nd.mk 41 n s [x, y]).stmtT d = kword 41 ++ x.text ++ [32] ++ updSign 41 ++ [32] ++ y.text := by rw [Nd.stmtT.eq_def]; simp [kword]
  rw [htx] at hlen ⊢
  clear htx
  have hle := h.le
  have hlt := h.lt
  simp only [Nd.kind, Nd.num, Nd.name, Nd.kids, Nd.val, Nd.sits, Nd.size, rowSize, List.length_cons, List.length_nil] at hs hd ⊢
  obtain ⟨kb, ko, rfl⟩ : ∃ kb ko, a = some ⟨kb, ko, none⟩ := by
    obtain ⟨b0, o0, _, _, he, _⟩ := rowSits_get hs (i := 0) rfl
    exact ⟨b0, o0, he⟩
  have HX := Lib.hid hx; clear hx
  have HY := Lib.hid hy; clear hy
  have hbx0 : Box w.heap.size #[.int .u8 41, .int .i64 n, str s, .slice (some ⟨kb, ko, none⟩) 2 c] 24 (w.alloc (.cells #[.int .u8 41, .int .i64 n, str s, .slice (some ⟨kb, ko, none⟩) 2 c] 24)) := Box.new _ _ _
  have hxW : Fb B b w (w.alloc (.cells #[.int .u8 41, .int .i64 n, str s, .slice (some ⟨kb, ko, none⟩) 2 c] 24)) := Fb.of_ext ((Ext.refl _).alloc _) hle
  have hb0 : Bld B b t (w.alloc (.cells #[.int .u8 41, .int .i64 n, str s, .slice (some ⟨kb, ko, none⟩) 2 c] 24)) := h.alloc _
  have ht0 := ht.fb hxW hB
  have hs0 := hs.fb hxW
  go_enter Tryd.func49, Tryd.ntmps49
  go_wp2_with fail
  refine (word_c _ _ (by omega) (by omega)).mono ?_
  rintro e w1 ⟨rfl, rfl⟩
  simp only
  go_wp2_with fail
  refine (write_c B b (w.heap.size + 1) 1 _ [kword 41] _ (hb0.alloc _) (Box.new' _ _ (by simp)) (by simp) (by (try simp at hlen ⊢) <;> omega)).mono ?_
  rintro e u1 ⟨rfl, hb1, hx1⟩
  have hxx1 : Fb B b (w.alloc (.cells #[.int .u8 41, .int .i64 n, str s, .slice (some ⟨kb, ko, none⟩) 2 c] 24)) u1 := Fb.trans (Fb.of_ext ((Ext.refl _).alloc _) hb0.le) hx1
  obtain ⟨g0, g1, g2, g3⟩ := (hbx0.fb hxx1 (by omega) (by decide)).node
  have ht1 := ht0.fb hxx1 hB
  have hs1 := hs0.fb hxx1
  obtain ⟨ka1, kc1, m0, m1, m2, m3, hk1⟩ := kid0 hs1
  simp only
  go_wp2_with fail
  refine (HX.out B b _ _ ka1 kc1 hb1 ht1 hB hk1 (by (try simp at hlen ⊢) <;> omega)).mono ?_
  rintro e u2 ⟨rfl, hb2, hx2⟩
  have hxx2 : Fb B b (w.alloc (.cells #[.int .u8 41, .int .i64 n, str s, .slice (some ⟨kb, ko, none⟩) 2 c] 24)) u2 := Fb.trans hxx1 hx2
  obtain ⟨g0, g1, g2, g3⟩ := (hbx0.fb hxx2 (by omega) (by decide)).node
  have ht2 := ht0.fb hxx2 hB
  have hs2 := hs0.fb hxx2
  simp only
  go_wp2_with fail
  refine (updater_c _ _ (by omega) (by omega) ht2).mono ?_
  rintro e w1 ⟨rfl, rfl⟩
  simp only
  go_wp2_with fail
  refine (write_c B b u2.heap.size 3 _ [[32], updSign 41, [32]] _ (hb2.alloc _) (Box.new' _ _ (by simp)) (by simp) (by (try simp at hlen ⊢) <;> omega)).mono ?_
  rintro e u3 ⟨rfl, hb3, hx3⟩
  have hxx3 : Fb B b (w.alloc (.cells #[.int .u8 41, .int .i64 n, str s, .slice (some ⟨kb, ko, none⟩) 2 c] 24)) u3 := Fb.trans (Fb.trans hxx2 (Fb.of_ext ((Ext.refl _).alloc _) hb2.le)) hx3
  obtain ⟨g0, g1, g2, g3⟩ := (hbx0.fb hxx3 (by omega) (by decide)).node
  have ht3 := ht0.fb hxx3 hB
  have hs3 := hs0.fb hxx3
  obtain ⟨ka3, kc3, m0, m1, m2, m3, m4, m5, m6, hk3⟩ := kid1 hs3
  simp only
  go_wp2_with fail
  refine (HY.out B b _ _ ka3 kc3 hb3 ht3 hB hk3 (by (try simp at hlen ⊢) <;> omega)).mono ?_
  rintro e u4 ⟨rfl, hb4, hx4⟩
  have hxx4 : Fb B b (w.alloc (.cells #[.int .u8 41, .int .i64 n, str s, .slice (some ⟨kb, ko, none⟩) 2 c] 24)) u4 := Fb.trans hxx3 hx4
  obtain ⟨g0, g1, g2, g3⟩ := (hbx0.fb hxx4 (by omega) (by decide)).node
  have ht4 := ht0.fb hxx4 hB
  have hs4 := hs0.fb hxx4
  simp only
  go_wp2_with fail
  go_end0
  exact ⟨rfl, by simpa using hb4, hxW.trans hxx4⟩
set_option maxHeartbeats 2000000 in
set_option maxRecDepth 100000 in
theorem stmt_42 (n : Int) (s : List UInt8) (x y : Nd) (hx : Prints 22 Nd.text x) (hy : Prints 22 Nd.text y) : PrintsD 49 Nd.stmtT (.mk 42 n s [x, y]) := by
  intro B b t w a c d h ht hB hs hd hlen
  have htx : (Nd.mk 42 n s [x, y]).stmtT d = kword 42 ++ x.text ++ [32] ++ updSign 42 ++ [32] ++ y.text := by rw [Nd.stmtT.eq_def]; simp [kword]
  rw [htx] at hlen ⊢
  clear htx
  have hle := h.le
  have hlt := h.lt
  simp only [Nd.kind, Nd.num, Nd.name, Nd.kids, Nd.val, Nd.sits, Nd.size, rowSize, List.length_cons, List.length_nil] at hs hd ⊢
  obtain ⟨kb, ko, rfl⟩ : ∃ kb ko, a = some ⟨kb, ko, none⟩ := by
    obtain ⟨b0, o0, _, _, he, _⟩ := rowSits_get hs (i := 0) rfl
    exact ⟨b0, o0, he⟩
  have HX := Lib.hid hx; clear hx
  have HY := Lib.hid hy; clear hy
  have hbx0 : Box w.heap.size #[.int .u8 42, .int .i64 n, str s, .slice (some ⟨kb, ko, none⟩) 2 c] 24 (w.alloc (.cells #[.int .u8 42, .int .i64 n, str s, .slice (some ⟨kb, ko, none⟩) 2 c] 24)) := Box.new _ _ _
  have hxW : Fb B b w (w.alloc (.cells #[.int .u8 42, .int .i64 n, str s, .slice (some ⟨kb, ko, none⟩) 2 c] 24)) := Fb.of_ext ((Ext.refl _).alloc _) hle
  have hb0 : Bld B b t (w.alloc (.cells #[.int .u8 42, .int .i64 n, str s, .slice (some ⟨kb, ko, none⟩) 2 c] 24)) := h.alloc _
  have ht0 := ht.fb hxW hB
  have hs0 := hs.fb hxW
  go_enter Tryd.func49, Tryd.ntmps49
  go_wp2_with fail
  refine (word_c _ _ (by omega) (by omega)).mono ?_
  rintro e w1 ⟨rfl, rfl⟩
  simp only
  go_wp2_with fail
  refine (write_c B b (w.heap.size + 1) 1 _ [kword 42] _ (hb0.alloc _) (Box.new' _ _ (by simp)) (by simp) (by (try simp at hlen ⊢) <;> omega)).mono ?_
  rintro e u1 ⟨rfl, hb1, hx1⟩
  have hxx1 : Fb B b (w.alloc (.cells #[.int .u8 42, .int .i64 n, str s, .slice (some ⟨kb, ko, none⟩) 2 c] 24)) u1 := Fb.trans (Fb.of_ext ((Ext.refl _).alloc _) hb0.le) hx1
  obtain ⟨g0, g1, g2, g3⟩ := (hbx0.fb hxx1 (by omega) (by decide)).node
  have ht1 := ht0.fb hxx1 hB
  have hs1 := hs0.fb hxx1
  obtain ⟨ka1, kc1, m0, m1, m2, m3, hk1⟩ := kid0 hs1
  simp only
  go_wp2_with fail
  refine (HX.out B b _ _ ka1 kc1 hb1 ht1 hB hk1 (by (try simp at hlen ⊢) <;> omega)).mono ?_
  rintro e u2 ⟨rfl, hb2, hx2⟩
  have hxx2 : Fb B b (w.alloc (.cells #[.int .u8 42, .int .i64 n, str s, .slice (some ⟨kb, ko, none⟩) 2 c] 24)) u2 := Fb.trans hxx1 hx2
  obtain ⟨g0, g1, g2, g3⟩ := (hbx0.fb hxx2 (by omega) (by decide)).node
  have ht2 := ht0.fb hxx2 hB
  have hs2 := hs0.fb hxx2
  simp only
  go_wp2_with fail
  refine (updater_c _ _ (by omega) (by omega) ht2).mono ?_
  rintro e w1 ⟨rfl, rfl⟩
  simp only
  go_wp2_with fail
  refine (write_c B b u2.heap.size 3 _ [[32], updSign 42, [32]] _ (hb2.alloc _) (Box.new' _ _ (by simp)) (by simp) (by (try simp at hlen ⊢) <;> omega)).mono ?_
  rintro e u3 ⟨rfl, hb3, hx3⟩
  have hxx3 : Fb B b (w.alloc (.cells #[.int .u8 42, .int .i64 n, str s, .slice (some ⟨kb, ko, none⟩) 2 c] 24)) u3 := Fb.trans (Fb.trans hxx2 (Fb.of_ext ((Ext.refl _).alloc _) hb2.le)) hx3
  obtain ⟨g0, g1, g2, g3⟩ := (hbx0.fb hxx3 (by omega) (by decide)).node
  have ht3 := ht0.fb hxx3 hB
  have hs3 := hs0.fb hxx3
  obtain ⟨ka3, kc3, m0, m1, m2, m3, m4, m5, m6, hk3⟩ := kid1 hs3
  simp only
  go_wp2_with fail
  refine (HY.out B b _ _ ka3 kc3 hb3 ht3 hB hk3 (by (try simp at hlen ⊢) <;> omega)).mono ?_
  rintro e u4 ⟨rfl, hb4, hx4⟩
  have hxx4 : Fb B b (w.alloc (.cells #[.int .u8 42, .int .i64 n, str s, .slice (some ⟨kb, ko, none⟩) 2 c] 24)) u4 := Fb.trans hxx3 hx4
  obtain ⟨g0, g1, g2, g3⟩ := (hbx0.fb hxx4 (by omega) (by decide)).node
  have ht4 := ht0.fb hxx4 hB
  have hs4 := hs0.fb hxx4
  simp only
  go_wp2_with fail
  go_end0
  exact ⟨rfl, by simpa using hb4, hxW.trans hxx4⟩
set_option maxHeartbeats 2000000 in
set_option maxRecDepth 100000 in
theorem stmt_56 (n : Int) (s : List UInt8) (x y : Nd) (hx : Prints 22 Nd.text x) (hy : Prints 22 Nd.text y) : PrintsD 49 Nd.stmtT (.mk 56 n s [x, y]) := by
  intro B b t w a c d h ht hB hs hd hlen
  have htx : (Nd.mk 56 n s [x, y]).stmtT d = kword 56 ++ x.text ++ [32] ++ updSign 56 ++ [32] ++ y.text := by rw [Nd.stmtT.eq_def]; simp [kword]
  rw [htx] at hlen ⊢
  clear htx
  have hle := h.le
  have hlt := h.lt
  simp only [Nd.kind, Nd.num, Nd.name, Nd.kids, Nd.val, Nd.sits, Nd.size, rowSize, List.length_cons, List.length_nil] at hs hd ⊢
  obtain ⟨kb, ko, rfl⟩ : ∃ kb ko, a = some ⟨kb, ko, none⟩ := by
    obtain ⟨b0, o0, _, _, he, _⟩ := rowSits_get hs (i := 0) rfl
    exact ⟨b0, o0, he⟩
  have HX := Lib.hid hx; clear hx
  have HY := Lib.hid hy; clear hy
  have hbx0 : Box w.heap.size #[.int .u8 56, .int .i64 n, str s, .slice (some ⟨kb, ko, none⟩) 2 c] 24 (w.alloc (.cells #[.int .u8 56, .int .i64 n, str s, .slice (some ⟨kb, ko, none⟩) 2 c] 24)) := Box.new _ _ _
  have hxW : Fb B b w (w.alloc (.cells #[.int .u8 56, .int .i64 n, str s, .slice (some ⟨kb, ko, none⟩) 2 c] 24)) := Fb.of_ext ((Ext.refl _).alloc _) hle
  have hb0 : Bld B b t (w.alloc (.cells #[.int .u8 56, .int .i64 n, str s, .slice (some ⟨kb, ko, none⟩) 2 c] 24)) := h.alloc _
  have ht0 := ht.fb hxW hB
  have hs0 := hs.fb hxW
  go_enter Tryd.func49, Tryd.ntmps49
  go_wp2_with fail
  refine (word_c _ _ (by omega) (by omega)).mono ?_
  rintro e w1 ⟨rfl, rfl⟩
  simp only
  go_wp2_with fail
  refine (write_c B b (w.heap.size + 1) 1 _ [kword 56] _ (hb0.alloc _) (Box.new' _ _ (by simp)) (by simp) (by (try simp at hlen ⊢) <;> omega)).mono ?_
  rintro e u1 ⟨rfl, hb1, hx1⟩
  have hxx1 : Fb B b (w.alloc (.cells #[.int .u8 56, .int .i64 n, str s, .slice (some ⟨kb, ko, none⟩) 2 c] 24)) u1 := Fb.trans (Fb.of_ext ((Ext.refl _).alloc _) hb0.le) hx1
  obtain ⟨g0, g1, g2, g3⟩ := (hbx0.fb hxx1 (by omega) (by decide)).node
  have ht1 := ht0.fb hxx1 hB
  have hs1 := hs0.fb hxx1
  obtain ⟨ka1, kc1, m0, m1, m2, m3, hk1⟩ := kid0 hs1
  simp only
  go_wp2_with fail
  refine (HX.out B b _ _ ka1 kc1 hb1 ht1 hB hk1 (by (try simp at hlen ⊢) <;> omega)).mono ?_
  rintro e u2 ⟨rfl, hb2, hx2⟩
  have hxx2 : Fb B b (w.alloc (.cells #[.int .u8 56, .int .i64 n, str s, .slice (some ⟨kb, ko, none⟩) 2 c] 24)) u2 := Fb.trans hxx1 hx2
  obtain ⟨g0, g1, g2, g3⟩ := (hbx0.fb hxx2 (by omega) (by decide)).node
  have ht2 := ht0.fb hxx2 hB
  have hs2 := hs0.fb hxx2
  simp only
  go_wp2_with fail
  refine (updater_c _ _ (by omega) (by omega) ht2).mono ?_
  rintro e w1 ⟨rfl, rfl⟩
  simp only
  go_wp2_with fail
  refine (write_c B b u2.heap.size 3 _ [[32], updSign 56, [32]] _ (hb2.alloc _) (Box.new' _ _ (by simp)) (by simp) (by (try simp at hlen ⊢) <;> omega)).mono ?_
  rintro e u3 ⟨rfl, hb3, hx3⟩
  have hxx3 : Fb B b (w.alloc (.cells #[.int .u8 56, .int .i64 n, str s, .slice (some ⟨kb, ko, none⟩) 2 c] 24)) u3 := Fb.trans (Fb.trans hxx2 (Fb.of_ext ((Ext.refl _).alloc _) hb2.le)) hx3
  obtain ⟨g0, g1, g2, g3⟩ := (hbx0.fb hxx3 (by omega) (by decide)).node
  have ht3 := ht0.fb hxx3 hB
  have hs3 := hs0.fb hxx3
  obtain ⟨ka3, kc3, m0, m1, m2, m3, m4, m5, m6, hk3⟩ := kid1 hs3
  simp only
  go_wp2_with fail
  refine (HY.out B b _ _ ka3 kc3 hb3 ht3 hB hk3 (by (try simp at hlen ⊢) <;> omega)).mono ?_
  rintro e u4 ⟨rfl, hb4, hx4⟩
  have hxx4 : Fb B b (w.alloc (.cells #[.int .u8 56, .int .i64 n, str s, .slice (some ⟨kb, ko, none⟩) 2 c] 24)) u4 := Fb.trans hxx3 hx4
  obtain ⟨g0, g1, g2, g3⟩ := (hbx0.fb hxx4 (by omega) (by decide)).node
  have ht4 := ht0.fb hxx4 hB
  have hs4 := hs0.fb hxx4
  simp only
  go_wp2_with fail
  go_end0
  exact ⟨rfl, by simpa using hb4, hxW.trans hxx4⟩
set_option maxHeartbeats 2000000 in
set_option maxRecDepth 100000 in
theorem stmt_43 (n : Int) (s : List UInt8) (x y : Nd) (hx : Prints 22 Nd.text x) (hy : Prints 22 Nd.text y) : PrintsD 49 Nd.stmtT (.mk 43 n s [x, y]) := by
  intro B b t w a c d h ht hB hs hd hlen
  have htx : (Nd.mk 43 n s [x, y]).stmtT d = kword 43 ++ x.text ++ [32] ++ updSign 43 ++ [32] ++ y.text := by rw [Nd.stmtT.eq_def]; simp [kword]
  rw [htx] at hlen ⊢
  clear htx
  have hle := h.le
  have hlt := h.lt
  simp only [Nd.kind, Nd.num, Nd.name, Nd.kids, Nd.val, Nd.sits, Nd.size, rowSize, List.length_cons, List.length_nil] at hs hd ⊢
  obtain ⟨kb, ko, rfl⟩ : ∃ kb ko, a = some ⟨kb, ko, none⟩ := by
    obtain ⟨b0, o0, _, _, he, _⟩ := rowSits_get hs (i := 0) rfl
    exact ⟨b0, o0, he⟩
  have HX := Lib.hid hx; clear hx
  have HY := Lib.hid hy; clear hy
  have hbx0 : Box w.heap.size #[.int .u8 43, .int .i64 n, str s, .slice (some ⟨kb, ko, none⟩) 2 c] 24 (w.alloc (.cells #[.int .u8 43, .int .i64 n, str s, .slice (some ⟨kb, ko, none⟩) 2 c] 24)) := Box.new _ _ _
  have hxW : Fb B b w (w.alloc (.cells #[.int .u8 43, .int .i64 n, str s, .slice (some ⟨kb, ko, none⟩) 2 c] 24)) := Fb.of_ext ((Ext.refl _).alloc _) hle
  have hb0 : Bld B b t (w.alloc (.cells #[.int .u8 43, .int .i64 n, str s, .slice (some ⟨kb, ko, none⟩) 2 c] 24)) := h.alloc _
  have ht0 := ht.fb hxW hB
  have hs0 := hs.fb hxW
  go_enter Tryd.func49, Tryd.ntmps49
  go_wp2_with fail
  refine (word_c _ _ (by omega) (by omega)).mono ?_
  rintro e w1 ⟨rfl, rfl⟩
  simp only
  go_wp2_with fail
  refine (write_c B b (w.heap.size + 1) 1 _ [kword 43] _ (hb0.alloc _) (Box.new' _ _ (by simp)) (by simp) (by (try simp at hlen ⊢) <;> omega)).mono ?_
  rintro e u1 ⟨rfl, hb1, hx1⟩
  have hxx1 : Fb B b (w.alloc (.cells #[.int .u8 43, .int .i64 n, str s, .slice (some ⟨kb, ko, none⟩) 2 c] 24)) u1 := Fb.trans (Fb.of_ext ((Ext.refl _).alloc _) hb0.le) hx1
  obtain ⟨g0, g1, g2, g3⟩ := (hbx0.fb hxx1 (by omega) (by decide)).node
  have ht1 := ht0.fb hxx1 hB
  have hs1 := hs0.fb hxx1
  obtain ⟨ka1, kc1, m0, m1, m2, m3, hk1⟩ := kid0 hs1
  simp only
  go_wp2_with fail
  refine (HX.out B b _ _ ka1 kc1 hb1 ht1 hB hk1 (by (try simp at hlen ⊢) <;> omega)).mono ?_
  rintro e u2 ⟨rfl, hb2, hx2⟩
  have hxx2 : Fb B b (w.alloc (.cells #[.int .u8 43, .int .i64 n, str s, .slice (some ⟨kb, ko, none⟩) 2 c] 24)) u2 := Fb.trans hxx1 hx2
  obtain ⟨g0, g1, g2, g3⟩ := (hbx0.fb hxx2 (by omega) (by decide)).node
  have ht2 := ht0.fb hxx2 hB
  have hs2 := hs0.fb hxx2
  simp only
  go_wp2_with fail
  refine (updater_c _ _ (by omega) (by omega) ht2).mono ?_
  rintro e w1 ⟨rfl, rfl⟩
  simp only
  go_wp2_with fail
  refine (write_c B b u2.heap.size 3 _ [[32], updSign 43, [32]] _ (hb2.alloc _) (Box.new' _ _ (by simp)) (by simp) (by (try simp at hlen ⊢) <;> omega)).mono ?_
  rintro e u3 ⟨rfl, hb3, hx3⟩
  have hxx3 : Fb B b (w.alloc (.cells #[.int .u8 43, .int .i64 n, str s, .slice (some ⟨kb, ko, none⟩) 2 c] 24)) u3 := Fb.trans (Fb.trans hxx2 (Fb.of_ext ((Ext.refl _).alloc _) hb2.le)) hx3
  obtain ⟨g0, g1, g2, g3⟩ := (hbx0.fb hxx3 (by omega) (by decide)).node
  have ht3 := ht0.fb hxx3 hB
  have hs3 := hs0.fb hxx3
  obtain ⟨ka3, kc3, m0, m1, m2, m3, m4, m5, m6, hk3⟩ := kid1 hs3
  simp only
  go_wp2_with fail
  refine (HY.out B b _ _ ka3 kc3 hb3 ht3 hB hk3 (by (try simp at hlen ⊢) <;> omega)).mono ?_
  rintro e u4 ⟨rfl, hb4, hx4⟩
  have hxx4 : Fb B b (w.alloc (.cells #[.int .u8 43, .int .i64 n, str s, .slice (some ⟨kb, ko, none⟩) 2 c] 24)) u4 := Fb.trans hxx3 hx4
  obtain ⟨g0, g1, g2, g3⟩ := (hbx0.fb hxx4 (by omega) (by decide)).node
  have ht4 := ht0.fb hxx4 hB
  have hs4 := hs0.fb hxx4
  simp only
  go_wp2_with fail
  go_end0
  exact ⟨rfl, by simpa using hb4, hxW.trans hxx4⟩
set_option maxHeartbeats 2000000 in
set_option maxRecDepth 100000 in
theorem stmt_44 (n : Int) (s : List UInt8) (x : Nd) (hx : Prints 22 Nd.text x) : PrintsD 49 Nd.stmtT (.mk 44 n s [x]) := by
  intro B b t w a c d h ht hB hs hd hlen
  have htx : (Nd.mk 44 n s [x]).stmtT d = kword 44 ++ x.text ++ [44, 32] ++ s := by rw [Nd.stmtT.eq_def]; simp
  rw [htx] at hlen ⊢
  clear htx
  have hle := h.le
  have hlt := h.lt
  simp only [Nd.kind, Nd.num, Nd.name, Nd.kids, Nd.val, Nd.sits, Nd.size, rowSize, List.length_cons, List.length_nil] at hs hd ⊢
  obtain ⟨kb, ko, rfl⟩ : ∃ kb ko, a = some ⟨kb, ko, none⟩ := by
    obtain ⟨b0, o0, _, _, he, _⟩ := rowSits_get hs (i := 0) rfl
    exact ⟨b0, o0, he⟩
  have HX := Lib.hid hx; clear hx
  have hbx0 : Box w.heap.size #[.int .u8 44, .int .i64 n, str s, .slice (some ⟨kb, ko, none⟩) 1 c] 24 (w.alloc (.cells #[.int .u8 44, .int .i64 n, str s, .slice (some ⟨kb, ko, none⟩) 1 c] 24)) := Box.new _ _ _
  have hxW : Fb B b w (w.alloc (.cells #[.int .u8 44, .int .i64 n, str s, .slice (some ⟨kb, ko, none⟩) 1 c] 24)) := Fb.of_ext ((Ext.refl _).alloc _) hle
  have hb0 : Bld B b t (w.alloc (.cells #[.int .u8 44, .int .i64 n, str s, .slice (some ⟨kb, ko, none⟩) 1 c] 24)) := h.alloc _
  have ht0 := ht.fb hxW hB
  have hs0 := hs.fb hxW
  go_enter Tryd.func49, Tryd.ntmps49
  go_wp2_with fail
  refine (word_c _ _ (by omega) (by omega)).mono ?_
  rintro e w1 ⟨rfl, rfl⟩
  simp only
  go_wp2_with fail
  refine (write_c B b (w.heap.size + 1) 1 _ [kword 44] _ (hb0.alloc _) (Box.new' _ _ (by simp)) (by simp) (by (try simp at hlen ⊢) <;> omega)).mono ?_
  rintro e u1 ⟨rfl, hb1, hx1⟩
  have hxx1 : Fb B b (w.alloc (.cells #[.int .u8 44, .int .i64 n, str s, .slice (some ⟨kb, ko, none⟩) 1 c] 24)) u1 := Fb.trans (Fb.of_ext ((Ext.refl _).alloc _) hb0.le) hx1
  obtain ⟨g0, g1, g2, g3⟩ := (hbx0.fb hxx1 (by omega) (by decide)).node
  have ht1 := ht0.fb hxx1 hB
  have hs1 := hs0.fb hxx1
  obtain ⟨ka1, kc1, m0, m1, m2, m3, hk1⟩ := kid0 hs1
  simp only
  go_wp2_with fail
  refine (HX.out B b _ _ ka1 kc1 hb1 ht1 hB hk1 (by (try simp at hlen ⊢) <;> omega)).mono ?_
  rintro e u2 ⟨rfl, hb2, hx2⟩
  have hxx2 : Fb B b (w.alloc (.cells #[.int .u8 44, .int .i64 n, str s, .slice (some ⟨kb, ko, none⟩) 1 c] 24)) u2 := Fb.trans hxx1 hx2
  obtain ⟨g0, g1, g2, g3⟩ := (hbx0.fb hxx2 (by omega) (by decide)).node
  have ht2 := ht0.fb hxx2 hB
  have hs2 := hs0.fb hxx2
  simp only
  go_wp2_with fail
  refine (write_c B b u2.heap.size 2 _ [[44, 32], s] _ (hb2.alloc _) (Box.new' _ _ (by simp)) (by simp) (by (try simp at hlen ⊢) <;> omega)).mono ?_
  rintro e u3 ⟨rfl, hb3, hx3⟩
  have hxx3 : Fb B b (w.alloc (.cells #[.int .u8 44, .int .i64 n, str s, .slice (some ⟨kb, ko, none⟩) 1 c] 24)) u3 := Fb.trans (Fb.trans hxx2 (Fb.of_ext ((Ext.refl _).alloc _) hb2.le)) hx3
  obtain ⟨g0, g1, g2, g3⟩ := (hbx0.fb hxx3 (by omega) (by decide)).node
  have ht3 := ht0.fb hxx3 hB
  have hs3 := hs0.fb hxx3
  simp only
  go_wp2_with fail
  go_end0
  exact ⟨rfl, by simpa using hb3, hxW.trans hxx3⟩
set_option maxHeartbeats 2000000 in
set_option maxRecDepth 100000 in
theorem stmt_45 (n : Int) (s : List UInt8) (x : Nd) (hx : Prints 22 Nd.text x) : PrintsD 49 Nd.stmtT (.mk 45 n s [x]) := by
  intro B b t w a c d h ht hB hs hd hlen
  have htx : (Nd.mk 45 n s [x]).stmtT d = kword 45 ++ x.text ++ [44, 32] ++ s := by rw [Nd.stmtT.eq_def]; simp
  rw [htx] at hlen ⊢
  clear htx
  have hle := h.le
  have hlt := h.lt
  simp only [Nd.kind, Nd.num, Nd.name, Nd.kids, Nd.val, Nd.sits, Nd.size, rowSize, List.length_cons, List.length_nil] at hs hd ⊢
  obtain ⟨kb, ko, rfl⟩ : ∃ kb ko, a = some ⟨kb, ko, none⟩ := by
    obtain ⟨b0, o0, _, _, he, _⟩ := rowSits_get hs (i := 0) rfl
    exact ⟨b0, o0, he⟩
  have HX := Lib.hid hx; clear hx
  have hbx0 : Box w.heap.size #[.int .u8 45, .int .i64 n, str s, .slice (some ⟨kb, ko, none⟩) 1 c] 24 (w.alloc (.cells #[.int .u8 45, .int .i64 n, str s, .slice (some ⟨kb, ko, none⟩) 1 c] 24)) := Box.new _ _ _
  have hxW : Fb B b w (w.alloc (.cells #[.int .u8 45, .int .i64 n, str s, .slice (some ⟨kb, ko, none⟩) 1 c] 24)) := Fb.of_ext ((Ext.refl _).alloc _) hle
  have hb0 : Bld B b t (w.alloc (.cells #[.int .u8 45, .int .i64 n, str s, .slice (some ⟨kb, ko, none⟩) 1 c] 24)) := h.alloc _
  have ht0 := ht.fb hxW hB
  have hs0 := hs.fb hxW
  go_enter Tryd.func49, Tryd.ntmps49
  go_wp2_with fail
  refine (word_c _ _ (by omega) (by omega)).mono ?_
  rintro e w1 ⟨rfl, rfl⟩
  simp only
  go_wp2_with fail
  refine (write_c B b (w.heap.size + 1) 1 _ [kword 45] _ (hb0.alloc _) (Box.new' _ _ (by simp)) (by simp) (by (try simp at hlen ⊢) <;> omega)).mono ?_
  rintro e u1 ⟨rfl, hb1, hx1⟩
  have hxx1 : Fb B b (w.alloc (.cells #[.int .u8 45, .int .i64 n, str s, .slice (some ⟨kb, ko, none⟩) 1 c] 24)) u1 := Fb.trans (Fb.of_ext ((Ext.refl _).alloc _) hb0.le) hx1
  obtain ⟨g0, g1, g2, g3⟩ := (hbx0.fb hxx1 (by omega) (by decide)).node
  have ht1 := ht0.fb hxx1 hB
  have hs1 := hs0.fb hxx1
  obtain ⟨ka1, kc1, m0, m1, m2, m3, hk1⟩ := kid0 hs1
  simp only
  go_wp2_with fail
  refine (HX.out B b _ _ ka1 kc1 hb1 ht1 hB hk1 (by (try simp at hlen ⊢) <;> omega)).mono ?_
  rintro e u2 ⟨rfl, hb2, hx2⟩
  have hxx2 : Fb B b (w.alloc (.cells #[.int .u8 45, .int .i64 n, str s, .slice (some ⟨kb, ko, none⟩) 1 c] 24)) u2 := Fb.trans hxx1 hx2
  obtain ⟨g0, g1, g2, g3⟩ := (hbx0.fb hxx2 (by omega) (by decide)).node
  have ht2 := ht0.fb hxx2 hB
  have hs2 := hs0.fb hxx2
  simp only
  go_wp2_with fail
  refine (write_c B b u2.heap.size 2 _ [[44, 32], s] _ (hb2.alloc _) (Box.new' _ _ (by simp)) (by simp) (by (try simp at hlen ⊢) <;> omega)).mono ?_
  rintro e u3 ⟨rfl, hb3, hx3⟩
  have hxx3 : Fb B b (w.alloc (.cells #[.int .u8 45, .int .i64 n, str s, .slice (some ⟨kb, ko, none⟩) 1 c] 24)) u3 := Fb.trans (Fb.trans hxx2 (Fb.of_ext ((Ext.refl _).alloc _) hb2.le)) hx3
  obtain ⟨g0, g1, g2, g3⟩ := (hbx0.fb hxx3 (by omega) (by decide)).node
  have ht3 := ht0.fb hxx3 hB
  have hs3 := hs0.fb hxx3
  simp only
  go_wp2_with fail
  go_end0
  exact ⟨rfl, by simpa using hb3, hxW.trans hxx3⟩
set_option maxHeartbeats 2000000 in
set_option maxRecDepth 100000 in
theorem stmt_46 (n : Int) (s : List UInt8) (x : Nd) (hx : Prints 22 Nd.text x) : PrintsD 49 Nd.stmtT (.mk 46 n s [x]) := by
  intro B b t w a c d h ht hB hs hd hlen
  have htx : (Nd.mk 46 n s [x]).stmtT d = kword 46 ++ x.text := by rw [Nd.stmtT.eq_def]; simp
  rw [htx] at hlen ⊢
  clear htx
  have hle := h.le
  have hlt := h.lt
  simp only [Nd.kind, Nd.num, Nd.name, Nd.kids, Nd.val, Nd.sits, Nd.size, rowSize, List.length_cons, List.length_nil] at hs hd ⊢
  obtain ⟨kb, ko, rfl⟩ : ∃ kb ko, a = some ⟨kb, ko, none⟩ := by
    obtain ⟨b0, o0, _, _, he, _⟩ := rowSits_get hs (i := 0) rfl
    exact ⟨b0, o0, he⟩
  have HX := Lib.hid hx; clear hx
  have hbx0 : Box w.heap.size #[.int .u8 46, .int .i64 n, str s, .slice (some ⟨kb, ko, none⟩) 1 c] 24 (w.alloc (.cells #[.int .u8 46, .int .i64 n, str s, .slice (some ⟨kb, ko, none⟩) 1 c] 24)) := Box.new _ _ _
  have hxW : Fb B b w (w.alloc (.cells #[.int .u8 46, .int .i64 n, str s, .slice (some ⟨kb, ko, none⟩) 1 c] 24)) := Fb.of_ext ((Ext.refl _).alloc _) hle
  have hb0 : Bld B b t (w.alloc (.cells #[.int .u8 46, .int .i64 n, str s, .slice (some ⟨kb, ko, none⟩) 1 c] 24)) := h.alloc _
  have ht0 := ht.fb hxW hB
  have hs0 := hs.fb hxW
  go_enter Tryd.func49, Tryd.ntmps49
  go_wp2_with fail
  refine (word_c _ _ (by omega) (by omega)).mono ?_
  rintro e w1 ⟨rfl, rfl⟩
  simp only
  go_wp2_with fail
  refine (write_c B b (w.heap.size + 1) 1 _ [kword 46] _ (hb0.alloc _) (Box.new' _ _ (by simp)) (by simp) (by (try simp at hlen ⊢) <;> omega)).mono ?_
  rintro e u1 ⟨rfl, hb1, hx1⟩
  have hxx1 : Fb B b (w.alloc (.cells #[.int .u8 46, .int .i64 n, str s, .slice (some ⟨kb, ko, none⟩) 1 c] 24)) u1 := Fb.trans (Fb.of_ext ((Ext.refl _).alloc _) hb0.le) hx1
  obtain ⟨g0, g1, g2, g3⟩ := (hbx0.fb hxx1 (by omega) (by decide)).node
  have ht1 := ht0.fb hxx1 hB
  have hs1 := hs0.fb hxx1
  obtain ⟨ka1, kc1, m0, m1, m2, m3, hk1⟩ := kid0 hs1
  simp only
  go_wp2_with fail
  refine (HX.out B b _ _ ka1 kc1 hb1 ht1 hB hk1 (by (try simp at hlen ⊢) <;> omega)).mono ?_
  rintro e u2 ⟨rfl, hb2, hx2⟩
  have hxx2 : Fb B b (w.alloc (.cells #[.int .u8 46, .int .i64 n, str s, .slice (some ⟨kb, ko, none⟩) 1 c] 24)) u2 := Fb.trans hxx1 hx2
  obtain ⟨g0, g1, g2, g3⟩ := (hbx0.fb hxx2 (by omega) (by decide)).node
  have ht2 := ht0.fb hxx2 hB
  have hs2 := hs0.fb hxx2
  simp only
  go_wp2_with fail
  go_end0
  exact ⟨rfl, by simpa using hb2, hxW.trans hxx2⟩
set_option maxHeartbeats 2000000 in
set_option maxRecDepth 100000 in
theorem stmt_47 (n : Int) (s : List UInt8) (x : Nd) (hx : Prints 22 Nd.text x) : PrintsD 49 Nd.stmtT (.mk 47 n s [x]) := by
  intro B b t w a c d h ht hB hs hd hlen
  have htx : (Nd.mk 47 n s [x]).stmtT d = kword 47 ++ x.text := by rw [Nd.stmtT.eq_def]; simp
  rw [htx] at hlen ⊢
  clear htx
  have hle := h.le
  have hlt := h.lt
  simp only [Nd.kind, Nd.num, Nd.name, Nd.kids, Nd.val, Nd.sits, Nd.size, rowSize, List.length_cons, List.length_nil] at hs hd ⊢
  obtain ⟨kb, ko, rfl⟩ : ∃ kb ko, a = some ⟨kb, ko, none⟩ := by
    obtain ⟨b0, o0, _, _, he, _⟩ := rowSits_get hs (i := 0) rfl
    exact ⟨b0, o0, he⟩
  have HX := Lib.hid hx; clear hx
  have hbx0 : Box w.heap.size #[.int .u8 47, .int .i64 n, str s, .slice (some ⟨kb, ko, none⟩) 1 c] 24 (w.alloc (.cells #[.int .u8 47, .int .i64 n, str s, .slice (some ⟨kb, ko, none⟩) 1 c] 24)) := Box.new _ _ _
  have hxW : Fb B b w (w.alloc (.cells #[.int .u8 47, .int .i64 n, str s, .slice (some ⟨kb, ko, none⟩) 1 c] 24)) := Fb.of_ext ((Ext.refl _).alloc _) hle
  have hb0 : Bld B b t (w.alloc (.cells #[.int .u8 47, .int .i64 n, str s, .slice (some ⟨kb, ko, none⟩) 1 c] 24)) := h.alloc _
  have ht0 := ht.fb hxW hB
  have hs0 := hs.fb hxW
  go_enter Tryd.func49, Tryd.ntmps49
  go_wp2_with fail
  refine (word_c _ _ (by omega) (by omega)).mono ?_
  rintro e w1 ⟨rfl, rfl⟩
  simp only
  go_wp2_with fail
  refine (write_c B b (w.heap.size + 1) 1 _ [kword 47] _ (hb0.alloc _) (Box.new' _ _ (by simp)) (by simp) (by (try simp at hlen ⊢) <;> omega)).mono ?_
  rintro e u1 ⟨rfl, hb1, hx1⟩
  have hxx1 : Fb B b (w.alloc (.cells #[.int .u8 47, .int .i64 n, str s, .slice (some ⟨kb, ko, none⟩) 1 c] 24)) u1 := Fb.trans (Fb.of_ext ((Ext.refl _).alloc _) hb0.le) hx1
  obtain ⟨g0, g1, g2, g3⟩ := (hbx0.fb hxx1 (by omega) (by decide)).node
  have ht1 := ht0.fb hxx1 hB
  have hs1 := hs0.fb hxx1
  obtain ⟨ka1, kc1, m0, m1, m2, m3, hk1⟩ := kid0 hs1
  simp only
  go_wp2_with fail
  refine (HX.out B b _ _ ka1 kc1 hb1 ht1 hB hk1 (by (try simp at hlen ⊢) <;> omega)).mono ?_
  rintro e u2 ⟨rfl, hb2, hx2⟩
  have hxx2 : Fb B b (w.alloc (.cells #[.int .u8 47, .int .i64 n, str s, .slice (some ⟨kb, ko, none⟩) 1 c] 24)) u2 := Fb.trans hxx1 hx2
  obtain ⟨g0, g1, g2, g3⟩ := (hbx0.fb hxx2 (by omega) (by decide)).node
  have ht2 := ht0.fb hxx2 hB
  have hs2 := hs0.fb hxx2
  simp only
  go_wp2_with fail
  go_end0
  exact ⟨rfl, by simpa using hb2, hxW.trans hxx2⟩
set_option maxHeartbeats 2000000 in
set_option maxRecDepth 100000 in
theorem stmt_48 (n : Int) (s : List UInt8) (x : Nd) (hx : Prints 22 Nd.text x) : PrintsD 49 Nd.stmtT (.mk 48 n s [x]) := by
  intro B b t w a c d h ht hB hs hd hlen
  have htx : (Nd.mk 48 n s [x]).stmtT d = kword 48 ++ x.text := by rw [Nd.stmtT.eq_def]; simp
  rw [htx] at hlen ⊢
  clear htx
  have hle := h.le
  have hlt := h.lt
  simp only [Nd.kind, Nd.num, Nd.name, Nd.kids, Nd.val, Nd.sits, Nd.size, rowSize, List.length_cons, List.length_nil] at hs hd ⊢
  obtain ⟨kb, ko, rfl⟩ : ∃ kb ko, a = some ⟨kb, ko, none⟩ := by
    obtain ⟨b0, o0, _, _, he, _⟩ := rowSits_get hs (i := 0) rfl
    exact ⟨b0, o0, he⟩
  have HX := Lib.hid hx; clear hx
  have hbx0 : Box w.heap.size #[.int .u8 48, .int .i64 n, str s, .slice (some ⟨kb, ko, none⟩) 1 c] 24 (w.alloc (.cells #[.int .u8 48, .int .i64 n, str s, .slice (some ⟨kb, ko, none⟩) 1 c] 24)) := Box.new _ _ _
  have hxW : Fb B b w (w.alloc (.cells #[.int .u8 48, .int .i64 n, str s, .slice (some ⟨kb, ko, none⟩) 1 c] 24)) := Fb.of_ext ((Ext.refl _).alloc _) hle
  have hb0 : Bld B b t (w.alloc (.cells #[.int .u8 48, .int .i64 n, str s, .slice (some ⟨kb, ko, none⟩) 1 c] 24)) := h.alloc _
  have ht0 := ht.fb hxW hB
  have hs0 := hs.fb hxW
  go_enter Tryd.func49, Tryd.ntmps49
  go_wp2_with fail
  refine (word_c _ _ (by omega) (by omega)).mono ?_
  rintro e w1 ⟨rfl, rfl⟩
  simp only
  go_wp2_with fail
  refine (write_c B b (w.heap.size + 1) 1 _ [kword 48] _ (hb0.alloc _) (Box.new' _ _ (by simp)) (by simp) (by (try simp at hlen ⊢) <;> omega)).mono ?_
  rintro e u1 ⟨rfl, hb1, hx1⟩
  have hxx1 : Fb B b (w.alloc (.cells #[.int .u8 48, .int .i64 n, str s, .slice (some ⟨kb, ko, none⟩) 1 c] 24)) u1 := Fb.trans (Fb.of_ext ((Ext.refl _).alloc _) hb0.le) hx1
  obtain ⟨g0, g1, g2, g3⟩ := (hbx0.fb hxx1 (by omega) (by decide)).node
  have ht1 := ht0.fb hxx1 hB
  have hs1 := hs0.fb hxx1
  obtain ⟨ka1, kc1, m0, m1, m2, m3, hk1⟩ := kid0 hs1
  simp only
  go_wp2_with fail
  refine (HX.out B b _ _ ka1 kc1 hb1 ht1 hB hk1 (by (try simp at hlen ⊢) <;> omega)).mono ?_
  rintro e u2 ⟨rfl, hb2, hx2⟩
  have hxx2 : Fb B b (w.alloc (.cells #[.int .u8 48, .int .i64 n, str s, .slice (some ⟨kb, ko, none⟩) 1 c] 24)) u2 := Fb.trans hxx1 hx2
  obtain ⟨g0, g1, g2, g3⟩ := (hbx0.fb hxx2 (by omega) (by decide)).node
  have ht2 := ht0.fb hxx2 hB
  have hs2 := hs0.fb hxx2
  simp only
  go_wp2_with fail
  go_end0
  exact ⟨rfl, by simpa using hb2, hxW.trans hxx2⟩
set_option maxHeartbeats 2000000 in
set_option maxRecDepth 100000 in
theorem stmt_49 (n : Int) (s : List UInt8) (x : Nd) (hx : Prints 22 Nd.text x) : PrintsD 49 Nd.stmtT (.mk 49 n s [x]) := by
  intro B b t w a c d h ht hB hs hd hlen
  have htx : (Nd.mk 49 n s [x]).stmtT d = kword 49 ++ x.text := by rw [Nd.stmtT.eq_def]; simp
  rw [htx] at hlen ⊢
  clear htx
  have hle := h.le
  have hlt := h.lt
  simp only [Nd.kind, Nd.num, Nd.name, Nd.kids, Nd.val, Nd.sits, Nd.size, rowSize, List.length_cons, List.length_nil] at hs hd ⊢
  obtain ⟨kb, ko, rfl⟩ : ∃ kb ko, a = some ⟨kb, ko, none⟩ := by
    obtain ⟨b0, o0, _, _, he, _⟩ := rowSits_get hs (i := 0) rfl
    exact ⟨b0, o0, he⟩
  have HX := Lib.hid hx; clear hx
  have hbx0 : Box w.heap.size #[.int .u8 49, .int .i64 n, str s, .slice (some ⟨kb, ko, none⟩) 1 c] 24 (w.alloc (.cells #[.int .u8 49, .int .i64 n, str s, .slice (some ⟨kb, ko, none⟩) 1 c] 24)) := Box.new _ _ _
  have hxW : Fb B b w (w.alloc (.cells #[.int .u8 49, .int .i64 n, str s, .slice (some ⟨kb, ko, none⟩) 1 c] 24)) := Fb.of_ext ((Ext.refl _).alloc _) hle
  have hb0 : Bld B b t (w.alloc (.cells #[.int .u8 49, .int .i64 n, str s, .slice (some ⟨kb, ko, none⟩) 1 c] 24)) := h.alloc _
  have ht0 := ht.fb hxW hB
  have hs0 := hs.fb hxW
  go_enter Tryd.func49, Tryd.ntmps49
  go_wp2_with fail
  refine (word_c _ _ (by omega) (by omega)).mono ?_
  rintro e w1 ⟨rfl, rfl⟩
  simp only
  go_wp2_with fail
  refine (write_c B b (w.heap.size + 1) 1 _ [kword 49] _ (hb0.alloc _) (Box.new' _ _ (by simp)) (by simp) (by (try simp at hlen ⊢) <;> omega)).mono ?_
  rintro e u1 ⟨rfl, hb1, hx1⟩
  have hxx1 : Fb B b (w.alloc (.cells #[.int .u8 49, .int .i64 n, str s, .slice (some ⟨kb, ko, none⟩) 1 c] 24)) u1 := Fb.trans (Fb.of_ext ((Ext.refl _).alloc _) hb0.le) hx1
  obtain ⟨g0, g1, g2, g3⟩ := (hbx0.fb hxx1 (by omega) (by decide)).node
  have ht1 := ht0.fb hxx1 hB
  have hs1 := hs0.fb hxx1
  obtain ⟨ka1, kc1, m0, m1, m2, m3, hk1⟩ := kid0 hs1
  simp only
  go_wp2_with fail
  refine (HX.out B b _ _ ka1 kc1 hb1 ht1 hB hk1 (by (try simp at hlen ⊢) <;> omega)).mono ?_
  rintro e u2 ⟨rfl, hb2, hx2⟩
  have hxx2 : Fb B b (w.alloc (.cells #[.int .u8 49, .int .i64 n, str s, .slice (some ⟨kb, ko, none⟩) 1 c] 24)) u2 := Fb.trans hxx1 hx2
  obtain ⟨g0, g1, g2, g3⟩ := (hbx0.fb hxx2 (by omega) (by decide)).node
  have ht2 := ht0.fb hxx2 hB
  have hs2 := hs0.fb hxx2
  simp only
  go_wp2_with fail
  go_end0
  exact ⟨rfl, by simpa using hb2, hxW.trans hxx2⟩
set_option maxHeartbeats 2000000 in
set_option maxRecDepth 100000 in
theorem branches_c (k n : Int) (s : List UInt8) (x y z u : Nd) (hx : Prints 22 Nd.text x) (hy : PrintsD 32 Nd.linesT y) (hz : PrintsD 32 Nd.linesT z) (hu : Prints 22 Nd.text u) (mid lst : List UInt8) (B b : Nat) (t : List UInt8) (w : World) (a : Option Addr) (c d : Nat)
    (h : Bld B b t w) (ht : Tabs w) (hB : Tryd.prog.globals.size ≤ B) (hs : rowSits (· < B) w [x, y, z, u] a) (hd : d + (1 + rowSize [x, y, z, u]) ≤ 1000000) (hlen : (t ++ (x.text ++ bracesT y d ++ mid ++ bracesT z d ++ lst ++ u.text)).length ≤ 140737488355328) :
    Calls Tryd.prog 62 #[.pointer (some ⟨b, 0, none⟩), .agg #[.int .u8 k, .int .i64 n, str s, .slice a 4 c], .int .i64 d, str mid, str lst] w fun e w' => e = .returned (.tuple #[]) ∧ Bld B b (t ++ (x.text ++ bracesT y d ++ mid ++ bracesT z d ++ lst ++ u.text)) w' ∧ Fb B b w w' := by
  have hle := h.le
  have hlt := h.lt
  simp only [rowSize] at hd
  obtain ⟨kb, ko, rfl⟩ : ∃ kb ko, a = some ⟨kb, ko, none⟩ := by
    obtain ⟨b0, o0, _, _, he, _⟩ := rowSits_get hs (i := 0) rfl
    exact ⟨b0, o0, he⟩
  have HX := Lib.hid hx; clear hx
  have HY := Lib.hid hy; clear hy
  have HZ := Lib.hid hz; clear hz
  have HU := Lib.hid hu; clear hu
  have hbx0 : Box w.heap.size #[.int .u8 k, .int .i64 n, str s, .slice (some ⟨kb, ko, none⟩) 4 c] 24 (w.alloc (.cells #[.int .u8 k, .int .i64 n, str s, .slice (some ⟨kb, ko, none⟩) 4 c] 24)) := Box.new _ _ _
  have hxW : Fb B b w (w.alloc (.cells #[.int .u8 k, .int .i64 n, str s, .slice (some ⟨kb, ko, none⟩) 4 c] 24)) := Fb.of_ext ((Ext.refl _).alloc _) hle
  have hb0 : Bld B b t (w.alloc (.cells #[.int .u8 k, .int .i64 n, str s, .slice (some ⟨kb, ko, none⟩) 4 c] 24)) := h.alloc _
  have ht0 := ht.fb hxW hB
  have hs0 := hs.fb hxW
  have hxx0 := Fb.refl B b (w.alloc (.cells #[.int .u8 k, .int .i64 n, str s, .slice (some ⟨kb, ko, none⟩) 4 c] 24))
  obtain ⟨ka0, kc0, m0, m1, m2, m3, hk0⟩ := kid0 hs0
  have hkw : kb < w.heap.size := by
    have := cell_lt m0
    have h2 := (rowSits_get hs (i := 0) rfl)
    obtain ⟨_, _, _, _, he, h3, h4, _⟩ := h2
    simp only [Option.some.injEq, Addr.mk.injEq] at he
    obtain ⟨rfl, rfl, -⟩ := he
    omega
  go_enter Tryd.func62, Tryd.ntmps62
  go_wp2_with fail
  refine (HX.out B b _ _ ka0 kc0 hb0 ht0 hB hk0 (by (try simp at hlen ⊢) <;> omega)).mono ?_
  rintro e u1 ⟨rfl, hb1, hx1⟩
  have hxx1 : Fb B b (w.alloc (.cells #[.int .u8 k, .int .i64 n, str s, .slice (some ⟨kb, ko, none⟩) 4 c] 24)) u1 := Fb.trans hxx0 hx1
  obtain ⟨g0, g1, g2, g3⟩ := (hbx0.fb hxx1 (by omega) (by decide)).node
  have ht1 := ht0.fb hxx1 hB
  have hs1 := hs0.fb hxx1
  obtain ⟨ka1, kc1, m0, m1, m2, m3, m4, m5, m6, hk1⟩ := kid1 hs1
  simp only
  go_wp2_with fail
  refine (braces_c _ HY.out B b _ _ ka1 kc1 d hb1 ht1 hB hk1 (by omega) (by (try simp at hlen ⊢) <;> omega)).mono ?_
  rintro e u2 ⟨rfl, hb2, hx2⟩
  have hxx2 : Fb B b (w.alloc (.cells #[.int .u8 k, .int .i64 n, str s, .slice (some ⟨kb, ko, none⟩) 4 c] 24)) u2 := Fb.trans hxx1 hx2
  obtain ⟨g0, g1, g2, g3⟩ := (hbx0.fb hxx2 (by omega) (by decide)).node
  have ht2 := ht0.fb hxx2 hB
  have hs2 := hs0.fb hxx2
  simp only
  go_wp2_with fail
  refine (write_c B b u2.heap.size 1 _ [mid] _ (hb2.alloc _) (Box.new' _ _ (by simp)) (by simp) (by (try simp at hlen ⊢) <;> omega)).mono ?_
  rintro e u3 ⟨rfl, hb3, hx3⟩
  have hxx3 : Fb B b (w.alloc (.cells #[.int .u8 k, .int .i64 n, str s, .slice (some ⟨kb, ko, none⟩) 4 c] 24)) u3 := Fb.trans (Fb.trans hxx2 (Fb.of_ext ((Ext.refl _).alloc _) hb2.le)) hx3
  obtain ⟨g0, g1, g2, g3⟩ := (hbx0.fb hxx3 (by omega) (by decide)).node
  have ht3 := ht0.fb hxx3 hB
  have hs3 := hs0.fb hxx3
  obtain ⟨ka3, kc3, m0, m1, m2, m3, m4, m5, m6, hk3⟩ := kid2 hs3
  simp only
  go_wp2_with fail
  refine (braces_c _ HZ.out B b _ _ ka3 kc3 d hb3 ht3 hB hk3 (by omega) (by (try simp at hlen ⊢) <;> omega)).mono ?_
  rintro e u4 ⟨rfl, hb4, hx4⟩
  have hxx4 : Fb B b (w.alloc (.cells #[.int .u8 k, .int .i64 n, str s, .slice (some ⟨kb, ko, none⟩) 4 c] 24)) u4 := Fb.trans hxx3 hx4
  obtain ⟨g0, g1, g2, g3⟩ := (hbx0.fb hxx4 (by omega) (by decide)).node
  have ht4 := ht0.fb hxx4 hB
  have hs4 := hs0.fb hxx4
  simp only
  go_wp2_with fail
  refine (write_c B b u4.heap.size 1 _ [lst] _ (hb4.alloc _) (Box.new' _ _ (by simp)) (by simp) (by (try simp at hlen ⊢) <;> omega)).mono ?_
  rintro e u5 ⟨rfl, hb5, hx5⟩
  have hxx5 : Fb B b (w.alloc (.cells #[.int .u8 k, .int .i64 n, str s, .slice (some ⟨kb, ko, none⟩) 4 c] 24)) u5 := Fb.trans (Fb.trans hxx4 (Fb.of_ext ((Ext.refl _).alloc _) hb4.le)) hx5
  obtain ⟨g0, g1, g2, g3⟩ := (hbx0.fb hxx5 (by omega) (by decide)).node
  have ht5 := ht0.fb hxx5 hB
  have hs5 := hs0.fb hxx5
  obtain ⟨ka5, kc5, m0, m1, m2, m3, m4, m5, m6, hk5⟩ := kid3 hs5
  simp only
  go_wp2_with fail
  refine (HU.out B b _ _ ka5 kc5 hb5 ht5 hB hk5 (by (try simp at hlen ⊢) <;> omega)).mono ?_
  rintro e u6 ⟨rfl, hb6, hx6⟩
  have hxx6 : Fb B b (w.alloc (.cells #[.int .u8 k, .int .i64 n, str s, .slice (some ⟨kb, ko, none⟩) 4 c] 24)) u6 := Fb.trans hxx5 hx6
  obtain ⟨g0, g1, g2, g3⟩ := (hbx0.fb hxx6 (by omega) (by decide)).node
  have ht6 := ht0.fb hxx6 hB
  have hs6 := hs0.fb hxx6
  simp only
  go_wp2_with fail
  go_end0
  exact ⟨rfl, by simpa using hb6, hxW.trans hxx6⟩
set_option maxHeartbeats 2000000 in
set_option maxRecDepth 100000 in
theorem stmt_52 (n : Int) (s : List UInt8) (x y z u : Nd) (hx : Prints 22 Nd.text x) (hy : PrintsD 32 Nd.linesT y) (hz : PrintsD 32 Nd.linesT z) (hu : Prints 22 Nd.text u) : PrintsD 49 Nd.stmtT (.mk 52 n s [x, y, z, u]) := by
  intro B b t w a c d h ht hB hs hd hlen
  have htx : (Nd.mk 52 n s [x, y, z, u]).stmtT d = kword 52 ++ x.text ++ bracesT y d ++ [32, 101, 108, 115, 101] ++ bracesT z d ++ [32, 102, 105, 32] ++ u.text := by rw [Nd.stmtT.eq_def]; simp [bracesT]
  rw [htx] at hlen ⊢
  clear htx
  have hle := h.le
  have hlt := h.lt
  simp only [Nd.kind, Nd.num, Nd.name, Nd.kids, Nd.val, Nd.sits, Nd.size, rowSize, List.length_cons, List.length_nil] at hs hd ⊢
  obtain ⟨kb, ko, rfl⟩ : ∃ kb ko, a = some ⟨kb, ko, none⟩ := by
    obtain ⟨b0, o0, _, _, he, _⟩ := rowSits_get hs (i := 0) rfl
    exact ⟨b0, o0, he⟩
  have HX := Lib.hid hx; clear hx
  have HY := Lib.hid hy; clear hy
  have HZ := Lib.hid hz; clear hz
  have HU := Lib.hid hu; clear hu
  have hbx0 : Box w.heap.size #[.int .u8 52, .int .i64 n, str s, .slice (some ⟨kb, ko, none⟩) 4 c] 24 (w.alloc (.cells #[.int .u8 52, .int .i64 n, str s, .slice (some ⟨kb, ko, none⟩) 4 c] 24)) := Box.new _ _ _
  have hxW : Fb B b w (w.alloc (.cells #[.int .u8 52, .int .i64 n, str s, .slice (some ⟨kb, ko, none⟩) 4 c] 24)) := Fb.of_ext ((Ext.refl _).alloc _) hle
  have hb0 : Bld B b t (w.alloc (.cells #[.int .u8 52, .int .i64 n, str s, .slice (some ⟨kb, ko, none⟩) 4 c] 24)) := h.alloc _
  have ht0 := ht.fb hxW hB
  have hs0 := hs.fb hxW
  go_enter Tryd.func49, Tryd.ntmps49
  go_wp2_with fail
  refine (word_c _ _ (by omega) (by omega)).mono ?_
  rintro e w1 ⟨rfl, rfl⟩
  simp only
  go_wp2_with fail
  refine (write_c B b (w.heap.size + 1) 1 _ [kword 52] _ (hb0.alloc _) (Box.new' _ _ (by simp)) (by simp) (by (try simp at hlen ⊢) <;> omega)).mono ?_
  rintro e u1 ⟨rfl, hb1, hx1⟩
  have hxx1 : Fb B b (w.alloc (.cells #[.int .u8 52, .int .i64 n, str s, .slice (some ⟨kb, ko, none⟩) 4 c] 24)) u1 := Fb.trans (Fb.of_ext ((Ext.refl _).alloc _) hb0.le) hx1
  obtain ⟨g0, g1, g2, g3⟩ := (hbx0.fb hxx1 (by omega) (by decide)).node
  have ht1 := ht0.fb hxx1 hB
  have hs1 := hs0.fb hxx1
  simp only
  go_wp2_with fail
  refine (branches_c _ _ _ x y z u HX.out HY.out HZ.out HU.out [32, 101, 108, 115, 101] [32, 102, 105, 32] B b _ _ _ c d hb1 ht1 hB hs1 (by simp only [rowSize]; omega) (by (try simp at hlen ⊢) <;> omega)).mono ?_
  rintro e u2 ⟨rfl, hb2, hx2⟩
  have hxx2 : Fb B b (w.alloc (.cells #[.int .u8 52, .int .i64 n, str s, .slice (some ⟨kb, ko, none⟩) 4 c] 24)) u2 := Fb.trans hxx1 hx2
  obtain ⟨g0, g1, g2, g3⟩ := (hbx0.fb hxx2 (by omega) (by decide)).node
  have ht2 := ht0.fb hxx2 hB
  have hs2 := hs0.fb hxx2
  simp only
  go_wp2_with fail
  go_end0
  exact ⟨rfl, by simpa using hb2, hxW.trans hxx2⟩
set_option maxHeartbeats 2000000 in
set_option maxRecDepth 100000 in
theorem stmt_53 (n : Int) (s : List UInt8) (x y z u : Nd) (hx : Prints 22 Nd.text x) (hy : PrintsD 32 Nd.linesT y) (hz : PrintsD 32 Nd.linesT z) (hu : Prints 22 Nd.text u) : PrintsD 49 Nd.stmtT (.mk 53 n s [x, y, z, u]) := by
  intro B b t w a c d h ht hB hs hd hlen
  have htx : (Nd.mk 53 n s [x, y, z, u]).stmtT d = kword 53 ++ x.text ++ bracesT y d ++ [32, 108, 111, 111, 112] ++ bracesT z d ++ [32, 117, 110, 116, 105, 108, 32] ++ u.text := by rw [Nd.stmtT.eq_def]; simp [bracesT]
  rw [htx] at hlen ⊢
  clear htx
  have hle := h.le
  have hlt := h.lt
  simp only [Nd.kind, Nd.num, Nd.name, Nd.kids, Nd.val, Nd.sits, Nd.size, rowSize, List.length_cons, List.length_nil] at hs hd ⊢
  obtain ⟨kb, ko, rfl⟩ : ∃ kb ko, a = some ⟨kb, ko, none⟩ := by
    obtain ⟨b0, o0, _, _, he, _⟩ := rowSits_get hs (i := 0) rfl
    exact ⟨b0, o0, he⟩
  have HX := Lib.hid hx; clear hx
  have HY := Lib.hid hy; clear hy
  have HZ := Lib.hid hz; clear hz
  have HU := Lib.hid hu; clear hu
  have hbx0 : Box w.heap.size #[.int .u8 53, .int .i64 n, str s, .slice (some ⟨kb, ko, none⟩) 4 c] 24 (w.alloc (.cells #[.int .u8 53, .int .i64 n, str s, .slice (some ⟨kb, ko, none⟩) 4 c] 24)) := Box.new _ _ _
  have hxW : Fb B b w (w.alloc (.cells #[.int .u8 53, .int .i64 n, str s, .slice (some ⟨kb, ko, none⟩) 4 c] 24)) := Fb.of_ext ((Ext.refl _).alloc _) hle
  have hb0 : Bld B b t (w.alloc (.cells #[.int .u8 53, .int .i64 n, str s, .slice (some ⟨kb, ko, none⟩) 4 c] 24)) := h.alloc _
  have ht0 := ht.fb hxW hB
  have hs0 := hs.fb hxW
  go_enter Tryd.func49, Tryd.ntmps49
  go_wp2_with fail
  refine (word_c _ _ (by omega) (by omega)).mono ?_
  rintro e w1 ⟨rfl, rfl⟩
  simp only
  go_wp2_with fail
  refine (write_c B b (w.heap.size + 1) 1 _ [kword 53] _ (hb0.alloc _) (Box.new' _ _ (by simp)) (by simp) (by (try simp at hlen ⊢) <;> omega)).mono ?_
  rintro e u1 ⟨rfl, hb1, hx1⟩
  have hxx1 : Fb B b (w.alloc (.cells #[.int .u8 53, .int .i64 n, str s, .slice (some ⟨kb, ko, none⟩) 4 c] 24)) u1 := Fb.trans (Fb.of_ext ((Ext.refl _).alloc _) hb0.le) hx1
  obtain ⟨g0, g1, g2, g3⟩ := (hbx0.fb hxx1 (by omega) (by decide)).node
  have ht1 := ht0.fb hxx1 hB
  have hs1 := hs0.fb hxx1
  simp only
  go_wp2_with fail
  refine (branches_c _ _ _ x y z u HX.out HY.out HZ.out HU.out [32, 108, 111, 111, 112] [32, 117, 110, 116, 105, 108, 32] B b _ _ _ c d hb1 ht1 hB hs1 (by simp only [rowSize]; omega) (by (try simp at hlen ⊢) <;> omega)).mono ?_
  rintro e u2 ⟨rfl, hb2, hx2⟩
  have hxx2 : Fb B b (w.alloc (.cells #[.int .u8 53, .int .i64 n, str s, .slice (some ⟨kb, ko, none⟩) 4 c] 24)) u2 := Fb.trans hxx1 hx2
  obtain ⟨g0, g1, g2, g3⟩ := (hbx0.fb hxx2 (by omega) (by decide)).node
  have ht2 := ht0.fb hxx2 hB
  have hs2 := hs0.fb hxx2
  simp only
  go_wp2_with fail
  go_end0
  exact ⟨rfl, by simpa using hb2, hxW.trans hxx2⟩
set_option maxHeartbeats 2000000 in
set_option maxRecDepth 100000 in
theorem stmt_54 (n : Int) (s : List UInt8) (x y z : Nd) (hx : Prints 22 Nd.text x) (hy : PrintsD 32 Nd.linesT y) (hz : Prints 22 Nd.text z) : PrintsD 49 Nd.stmtT (.mk 54 n s [x, y, z]) := by
  intro B b t w a c d h ht hB hs hd hlen
  have htx : (Nd.mk 54 n s [x, y, z]).stmtT d = kword 54 ++ s ++ [32, 61, 32] ++ x.text ++ bracesT y d ++ [32, 100, 101, 108, 111, 99, 97, 108, 32] ++ z.text := by rw [Nd.stmtT.eq_def]; simp [bracesT]
  rw [htx] at hlen ⊢
  clear htx
  have hle := h.le
  have hlt := h.lt
  simp only [Nd.kind, Nd.num, Nd.name, Nd.kids, Nd.val, Nd.sits, Nd.size, rowSize, List.length_cons, List.length_nil] at hs hd ⊢
  obtain ⟨kb, ko, rfl⟩ : ∃ kb ko, a = some ⟨kb, ko, none⟩ := by
    obtain ⟨b0, o0, _, _, he, _⟩ := rowSits_get hs (i := 0) rfl
    exact ⟨b0, o0, he⟩
  have HX := Lib.hid hx; clear hx
  have HY := Lib.hid hy; clear hy
  have HZ := Lib.hid hz; clear hz
  have hbx0 : Box w.heap.size #[.int .u8 54, .int .i64 n, str s, .slice (some ⟨kb, ko, none⟩) 3 c] 24 (w.alloc (.cells #[.int .u8 54, .int .i64 n, str s, .slice (some ⟨kb, ko, none⟩) 3 c] 24)) := Box.new _ _ _
  have hxW : Fb B b w (w.alloc (.cells #[.int .u8 54, .int .i64 n, str s, .slice (some ⟨kb, ko, none⟩) 3 c] 24)) := Fb.of_ext ((Ext.refl _).alloc _) hle
  have hb0 : Bld B b t (w.alloc (.cells #[.int .u8 54, .int .i64 n, str s, .slice (some ⟨kb, ko, none⟩) 3 c] 24)) := h.alloc _
  have ht0 := ht.fb hxW hB
  have hs0 := hs.fb hxW
  go_enter Tryd.func49, Tryd.ntmps49
  go_wp2_with fail
  refine (word_c _ _ (by omega) (by omega)).mono ?_
  rintro e w1 ⟨rfl, rfl⟩
  simp only
  go_wp2_with fail
  refine (write_c B b (w.heap.size + 1) 1 _ [kword 54] _ (hb0.alloc _) (Box.new' _ _ (by simp)) (by simp) (by (try simp at hlen ⊢) <;> omega)).mono ?_
  rintro e u1 ⟨rfl, hb1, hx1⟩
  have hxx1 : Fb B b (w.alloc (.cells #[.int .u8 54, .int .i64 n, str s, .slice (some ⟨kb, ko, none⟩) 3 c] 24)) u1 := Fb.trans (Fb.of_ext ((Ext.refl _).alloc _) hb0.le) hx1
  obtain ⟨g0, g1, g2, g3⟩ := (hbx0.fb hxx1 (by omega) (by decide)).node
  have ht1 := ht0.fb hxx1 hB
  have hs1 := hs0.fb hxx1
  simp only
  go_wp2_with fail
  refine (write_c B b u1.heap.size 2 _ [s, [32, 61, 32]] _ (hb1.alloc _) (Box.new' _ _ (by simp)) (by simp) (by (try simp at hlen ⊢) <;> omega)).mono ?_
  rintro e u2 ⟨rfl, hb2, hx2⟩
  have hxx2 : Fb B b (w.alloc (.cells #[.int .u8 54, .int .i64 n, str s, .slice (some ⟨kb, ko, none⟩) 3 c] 24)) u2 := Fb.trans (Fb.trans hxx1 (Fb.of_ext ((Ext.refl _).alloc _) hb1.le)) hx2
  obtain ⟨g0, g1, g2, g3⟩ := (hbx0.fb hxx2 (by omega) (by decide)).node
  have ht2 := ht0.fb hxx2 hB
  have hs2 := hs0.fb hxx2
  obtain ⟨ka2, kc2, m0, m1, m2, m3, hk2⟩ := kid0 hs2
  simp only
  go_wp2_with fail
  refine (HX.out B b _ _ ka2 kc2 hb2 ht2 hB hk2 (by (try simp at hlen ⊢) <;> omega)).mono ?_
  rintro e u3 ⟨rfl, hb3, hx3⟩
  have hxx3 : Fb B b (w.alloc (.cells #[.int .u8 54, .int .i64 n, str s, .slice (some ⟨kb, ko, none⟩) 3 c] 24)) u3 := Fb.trans hxx2 hx3
  obtain ⟨g0, g1, g2, g3⟩ := (hbx0.fb hxx3 (by omega) (by decide)).node
  have ht3 := ht0.fb hxx3 hB
  have hs3 := hs0.fb hxx3
  obtain ⟨ka3, kc3, m0, m1, m2, m3, m4, m5, m6, hk3⟩ := kid1 hs3
  simp only
  go_wp2_with fail
  refine (braces_c _ HY.out B b _ _ ka3 kc3 d hb3 ht3 hB hk3 (by omega) (by (try simp at hlen ⊢) <;> omega)).mono ?_
  rintro e u4 ⟨rfl, hb4, hx4⟩
  have hxx4 : Fb B b (w.alloc (.cells #[.int .u8 54, .int .i64 n, str s, .slice (some ⟨kb, ko, none⟩) 3 c] 24)) u4 := Fb.trans hxx3 hx4
  obtain ⟨g0, g1, g2, g3⟩ := (hbx0.fb hxx4 (by omega) (by decide)).node
  have ht4 := ht0.fb hxx4 hB
  have hs4 := hs0.fb hxx4
  simp only
  go_wp2_with fail
  refine (write_c B b u4.heap.size 1 _ [[32, 100, 101, 108, 111, 99, 97, 108, 32]] _ (hb4.alloc _) (Box.new' _ _ (by simp)) (by simp) (by (try simp at hlen ⊢) <;> omega)).mono ?_
  rintro e u5 ⟨rfl, hb5, hx5⟩
  have hxx5 : Fb B b (w.alloc (.cells #[.int .u8 54, .int .i64 n, str s, .slice (some ⟨kb, ko, none⟩) 3 c] 24)) u5 := Fb.trans (Fb.trans hxx4 (Fb.of_ext ((Ext.refl _).alloc _) hb4.le)) hx5
  obtain ⟨g0, g1, g2, g3⟩ := (hbx0.fb hxx5 (by omega) (by decide)).node
  have ht5 := ht0.fb hxx5 hB
  have hs5 := hs0.fb hxx5
  obtain ⟨ka5, kc5, m0, m1, m2, m3, m4, m5, m6, hk5⟩ := kid2 hs5
  simp only
  go_wp2_with fail
  refine (HZ.out B b _ _ ka5 kc5 hb5 ht5 hB hk5 (by (try simp at hlen ⊢) <;> omega)).mono ?_
  rintro e u6 ⟨rfl, hb6, hx6⟩
  have hxx6 : Fb B b (w.alloc (.cells #[.int .u8 54, .int .i64 n, str s, .slice (some ⟨kb, ko, none⟩) 3 c] 24)) u6 := Fb.trans hxx5 hx6
  obtain ⟨g0, g1, g2, g3⟩ := (hbx0.fb hxx6 (by omega) (by decide)).node
  have ht6 := ht0.fb hxx6 hB
  have hs6 := hs0.fb hxx6
  simp only
  go_wp2_with fail
  go_end0
  exact ⟨rfl, by simpa using hb6, hxW.trans hxx6⟩
set_option maxHeartbeats 2000000 in
set_option maxRecDepth 100000 in
theorem stmt_55 (n : Int) (s : List UInt8) (x : Nd) (hx : PrintsD 32 Nd.linesT x) : PrintsD 49 Nd.stmtT (.mk 55 n s [x]) := by
  intro B b t w a c d h ht hB hs hd hlen
  have htx : (Nd.mk 55 n s [x]).stmtT d = kword 55 ++ s ++ bracesT x d := by rw [Nd.stmtT.eq_def]; simp [bracesT]
  rw [htx] at hlen ⊢
  clear htx
  have hle := h.le
  have hlt := h.lt
  simp only [Nd.kind, Nd.num, Nd.name, Nd.kids, Nd.val, Nd.sits, Nd.size, rowSize, List.length_cons, List.length_nil] at hs hd ⊢
  obtain ⟨kb, ko, rfl⟩ : ∃ kb ko, a = some ⟨kb, ko, none⟩ := by
    obtain ⟨b0, o0, _, _, he, _⟩ := rowSits_get hs (i := 0) rfl
    exact ⟨b0, o0, he⟩
  have HX := Lib.hid hx; clear hx
  have hbx0 : Box w.heap.size #[.int .u8 55, .int .i64 n, str s, .slice (some ⟨kb, ko, none⟩) 1 c] 24 (w.alloc (.cells #[.int .u8 55, .int .i64 n, str s, .slice (some ⟨kb, ko, none⟩) 1 c] 24)) := Box.new _ _ _
  have hxW : Fb B b w (w.alloc (.cells #[.int .u8 55, .int .i64 n, str s, .slice (some ⟨kb, ko, none⟩) 1 c] 24)) := Fb.of_ext ((Ext.refl _).alloc _) hle
  have hb0 : Bld B b t (w.alloc (.cells #[.int .u8 55, .int .i64 n, str s, .slice (some ⟨kb, ko, none⟩) 1 c] 24)) := h.alloc _
  have ht0 := ht.fb hxW hB
  have hs0 := hs.fb hxW
  go_enter Tryd.func49, Tryd.ntmps49
  go_wp2_with fail
  refine (word_c _ _ (by omega) (by omega)).mono ?_
  rintro e w1 ⟨rfl, rfl⟩
  simp only
  go_wp2_with fail
  refine (write_c B b (w.heap.size + 1) 1 _ [kword 55] _ (hb0.alloc _) (Box.new' _ _ (by simp)) (by simp) (by (try simp at hlen ⊢) <;> omega)).mono ?_
  rintro e u1 ⟨rfl, hb1, hx1⟩
  have hxx1 : Fb B b (w.alloc (.cells #[.int .u8 55, .int .i64 n, str s, .slice (some ⟨kb, ko, none⟩) 1 c] 24)) u1 := Fb.trans (Fb.of_ext ((Ext.refl _).alloc _) hb0.le) hx1
  obtain ⟨g0, g1, g2, g3⟩ := (hbx0.fb hxx1 (by omega) (by decide)).node
  have ht1 := ht0.fb hxx1 hB
  have hs1 := hs0.fb hxx1
  simp only
  go_wp2_with fail
  refine (write_c B b u1.heap.size 1 _ [s] _ (hb1.alloc _) (Box.new' _ _ (by simp)) (by simp) (by (try simp at hlen ⊢) <;> omega)).mono ?_
  rintro e u2 ⟨rfl, hb2, hx2⟩
  have hxx2 : Fb B b (w.alloc (.cells #[.int .u8 55, .int .i64 n, str s, .slice (some ⟨kb, ko, none⟩) 1 c] 24)) u2 := Fb.trans (Fb.trans hxx1 (Fb.of_ext ((Ext.refl _).alloc _) hb1.le)) hx2
  obtain ⟨g0, g1, g2, g3⟩ := (hbx0.fb hxx2 (by omega) (by decide)).node
  have ht2 := ht0.fb hxx2 hB
  have hs2 := hs0.fb hxx2
  obtain ⟨ka2, kc2, m0, m1, m2, m3, hk2⟩ := kid0 hs2
  simp only
  go_wp2_with fail
  refine (braces_c _ HX.out B b _ _ ka2 kc2 d hb2 ht2 hB hk2 (by omega) (by (try simp at hlen ⊢) <;> omega)).mono ?_
  rintro e u3 ⟨rfl, hb3, hx3⟩
  have hxx3 : Fb B b (w.alloc (.cells #[.int .u8 55, .int .i64 n, str s, .slice (some ⟨kb, ko, none⟩) 1 c] 24)) u3 := Fb.trans hxx2 hx3
  obtain ⟨g0, g1, g2, g3⟩ := (hbx0.fb hxx3 (by omega) (by decide)).node
  have ht3 := ht0.fb hxx3 hB
  have hs3 := hs0.fb hxx3
  simp only
  go_wp2_with fail
  go_end0
  exact ⟨rfl, by simpa using hb3, hxW.trans hxx3⟩
end Bk
