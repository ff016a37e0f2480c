/- Contract of the printer's expr: a valid expression's text is appended. The text stays below 2^47 bytes. -/
import Derived.Test.YtkadkafapjhhkaaDoorPExpr
import Derived.Deep.RegionHeld3
namespace Bk
open Go Go.RowKit Go.Proofs Go.Sort
theorem ext_grow (w : World) (k : Nat) (os : Array Obj) : Ext w (grow (w.drewN k) os) := by
  have hh : (grow (w.drewN k) os).heap = w.heap ++ os := rfl
  refine ⟨rfl, rfl, rfl, ?_, fun i hi => ?_⟩
  · rw [hh]; simp
  · rw [hh, Array.getElem?_append_left hi]
theorem Itoa_c (n : Int) (h0 : -9223372036854775808 ≤ n) (h1 : n ≤ 9223372036854775807) (w : World) (ht : Tabs w) :
    Calls Tryd.prog 43 #[.int .i64 n] w fun e w' => e = .returned (str (Lib.itoa n)) ∧ Ext w w' :=
  (Tryd.strconv_Itoa n h0 h1 w ht.pow).mono fun e w' ⟨he, k, os, hw⟩ => ⟨he, hw ▸ ext_grow w k os⟩
theorem binary_c (k n : Int) (s : List UInt8) (a : Option Addr) (l c : Nat) (w : World) :
    Calls Tryd.prog 46 #[.agg #[.int .u8 k, .int .i64 n, str s, .slice a l c]] w fun e w' => e = .returned (.bool (isBin k)) ∧ Ext w w' := by
  go_enter Tryd.func46, Tryd.ntmps46
  go_wp2_with fail
  all_goals go_ret
  all_goals exact ⟨ret_bool (by unfold isBin; rw [Bool.eq_iff_iff]; simp; try omega), (by repeat (first | exact Ext.refl _ | assumption | refine Ext.alloc ?_ _ | refine Ext.drew ?_ | refine Ext.trans ?_ (by assumption)))⟩
theorem expr_1 (n : Int) (s : List UInt8) (l : List Nd) (hn0 : -9223372036854775808 ≤ n) (hn1 : n ≤ 9223372036854775807) : Prints 22 Nd.text (.mk 1 n s l) := by
  intro B b t w a c h ht hB hs hlen
  have htx : (Nd.mk 1 n s l).text = Lib.itoa n := by rw [Nd.text.eq_def]; simp
  rw [htx] at hlen ⊢
  have hle := h.le
  have hlt := h.lt
  simp only [List.length_append] at hlen
  simp only [Nd.kind, Nd.num, Nd.name, Nd.kids, Nd.val]
  clear hs
  go_enter Tryd.func22, Tryd.ntmps22
  go_wp2_with fail
  refine (Itoa_c n hn0 hn1 _ (ht.ext ((Ext.refl _).alloc _) (by omega))).mono ?_
  rintro e w1 ⟨rfl, hx1⟩
  have hb1 := (h.alloc _).ext hx1
  simp only
  go_wp2_with fail
  refine (write_c B b w1.heap.size 1 t [Lib.itoa n] _ (hb1.alloc _) (Box.new' _ _ (by simp)) (by simp) (by simp; omega)).mono ?_
  rintro e w2 ⟨rfl, hb2, hx2⟩
  simp only
  go_wp2_with fail
  go_end0
  exact ⟨rfl, by simpa using hb2, Fb.trans (Fb.of_ext (by repeat (first | exact Ext.refl _ | assumption | refine Ext.alloc ?_ _ | refine Ext.drew ?_ | refine Ext.trans ?_ (by assumption))) hle) hx2⟩
theorem expr_2 (n : Int) (s : List UInt8) (l : List Nd) : Prints 22 Nd.text (.mk 2 n s l) := by
  intro B b t w a c h ht hB hs hlen
  have htx : (Nd.mk 2 n s l).text = s := by rw [Nd.text.eq_def]; simp
  rw [htx] at hlen ⊢
  have hle := h.le
  have hlt := h.lt
  simp only [List.length_append] at hlen
  simp only [Nd.kind, Nd.num, Nd.name, Nd.kids, Nd.val]
  clear hs
  go_enter Tryd.func22, Tryd.ntmps22
  go_wp2_with fail
  refine (write_c B b (w.heap.size + 1) 1 t [s] _ ((h.alloc _).alloc _) (Box.new' _ _ (by simp)) (by simp) (by simp; omega)).mono ?_
  rintro e w2 ⟨rfl, hb2, hx2⟩
  simp only
  go_wp2_with fail
  go_end0
  exact ⟨rfl, by simpa using hb2, Fb.trans (Fb.of_ext (by repeat (first | exact Ext.refl _ | assumption | refine Ext.alloc ?_ _ | refine Ext.drew ?_ | refine Ext.trans ?_ (by assumption))) hle) hx2⟩
theorem expr_4 (n : Int) (s : List UInt8) (l : List Nd) : Prints 22 Nd.text (.mk 4 n s l) := by
  intro B b t w a c h ht hB hs hlen
  have htx : (Nd.mk 4 n s l).text = [116, 111, 112, 40] ++ s ++ [41] := by rw [Nd.text.eq_def]; simp
  rw [htx] at hlen ⊢
  have hle := h.le
  have hlt := h.lt
  simp only [List.length_append, List.length_cons, List.length_nil] at hlen
  simp only [Nd.kind, Nd.num, Nd.name, Nd.kids, Nd.val]
  clear hs
  go_enter Tryd.func22, Tryd.ntmps22
  go_wp2_with fail
  refine (write_c B b (w.heap.size + 1) 3 t [[116, 111, 112, 40], s, [41]] _ ((h.alloc _).alloc _) (Box.new' _ _ (by simp)) (by simp) (by simp; omega)).mono ?_
  rintro e w2 ⟨rfl, hb2, hx2⟩
  simp only
  go_wp2_with fail
  go_end0
  exact ⟨rfl, by simpa using hb2, Fb.trans (Fb.of_ext (by repeat (first | exact Ext.refl _ | assumption | refine Ext.alloc ?_ _ | refine Ext.drew ?_ | refine Ext.trans ?_ (by assumption))) hle) hx2⟩
theorem expr_5 (n : Int) (s : List UInt8) (l : List Nd) : Prints 22 Nd.text (.mk 5 n s l) := by
  intro B b t w a c h ht hB hs hlen
  have htx : (Nd.mk 5 n s l).text = [115, 105, 122, 101, 40] ++ s ++ [41] := by rw [Nd.text.eq_def]; simp
  rw [htx] at hlen ⊢
  have hle := h.le
  have hlt := h.lt
  simp only [List.length_append, List.length_cons, List.length_nil] at hlen
  simp only [Nd.kind, Nd.num, Nd.name, Nd.kids, Nd.val]
  clear hs
  go_enter Tryd.func22, Tryd.ntmps22
  go_wp2_with fail
  refine (write_c B b (w.heap.size + 1) 3 t [[115, 105, 122, 101, 40], s, [41]] _ ((h.alloc _).alloc _) (Box.new' _ _ (by simp)) (by simp) (by simp; omega)).mono ?_
  rintro e w2 ⟨rfl, hb2, hx2⟩
  simp only
  go_wp2_with fail
  go_end0
  exact ⟨rfl, by simpa using hb2, Fb.trans (Fb.of_ext (by repeat (first | exact Ext.refl _ | assumption | refine Ext.alloc ?_ _ | refine Ext.drew ?_ | refine Ext.trans ?_ (by assumption))) hle) hx2⟩
/-- The cells of a row of one, of two. -/
theorem row1 {S : Nat → Prop} {w : World} {x : Nd} {a : Option Addr} (h : rowSits S w [x] a) : ∃ kb ko xa xc, a = some ⟨kb, ko, none⟩ ∧ S kb ∧ w.cell? ⟨kb, ko, none⟩ = some (.int .u8 x.kind) ∧ w.cell? ⟨kb, ko + 1, none⟩ = some (.int .i64 x.num) ∧ w.cell? ⟨kb, ko + 2, none⟩ = some (str x.name) ∧ w.cell? ⟨kb, ko + 3, none⟩ = some (.slice xa x.kids.length xc) ∧ x.sits S w xa := by
  obtain ⟨b, o, a', c, rfl, h0, h1, h2, h3, h4, h5⟩ := rowSits_get h (i := 0) (t := x) rfl
  exact ⟨b, o, a', c, rfl, h0, by simpa using h1, by simpa using h2, by simpa using h3, by simpa using h4, h5⟩
theorem expr_3 (n : Int) (s : List UInt8) (x : Nd) (hx : Prints 22 Nd.text x) : Prints 22 Nd.text (.mk 3 n s [x]) := by
  intro B b t w a c h ht hB hs hlen
  have htx : (Nd.mk 3 n s [x]).text = s ++ [91] ++ x.text ++ [93] := by rw [Nd.text.eq_def]; simp
  rw [htx] at hlen ⊢
  have hle := h.le
  have hlt := h.lt
  simp only [List.length_append, List.length_cons, List.length_nil] at hlen
  simp only [Nd.kind, Nd.num, Nd.name, Nd.kids, Nd.val, List.length_cons, List.length_nil]
  have HX := Lib.hid hx; clear hx
  simp only [Nd.sits] at hs
  obtain ⟨kb, ko, xa, xc, rfl, -, -⟩ := row1 hs
  have hbx0 : Box w.heap.size #[.int .u8 3, .int .i64 n, str s, .slice (some ⟨kb, ko, none⟩) 1 c] 24 (w.alloc (.cells #[.int .u8 3, .int .i64 n, str s, .slice (some ⟨kb, ko, none⟩) 1 c] 24)) := Box.new _ _ _
  go_enter Tryd.func22, Tryd.ntmps22
  go_wp2_with fail
  refine (write_c B b (w.heap.size + 1) 2 t [s, [91]] _ ((h.alloc _).alloc _) (Box.new' _ _ (by simp)) (by simp) (by simp; omega)).mono ?_
  rintro e w1 ⟨rfl, hb1, hx1⟩
  have hbx1 := (hbx0.alloc _).fb hx1 (by omega) (by decide)
  have hxx1 : Fb B b w w1 := Fb.trans (Fb.of_ext (by repeat (first | exact Ext.refl _ | assumption | refine Ext.alloc ?_ _ | refine Ext.drew ?_ | refine Ext.trans ?_ (by assumption))) hle) hx1
  obtain ⟨g0, g1, g2, g3⟩ := hbx1.node
  have hs1 := hs.fb hxx1
  obtain ⟨kb', ko', xa, xc, he, hk1, k0, k1, k2, k3, hxs⟩ := row1 hs1
  simp only [Option.some.injEq, Addr.mk.injEq] at he
  obtain ⟨rfl, rfl, -⟩ := he
  simp only
  go_wp2_with fail
  refine (HX.out B b _ _ xa xc hb1 (ht.fb hxx1 hB) hB hxs (by simp; omega)).mono ?_
  rintro e w2 ⟨rfl, hb2, hx2⟩
  simp only
  go_wp2_with fail
  refine (write_c B b w2.heap.size 1 _ [[93]] _ (hb2.alloc _) (Box.new' _ _ (by simp)) (by simp) (by simp; omega)).mono ?_
  rintro e w3 ⟨rfl, hb3, hx3⟩
  simp only
  go_wp2_with fail
  go_end0
  exact ⟨rfl, by simpa using hb3, (hxx1.trans hx2).trans (Fb.trans (Fb.of_ext (by repeat (first | exact Ext.refl _ | assumption | refine Ext.alloc ?_ _ | refine Ext.drew ?_ | refine Ext.trans ?_ (by assumption))) hb2.le) hx3)⟩
end Bk
