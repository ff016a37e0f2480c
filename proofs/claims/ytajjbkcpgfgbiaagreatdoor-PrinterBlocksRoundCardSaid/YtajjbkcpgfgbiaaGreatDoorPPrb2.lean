/- Texts that the proofs of PrinterBlocksRound need. No condition. (Part 2 of 7.) -/
import Derived.Test.YtajjbkcpgfgbiaaGreatDoorPPrb1
set_option linter.unusedSimpArgs false
set_option linter.unusedVariables false
namespace Bk
open Go Go.RowKit Go.Proofs
def Prints (f : FuncId) (txt : Nd → List UInt8) (t : Nd) : Prop :=
 ∀ (B b : Nat) (l : List UInt8) (w : World) (a : Option Addr) (c : Nat), Bld B b l w → Tabs w → Tryz.prog.globals.size ≤ B → t.sits (· < B) w a → (l ++ txt t).length ≤ 140737488355328 →
  Calls Tryz.prog f #[.pointer (some ⟨b, 0, none⟩), t.val a c] w fun e w' => e = .returned (.tuple #[]) ∧ Bld B b (l ++ txt t) w' ∧ Fb B b w w'
theorem Nd.sits.fb {B b : Nat} {w w' : World} {t : Nd} {a : Option Addr} (h : t.sits (· < B) w a) (x : Fb B b w w') : t.sits (· < B) w' a :=
 Nd.sits_mono (fun _ h => h) (fun k o _ hb hc => (Below.cell (p := ⟨k, o, none⟩) x.below hb).trans hc) t a h
theorem Tabs.fb {B b : Nat} {w w' : World} (h : Tabs w) (x : Fb B b w w') (hB : Tryz.prog.globals.size ≤ B) : Tabs w' := h.below x.below hB
theorem operand_c (t : Nd) (hp : Prints 29 Nd.text t) (B b : Nat) (l : List UInt8) (q : Bool) (w : World) (a : Option Addr) (c : Nat) (h : Bld B b l w) (ht : Tabs w) (hB : Tryz.prog.globals.size ≤ B)
 (hs : t.sits (· < B) w a) (hlen : (l ++ wrap t.text q).length ≤ 140737488355328) :
 Calls Tryz.prog 53 #[.pointer (some ⟨b, 0, none⟩), t.val a c, .bool q] w fun e w' => e = .returned (.tuple #[]) ∧ Bld B b (l ++ wrap t.text q) w' ∧ Fb B b w w' := by
 have hle := h.le
 have hlt := h.lt
 have HP := Lib.hid hp; clear hp
 cases q
 · have HL : Hid ((l ++ t.text).length ≤ 140737488355328) := Lib.hid (by simpa [wrap] using hlen)
   clear hlen
   go_enter Tryz.func53, Tryz.ntmps53
   go_wp2_with fail
   refine (HP.out B b l _ a c (h.alloc _) (ht.ext ((Ext.refl _).alloc _) (by omega)) hB (hs.ext ((Ext.refl _).alloc _)) HL.out).mono ?_
   rintro e w1 ⟨rfl, hb1, hx1⟩
   simp only
   go_wp2_with fail
   ((try simp only [Exit.inBlock, Exit.then]); refine bodyPost_ret (results_none rfl _ _ _) rfl ?_)
   exact ⟨rfl, by simpa [wrap] using hb1, Fb.trans ((Fb.refl _ _ _).alloc hle _) hx1⟩
 · simp only [wrap, if_true, List.length_append, List.length_cons, List.length_nil] at hlen
   go_enter Tryz.func53, Tryz.ntmps53
   go_wp2_with fail
   have hbx0 : Box w.heap.size #[.int .u8 t.kind, .int .i64 t.num, str t.name, .slice a t.kids.length c] 24 (w.alloc (.cells #[.int .u8 t.kind, .int .i64 t.num, str t.name, .slice a t.kids.length c] 24)) := Box.new _ _ _
   refine (write_c B b (w.heap.size + 1) 1 l [[40]] _ ((h.alloc _).alloc _) (Box.new' _ _ (by simp)) (by decide) (by simp; omega)).mono ?_
   rintro e w1 ⟨rfl, hb1, hx1⟩
   have hbx1 := (hbx0.alloc (Obj.cells #[.string { data := #[40] }] 9)).fb hx1 (by omega) (by decide)
   have hxx1 : Fb B b w w1 := Fb.trans (((Fb.refl _ _ _).alloc hle _).alloc hle _) hx1
   obtain ⟨g0, g1, g2, g3⟩ := hbx1.node
   simp only
   go_wp2_with fail
   refine (HP.out B b (l ++ [[40]].flatten) _ a c hb1 (ht.fb hxx1 hB) hB (hs.fb hxx1) (by simp; omega)).mono ?_
   rintro e w2 ⟨rfl, hb2, hx2⟩
   simp only
   go_wp2_with fail
   refine (write_c B b w2.heap.size 1 _ [[41]] _ (hb2.alloc _) (Box.new' _ _ (by simp)) (by decide) (by simp; omega)).mono ?_
   rintro e w3 ⟨rfl, hb3, hx3⟩
   simp only
   go_wp2_with fail
   go_end0
   refine ⟨rfl, by simpa [wrap] using hb3, ?_⟩
   exact (hxx1.trans hx2).trans (Fb.trans ((Fb.refl _ _ _).alloc hb2.le _) hx3)
end Bk
namespace Bk
open Go Go.RowKit Go.Proofs Go.Sort
theorem ext_grow (w : World) (k : Nat) (os : Array Obj) : Ext w (grow (w.drewN k) os) := by
 have hh : (grow (w.drewN k) os).heap = w.heap ++ os := rfl
 refine ⟨rfl, rfl, rfl, ?_, fun i hi => ?_⟩
 · rw [hh]; simp
 · rw [hh, Array.getElem?_append_left hi]
theorem Itoa_c (n : Int) (h0 : -9223372036854775808 ≤ n) (h1 : n ≤ 9223372036854775807) (w : World) (ht : Tabs w) :
 Calls Tryz.prog 51 #[.int .i64 n] w fun e w' => e = .returned (str (Lib.itoa n)) ∧ Ext w w' :=
 (Tryz.strconv_Itoa n h0 h1 w ht.pow).mono fun e w' ⟨he, k, os, hw⟩ => ⟨he, hw ▸ ext_grow w k os⟩
theorem binary_c (k n : Int) (s : List UInt8) (a : Option Addr) (l c : Nat) (w : World) :
 Calls Tryz.prog 54 #[.agg #[.int .u8 k, .int .i64 n, str s, .slice a l c]] w fun e w' => e = .returned (.bool (isBin k)) ∧ Ext w w' := by
 go_enter Tryz.func54, Tryz.ntmps54
 go_wp2_with fail
 all_goals go_ret
 all_goals exact ⟨ret_bool (by unfold isBin; rw [Bool.eq_iff_iff]; simp; try omega), (by repeat (first | exact Ext.refl _ | assumption | refine Ext.alloc ?_ _ | refine Ext.drew ?_ | refine Ext.trans ?_ (by assumption)))⟩
theorem expr_1 (n : Int) (s : List UInt8) (l : List Nd) (hn0 : -9223372036854775808 ≤ n) (hn1 : n ≤ 9223372036854775807) : Prints 29 Nd.text (.mk 1 n s l) := by
 intro B b t w a c h ht hB hs hlen
 have htx : (Nd.mk 1 n s l).text = Lib.itoa n := by rw [Nd.text.eq_def]; simp
 rw [htx] at hlen ⊢
 have hle := h.le
 have hlt := h.lt
 simp only [List.length_append] at hlen
 simp only [Nd.kind, Nd.num, Nd.name, Nd.kids, Nd.val]
 clear hs
 go_enter Tryz.func29, Tryz.ntmps29
 go_wp2_with fail
 refine (Itoa_c n hn0 hn1 _ (ht.ext ((Ext.refl _).alloc _) (by omega))).mono ?_
 rintro e w1 ⟨rfl, hx1⟩
 have hb1 := (h.alloc _).ext hx1
 simp only
 go_wp2_with fail
 refine (write_c B b w1.heap.size 1 t [Lib.itoa n] _ (hb1.alloc _) (Box.new' _ _ (by simp)) (by simp) (by simp; omega)).mono ?_
 rintro e w2 ⟨rfl, hb2, hx2⟩
 simp only
 go_wp2_with fail
 go_end0
 exact ⟨rfl, by simpa using hb2, Fb.trans (Fb.of_ext (by refine Ext.alloc ?_ _; refine Ext.trans ?_ (by assumption); refine Ext.alloc ?_ _; exact Ext.refl _) hle) hx2⟩
theorem expr_2 (n : Int) (s : List UInt8) (l : List Nd) : Prints 29 Nd.text (.mk 2 n s l) := by
 intro B b t w a c h ht hB hs hlen
 have htx : (Nd.mk 2 n s l).text = s := by rw [Nd.text.eq_def]; simp
 rw [htx] at hlen ⊢
 have hle := h.le
 have hlt := h.lt
 simp only [List.length_append] at hlen
 simp only [Nd.kind, Nd.num, Nd.name, Nd.kids, Nd.val]
 clear hs
 go_enter Tryz.func29, Tryz.ntmps29
 go_wp2_with fail
 refine (write_c B b (w.heap.size + 1) 1 t [s] _ ((h.alloc _).alloc _) (Box.new' _ _ (by simp)) (by simp) (by simp; omega)).mono ?_
 rintro e w2 ⟨rfl, hb2, hx2⟩
 simp only
 go_wp2_with fail
 go_end0
 exact ⟨rfl, by simpa using hb2, Fb.trans (Fb.of_ext (by refine Ext.alloc ?_ _; refine Ext.alloc ?_ _; exact Ext.refl _) hle) hx2⟩
theorem expr_4 (n : Int) (s : List UInt8) (l : List Nd) : Prints 29 Nd.text (.mk 4 n s l) := by
 intro B b t w a c h ht hB hs hlen
 have htx : (Nd.mk 4 n s l).text = [116, 111, 112, 40] ++ s ++ [41] := by rw [Nd.text.eq_def]; simp
 rw [htx] at hlen ⊢
 have hle := h.le
 have hlt := h.lt
 simp only [List.length_append, List.length_cons, List.length_nil] at hlen
 simp only [Nd.kind, Nd.num, Nd.name, Nd.kids, Nd.val]
 clear hs
 go_enter Tryz.func29, Tryz.ntmps29
 go_wp2_with fail
 refine (write_c B b (w.heap.size + 1) 3 t [[116, 111, 112, 40], s, [41]] _ ((h.alloc _).alloc _) (Box.new' _ _ (by simp)) (by simp) (by simp; omega)).mono ?_
 rintro e w2 ⟨rfl, hb2, hx2⟩
 simp only
 go_wp2_with fail
 go_end0
 exact ⟨rfl, by simpa using hb2, Fb.trans (Fb.of_ext (by refine Ext.alloc ?_ _; refine Ext.alloc ?_ _; exact Ext.refl _) hle) hx2⟩
theorem expr_5 (n : Int) (s : List UInt8) (l : List Nd) : Prints 29 Nd.text (.mk 5 n s l) := by
 intro B b t w a c h ht hB hs hlen
 have htx : (Nd.mk 5 n s l).text = [115, 105, 122, 101, 40] ++ s ++ [41] := by rw [Nd.text.eq_def]; simp
 rw [htx] at hlen ⊢
 have hle := h.le
 have hlt := h.lt
 simp only [List.length_append, List.length_cons, List.length_nil] at hlen
 simp only [Nd.kind, Nd.num, Nd.name, Nd.kids, Nd.val]
 clear hs
 go_enter Tryz.func29, Tryz.ntmps29
 go_wp2_with fail
 refine (write_c B b (w.heap.size + 1) 3 t [[115, 105, 122, 101, 40], s, [41]] _ ((h.alloc _).alloc _) (Box.new' _ _ (by simp)) (by simp) (by simp; omega)).mono ?_
 rintro e w2 ⟨rfl, hb2, hx2⟩
 simp only
 go_wp2_with fail
 go_end0
 exact ⟨rfl, by simpa using hb2, Fb.trans (Fb.of_ext (by refine Ext.alloc ?_ _; refine Ext.alloc ?_ _; exact Ext.refl _) hle) hx2⟩
theorem row1 {S : Nat → Prop} {w : World} {x : Nd} {a : Option Addr} (h : rowSits S w [x] a) : ∃ kb ko xa xc, a = some ⟨kb, ko, none⟩ ∧ S kb ∧ w.cell? ⟨kb, ko, none⟩ = some (.int .u8 x.kind) ∧ w.cell? ⟨kb, ko + 1, none⟩ = some (.int .i64 x.num) ∧ w.cell? ⟨kb, ko + 2, none⟩ = some (str x.name) ∧ w.cell? ⟨kb, ko + 3, none⟩ = some (.slice xa x.kids.length xc) ∧ x.sits S w xa := by
 obtain ⟨b, o, a', c, rfl, h0, h1, h2, h3, h4, h5⟩ := rowSits_get h (i := 0) (t := x) rfl
 exact ⟨b, o, a', c, rfl, h0, by simpa using h1, by simpa using h2, by simpa using h3, by simpa using h4, h5⟩
theorem expr_3 (n : Int) (s : List UInt8) (x : Nd) (hx : Prints 29 Nd.text x) : Prints 29 Nd.text (.mk 3 n s [x]) := by
 intro B b t w a c h ht hB hs hlen
 have htx : (Nd.mk 3 n s [x]).text = s ++ [91] ++ x.text ++ [93] := by rw [Nd.text.eq_def]; simp
 rw [htx] at hlen ⊢
 have hle := h.le
 have hlt := h.lt
 simp only [List.length_append, List.length_cons, List.length_nil] at hlen
 simp only [Nd.kind, Nd.num, Nd.name, Nd.kids, Nd.val, List.length_cons, List.length_nil]
 have HX := Lib.hid hx; clear hx
 simp only [Nd.sits] at hs
 obtain ⟨kb, ko, xa, xc, rfl, -, -⟩ := row1 hs
 have hbx0 : Box w.heap.size #[.int .u8 3, .int .i64 n, str s, .slice (some ⟨kb, ko, none⟩) 1 c] 24 (w.alloc (.cells #[.int .u8 3, .int .i64 n, str s, .slice (some ⟨kb, ko, none⟩) 1 c] 24)) := Box.new _ _ _
 go_enter Tryz.func29, Tryz.ntmps29
 go_wp2_with fail
 refine (write_c B b (w.heap.size + 1) 2 t [s, [91]] _ ((h.alloc _).alloc _) (Box.new' _ _ (by simp)) (by simp) (by simp; omega)).mono ?_
 rintro e w1 ⟨rfl, hb1, hx1⟩
 have hbx1 := (hbx0.alloc _).fb hx1 (by omega) (by decide)
 have hxx1 : Fb B b w w1 := Fb.trans (Fb.of_ext (by refine Ext.alloc ?_ _; refine Ext.alloc ?_ _; exact Ext.refl _) hle) hx1
 obtain ⟨g0, g1, g2, g3⟩ := hbx1.node
 have hs1 := hs.fb hxx1
 obtain ⟨kb', ko', xa, xc, he, hk1, k0, k1, k2, k3, hxs⟩ := row1 hs1
 simp only [Option.some.injEq, Addr.mk.injEq] at he
 obtain ⟨rfl, rfl, -⟩ := he
 simp only
 go_wp2_with fail
 refine (HX.out B b _ _ xa xc hb1 (ht.fb hxx1 hB) hB hxs (by simp; omega)).mono ?_
 rintro e w2 ⟨rfl, hb2, hx2⟩
 simp only
 go_wp2_with fail
 refine (write_c B b w2.heap.size 1 _ [[93]] _ (hb2.alloc _) (Box.new' _ _ (by simp)) (by simp) (by simp; omega)).mono ?_
 rintro e w3 ⟨rfl, hb3, hx3⟩
 simp only
 go_wp2_with fail
 go_end0
 exact ⟨rfl, by simpa using hb3, (hxx1.trans hx2).trans (Fb.trans (Fb.of_ext (by refine Ext.alloc ?_ _; exact Ext.refl _) hb2.le) hx3)⟩
end Bk
namespace Bk
open Go Go.RowKit Go.Proofs
set_option maxHeartbeats 1000000 in
theorem expr_un (k n : Int) (s : List UInt8) (x : Nd) (hk : k = 6 ∨ k = 7) (hx : Prints 29 Nd.text x) : Prints 29 Nd.text (.mk k n s [x]) := by
 intro B b t w a c h ht hB hs hlen
 have htx : (Nd.mk k n s [x]).text = symbol k ++ wrap x.text (isBin x.kind) := by rcases hk with rfl | rfl <;> (rw [Nd.text.eq_def]; simp)
 rw [htx] at hlen ⊢
 have hle := h.le
 have hlt := h.lt
 simp only [List.length_append, List.length_cons, List.length_nil] at hlen
 simp only [Nd.kind, Nd.num, Nd.name, Nd.kids, Nd.val, List.length_cons, List.length_nil]
 have HX := Lib.hid hx; clear hx htx
 simp only [Nd.sits] at hs
 obtain ⟨kb, ko, xa, xc, rfl, -, -⟩ := row1 hs
 have hbx0 : Box w.heap.size #[.int .u8 k, .int .i64 n, str s, .slice (some ⟨kb, ko, none⟩) 1 c] 24 (w.alloc (.cells #[.int .u8 k, .int .i64 n, str s, .slice (some ⟨kb, ko, none⟩) 1 c] 24)) := Box.new _ _ _
 have hk0 : 0 ≤ k ∧ k ≤ 255 := by omega
 obtain ⟨hk0, hk1⟩ := hk0
 have d1 : (k == 1) = false := by rw [beq_eq_false_iff_ne]; omega
 have d2 : (k == 2) = false := by rw [beq_eq_false_iff_ne]; omega
 have d3 : (k == 3) = false := by rw [beq_eq_false_iff_ne]; omega
 have d4 : (k == 4) = false := by rw [beq_eq_false_iff_ne]; omega
 have d5 : (k == 5) = false := by rw [beq_eq_false_iff_ne]; omega
 have dk : (k == 6) = true ∨ (k == 6) = false ∧ (k == 7) = true := by rcases hk with rfl | rfl <;> simp
 clear hk
 rcases dk with d6 | ⟨d6, d7⟩
 all_goals
  go_enter Tryz.func29, Tryz.ntmps29
  go_wp2_with fail
  refine (arith_Symbol_c _ _ hk0 hk1 (ht.ext ((Ext.refl _).alloc _) (by omega))).mono ?_
  rintro e w1 ⟨rfl, rfl⟩
  simp only
  go_wp2_with fail
  refine (write_c B b (w.heap.size + 1) 1 t [symbol k] _ ((h.alloc _).alloc _) (Box.new' _ _ (by simp)) (by simp) (by simp; omega)).mono ?_
  rintro e w1 ⟨rfl, hb1, hx1⟩
  have hbx1 := (hbx0.alloc _).fb hx1 (by omega) (by decide)
  have hxx1 : Fb B b w w1 := Fb.trans (Fb.of_ext (by repeat (first | exact Ext.refl _ | assumption | refine Ext.alloc ?_ _ | refine Ext.drew ?_ | refine Ext.trans ?_ (by assumption))) hle) hx1
  obtain ⟨g0, g1, g2, g3⟩ := hbx1.node
  have hs1 := hs.fb hxx1
  obtain ⟨kb', ko', xa, xc, he, hkB, k0, k1, k2, k3, hxs⟩ := row1 hs1
  simp only [Option.some.injEq, Addr.mk.injEq] at he
  obtain ⟨rfl, rfl, -⟩ := he
  have ht1 := ht.fb hxx1 hB
  simp only
  go_wp2_with fail
  go_region_held3 (fun w' => w'.cell? ⟨w.heap.size, 3, none⟩ = some (.slice (some ⟨kb, ko, none⟩) 1 c) ∧ w'.cell? ⟨kb, ko, none⟩ = some (.int .u8 x.kind) ∧ w'.cell? ⟨kb, ko + 1, none⟩ = some (.int .i64 x.num) ∧ w'.cell? ⟨kb, ko + 2, none⟩ = some (str x.name) ∧ w'.cell? ⟨kb, ko + 3, none⟩ = some (.slice xa x.kids.length xc))
   (first | exact ⟨g3, k0, k1, k2, k3⟩ | exact ⟨hx2.keep g3, hx2.keep k0, hx2.keep k1, hx2.keep k2, hx2.keep k3⟩ | exact ⟨(((hbx1.drew.ext hx2).fb hx3 (by omega) (by decide)).node).2.2.2, (Below.cell (p := ⟨_, _, none⟩) hx3.below hkB).trans (hx2.keep k0), (Below.cell (p := ⟨_, _, none⟩) hx3.below hkB).trans (hx2.keep k1), (Below.cell (p := ⟨_, _, none⟩) hx3.below hkB).trans (hx2.keep k2), (Below.cell (p := ⟨_, _, none⟩) hx3.below hkB).trans (hx2.keep k3)⟩)
   (first | (go_at_call 54; refine (binary_c _ _ _ _ _ _ _).mono ?_; rintro e w2 ⟨rfl, hx2⟩) | (go_at_call 53; refine (operand_c x HX.out B b _ _ _ xa xc (hb1.drew.ext hx2) ((ht1.ext (Ext.refl _).drew (by have := hb1.le; omega)).ext hx2 (by have := hb1.le; show _ ≤ w1.heap.size; omega)) hB (hxs.ext (Ext.trans (Ext.refl _).drew hx2)) (by simp; omega)).mono ?_; rintro e w3 ⟨rfl, hb3, hx3⟩))
  go_wp2_with fail
  go_end0
  exact ⟨rfl, by simpa [Nd.kind] using hb3, (hxx1.trans (Fb.of_ext (Ext.trans (Ext.refl _).drew hx2) hb1.le)).trans hx3⟩
end Bk
namespace Bk
open Go Go.RowKit Go.Proofs
theorem parenL_f {a k : Int} (h : isBin a = false) : parenL a k = false := by simp [parenL, h]
theorem parenR_f {a k : Int} (h : isBin a = false) : parenR a k = false := by simp [parenR, h]
theorem parenL_t {a k : Int} (h : isBin a = true) {q : Bool} (hq : q = true ↔ level a < level k) : parenL a k = q := by rw [Bool.eq_iff_iff, hq]; simp [parenL, h]
theorem parenR_t {a k : Int} (h : isBin a = true) {q : Bool} (hq : q = true ↔ level a ≤ level k) : parenR a k = q := by rw [Bool.eq_iff_iff, hq]; simp [parenR, h]
theorem row2 {S : Nat → Prop} {w : World} {x y : Nd} {a : Option Addr} (h : rowSits S w [x, y] a) : ∃ kb ko xa xc ya yc, a = some ⟨kb, ko, none⟩ ∧ S kb ∧ (w.cell? ⟨kb, ko, none⟩ = some (.int .u8 x.kind) ∧ w.cell? ⟨kb, ko + 1, none⟩ = some (.int .i64 x.num) ∧ w.cell? ⟨kb, ko + 2, none⟩ = some (str x.name) ∧ w.cell? ⟨kb, ko + 3, none⟩ = some (.slice xa x.kids.length xc) ∧ x.sits S w xa) ∧
 (w.cell? ⟨kb, ko + 4, none⟩ = some (.int .u8 y.kind) ∧ w.cell? ⟨kb, ko + 4 + 1, none⟩ = some (.int .i64 y.num) ∧ w.cell? ⟨kb, ko + 4 + 2, none⟩ = some (str y.name) ∧ w.cell? ⟨kb, ko + 4 + 3, none⟩ = some (.slice ya y.kids.length yc) ∧ y.sits S w ya) := by
 obtain ⟨b, o, a', c, rfl, h0, h1, h2, h3, h4, h5⟩ := rowSits_get h (i := 0) (t := x) rfl
 obtain ⟨b', o', a'', c', he, h0', h1', h2', h3', h4', h5'⟩ := rowSits_get h (i := 1) (t := y) rfl
 simp only [Option.some.injEq, Addr.mk.injEq] at he
 obtain ⟨rfl, rfl, -⟩ := he
 exact ⟨b, o, a', c, a'', c', rfl, h0, ⟨by simpa using h1, by simpa using h2, by simpa using h3, by simpa using h4, h5⟩, ⟨by simpa using h1', by simpa using h2', by simpa using h3', by simpa using h4', h5'⟩⟩
set_option maxHeartbeats 8000000 in
set_option maxRecDepth 100000 in
theorem expr_bin (k n : Int) (s : List UInt8) (x y : Nd) (hk8 : 8 ≤ k) (hk23 : k ≤ 23) (hx : Prints 29 Nd.text x) (hy : Prints 29 Nd.text y) : Prints 29 Nd.text (.mk k n s [x, y]) := by
 intro B b t w a c h ht hB hs hlen
 have d1 : (k == 1) = false := by rw [beq_eq_false_iff_ne]; omega
 have d2 : (k == 2) = false := by rw [beq_eq_false_iff_ne]; omega
 have d3 : (k == 3) = false := by rw [beq_eq_false_iff_ne]; omega
 have d4 : (k == 4) = false := by rw [beq_eq_false_iff_ne]; omega
 have d5 : (k == 5) = false := by rw [beq_eq_false_iff_ne]; omega
 have d6 : (k == 6) = false := by rw [beq_eq_false_iff_ne]; omega
 have d7 : (k == 7) = false := by rw [beq_eq_false_iff_ne]; omega
 have htx : (Nd.mk k n s [x, y]).text = wrap x.text (parenL x.kind k) ++ [32] ++ symbol k ++ [32] ++ wrap y.text (parenR y.kind k) := by
  rw [Nd.text.eq_def]
  simp only []
  rw [if_neg (by omega), if_neg (by omega), if_neg (by omega), if_neg (by omega), if_neg (by omega), if_neg (by omega)]
 rw [htx] at hlen ⊢
 have hle := h.le
 have hlt := h.lt
 simp only [List.length_append, List.length_cons, List.length_nil] at hlen
 simp only [Nd.kind, Nd.num, Nd.name, Nd.kids, Nd.val, List.length_cons, List.length_nil]
 have HX := Lib.hid hx; clear hx htx
 have HY := Lib.hid hy; clear hy
 simp only [Nd.sits] at hs
 obtain ⟨xk, xn, xs, xl⟩ := x
 obtain ⟨yk, yn, ys, yl⟩ := y
 obtain ⟨kb, ko, xa, xc, ya, yc, rfl, hkB, ⟨k0, k1, k2, k3, hxs⟩, ⟨m0, m1, m2, m3, hys⟩⟩ := row2 hs
 simp only [Nd.kind, Nd.num, Nd.name, Nd.kids] at *
 go_enter Tryz.func29, Tryz.ntmps29
 have hkw : kb < w.heap.size := Nat.lt_of_lt_of_le hkB hle
 have m1' : w.cell? ⟨kb, ko + 5, none⟩ = some (.int .i64 yn) := m1
 have m2' : w.cell? ⟨kb, ko + 6, none⟩ = some (str ys) := m2
 have m3' : w.cell? ⟨kb, ko + 7, none⟩ = some (.slice ya yl.length yc) := m3
 have hkw1 : kb < w.heap.size + 1 := by omega
 have hkw2 : kb < w.heap.size + 2 := by omega
 have hkw3 : kb < w.heap.size + 1 + 1 := by omega
 go_upto_region 2 with fail
 go_cut [4, 5] (fun s4 s5 W => ∃ pl pr : Nat, s4 = .pointer (some ⟨pl, 0, none⟩) ∧ s5 = .pointer (some ⟨pr, 0, none⟩) ∧ Box w.heap.size #[.int .u8 k, .int .i64 n, str s, .slice (some ⟨kb, ko, none⟩) 2 c] 24 W ∧ Box pl #[.int .u8 xk, .int .i64 xn, str xs, .slice xa xl.length xc] 24 W ∧ Box pr #[.int .u8 yk, .int .i64 yn, str ys, .slice ya yl.length yc] 24 W ∧ Ext w W ∧ b < pl ∧ b < pr)
 case first =>
  go_region
  · go_wp2_with fail
    go_meet
    exact ⟨w.heap.size + 1, w.heap.size + 1 + 1, rfl, rfl, (((Box.new _ _ _).alloc _).alloc _).drew, ((Box.new' _ _ (by simp)).alloc _).drew, (Box.new' _ _ (by simp)).drew, (by refine Ext.drew ?_; refine Ext.alloc ?_ _; refine Ext.alloc ?_ _; refine Ext.alloc ?_ _; exact Ext.refl _), by omega, by omega⟩
  · go_wp2_with fail
    go_meet
    exact ⟨w.heap.size + 1 + 1, w.heap.size + 1, rfl, rfl, (((Box.new _ _ _).alloc _).alloc _).drew, (Box.new' _ _ (by simp)).drew, ((Box.new' _ _ (by simp)).alloc _).drew, (by refine Ext.drew ?_; refine Ext.alloc ?_ _; refine Ext.alloc ?_ _; refine Ext.alloc ?_ _; exact Ext.refl _), by omega, by omega⟩
 case rest =>
  obtain ⟨W, hW⟩ : ∃ W : World, W = wc := ⟨wc, rfl⟩
  subst hW
  obtain ⟨pl, pr, rfl, rfl, hbn, hbl, hbr, hxW, hpl, hpr⟩ := hcut
  have hle1 : B ≤ W.heap.size := Nat.le_trans hle hxW.size
  have ht1 := ht.ext hxW (by omega)
  have hxW1 : Fb B b w W := Fb.of_ext hxW hle
  have hxs1 := hxs.ext hxW
  have hys1 := hys.ext hxW
  have hb0 := h.ext hxW
  clear k0 k1 k2 k3 m0 m1 m2 m3 m1' m2' m3' hxs hys hs h ht hkw hkw1 hkw2 hkw3
  have hbb := hb0.lt
  obtain ⟨c0, c1, c2, c3⟩ := hbn.node
  obtain ⟨l0, l1, l2, l3⟩ := hbl.node
  go_wp2_with fail
  refine (arith_Level_c _ _ (by omega) (by omega)).mono ?_
  rintro e w1 ⟨rfl, rfl⟩
  simp only
  go_upto_region 4 with fail
  go_cut [] (fun u3 => Bld B b (t ++ wrap (Nd.mk xk xn xs xl).text (parenL xk k)) u3 ∧ Fb B b W u3)
  case first =>
   cases hq : isBin xk
   · have HQ := Lib.hid hq; clear hq
     refine wp_region_held_drew (S := fun w' => w'.cell? ⟨pl, 0, none⟩ = some (.int .u8 xk) ∧ w'.cell? ⟨pl, 1, none⟩ = some (.int .i64 xn) ∧ w'.cell? ⟨pl, 2, none⟩ = some (str xs) ∧ w'.cell? ⟨pl, 3, none⟩ = some (.slice xa xl.length xc)) (by kernel_rfl) ⟨l0, l1, l2, l3⟩ (fun hHeld => ?_)
     ((refine wpAnyH_take (i := 0) (oi := _) (v := ?v0_1) rfl (by kernel_rfl) (by kernel_rfl) (by kernel_rfl) (fun _ _ _ h => h) (Or.inl ⟨by rfl, ?y0_1⟩) (by assumption) ?r0_1); (case y0_1 => (intro w hSw; (try dsimp only at hSw); go_simp; try (with_reducible rfl))); (try simp only [Act.put, List.getElem_toArray, List.getElem_cons_zero, List.getElem_cons_succ, List.setIfInBounds_toArray, List.set_cons_zero, List.set_cons_succ]))
     ((refine wpAnyH_take (i := 1) (oi := _) (v := ?v1_2) rfl (by kernel_rfl) (by kernel_rfl) (by kernel_rfl) (fun _ _ _ h => h) (Or.inl ⟨by rfl, ?y1_2⟩) (by assumption) ?r1_2); (case y1_2 => (intro w hSw; (try dsimp only at hSw); go_simp; try (with_reducible rfl))); (try simp only [Act.put, List.getElem_toArray, List.getElem_cons_zero, List.getElem_cons_succ, List.setIfInBounds_toArray, List.set_cons_zero, List.set_cons_succ]))
     ((refine wpAnyH_take (i := 2) (oi := _) (v := ?v2_3) rfl (by kernel_rfl) (by kernel_rfl) (by kernel_rfl) (fun _ _ _ h => h) (Or.inl ⟨by rfl, ?y2_3⟩) (by assumption) ?r2_3); (case y2_3 => (intro w hSw; (try dsimp only at hSw); go_simp; try (with_reducible rfl))); (try simp only [Act.put, List.getElem_toArray, List.getElem_cons_zero, List.getElem_cons_succ, List.setIfInBounds_toArray, List.set_cons_zero, List.set_cons_succ]))
     ((refine wpAnyH_ready (rs := [3]) (by kernel_rfl) (by simp) ?_); (refine AllReadyH.cons (o := _) rfl (fun K hK => ?_) AllReadyH.nil); go_simp)
     refine (binary_c _ _ _ _ _ _ _).mono ?_
     rintro e u2 ⟨rfl, hx2⟩
     rw [HQ.out]
     refine hK.out _ _ ⟨hx2.keep l0, hx2.keep l1, hx2.keep l2, hx2.keep l3⟩ (fun hHeld => ?_)
     clear hK K
     (try simp only [Act.put, List.getElem_toArray, List.getElem_cons_zero, List.getElem_cons_succ, List.setIfInBounds_toArray, List.set_cons_zero, List.set_cons_succ])
     ((refine wpAnyH_take (i := 4) (oi := _) (v := ?v4_4) rfl (by kernel_rfl) (by kernel_rfl) (by kernel_rfl) (fun _ _ _ h => h) (Or.inl ⟨by rfl, ?y4_4⟩) (by assumption) ?r4_4); (case y4_4 => (intro w hSw; (try dsimp only at hSw); go_simp; try (with_reducible rfl))); (try simp only [Act.put, List.getElem_toArray, List.getElem_cons_zero, List.getElem_cons_succ, List.setIfInBounds_toArray, List.set_cons_zero, List.set_cons_succ]))
     ((refine wpAnyH_take (i := 5) (oi := _) (v := undef) rfl (by kernel_rfl) (by kernel_rfl) (by kernel_rfl) (fun _ _ _ h => h) (Or.inr ⟨by rfl, rfl⟩) (by assumption) ?_); (try simp only [Act.put, List.getElem_toArray, List.getElem_cons_zero, List.getElem_cons_succ, List.setIfInBounds_toArray, List.set_cons_zero, List.set_cons_succ]))
     ((refine wpAnyH_take (i := 6) (oi := _) (v := undef) rfl (by kernel_rfl) (by kernel_rfl) (by kernel_rfl) (fun _ _ _ h => h) (Or.inr ⟨by rfl, rfl⟩) (by assumption) ?_); (try simp only [Act.put, List.getElem_toArray, List.getElem_cons_zero, List.getElem_cons_succ, List.setIfInBounds_toArray, List.set_cons_zero, List.set_cons_succ]))
     ((refine wpAnyH_take (i := 7) (oi := _) (v := undef) rfl (by kernel_rfl) (by kernel_rfl) (by kernel_rfl) (fun _ _ _ h => h) (Or.inr ⟨by rfl, rfl⟩) (by assumption) ?_); (try simp only [Act.put, List.getElem_toArray, List.getElem_cons_zero, List.getElem_cons_succ, List.setIfInBounds_toArray, List.set_cons_zero, List.set_cons_succ]))
     ((refine wpAnyH_take (i := 8) (oi := _) (v := undef) rfl (by kernel_rfl) (by kernel_rfl) (by kernel_rfl) (fun _ _ _ h => h) (Or.inr ⟨by rfl, rfl⟩) (by assumption) ?_); (try simp only [Act.put, List.getElem_toArray, List.getElem_cons_zero, List.getElem_cons_succ, List.setIfInBounds_toArray, List.set_cons_zero, List.set_cons_succ]))
     ((refine wpAnyH_take (i := 9) (oi := _) (v := undef) rfl (by kernel_rfl) (by kernel_rfl) (by kernel_rfl) (fun _ _ _ h => h) (Or.inr ⟨by rfl, rfl⟩) (by assumption) ?_); (try simp only [Act.put, List.getElem_toArray, List.getElem_cons_zero, List.getElem_cons_succ, List.setIfInBounds_toArray, List.set_cons_zero, List.set_cons_succ]))
     ((refine wpAnyH_take (i := 10) (oi := _) (v := ?v10_5) rfl (by kernel_rfl) (by kernel_rfl) (by kernel_rfl) (fun _ _ _ h => h) (Or.inl ⟨by rfl, ?y10_5⟩) (by assumption) ?r10_5); (case y10_5 => (intro w hSw; (try dsimp only at hSw); go_simp; try (with_reducible rfl))); (try simp only [Act.put, List.getElem_toArray, List.getElem_cons_zero, List.getElem_cons_succ, List.setIfInBounds_toArray, List.set_cons_zero, List.set_cons_succ]))
     ((refine wpAnyH_ready (rs := [11]) (by kernel_rfl) (by simp) ?_); (refine AllReadyH.cons (o := _) rfl (fun K hK => ?_) AllReadyH.nil); go_simp)
     refine (operand_c (.mk xk xn xs xl) HX.out B b _ _ _ xa xc (hb0.drew.ext hx2) ((ht1.ext (Ext.refl _).drew (by omega)).ext hx2 (by show _ ≤ W.heap.size; omega)) hB (hxs1.ext (Ext.trans (Ext.refl _).drew hx2)) (by rw [← parenL_f (k := k) HQ.out]; simp only [List.length_append, List.flatten_cons, List.flatten_nil, List.length_cons, List.length_nil] at hlen ⊢; omega)).mono ?_
     rintro e u3 ⟨rfl, hb3, hx3⟩
     rw [← parenL_f (k := k) HQ.out] at hb3
     refine hK.out _ _ ((hbl.drew.ext hx2).fb hx3 (by omega) (by decide)).node (fun hHeld => ?_)
     clear hK K hHeld
     (try simp only [Act.put, List.getElem_toArray, List.getElem_cons_zero, List.getElem_cons_succ, List.setIfInBounds_toArray, List.set_cons_zero, List.set_cons_succ])
     (refine wpAnyH_done (by kernel_rfl) ?_ _)
     go_wp2_with fail
     go_meet
     refine ⟨?_, (Fb.of_ext (Ext.trans (Ext.refl _).drew hx2) hle1).trans hx3⟩
     exact hb3
   · have HQ := Lib.hid hq; clear hq
     refine wp_region_held_drew (S := fun w' => w'.cell? ⟨pl, 0, none⟩ = some (.int .u8 xk) ∧ w'.cell? ⟨pl, 1, none⟩ = some (.int .i64 xn) ∧ w'.cell? ⟨pl, 2, none⟩ = some (str xs) ∧ w'.cell? ⟨pl, 3, none⟩ = some (.slice xa xl.length xc)) (by kernel_rfl) ⟨l0, l1, l2, l3⟩ (fun hHeld => ?_)
     ((refine wpAnyH_take (i := 0) (oi := _) (v := ?v0_6) rfl (by kernel_rfl) (by kernel_rfl) (by kernel_rfl) (fun _ _ _ h => h) (Or.inl ⟨by rfl, ?y0_6⟩) (by assumption) ?r0_6); (case y0_6 => (intro w hSw; (try dsimp only at hSw); go_simp; try (with_reducible rfl))); (try simp only [Act.put, List.getElem_toArray, List.getElem_cons_zero, List.getElem_cons_succ, List.setIfInBounds_toArray, List.set_cons_zero, List.set_cons_succ]))
     ((refine wpAnyH_take (i := 1) (oi := _) (v := ?v1_7) rfl (by kernel_rfl) (by kernel_rfl) (by kernel_rfl) (fun _ _ _ h => h) (Or.inl ⟨by rfl, ?y1_7⟩) (by assumption) ?r1_7); (case y1_7 => (intro w hSw; (try dsimp only at hSw); go_simp; try (with_reducible rfl))); (try simp only [Act.put, List.getElem_toArray, List.getElem_cons_zero, List.getElem_cons_succ, List.setIfInBounds_toArray, List.set_cons_zero, List.set_cons_succ]))
     ((refine wpAnyH_take (i := 2) (oi := _) (v := ?v2_8) rfl (by kernel_rfl) (by kernel_rfl) (by kernel_rfl) (fun _ _ _ h => h) (Or.inl ⟨by rfl, ?y2_8⟩) (by assumption) ?r2_8); (case y2_8 => (intro w hSw; (try dsimp only at hSw); go_simp; try (with_reducible rfl))); (try simp only [Act.put, List.getElem_toArray, List.getElem_cons_zero, List.getElem_cons_succ, List.setIfInBounds_toArray, List.set_cons_zero, List.set_cons_succ]))
     ((refine wpAnyH_ready (rs := [3]) (by kernel_rfl) (by simp) ?_); (refine AllReadyH.cons (o := _) rfl (fun K hK => ?_) AllReadyH.nil); go_simp)
     refine (binary_c _ _ _ _ _ _ _).mono ?_
     rintro e u2 ⟨rfl, hx2⟩
     rw [HQ.out]
     refine hK.out _ _ ⟨hx2.keep l0, hx2.keep l1, hx2.keep l2, hx2.keep l3⟩ (fun hHeld => ?_)
     clear hK K
     (try simp only [Act.put, List.getElem_toArray, List.getElem_cons_zero, List.getElem_cons_succ, List.setIfInBounds_toArray, List.set_cons_zero, List.set_cons_succ])
     ((refine wpAnyH_take (i := 4) (oi := _) (v := ?v4_9) rfl (by kernel_rfl) (by kernel_rfl) (by kernel_rfl) (fun _ _ _ h => h) (Or.inl ⟨by rfl, ?y4_9⟩) (by assumption) ?r4_9); (case y4_9 => (intro w hSw; (try dsimp only at hSw); go_simp; try (with_reducible rfl))); (try simp only [Act.put, List.getElem_toArray, List.getElem_cons_zero, List.getElem_cons_succ, List.setIfInBounds_toArray, List.set_cons_zero, List.set_cons_succ]))
     have hbk : 8 ≤ xk ∧ xk ≤ 23 := by have := HQ.out; simp [isBin] at this; exact this
     obtain ⟨hbk0, hbk1⟩ := hbk
     ((refine wpAnyH_take (i := 5) (oi := _) (v := ?v5_10) rfl (by kernel_rfl) (by kernel_rfl) (by kernel_rfl) (fun _ _ _ h => h) (Or.inl ⟨by rfl, ?y5_10⟩) (by assumption) ?r5_10); (case y5_10 => (intro w hSw; (try dsimp only at hSw); go_simp; try (with_reducible rfl))); (try simp only [Act.put, List.getElem_toArray, List.getElem_cons_zero, List.getElem_cons_succ, List.setIfInBounds_toArray, List.set_cons_zero, List.set_cons_succ]))
     ((refine wpAnyH_take (i := 6) (oi := _) (v := ?v6_11) rfl (by kernel_rfl) (by kernel_rfl) (by kernel_rfl) (fun _ _ _ h => h) (Or.inl ⟨by rfl, ?y6_11⟩) (by assumption) ?r6_11); (case y6_11 => (intro w hSw; (try dsimp only at hSw); go_simp; try (with_reducible rfl))); (try simp only [Act.put, List.getElem_toArray, List.getElem_cons_zero, List.getElem_cons_succ, List.setIfInBounds_toArray, List.set_cons_zero, List.set_cons_succ]))
     ((refine wpAnyH_take (i := 8) (oi := _) (v := ?v8_12) rfl (by kernel_rfl) (by kernel_rfl) (by kernel_rfl) (fun _ _ _ h => h) (Or.inl ⟨by rfl, ?y8_12⟩) (by assumption) ?r8_12); (case y8_12 => (intro w hSw; (try dsimp only at hSw); go_simp; try (with_reducible rfl))); (try simp only [Act.put, List.getElem_toArray, List.getElem_cons_zero, List.getElem_cons_succ, List.setIfInBounds_toArray, List.set_cons_zero, List.set_cons_succ]))
     ((refine wpAnyH_ready (rs := [7]) (by kernel_rfl) (by simp) ?_); (refine AllReadyH.cons (o := _) rfl (fun K hK => ?_) AllReadyH.nil); go_simp)
     refine (arith_Level_c _ _ (by omega) (by omega)).mono ?_
     rintro e u' ⟨rfl, rfl⟩
     refine hK.out _ _ ⟨hx2.keep l0, hx2.keep l1, hx2.keep l2, hx2.keep l3⟩ (fun hHeld => ?_)
     clear hK K
     (try simp only [Act.put, List.getElem_toArray, List.getElem_cons_zero, List.getElem_cons_succ, List.setIfInBounds_toArray, List.set_cons_zero, List.set_cons_succ])
     ((refine wpAnyH_take (i := 9) (oi := _) (v := ?v9_13) rfl (by kernel_rfl) (by kernel_rfl) (by kernel_rfl) (fun _ _ _ h => h) (Or.inl ⟨by rfl, ?y9_13⟩) (by assumption) ?r9_13); (case y9_13 => (intro w hSw; (try dsimp only at hSw); go_simp; try (with_reducible rfl))); (try simp only [Act.put, List.getElem_toArray, List.getElem_cons_zero, List.getElem_cons_succ, List.setIfInBounds_toArray, List.set_cons_zero, List.set_cons_succ]))
     ((refine wpAnyH_take (i := 10) (oi := _) (v := ?v10_14) rfl (by kernel_rfl) (by kernel_rfl) (by kernel_rfl) (fun _ _ _ h => h) (Or.inl ⟨by rfl, ?y10_14⟩) (by assumption) ?r10_14); (case y10_14 => (intro w hSw; (try dsimp only at hSw); go_simp; try (with_reducible rfl))); (try simp only [Act.put, List.getElem_toArray, List.getElem_cons_zero, List.getElem_cons_succ, List.setIfInBounds_toArray, List.set_cons_zero, List.set_cons_succ]))
     ((refine wpAnyH_ready (rs := [11]) (by kernel_rfl) (by simp) ?_); (refine AllReadyH.cons (o := _) rfl (fun K hK => ?_) AllReadyH.nil); go_simp)
     refine (operand_c (.mk xk xn xs xl) HX.out B b _ _ _ xa xc (hb0.drew.ext hx2) ((ht1.ext (Ext.refl _).drew (by omega)).ext hx2 (by show _ ≤ W.heap.size; omega)) hB (hxs1.ext (Ext.trans (Ext.refl _).drew hx2)) (by rw [← parenL_t (k := k) HQ.out (decide_eq_true_iff)]; simp only [List.length_append, List.flatten_cons, List.flatten_nil, List.length_cons, List.length_nil] at hlen ⊢; omega)).mono ?_
     rintro e u3 ⟨rfl, hb3, hx3⟩
     rw [← parenL_t (k := k) HQ.out (decide_eq_true_iff)] at hb3
     refine hK.out _ _ ((hbl.drew.ext hx2).fb hx3 (by omega) (by decide)).node (fun hHeld => ?_)
     clear hK K hHeld
     (try simp only [Act.put, List.getElem_toArray, List.getElem_cons_zero, List.getElem_cons_succ, List.setIfInBounds_toArray, List.set_cons_zero, List.set_cons_succ])
     (refine wpAnyH_done (by kernel_rfl) ?_ _)
     go_wp2_with fail
     go_meet
     refine ⟨?_, (Fb.of_ext (Ext.trans (Ext.refl _).drew hx2) hle1).trans hx3⟩
     exact hb3
  case rest =>
   obtain ⟨u3, hu3⟩ : ∃ u3 : World, u3 = wc := ⟨wc, rfl⟩
   subst hu3
   obtain ⟨hb3, hxx3⟩ := hcut
   have hlen2 : t.length + (wrap (Nd.mk xk xn xs xl).text (parenL xk k)).length + (1 + (symbol k).length + 1) + (wrap (Nd.mk yk yn ys yl).text (parenR yk k)).length ≤ 140737488355328 := by omega
   clear hlen
   obtain ⟨c0, c1, c2, c3⟩ := (hbn.fb hxx3 (by omega) (by decide)).node
   have hbr3 := hbr.fb hxx3 (by omega) (by decide)
   have ht3 := ht1.fb hxx3 hB
   have hys3 := hys1.fb hxx3
   have hle3 := hb3.le
   clear hbl hbn hxs1 l0 l1 l2 l3 ht1 hys1 hbr hb0
   go_wp2_with fail
   refine (arith_Symbol_c _ _ (by omega) (by omega) ht3).mono ?_
   rintro e u4 ⟨rfl, rfl⟩
   simp only
   go_wp2_with fail
   refine (write_c B b u3.heap.size 3 _ [[32], symbol k, [32]] _ (hb3.alloc _) (Box.new' _ _ (by simp)) (by simp) (by simp only [List.length_append, List.flatten_cons, List.flatten_nil, List.length_cons, List.length_nil]; omega)).mono ?_
   rintro e u4 ⟨rfl, hb4, hx4⟩
   have hxx4 : Fb B b u3 u4 := Fb.trans (Fb.of_ext (by refine Ext.alloc ?_ _; exact Ext.refl _) hle3) hx4
   have hbr4 := hbr3.fb hxx4 (by omega) (by decide)
   obtain ⟨r0, r1, r2, r3⟩ := hbr4.node
   have ht4 := ht3.fb hxx4 hB
   have hys4 := hys3.fb hxx4
   have hle4 := hb4.le
   clear hbr3 ht3 hys3 c0 c1 c2 c3 hx4
   simp only
   go_wp2_with fail
   cases hq : isBin yk
   · have HR := Lib.hid hq; clear hq
     refine wp_region_held_drew (S := fun w' => w'.cell? ⟨pr, 0, none⟩ = some (.int .u8 yk) ∧ w'.cell? ⟨pr, 1, none⟩ = some (.int .i64 yn) ∧ w'.cell? ⟨pr, 2, none⟩ = some (str ys) ∧ w'.cell? ⟨pr, 3, none⟩ = some (.slice ya yl.length yc)) (by kernel_rfl) ⟨r0, r1, r2, r3⟩ (fun hHeld => ?_)
     ((refine wpAnyH_take (i := 0) (oi := _) (v := ?v0_15) rfl (by kernel_rfl) (by kernel_rfl) (by kernel_rfl) (fun _ _ _ h => h) (Or.inl ⟨by rfl, ?y0_15⟩) (by assumption) ?r0_15); (case y0_15 => (intro w hSw; (try dsimp only at hSw); go_simp; try (with_reducible rfl))); (try simp only [Act.put, List.getElem_toArray, List.getElem_cons_zero, List.getElem_cons_succ, List.setIfInBounds_toArray, List.set_cons_zero, List.set_cons_succ]))
     ((refine wpAnyH_take (i := 1) (oi := _) (v := ?v1_16) rfl (by kernel_rfl) (by kernel_rfl) (by kernel_rfl) (fun _ _ _ h => h) (Or.inl ⟨by rfl, ?y1_16⟩) (by assumption) ?r1_16); (case y1_16 => (intro w hSw; (try dsimp only at hSw); go_simp; try (with_reducible rfl))); (try simp only [Act.put, List.getElem_toArray, List.getElem_cons_zero, List.getElem_cons_succ, List.setIfInBounds_toArray, List.set_cons_zero, List.set_cons_succ]))
     ((refine wpAnyH_take (i := 2) (oi := _) (v := ?v2_17) rfl (by kernel_rfl) (by kernel_rfl) (by kernel_rfl) (fun _ _ _ h => h) (Or.inl ⟨by rfl, ?y2_17⟩) (by assumption) ?r2_17); (case y2_17 => (intro w hSw; (try dsimp only at hSw); go_simp; try (with_reducible rfl))); (try simp only [Act.put, List.getElem_toArray, List.getElem_cons_zero, List.getElem_cons_succ, List.setIfInBounds_toArray, List.set_cons_zero, List.set_cons_succ]))
     ((refine wpAnyH_ready (rs := [3]) (by kernel_rfl) (by simp) ?_); (refine AllReadyH.cons (o := _) rfl (fun K hK => ?_) AllReadyH.nil); go_simp)
     refine (binary_c _ _ _ _ _ _ _).mono ?_
     rintro e u5 ⟨rfl, hx5⟩
     rw [HR.out]
     refine hK.out _ _ ⟨hx5.keep r0, hx5.keep r1, hx5.keep r2, hx5.keep r3⟩ (fun hHeld => ?_)
     clear hK K
     (try simp only [Act.put, List.getElem_toArray, List.getElem_cons_zero, List.getElem_cons_succ, List.setIfInBounds_toArray, List.set_cons_zero, List.set_cons_succ])
     ((refine wpAnyH_take (i := 4) (oi := _) (v := ?v4_18) rfl (by kernel_rfl) (by kernel_rfl) (by kernel_rfl) (fun _ _ _ h => h) (Or.inl ⟨by rfl, ?y4_18⟩) (by assumption) ?r4_18); (case y4_18 => (intro w hSw; (try dsimp only at hSw); go_simp; try (with_reducible rfl))); (try simp only [Act.put, List.getElem_toArray, List.getElem_cons_zero, List.getElem_cons_succ, List.setIfInBounds_toArray, List.set_cons_zero, List.set_cons_succ]))
     ((refine wpAnyH_take (i := 5) (oi := _) (v := undef) rfl (by kernel_rfl) (by kernel_rfl) (by kernel_rfl) (fun _ _ _ h => h) (Or.inr ⟨by rfl, rfl⟩) (by assumption) ?_); (try simp only [Act.put, List.getElem_toArray, List.getElem_cons_zero, List.getElem_cons_succ, List.setIfInBounds_toArray, List.set_cons_zero, List.set_cons_succ]))
     ((refine wpAnyH_take (i := 6) (oi := _) (v := undef) rfl (by kernel_rfl) (by kernel_rfl) (by kernel_rfl) (fun _ _ _ h => h) (Or.inr ⟨by rfl, rfl⟩) (by assumption) ?_); (try simp only [Act.put, List.getElem_toArray, List.getElem_cons_zero, List.getElem_cons_succ, List.setIfInBounds_toArray, List.set_cons_zero, List.set_cons_succ]))
     ((refine wpAnyH_take (i := 7) (oi := _) (v := undef) rfl (by kernel_rfl) (by kernel_rfl) (by kernel_rfl) (fun _ _ _ h => h) (Or.inr ⟨by rfl, rfl⟩) (by assumption) ?_); (try simp only [Act.put, List.getElem_toArray, List.getElem_cons_zero, List.getElem_cons_succ, List.setIfInBounds_toArray, List.set_cons_zero, List.set_cons_succ]))
     ((refine wpAnyH_take (i := 8) (oi := _) (v := undef) rfl (by kernel_rfl) (by kernel_rfl) (by kernel_rfl) (fun _ _ _ h => h) (Or.inr ⟨by rfl, rfl⟩) (by assumption) ?_); (try simp only [Act.put, List.getElem_toArray, List.getElem_cons_zero, List.getElem_cons_succ, List.setIfInBounds_toArray, List.set_cons_zero, List.set_cons_succ]))
     ((refine wpAnyH_take (i := 9) (oi := _) (v := undef) rfl (by kernel_rfl) (by kernel_rfl) (by kernel_rfl) (fun _ _ _ h => h) (Or.inr ⟨by rfl, rfl⟩) (by assumption) ?_); (try simp only [Act.put, List.getElem_toArray, List.getElem_cons_zero, List.getElem_cons_succ, List.setIfInBounds_toArray, List.set_cons_zero, List.set_cons_succ]))
     ((refine wpAnyH_take (i := 10) (oi := _) (v := ?v10_19) rfl (by kernel_rfl) (by kernel_rfl) (by kernel_rfl) (fun _ _ _ h => h) (Or.inl ⟨by rfl, ?y10_19⟩) (by assumption) ?r10_19); (case y10_19 => (intro w hSw; (try dsimp only at hSw); go_simp; try (with_reducible rfl))); (try simp only [Act.put, List.getElem_toArray, List.getElem_cons_zero, List.getElem_cons_succ, List.setIfInBounds_toArray, List.set_cons_zero, List.set_cons_succ]))
     ((refine wpAnyH_ready (rs := [11]) (by kernel_rfl) (by simp) ?_); (refine AllReadyH.cons (o := _) rfl (fun K hK => ?_) AllReadyH.nil); go_simp)
     refine (operand_c (.mk yk yn ys yl) HY.out B b _ _ _ ya yc (hb4.drew.ext hx5) ((ht4.ext (Ext.refl _).drew (by omega)).ext hx5 (by show _ ≤ u4.heap.size; omega)) hB (hys4.ext (Ext.trans (Ext.refl _).drew hx5)) (by rw [← parenR_f (k := k) HR.out]; simp only [List.length_append, List.flatten_cons, List.flatten_nil, List.length_cons, List.length_nil] at hlen2 ⊢; omega)).mono ?_
     rintro e u6 ⟨rfl, hb6, hx6⟩
     rw [← parenR_f (k := k) HR.out] at hb6
     refine hK.out _ _ ((hbr4.drew.ext hx5).fb hx6 (by omega) (by decide)).node (fun hHeld => ?_)
     clear hK K hHeld
     (try simp only [Act.put, List.getElem_toArray, List.getElem_cons_zero, List.getElem_cons_succ, List.setIfInBounds_toArray, List.set_cons_zero, List.set_cons_succ])
     (refine wpAnyH_done (by kernel_rfl) ?_ _)
     go_wp2_with fail
     go_end0
     refine ⟨rfl, ?_, (hxW1.trans hxx3).trans (hxx4.trans ((Fb.of_ext (Ext.trans (Ext.refl _).drew hx5) hle4).trans hx6))⟩
     simpa using hb6
   · have HR := Lib.hid hq; clear hq
     refine wp_region_held_drew (S := fun w' => w'.cell? ⟨pr, 0, none⟩ = some (.int .u8 yk) ∧ w'.cell? ⟨pr, 1, none⟩ = some (.int .i64 yn) ∧ w'.cell? ⟨pr, 2, none⟩ = some (str ys) ∧ w'.cell? ⟨pr, 3, none⟩ = some (.slice ya yl.length yc)) (by kernel_rfl) ⟨r0, r1, r2, r3⟩ (fun hHeld => ?_)
     ((refine wpAnyH_take (i := 0) (oi := _) (v := ?v0_20) rfl (by kernel_rfl) (by kernel_rfl) (by kernel_rfl) (fun _ _ _ h => h) (Or.inl ⟨by rfl, ?y0_20⟩) (by assumption) ?r0_20); (case y0_20 => (intro w hSw; (try dsimp only at hSw); go_simp; try (with_reducible rfl))); (try simp only [Act.put, List.getElem_toArray, List.getElem_cons_zero, List.getElem_cons_succ, List.setIfInBounds_toArray, List.set_cons_zero, List.set_cons_succ]))
     ((refine wpAnyH_take (i := 1) (oi := _) (v := ?v1_21) rfl (by kernel_rfl) (by kernel_rfl) (by kernel_rfl) (fun _ _ _ h => h) (Or.inl ⟨by rfl, ?y1_21⟩) (by assumption) ?r1_21); (case y1_21 => (intro w hSw; (try dsimp only at hSw); go_simp; try (with_reducible rfl))); (try simp only [Act.put, List.getElem_toArray, List.getElem_cons_zero, List.getElem_cons_succ, List.setIfInBounds_toArray, List.set_cons_zero, List.set_cons_succ]))
     ((refine wpAnyH_take (i := 2) (oi := _) (v := ?v2_22) rfl (by kernel_rfl) (by kernel_rfl) (by kernel_rfl) (fun _ _ _ h => h) (Or.inl ⟨by rfl, ?y2_22⟩) (by assumption) ?r2_22); (case y2_22 => (intro w hSw; (try dsimp only at hSw); go_simp; try (with_reducible rfl))); (try simp only [Act.put, List.getElem_toArray, List.getElem_cons_zero, List.getElem_cons_succ, List.setIfInBounds_toArray, List.set_cons_zero, List.set_cons_succ]))
     ((refine wpAnyH_ready (rs := [3]) (by kernel_rfl) (by simp) ?_); (refine AllReadyH.cons (o := _) rfl (fun K hK => ?_) AllReadyH.nil); go_simp)
     refine (binary_c _ _ _ _ _ _ _).mono ?_
     rintro e u5 ⟨rfl, hx5⟩
     rw [HR.out]
     refine hK.out _ _ ⟨hx5.keep r0, hx5.keep r1, hx5.keep r2, hx5.keep r3⟩ (fun hHeld => ?_)
     clear hK K
     (try simp only [Act.put, List.getElem_toArray, List.getElem_cons_zero, List.getElem_cons_succ, List.setIfInBounds_toArray, List.set_cons_zero, List.set_cons_succ])
     ((refine wpAnyH_take (i := 4) (oi := _) (v := ?v4_23) rfl (by kernel_rfl) (by kernel_rfl) (by kernel_rfl) (fun _ _ _ h => h) (Or.inl ⟨by rfl, ?y4_23⟩) (by assumption) ?r4_23); (case y4_23 => (intro w hSw; (try dsimp only at hSw); go_simp; try (with_reducible rfl))); (try simp only [Act.put, List.getElem_toArray, List.getElem_cons_zero, List.getElem_cons_succ, List.setIfInBounds_toArray, List.set_cons_zero, List.set_cons_succ]))
     have hbk : 8 ≤ yk ∧ yk ≤ 23 := by have := HR.out; simp [isBin] at this; exact this
     obtain ⟨hbk0, hbk1⟩ := hbk
     ((refine wpAnyH_take (i := 5) (oi := _) (v := ?v5_24) rfl (by kernel_rfl) (by kernel_rfl) (by kernel_rfl) (fun _ _ _ h => h) (Or.inl ⟨by rfl, ?y5_24⟩) (by assumption) ?r5_24); (case y5_24 => (intro w hSw; (try dsimp only at hSw); go_simp; try (with_reducible rfl))); (try simp only [Act.put, List.getElem_toArray, List.getElem_cons_zero, List.getElem_cons_succ, List.setIfInBounds_toArray, List.set_cons_zero, List.set_cons_succ]))
     ((refine wpAnyH_take (i := 6) (oi := _) (v := ?v6_25) rfl (by kernel_rfl) (by kernel_rfl) (by kernel_rfl) (fun _ _ _ h => h) (Or.inl ⟨by rfl, ?y6_25⟩) (by assumption) ?r6_25); (case y6_25 => (intro w hSw; (try dsimp only at hSw); go_simp; try (with_reducible rfl))); (try simp only [Act.put, List.getElem_toArray, List.getElem_cons_zero, List.getElem_cons_succ, List.setIfInBounds_toArray, List.set_cons_zero, List.set_cons_succ]))
     ((refine wpAnyH_take (i := 8) (oi := _) (v := ?v8_26) rfl (by kernel_rfl) (by kernel_rfl) (by kernel_rfl) (fun _ _ _ h => h) (Or.inl ⟨by rfl, ?y8_26⟩) (by assumption) ?r8_26); (case y8_26 => (intro w hSw; (try dsimp only at hSw); go_simp; try (with_reducible rfl))); (try simp only [Act.put, List.getElem_toArray, List.getElem_cons_zero, List.getElem_cons_succ, List.setIfInBounds_toArray, List.set_cons_zero, List.set_cons_succ]))
     ((refine wpAnyH_ready (rs := [7]) (by kernel_rfl) (by simp) ?_); (refine AllReadyH.cons (o := _) rfl (fun K hK => ?_) AllReadyH.nil); go_simp)
     refine (arith_Level_c _ _ (by omega) (by omega)).mono ?_
     rintro e u' ⟨rfl, rfl⟩
     refine hK.out _ _ ⟨hx5.keep r0, hx5.keep r1, hx5.keep r2, hx5.keep r3⟩ (fun hHeld => ?_)
     clear hK K
     (try simp only [Act.put, List.getElem_toArray, List.getElem_cons_zero, List.getElem_cons_succ, List.setIfInBounds_toArray, List.set_cons_zero, List.set_cons_succ])
     ((refine wpAnyH_take (i := 9) (oi := _) (v := ?v9_27) rfl (by kernel_rfl) (by kernel_rfl) (by kernel_rfl) (fun _ _ _ h => h) (Or.inl ⟨by rfl, ?y9_27⟩) (by assumption) ?r9_27); (case y9_27 => (intro w hSw; (try dsimp only at hSw); go_simp; try (with_reducible rfl))); (try simp only [Act.put, List.getElem_toArray, List.getElem_cons_zero, List.getElem_cons_succ, List.setIfInBounds_toArray, List.set_cons_zero, List.set_cons_succ]))
     ((refine wpAnyH_take (i := 10) (oi := _) (v := ?v10_28) rfl (by kernel_rfl) (by kernel_rfl) (by kernel_rfl) (fun _ _ _ h => h) (Or.inl ⟨by rfl, ?y10_28⟩) (by assumption) ?r10_28); (case y10_28 => (intro w hSw; (try dsimp only at hSw); go_simp; try (with_reducible rfl))); (try simp only [Act.put, List.getElem_toArray, List.getElem_cons_zero, List.getElem_cons_succ, List.setIfInBounds_toArray, List.set_cons_zero, List.set_cons_succ]))
     ((refine wpAnyH_ready (rs := [11]) (by kernel_rfl) (by simp) ?_); (refine AllReadyH.cons (o := _) rfl (fun K hK => ?_) AllReadyH.nil); go_simp)
     refine (operand_c (.mk yk yn ys yl) HY.out B b _ _ _ ya yc (hb4.drew.ext hx5) ((ht4.ext (Ext.refl _).drew (by omega)).ext hx5 (by show _ ≤ u4.heap.size; omega)) hB (hys4.ext (Ext.trans (Ext.refl _).drew hx5)) (by rw [← parenR_t (k := k) HR.out (decide_eq_true_iff)]; simp only [List.length_append, List.flatten_cons, List.flatten_nil, List.length_cons, List.length_nil] at hlen2 ⊢; omega)).mono ?_
     rintro e u6 ⟨rfl, hb6, hx6⟩
     rw [← parenR_t (k := k) HR.out (decide_eq_true_iff)] at hb6
     refine hK.out _ _ ((hbr4.drew.ext hx5).fb hx6 (by omega) (by decide)).node (fun hHeld => ?_)
     clear hK K hHeld
     (try simp only [Act.put, List.getElem_toArray, List.getElem_cons_zero, List.getElem_cons_succ, List.setIfInBounds_toArray, List.set_cons_zero, List.set_cons_succ])
     (refine wpAnyH_done (by kernel_rfl) ?_ _)
     go_wp2_with fail
     go_end0
     refine ⟨rfl, ?_, (hxW1.trans hxx3).trans (hxx4.trans ((Fb.of_ext (Ext.trans (Ext.refl _).drew hx5) hle4).trans hx6))⟩
     simpa using hb6
end Bk
namespace Bk
open Go Go.RowKit Go.Proofs
theorem expr_all (N : Nat) : ∀ t : Nd, t.size < N → t.wf → t.isExpr = true → Prints 29 Nd.text t := by
 induction N with
 | zero => intro t h; omega
 | succ N ih =>
  rintro ⟨k, n, s, l⟩ hN hwf he
  simp only [Nd.wf, Nd.size] at hwf hN
  obtain ⟨hk0, hk1, hn0, hn1, hsl, hll, hrw⟩ := hwf
  by_cases c1 : k = 1
  · subst c1; exact expr_1 n s l hn0 hn1
  by_cases c2 : k = 2
  · subst c2; exact expr_2 n s l
  by_cases c4 : k = 4
  · subst c4; exact expr_4 n s l
  by_cases c5 : k = 5
  · subst c5; exact expr_5 n s l
  rw [Nd.isExpr.eq_def] at he
  simp only [c1, c2, c4, c5, or_self, if_false, false_or] at he
  by_cases c3 : k = 3
  · subst c3
    rcases l with _ | ⟨x, _ | ⟨y, l⟩⟩
    · simp at he
    · simp at he
      simp only [rowSize, rowWf] at hN hrw
      exact expr_3 n s x (ih x (by omega) hrw.1 he.2)
    · simp at he
  simp only [c3, if_false] at he
  by_cases c6 : k = 6 ∨ k = 7
  · rcases l with _ | ⟨x, _ | ⟨y, l⟩⟩
    · simp [c6] at he
    · simp [c6] at he
      simp only [rowSize, rowWf] at hN hrw
      exact expr_un k n s x c6 (ih x (by omega) hrw.1 he.2)
    · simp [c6] at he
  simp only [c6, if_false] at he
  by_cases c8 : 8 ≤ k ∧ k ≤ 23
  · rcases l with _ | ⟨x, _ | ⟨y, _ | ⟨z, l⟩⟩⟩
    · simp [c8] at he
    · simp [c8] at he
    · simp [c8] at he
      simp only [rowSize, rowWf] at hN hrw
      exact expr_bin k n s x y c8.1 c8.2 (ih x (by omega) hrw.1 he.2.1) (ih y (by omega) hrw.2.1 he.2.2)
    · simp [c8] at he
  · simp [c8] at he
theorem expr_t (t : Nd) (hwf : t.wf) (he : t.isExpr = true) : Prints 29 Nd.text t := expr_all (t.size + 1) t (by omega) hwf he
theorem isName_len {s : List UInt8} (h : isName s = true) : s.length ≤ 16 := by
 simp only [isName, Bool.and_eq_true, decide_eq_true_eq] at h
 exact h.1.1.1.2
theorem wrap_len (s : List UInt8) (q : Bool) : (wrap s q).length ≤ s.length + 2 := by
 unfold wrap; split <;> simp
theorem symbol_len (k : Int) : (symbol k).length ≤ 2 := by
 by_cases h : k.toNat < 43
 · have key : ∀ i : Fin 43, (symbols.getD i.val []).length ≤ 2 := by decide
   exact key ⟨k.toNat, h⟩
 · unfold symbol
   rw [List.getD_eq_getElem?_getD, List.getElem?_eq_none (show 43 ≤ k.toNat by omega)]; simp
mutual
theorem rowSits_lt {S : Nat → Prop} {w : World} : ∀ (l : List Nd) (a : Option Addr), rowSits S w l a → rowSits (· < w.heap.size) w l a
 | [], _, _ => by simp [rowSits]
 | t :: r, a, h => by
  simp only [rowSits] at h ⊢
  obtain ⟨b, o, a', c, rfl, hb, h0, h1, h2, h3, hs, hr⟩ := h
  exact ⟨b, o, a', c, rfl, cell_lt h0, h0, h1, h2, h3, sits_lt t a' hs, rowSits_lt r _ hr⟩
theorem sits_lt {S : Nat → Prop} {w : World} : ∀ (t : Nd) (a : Option Addr), t.sits S w a → t.sits (· < w.heap.size) w a
 | .mk _ _ _ l, a, h => by
  simp only [Nd.sits] at h ⊢
  exact rowSits_lt l a h
end
theorem text_len (N : Nat) : ∀ t : Nd, t.size < N → t.wf → t.isExpr = true → t.text.length ≤ 30 * t.size := by
 induction N with
 | zero => intro t h; omega
 | succ N ih =>
  rintro ⟨k, n, s, l⟩ hN hwf he
  simp only [Nd.wf, Nd.size] at hwf hN ⊢
  obtain ⟨hk0, hk1, hn0, hn1, hsl, hll, hrw⟩ := hwf
  rw [Nd.isExpr.eq_def] at he
  rw [Nd.text.eq_def]
  simp only [] at he ⊢
  by_cases c1 : k = 1
  · have := Lib.itoa_length_le n hn0 hn1
    rw [if_pos c1]; omega
  rw [if_neg c1] at he ⊢
  by_cases c2 : k = 2 ∨ k = 4 ∨ k = 5
  · rw [if_pos c2] at he
    simp only [named, Bool.and_eq_true] at he
    have := isName_len he.1.2
    rcases c2 with rfl | rfl | rfl
    · simp; omega
    · simp; omega
    · simp; omega
  rw [if_neg c2] at he
  have e2 : ¬ k = 2 := by omega
  have e4 : ¬ k = 4 := by omega
  have e5 : ¬ k = 5 := by omega
  rw [if_neg e2]
  by_cases c3 : k = 3
  · rw [if_pos c3] at he ⊢
    rcases l with _ | ⟨x, _ | ⟨y, l⟩⟩
    · simp at he
    · simp only [named, Bool.and_eq_true] at he
      have := isName_len he.1.2
      simp only [rowSize, rowWf] at hN hrw ⊢
      have hx := ih x (by omega) hrw.1 he.2
      simp; omega
    · simp at he
  rw [if_neg c3] at he ⊢
  rw [if_neg e4, if_neg e5]
  have hsy := symbol_len k
  by_cases c6 : k = 6 ∨ k = 7
  · rw [if_pos c6] at he ⊢
    rcases l with _ | ⟨x, _ | ⟨y, l⟩⟩
    · simp at he
    · simp only [Bool.and_eq_true] at he
      simp only [rowSize, rowWf] at hN hrw ⊢
      have hx := ih x (by omega) hrw.1 he.2
      have hw := wrap_len x.text (isBin x.kind)
      simp only [List.length_append]; omega
    · simp at he
  rw [if_neg c6] at he ⊢
  by_cases c8 : 8 ≤ k ∧ k ≤ 23
  · rw [if_pos c8] at he
    rcases l with _ | ⟨x, _ | ⟨y, _ | ⟨z, l⟩⟩⟩
    · simp at he
    · simp at he
    · simp only [Bool.and_eq_true] at he
      simp only [rowSize, rowWf] at hN hrw ⊢
      have hx := ih x (by omega) hrw.1 he.2.1
      have hy := ih y (by omega) hrw.2.1 he.2.2
      have hw := wrap_len x.text (parenL x.kind k)
      have hv := wrap_len y.text (parenR y.kind k)
      simp only [List.length_append, List.length_cons, List.length_nil]; omega
    · simp at he
  · rw [if_neg c8] at he; simp at he
theorem Bld.new (w : World) (B : Nat) (hB : B ≤ w.heap.size) : Bld B w.heap.size [] (w.alloc (.cells #[.pointer none, .slice none 0 0] 57)) := by
 refine ⟨.inl ⟨hB, .slice none 0 0, ?_, ?_, by simp [Value.ownBlock]⟩, by simp; omega⟩
 · show (w.heap.push _)[w.heap.size]? = _; simp
 · exact ⟨rfl, .inl ⟨rfl, rfl⟩⟩
theorem Expr_c (t : Nd) (hwf : t.wf) (hsz : t.size ≤ 4000000000000) (S : Nat → Prop) (a : Option Addr) (c : Nat) (w : World) (ht : Tabs w) (hg : Tryz.prog.globals.size ≤ w.heap.size) (hs : t.sits S w a) :
 Calls Tryz.prog 11 #[t.val a c] w fun e w' => e = .returned (.tuple #[str (if t.isExpr then t.text else []), .int .i64 (if t.isExpr then 0 else 3)]) ∧ Ext w w' := by
 have HE := Lib.hid (IsExpr_t S t hwf)
 cases he : t.isExpr
 · have HT := Lib.hid he; clear he
   obtain ⟨k, n, s, l⟩ := t
   simp only [Nd.kind, Nd.num, Nd.name, Nd.kids, Nd.val]
   go_enter Tryz.func11, Tryz.ntmps11
   go_wp2_with (go_at_call 10; refine (HE.out a c _ (hs.ext (by refine Ext.alloc ?_ _; exact Ext.refl _))).mono ?_; rintro e w1 ⟨rfl, hx1⟩; rw [HT.out])
   go_ret2
   exact ⟨rfl, (by refine Ext.trans ?_ (by assumption); refine Ext.alloc ?_ _; exact Ext.refl _)⟩
 · have hp := expr_t t hwf he
   have hl := text_len (t.size + 1) t (by omega) hwf he
   have HP := Lib.hid hp; clear hp
   have HT := Lib.hid he; clear he
   obtain ⟨k, n, s, l⟩ := t
   have HS := Lib.hid (sits_lt _ _ hs)
   have hle : (Nd.mk k n s l).text.length ≤ 130000000000000 := by omega
   clear hl hsz hwf
   simp only [Nd.kind, Nd.num, Nd.name, Nd.kids, Nd.val]
   go_enter Tryz.func11, Tryz.ntmps11
   go_wp2_with fail
   refine (HE.out a c _ (hs.ext ((Ext.refl _).alloc _))).mono ?_
   rintro e w1 ⟨rfl, hx1⟩
   have hc1 := hx1.cells
   have hz1 : w.heap.size < w1.heap.size := by
    have := hx1.size
    simp at this
    omega
   rw [HT.out]
   simp only
   go_wp2_with fail
   have hxx1 : Ext w w1 := (by refine Ext.trans ?_ (by assumption); refine Ext.alloc ?_ _; exact Ext.refl _)
   have hlew : w.heap.size ≤ w1.heap.size := hxx1.size
   have hx2 : Ext w (w1.alloc (.cells #[.pointer none, .slice none 0 0] 57)) := (by refine Ext.alloc ?_ _; assumption)
   refine (HP.out w.heap.size w1.heap.size [] _ a c (Bld.new w1 w.heap.size hlew) (ht.ext hx2 hg) hg (HS.out.ext hx2) (by simp; omega)).mono ?_
   rintro e w3 ⟨rfl, hb3, hx3⟩
   simp only
   go_wp2_with fail
   refine (String_any 57 w.heap.size w1.heap.size _ _ hb3.is hb3.le).mono ?_
   rintro e w4 ⟨rfl, hb4, hx4⟩
   simp only
   go_wp2_with fail
   go_ret2
   exact ⟨by simp, Below.trans hx2 (Below.trans hx3.below hx4.below)⟩
end Bk
namespace Bk
open Go Go.RowKit Go.Proofs
theorem word_c (k : Int) (w : World) (h0 : 0 ≤ k) (h1 : k ≤ 255) : Calls Tryz.prog 88 #[.int .u8 k] w fun e w' => e = .returned (str (kword k)) ∧ w = w' := by
 go_enter Tryz.func88, Tryz.ntmps88
 go_wp2_with fail
 all_goals go_ret
 all_goals (refine ⟨ret_str ?_, rfl⟩; (try simp only [beq_iff_eq, beq_eq_false_iff_ne, ne_eq, bne_iff_ne, decide_eq_true_eq, decide_eq_false_iff_not] at *); first | (subst k; rfl) | (unfold kword; (repeat' split) <;> first | rfl | omega))
theorem updater_c (k : Int) (w : World) (h0 : 0 ≤ k) (h1 : k ≤ 255) (ht : Tabs w) : Calls Tryz.prog 89 #[.int .u8 k] w fun e w' => e = .returned (str (updSign k)) ∧ w = w' := by
 have HT := Lib.hid ht; clear ht
 by_cases h56 : k = 56
 · subst h56
   go_enter Tryz.func89, Tryz.ntmps89
   go_wp2_with fail
   go_ret
   exact ⟨rfl, rfl⟩
 by_cases h43 : k = 43
 · subst h43
   go_enter Tryz.func89, Tryz.ntmps89
   go_wp2_with fail
   go_ret
   exact ⟨rfl, rfl⟩
 have hu : updSign k = symbol k := by unfold updSign; rw [if_neg h56, if_neg h43]
 rw [hu]
 have d1 : (k == 56) = false := by simpa using h56
 have d2 : (k == 43) = false := by simpa using h43
 clear hu h56 h43
 go_enter Tryz.func89, Tryz.ntmps89
 go_wp2_with (go_at_call 52; refine (arith_Symbol_c _ _ h0 h1 HT.out).mono ?_; rintro e w1 ⟨rfl, rfl⟩)
 go_ret
 exact ⟨rfl, rfl⟩
end Bk
namespace Bk
open Go Go.RowKit Go.Proofs
theorem tabT_len (d : Nat) : (tabT d).length = d := by simp [tabT]
theorem bracesT_len (t : Nd) (d : Nat) : (bracesT t d).length = (t.linesT (d + 1)).length + d + 4 := by
 simp [bracesT, tabT_len]; omega
attribute [local simp] tabT_len bracesT_len
def PrintsD (f : FuncId) (txt : Nd → Nat → List UInt8) (t : Nd) : Prop :=
 ∀ (B b : Nat) (l : List UInt8) (w : World) (a : Option Addr) (c d : Nat), Bld B b l w → Tabs w → Tryz.prog.globals.size ≤ B → t.sits (· < B) w a → d + t.size ≤ 1000000 → (l ++ txt t d).length ≤ 140737488355328 →
  Calls Tryz.prog f #[.pointer (some ⟨b, 0, none⟩), t.val a c, .int .i64 d] w fun e w' => e = .returned (.tuple #[]) ∧ Bld B b (l ++ txt t d) w' ∧ Fb B b w w'
theorem kid0 {S : Nat → Prop} {w : World} {x : Nd} {r : List Nd} {kb ko : Nat} (h : rowSits S w (x :: r) (some ⟨kb, ko, none⟩)) :
 ∃ xa xc, w.cell? ⟨kb, ko, none⟩ = some (.int .u8 x.kind) ∧ w.cell? ⟨kb, ko + 1, none⟩ = some (.int .i64 x.num) ∧ w.cell? ⟨kb, ko + 2, none⟩ = some (str x.name) ∧ w.cell? ⟨kb, ko + 3, none⟩ = some (.slice xa x.kids.length xc) ∧ x.sits S w xa := by
 obtain ⟨b, o, a', c, he, h0, h1, h2, h3, h4, h5⟩ := rowSits_get h (i := 0) (t := x) rfl
 simp only [Option.some.injEq, Addr.mk.injEq] at he
 obtain ⟨rfl, rfl, -⟩ := he
 exact ⟨a', c, by simpa using h1, by simpa using h2, by simpa using h3, by simpa using h4, h5⟩
theorem kid1 {S : Nat → Prop} {w : World} {x0 x : Nd} {r : List Nd} {kb ko : Nat} (h : rowSits S w (x0 :: x :: r) (some ⟨kb, ko, none⟩)) :
 ∃ xa xc, w.cell? ⟨kb, ko + 4, none⟩ = some (.int .u8 x.kind) ∧ w.cell? ⟨kb, ko + 4 + 1, none⟩ = some (.int .i64 x.num) ∧ w.cell? ⟨kb, ko + 4 + 2, none⟩ = some (str x.name) ∧ w.cell? ⟨kb, ko + 4 + 3, none⟩ = some (.slice xa x.kids.length xc) ∧ w.cell? ⟨kb, ko + 5, none⟩ = some (.int .i64 x.num) ∧ w.cell? ⟨kb, ko + 6, none⟩ = some (str x.name) ∧ w.cell? ⟨kb, ko + 7, none⟩ = some (.slice xa x.kids.length xc) ∧ x.sits S w xa := by
 obtain ⟨b, o, a', c, he, h0, h1, h2, h3, h4, h5⟩ := rowSits_get h (i := 1) (t := x) rfl
 simp only [Option.some.injEq, Addr.mk.injEq] at he
 obtain ⟨rfl, rfl, -⟩ := he
 exact ⟨a', c, by simpa using h1, by simpa using h2, by simpa using h3, by simpa using h4, by simpa using h2, by simpa using h3, by simpa using h4, h5⟩
theorem kid2 {S : Nat → Prop} {w : World} {x0 x1 x : Nd} {r : List Nd} {kb ko : Nat} (h : rowSits S w (x0 :: x1 :: x :: r) (some ⟨kb, ko, none⟩)) :
 ∃ xa xc, w.cell? ⟨kb, ko + 8, none⟩ = some (.int .u8 x.kind) ∧ w.cell? ⟨kb, ko + 8 + 1, none⟩ = some (.int .i64 x.num) ∧ w.cell? ⟨kb, ko + 8 + 2, none⟩ = some (str x.name) ∧ w.cell? ⟨kb, ko + 8 + 3, none⟩ = some (.slice xa x.kids.length xc) ∧ w.cell? ⟨kb, ko + 9, none⟩ = some (.int .i64 x.num) ∧ w.cell? ⟨kb, ko + 10, none⟩ = some (str x.name) ∧ w.cell? ⟨kb, ko + 11, none⟩ = some (.slice xa x.kids.length xc) ∧ x.sits S w xa := by
 obtain ⟨b, o, a', c, he, h0, h1, h2, h3, h4, h5⟩ := rowSits_get h (i := 2) (t := x) rfl
 simp only [Option.some.injEq, Addr.mk.injEq] at he
 obtain ⟨rfl, rfl, -⟩ := he
 exact ⟨a', c, by simpa using h1, by simpa using h2, by simpa using h3, by simpa using h4, by simpa using h2, by simpa using h3, by simpa using h4, h5⟩
theorem kid3 {S : Nat → Prop} {w : World} {x0 x1 x2 x : Nd} {r : List Nd} {kb ko : Nat} (h : rowSits S w (x0 :: x1 :: x2 :: x :: r) (some ⟨kb, ko, none⟩)) :
 ∃ xa xc, w.cell? ⟨kb, ko + 12, none⟩ = some (.int .u8 x.kind) ∧ w.cell? ⟨kb, ko + 12 + 1, none⟩ = some (.int .i64 x.num) ∧ w.cell? ⟨kb, ko + 12 + 2, none⟩ = some (str x.name) ∧ w.cell? ⟨kb, ko + 12 + 3, none⟩ = some (.slice xa x.kids.length xc) ∧ w.cell? ⟨kb, ko + 13, none⟩ = some (.int .i64 x.num) ∧ w.cell? ⟨kb, ko + 14, none⟩ = some (str x.name) ∧ w.cell? ⟨kb, ko + 15, none⟩ = some (.slice xa x.kids.length xc) ∧ x.sits S w xa := by
 obtain ⟨b, o, a', c, he, h0, h1, h2, h3, h4, h5⟩ := rowSits_get h (i := 3) (t := x) rfl
 simp only [Option.some.injEq, Addr.mk.injEq] at he
 obtain ⟨rfl, rfl, -⟩ := he
 exact ⟨a', c, by simpa using h1, by simpa using h2, by simpa using h3, by simpa using h4, by simpa using h2, by simpa using h3, by simpa using h4, h5⟩
theorem braces_c (y : Nd) (hy : PrintsD 38 Nd.linesT y) :
 ∀ (B b : Nat) (t : List UInt8) (w : World) (a : Option Addr) (c d : Nat), Bld B b t w → Tabs w → Tryz.prog.globals.size ≤ B → y.sits (· < B) w a → d + 1 + y.size ≤ 1000000 → (t ++ bracesT y d).length ≤ 140737488355328 →
 Calls Tryz.prog 46 #[.pointer (some ⟨b, 0, none⟩), y.val a c, .int .i64 d] w fun e w' => e = .returned (.tuple #[]) ∧ Bld B b (t ++ bracesT y d) w' ∧ Fb B b w w' := by
 intro B b t w a c d h ht hB hs hd hlen
 have hle := h.le
 have hlt := h.lt
 have HY := Lib.hid hy; clear hy
 have hbx0 : Box w.heap.size #[.int .u8 y.kind, .int .i64 y.num, str y.name, .slice a y.kids.length c] 24 (w.alloc (.cells #[.int .u8 y.kind, .int .i64 y.num, str y.name, .slice a y.kids.length c] 24)) := Box.new _ _ _
 have hxW : Fb B b w (w.alloc (.cells #[.int .u8 y.kind, .int .i64 y.num, str y.name, .slice a y.kids.length c] 24)) := Fb.of_ext ((Ext.refl _).alloc _) hle
 have hb0 : Bld B b t (w.alloc (.cells #[.int .u8 y.kind, .int .i64 y.num, str y.name, .slice a y.kids.length c] 24)) := h.alloc _
 have ht0 := ht.fb hxW hB
 have hs0 := hs.fb hxW
 go_enter Tryz.func46, Tryz.ntmps46
 go_wp2_with fail
 refine (write_c B b (w.heap.size + 1) 1 _ [[32, 123, 10]] _ (hb0.alloc _) (Box.new' _ _ (by simp)) (by simp) (by (try simp at hlen ⊢) <;> omega)).mono ?_
 rintro e u1 ⟨rfl, hb1, hx1⟩
 have hxx1 : Fb B b (w.alloc (.cells #[.int .u8 y.kind, .int .i64 y.num, str y.name, .slice a y.kids.length c] 24)) u1 := Fb.trans (Fb.of_ext ((Ext.refl _).alloc _) hb0.le) hx1
 obtain ⟨g0, g1, g2, g3⟩ := (hbx0.fb hxx1 (by omega) (by decide)).node
 have ht1 := ht0.fb hxx1 hB
 have hs1 := hs0.fb hxx1
 simp only
 go_wp2_with fail
 rw [show ((d : Int) + 1) = ((d + 1 : Nat) : Int) from by omega]
 refine (HY.out B b _ _ a c (d + 1) hb1 ht1 hB hs1 (by omega) (by (try simp at hlen ⊢) <;> omega)).mono ?_
 rintro e u2 ⟨rfl, hb2, hx2⟩
 have hxx2 : Fb B b (w.alloc (.cells #[.int .u8 y.kind, .int .i64 y.num, str y.name, .slice a y.kids.length c] 24)) u2 := Fb.trans hxx1 hx2
 obtain ⟨g0, g1, g2, g3⟩ := (hbx0.fb hxx2 (by omega) (by decide)).node
 have ht2 := ht0.fb hxx2 hB
 simp only
 go_wp2_with fail
 refine (tabs_c B b _ d _ hb2 (by omega) (by (try simp at hlen ⊢) <;> omega)).mono ?_
 rintro e u3 ⟨rfl, hb3, hx3⟩
 have hxx3 : Fb B b (w.alloc (.cells #[.int .u8 y.kind, .int .i64 y.num, str y.name, .slice a y.kids.length c] 24)) u3 := Fb.trans hxx2 hx3
 obtain ⟨g0, g1, g2, g3⟩ := (hbx0.fb hxx3 (by omega) (by decide)).node
 have ht3 := ht0.fb hxx3 hB
 simp only
 go_wp2_with fail
 refine (write_c B b u3.heap.size 1 _ [[125]] _ (hb3.alloc _) (Box.new' _ _ (by simp)) (by simp) (by (try simp at hlen ⊢) <;> omega)).mono ?_
 rintro e u4 ⟨rfl, hb4, hx4⟩
 have hxx4 : Fb B b (w.alloc (.cells #[.int .u8 y.kind, .int .i64 y.num, str y.name, .slice a y.kids.length c] 24)) u4 := Fb.trans (Fb.trans hxx3 (Fb.of_ext ((Ext.refl _).alloc _) hb3.le)) hx4
 obtain ⟨g0, g1, g2, g3⟩ := (hbx0.fb hxx4 (by omega) (by decide)).node
 have ht4 := ht0.fb hxx4 hB
 simp only
 go_wp2_with fail
 go_end0
 exact ⟨rfl, by simpa [bracesT, tabT] using hb4, hxW.trans hxx4⟩
set_option maxHeartbeats 2000000 in
set_option maxRecDepth 100000 in
theorem stmt_40 (n : Int) (s : List UInt8) (x y : Nd) (hx : Prints 29 Nd.text x) (hy : Prints 29 Nd.text y) : PrintsD 66 Nd.stmtT (.mk 40 n s [x, y]) := by
 intro B b t w a c d h ht hB hs hd hlen
 have htx : (Nd.mk 40 n s [x, y]).stmtT d = kword 40 ++ x.text ++ [32] ++ updSign 40 ++ [32] ++ y.text := by rw [Nd.stmtT.eq_def]; simp [kword]
 rw [htx] at hlen ⊢
 clear htx
 have hle := h.le
 have hlt := h.lt
 simp only [Nd.kind, Nd.num, Nd.name, Nd.kids, Nd.val, Nd.sits, Nd.size, rowSize, List.length_cons, List.length_nil] at hs hd ⊢
 obtain ⟨kb, ko, rfl⟩ : ∃ kb ko, a = some ⟨kb, ko, none⟩ := by
  obtain ⟨b0, o0, _, _, he, _⟩ := rowSits_get hs (i := 0) rfl
  exact ⟨b0, o0, he⟩
 have HX := Lib.hid hx; clear hx
 have HY := Lib.hid hy; clear hy
 have hbx0 : Box w.heap.size #[.int .u8 40, .int .i64 n, str s, .slice (some ⟨kb, ko, none⟩) 2 c] 24 (w.alloc (.cells #[.int .u8 40, .int .i64 n, str s, .slice (some ⟨kb, ko, none⟩) 2 c] 24)) := Box.new _ _ _
 have hxW : Fb B b w (w.alloc (.cells #[.int .u8 40, .int .i64 n, str s, .slice (some ⟨kb, ko, none⟩) 2 c] 24)) := Fb.of_ext ((Ext.refl _).alloc _) hle
 have hb0 : Bld B b t (w.alloc (.cells #[.int .u8 40, .int .i64 n, str s, .slice (some ⟨kb, ko, none⟩) 2 c] 24)) := h.alloc _
 have ht0 := ht.fb hxW hB
 have hs0 := hs.fb hxW
 go_enter Tryz.func66, Tryz.ntmps66
 go_wp2_with fail
 refine (word_c _ _ (by omega) (by omega)).mono ?_
 rintro e w1 ⟨rfl, rfl⟩
 simp only
 go_wp2_with fail
 refine (write_c B b (w.heap.size + 1) 1 _ [kword 40] _ (hb0.alloc _) (Box.new' _ _ (by simp)) (by simp) (by (try simp at hlen ⊢) <;> omega)).mono ?_
 rintro e u1 ⟨rfl, hb1, hx1⟩
 have hxx1 : Fb B b (w.alloc (.cells #[.int .u8 40, .int .i64 n, str s, .slice (some ⟨kb, ko, none⟩) 2 c] 24)) u1 := Fb.trans (Fb.of_ext ((Ext.refl _).alloc _) hb0.le) hx1
 obtain ⟨g0, g1, g2, g3⟩ := (hbx0.fb hxx1 (by omega) (by decide)).node
 have ht1 := ht0.fb hxx1 hB
 have hs1 := hs0.fb hxx1
 obtain ⟨ka1, kc1, m0, m1, m2, m3, hk1⟩ := kid0 hs1
 simp only
 go_wp2_with fail
 refine (HX.out B b _ _ ka1 kc1 hb1 ht1 hB hk1 (by (try simp at hlen ⊢) <;> omega)).mono ?_
 rintro e u2 ⟨rfl, hb2, hx2⟩
 have hxx2 : Fb B b (w.alloc (.cells #[.int .u8 40, .int .i64 n, str s, .slice (some ⟨kb, ko, none⟩) 2 c] 24)) u2 := Fb.trans hxx1 hx2
 obtain ⟨g0, g1, g2, g3⟩ := (hbx0.fb hxx2 (by omega) (by decide)).node
 have ht2 := ht0.fb hxx2 hB
 have hs2 := hs0.fb hxx2
 simp only
 go_wp2_with fail
 refine (updater_c _ _ (by omega) (by omega) ht2).mono ?_
 rintro e w1 ⟨rfl, rfl⟩
 simp only
 go_wp2_with fail
 refine (write_c B b u2.heap.size 3 _ [[32], updSign 40, [32]] _ (hb2.alloc _) (Box.new' _ _ (by simp)) (by simp) (by (try simp at hlen ⊢) <;> omega)).mono ?_
 rintro e u3 ⟨rfl, hb3, hx3⟩
 have hxx3 : Fb B b (w.alloc (.cells #[.int .u8 40, .int .i64 n, str s, .slice (some ⟨kb, ko, none⟩) 2 c] 24)) u3 := Fb.trans (Fb.trans hxx2 (Fb.of_ext ((Ext.refl _).alloc _) hb2.le)) hx3
 obtain ⟨g0, g1, g2, g3⟩ := (hbx0.fb hxx3 (by omega) (by decide)).node
 have ht3 := ht0.fb hxx3 hB
 have hs3 := hs0.fb hxx3
 obtain ⟨ka3, kc3, m0, m1, m2, m3, m4, m5, m6, hk3⟩ := kid1 hs3
 simp only
 go_wp2_with fail
 refine (HY.out B b _ _ ka3 kc3 hb3 ht3 hB hk3 (by (try simp at hlen ⊢) <;> omega)).mono ?_
 rintro e u4 ⟨rfl, hb4, hx4⟩
 have hxx4 : Fb B b (w.alloc (.cells #[.int .u8 40, .int .i64 n, str s, .slice (some ⟨kb, ko, none⟩) 2 c] 24)) u4 := Fb.trans hxx3 hx4
 obtain ⟨g0, g1, g2, g3⟩ := (hbx0.fb hxx4 (by omega) (by decide)).node
 have ht4 := ht0.fb hxx4 hB
 have hs4 := hs0.fb hxx4
 simp only
 go_wp2_with fail
 go_end0
 exact ⟨rfl, by simpa using hb4, hxW.trans hxx4⟩
set_option maxHeartbeats 2000000 in
set_option maxRecDepth 100000 in
theorem stmt_41 (n : Int) (s : List UInt8) (x y : Nd) (hx : Prints 29 Nd.text x) (hy : Prints 29 Nd.text y) : PrintsD 66 Nd.stmtT (.mk 41 n s [x, y]) := by
 intro B b t w a c d h ht hB hs hd hlen
 have htx : (Nd.mk 41 n s [x, y]).stmtT d = kword 41 ++ x.text ++ [32] ++ updSign 41 ++ [32] ++ y.text := by rw [Nd.stmtT.eq_def]; simp [kword]
 rw [htx] at hlen ⊢
 clear htx
 have hle := h.le
 have hlt := h.lt
 simp only [Nd.kind, Nd.num, Nd.name, Nd.kids, Nd.val, Nd.sits, Nd.size, rowSize, List.length_cons, List.length_nil] at hs hd ⊢
 obtain ⟨kb, ko, rfl⟩ : ∃ kb ko, a = some ⟨kb, ko, none⟩ := by
  obtain ⟨b0, o0, _, _, he, _⟩ := rowSits_get hs (i := 0) rfl
  exact ⟨b0, o0, he⟩
 have HX := Lib.hid hx; clear hx
 have HY := Lib.hid hy; clear hy
 have hbx0 : Box w.heap.size #[.int .u8 41, .int .i64 n, str s, .slice (some ⟨kb, ko, none⟩) 2 c] 24 (w.alloc (.cells #[.int .u8 41, .int .i64 n, str s, .slice (some ⟨kb, ko, none⟩) 2 c] 24)) := Box.new _ _ _
 have hxW : Fb B b w (w.alloc (.cells #[.int .u8 41, .int .i64 n, str s, .slice (some ⟨kb, ko, none⟩) 2 c] 24)) := Fb.of_ext ((Ext.refl _).alloc _) hle
 have hb0 : Bld B b t (w.alloc (.cells #[.int .u8 41, .int .i64 n, str s, .slice (some ⟨kb, ko, none⟩) 2 c] 24)) := h.alloc _
 have ht0 := ht.fb hxW hB
 have hs0 := hs.fb hxW
 go_enter Tryz.func66, Tryz.ntmps66
 go_wp2_with fail
 refine (word_c _ _ (by omega) (by omega)).mono ?_
 rintro e w1 ⟨rfl, rfl⟩
 simp only
 go_wp2_with fail
 refine (write_c B b (w.heap.size + 1) 1 _ [kword 41] _ (hb0.alloc _) (Box.new' _ _ (by simp)) (by simp) (by (try simp at hlen ⊢) <;> omega)).mono ?_
 rintro e u1 ⟨rfl, hb1, hx1⟩
 have hxx1 : Fb B b (w.alloc (.cells #[.int .u8 41, .int .i64 n, str s, .slice (some ⟨kb, ko, none⟩) 2 c] 24)) u1 := Fb.trans (Fb.of_ext ((Ext.refl _).alloc _) hb0.le) hx1
 obtain ⟨g0, g1, g2, g3⟩ := (hbx0.fb hxx1 (by omega) (by decide)).node
 have ht1 := ht0.fb hxx1 hB
 have hs1 := hs0.fb hxx1
 obtain ⟨ka1, kc1, m0, m1, m2, m3, hk1⟩ := kid0 hs1
 simp only
 go_wp2_with fail
 refine (HX.out B b _ _ ka1 kc1 hb1 ht1 hB hk1 (by (try simp at hlen ⊢) <;> omega)).mono ?_
 rintro e u2 ⟨rfl, hb2, hx2⟩
 have hxx2 : Fb B b (w.alloc (.cells #[.int .u8 41, .int .i64 n, str s, .slice (some ⟨kb, ko, none⟩) 2 c] 24)) u2 := Fb.trans hxx1 hx2
 obtain ⟨g0, g1, g2, g3⟩ := (hbx0.fb hxx2 (by omega) (by decide)).node
 have ht2 := ht0.fb hxx2 hB
 have hs2 := hs0.fb hxx2
 simp only
 go_wp2_with fail
 refine (updater_c _ _ (by omega) (by omega) ht2).mono ?_
 rintro e w1 ⟨rfl, rfl⟩
 simp only
 go_wp2_with fail
 refine (write_c B b u2.heap.size 3 _ [[32], updSign 41, [32]] _ (hb2.alloc _) (Box.new' _ _ (by simp)) (by simp) (by (try simp at hlen ⊢) <;> omega)).mono ?_
 rintro e u3 ⟨rfl, hb3, hx3⟩
 have hxx3 : Fb B b (w.alloc (.cells #[.int .u8 41, .int .i64 n, str s, .slice (some ⟨kb, ko, none⟩) 2 c] 24)) u3 := Fb.trans (Fb.trans hxx2 (Fb.of_ext ((Ext.refl _).alloc _) hb2.le)) hx3
 obtain ⟨g0, g1, g2, g3⟩ := (hbx0.fb hxx3 (by omega) (by decide)).node
 have ht3 := ht0.fb hxx3 hB
 have hs3 := hs0.fb hxx3
 obtain ⟨ka3, kc3, m0, m1, m2, m3, m4, m5, m6, hk3⟩ := kid1 hs3
 simp only
 go_wp2_with fail
 refine (HY.out B b _ _ ka3 kc3 hb3 ht3 hB hk3 (by (try simp at hlen ⊢) <;> omega)).mono ?_
 rintro e u4 ⟨rfl, hb4, hx4⟩
 have hxx4 : Fb B b (w.alloc (.cells #[.int .u8 41, .int .i64 n, str s, .slice (some ⟨kb, ko, none⟩) 2 c] 24)) u4 := Fb.trans hxx3 hx4
 obtain ⟨g0, g1, g2, g3⟩ := (hbx0.fb hxx4 (by omega) (by decide)).node
 have ht4 := ht0.fb hxx4 hB
 have hs4 := hs0.fb hxx4
 simp only
 go_wp2_with fail
 go_end0
 exact ⟨rfl, by simpa using hb4, hxW.trans hxx4⟩
set_option maxHeartbeats 2000000 in
set_option maxRecDepth 100000 in
theorem stmt_42 (n : Int) (s : List UInt8) (x y : Nd) (hx : Prints 29 Nd.text x) (hy : Prints 29 Nd.text y) : PrintsD 66 Nd.stmtT (.mk 42 n s [x, y]) := by
 intro B b t w a c d h ht hB hs hd hlen
 have htx : (Nd.mk 42 n s [x, y]).stmtT d = kword 42 ++ x.text ++ [32] ++ updSign 42 ++ [32] ++ y.text := by rw [Nd.stmtT.eq_def]; simp [kword]
 rw [htx] at hlen ⊢
 clear htx
 have hle := h.le
 have hlt := h.lt
 simp only [Nd.kind, Nd.num, Nd.name, Nd.kids, Nd.val, Nd.sits, Nd.size, rowSize, List.length_cons, List.length_nil] at hs hd ⊢
 obtain ⟨kb, ko, rfl⟩ : ∃ kb ko, a = some ⟨kb, ko, none⟩ := by
  obtain ⟨b0, o0, _, _, he, _⟩ := rowSits_get hs (i := 0) rfl
  exact ⟨b0, o0, he⟩
 have HX := Lib.hid hx; clear hx
 have HY := Lib.hid hy; clear hy
 have hbx0 : Box w.heap.size #[.int .u8 42, .int .i64 n, str s, .slice (some ⟨kb, ko, none⟩) 2 c] 24 (w.alloc (.cells #[.int .u8 42, .int .i64 n, str s, .slice (some ⟨kb, ko, none⟩) 2 c] 24)) := Box.new _ _ _
 have hxW : Fb B b w (w.alloc (.cells #[.int .u8 42, .int .i64 n, str s, .slice (some ⟨kb, ko, none⟩) 2 c] 24)) := Fb.of_ext ((Ext.refl _).alloc _) hle
 have hb0 : Bld B b t (w.alloc (.cells #[.int .u8 42, .int .i64 n, str s, .slice (some ⟨kb, ko, none⟩) 2 c] 24)) := h.alloc _
 have ht0 := ht.fb hxW hB
 have hs0 := hs.fb hxW
 go_enter Tryz.func66, Tryz.ntmps66
 go_wp2_with fail
 refine (word_c _ _ (by omega) (by omega)).mono ?_
 rintro e w1 ⟨rfl, rfl⟩
 simp only
 go_wp2_with fail
 refine (write_c B b (w.heap.size + 1) 1 _ [kword 42] _ (hb0.alloc _) (Box.new' _ _ (by simp)) (by simp) (by (try simp at hlen ⊢) <;> omega)).mono ?_
 rintro e u1 ⟨rfl, hb1, hx1⟩
 have hxx1 : Fb B b (w.alloc (.cells #[.int .u8 42, .int .i64 n, str s, .slice (some ⟨kb, ko, none⟩) 2 c] 24)) u1 := Fb.trans (Fb.of_ext ((Ext.refl _).alloc _) hb0.le) hx1
 obtain ⟨g0, g1, g2, g3⟩ := (hbx0.fb hxx1 (by omega) (by decide)).node
 have ht1 := ht0.fb hxx1 hB
 have hs1 := hs0.fb hxx1
 obtain ⟨ka1, kc1, m0, m1, m2, m3, hk1⟩ := kid0 hs1
 simp only
 go_wp2_with fail
 refine (HX.out B b _ _ ka1 kc1 hb1 ht1 hB hk1 (by (try simp at hlen ⊢) <;> omega)).mono ?_
 rintro e u2 ⟨rfl, hb2, hx2⟩
 have hxx2 : Fb B b (w.alloc (.cells #[.int .u8 42, .int .i64 n, str s, .slice (some ⟨kb, ko, none⟩) 2 c] 24)) u2 := Fb.trans hxx1 hx2
 obtain ⟨g0, g1, g2, g3⟩ := (hbx0.fb hxx2 (by omega) (by decide)).node
 have ht2 := ht0.fb hxx2 hB
 have hs2 := hs0.fb hxx2
 simp only
 go_wp2_with fail
 refine (updater_c _ _ (by omega) (by omega) ht2).mono ?_
 rintro e w1 ⟨rfl, rfl⟩
 simp only
 go_wp2_with fail
 refine (write_c B b u2.heap.size 3 _ [[32], updSign 42, [32]] _ (hb2.alloc _) (Box.new' _ _ (by simp)) (by simp) (by (try simp at hlen ⊢) <;> omega)).mono ?_
 rintro e u3 ⟨rfl, hb3, hx3⟩
 have hxx3 : Fb B b (w.alloc (.cells #[.int .u8 42, .int .i64 n, str s, .slice (some ⟨kb, ko, none⟩) 2 c] 24)) u3 := Fb.trans (Fb.trans hxx2 (Fb.of_ext ((Ext.refl _).alloc _) hb2.le)) hx3
 obtain ⟨g0, g1, g2, g3⟩ := (hbx0.fb hxx3 (by omega) (by decide)).node
 have ht3 := ht0.fb hxx3 hB
 have hs3 := hs0.fb hxx3
 obtain ⟨ka3, kc3, m0, m1, m2, m3, m4, m5, m6, hk3⟩ := kid1 hs3
 simp only
 go_wp2_with fail
 refine (HY.out B b _ _ ka3 kc3 hb3 ht3 hB hk3 (by (try simp at hlen ⊢) <;> omega)).mono ?_
 rintro e u4 ⟨rfl, hb4, hx4⟩
 have hxx4 : Fb B b (w.alloc (.cells #[.int .u8 42, .int .i64 n, str s, .slice (some ⟨kb, ko, none⟩) 2 c] 24)) u4 := Fb.trans hxx3 hx4
 obtain ⟨g0, g1, g2, g3⟩ := (hbx0.fb hxx4 (by omega) (by decide)).node
 have ht4 := ht0.fb hxx4 hB
 have hs4 := hs0.fb hxx4
 simp only
 go_wp2_with fail
 go_end0
 exact ⟨rfl, by simpa using hb4, hxW.trans hxx4⟩
set_option maxHeartbeats 2000000 in
set_option maxRecDepth 100000 in
theorem stmt_56 (n : Int) (s : List UInt8) (x y : Nd) (hx : Prints 29 Nd.text x) (hy : Prints 29 Nd.text y) : PrintsD 66 Nd.stmtT (.mk 56 n s [x, y]) := by
 intro B b t w a c d h ht hB hs hd hlen
 have htx : (Nd.mk 56 n s [x, y]).stmtT d = kword 56 ++ x.text ++ [32] ++ updSign 56 ++ [32] ++ y.text := by rw [Nd.stmtT.eq_def]; simp [kword]
 rw [htx] at hlen ⊢
 clear htx
 have hle := h.le
 have hlt := h.lt
 simp only [Nd.kind, Nd.num, Nd.name, Nd.kids, Nd.val, Nd.sits, Nd.size, rowSize, List.length_cons, List.length_nil] at hs hd ⊢
 obtain ⟨kb, ko, rfl⟩ : ∃ kb ko, a = some ⟨kb, ko, none⟩ := by
  obtain ⟨b0, o0, _, _, he, _⟩ := rowSits_get hs (i := 0) rfl
  exact ⟨b0, o0, he⟩
 have HX := Lib.hid hx; clear hx
 have HY := Lib.hid hy; clear hy
 have hbx0 : Box w.heap.size #[.int .u8 56, .int .i64 n, str s, .slice (some ⟨kb, ko, none⟩) 2 c] 24 (w.alloc (.cells #[.int .u8 56, .int .i64 n, str s, .slice (some ⟨kb, ko, none⟩) 2 c] 24)) := Box.new _ _ _
 have hxW : Fb B b w (w.alloc (.cells #[.int .u8 56, .int .i64 n, str s, .slice (some ⟨kb, ko, none⟩) 2 c] 24)) := Fb.of_ext ((Ext.refl _).alloc _) hle
 have hb0 : Bld B b t (w.alloc (.cells #[.int .u8 56, .int .i64 n, str s, .slice (some ⟨kb, ko, none⟩) 2 c] 24)) := h.alloc _
 have ht0 := ht.fb hxW hB
 have hs0 := hs.fb hxW
 go_enter Tryz.func66, Tryz.ntmps66
 go_wp2_with fail
 refine (word_c _ _ (by omega) (by omega)).mono ?_
 rintro e w1 ⟨rfl, rfl⟩
 simp only
 go_wp2_with fail
 refine (write_c B b (w.heap.size + 1) 1 _ [kword 56] _ (hb0.alloc _) (Box.new' _ _ (by simp)) (by simp) (by (try simp at hlen ⊢) <;> omega)).mono ?_
 rintro e u1 ⟨rfl, hb1, hx1⟩
 have hxx1 : Fb B b (w.alloc (.cells #[.int .u8 56, .int .i64 n, str s, .slice (some ⟨kb, ko, none⟩) 2 c] 24)) u1 := Fb.trans (Fb.of_ext ((Ext.refl _).alloc _) hb0.le) hx1
 obtain ⟨g0, g1, g2, g3⟩ := (hbx0.fb hxx1 (by omega) (by decide)).node
 have ht1 := ht0.fb hxx1 hB
 have hs1 := hs0.fb hxx1
 obtain ⟨ka1, kc1, m0, m1, m2, m3, hk1⟩ := kid0 hs1
 simp only
 go_wp2_with fail
 refine (HX.out B b _ _ ka1 kc1 hb1 ht1 hB hk1 (by (try simp at hlen ⊢) <;> omega)).mono ?_
 rintro e u2 ⟨rfl, hb2, hx2⟩
 have hxx2 : Fb B b (w.alloc (.cells #[.int .u8 56, .int .i64 n, str s, .slice (some ⟨kb, ko, none⟩) 2 c] 24)) u2 := Fb.trans hxx1 hx2
 obtain ⟨g0, g1, g2, g3⟩ := (hbx0.fb hxx2 (by omega) (by decide)).node
 have ht2 := ht0.fb hxx2 hB
 have hs2 := hs0.fb hxx2
 simp only
 go_wp2_with fail
 refine (updater_c _ _ (by omega) (by omega) ht2).mono ?_
 rintro e w1 ⟨rfl, rfl⟩
 simp only
 go_wp2_with fail
 refine (write_c B b u2.heap.size 3 _ [[32], updSign 56, [32]] _ (hb2.alloc _) (Box.new' _ _ (by simp)) (by simp) (by (try simp at hlen ⊢) <;> omega)).mono ?_
 rintro e u3 ⟨rfl, hb3, hx3⟩
 have hxx3 : Fb B b (w.alloc (.cells #[.int .u8 56, .int .i64 n, str s, .slice (some ⟨kb, ko, none⟩) 2 c] 24)) u3 := Fb.trans (Fb.trans hxx2 (Fb.of_ext ((Ext.refl _).alloc _) hb2.le)) hx3
 obtain ⟨g0, g1, g2, g3⟩ := (hbx0.fb hxx3 (by omega) (by decide)).node
 have ht3 := ht0.fb hxx3 hB
 have hs3 := hs0.fb hxx3
 obtain ⟨ka3, kc3, m0, m1, m2, m3, m4, m5, m6, hk3⟩ := kid1 hs3
 simp only
 go_wp2_with fail
 refine (HY.out B b _ _ ka3 kc3 hb3 ht3 hB hk3 (by (try simp at hlen ⊢) <;> omega)).mono ?_
 rintro e u4 ⟨rfl, hb4, hx4⟩
 have hxx4 : Fb B b (w.alloc (.cells #[.int .u8 56, .int .i64 n, str s, .slice (some ⟨kb, ko, none⟩) 2 c] 24)) u4 := Fb.trans hxx3 hx4
 obtain ⟨g0, g1, g2, g3⟩ := (hbx0.fb hxx4 (by omega) (by decide)).node
 have ht4 := ht0.fb hxx4 hB
 have hs4 := hs0.fb hxx4
 simp only
 go_wp2_with fail
 go_end0
 exact ⟨rfl, by simpa using hb4, hxW.trans hxx4⟩
set_option maxHeartbeats 2000000 in
set_option maxRecDepth 100000 in
theorem stmt_43 (n : Int) (s : List UInt8) (x y : Nd) (hx : Prints 29 Nd.text x) (hy : Prints 29 Nd.text y) : PrintsD 66 Nd.stmtT (.mk 43 n s [x, y]) := by
 intro B b t w a c d h ht hB hs hd hlen
 have htx : (Nd.mk 43 n s [x, y]).stmtT d = kword 43 ++ x.text ++ [32] ++ updSign 43 ++ [32] ++ y.text := by rw [Nd.stmtT.eq_def]; simp [kword]
 rw [htx] at hlen ⊢
 clear htx
 have hle := h.le
 have hlt := h.lt
 simp only [Nd.kind, Nd.num, Nd.name, Nd.kids, Nd.val, Nd.sits, Nd.size, rowSize, List.length_cons, List.length_nil] at hs hd ⊢
 obtain ⟨kb, ko, rfl⟩ : ∃ kb ko, a = some ⟨kb, ko, none⟩ := by
  obtain ⟨b0, o0, _, _, he, _⟩ := rowSits_get hs (i := 0) rfl
  exact ⟨b0, o0, he⟩
 have HX := Lib.hid hx; clear hx
 have HY := Lib.hid hy; clear hy
 have hbx0 : Box w.heap.size #[.int .u8 43, .int .i64 n, str s, .slice (some ⟨kb, ko, none⟩) 2 c] 24 (w.alloc (.cells #[.int .u8 43, .int .i64 n, str s, .slice (some ⟨kb, ko, none⟩) 2 c] 24)) := Box.new _ _ _
 have hxW : Fb B b w (w.alloc (.cells #[.int .u8 43, .int .i64 n, str s, .slice (some ⟨kb, ko, none⟩) 2 c] 24)) := Fb.of_ext ((Ext.refl _).alloc _) hle
 have hb0 : Bld B b t (w.alloc (.cells #[.int .u8 43, .int .i64 n, str s, .slice (some ⟨kb, ko, none⟩) 2 c] 24)) := h.alloc _
 have ht0 := ht.fb hxW hB
 have hs0 := hs.fb hxW
 go_enter Tryz.func66, Tryz.ntmps66
 go_wp2_with fail
 refine (word_c _ _ (by omega) (by omega)).mono ?_
 rintro e w1 ⟨rfl, rfl⟩
 simp only
 go_wp2_with fail
 refine (write_c B b (w.heap.size + 1) 1 _ [kword 43] _ (hb0.alloc _) (Box.new' _ _ (by simp)) (by simp) (by (try simp at hlen ⊢) <;> omega)).mono ?_
 rintro e u1 ⟨rfl, hb1, hx1⟩
 have hxx1 : Fb B b (w.alloc (.cells #[.int .u8 43, .int .i64 n, str s, .slice (some ⟨kb, ko, none⟩) 2 c] 24)) u1 := Fb.trans (Fb.of_ext ((Ext.refl _).alloc _) hb0.le) hx1
 obtain ⟨g0, g1, g2, g3⟩ := (hbx0.fb hxx1 (by omega) (by decide)).node
 have ht1 := ht0.fb hxx1 hB
 have hs1 := hs0.fb hxx1
 obtain ⟨ka1, kc1, m0, m1, m2, m3, hk1⟩ := kid0 hs1
 simp only
 go_wp2_with fail
 refine (HX.out B b _ _ ka1 kc1 hb1 ht1 hB hk1 (by (try simp at hlen ⊢) <;> omega)).mono ?_
 rintro e u2 ⟨rfl, hb2, hx2⟩
 have hxx2 : Fb B b (w.alloc (.cells #[.int .u8 43, .int .i64 n, str s, .slice (some ⟨kb, ko, none⟩) 2 c] 24)) u2 := Fb.trans hxx1 hx2
 obtain ⟨g0, g1, g2, g3⟩ := (hbx0.fb hxx2 (by omega) (by decide)).node
 have ht2 := ht0.fb hxx2 hB
 have hs2 := hs0.fb hxx2
 simp only
 go_wp2_with fail
 refine (updater_c _ _ (by omega) (by omega) ht2).mono ?_
 rintro e w1 ⟨rfl, rfl⟩
 simp only
 go_wp2_with fail
 refine (write_c B b u2.heap.size 3 _ [[32], updSign 43, [32]] _ (hb2.alloc _) (Box.new' _ _ (by simp)) (by simp) (by (try simp at hlen ⊢) <;> omega)).mono ?_
 rintro e u3 ⟨rfl, hb3, hx3⟩
 have hxx3 : Fb B b (w.alloc (.cells #[.int .u8 43, .int .i64 n, str s, .slice (some ⟨kb, ko, none⟩) 2 c] 24)) u3 := Fb.trans (Fb.trans hxx2 (Fb.of_ext ((Ext.refl _).alloc _) hb2.le)) hx3
 obtain ⟨g0, g1, g2, g3⟩ := (hbx0.fb hxx3 (by omega) (by decide)).node
 have ht3 := ht0.fb hxx3 hB
 have hs3 := hs0.fb hxx3
 obtain ⟨ka3, kc3, m0, m1, m2, m3, m4, m5, m6, hk3⟩ := kid1 hs3
 simp only
 go_wp2_with fail
 refine (HY.out B b _ _ ka3 kc3 hb3 ht3 hB hk3 (by (try simp at hlen ⊢) <;> omega)).mono ?_
 rintro e u4 ⟨rfl, hb4, hx4⟩
 have hxx4 : Fb B b (w.alloc (.cells #[.int .u8 43, .int .i64 n, str s, .slice (some ⟨kb, ko, none⟩) 2 c] 24)) u4 := Fb.trans hxx3 hx4
 obtain ⟨g0, g1, g2, g3⟩ := (hbx0.fb hxx4 (by omega) (by decide)).node
 have ht4 := ht0.fb hxx4 hB
 have hs4 := hs0.fb hxx4
 simp only
 go_wp2_with fail
 go_end0
 exact ⟨rfl, by simpa using hb4, hxW.trans hxx4⟩
set_option maxHeartbeats 2000000 in
set_option maxRecDepth 100000 in
theorem stmt_44 (n : Int) (s : List UInt8) (x : Nd) (hx : Prints 29 Nd.text x) : PrintsD 66 Nd.stmtT (.mk 44 n s [x]) := by
 intro B b t w a c d h ht hB hs hd hlen
 have htx : (Nd.mk 44 n s [x]).stmtT d = kword 44 ++ x.text ++ [44, 32] ++ s := by rw [Nd.stmtT.eq_def]; simp
 rw [htx] at hlen ⊢
 clear htx
 have hle := h.le
 have hlt := h.lt
 simp only [Nd.kind, Nd.num, Nd.name, Nd.kids, Nd.val, Nd.sits, Nd.size, rowSize, List.length_cons, List.length_nil] at hs hd ⊢
 obtain ⟨kb, ko, rfl⟩ : ∃ kb ko, a = some ⟨kb, ko, none⟩ := by
  obtain ⟨b0, o0, _, _, he, _⟩ := rowSits_get hs (i := 0) rfl
  exact ⟨b0, o0, he⟩
 have HX := Lib.hid hx; clear hx
 have hbx0 : Box w.heap.size #[.int .u8 44, .int .i64 n, str s, .slice (some ⟨kb, ko, none⟩) 1 c] 24 (w.alloc (.cells #[.int .u8 44, .int .i64 n, str s, .slice (some ⟨kb, ko, none⟩) 1 c] 24)) := Box.new _ _ _
 have hxW : Fb B b w (w.alloc (.cells #[.int .u8 44, .int .i64 n, str s, .slice (some ⟨kb, ko, none⟩) 1 c] 24)) := Fb.of_ext ((Ext.refl _).alloc _) hle
 have hb0 : Bld B b t (w.alloc (.cells #[.int .u8 44, .int .i64 n, str s, .slice (some ⟨kb, ko, none⟩) 1 c] 24)) := h.alloc _
 have ht0 := ht.fb hxW hB
 have hs0 := hs.fb hxW
 go_enter Tryz.func66, Tryz.ntmps66
 go_wp2_with fail
 refine (word_c _ _ (by omega) (by omega)).mono ?_
 rintro e w1 ⟨rfl, rfl⟩
 simp only
 go_wp2_with fail
 refine (write_c B b (w.heap.size + 1) 1 _ [kword 44] _ (hb0.alloc _) (Box.new' _ _ (by simp)) (by simp) (by (try simp at hlen ⊢) <;> omega)).mono ?_
 rintro e u1 ⟨rfl, hb1, hx1⟩
 have hxx1 : Fb B b (w.alloc (.cells #[.int .u8 44, .int .i64 n, str s, .slice (some ⟨kb, ko, none⟩) 1 c] 24)) u1 := Fb.trans (Fb.of_ext ((Ext.refl _).alloc _) hb0.le) hx1
 obtain ⟨g0, g1, g2, g3⟩ := (hbx0.fb hxx1 (by omega) (by decide)).node
 have ht1 := ht0.fb hxx1 hB
 have hs1 := hs0.fb hxx1
 obtain ⟨ka1, kc1, m0, m1, m2, m3, hk1⟩ := kid0 hs1
 simp only
 go_wp2_with fail
 refine (HX.out B b _ _ ka1 kc1 hb1 ht1 hB hk1 (by (try simp at hlen ⊢) <;> omega)).mono ?_
 rintro e u2 ⟨rfl, hb2, hx2⟩
 have hxx2 : Fb B b (w.alloc (.cells #[.int .u8 44, .int .i64 n, str s, .slice (some ⟨kb, ko, none⟩) 1 c] 24)) u2 := Fb.trans hxx1 hx2
 obtain ⟨g0, g1, g2, g3⟩ := (hbx0.fb hxx2 (by omega) (by decide)).node
 have ht2 := ht0.fb hxx2 hB
 have hs2 := hs0.fb hxx2
 simp only
 go_wp2_with fail
 refine (write_c B b u2.heap.size 2 _ [[44, 32], s] _ (hb2.alloc _) (Box.new' _ _ (by simp)) (by simp) (by (try simp at hlen ⊢) <;> omega)).mono ?_
 rintro e u3 ⟨rfl, hb3, hx3⟩
 have hxx3 : Fb B b (w.alloc (.cells #[.int .u8 44, .int .i64 n, str s, .slice (some ⟨kb, ko, none⟩) 1 c] 24)) u3 := Fb.trans (Fb.trans hxx2 (Fb.of_ext ((Ext.refl _).alloc _) hb2.le)) hx3
 obtain ⟨g0, g1, g2, g3⟩ := (hbx0.fb hxx3 (by omega) (by decide)).node
 have ht3 := ht0.fb hxx3 hB
 have hs3 := hs0.fb hxx3
 simp only
 go_wp2_with fail
 go_end0
 exact ⟨rfl, by simpa using hb3, hxW.trans hxx3⟩
set_option maxHeartbeats 2000000 in
set_option maxRecDepth 100000 in
theorem stmt_45 (n : Int) (s : List UInt8) (x : Nd) (hx : Prints 29 Nd.text x) : PrintsD 66 Nd.stmtT (.mk 45 n s [x]) := by
 intro B b t w a c d h ht hB hs hd hlen
 have htx : (Nd.mk 45 n s [x]).stmtT d = kword 45 ++ x.text ++ [44, 32] ++ s := by rw [Nd.stmtT.eq_def]; simp
 rw [htx] at hlen ⊢
 clear htx
 have hle := h.le
 have hlt := h.lt
 simp only [Nd.kind, Nd.num, Nd.name, Nd.kids, Nd.val, Nd.sits, Nd.size, rowSize, List.length_cons, List.length_nil] at hs hd ⊢
 obtain ⟨kb, ko, rfl⟩ : ∃ kb ko, a = some ⟨kb, ko, none⟩ := by
  obtain ⟨b0, o0, _, _, he, _⟩ := rowSits_get hs (i := 0) rfl
  exact ⟨b0, o0, he⟩
 have HX := Lib.hid hx; clear hx
 have hbx0 : Box w.heap.size #[.int .u8 45, .int .i64 n, str s, .slice (some ⟨kb, ko, none⟩) 1 c] 24 (w.alloc (.cells #[.int .u8 45, .int .i64 n, str s, .slice (some ⟨kb, ko, none⟩) 1 c] 24)) := Box.new _ _ _
 have hxW : Fb B b w (w.alloc (.cells #[.int .u8 45, .int .i64 n, str s, .slice (some ⟨kb, ko, none⟩) 1 c] 24)) := Fb.of_ext ((Ext.refl _).alloc _) hle
 have hb0 : Bld B b t (w.alloc (.cells #[.int .u8 45, .int .i64 n, str s, .slice (some ⟨kb, ko, none⟩) 1 c] 24)) := h.alloc _
 have ht0 := ht.fb hxW hB
 have hs0 := hs.fb hxW
 go_enter Tryz.func66, Tryz.ntmps66
 go_wp2_with fail
 refine (word_c _ _ (by omega) (by omega)).mono ?_
 rintro e w1 ⟨rfl, rfl⟩
 simp only
 go_wp2_with fail
 refine (write_c B b (w.heap.size + 1) 1 _ [kword 45] _ (hb0.alloc _) (Box.new' _ _ (by simp)) (by simp) (by (try simp at hlen ⊢) <;> omega)).mono ?_
 rintro e u1 ⟨rfl, hb1, hx1⟩
 have hxx1 : Fb B b (w.alloc (.cells #[.int .u8 45, .int .i64 n, str s, .slice (some ⟨kb, ko, none⟩) 1 c] 24)) u1 := Fb.trans (Fb.of_ext ((Ext.refl _).alloc _) hb0.le) hx1
 obtain ⟨g0, g1, g2, g3⟩ := (hbx0.fb hxx1 (by omega) (by decide)).node
 have ht1 := ht0.fb hxx1 hB
 have hs1 := hs0.fb hxx1
 obtain ⟨ka1, kc1, m0, m1, m2, m3, hk1⟩ := kid0 hs1
 simp only
 go_wp2_with fail
 refine (HX.out B b _ _ ka1 kc1 hb1 ht1 hB hk1 (by (try simp at hlen ⊢) <;> omega)).mono ?_
 rintro e u2 ⟨rfl, hb2, hx2⟩
 have hxx2 : Fb B b (w.alloc (.cells #[.int .u8 45, .int .i64 n, str s, .slice (some ⟨kb, ko, none⟩) 1 c] 24)) u2 := Fb.trans hxx1 hx2
 obtain ⟨g0, g1, g2, g3⟩ := (hbx0.fb hxx2 (by omega) (by decide)).node
 have ht2 := ht0.fb hxx2 hB
 have hs2 := hs0.fb hxx2
 simp only
 go_wp2_with fail
 refine (write_c B b u2.heap.size 2 _ [[44, 32], s] _ (hb2.alloc _) (Box.new' _ _ (by simp)) (by simp) (by (try simp at hlen ⊢) <;> omega)).mono ?_
 rintro e u3 ⟨rfl, hb3, hx3⟩
 have hxx3 : Fb B b (w.alloc (.cells #[.int .u8 45, .int .i64 n, str s, .slice (some ⟨kb, ko, none⟩) 1 c] 24)) u3 := Fb.trans (Fb.trans hxx2 (Fb.of_ext ((Ext.refl _).alloc _) hb2.le)) hx3
 obtain ⟨g0, g1, g2, g3⟩ := (hbx0.fb hxx3 (by omega) (by decide)).node
 have ht3 := ht0.fb hxx3 hB
 have hs3 := hs0.fb hxx3
 simp only
 go_wp2_with fail
 go_end0
 exact ⟨rfl, by simpa using hb3, hxW.trans hxx3⟩
set_option maxHeartbeats 2000000 in
set_option maxRecDepth 100000 in
theorem stmt_46 (n : Int) (s : List UInt8) (x : Nd) (hx : Prints 29 Nd.text x) : PrintsD 66 Nd.stmtT (.mk 46 n s [x]) := by
 intro B b t w a c d h ht hB hs hd hlen
 have htx : (Nd.mk 46 n s [x]).stmtT d = kword 46 ++ x.text := by rw [Nd.stmtT.eq_def]; simp
 rw [htx] at hlen ⊢
 clear htx
 have hle := h.le
 have hlt := h.lt
 simp only [Nd.kind, Nd.num, Nd.name, Nd.kids, Nd.val, Nd.sits, Nd.size, rowSize, List.length_cons, List.length_nil] at hs hd ⊢
 obtain ⟨kb, ko, rfl⟩ : ∃ kb ko, a = some ⟨kb, ko, none⟩ := by
  obtain ⟨b0, o0, _, _, he, _⟩ := rowSits_get hs (i := 0) rfl
  exact ⟨b0, o0, he⟩
 have HX := Lib.hid hx; clear hx
 have hbx0 : Box w.heap.size #[.int .u8 46, .int .i64 n, str s, .slice (some ⟨kb, ko, none⟩) 1 c] 24 (w.alloc (.cells #[.int .u8 46, .int .i64 n, str s, .slice (some ⟨kb, ko, none⟩) 1 c] 24)) := Box.new _ _ _
 have hxW : Fb B b w (w.alloc (.cells #[.int .u8 46, .int .i64 n, str s, .slice (some ⟨kb, ko, none⟩) 1 c] 24)) := Fb.of_ext ((Ext.refl _).alloc _) hle
 have hb0 : Bld B b t (w.alloc (.cells #[.int .u8 46, .int .i64 n, str s, .slice (some ⟨kb, ko, none⟩) 1 c] 24)) := h.alloc _
 have ht0 := ht.fb hxW hB
 have hs0 := hs.fb hxW
 go_enter Tryz.func66, Tryz.ntmps66
 go_wp2_with fail
 refine (word_c _ _ (by omega) (by omega)).mono ?_
 rintro e w1 ⟨rfl, rfl⟩
 simp only
 go_wp2_with fail
 refine (write_c B b (w.heap.size + 1) 1 _ [kword 46] _ (hb0.alloc _) (Box.new' _ _ (by simp)) (by simp) (by (try simp at hlen ⊢) <;> omega)).mono ?_
 rintro e u1 ⟨rfl, hb1, hx1⟩
 have hxx1 : Fb B b (w.alloc (.cells #[.int .u8 46, .int .i64 n, str s, .slice (some ⟨kb, ko, none⟩) 1 c] 24)) u1 := Fb.trans (Fb.of_ext ((Ext.refl _).alloc _) hb0.le) hx1
 obtain ⟨g0, g1, g2, g3⟩ := (hbx0.fb hxx1 (by omega) (by decide)).node
 have ht1 := ht0.fb hxx1 hB
 have hs1 := hs0.fb hxx1
 obtain ⟨ka1, kc1, m0, m1, m2, m3, hk1⟩ := kid0 hs1
 simp only
 go_wp2_with fail
 refine (HX.out B b _ _ ka1 kc1 hb1 ht1 hB hk1 (by (try simp at hlen ⊢) <;> omega)).mono ?_
 rintro e u2 ⟨rfl, hb2, hx2⟩
 have hxx2 : Fb B b (w.alloc (.cells #[.int .u8 46, .int .i64 n, str s, .slice (some ⟨kb, ko, none⟩) 1 c] 24)) u2 := Fb.trans hxx1 hx2
 obtain ⟨g0, g1, g2, g3⟩ := (hbx0.fb hxx2 (by omega) (by decide)).node
 have ht2 := ht0.fb hxx2 hB
 have hs2 := hs0.fb hxx2
 simp only
 go_wp2_with fail
 go_end0
 exact ⟨rfl, by simpa using hb2, hxW.trans hxx2⟩
set_option maxHeartbeats 2000000 in
set_option maxRecDepth 100000 in
theorem stmt_47 (n : Int) (s : List UInt8) (x : Nd) (hx : Prints 29 Nd.text x) : PrintsD 66 Nd.stmtT (.mk 47 n s [x]) := by
 intro B b t w a c d h ht hB hs hd hlen
 have htx : (Nd.mk 47 n s [x]).stmtT d = kword 47 ++ x.text := by rw [Nd.stmtT.eq_def]; simp
 rw [htx] at hlen ⊢
 clear htx
 have hle := h.le
 have hlt := h.lt
 simp only [Nd.kind, Nd.num, Nd.name, Nd.kids, Nd.val, Nd.sits, Nd.size, rowSize, List.length_cons, List.length_nil] at hs hd ⊢
 obtain ⟨kb, ko, rfl⟩ : ∃ kb ko, a = some ⟨kb, ko, none⟩ := by
  obtain ⟨b0, o0, _, _, he, _⟩ := rowSits_get hs (i := 0) rfl
  exact ⟨b0, o0, he⟩
 have HX := Lib.hid hx; clear hx
 have hbx0 : Box w.heap.size #[.int .u8 47, .int .i64 n, str s, .slice (some ⟨kb, ko, none⟩) 1 c] 24 (w.alloc (.cells #[.int .u8 47, .int .i64 n, str s, .slice (some ⟨kb, ko, none⟩) 1 c] 24)) := Box.new _ _ _
 have hxW : Fb B b w (w.alloc (.cells #[.int .u8 47, .int .i64 n, str s, .slice (some ⟨kb, ko, none⟩) 1 c] 24)) := Fb.of_ext ((Ext.refl _).alloc _) hle
 have hb0 : Bld B b t (w.alloc (.cells #[.int .u8 47, .int .i64 n, str s, .slice (some ⟨kb, ko, none⟩) 1 c] 24)) := h.alloc _
 have ht0 := ht.fb hxW hB
 have hs0 := hs.fb hxW
 go_enter Tryz.func66, Tryz.ntmps66
 go_wp2_with fail
 refine (word_c _ _ (by omega) (by omega)).mono ?_
 rintro e w1 ⟨rfl, rfl⟩
 simp only
 go_wp2_with fail
 refine (write_c B b (w.heap.size + 1) 1 _ [kword 47] _ (hb0.alloc _) (Box.new' _ _ (by simp)) (by simp) (by (try simp at hlen ⊢) <;> omega)).mono ?_
 rintro e u1 ⟨rfl, hb1, hx1⟩
 have hxx1 : Fb B b (w.alloc (.cells #[.int .u8 47, .int .i64 n, str s, .slice (some ⟨kb, ko, none⟩) 1 c] 24)) u1 := Fb.trans (Fb.of_ext ((Ext.refl _).alloc _) hb0.le) hx1
 obtain ⟨g0, g1, g2, g3⟩ := (hbx0.fb hxx1 (by omega) (by decide)).node
 have ht1 := ht0.fb hxx1 hB
 have hs1 := hs0.fb hxx1
 obtain ⟨ka1, kc1, m0, m1, m2, m3, hk1⟩ := kid0 hs1
 simp only
 go_wp2_with fail
 refine (HX.out B b _ _ ka1 kc1 hb1 ht1 hB hk1 (by (try simp at hlen ⊢) <;> omega)).mono ?_
 rintro e u2 ⟨rfl, hb2, hx2⟩
 have hxx2 : Fb B b (w.alloc (.cells #[.int .u8 47, .int .i64 n, str s, .slice (some ⟨kb, ko, none⟩) 1 c] 24)) u2 := Fb.trans hxx1 hx2
 obtain ⟨g0, g1, g2, g3⟩ := (hbx0.fb hxx2 (by omega) (by decide)).node
 have ht2 := ht0.fb hxx2 hB
 have hs2 := hs0.fb hxx2
 simp only
 go_wp2_with fail
 go_end0
 exact ⟨rfl, by simpa using hb2, hxW.trans hxx2⟩
set_option maxHeartbeats 2000000 in
set_option maxRecDepth 100000 in
theorem stmt_48 (n : Int) (s : List UInt8) (x : Nd) (hx : Prints 29 Nd.text x) : PrintsD 66 Nd.stmtT (.mk 48 n s [x]) := by
 intro B b t w a c d h ht hB hs hd hlen
 have htx : (Nd.mk 48 n s [x]).stmtT d = kword 48 ++ x.text := by rw [Nd.stmtT.eq_def]; simp
 rw [htx] at hlen ⊢
 clear htx
 have hle := h.le
 have hlt := h.lt
 simp only [Nd.kind, Nd.num, Nd.name, Nd.kids, Nd.val, Nd.sits, Nd.size, rowSize, List.length_cons, List.length_nil] at hs hd ⊢
 obtain ⟨kb, ko, rfl⟩ : ∃ kb ko, a = some ⟨kb, ko, none⟩ := by
  obtain ⟨b0, o0, _, _, he, _⟩ := rowSits_get hs (i := 0) rfl
  exact ⟨b0, o0, he⟩
 have HX := Lib.hid hx; clear hx
 have hbx0 : Box w.heap.size #[.int .u8 48, .int .i64 n, str s, .slice (some ⟨kb, ko, none⟩) 1 c] 24 (w.alloc (.cells #[.int .u8 48, .int .i64 n, str s, .slice (some ⟨kb, ko, none⟩) 1 c] 24)) := Box.new _ _ _
 have hxW : Fb B b w (w.alloc (.cells #[.int .u8 48, .int .i64 n, str s, .slice (some ⟨kb, ko, none⟩) 1 c] 24)) := Fb.of_ext ((Ext.refl _).alloc _) hle
 have hb0 : Bld B b t (w.alloc (.cells #[.int .u8 48, .int .i64 n, str s, .slice (some ⟨kb, ko, none⟩) 1 c] 24)) := h.alloc _
 have ht0 := ht.fb hxW hB
 have hs0 := hs.fb hxW
 go_enter Tryz.func66, Tryz.ntmps66
 go_wp2_with fail
 refine (word_c _ _ (by omega) (by omega)).mono ?_
 rintro e w1 ⟨rfl, rfl⟩
 simp only
 go_wp2_with fail
 refine (write_c B b (w.heap.size + 1) 1 _ [kword 48] _ (hb0.alloc _) (Box.new' _ _ (by simp)) (by simp) (by (try simp at hlen ⊢) <;> omega)).mono ?_
 rintro e u1 ⟨rfl, hb1, hx1⟩
 have hxx1 : Fb B b (w.alloc (.cells #[.int .u8 48, .int .i64 n, str s, .slice (some ⟨kb, ko, none⟩) 1 c] 24)) u1 := Fb.trans (Fb.of_ext ((Ext.refl _).alloc _) hb0.le) hx1
 obtain ⟨g0, g1, g2, g3⟩ := (hbx0.fb hxx1 (by omega) (by decide)).node
 have ht1 := ht0.fb hxx1 hB
 have hs1 := hs0.fb hxx1
 obtain ⟨ka1, kc1, m0, m1, m2, m3, hk1⟩ := kid0 hs1
 simp only
 go_wp2_with fail
 refine (HX.out B b _ _ ka1 kc1 hb1 ht1 hB hk1 (by (try simp at hlen ⊢) <;> omega)).mono ?_
 rintro e u2 ⟨rfl, hb2, hx2⟩
 have hxx2 : Fb B b (w.alloc (.cells #[.int .u8 48, .int .i64 n, str s, .slice (some ⟨kb, ko, none⟩) 1 c] 24)) u2 := Fb.trans hxx1 hx2
 obtain ⟨g0, g1, g2, g3⟩ := (hbx0.fb hxx2 (by omega) (by decide)).node
 have ht2 := ht0.fb hxx2 hB
 have hs2 := hs0.fb hxx2
 simp only
 go_wp2_with fail
 go_end0
 exact ⟨rfl, by simpa using hb2, hxW.trans hxx2⟩
set_option maxHeartbeats 2000000 in
set_option maxRecDepth 100000 in
theorem stmt_49 (n : Int) (s : List UInt8) (x : Nd) (hx : Prints 29 Nd.text x) : PrintsD 66 Nd.stmtT (.mk 49 n s [x]) := by
 intro B b t w a c d h ht hB hs hd hlen
 have htx : (Nd.mk 49 n s [x]).stmtT d = kword 49 ++ x.text := by rw [Nd.stmtT.eq_def]; simp
 rw [htx] at hlen ⊢
 clear htx
 have hle := h.le
 have hlt := h.lt
 simp only [Nd.kind, Nd.num, Nd.name, Nd.kids, Nd.val, Nd.sits, Nd.size, rowSize, List.length_cons, List.length_nil] at hs hd ⊢
 obtain ⟨kb, ko, rfl⟩ : ∃ kb ko, a = some ⟨kb, ko, none⟩ := by
  obtain ⟨b0, o0, _, _, he, _⟩ := rowSits_get hs (i := 0) rfl
  exact ⟨b0, o0, he⟩
 have HX := Lib.hid hx; clear hx
 have hbx0 : Box w.heap.size #[.int .u8 49, .int .i64 n, str s, .slice (some ⟨kb, ko, none⟩) 1 c] 24 (w.alloc (.cells #[.int .u8 49, .int .i64 n, str s, .slice (some ⟨kb, ko, none⟩) 1 c] 24)) := Box.new _ _ _
 have hxW : Fb B b w (w.alloc (.cells #[.int .u8 49, .int .i64 n, str s, .slice (some ⟨kb, ko, none⟩) 1 c] 24)) := Fb.of_ext ((Ext.refl _).alloc _) hle
 have hb0 : Bld B b t (w.alloc (.cells #[.int .u8 49, .int .i64 n, str s, .slice (some ⟨kb, ko, none⟩) 1 c] 24)) := h.alloc _
 have ht0 := ht.fb hxW hB
 have hs0 := hs.fb hxW
 go_enter Tryz.func66, Tryz.ntmps66
 go_wp2_with fail
 refine (word_c _ _ (by omega) (by omega)).mono ?_
 rintro e w1 ⟨rfl, rfl⟩
 simp only
 go_wp2_with fail
 refine (write_c B b (w.heap.size + 1) 1 _ [kword 49] _ (hb0.alloc _) (Box.new' _ _ (by simp)) (by simp) (by (try simp at hlen ⊢) <;> omega)).mono ?_
 rintro e u1 ⟨rfl, hb1, hx1⟩
 have hxx1 : Fb B b (w.alloc (.cells #[.int .u8 49, .int .i64 n, str s, .slice (some ⟨kb, ko, none⟩) 1 c] 24)) u1 := Fb.trans (Fb.of_ext ((Ext.refl _).alloc _) hb0.le) hx1
 obtain ⟨g0, g1, g2, g3⟩ := (hbx0.fb hxx1 (by omega) (by decide)).node
 have ht1 := ht0.fb hxx1 hB
 have hs1 := hs0.fb hxx1
 obtain ⟨ka1, kc1, m0, m1, m2, m3, hk1⟩ := kid0 hs1
 simp only
 go_wp2_with fail
 refine (HX.out B b _ _ ka1 kc1 hb1 ht1 hB hk1 (by (try simp at hlen ⊢) <;> omega)).mono ?_
 rintro e u2 ⟨rfl, hb2, hx2⟩
 have hxx2 : Fb B b (w.alloc (.cells #[.int .u8 49, .int .i64 n, str s, .slice (some ⟨kb, ko, none⟩) 1 c] 24)) u2 := Fb.trans hxx1 hx2
 obtain ⟨g0, g1, g2, g3⟩ := (hbx0.fb hxx2 (by omega) (by decide)).node
 have ht2 := ht0.fb hxx2 hB
 have hs2 := hs0.fb hxx2
 simp only
 go_wp2_with fail
 go_end0
 exact ⟨rfl, by simpa using hb2, hxW.trans hxx2⟩
set_option maxHeartbeats 2000000 in
set_option maxRecDepth 100000 in
theorem branches_c (k n : Int) (s : List UInt8) (x y z u : Nd) (hx : Prints 29 Nd.text x) (hy : PrintsD 38 Nd.linesT y) (hz : PrintsD 38 Nd.linesT z) (hu : Prints 29 Nd.text u) (mid lst : List UInt8) (B b : Nat) (t : List UInt8) (w : World) (a : Option Addr) (c d : Nat)
 (h : Bld B b t w) (ht : Tabs w) (hB : Tryz.prog.globals.size ≤ B) (hs : rowSits (· < B) w [x, y, z, u] a) (hd : d + (1 + rowSize [x, y, z, u]) ≤ 1000000) (hlen : (t ++ (x.text ++ bracesT y d ++ mid ++ bracesT z d ++ lst ++ u.text)).length ≤ 140737488355328) :
 Calls Tryz.prog 90 #[.pointer (some ⟨b, 0, none⟩), .agg #[.int .u8 k, .int .i64 n, str s, .slice a 4 c], .int .i64 d, str mid, str lst] w fun e w' => e = .returned (.tuple #[]) ∧ Bld B b (t ++ (x.text ++ bracesT y d ++ mid ++ bracesT z d ++ lst ++ u.text)) w' ∧ Fb B b w w' := by
 have hle := h.le
 have hlt := h.lt
 simp only [rowSize] at hd
 obtain ⟨kb, ko, rfl⟩ : ∃ kb ko, a = some ⟨kb, ko, none⟩ := by
  obtain ⟨b0, o0, _, _, he, _⟩ := rowSits_get hs (i := 0) rfl
  exact ⟨b0, o0, he⟩
 have HX := Lib.hid hx; clear hx
 have HY := Lib.hid hy; clear hy
 have HZ := Lib.hid hz; clear hz
 have HU := Lib.hid hu; clear hu
 have hbx0 : Box w.heap.size #[.int .u8 k, .int .i64 n, str s, .slice (some ⟨kb, ko, none⟩) 4 c] 24 (w.alloc (.cells #[.int .u8 k, .int .i64 n, str s, .slice (some ⟨kb, ko, none⟩) 4 c] 24)) := Box.new _ _ _
 have hxW : Fb B b w (w.alloc (.cells #[.int .u8 k, .int .i64 n, str s, .slice (some ⟨kb, ko, none⟩) 4 c] 24)) := Fb.of_ext ((Ext.refl _).alloc _) hle
 have hb0 : Bld B b t (w.alloc (.cells #[.int .u8 k, .int .i64 n, str s, .slice (some ⟨kb, ko, none⟩) 4 c] 24)) := h.alloc _
 have ht0 := ht.fb hxW hB
 have hs0 := hs.fb hxW
 have hxx0 := Fb.refl B b (w.alloc (.cells #[.int .u8 k, .int .i64 n, str s, .slice (some ⟨kb, ko, none⟩) 4 c] 24))
 obtain ⟨ka0, kc0, m0, m1, m2, m3, hk0⟩ := kid0 hs0
 have hkw : kb < w.heap.size := by
  have := cell_lt m0
  have h2 := (rowSits_get hs (i := 0) rfl)
  obtain ⟨_, _, _, _, he, h3, h4, _⟩ := h2
  simp only [Option.some.injEq, Addr.mk.injEq] at he
  obtain ⟨rfl, rfl, -⟩ := he
  omega
 go_enter Tryz.func90, Tryz.ntmps90
 go_wp2_with fail
 refine (HX.out B b _ _ ka0 kc0 hb0 ht0 hB hk0 (by (try simp at hlen ⊢) <;> omega)).mono ?_
 rintro e u1 ⟨rfl, hb1, hx1⟩
 have hxx1 : Fb B b (w.alloc (.cells #[.int .u8 k, .int .i64 n, str s, .slice (some ⟨kb, ko, none⟩) 4 c] 24)) u1 := Fb.trans hxx0 hx1
 obtain ⟨g0, g1, g2, g3⟩ := (hbx0.fb hxx1 (by omega) (by decide)).node
 have ht1 := ht0.fb hxx1 hB
 have hs1 := hs0.fb hxx1
 obtain ⟨ka1, kc1, m0, m1, m2, m3, m4, m5, m6, hk1⟩ := kid1 hs1
 simp only
 go_wp2_with fail
 refine (braces_c _ HY.out B b _ _ ka1 kc1 d hb1 ht1 hB hk1 (by omega) (by (try simp at hlen ⊢) <;> omega)).mono ?_
 rintro e u2 ⟨rfl, hb2, hx2⟩
 have hxx2 : Fb B b (w.alloc (.cells #[.int .u8 k, .int .i64 n, str s, .slice (some ⟨kb, ko, none⟩) 4 c] 24)) u2 := Fb.trans hxx1 hx2
 obtain ⟨g0, g1, g2, g3⟩ := (hbx0.fb hxx2 (by omega) (by decide)).node
 have ht2 := ht0.fb hxx2 hB
 have hs2 := hs0.fb hxx2
 simp only
 go_wp2_with fail
 refine (write_c B b u2.heap.size 1 _ [mid] _ (hb2.alloc _) (Box.new' _ _ (by simp)) (by simp) (by (try simp at hlen ⊢) <;> omega)).mono ?_
 rintro e u3 ⟨rfl, hb3, hx3⟩
 have hxx3 : Fb B b (w.alloc (.cells #[.int .u8 k, .int .i64 n, str s, .slice (some ⟨kb, ko, none⟩) 4 c] 24)) u3 := Fb.trans (Fb.trans hxx2 (Fb.of_ext ((Ext.refl _).alloc _) hb2.le)) hx3
 obtain ⟨g0, g1, g2, g3⟩ := (hbx0.fb hxx3 (by omega) (by decide)).node
 have ht3 := ht0.fb hxx3 hB
 have hs3 := hs0.fb hxx3
 obtain ⟨ka3, kc3, m0, m1, m2, m3, m4, m5, m6, hk3⟩ := kid2 hs3
 simp only
 go_wp2_with fail
 refine (braces_c _ HZ.out B b _ _ ka3 kc3 d hb3 ht3 hB hk3 (by omega) (by (try simp at hlen ⊢) <;> omega)).mono ?_
 rintro e u4 ⟨rfl, hb4, hx4⟩
 have hxx4 : Fb B b (w.alloc (.cells #[.int .u8 k, .int .i64 n, str s, .slice (some ⟨kb, ko, none⟩) 4 c] 24)) u4 := Fb.trans hxx3 hx4
 obtain ⟨g0, g1, g2, g3⟩ := (hbx0.fb hxx4 (by omega) (by decide)).node
 have ht4 := ht0.fb hxx4 hB
 have hs4 := hs0.fb hxx4
 simp only
 go_wp2_with fail
 refine (write_c B b u4.heap.size 1 _ [lst] _ (hb4.alloc _) (Box.new' _ _ (by simp)) (by simp) (by (try simp at hlen ⊢) <;> omega)).mono ?_
 rintro e u5 ⟨rfl, hb5, hx5⟩
 have hxx5 : Fb B b (w.alloc (.cells #[.int .u8 k, .int .i64 n, str s, .slice (some ⟨kb, ko, none⟩) 4 c] 24)) u5 := Fb.trans (Fb.trans hxx4 (Fb.of_ext ((Ext.refl _).alloc _) hb4.le)) hx5
 obtain ⟨g0, g1, g2, g3⟩ := (hbx0.fb hxx5 (by omega) (by decide)).node
 have ht5 := ht0.fb hxx5 hB
 have hs5 := hs0.fb hxx5
 obtain ⟨ka5, kc5, m0, m1, m2, m3, m4, m5, m6, hk5⟩ := kid3 hs5
 simp only
 go_wp2_with fail
 refine (HU.out B b _ _ ka5 kc5 hb5 ht5 hB hk5 (by (try simp at hlen ⊢) <;> omega)).mono ?_
 rintro e u6 ⟨rfl, hb6, hx6⟩
 have hxx6 : Fb B b (w.alloc (.cells #[.int .u8 k, .int .i64 n, str s, .slice (some ⟨kb, ko, none⟩) 4 c] 24)) u6 := Fb.trans hxx5 hx6
 obtain ⟨g0, g1, g2, g3⟩ := (hbx0.fb hxx6 (by omega) (by decide)).node
 have ht6 := ht0.fb hxx6 hB
 have hs6 := hs0.fb hxx6
 simp only
 go_wp2_with fail
 go_end0
 exact ⟨rfl, by simpa using hb6, hxW.trans hxx6⟩
set_option maxHeartbeats 2000000 in
set_option maxRecDepth 100000 in
theorem stmt_52 (n : Int) (s : List UInt8) (x y z u : Nd) (hx : Prints 29 Nd.text x) (hy : PrintsD 38 Nd.linesT y) (hz : PrintsD 38 Nd.linesT z) (hu : Prints 29 Nd.text u) : PrintsD 66 Nd.stmtT (.mk 52 n s [x, y, z, u]) := by
 intro B b t w a c d h ht hB hs hd hlen
 have htx : (Nd.mk 52 n s [x, y, z, u]).stmtT d = kword 52 ++ x.text ++ bracesT y d ++ [32, 101, 108, 115, 101] ++ bracesT z d ++ [32, 102, 105, 32] ++ u.text := by rw [Nd.stmtT.eq_def]; simp [bracesT]
 rw [htx] at hlen ⊢
 clear htx
 have hle := h.le
 have hlt := h.lt
 simp only [Nd.kind, Nd.num, Nd.name, Nd.kids, Nd.val, Nd.sits, Nd.size, rowSize, List.length_cons, List.length_nil] at hs hd ⊢
 obtain ⟨kb, ko, rfl⟩ : ∃ kb ko, a = some ⟨kb, ko, none⟩ := by
  obtain ⟨b0, o0, _, _, he, _⟩ := rowSits_get hs (i := 0) rfl
  exact ⟨b0, o0, he⟩
 have HX := Lib.hid hx; clear hx
 have HY := Lib.hid hy; clear hy
 have HZ := Lib.hid hz; clear hz
 have HU := Lib.hid hu; clear hu
 have hbx0 : Box w.heap.size #[.int .u8 52, .int .i64 n, str s, .slice (some ⟨kb, ko, none⟩) 4 c] 24 (w.alloc (.cells #[.int .u8 52, .int .i64 n, str s, .slice (some ⟨kb, ko, none⟩) 4 c] 24)) := Box.new _ _ _
 have hxW : Fb B b w (w.alloc (.cells #[.int .u8 52, .int .i64 n, str s, .slice (some ⟨kb, ko, none⟩) 4 c] 24)) := Fb.of_ext ((Ext.refl _).alloc _) hle
 have hb0 : Bld B b t (w.alloc (.cells #[.int .u8 52, .int .i64 n, str s, .slice (some ⟨kb, ko, none⟩) 4 c] 24)) := h.alloc _
 have ht0 := ht.fb hxW hB
 have hs0 := hs.fb hxW
 go_enter Tryz.func66, Tryz.ntmps66
 go_wp2_with fail
 refine (word_c _ _ (by omega) (by omega)).mono ?_
 rintro e w1 ⟨rfl, rfl⟩
 simp only
 go_wp2_with fail
 refine (write_c B b (w.heap.size + 1) 1 _ [kword 52] _ (hb0.alloc _) (Box.new' _ _ (by simp)) (by simp) (by (try simp at hlen ⊢) <;> omega)).mono ?_
 rintro e u1 ⟨rfl, hb1, hx1⟩
 have hxx1 : Fb B b (w.alloc (.cells #[.int .u8 52, .int .i64 n, str s, .slice (some ⟨kb, ko, none⟩) 4 c] 24)) u1 := Fb.trans (Fb.of_ext ((Ext.refl _).alloc _) hb0.le) hx1
 obtain ⟨g0, g1, g2, g3⟩ := (hbx0.fb hxx1 (by omega) (by decide)).node
 have ht1 := ht0.fb hxx1 hB
 have hs1 := hs0.fb hxx1
 simp only
 go_wp2_with fail
 refine (branches_c _ _ _ x y z u HX.out HY.out HZ.out HU.out [32, 101, 108, 115, 101] [32, 102, 105, 32] B b _ _ _ c d hb1 ht1 hB hs1 (by simp only [rowSize]; omega) (by (try simp at hlen ⊢) <;> omega)).mono ?_
 rintro e u2 ⟨rfl, hb2, hx2⟩
 have hxx2 : Fb B b (w.alloc (.cells #[.int .u8 52, .int .i64 n, str s, .slice (some ⟨kb, ko, none⟩) 4 c] 24)) u2 := Fb.trans hxx1 hx2
 obtain ⟨g0, g1, g2, g3⟩ := (hbx0.fb hxx2 (by omega) (by decide)).node
 have ht2 := ht0.fb hxx2 hB
 have hs2 := hs0.fb hxx2
 simp only
 go_wp2_with fail
 go_end0
 exact ⟨rfl, by simpa using hb2, hxW.trans hxx2⟩
set_option maxHeartbeats 2000000 in
set_option maxRecDepth 100000 in
theorem stmt_53 (n : Int) (s : List UInt8) (x y z u : Nd) (hx : Prints 29 Nd.text x) (hy : PrintsD 38 Nd.linesT y) (hz : PrintsD 38 Nd.linesT z) (hu : Prints 29 Nd.text u) : PrintsD 66 Nd.stmtT (.mk 53 n s [x, y, z, u]) := by
 intro B b t w a c d h ht hB hs hd hlen
 have htx : (Nd.mk 53 n s [x, y, z, u]).stmtT d = kword 53 ++ x.text ++ bracesT y d ++ [32, 108, 111, 111, 112] ++ bracesT z d ++ [32, 117, 110, 116, 105, 108, 32] ++ u.text := by rw [Nd.stmtT.eq_def]; simp [bracesT]
 rw [htx] at hlen ⊢
 clear htx
 have hle := h.le
 have hlt := h.lt
 simp only [Nd.kind, Nd.num, Nd.name, Nd.kids, Nd.val, Nd.sits, Nd.size, rowSize, List.length_cons, List.length_nil] at hs hd ⊢
 obtain ⟨kb, ko, rfl⟩ : ∃ kb ko, a = some ⟨kb, ko, none⟩ := by
  obtain ⟨b0, o0, _, _, he, _⟩ := rowSits_get hs (i := 0) rfl
  exact ⟨b0, o0, he⟩
 have HX := Lib.hid hx; clear hx
 have HY := Lib.hid hy; clear hy
 have HZ := Lib.hid hz; clear hz
 have HU := Lib.hid hu; clear hu
 have hbx0 : Box w.heap.size #[.int .u8 53, .int .i64 n, str s, .slice (some ⟨kb, ko, none⟩) 4 c] 24 (w.alloc (.cells #[.int .u8 53, .int .i64 n, str s, .slice (some ⟨kb, ko, none⟩) 4 c] 24)) := Box.new _ _ _
 have hxW : Fb B b w (w.alloc (.cells #[.int .u8 53, .int .i64 n, str s, .slice (some ⟨kb, ko, none⟩) 4 c] 24)) := Fb.of_ext ((Ext.refl _).alloc _) hle
 have hb0 : Bld B b t (w.alloc (.cells #[.int .u8 53, .int .i64 n, str s, .slice (some ⟨kb, ko, none⟩) 4 c] 24)) := h.alloc _
 have ht0 := ht.fb hxW hB
 have hs0 := hs.fb hxW
 go_enter Tryz.func66, Tryz.ntmps66
 go_wp2_with fail
 refine (word_c _ _ (by omega) (by omega)).mono ?_
 rintro e w1 ⟨rfl, rfl⟩
 simp only
 go_wp2_with fail
 refine (write_c B b (w.heap.size + 1) 1 _ [kword 53] _ (hb0.alloc _) (Box.new' _ _ (by simp)) (by simp) (by (try simp at hlen ⊢) <;> omega)).mono ?_
 rintro e u1 ⟨rfl, hb1, hx1⟩
 have hxx1 : Fb B b (w.alloc (.cells #[.int .u8 53, .int .i64 n, str s, .slice (some ⟨kb, ko, none⟩) 4 c] 24)) u1 := Fb.trans (Fb.of_ext ((Ext.refl _).alloc _) hb0.le) hx1
 obtain ⟨g0, g1, g2, g3⟩ := (hbx0.fb hxx1 (by omega) (by decide)).node
 have ht1 := ht0.fb hxx1 hB
 have hs1 := hs0.fb hxx1
 simp only
 go_wp2_with fail
 refine (branches_c _ _ _ x y z u HX.out HY.out HZ.out HU.out [32, 108, 111, 111, 112] [32, 117, 110, 116, 105, 108, 32] B b _ _ _ c d hb1 ht1 hB hs1 (by simp only [rowSize]; omega) (by (try simp at hlen ⊢) <;> omega)).mono ?_
 rintro e u2 ⟨rfl, hb2, hx2⟩
 have hxx2 : Fb B b (w.alloc (.cells #[.int .u8 53, .int .i64 n, str s, .slice (some ⟨kb, ko, none⟩) 4 c] 24)) u2 := Fb.trans hxx1 hx2
 obtain ⟨g0, g1, g2, g3⟩ := (hbx0.fb hxx2 (by omega) (by decide)).node
 have ht2 := ht0.fb hxx2 hB
 have hs2 := hs0.fb hxx2
 simp only
 go_wp2_with fail
 go_end0
 exact ⟨rfl, by simpa using hb2, hxW.trans hxx2⟩
set_option maxHeartbeats 2000000 in
set_option maxRecDepth 100000 in
theorem stmt_54 (n : Int) (s : List UInt8) (x y z : Nd) (hx : Prints 29 Nd.text x) (hy : PrintsD 38 Nd.linesT y) (hz : Prints 29 Nd.text z) : PrintsD 66 Nd.stmtT (.mk 54 n s [x, y, z]) := by
 intro B b t w a c d h ht hB hs hd hlen
 have htx : (Nd.mk 54 n s [x, y, z]).stmtT d = kword 54 ++ s ++ [32, 61, 32] ++ x.text ++ bracesT y d ++ [32, 100, 101, 108, 111, 99, 97, 108, 32] ++ z.text := by rw [Nd.stmtT.eq_def]; simp [bracesT]
 rw [htx] at hlen ⊢
 clear htx
 have hle := h.le
 have hlt := h.lt
 simp only [Nd.kind, Nd.num, Nd.name, Nd.kids, Nd.val, Nd.sits, Nd.size, rowSize, List.length_cons, List.length_nil] at hs hd ⊢
 obtain ⟨kb, ko, rfl⟩ : ∃ kb ko, a = some ⟨kb, ko, none⟩ := by
  obtain ⟨b0, o0, _, _, he, _⟩ := rowSits_get hs (i := 0) rfl
  exact ⟨b0, o0, he⟩
 have HX := Lib.hid hx; clear hx
 have HY := Lib.hid hy; clear hy
 have HZ := Lib.hid hz; clear hz
 have hbx0 : Box w.heap.size #[.int .u8 54, .int .i64 n, str s, .slice (some ⟨kb, ko, none⟩) 3 c] 24 (w.alloc (.cells #[.int .u8 54, .int .i64 n, str s, .slice (some ⟨kb, ko, none⟩) 3 c] 24)) := Box.new _ _ _
 have hxW : Fb B b w (w.alloc (.cells #[.int .u8 54, .int .i64 n, str s, .slice (some ⟨kb, ko, none⟩) 3 c] 24)) := Fb.of_ext ((Ext.refl _).alloc _) hle
 have hb0 : Bld B b t (w.alloc (.cells #[.int .u8 54, .int .i64 n, str s, .slice (some ⟨kb, ko, none⟩) 3 c] 24)) := h.alloc _
 have ht0 := ht.fb hxW hB
 have hs0 := hs.fb hxW
 go_enter Tryz.func66, Tryz.ntmps66
 go_wp2_with fail
 refine (word_c _ _ (by omega) (by omega)).mono ?_
 rintro e w1 ⟨rfl, rfl⟩
 simp only
 go_wp2_with fail
 refine (write_c B b (w.heap.size + 1) 1 _ [kword 54] _ (hb0.alloc _) (Box.new' _ _ (by simp)) (by simp) (by (try simp at hlen ⊢) <;> omega)).mono ?_
 rintro e u1 ⟨rfl, hb1, hx1⟩
 have hxx1 : Fb B b (w.alloc (.cells #[.int .u8 54, .int .i64 n, str s, .slice (some ⟨kb, ko, none⟩) 3 c] 24)) u1 := Fb.trans (Fb.of_ext ((Ext.refl _).alloc _) hb0.le) hx1
 obtain ⟨g0, g1, g2, g3⟩ := (hbx0.fb hxx1 (by omega) (by decide)).node
 have ht1 := ht0.fb hxx1 hB
 have hs1 := hs0.fb hxx1
 simp only
 go_wp2_with fail
 refine (write_c B b u1.heap.size 2 _ [s, [32, 61, 32]] _ (hb1.alloc _) (Box.new' _ _ (by simp)) (by simp) (by (try simp at hlen ⊢) <;> omega)).mono ?_
 rintro e u2 ⟨rfl, hb2, hx2⟩
 have hxx2 : Fb B b (w.alloc (.cells #[.int .u8 54, .int .i64 n, str s, .slice (some ⟨kb, ko, none⟩) 3 c] 24)) u2 := Fb.trans (Fb.trans hxx1 (Fb.of_ext ((Ext.refl _).alloc _) hb1.le)) hx2
 obtain ⟨g0, g1, g2, g3⟩ := (hbx0.fb hxx2 (by omega) (by decide)).node
 have ht2 := ht0.fb hxx2 hB
 have hs2 := hs0.fb hxx2
 obtain ⟨ka2, kc2, m0, m1, m2, m3, hk2⟩ := kid0 hs2
 simp only
 go_wp2_with fail
 refine (HX.out B b _ _ ka2 kc2 hb2 ht2 hB hk2 (by (try simp at hlen ⊢) <;> omega)).mono ?_
 rintro e u3 ⟨rfl, hb3, hx3⟩
 have hxx3 : Fb B b (w.alloc (.cells #[.int .u8 54, .int .i64 n, str s, .slice (some ⟨kb, ko, none⟩) 3 c] 24)) u3 := Fb.trans hxx2 hx3
 obtain ⟨g0, g1, g2, g3⟩ := (hbx0.fb hxx3 (by omega) (by decide)).node
 have ht3 := ht0.fb hxx3 hB
 have hs3 := hs0.fb hxx3
 obtain ⟨ka3, kc3, m0, m1, m2, m3, m4, m5, m6, hk3⟩ := kid1 hs3
 simp only
 go_wp2_with fail
 refine (braces_c _ HY.out B b _ _ ka3 kc3 d hb3 ht3 hB hk3 (by omega) (by (try simp at hlen ⊢) <;> omega)).mono ?_
 rintro e u4 ⟨rfl, hb4, hx4⟩
 have hxx4 : Fb B b (w.alloc (.cells #[.int .u8 54, .int .i64 n, str s, .slice (some ⟨kb, ko, none⟩) 3 c] 24)) u4 := Fb.trans hxx3 hx4
 obtain ⟨g0, g1, g2, g3⟩ := (hbx0.fb hxx4 (by omega) (by decide)).node
 have ht4 := ht0.fb hxx4 hB
 have hs4 := hs0.fb hxx4
 simp only
 go_wp2_with fail
 refine (write_c B b u4.heap.size 1 _ [[32, 100, 101, 108, 111, 99, 97, 108, 32]] _ (hb4.alloc _) (Box.new' _ _ (by simp)) (by simp) (by (try simp at hlen ⊢) <;> omega)).mono ?_
 rintro e u5 ⟨rfl, hb5, hx5⟩
 have hxx5 : Fb B b (w.alloc (.cells #[.int .u8 54, .int .i64 n, str s, .slice (some ⟨kb, ko, none⟩) 3 c] 24)) u5 := Fb.trans (Fb.trans hxx4 (Fb.of_ext ((Ext.refl _).alloc _) hb4.le)) hx5
 obtain ⟨g0, g1, g2, g3⟩ := (hbx0.fb hxx5 (by omega) (by decide)).node
 have ht5 := ht0.fb hxx5 hB
 have hs5 := hs0.fb hxx5
 obtain ⟨ka5, kc5, m0, m1, m2, m3, m4, m5, m6, hk5⟩ := kid2 hs5
 simp only
 go_wp2_with fail
 refine (HZ.out B b _ _ ka5 kc5 hb5 ht5 hB hk5 (by (try simp at hlen ⊢) <;> omega)).mono ?_
 rintro e u6 ⟨rfl, hb6, hx6⟩
 have hxx6 : Fb B b (w.alloc (.cells #[.int .u8 54, .int .i64 n, str s, .slice (some ⟨kb, ko, none⟩) 3 c] 24)) u6 := Fb.trans hxx5 hx6
 obtain ⟨g0, g1, g2, g3⟩ := (hbx0.fb hxx6 (by omega) (by decide)).node
 have ht6 := ht0.fb hxx6 hB
 have hs6 := hs0.fb hxx6
 simp only
 go_wp2_with fail
 go_end0
 exact ⟨rfl, by simpa using hb6, hxW.trans hxx6⟩
set_option maxHeartbeats 2000000 in
set_option maxRecDepth 100000 in
theorem stmt_55 (n : Int) (s : List UInt8) (x : Nd) (hx : PrintsD 38 Nd.linesT x) : PrintsD 66 Nd.stmtT (.mk 55 n s [x]) := by
 intro B b t w a c d h ht hB hs hd hlen
 have htx : (Nd.mk 55 n s [x]).stmtT d = kword 55 ++ s ++ bracesT x d := by rw [Nd.stmtT.eq_def]; simp [bracesT]
 rw [htx] at hlen ⊢
 clear htx
 have hle := h.le
 have hlt := h.lt
 simp only [Nd.kind, Nd.num, Nd.name, Nd.kids, Nd.val, Nd.sits, Nd.size, rowSize, List.length_cons, List.length_nil] at hs hd ⊢
 obtain ⟨kb, ko, rfl⟩ : ∃ kb ko, a = some ⟨kb, ko, none⟩ := by
  obtain ⟨b0, o0, _, _, he, _⟩ := rowSits_get hs (i := 0) rfl
  exact ⟨b0, o0, he⟩
 have HX := Lib.hid hx; clear hx
 have hbx0 : Box w.heap.size #[.int .u8 55, .int .i64 n, str s, .slice (some ⟨kb, ko, none⟩) 1 c] 24 (w.alloc (.cells #[.int .u8 55, .int .i64 n, str s, .slice (some ⟨kb, ko, none⟩) 1 c] 24)) := Box.new _ _ _
 have hxW : Fb B b w (w.alloc (.cells #[.int .u8 55, .int .i64 n, str s, .slice (some ⟨kb, ko, none⟩) 1 c] 24)) := Fb.of_ext ((Ext.refl _).alloc _) hle
 have hb0 : Bld B b t (w.alloc (.cells #[.int .u8 55, .int .i64 n, str s, .slice (some ⟨kb, ko, none⟩) 1 c] 24)) := h.alloc _
 have ht0 := ht.fb hxW hB
 have hs0 := hs.fb hxW
 go_enter Tryz.func66, Tryz.ntmps66
 go_wp2_with fail
 refine (word_c _ _ (by omega) (by omega)).mono ?_
 rintro e w1 ⟨rfl, rfl⟩
 simp only
 go_wp2_with fail
 refine (write_c B b (w.heap.size + 1) 1 _ [kword 55] _ (hb0.alloc _) (Box.new' _ _ (by simp)) (by simp) (by (try simp at hlen ⊢) <;> omega)).mono ?_
 rintro e u1 ⟨rfl, hb1, hx1⟩
 have hxx1 : Fb B b (w.alloc (.cells #[.int .u8 55, .int .i64 n, str s, .slice (some ⟨kb, ko, none⟩) 1 c] 24)) u1 := Fb.trans (Fb.of_ext ((Ext.refl _).alloc _) hb0.le) hx1
 obtain ⟨g0, g1, g2, g3⟩ := (hbx0.fb hxx1 (by omega) (by decide)).node
 have ht1 := ht0.fb hxx1 hB
 have hs1 := hs0.fb hxx1
 simp only
 go_wp2_with fail
 refine (write_c B b u1.heap.size 1 _ [s] _ (hb1.alloc _) (Box.new' _ _ (by simp)) (by simp) (by (try simp at hlen ⊢) <;> omega)).mono ?_
 rintro e u2 ⟨rfl, hb2, hx2⟩
 have hxx2 : Fb B b (w.alloc (.cells #[.int .u8 55, .int .i64 n, str s, .slice (some ⟨kb, ko, none⟩) 1 c] 24)) u2 := Fb.trans (Fb.trans hxx1 (Fb.of_ext ((Ext.refl _).alloc _) hb1.le)) hx2
 obtain ⟨g0, g1, g2, g3⟩ := (hbx0.fb hxx2 (by omega) (by decide)).node
 have ht2 := ht0.fb hxx2 hB
 have hs2 := hs0.fb hxx2
 obtain ⟨ka2, kc2, m0, m1, m2, m3, hk2⟩ := kid0 hs2
 simp only
 go_wp2_with fail
 refine (braces_c _ HX.out B b _ _ ka2 kc2 d hb2 ht2 hB hk2 (by omega) (by (try simp at hlen ⊢) <;> omega)).mono ?_
 rintro e u3 ⟨rfl, hb3, hx3⟩
 have hxx3 : Fb B b (w.alloc (.cells #[.int .u8 55, .int .i64 n, str s, .slice (some ⟨kb, ko, none⟩) 1 c] 24)) u3 := Fb.trans hxx2 hx3
 obtain ⟨g0, g1, g2, g3⟩ := (hbx0.fb hxx3 (by omega) (by decide)).node
 have ht3 := ht0.fb hxx3 hB
 have hs3 := hs0.fb hxx3
 simp only
 go_wp2_with fail
 go_end0
 exact ⟨rfl, by simpa using hb3, hxW.trans hxx3⟩
end Bk
namespace Bk
open Go Go.RowKit Go.Proofs
theorem argsT_append (q : Bool) (l r : List Nd) : argsT q (l ++ r) = argsT q l ++ argsT (q && l.isEmpty) r := by
 induction l generalizing q with
 | nil => simp [argsT]
 | cons x l ih => simp [argsT, ih]
theorem argsT_snoc (l : List Nd) (j : Nat) (h : j < l.length) : argsT true (l.take (j + 1)) = argsT true (l.take j) ++ ((if j = 0 then [] else [44, 32]) ++ l[j].text) := by
 rw [List.take_succ_eq_append_getElem h, argsT_append]
 rcases j with _ | j
 · simp [argsT]
 · have : (l.take (j + 1)).isEmpty = false := by
    rw [List.isEmpty_eq_false_iff]; intro e
    have h1 : (l.take (j + 1)).length = j + 1 := by simp; omega
    rw [e] at h1; simp at h1
   rw [this]; simp [argsT]
theorem argsT_le (l : List Nd) (j : Nat) : (argsT true (l.take j)).length ≤ (argsT true l).length := by
 have e := argsT_append true (l.take j) (l.drop j)
 rw [List.take_append_drop] at e
 rw [e]; simp
theorem rowLines_append (l r : List Nd) (d : Nat) : rowLines (l ++ r) d = rowLines l d ++ rowLines r d := by
 induction l with
 | nil => simp [rowLines]
 | cons x l ih => simp [rowLines, ih]
theorem rowLines_snoc (l : List Nd) (j d : Nat) (h : j < l.length) : rowLines (l.take (j + 1)) d = rowLines (l.take j) d ++ (tabT d ++ l[j].stmtT d ++ [59, 10]) := by
 rw [List.take_succ_eq_append_getElem h, rowLines_append]; simp [rowLines]
theorem rowLines_le (l : List Nd) (j d : Nat) : (rowLines (l.take j) d).length ≤ (rowLines l d).length := by
 have e := rowLines_append (l.take j) (l.drop j) d
 rw [List.take_append_drop] at e
 rw [e]; simp
set_option maxHeartbeats 2000000 in
theorem block_c (k n : Int) (s : List UInt8) (l : List Nd) (hll : l.length ≤ 9223372036854775807) (hx : ∀ x ∈ l, PrintsD 66 Nd.stmtT x) : PrintsD 38 Nd.linesT (.mk k n s l) := by
 intro B b t w a c d h ht hB hs hd hlen
 have htx : (Nd.mk k n s l).linesT d = rowLines l d := by simp [Nd.linesT]
 rw [htx] at hlen ⊢
 clear htx
 have hle := h.le
 have hlt := h.lt
 simp only [Nd.kind, Nd.num, Nd.name, Nd.kids, Nd.val, Nd.sits, Nd.size] at hs hd ⊢
 have HX := Lib.hid hx; clear hx
 simp only [List.length_append] at hlen
 go_enter Tryz.func38, Tryz.ntmps38
 go_wp2_with fail
 go_loopw [11] (fun i wr => ∃ j : Nat, j ≤ l.length ∧ i = .int .i64 j ∧ Bld B b (t ++ rowLines (l.take j) d) wr ∧ Fb B b w wr) (fun i _ => l.length - (intOf i).toNat)
 case atStart => exact ⟨0, Nat.zero_le _, rfl, by simpa [rowLines] using h.alloc _, Fb.of_ext ((Ext.refl _).alloc _) hle⟩
 case round =>
  obtain ⟨j, hj, rfl, hb0, hxx0⟩ := hrel
  clear h
  by_cases hlj : j < l.length
  · have hg : l[j]? = some l[j] := List.getElem?_eq_getElem hlj
    have hmem : l[j] ∈ l := List.getElem_mem hlj
    have hsz := size_mem hmem
    have hsn := rowLines_snoc l j d hlj
    have hsl := rowLines_le l (j + 1) d
    obtain ⟨kb, ko, xa, xc, rfl, hkB, k0, k1, k2, k3, hxs⟩ := rowSits_get (hs.fb hxx0) hg
    have hP := HX.out l[j] hmem
    have HG := Lib.hid hg; clear hg
    generalize l[j] = x at *
    have HSN := Lib.hid hsn
    rw [hsn] at hsl
    clear hsn
    have HP := Lib.hid hP; clear hP
    simp only [List.length_append, List.length_cons, List.length_nil] at hsl
    have hb0l := hb0.le
    have hb0t := hb0.lt
    have hkw : kb < wr.heap.size := by omega
    have hbx0 : Box wr.heap.size #[.int .u8 x.kind, .int .i64 x.num, str x.name, .slice xa x.kids.length xc] 24 (wr.alloc (.cells #[.int .u8 x.kind, .int .i64 x.num, str x.name, .slice xa x.kids.length xc] 24)) := Box.new _ _ _
    have hxW : Fb B b wr (wr.alloc (.cells #[.int .u8 x.kind, .int .i64 x.num, str x.name, .slice xa x.kids.length xc] 24)) := Fb.of_ext ((Ext.refl _).alloc _) hb0l
    go_wp2_with fail
    refine (tabs_c B b _ d _ (hb0.alloc _) (by omega) (by simp only [tabT, List.length_replicate, List.length_append] at *; omega)).mono ?_
    rintro e u1 ⟨rfl, hb1, hx1⟩
    obtain ⟨g0, g1, g2, g3⟩ := (hbx0.fb hx1 (by omega) (by decide)).node
    have hxx1 : Fb B b w u1 := (hxx0.trans hxW).trans hx1
    have hxs1 := (hxs.fb hxW).fb hx1
    have ht1 := ht.fb hxx1 hB
    clear k0 k1 k2 k3
    simp only
    go_wp2_with fail
    refine (HP.out B b _ _ xa xc d hb1 ht1 hB hxs1 (by omega) (by simp only [tabT, List.length_replicate, List.length_append] at *; omega)).mono ?_
    rintro e u2 ⟨rfl, hb2, hx2⟩
    simp only
    go_wp2_with fail
    refine (write_c B b u2.heap.size 1 _ [[59, 10]] _ (hb2.alloc _) (Box.new' _ _ (by simp)) (by simp) (by simp only [tabT, List.length_replicate, List.length_append, List.flatten_cons, List.flatten_nil, List.length_cons, List.length_nil] at *; omega)).mono ?_
    rintro e u3 ⟨rfl, hb3, hx3⟩
    have hb4 : Bld B b (t ++ rowLines (l.take (j + 1)) d) u3 := by rw [HSN.out]; simpa [tabT] using hb3
    have hxx3 : Fb B b w u3 := (hxx1.trans hx2).trans (Fb.trans (Fb.of_ext ((Ext.refl _).alloc _) hb2.le) hx3)
    clear g0 g1 g2 g3 hb0 hb1 hb2 hb3 hsl
    simp only
    go_wp2_with fail
    go_roundw
    case rel => exact ⟨j + 1, by omega, by go_num, hb4, hxx3⟩
    case measure => simp [intOf]; omega
  · go_wp2_with fail
    go_end0
    rw [List.take_of_length_le (by omega)] at hb0
    exact ⟨rfl, hb0, hxx0⟩
set_option maxHeartbeats 4000000 in
set_option maxRecDepth 100000 in
theorem stmt_50 (n : Int) (s : List UInt8) (l : List Nd) (hll : l.length ≤ 9223372036854775807) (hx : ∀ x ∈ l, Prints 29 Nd.text x) : PrintsD 66 Nd.stmtT (.mk 50 n s l) := by
 intro B b t w a c d h ht hB hs hd hlen
 have htx : (Nd.mk 50 n s l).stmtT d = kword 50 ++ s ++ [40] ++ argsT true l ++ [41] := by rw [Nd.stmtT.eq_def]; simp
 rw [htx] at hlen ⊢
 clear htx
 have hle := h.le
 have hlt := h.lt
 simp only [Nd.kind, Nd.num, Nd.name, Nd.kids, Nd.val, Nd.sits, Nd.size] at hs hd ⊢
 have HX := Lib.hid hx; clear hx
 have hbx0 : Box w.heap.size #[.int .u8 50, .int .i64 n, str s, .slice a l.length c] 24 (w.alloc (.cells #[.int .u8 50, .int .i64 n, str s, .slice a l.length c] 24)) := Box.new _ _ _
 have hxW : Fb B b w (w.alloc (.cells #[.int .u8 50, .int .i64 n, str s, .slice a l.length c] 24)) := Fb.of_ext ((Ext.refl _).alloc _) hle
 have hb0 : Bld B b t (w.alloc (.cells #[.int .u8 50, .int .i64 n, str s, .slice a l.length c] 24)) := h.alloc _
 have ht0 := ht.fb hxW hB
 have hs0 := hs.fb hxW
 go_enter Tryz.func66, Tryz.ntmps66
 go_wp2_with fail
 refine (word_c _ _ (by omega) (by omega)).mono ?_
 rintro e w1 ⟨rfl, rfl⟩
 simp only
 go_wp2_with fail
 refine (write_c B b (w.heap.size + 1) 1 _ [kword 50] _ (hb0.alloc _) (Box.new' _ _ (by simp)) (by simp) (by simp only [List.length_append, List.flatten_cons, List.flatten_nil, List.length_cons, List.length_nil, List.length_replicate, bracesT, tabT] at hlen ⊢; omega)).mono ?_
 rintro e u1 ⟨rfl, hb1, hx1⟩
 have hxx1 : Fb B b (w.alloc (.cells #[.int .u8 50, .int .i64 n, str s, .slice a l.length c] 24)) u1 := Fb.trans (Fb.of_ext ((Ext.refl _).alloc _) hb0.le) hx1
 obtain ⟨g0, g1, g2, g3⟩ := (hbx0.fb hxx1 (by omega) (by decide)).node
 have ht1 := ht0.fb hxx1 hB
 have hs1 := hs0.fb hxx1
 simp only
 go_wp2_with fail
 refine (write_c B b u1.heap.size 2 _ [s, [40]] _ (hb1.alloc _) (Box.new' _ _ (by simp)) (by simp) (by simp only [List.length_append, List.flatten_cons, List.flatten_nil, List.length_cons, List.length_nil, List.length_replicate, bracesT, tabT] at hlen ⊢; omega)).mono ?_
 rintro e u2 ⟨rfl, hb2, hx2⟩
 have hxx2 : Fb B b (w.alloc (.cells #[.int .u8 50, .int .i64 n, str s, .slice a l.length c] 24)) u2 := Fb.trans (Fb.trans hxx1 (Fb.of_ext ((Ext.refl _).alloc _) hb1.le)) hx2
 obtain ⟨g0, g1, g2, g3⟩ := (hbx0.fb hxx2 (by omega) (by decide)).node
 have ht2 := ht0.fb hxx2 hB
 have hs2 := hs0.fb hxx2
 clear g0 g1 g2
 simp only
 go_wp2_with fail
 simp only [List.length_append, List.length_cons, List.length_nil] at hlen
 clear g3
 go_loopw [76] (fun i wr => ∃ j : Nat, j ≤ l.length ∧ i = .int .i64 j ∧ Bld B b (t ++ kword 50 ++ s ++ [40] ++ argsT true (l.take j)) wr ∧ Fb B b (w.alloc (.cells #[.int .u8 50, .int .i64 n, str s, .slice a l.length c] 24)) wr) (fun i _ => l.length - (intOf i).toNat)
 case atStart => exact ⟨0, Nat.zero_le _, rfl, by simpa [argsT] using hb2, hxx2⟩
 case round =>
  obtain ⟨j, hj, rfl, hb3, hxx3⟩ := hrel
  clear hb1 hx1 hxx1 hb2 hx2 hxx2 ht1 ht2 hs1 hs2
  by_cases hlj : j < l.length
  · have hg : l[j]? = some l[j] := List.getElem?_eq_getElem hlj
    have hmem : l[j] ∈ l := List.getElem_mem hlj
    have hsn := argsT_snoc l j hlj
    have hsl := argsT_le l (j + 1)
    obtain ⟨kb, ko, xa, xc, rfl, hkB, k0, k1, k2, k3, hxs⟩ := rowSits_get (hs0.fb hxx3) hg
    have hP := HX.out l[j] hmem
    have HG := Lib.hid hg; clear hg
    generalize l[j] = x at *
    have HSN := Lib.hid hsn
    rw [hsn] at hsl
    clear hsn
    have HP := Lib.hid hP; clear hP
    have hb3l := hb3.le
    have hb3t := hb3.lt
    have hkw : kb < wr.heap.size := by omega
    have hbx3 : Box wr.heap.size #[.int .u8 x.kind, .int .i64 x.num, str x.name, .slice xa x.kids.length xc] 24 (wr.alloc (.cells #[.int .u8 x.kind, .int .i64 x.num, str x.name, .slice xa x.kids.length xc] 24)) := Box.new _ _ _
    have hxV : Fb B b wr (wr.alloc (.cells #[.int .u8 x.kind, .int .i64 x.num, str x.name, .slice xa x.kids.length xc] 24)) := Fb.of_ext ((Ext.refl _).alloc _) hb3l
    by_cases hj0 : j = 0
    · have dj : decide (0 < j) = false := by simp; omega
      have hjz : j ≤ 0 := by omega
      simp only [if_pos hj0, List.nil_append, List.length_append] at hsl
      have HJ := Lib.hid hj0; clear hj0
      go_wp2_with fail
      refine (HP.out B b _ _ xa xc (hb3.alloc _) (ht0.fb (hxx3.trans hxV) hB) hB (hxs.fb hxV) (by simp only [List.length_append, List.length_cons, List.length_nil]; omega)).mono ?_
      rintro e u5 ⟨rfl, hb5, hx5⟩
      have hb6 : Bld B b (t ++ kword 50 ++ s ++ [40] ++ argsT true (l.take (j + 1))) u5 := by rw [HSN.out, if_pos HJ.out]; simpa using hb5
      have hxx6 := (hxx3.trans hxV).trans hx5
      clear k0 k1 k2 k3 hb3 hb5 hsl
      simp only
      go_wp2_with fail
      go_roundw
      case rel => exact ⟨j + 1, by omega, by go_num, hb6, hxx6⟩
      case measure => simp [intOf]; omega
    · have dj : decide ((0 : Int) < j) = true := by simp; omega
      simp only [if_neg hj0, List.length_append, List.length_cons, List.length_nil] at hsl
      go_wp2_with fail
      refine (write_c B b (wr.heap.size + 1) 1 _ [[44, 32]] _ ((hb3.alloc _).alloc _) (Box.new' _ _ (by simp)) (by simp) (by simp only [List.length_append, List.flatten_cons, List.flatten_nil, List.length_cons, List.length_nil]; omega)).mono ?_
      rintro e u4 ⟨rfl, hb4, hx4⟩
      have hx4' : Fb B b (wr.alloc (.cells #[.int .u8 x.kind, .int .i64 x.num, str x.name, .slice xa x.kids.length xc] 24)) u4 := Fb.trans (Fb.of_ext ((Ext.refl _).alloc _) (hb3.alloc _).le) hx4
      obtain ⟨g0, g1, g2, g3⟩ := (hbx3.fb hx4' (by omega) (by decide)).node
      clear k0 k1 k2 k3
      simp only
      go_wp2_with fail
      refine (HP.out B b _ _ xa xc hb4 (ht0.fb ((hxx3.trans hxV).trans hx4') hB) hB ((hxs.fb hxV).fb hx4') (by simp only [List.length_append, List.flatten_cons, List.flatten_nil, List.length_cons, List.length_nil]; omega)).mono ?_
      rintro e u5 ⟨rfl, hb5, hx5⟩
      have hb6 : Bld B b (t ++ kword 50 ++ s ++ [40] ++ argsT true (l.take (j + 1))) u5 := by rw [HSN.out, if_neg hj0]; simpa using hb5
      have hxx6 := ((hxx3.trans hxV).trans hx4').trans hx5
      clear g0 g1 g2 g3 hb3 hb5 hsl hb4
      simp only
      go_wp2_with fail
      go_roundw
      case rel => exact ⟨j + 1, by omega, by go_num, hb6, hxx6⟩
      case measure => simp [intOf]; omega
  · rw [List.take_of_length_le (by omega)] at hb3
    go_wp2_with fail
    refine (write_c B b wr.heap.size 1 _ [[41]] _ (hb3.alloc _) (Box.new' _ _ (by simp)) (by simp) (by simp only [List.length_append, List.flatten_cons, List.flatten_nil, List.length_cons, List.length_nil]; omega)).mono ?_
    rintro e u5 ⟨rfl, hb5, hx5⟩
    simp only
    go_wp2_with fail
    go_end0
    exact ⟨rfl, by simpa using hb5, (hxW.trans hxx3).trans (Fb.trans (Fb.of_ext ((Ext.refl _).alloc _) hb3.le) hx5)⟩
set_option maxHeartbeats 4000000 in
set_option maxRecDepth 100000 in
theorem stmt_51 (n : Int) (s : List UInt8) (l : List Nd) (hll : l.length ≤ 9223372036854775807) (hx : ∀ x ∈ l, Prints 29 Nd.text x) : PrintsD 66 Nd.stmtT (.mk 51 n s l) := by
 intro B b t w a c d h ht hB hs hd hlen
 have htx : (Nd.mk 51 n s l).stmtT d = kword 51 ++ s ++ [40] ++ argsT true l ++ [41] := by rw [Nd.stmtT.eq_def]; simp
 rw [htx] at hlen ⊢
 clear htx
 have hle := h.le
 have hlt := h.lt
 simp only [Nd.kind, Nd.num, Nd.name, Nd.kids, Nd.val, Nd.sits, Nd.size] at hs hd ⊢
 have HX := Lib.hid hx; clear hx
 have hbx0 : Box w.heap.size #[.int .u8 51, .int .i64 n, str s, .slice a l.length c] 24 (w.alloc (.cells #[.int .u8 51, .int .i64 n, str s, .slice a l.length c] 24)) := Box.new _ _ _
 have hxW : Fb B b w (w.alloc (.cells #[.int .u8 51, .int .i64 n, str s, .slice a l.length c] 24)) := Fb.of_ext ((Ext.refl _).alloc _) hle
 have hb0 : Bld B b t (w.alloc (.cells #[.int .u8 51, .int .i64 n, str s, .slice a l.length c] 24)) := h.alloc _
 have ht0 := ht.fb hxW hB
 have hs0 := hs.fb hxW
 go_enter Tryz.func66, Tryz.ntmps66
 go_wp2_with fail
 refine (word_c _ _ (by omega) (by omega)).mono ?_
 rintro e w1 ⟨rfl, rfl⟩
 simp only
 go_wp2_with fail
 refine (write_c B b (w.heap.size + 1) 1 _ [kword 51] _ (hb0.alloc _) (Box.new' _ _ (by simp)) (by simp) (by simp only [List.length_append, List.flatten_cons, List.flatten_nil, List.length_cons, List.length_nil, List.length_replicate, bracesT, tabT] at hlen ⊢; omega)).mono ?_
 rintro e u1 ⟨rfl, hb1, hx1⟩
 have hxx1 : Fb B b (w.alloc (.cells #[.int .u8 51, .int .i64 n, str s, .slice a l.length c] 24)) u1 := Fb.trans (Fb.of_ext ((Ext.refl _).alloc _) hb0.le) hx1
 obtain ⟨g0, g1, g2, g3⟩ := (hbx0.fb hxx1 (by omega) (by decide)).node
 have ht1 := ht0.fb hxx1 hB
 have hs1 := hs0.fb hxx1
 simp only
 go_wp2_with fail
 refine (write_c B b u1.heap.size 2 _ [s, [40]] _ (hb1.alloc _) (Box.new' _ _ (by simp)) (by simp) (by simp only [List.length_append, List.flatten_cons, List.flatten_nil, List.length_cons, List.length_nil, List.length_replicate, bracesT, tabT] at hlen ⊢; omega)).mono ?_
 rintro e u2 ⟨rfl, hb2, hx2⟩
 have hxx2 : Fb B b (w.alloc (.cells #[.int .u8 51, .int .i64 n, str s, .slice a l.length c] 24)) u2 := Fb.trans (Fb.trans hxx1 (Fb.of_ext ((Ext.refl _).alloc _) hb1.le)) hx2
 obtain ⟨g0, g1, g2, g3⟩ := (hbx0.fb hxx2 (by omega) (by decide)).node
 have ht2 := ht0.fb hxx2 hB
 have hs2 := hs0.fb hxx2
 clear g0 g1 g2
 simp only
 go_wp2_with fail
 simp only [List.length_append, List.length_cons, List.length_nil] at hlen
 clear g3
 go_loopw [76] (fun i wr => ∃ j : Nat, j ≤ l.length ∧ i = .int .i64 j ∧ Bld B b (t ++ kword 51 ++ s ++ [40] ++ argsT true (l.take j)) wr ∧ Fb B b (w.alloc (.cells #[.int .u8 51, .int .i64 n, str s, .slice a l.length c] 24)) wr) (fun i _ => l.length - (intOf i).toNat)
 case atStart => exact ⟨0, Nat.zero_le _, rfl, by simpa [argsT] using hb2, hxx2⟩
 case round =>
  obtain ⟨j, hj, rfl, hb3, hxx3⟩ := hrel
  clear hb1 hx1 hxx1 hb2 hx2 hxx2 ht1 ht2 hs1 hs2
  by_cases hlj : j < l.length
  · have hg : l[j]? = some l[j] := List.getElem?_eq_getElem hlj
    have hmem : l[j] ∈ l := List.getElem_mem hlj
    have hsn := argsT_snoc l j hlj
    have hsl := argsT_le l (j + 1)
    obtain ⟨kb, ko, xa, xc, rfl, hkB, k0, k1, k2, k3, hxs⟩ := rowSits_get (hs0.fb hxx3) hg
    have hP := HX.out l[j] hmem
    have HG := Lib.hid hg; clear hg
    generalize l[j] = x at *
    have HSN := Lib.hid hsn
    rw [hsn] at hsl
    clear hsn
    have HP := Lib.hid hP; clear hP
    have hb3l := hb3.le
    have hb3t := hb3.lt
    have hkw : kb < wr.heap.size := by omega
    have hbx3 : Box wr.heap.size #[.int .u8 x.kind, .int .i64 x.num, str x.name, .slice xa x.kids.length xc] 24 (wr.alloc (.cells #[.int .u8 x.kind, .int .i64 x.num, str x.name, .slice xa x.kids.length xc] 24)) := Box.new _ _ _
    have hxV : Fb B b wr (wr.alloc (.cells #[.int .u8 x.kind, .int .i64 x.num, str x.name, .slice xa x.kids.length xc] 24)) := Fb.of_ext ((Ext.refl _).alloc _) hb3l
    by_cases hj0 : j = 0
    · have dj : decide (0 < j) = false := by simp; omega
      have hjz : j ≤ 0 := by omega
      simp only [if_pos hj0, List.nil_append, List.length_append] at hsl
      have HJ := Lib.hid hj0; clear hj0
      go_wp2_with fail
      refine (HP.out B b _ _ xa xc (hb3.alloc _) (ht0.fb (hxx3.trans hxV) hB) hB (hxs.fb hxV) (by simp only [List.length_append, List.length_cons, List.length_nil]; omega)).mono ?_
      rintro e u5 ⟨rfl, hb5, hx5⟩
      have hb6 : Bld B b (t ++ kword 51 ++ s ++ [40] ++ argsT true (l.take (j + 1))) u5 := by rw [HSN.out, if_pos HJ.out]; simpa using hb5
      have hxx6 := (hxx3.trans hxV).trans hx5
      clear k0 k1 k2 k3 hb3 hb5 hsl
      simp only
      go_wp2_with fail
      go_roundw
      case rel => exact ⟨j + 1, by omega, by go_num, hb6, hxx6⟩
      case measure => simp [intOf]; omega
    · have dj : decide ((0 : Int) < j) = true := by simp; omega
      simp only [if_neg hj0, List.length_append, List.length_cons, List.length_nil] at hsl
      go_wp2_with fail
      refine (write_c B b (wr.heap.size + 1) 1 _ [[44, 32]] _ ((hb3.alloc _).alloc _) (Box.new' _ _ (by simp)) (by simp) (by simp only [List.length_append, List.flatten_cons, List.flatten_nil, List.length_cons, List.length_nil]; omega)).mono ?_
      rintro e u4 ⟨rfl, hb4, hx4⟩
      have hx4' : Fb B b (wr.alloc (.cells #[.int .u8 x.kind, .int .i64 x.num, str x.name, .slice xa x.kids.length xc] 24)) u4 := Fb.trans (Fb.of_ext ((Ext.refl _).alloc _) (hb3.alloc _).le) hx4
      obtain ⟨g0, g1, g2, g3⟩ := (hbx3.fb hx4' (by omega) (by decide)).node
      clear k0 k1 k2 k3
      simp only
      go_wp2_with fail
      refine (HP.out B b _ _ xa xc hb4 (ht0.fb ((hxx3.trans hxV).trans hx4') hB) hB ((hxs.fb hxV).fb hx4') (by simp only [List.length_append, List.flatten_cons, List.flatten_nil, List.length_cons, List.length_nil]; omega)).mono ?_
      rintro e u5 ⟨rfl, hb5, hx5⟩
      have hb6 : Bld B b (t ++ kword 51 ++ s ++ [40] ++ argsT true (l.take (j + 1))) u5 := by rw [HSN.out, if_neg hj0]; simpa using hb5
      have hxx6 := ((hxx3.trans hxV).trans hx4').trans hx5
      clear g0 g1 g2 g3 hb3 hb5 hsl hb4
      simp only
      go_wp2_with fail
      go_roundw
      case rel => exact ⟨j + 1, by omega, by go_num, hb6, hxx6⟩
      case measure => simp [intOf]; omega
  · rw [List.take_of_length_le (by omega)] at hb3
    go_wp2_with fail
    refine (write_c B b wr.heap.size 1 _ [[41]] _ (hb3.alloc _) (Box.new' _ _ (by simp)) (by simp) (by simp only [List.length_append, List.flatten_cons, List.flatten_nil, List.length_cons, List.length_nil]; omega)).mono ?_
    rintro e u5 ⟨rfl, hb5, hx5⟩
    simp only
    go_wp2_with fail
    go_end0
    exact ⟨rfl, by simpa using hb5, (hxW.trans hxx3).trans (Fb.trans (Fb.of_ext ((Ext.refl _).alloc _) hb3.le) hx5)⟩
end Bk
namespace Bk
open Go Go.RowKit Go.Proofs
theorem isPlace_expr {t : Nd} (h : t.isPlace = true) : t.isExpr = true := by
 simp only [Nd.isPlace, Bool.and_eq_true] at h; exact h.2
theorem isVar_expr {t : Nd} (h : t.isVar = true) : t.isExpr = true := by
 simp only [Nd.isVar, Bool.and_eq_true] at h; exact h.2
theorem rowStmt_all : ∀ l : List Nd, rowStmt l = l.all Nd.isStmt
 | [] => rfl
 | x :: r => by simp [rowStmt, rowStmt_all r]
theorem kind_of_stmt {k n : Int} {s : List UInt8} {l : List Nd} (h : (Nd.mk k n s l).isStmt = true) : 40 ≤ k ∧ k ≤ 56 := by
 by_cases hk : k < 40 ∨ 56 < k
 · rw [isStmt_else k n s l hk] at h; simp at h
 · omega
set_option maxHeartbeats 4000000 in
theorem stmt_all (N : Nat) : (∀ t : Nd, t.size < N → t.wf → t.isStmt = true → PrintsD 66 Nd.stmtT t) ∧ (∀ t : Nd, t.size < N → t.wf → t.isBlock = true → PrintsD 38 Nd.linesT t) := by
 induction N with
 | zero => exact ⟨fun t h => absurd h (Nat.not_lt_zero _), fun t h => absurd h (Nat.not_lt_zero _)⟩
 | succ N ih =>
  refine ⟨?_, ?_⟩
  · rintro ⟨k, n, s, l⟩ hN hwf he
    have hk := kind_of_stmt he
    simp only [Nd.wf, Nd.size] at hwf hN
    obtain ⟨hk0, hk1, hn0, hn1, hsl, hll, hrw⟩ := hwf
    by_cases c40 : k = 40
    · subst c40
      rw [isStmt_40] at he
      rcases l with _ | ⟨x, _ | ⟨y, _ | ⟨v4, l⟩⟩⟩
      · simp [kidsOk] at he
      · simp [kidsOk] at he
      · simp only [kidsOk, Bool.and_eq_true, Bool.and_true, and_true] at he
        simp only [rowSize, rowWf] at hN hrw
        exact stmt_40 n s x y (expr_t x hrw.1 (isPlace_expr (he.2.1))) (expr_t y hrw.2.1 (he.2.2))
      · simp [kidsOk] at he
    by_cases c41 : k = 41
    · subst c41
      rw [isStmt_41] at he
      rcases l with _ | ⟨x, _ | ⟨y, _ | ⟨v4, l⟩⟩⟩
      · simp [kidsOk] at he
      · simp [kidsOk] at he
      · simp only [kidsOk, Bool.and_eq_true, Bool.and_true, and_true] at he
        simp only [rowSize, rowWf] at hN hrw
        exact stmt_41 n s x y (expr_t x hrw.1 (isPlace_expr (he.2.1))) (expr_t y hrw.2.1 (he.2.2))
      · simp [kidsOk] at he
    by_cases c42 : k = 42
    · subst c42
      rw [isStmt_42] at he
      rcases l with _ | ⟨x, _ | ⟨y, _ | ⟨v4, l⟩⟩⟩
      · simp [kidsOk] at he
      · simp [kidsOk] at he
      · simp only [kidsOk, Bool.and_eq_true, Bool.and_true, and_true] at he
        simp only [rowSize, rowWf] at hN hrw
        exact stmt_42 n s x y (expr_t x hrw.1 (isPlace_expr (he.2.1))) (expr_t y hrw.2.1 (he.2.2))
      · simp [kidsOk] at he
    by_cases c43 : k = 43
    · subst c43
      rw [isStmt_43] at he
      rcases l with _ | ⟨x, _ | ⟨y, _ | ⟨v4, l⟩⟩⟩
      · simp [kidsOk] at he
      · simp [kidsOk] at he
      · simp only [kidsOk, Bool.and_eq_true, Bool.and_true, and_true] at he
        simp only [rowSize, rowWf] at hN hrw
        exact stmt_43 n s x y (expr_t x hrw.1 (isPlace_expr (he.2.1))) (expr_t y hrw.2.1 (isPlace_expr (he.2.2)))
      · simp [kidsOk] at he
    by_cases c44 : k = 44
    · subst c44
      rw [isStmt_44] at he
      rcases l with _ | ⟨x, _ | ⟨v4, l⟩⟩
      · simp [kidsOk] at he
      · simp only [kidsOk, Bool.and_eq_true, Bool.and_true, and_true] at he
        simp only [rowSize, rowWf] at hN hrw
        exact stmt_44 n s x (expr_t x hrw.1 (isPlace_expr (he.2)))
      · simp [kidsOk] at he
    by_cases c45 : k = 45
    · subst c45
      rw [isStmt_45] at he
      rcases l with _ | ⟨x, _ | ⟨v4, l⟩⟩
      · simp [kidsOk] at he
      · simp only [kidsOk, Bool.and_eq_true, Bool.and_true, and_true] at he
        simp only [rowSize, rowWf] at hN hrw
        exact stmt_45 n s x (expr_t x hrw.1 (isPlace_expr (he.2)))
      · simp [kidsOk] at he
    by_cases c46 : k = 46
    · subst c46
      rw [isStmt_46] at he
      rcases l with _ | ⟨x, _ | ⟨v4, l⟩⟩
      · simp [kidsOk] at he
      · simp only [kidsOk, Bool.and_eq_true, Bool.and_true, and_true] at he
        simp only [rowSize, rowWf] at hN hrw
        exact stmt_46 n s x (expr_t x hrw.1 (isPlace_expr (he.2)))
      · simp [kidsOk] at he
    by_cases c47 : k = 47
    · subst c47
      rw [isStmt_47] at he
      rcases l with _ | ⟨x, _ | ⟨v4, l⟩⟩
      · simp [kidsOk] at he
      · simp only [kidsOk, Bool.and_eq_true, Bool.and_true, and_true] at he
        simp only [rowSize, rowWf] at hN hrw
        exact stmt_47 n s x (expr_t x hrw.1 (isPlace_expr (he.2)))
      · simp [kidsOk] at he
    by_cases c48 : k = 48
    · subst c48
      rw [isStmt_48] at he
      rcases l with _ | ⟨x, _ | ⟨v4, l⟩⟩
      · simp [kidsOk] at he
      · simp only [kidsOk, Bool.and_eq_true, Bool.and_true, and_true] at he
        simp only [rowSize, rowWf] at hN hrw
        exact stmt_48 n s x (expr_t x hrw.1 (isPlace_expr (he.2)))
      · simp [kidsOk] at he
    by_cases c49 : k = 49
    · subst c49
      rw [isStmt_49] at he
      rcases l with _ | ⟨x, _ | ⟨v4, l⟩⟩
      · simp [kidsOk] at he
      · simp only [kidsOk, Bool.and_eq_true, Bool.and_true, and_true] at he
        simp only [rowSize, rowWf] at hN hrw
        exact stmt_49 n s x (expr_t x hrw.1 (isPlace_expr (he.2)))
      · simp [kidsOk] at he
    by_cases c50 : k = 50
    · subst c50
      rw [isStmt_50] at he
      simp only [Bool.and_eq_true, List.all_eq_true] at he
      exact stmt_50 n s l hll (fun x hx => expr_t x (rowWf_get hrw x hx) (isVar_expr (he.2 x hx)))
    by_cases c51 : k = 51
    · subst c51
      rw [isStmt_51] at he
      simp only [Bool.and_eq_true, List.all_eq_true] at he
      exact stmt_51 n s l hll (fun x hx => expr_t x (rowWf_get hrw x hx) (isVar_expr (he.2 x hx)))
    by_cases c52 : k = 52
    · subst c52
      rw [isStmt_52] at he
      rcases l with _ | ⟨x, _ | ⟨y, _ | ⟨z, _ | ⟨u, _ | ⟨v4, l⟩⟩⟩⟩⟩
      · simp [kidsOk] at he
      · simp [kidsOk] at he
      · simp [kidsOk] at he
      · simp [kidsOk] at he
      · simp only [kidsOk, Bool.and_eq_true, Bool.and_true, and_true] at he
        simp only [rowSize, rowWf] at hN hrw
        exact stmt_52 n s x y z u (expr_t x hrw.1 (he.2.1)) (ih.2 y (by omega) hrw.2.1 (he.2.2.1)) (ih.2 z (by omega) hrw.2.2.1 (he.2.2.2.1)) (expr_t u hrw.2.2.2.1 (he.2.2.2.2))
      · simp [kidsOk] at he
    by_cases c53 : k = 53
    · subst c53
      rw [isStmt_53] at he
      rcases l with _ | ⟨x, _ | ⟨y, _ | ⟨z, _ | ⟨u, _ | ⟨v4, l⟩⟩⟩⟩⟩
      · simp [kidsOk] at he
      · simp [kidsOk] at he
      · simp [kidsOk] at he
      · simp [kidsOk] at he
      · simp only [kidsOk, Bool.and_eq_true, Bool.and_true, and_true] at he
        simp only [rowSize, rowWf] at hN hrw
        exact stmt_53 n s x y z u (expr_t x hrw.1 (he.2.1)) (ih.2 y (by omega) hrw.2.1 (he.2.2.1)) (ih.2 z (by omega) hrw.2.2.1 (he.2.2.2.1)) (expr_t u hrw.2.2.2.1 (he.2.2.2.2))
      · simp [kidsOk] at he
    by_cases c54 : k = 54
    · subst c54
      rw [isStmt_54] at he
      rcases l with _ | ⟨x, _ | ⟨y, _ | ⟨z, _ | ⟨v4, l⟩⟩⟩⟩
      · simp [kidsOk] at he
      · simp [kidsOk] at he
      · simp [kidsOk] at he
      · simp only [kidsOk, Bool.and_eq_true, Bool.and_true, and_true] at he
        simp only [rowSize, rowWf] at hN hrw
        exact stmt_54 n s x y z (expr_t x hrw.1 (he.2.1)) (ih.2 y (by omega) hrw.2.1 (he.2.2.1)) (expr_t z hrw.2.2.1 (he.2.2.2))
      · simp [kidsOk] at he
    by_cases c55 : k = 55
    · subst c55
      rw [isStmt_55] at he
      rcases l with _ | ⟨x, _ | ⟨v4, l⟩⟩
      · simp [kidsOk] at he
      · simp only [kidsOk, Bool.and_eq_true, Bool.and_true, and_true] at he
        simp only [rowSize, rowWf] at hN hrw
        exact stmt_55 n s x (ih.2 x (by omega) hrw.1 (he.2))
      · simp [kidsOk] at he
    by_cases c56 : k = 56
    · subst c56
      rw [isStmt_56] at he
      rcases l with _ | ⟨x, _ | ⟨y, _ | ⟨v4, l⟩⟩⟩
      · simp [kidsOk] at he
      · simp [kidsOk] at he
      · simp only [kidsOk, Bool.and_eq_true, Bool.and_true, and_true] at he
        simp only [rowSize, rowWf] at hN hrw
        exact stmt_56 n s x y (expr_t x hrw.1 (isPlace_expr (he.2.1))) (expr_t y hrw.2.1 (he.2.2))
      · simp [kidsOk] at he
    omega
  · rintro ⟨k, n, s, l⟩ hN hwf he
    simp only [Nd.wf, Nd.size] at hwf hN
    obtain ⟨hk0, hk1, hn0, hn1, hsl, hll, hrw⟩ := hwf
    simp only [Nd.isBlock, Bool.and_eq_true, rowStmt_all, List.all_eq_true] at he
    exact block_c k n s l hll (fun x hx => ih.1 x (by have := size_mem hx; omega) (rowWf_get hrw x hx) (he.2 x hx))
theorem block_t (t : Nd) (hwf : t.wf) (h : t.isBlock = true) : PrintsD 38 Nd.linesT t := (stmt_all (t.size + 1)).2 t (by omega) hwf h
end Bk
namespace Bk
open Go Go.RowKit Go.Proofs
theorem textLen (t : Nd) (hwf : t.wf) (h : t.isExpr = true) : t.text.length ≤ 30 * t.size := text_len (t.size + 1) t (by omega) hwf h
theorem kword_len (k : Int) : (kword k).length ≤ 12 := by
 unfold kword
 by_cases c44 : k = 44
 · rw [if_pos c44]; decide
 rw [if_neg c44]
 by_cases c45 : k = 45
 · rw [if_pos c45]; decide
 rw [if_neg c45]
 by_cases c46 : k = 46
 · rw [if_pos c46]; decide
 rw [if_neg c46]
 by_cases c47 : k = 47
 · rw [if_pos c47]; decide
 rw [if_neg c47]
 by_cases c48 : k = 48
 · rw [if_pos c48]; decide
 rw [if_neg c48]
 by_cases c49 : k = 49
 · rw [if_pos c49]; decide
 rw [if_neg c49]
 by_cases c50 : k = 50
 · rw [if_pos c50]; decide
 rw [if_neg c50]
 by_cases c51 : k = 51
 · rw [if_pos c51]; decide
 rw [if_neg c51]
 by_cases c52 : k = 52
 · rw [if_pos c52]; decide
 rw [if_neg c52]
 by_cases c53 : k = 53
 · rw [if_pos c53]; decide
 rw [if_neg c53]
 by_cases c54 : k = 54
 · rw [if_pos c54]; decide
 rw [if_neg c54]
 by_cases c55 : k = 55
 · rw [if_pos c55]; decide
 rw [if_neg c55]
 decide
theorem updSign_len (k : Int) : (updSign k).length ≤ 3 := by
 unfold updSign
 split
 · decide
 · split
   · decide
   · have := symbol_len k; omega
theorem argsT_len : ∀ (l : List Nd) (q : Bool), rowWf l → (∀ x ∈ l, x.isExpr = true) → (argsT q l).length ≤ 32 * rowSize l
 | [], _, _, _ => by simp [argsT, rowSize]
 | x :: r, q, hw, h => by
  simp only [rowWf] at hw
  have h1 := textLen x hw.1 (h x (by simp))
  have h2 := argsT_len r false hw.2 (fun y hy => h y (by simp [hy]))
  have h3 := x.size_pos
  simp only [argsT, rowSize, List.length_append]
  split <;> simp <;> omega
theorem rowLines_len (d : Nat) : ∀ l : List Nd, (∀ x ∈ l, (x.stmtT d).length + d + 2 ≤ 4000100 * x.size) → (rowLines l d).length ≤ 4000100 * rowSize l
 | [], _ => by simp [rowLines, rowSize]
 | x :: r, h => by
  have h1 := h x (by simp)
  have h2 := rowLines_len d r (fun y hy => h y (by simp [hy]))
  simp only [rowLines, rowSize, tabT, List.length_append, List.length_replicate, List.length_cons, List.length_nil]
  omega
theorem stmt_len (N : Nat) : (∀ (t : Nd) (d : Nat), t.size < N → t.wf → t.isStmt = true → d + t.size ≤ 1000000 → (t.stmtT d).length + d + 2 ≤ 4000100 * t.size) ∧ (∀ (t : Nd) (d : Nat), t.size < N → t.wf → t.isBlock = true → d + t.size ≤ 1000000 → (t.linesT d).length + 4000100 ≤ 4000100 * t.size) := by
 induction N with
 | zero => exact ⟨fun t _ h => absurd h (Nat.not_lt_zero _), fun t _ h => absurd h (Nat.not_lt_zero _)⟩
 | succ N ih =>
  refine ⟨?_, ?_⟩
  · rintro ⟨k, n, s, l⟩ d hN hwf he hd
    have hk := kind_of_stmt he
    have hkw := kword_len k
    have hup := updSign_len k
    simp only [Nd.wf, Nd.size] at hwf hN hd ⊢
    obtain ⟨hk0, hk1, hn0, hn1, hsl, hll, hrw⟩ := hwf
    by_cases c40 : k = 40
    · subst c40
      rw [isStmt_40] at he
      rcases l with _ | ⟨x, _ | ⟨y, _ | ⟨v4, l⟩⟩⟩
      · simp [kidsOk] at he
      · simp [kidsOk] at he
      · simp only [kidsOk, Bool.and_eq_true, Bool.and_true, and_true] at he
        simp only [rowSize, rowWf] at hN hrw hd ⊢
        have zx := x.size_pos
        have lx := textLen x hrw.1 (isPlace_expr (he.2.1))
        have zy := y.size_pos
        have ly := textLen y hrw.2.1 (he.2.2)
        rw [Nd.stmtT.eq_def]
        simp only [tabT]
        simp [-List.length_append]
        simp only [List.length_append, List.length_cons, List.length_nil, List.length_replicate]
        omega
      · simp [kidsOk] at he
    by_cases c41 : k = 41
    · subst c41
      rw [isStmt_41] at he
      rcases l with _ | ⟨x, _ | ⟨y, _ | ⟨v4, l⟩⟩⟩
      · simp [kidsOk] at he
      · simp [kidsOk] at he
      · simp only [kidsOk, Bool.and_eq_true, Bool.and_true, and_true] at he
        simp only [rowSize, rowWf] at hN hrw hd ⊢
        have zx := x.size_pos
        have lx := textLen x hrw.1 (isPlace_expr (he.2.1))
        have zy := y.size_pos
        have ly := textLen y hrw.2.1 (he.2.2)
        rw [Nd.stmtT.eq_def]
        simp only [tabT]
        simp [-List.length_append]
        simp only [List.length_append, List.length_cons, List.length_nil, List.length_replicate]
        omega
      · simp [kidsOk] at he
    by_cases c42 : k = 42
    · subst c42
      rw [isStmt_42] at he
      rcases l with _ | ⟨x, _ | ⟨y, _ | ⟨v4, l⟩⟩⟩
      · simp [kidsOk] at he
      · simp [kidsOk] at he
      · simp only [kidsOk, Bool.and_eq_true, Bool.and_true, and_true] at he
        simp only [rowSize, rowWf] at hN hrw hd ⊢
        have zx := x.size_pos
        have lx := textLen x hrw.1 (isPlace_expr (he.2.1))
        have zy := y.size_pos
        have ly := textLen y hrw.2.1 (he.2.2)
        rw [Nd.stmtT.eq_def]
        simp only [tabT]
        simp [-List.length_append]
        simp only [List.length_append, List.length_cons, List.length_nil, List.length_replicate]
        omega
      · simp [kidsOk] at he
    by_cases c43 : k = 43
    · subst c43
      rw [isStmt_43] at he
      rcases l with _ | ⟨x, _ | ⟨y, _ | ⟨v4, l⟩⟩⟩
      · simp [kidsOk] at he
      · simp [kidsOk] at he
      · simp only [kidsOk, Bool.and_eq_true, Bool.and_true, and_true] at he
        simp only [rowSize, rowWf] at hN hrw hd ⊢
        have zx := x.size_pos
        have lx := textLen x hrw.1 (isPlace_expr (he.2.1))
        have zy := y.size_pos
        have ly := textLen y hrw.2.1 (isPlace_expr (he.2.2))
        rw [Nd.stmtT.eq_def]
        simp only [tabT]
        simp [-List.length_append]
        simp only [List.length_append, List.length_cons, List.length_nil, List.length_replicate]
        omega
      · simp [kidsOk] at he
    by_cases c44 : k = 44
    · subst c44
      rw [isStmt_44] at he
      rcases l with _ | ⟨x, _ | ⟨v4, l⟩⟩
      · simp [kidsOk] at he
      · simp only [kidsOk, Bool.and_eq_true, Bool.and_true, and_true] at he
        simp only [rowSize, rowWf] at hN hrw hd ⊢
        have zx := x.size_pos
        have lx := textLen x hrw.1 (isPlace_expr (he.2))
        simp only [named, Bool.and_eq_true] at he
        have hnl := isName_len he.1.2
        rw [Nd.stmtT.eq_def]
        simp only [tabT]
        simp [-List.length_append]
        simp only [List.length_append, List.length_cons, List.length_nil, List.length_replicate]
        omega
      · simp [kidsOk] at he
    by_cases c45 : k = 45
    · subst c45
      rw [isStmt_45] at he
      rcases l with _ | ⟨x, _ | ⟨v4, l⟩⟩
      · simp [kidsOk] at he
      · simp only [kidsOk, Bool.and_eq_true, Bool.and_true, and_true] at he
        simp only [rowSize, rowWf] at hN hrw hd ⊢
        have zx := x.size_pos
        have lx := textLen x hrw.1 (isPlace_expr (he.2))
        simp only [named, Bool.and_eq_true] at he
        have hnl := isName_len he.1.2
        rw [Nd.stmtT.eq_def]
        simp only [tabT]
        simp [-List.length_append]
        simp only [List.length_append, List.length_cons, List.length_nil, List.length_replicate]
        omega
      · simp [kidsOk] at he
    by_cases c46 : k = 46
    · subst c46
      rw [isStmt_46] at he
      rcases l with _ | ⟨x, _ | ⟨v4, l⟩⟩
      · simp [kidsOk] at he
      · simp only [kidsOk, Bool.and_eq_true, Bool.and_true, and_true] at he
        simp only [rowSize, rowWf] at hN hrw hd ⊢
        have zx := x.size_pos
        have lx := textLen x hrw.1 (isPlace_expr (he.2))
        rw [Nd.stmtT.eq_def]
        simp only [tabT]
        simp [-List.length_append]
        simp only [List.length_append, List.length_cons, List.length_nil, List.length_replicate]
        omega
      · simp [kidsOk] at he
    by_cases c47 : k = 47
    · subst c47
      rw [isStmt_47] at he
      rcases l with _ | ⟨x, _ | ⟨v4, l⟩⟩
      · simp [kidsOk] at he
      · simp only [kidsOk, Bool.and_eq_true, Bool.and_true, and_true] at he
        simp only [rowSize, rowWf] at hN hrw hd ⊢
        have zx := x.size_pos
        have lx := textLen x hrw.1 (isPlace_expr (he.2))
        rw [Nd.stmtT.eq_def]
        simp only [tabT]
        simp [-List.length_append]
        simp only [List.length_append, List.length_cons, List.length_nil, List.length_replicate]
        omega
      · simp [kidsOk] at he
    by_cases c48 : k = 48
    · subst c48
      rw [isStmt_48] at he
      rcases l with _ | ⟨x, _ | ⟨v4, l⟩⟩
      · simp [kidsOk] at he
      · simp only [kidsOk, Bool.and_eq_true, Bool.and_true, and_true] at he
        simp only [rowSize, rowWf] at hN hrw hd ⊢
        have zx := x.size_pos
        have lx := textLen x hrw.1 (isPlace_expr (he.2))
        rw [Nd.stmtT.eq_def]
        simp only [tabT]
        simp [-List.length_append]
        simp only [List.length_append, List.length_cons, List.length_nil, List.length_replicate]
        omega
      · simp [kidsOk] at he
    by_cases c49 : k = 49
    · subst c49
      rw [isStmt_49] at he
      rcases l with _ | ⟨x, _ | ⟨v4, l⟩⟩
      · simp [kidsOk] at he
      · simp only [kidsOk, Bool.and_eq_true, Bool.and_true, and_true] at he
        simp only [rowSize, rowWf] at hN hrw hd ⊢
        have zx := x.size_pos
        have lx := textLen x hrw.1 (isPlace_expr (he.2))
        rw [Nd.stmtT.eq_def]
        simp only [tabT]
        simp [-List.length_append]
        simp only [List.length_append, List.length_cons, List.length_nil, List.length_replicate]
        omega
      · simp [kidsOk] at he
    by_cases c50 : k = 50
    · subst c50
      rw [isStmt_50] at he
      simp only [Bool.and_eq_true, List.all_eq_true, named] at he
      have hnl := isName_len he.1.1.2
      have hal := argsT_len l true hrw (fun x hx => isVar_expr (he.2 x hx))
      have htx : (Nd.mk 50 n s l).stmtT d = kword 50 ++ s ++ [40] ++ argsT true l ++ [41] := by rw [Nd.stmtT.eq_def]; simp
      rw [htx]
      simp only [List.length_append, List.length_cons, List.length_nil]
      omega
    by_cases c51 : k = 51
    · subst c51
      rw [isStmt_51] at he
      simp only [Bool.and_eq_true, List.all_eq_true, named] at he
      have hnl := isName_len he.1.1.2
      have hal := argsT_len l true hrw (fun x hx => isVar_expr (he.2 x hx))
      have htx : (Nd.mk 51 n s l).stmtT d = kword 51 ++ s ++ [40] ++ argsT true l ++ [41] := by rw [Nd.stmtT.eq_def]; simp
      rw [htx]
      simp only [List.length_append, List.length_cons, List.length_nil]
      omega
    by_cases c52 : k = 52
    · subst c52
      rw [isStmt_52] at he
      rcases l with _ | ⟨x, _ | ⟨y, _ | ⟨z, _ | ⟨u, _ | ⟨v4, l⟩⟩⟩⟩⟩
      · simp [kidsOk] at he
      · simp [kidsOk] at he
      · simp [kidsOk] at he
      · simp [kidsOk] at he
      · simp only [kidsOk, Bool.and_eq_true, Bool.and_true, and_true] at he
        simp only [rowSize, rowWf] at hN hrw hd ⊢
        have zx := x.size_pos
        have lx := textLen x hrw.1 (he.2.1)
        have zy := y.size_pos
        have ly := ih.2 y (d + 1) (by omega) hrw.2.1 (he.2.2.1) (by omega)
        have zz := z.size_pos
        have lz := ih.2 z (d + 1) (by omega) hrw.2.2.1 (he.2.2.2.1) (by omega)
        have zu := u.size_pos
        have lu := textLen u hrw.2.2.2.1 (he.2.2.2.2)
        rw [Nd.stmtT.eq_def]
        simp only [tabT]
        simp [-List.length_append]
        simp only [List.length_append, List.length_cons, List.length_nil, List.length_replicate]
        omega
      · simp [kidsOk] at he
    by_cases c53 : k = 53
    · subst c53
      rw [isStmt_53] at he
      rcases l with _ | ⟨x, _ | ⟨y, _ | ⟨z, _ | ⟨u, _ | ⟨v4, l⟩⟩⟩⟩⟩
      · simp [kidsOk] at he
      · simp [kidsOk] at he
      · simp [kidsOk] at he
      · simp [kidsOk] at he
      · simp only [kidsOk, Bool.and_eq_true, Bool.and_true, and_true] at he
        simp only [rowSize, rowWf] at hN hrw hd ⊢
        have zx := x.size_pos
        have lx := textLen x hrw.1 (he.2.1)
        have zy := y.size_pos
        have ly := ih.2 y (d + 1) (by omega) hrw.2.1 (he.2.2.1) (by omega)
        have zz := z.size_pos
        have lz := ih.2 z (d + 1) (by omega) hrw.2.2.1 (he.2.2.2.1) (by omega)
        have zu := u.size_pos
        have lu := textLen u hrw.2.2.2.1 (he.2.2.2.2)
        rw [Nd.stmtT.eq_def]
        simp only [tabT]
        simp [-List.length_append]
        simp only [List.length_append, List.length_cons, List.length_nil, List.length_replicate]
        omega
      · simp [kidsOk] at he
    by_cases c54 : k = 54
    · subst c54
      rw [isStmt_54] at he
      rcases l with _ | ⟨x, _ | ⟨y, _ | ⟨z, _ | ⟨v4, l⟩⟩⟩⟩
      · simp [kidsOk] at he
      · simp [kidsOk] at he
      · simp [kidsOk] at he
      · simp only [kidsOk, Bool.and_eq_true, Bool.and_true, and_true] at he
        simp only [rowSize, rowWf] at hN hrw hd ⊢
        have zx := x.size_pos
        have lx := textLen x hrw.1 (he.2.1)
        have zy := y.size_pos
        have ly := ih.2 y (d + 1) (by omega) hrw.2.1 (he.2.2.1) (by omega)
        have zz := z.size_pos
        have lz := textLen z hrw.2.2.1 (he.2.2.2)
        simp only [named, Bool.and_eq_true] at he
        have hnl := isName_len he.1.2
        rw [Nd.stmtT.eq_def]
        simp only [tabT]
        simp [-List.length_append]
        simp only [List.length_append, List.length_cons, List.length_nil, List.length_replicate]
        omega
      · simp [kidsOk] at he
    by_cases c55 : k = 55
    · subst c55
      rw [isStmt_55] at he
      rcases l with _ | ⟨x, _ | ⟨v4, l⟩⟩
      · simp [kidsOk] at he
      · simp only [kidsOk, Bool.and_eq_true, Bool.and_true, and_true] at he
        simp only [rowSize, rowWf] at hN hrw hd ⊢
        have zx := x.size_pos
        have lx := ih.2 x (d + 1) (by omega) hrw.1 (he.2) (by omega)
        simp only [named, Bool.and_eq_true] at he
        have hnl := isName_len he.1.2
        rw [Nd.stmtT.eq_def]
        simp only [tabT]
        simp [-List.length_append]
        simp only [List.length_append, List.length_cons, List.length_nil, List.length_replicate]
        omega
      · simp [kidsOk] at he
    by_cases c56 : k = 56
    · subst c56
      rw [isStmt_56] at he
      rcases l with _ | ⟨x, _ | ⟨y, _ | ⟨v4, l⟩⟩⟩
      · simp [kidsOk] at he
      · simp [kidsOk] at he
      · simp only [kidsOk, Bool.and_eq_true, Bool.and_true, and_true] at he
        simp only [rowSize, rowWf] at hN hrw hd ⊢
        have zx := x.size_pos
        have lx := textLen x hrw.1 (isPlace_expr (he.2.1))
        have zy := y.size_pos
        have ly := textLen y hrw.2.1 (he.2.2)
        rw [Nd.stmtT.eq_def]
        simp only [tabT]
        simp [-List.length_append]
        simp only [List.length_append, List.length_cons, List.length_nil, List.length_replicate]
        omega
      · simp [kidsOk] at he
    omega
  · rintro ⟨k, n, s, l⟩ d hN hwf he hd
    simp only [Nd.wf, Nd.size] at hwf hN hd ⊢
    obtain ⟨hk0, hk1, hn0, hn1, hsl, hll, hrw⟩ := hwf
    simp only [Nd.isBlock, Bool.and_eq_true, rowStmt_all, List.all_eq_true] at he
    have := rowLines_len d l (fun x hx => ih.1 x d (by have := size_mem hx; omega) (rowWf_get hrw x hx) (he.2 x hx) (by have := size_mem hx; omega))
    simp only [Nd.linesT]
    omega
theorem linesLen (t : Nd) (d : Nat) (hwf : t.wf) (h : t.isBlock = true) (hd : d + t.size ≤ 1000000) : (t.linesT d).length + 4000100 ≤ 4000100 * t.size := (stmt_len (t.size + 1)).2 t d (by omega) hwf h hd
theorem Block_c (t : Nd) (hwf : t.wf) (hsz : t.size ≤ 1000000) (S : Nat → Prop) (a : Option Addr) (c : Nat) (w : World) (ht : Tabs w) (hg : Tryz.prog.globals.size ≤ w.heap.size) (hs : t.sits S w a) :
 Calls Tryz.prog 15 #[t.val a c] w fun e w' => e = .returned (.tuple #[str (if t.isBlock then t.linesT 0 else []), .int .i64 (if t.isBlock then 0 else 3)]) ∧ Ext w w' := by
 have HE := Lib.hid (IsBlock_t S t hwf)
 cases he : t.isBlock
 · have HT := Lib.hid he; clear he
   obtain ⟨k, n, s, l⟩ := t
   simp only [Nd.kind, Nd.num, Nd.name, Nd.kids, Nd.val]
   go_enter Tryz.func15, Tryz.ntmps15
   go_wp2_with (go_at_call 14; refine (HE.out a c _ (hs.ext (by refine Ext.alloc ?_ _; exact Ext.refl _))).mono ?_; rintro e w1 ⟨rfl, hx1⟩; rw [HT.out])
   go_ret2
   exact ⟨rfl, (by refine Ext.trans ?_ (by assumption); refine Ext.alloc ?_ _; exact Ext.refl _)⟩
 · have hp := block_t t hwf he
   have hl := linesLen t 0 hwf he (by omega)
   have HP := Lib.hid hp; clear hp
   have HT := Lib.hid he; clear he
   obtain ⟨k, n, s, l⟩ := t
   have HS := Lib.hid (sits_lt _ _ hs)
   have hle : ((Nd.mk k n s l).linesT 0).length ≤ 130000000000000 := by omega
   clear hl hwf
   simp only [Nd.kind, Nd.num, Nd.name, Nd.kids, Nd.val]
   go_enter Tryz.func15, Tryz.ntmps15
   go_wp2_with fail
   refine (HE.out a c _ (hs.ext ((Ext.refl _).alloc _))).mono ?_
   rintro e w1 ⟨rfl, hx1⟩
   have hc1 := hx1.cells
   have hz1 : w.heap.size < w1.heap.size := by
    have := hx1.size
    simp at this
    omega
   rw [HT.out]
   simp only
   go_wp2_with fail
   have hxx1 : Ext w w1 := (by refine Ext.trans ?_ (by assumption); refine Ext.alloc ?_ _; exact Ext.refl _)
   have hlew : w.heap.size ≤ w1.heap.size := hxx1.size
   have hx2 : Ext w (w1.alloc (.cells #[.pointer none, .slice none 0 0] 57)) := (by refine Ext.alloc ?_ _; assumption)
   refine (HP.out w.heap.size w1.heap.size [] _ a c 0 (Bld.new w1 w.heap.size hlew) (ht.ext hx2 hg) hg (HS.out.ext hx2) (by omega) (by simp; omega)).mono ?_
   rintro e w3 ⟨rfl, hb3, hx3⟩
   simp only
   go_wp2_with fail
   refine (String_any 57 w.heap.size w1.heap.size _ _ hb3.is hb3.le).mono ?_
   rintro e w4 ⟨rfl, hb4, hx4⟩
   simp only
   go_wp2_with fail
   go_ret2
   exact ⟨by simp, Below.trans hx2 (Below.trans hx3.below hx4.below)⟩
end Bk
namespace Bk
open Go Go.RowKit Go.Proofs
theorem nameA_c (s : List UInt8) (w : World) : Calls Tryz.prog 23 #[str s] w fun e w' => e = .returned (.agg #[.int .u8 2, .int .i64 0, str s, .slice none 0 0]) ∧ Ext w w' := by
 go_enter Tryz.func23, Tryz.ntmps23
 go_wp2_with fail
 exact bodyPost_ret (v := .agg #[.int .u8 2, .int .i64 0, str s, .slice none 0 0]) (by simp [results, Tryz.results23, go_sem]) rfl ⟨rfl, (by refine Ext.alloc ?_ _; exact Ext.refl _)⟩
theorem num_c (n : Int) (w : World) : Calls Tryz.prog 24 #[.int .i64 n] w fun e w' => e = .returned (.agg #[.int .u8 1, .int .i64 n, str [], .slice none 0 0]) ∧ Ext w w' := by
 go_enter Tryz.func24, Tryz.ntmps24
 go_wp2_with fail
 exact bodyPost_ret (v := .agg #[.int .u8 1, .int .i64 n, str [], .slice none 0 0]) (by simp [results, Tryz.results24, go_sem]) rfl ⟨rfl, (by refine Ext.alloc ?_ _; exact Ext.refl _)⟩
def All : Nat → Prop := fun _ => True
theorem bin_c (k : Int) (x y : Nd) (xa ya : Option Addr) (xc yc : Nat) (w : World) (hx : x.sits All w xa) (hy : y.sits All w ya) :
 Calls Tryz.prog 22 #[.int .u8 k, x.val xa xc, y.val ya yc] w fun e w' => ∃ a c, e = .returned ((Nd.mk k 0 [] [x, y]).val a c) ∧ Ext w w' ∧ (Nd.mk k 0 [] [x, y]).sits All w' a := by
 have HX := Lib.hid hx; clear hx
 have HY := Lib.hid hy; clear hy
 obtain ⟨xk, xn, xs, xl⟩ := x
 obtain ⟨yk, yn, ys, yl⟩ := y
 simp only [Nd.kind, Nd.num, Nd.name, Nd.kids, Nd.val]
 go_enter Tryz.func22, Tryz.ntmps22
 go_wp2_with fail
 refine bodyPost_ret (v := .agg #[.int .u8 k, .int .i64 0, str [], .slice (some ⟨w.heap.size + 1 + 1 + 1, 0, none⟩) 2 2]) (by simp [results, Tryz.results22, go_sem]) rfl ⟨some ⟨w.heap.size + 1 + 1 + 1, 0, none⟩, 2, rfl, (by refine Ext.alloc ?_ _; refine Ext.alloc ?_ _; refine Ext.alloc ?_ _; refine Ext.alloc ?_ _; exact Ext.refl _), ?_⟩
 simp only [Nd.sits, rowSits, Nd.kind, Nd.num, Nd.name, Nd.kids]
 refine ⟨w.heap.size + 1 + 1 + 1, 0, xa, xc, rfl, trivial, by go_simp, by go_simp, by go_simp, by go_simp, HX.out.ext (by refine Ext.alloc ?_ _; refine Ext.alloc ?_ _; refine Ext.alloc ?_ _; refine Ext.alloc ?_ _; exact Ext.refl _), w.heap.size + 1 + 1 + 1, 0 + 4, ya, yc, rfl, trivial, by go_simp, by go_simp, by go_simp, by go_simp, HY.out.ext (by refine Ext.alloc ?_ _; refine Ext.alloc ?_ _; refine Ext.alloc ?_ _; refine Ext.alloc ?_ _; exact Ext.refl _), trivial⟩
def ndX : Nd := .mk 2 0 [120] []
def ndY : Nd := .mk 2 0 [121] []
def ndZ : Nd := .mk 2 0 [122] []
def nd1 : Nd := .mk 1 1 [] []
def nd3 : Nd := .mk 1 3 [] []
def exA : Nd := .mk 10 0 [] [ndX, .mk 8 0 [] [ndY, nd1]]
def exB : Nd := .mk 9 0 [] [.mk 9 0 [] [ndX, ndY], ndZ]
def exC : Nd := .mk 57 0 [] [.mk 40 0 [] [ndX, nd3]]
theorem exA_text : exA.isExpr = true ∧ exA.text = [120, 32, 42, 32, 40, 121, 32, 43, 32, 49, 41] := by decide +kernel
theorem exB_text : exB.isExpr = true ∧ exB.text = [120, 32, 45, 32, 121, 32, 45, 32, 122] := by decide +kernel
theorem exC_text : exC.isBlock = true ∧ exC.linesT 0 = [120, 32, 43, 61, 32, 51, 59, 10] := by decide +kernel
theorem leaf_sits (k n : Int) (s : List UInt8) (w : World) (a : Option Addr) : (Nd.mk k n s []).sits All w a := by simp [Nd.sits, rowSits]
theorem exA_wf : exA.wf := by simp [exA, ndX, ndY, nd1, Nd.wf, rowWf]
theorem exB_wf : exB.wf := by simp [exB, ndX, ndY, ndZ, Nd.wf, rowWf]
theorem exC_wf : exC.wf := by simp [exC, ndX, nd3, Nd.wf, rowWf]
set_option maxHeartbeats 2000000 in
set_option maxRecDepth 100000 in
theorem awake5_c (w : World) (ht : Tabs w) (hg : Tryz.prog.globals.size ≤ w.heap.size) : Calls Tryz.prog 8 #[] w fun e w' => e = .returned (.bool true) ∧ Ext w w' := by
 have HT := Lib.hid ht; clear ht
 have HG := Lib.hid hg; clear hg
 go_enter Tryz.func8, Tryz.ntmps8
 go_wp2_with fail
 refine (nameA_c [120] _).mono ?_
 rintro e w1 ⟨rfl, hx1⟩
 simp only
 go_wp2_with fail
 refine (nameA_c [121] _).mono ?_
 rintro e w2 ⟨rfl, hx2⟩
 simp only
 go_wp2_with fail
 refine (num_c 1 _).mono ?_
 rintro e w3 ⟨rfl, hx3⟩
 simp only
 go_wp2_with fail
 refine (bin_c 8 ndY nd1 none none 0 0 _ (leaf_sits _ _ _ _ _) (leaf_sits _ _ _ _ _)).mono ?_
 rintro e w4 ⟨a4, c4, rfl, hx4, hs4⟩
 simp only
 go_wp2_with fail
 refine (bin_c 10 ndX (.mk 8 0 [] [ndY, nd1]) none a4 0 c4 _ (leaf_sits _ _ _ _ _) hs4).mono ?_
 rintro e w5 ⟨a5, c5, rfl, hx5, hs5⟩
 have hxx5 : Ext w w5 := (by refine Ext.trans ?_ (by assumption); refine Ext.trans ?_ (by assumption); refine Ext.trans ?_ (by assumption); refine Ext.trans ?_ (by assumption); assumption)
 simp only
 go_wp2_with fail
 refine (Expr_c exA exA_wf (by decide) All a5 c5 _ (HT.out.ext hxx5 HG.out) (Nat.le_trans HG.out hxx5.size) hs5).mono ?_
 rintro e w6 ⟨rfl, hx6⟩
 rw [exA_text.1, exA_text.2]
 simp only [if_true]
 go_wp2_with fail
 refine (nameA_c [120] _).mono ?_
 rintro e w7 ⟨rfl, hx7⟩
 simp only
 go_wp2_with fail
 refine (nameA_c [121] _).mono ?_
 rintro e w8 ⟨rfl, hx8⟩
 simp only
 go_wp2_with fail
 refine (bin_c 9 ndX ndY none none 0 0 _ (leaf_sits _ _ _ _ _) (leaf_sits _ _ _ _ _)).mono ?_
 rintro e w9 ⟨a9, c9, rfl, hx9, hs9⟩
 simp only
 go_wp2_with fail
 refine (nameA_c [122] _).mono ?_
 rintro e w10 ⟨rfl, hx10⟩
 simp only
 go_wp2_with fail
 refine (bin_c 9 (.mk 9 0 [] [ndX, ndY]) ndZ a9 none c9 0 _ (hs9.ext hx10) (leaf_sits _ _ _ _ _)).mono ?_
 rintro e w11 ⟨a11, c11, rfl, hx11, hs11⟩
 have hxx11 : Ext w w11 := (by refine Ext.trans ?_ (by assumption); refine Ext.trans ?_ (by assumption); refine Ext.trans ?_ (by assumption); refine Ext.trans ?_ (by assumption); refine Ext.trans ?_ (by assumption); refine Ext.trans ?_ (by assumption); assumption)
 simp only
 go_wp2_with fail
 refine (Expr_c exB exB_wf (by decide) All a11 c11 _ (HT.out.ext hxx11 HG.out) (Nat.le_trans HG.out hxx11.size) hs11).mono ?_
 rintro e w12 ⟨rfl, hx12⟩
 rw [exB_text.1, exB_text.2]
 simp only [if_true]
 go_wp2_with fail
 refine (nameA_c [120] _).mono ?_
 rintro e w13 ⟨rfl, hx13⟩
 simp only
 go_wp2_with fail
 refine (num_c 3 _).mono ?_
 rintro e w14 ⟨rfl, hx14⟩
 simp only
 go_wp2_with fail
 have hxx14 : Ext w ((w14.alloc (Obj.cells #[.int .u8 2, .int .i64 0, str [120], .slice none 0 0, .int .u8 1, .int .i64 3, str [], .slice none 0 0] 24)).alloc (Obj.cells #[.int .u8 40, .int .i64 0, .string { data := #[] }, .slice (some ⟨w14.heap.size, 0, none⟩) 2 2] 24)) := (by refine Ext.alloc ?_ _; refine Ext.alloc ?_ _; refine Ext.trans ?_ (by assumption); refine Ext.trans ?_ (by assumption); refine Ext.trans ?_ (by assumption); assumption)
 have hsC : exC.sits All ((w14.alloc (Obj.cells #[.int .u8 2, .int .i64 0, str [120], .slice none 0 0, .int .u8 1, .int .i64 3, str [], .slice none 0 0] 24)).alloc (Obj.cells #[.int .u8 40, .int .i64 0, .string { data := #[] }, .slice (some ⟨w14.heap.size, 0, none⟩) 2 2] 24)) (some ⟨w14.heap.size + 1, 0, none⟩) := by
  simp only [exC, ndX, nd3, Nd.sits, rowSits, Nd.kind, Nd.num, Nd.name, Nd.kids, List.length_cons, List.length_nil]
  exact ⟨w14.heap.size + 1, 0, some ⟨w14.heap.size, 0, none⟩, 2, rfl, trivial, by go_simp, by go_simp, by go_simp, by go_simp, ⟨w14.heap.size, 0, none, 0, rfl, trivial, by go_simp, by go_simp, by go_simp, by go_simp, trivial, ⟨w14.heap.size, 0 + 4, none, 0, rfl, trivial, by go_simp, by go_simp, by go_simp, by go_simp, trivial, trivial⟩⟩, trivial⟩
 refine (Block_c exC exC_wf (by decide) All (some ⟨w14.heap.size + 1, 0, none⟩) 1 _ (HT.out.ext hxx14 HG.out) (Nat.le_trans HG.out hxx14.size) hsC).mono ?_
 rintro e w15 ⟨rfl, hx15⟩
 rw [exC_text.1, exC_text.2]
 simp only [if_true]
 go_wp2_with fail
 go_ret
 exact ⟨rfl, hxx14.trans hx15⟩
end Bk
namespace Bk
open Go Go.RowKit Go.Proofs
mutual
def Nd.small : Nd → Int → Int → Bool × Int
 | .mk _ _ s l, d, m => if m < 1 ∨ d = 0 ∨ 40 < s.length then (false, m - 1) else rowSmall l (d - 1) (m - 1)
def rowSmall : List Nd → Int → Int → Bool × Int
 | [], _, m => (true, m)
 | t :: r, d, m => if (t.small d m).1 then rowSmall r d (t.small d m).2 else (false, (t.small d m).2)
end
mutual
theorem small_le : ∀ (t : Nd) (d m : Int), 0 ≤ m → ((t.small d m).1 = true → 0 ≤ (t.small d m).2 ∧ (t.small d m).2 ≤ m)
 | .mk _ _ s l, d, m, hm, h => by
  simp only [Nd.small] at h ⊢
  split at h
  · simp at h
  · rename_i hn
    rw [if_neg hn]
    have := rowSmall_le l (d - 1) (m - 1) (by omega) h
    omega
theorem rowSmall_le : ∀ (l : List Nd) (d m : Int), 0 ≤ m → ((rowSmall l d m).1 = true → 0 ≤ (rowSmall l d m).2 ∧ (rowSmall l d m).2 ≤ m)
 | [], _, m, hm, _ => by simp [rowSmall, hm]
 | t :: r, d, m, hm, h => by
  simp only [rowSmall] at h ⊢
  split at h
  · rename_i ht
    rw [if_pos ht]
    have h1 := small_le t d m hm ht
    have h2 := rowSmall_le r d (t.small d m).2 h1.1 h
    omega
  · simp at h
end
set_option maxHeartbeats 1000000 in
theorem small_c (N : Nat) : ∀ (k n d m : Int) (s : List UInt8) (l : List Nd) (a : Option Addr) (c pb po : Nat) (S : Nat → Prop) (w : World),
 rowSize l < N → (Nd.mk k n s l).wf → rowSits S w l a → ¬ S pb →
 w.cell? ⟨pb, po, none⟩ = some (.int .i64 m) → w.frozen? ⟨pb, po, none⟩ = false → 0 ≤ m → m ≤ 1000 → 0 ≤ d → d ≤ 1000 →
 Calls Tryz.prog 25 #[.agg #[.int .u8 k, .int .i64 n, str s, .slice a l.length c], .int .i64 d, .pointer (some ⟨pb, po, none⟩)] w fun e w' =>
  e = .returned (.bool ((Nd.mk k n s l).small d m).1) ∧ w'.cell? ⟨pb, po, none⟩ = some (.int .i64 ((Nd.mk k n s l).small d m).2) ∧ w'.frozen? ⟨pb, po, none⟩ = false ∧ Fr (· = pb) w w' := by
 induction N with
 | zero => intro k n d m s l a c pb po S w h; omega
 | succ N ih =>
  intro k n d m s l a c pb po S w hN hwf hs hS hc hf hm0 hm1 hd0 hd1
  have hpb := cell_lt hc
  simp only [Nd.wf] at hwf
  obtain ⟨hk0, hk1, hn0, hn1, hsl, hll, hrw⟩ := hwf
  have hpne : ¬ w.heap.size = pb := by simp at hpb; omega
  have hpne' : ¬ pb = w.heap.size := by simp at hpb; omega
  by_cases h1 : m < 1 ∨ d = 0 ∨ 40 < s.length
  · have hr : (Nd.mk k n s l).small d m = (false, m - 1) := by simp only [Nd.small]; rw [if_pos h1]
    have HR := Lib.hid hr; clear hr ih hs hrw
    by_cases e1 : m < 1
    · have d1 : decide (m - 1 < 0) = true := by simp; omega
      clear h1
      go_enter Tryz.func25, Tryz.ntmps25
      go_wp2_with fail
      go_ret
      rw [HR.out]
      exact ⟨rfl, by go_simp, by go_simp, (by repeat (first | exact Fr.refl _ _ | assumption | refine Fr.alloc ?_ _ | refine Fr.drew ?_ | refine Fr.setCell ?_ _ _ (Or.inl rfl) | refine Fr.trans ?_ (by assumption)))⟩
    · have d1 : decide (m - 1 < 0) = false := by simp; omega
      by_cases e2 : d = 0
      · have d2 : (d == 0) = true := by simp [e2]
        clear h1 e2
        go_enter Tryz.func25, Tryz.ntmps25
        go_wp2_with fail
        go_ret
        rw [HR.out]
        exact ⟨rfl, by go_simp, by go_simp, (by repeat (first | exact Fr.refl _ _ | assumption | refine Fr.alloc ?_ _ | refine Fr.drew ?_ | refine Fr.setCell ?_ _ _ (Or.inl rfl) | refine Fr.trans ?_ (by assumption)))⟩
      · have d2 : (d == 0) = false := by simp [e2]
        have d3 : decide ((40 : Int) < s.length) = true := by simp; omega
        clear h1
        go_enter Tryz.func25, Tryz.ntmps25
        go_wp2_with fail
        go_ret
        rw [HR.out]
        exact ⟨rfl, by go_simp, by go_simp, (by repeat (first | exact Fr.refl _ _ | assumption | refine Fr.alloc ?_ _ | refine Fr.drew ?_ | refine Fr.setCell ?_ _ _ (Or.inl rfl) | refine Fr.trans ?_ (by assumption)))⟩
  · have hr : (Nd.mk k n s l).small d m = rowSmall l (d - 1) (m - 1) := by simp only [Nd.small]; rw [if_neg h1]
    have HR := Lib.hid hr; clear hr
    have IH := Lib.hid ih; clear ih
    have d1 : decide (m - 1 < 0) = false := by simp; omega
    have d2 : (d == 0) = false := by simp; omega
    have d3 : decide ((40 : Int) < s.length) = false := by simp; omega
    have hm2 : 1 ≤ m := by omega
    have hd2 : 1 ≤ d := by omega
    clear h1
    go_enter Tryz.func25, Tryz.ntmps25
    go_wp2_with fail
    go_loopw [31] (fun i wr => ∃ (j : Nat) (mj : Int), j ≤ l.length ∧ i = .int .i64 j ∧ 0 ≤ mj ∧ mj ≤ 1000 ∧ Hid (rowSmall l (d - 1) (m - 1) = rowSmall (l.drop j) (d - 1) mj) ∧
     wr.cell? ⟨pb, po, none⟩ = some (.int .i64 mj) ∧ wr.frozen? ⟨pb, po, none⟩ = false ∧ Fr (· = pb) w wr) (fun i _ => l.length - (intOf i).toNat)
    case atStart => exact ⟨0, m - 1, Nat.zero_le _, rfl, by omega, by omega, Lib.hid rfl, by go_simp, by go_simp, (by repeat (first | exact Fr.refl _ _ | assumption | refine Fr.alloc ?_ _ | refine Fr.drew ?_ | refine Fr.setCell ?_ _ _ (Or.inl rfl) | refine Fr.trans ?_ (by assumption)))⟩
    case round =>
     obtain ⟨j, mj, hj, rfl, hmj0, hmj1, HJ, hcj, hfj, hfr⟩ := hrel
     clear hc hf d1 d2 d3
     have hpb' : pb < wr.heap.size := cell_lt hcj
     by_cases hlt : j < l.length
     · have hg : l[j]? = some l[j] := List.getElem?_eq_getElem hlt
       have hmem : l[j] ∈ l := List.getElem_mem hlt
       have hwf := rowWf_get hrw _ hmem
       have hsz := size_mem hmem
       have hdrop := List.drop_eq_getElem_cons hlt
       generalize l[j] = t at *
       obtain ⟨b, o, a', c', rfl, hSb, g0, g1, g2, g3, hsk⟩ := rowSits_get (hs.fr hfr (fun b hb e => hS (e ▸ hb))) hg
       obtain ⟨k', n', s', l'⟩ := t
       simp only [Nd.kind, Nd.num, Nd.name, Nd.kids, Nd.sits, Nd.size] at g0 g1 g2 g3 hsk hsz
       have HG := Lib.hid hg; clear hg
       have HD := Lib.hid hdrop; clear hdrop
       go_wp2_with fail
       refine (IH.out k' n' (d - 1) mj s' l' a' c' pb po S _ (by omega) hwf (hsk.ext ((Ext.refl _).alloc _)) hS (by go_simp) (by go_simp) hmj0 hmj1 (by omega) (by omega)).mono ?_
       rintro e w1 ⟨rfl, hc1, hf1, hfr1⟩
       have hle := small_le (Nd.mk k' n' s' l') (d - 1) mj hmj0
       have hro : rowSmall (Nd.mk k' n' s' l' :: l.drop (j + 1)) (d - 1) mj = if ((Nd.mk k' n' s' l').small (d - 1) mj).1 then rowSmall (l.drop (j + 1)) (d - 1) ((Nd.mk k' n' s' l').small (d - 1) mj).2 else (false, ((Nd.mk k' n' s' l').small (d - 1) mj).2) := rfl
       rw [← HD.out, ← HJ.out] at hro
       generalize (Nd.mk k' n' s' l').small (d - 1) mj = bm at *
       obtain ⟨bb, mm⟩ := bm
       clear hcj hfj g0 g1 g2 g3
       simp only at hc1 hle hro
       have HRO := Lib.hid hro; clear hro
       cases bb
       · clear hle
         simp only
         go_wp2_with fail
         go_ret
         rw [HR.out, HRO.out]
         exact ⟨rfl, hc1, hf1, (by repeat (first | exact Fr.refl _ _ | assumption | refine Fr.alloc ?_ _ | refine Fr.drew ?_ | refine Fr.setCell ?_ _ _ (Or.inl rfl) | refine Fr.trans ?_ (by assumption)))⟩
       · obtain ⟨hle0, hle1⟩ := hle rfl
         simp only
         go_wp2_with fail
         go_roundw
         case rel => exact ⟨j + 1, mm, by omega, by go_num, hle0, by omega, HRO, hc1, hf1, (by repeat (first | exact Fr.refl _ _ | assumption | refine Fr.alloc ?_ _ | refine Fr.drew ?_ | refine Fr.setCell ?_ _ _ (Or.inl rfl) | refine Fr.trans ?_ (by assumption)))⟩
         case measure => simp [intOf]; omega
     · go_wp2_with fail
       go_ret
       have e1 : l.drop j = [] := List.drop_eq_nil_of_le (by omega)
       rw [HR.out, HJ.out, e1]
       exact ⟨rfl, hcj, hfj, hfr⟩
mutual
theorem small_size : ∀ (t : Nd) (d m : Int), 0 ≤ m → (t.small d m).1 = true → (t.size : Int) + (t.small d m).2 ≤ m
 | .mk _ _ s l, d, m, hm, h => by
  simp only [Nd.small, Nd.size] at h ⊢
  split at h
  · simp at h
  · rename_i hn
    rw [if_neg hn]
    have := rowSmall_size l (d - 1) (m - 1) (by omega) h
    omega
theorem rowSmall_size : ∀ (l : List Nd) (d m : Int), 0 ≤ m → (rowSmall l d m).1 = true → (rowSize l : Int) + (rowSmall l d m).2 ≤ m
 | [], _, m, _, _ => by simp [rowSmall, rowSize]
 | t :: r, d, m, hm, h => by
  simp only [rowSmall, rowSize] at h ⊢
  split at h
  · rename_i ht
    rw [if_pos ht]
    have h0 := small_le t d m hm ht
    have h1 := small_size t d m hm ht
    have h2 := rowSmall_size r d (t.small d m).2 h0.1 h
    omega
  · simp at h
end
theorem Ext.frG {S : Nat → Prop} {a b c : World} (h : Ext a b) (k : Fr S b c) (hS : ∀ i, S i → a.heap.size ≤ i) : Ext a c :=
 ⟨k.os.trans (Below.os h), k.tape.trans (Below.tape h), k.output.trans (Below.output h), Nat.le_trans h.size k.size, fun i hi => (k.block i (Nat.lt_of_lt_of_le hi h.size) (fun e => by have := hS i e; omega)).trans (h.block hi)⟩
theorem great_c (t : Nd) (hwf : t.wf) (S : Nat → Prop) (a : Option Addr) (c : Nat) (w : World) (hs : t.sits S w a) :
 Calls Tryz.prog 9 #[t.val a c] w fun e w' => e = .returned (.bool (!(t.small 24 200).1)) ∧ Ext w w' := by
 obtain ⟨k, n, s, l⟩ := t
 simp only [Nd.kind, Nd.num, Nd.name, Nd.kids, Nd.val]
 have hs' := sits_lt _ _ hs
 simp only [Nd.sits] at hs'
 go_enter Tryz.func9, Tryz.ntmps9
 go_wp2_with fail
 refine (small_c (rowSize l + 1) k n 24 200 s l a c (w.heap.size + 1) 0 (· < w.heap.size) _ (by omega) hwf (hs'.ext (by refine Ext.alloc ?_ _; refine Ext.alloc ?_ _; exact Ext.refl _)) (by omega) (by go_simp) (by go_simp) (by omega) (by omega) (by omega) (by omega)).mono ?_
 rintro e w1 ⟨rfl, -, -, hf1⟩
 simp only
 go_wp2_with fail
 go_ret
 exact ⟨rfl, Ext.frG (a := w) (by refine Ext.alloc ?_ _; refine Ext.alloc ?_ _; exact Ext.refl _) hf1 (by rintro k rfl; omega)⟩
end Bk
namespace Bk
open Go Go.RowKit
abbrev Sl := List (Nat × Value)
def look : Sl → Nat → Option Value
 | [], _ => none
 | (k, v) :: r, d => match Nat.beq k d with
  | true => some v
  | false => look r d
def ev (l : Sl) : Operand → Option Value
 | .tmp t => look l t
 | .const v => some v
 | .global g => some (.pointer (some ⟨g, 0, none⟩))
 | .func f => some (.func (.func f) #[] #[])
def evs (l : Sl) : List Operand → Option (List Value)
 | [] => some []
 | x :: r => match ev l x with
  | none => none
  | some v => match evs l r with
   | none => none
   | some vs => some (v :: vs)
structure Env (n : Nat) (l : Sl) (a : Act) : Prop where
 size : a.tmps.size = n
 defers : a.defers = []
 has : ∀ d v, look l d = some v → a.tmps.getD d undef = v
theorem Env.ev {n : Nat} {l : Sl} {a : Act} (h : Env n l a) {x : Operand} {v : Value} (hx : ev l x = some v) : a.eval x = v := by
 cases x with
 | tmp t => exact h.has t v hx
 | const c => simpa [Bk.ev, Act.eval] using hx
 | global g => simpa [Bk.ev, Act.eval] using hx
 | func f => simpa [Bk.ev, Act.eval] using hx
theorem Env.evs {n : Nat} {l : Sl} {a : Act} (h : Env n l a) : ∀ {xs : List Operand} {vs : List Value}, evs l xs = some vs → xs.map a.eval = vs
 | [], vs, hx => by simp [Bk.evs] at hx; simp [hx]
 | x :: r, vs, hx => by
  simp only [Bk.evs] at hx
  cases h1 : Bk.ev l x with
  | none => simp [h1] at hx
  | some v =>
   cases h2 : Bk.evs l r with
   | none => simp [h1, h2] at hx
   | some us =>
    simp [h1, h2] at hx
    subst hx
    simp [h.ev h1, Env.evs h h2]
theorem look_cons (k : Nat) (v : Value) (l : Sl) (d : Nat) : look ((k, v) :: l) d = if k = d then some v else look l d := by
 simp only [look]
 by_cases h : k = d
 · subst h; simp
 · have : Nat.beq k d = false := by
    cases hb : Nat.beq k d
    · rfl
    · exact absurd (Nat.eq_of_beq_eq_true hb) h
   rw [this, if_neg h]
theorem Env.put {n : Nat} {l : Sl} {a : Act} (h : Env n l a) {d : Nat} (hd : Nat.blt d n = true) (v : Value) : Env n ((d, v) :: l) (a.put (some d) v) := by
 have hd' : d < n := Nat.le_of_ble_eq_true hd
 refine ⟨by simp [Act.put, h.size], by simp [Act.put, h.defers], fun k u hk => ?_⟩
 rw [look_cons] at hk
 simp only [Act.put]
 by_cases e : d = k
 · subst e
   simp at hk
   subst hk
   simp [h.size, hd']
 · rw [if_neg e] at hk
   have := h.has k u hk
   simpa [Array.getElem?_setIfInBounds_ne e] using this
def Sub (m l : Sl) : Prop := ∀ d v, look m d = some v → look l d = some v
theorem Env.sub {n : Nat} {m l : Sl} {a : Act} (h : Env n l a) (hs : Sub m l) : Env n m a := ⟨h.size, h.defers, fun d v hv => h.has d v (hs d v hv)⟩
theorem sub_nil {l : Sl} : Sub [] l := fun _ _ h => by simp [look] at h
theorem sub_cons {m l : Sl} {d : Nat} {v : Value} (h : look l d = some v) (r : Sub m l) : Sub ((d, v) :: m) l := fun k u hk => by
 rw [look_cons] at hk
 by_cases e : d = k
 · subst e; simp at hk; subst hk; exact h
 · rw [if_neg e] at hk; exact r k u hk
theorem sub_cons' {m l : Sl} {d : Nat} {v v' : Value} (h : look l d = some v') (e : v' = v) (r : Sub m l) : Sub ((d, v) :: m) l := sub_cons (e ▸ h) r
def CW (P : Program) (n : Nat) (c : Code) (Q : Exit → Act → World → Prop) (l : Sl) (w : World) : Prop := ∀ a, Env n l a → c.wp P Q a w
def LW (P : Program) (n : Nat) (ops : Array Oper) (Q : Exit → Act → World → Prop) (os : List Oper) (l : Sl) (w : World) : Prop := ∀ a, Env n l a → wpList P ops Q os a w
def QW (n : Nat) (Q : Exit → Act → World → Prop) (e : Exit) (l : Sl) (w : World) : Prop := ∀ a, Env n l a → Q e a w
section code
variable {P : Program} {n : Nat} {Q : Exit → Act → World → Prop} {l : Sl} {w : World}
theorem CW.sub {c : Code} {m : Sl} (h : CW P n c Q m w) (hs : Sub m l) : CW P n c Q l w := fun a ha => h a (ha.sub hs)
theorem cw_seq {x y : Code} (h : CW P n x (Exit.then (y.wp P Q) Q) l w) : CW P n (.seq x y) Q l w := fun a ha => wp_seq (h a ha)
theorem qw_then {y : Code} (h : CW P n y Q l w) : QW n (Exit.then (y.wp P Q) Q) .normal l w := h
theorem qw_then_ret {K : Act → World → Prop} (h : QW n Q .ret l w) : QW n (Exit.then K Q) .ret l w := h
theorem qw_then_exit {K : Act → World → Prop} {i : Nat} (h : QW n Q (.exit i) l w) : QW n (Exit.then K Q) (.exit i) l w := h
theorem cw_skip (h : QW n Q .normal l w) : CW P n .skip Q l w := fun a ha => wp_skip (h a ha)
theorem cw_exit {i : Nat} (h : QW n Q (.exit i) l w) : CW P n (.exit i) Q l w := fun a ha => wp_exit (h a ha)
theorem cw_ret (h : QW n Q .ret l w) : CW P n .ret Q l w := fun a ha => wp_ret (h a ha)
theorem cw_block {i : Nat} {c : Code} (h : CW P n c (Exit.inBlock i Q) l w) : CW P n (.block i c) Q l w := fun a ha => wp_block (h a ha)
theorem qw_block_norm {i : Nat} (h : QW n Q .normal l w) : QW n (Exit.inBlock i Q) .normal l w := h
theorem qw_block_ret {i : Nat} (h : QW n Q .ret l w) : QW n (Exit.inBlock i Q) .ret l w := h
theorem qw_block_exit {i : Nat} (h : QW n Q .normal l w) : QW n (Exit.inBlock i Q) (.exit i) l w := fun a ha => by simp only [Exit.inBlock, if_true]; exact h a ha
theorem cw_cond_t {c : Operand} {x y : Code} (hc : ev l c = some (.bool true)) (h : CW P n x Q l w) : CW P n (.cond c x y) Q l w := fun a ha => wp_cond_true (ha.ev hc) (h a ha)
theorem cw_cond_f {c : Operand} {x y : Code} (hc : ev l c = some (.bool false)) (h : CW P n y Q l w) : CW P n (.cond c x y) Q l w := fun a ha => wp_cond_false (ha.ev hc) (h a ha)
theorem cw_cond {c : Operand} {x y : Code} {b : Bool} (hc : ev l c = some (.bool b)) (ht : b = true → CW P n x Q l w) (hf : b = false → CW P n y Q l w) : CW P n (.cond c x y) Q l w :=
 fun a ha => wp_cond_split (ha.ev hc) (fun e => ht e a ha) (fun e => hf e a ha)
theorem cw_dec {c : Operand} {x y : Code} {p : Prop} [Decidable p] (hc : ev l c = some (.bool (decide p))) (ht : p → CW P n x Q l w) (hf : ¬ p → CW P n y Q l w) : CW P n (.cond c x y) Q l w :=
 cw_cond hc (fun e => ht (of_decide_eq_true e)) (fun e => hf (of_decide_eq_false e))
theorem cw_yes {c : Operand} {x y : Code} {p : Prop} [Decidable p] (hc : ev l c = some (.bool (decide p))) (hp : p) (h : CW P n x Q l w) : CW P n (.cond c x y) Q l w :=
 cw_dec hc (fun _ => h) (fun e => absurd hp e)
theorem cw_no {c : Operand} {x y : Code} {p : Prop} [Decidable p] (hc : ev l c = some (.bool (decide p))) (hp : ¬ p) (h : CW P n y Q l w) : CW P n (.cond c x y) Q l w :=
 cw_dec hc (fun e => absurd e hp) (fun _ => h)
theorem cw_bt {c : Operand} {x y : Code} {b : Bool} (hc : ev l c = some (.bool b)) (hb : b = true) (h : CW P n x Q l w) : CW P n (.cond c x y) Q l w := cw_cond_t (hb ▸ hc) h
theorem cw_bf {c : Operand} {x y : Code} {b : Bool} (hc : ev l c = some (.bool b)) (hb : b = false) (h : CW P n y Q l w) : CW P n (.cond c x y) Q l w := cw_cond_f (hb ▸ hc) h
theorem cw_region {id : Nat} {os : List Oper} (h : LW P n os.toArray Q os l w) : CW P n (.region id os.toArray false) Q l w := fun a ha => wp_region_lit (h a ha)
theorem cw_loop {ι : Type} {c : Code} (L : ι → Sl) (I : ι → World → Prop) (μ : ι → Nat) (x₀ : ι) (hs : Sub (L x₀) l) (h₀ : I x₀ w)
 (round : ∀ x w, I x w → CW P n c (Exit.then (fun a' w' => ∃ y, Env n (L y) a' ∧ I y w' ∧ μ y < μ x) Q) (L x) w) : CW P n (.loop c) Q l w := by
 intro a ha
 intro b k cs
 have key : ∀ m x a w, μ x = m → I x w → Env n (L x) a →
  ∃ e a' w', Q e a' w' ∧ Arrives P (lone (b.at a (.code c :: .inLoop c :: k)) cs w) b k cs e a' w' := by
  intro m
  induction m using Nat.strongRecOn with
  | _ m ih =>
   intro x a w hm hI hE
   obtain ⟨e, a₁, w₁, hq, harr⟩ := round x w hI a hE b (.inLoop c :: k) cs
   cases e with
   | normal =>
    obtain ⟨y, hE₁, hI₁, hlt⟩ := hq
    obtain ⟨e₂, a₂, w₂, hq₂, harr₂⟩ := ih (μ y) (hm ▸ hlt) y a₁ w₁ rfl hI₁ hE₁
    exact ⟨e₂, a₂, w₂, hq₂, .of_steps (Steps.trans harr (.one step_inLoop)) harr₂⟩
   | exit id => exact ⟨_, a₁, w₁, hq, .pass (x := .inLoop c) rfl (fun _ _ => .inl (by simp)) harr⟩
   | goto l => exact ⟨_, a₁, w₁, hq, .pass (x := .inLoop c) rfl (fun _ _ => .inl (by simp)) harr⟩
   | ret => exact ⟨_, a₁, w₁, hq, .pass (x := .inLoop c) rfl (fun _ _ => .inl (by simp)) harr⟩
   | panic ch => exact ⟨_, a₁, w₁, hq, .pass (x := .inLoop c) rfl (fun _ _ => .inl (by simp)) harr⟩
   | outgrown => exact ⟨_, a₁, w₁, hq, harr⟩
 obtain ⟨e, a', w', hq, harr⟩ := key (μ x₀) x₀ a w rfl h₀ (ha.sub hs)
 exact ⟨e, a', w', hq, .of_steps (.one step_loop) harr⟩
theorem qw_round {ι : Type} {L : ι → Sl} {I : ι → World → Prop} {μ : ι → Nat} {x : ι} (y : ι) (hs : Sub (L y) l) (h : I y w) (hm : μ y < μ x) :
 QW n (Exit.then (fun a' w' => ∃ y, Env n (L y) a' ∧ I y w' ∧ μ y < μ x) Q) .normal l w := fun _ ha => ⟨y, ha.sub hs, h, hm⟩
end code
def enumSl : Nat → List Value → Sl
 | _, [] => []
 | i, v :: r => (i, v) :: enumSl (i + 1) r
theorem look_enum (d : Nat) (v : Value) : ∀ (vs : List Value) (i : Nat), look (enumSl i vs) d = some v → i ≤ d ∧ vs[d - i]? = some v
 | [], _, h => by simp [enumSl, look] at h
 | u :: r, i, h => by
  simp only [enumSl] at h
  rw [look_cons] at h
  by_cases e : i = d
  · subst e; simp at h; subst h; simp
  · rw [if_neg e] at h
    obtain ⟨h1, h2⟩ := look_enum d v r (i + 1) h
    refine ⟨by omega, ?_⟩
    rw [show d - i = (d - (i + 1)) + 1 from by omega]
    simpa using h2
theorem calls_in {P : Program} {f : FuncId} {fn : Func} {c : Code} {args : List Value} {n : Nat} {w : World} {R : Ending → World → Prop}
 (hf : P.funcs[f]? = some fn) (hn : fn.ntmps = n) (hb : fn.body = some c) (hl : Nat.ble args.length n = true) (h : CW P n c (bodyPost P fn R) (enumSl 0 args) w) : Calls P f args.toArray w R := by
 refine calls_of_wp hf hb (h _ ?_)
 have hl' : args.length ≤ n := by simpa using hl
 refine ⟨by simp; omega, rfl, fun d v hv => ?_⟩
 obtain ⟨-, h2⟩ := look_enum d v args 0 hv
 simp only [Nat.sub_zero] at h2
 have : d < args.length := by
  rcases Nat.lt_or_ge d args.length with h | h
  · exact h
  · rw [List.getElem?_eq_none h] at h2; cases h2
 rw [List.getElem?_eq_getElem this] at h2
 simp only [Option.some.injEq] at h2
 simp [Array.getElem?_append, this, h2]
section ends
variable {P : Program} {fn : Func} {n : Nat} {R : Ending → World → Prop} {l : Sl} {w : World}
theorem qw_end0 (h : fn.results = #[]) (hR : R (.returned (.tuple #[])) w) : QW n (bodyPost P fn R) .normal l w := fun a ha => ⟨ha.defers, _, results_none h _ _ _, hR⟩
theorem qw_ret1 {t : Nat} {v : Value} (h : fn.results = #[.tmp t]) (hv : look l t = some v) (hR : R (.returned v) w) : QW n (bodyPost P fn R) .ret l w := fun a ha =>
 ⟨ha.defers, _, results_tmp h _ _ _, by rw [ha.has t v hv]; exact hR⟩
end ends
inductive Sk where
 | int (k : IntKind) | bool | str | slice (e : Nat) | struct (fs : List (Nat × Nat)) | array (len e : Nat) | ptr (e : Nat) | map (k e : Nat) | func | iface
abbrev Tab := List (Nat × Sk × Nat)
def lookT : Tab → Nat → Option (Sk × Nat)
 | [], _ => none
 | p :: r, t => match Nat.beq p.1 t with
  | true => some p.2
  | false => lookT r t
def Sk.ok (P : Program) (t : Nat) : Sk → Prop
 | .int k => P.underlying t = some (.int k)
 | .bool => P.underlying t = some .bool
 | .str => P.underlying t = some .string
 | .slice e => P.underlying t = some (.slice e)
 | .array n e => P.underlying t = some (.array n e)
 | .ptr e => P.underlying t = some (.pointer e)
 | .map k e => P.underlying t = some (.map k e)
 | .func => ∃ a b c, P.underlying t = some (.func a b c)
 | .iface => ∃ a, P.underlying t = some (.interface a)
 | .struct fs => ∃ gs, P.underlying t = some (.struct gs) ∧ gs.size = fs.length ∧ ∀ (i o ft : Nat), fs[i]? = some (o, ft) → ∃ g : Field, gs[i]? = some g ∧ g.offset = o ∧ g.type = ft ∧ ∃ j : TypeInfo, P.info? ft = some j ∧ j.size ≠ 0
def Sk.check (P : Program) (t : Nat) : Sk → Bool
 | .int k => match P.underlying t with | some (.int k') => decide (k = k') | _ => false
 | .bool => match P.underlying t with | some .bool => true | _ => false
 | .str => match P.underlying t with | some .string => true | _ => false
 | .slice e => match P.underlying t with | some (.slice e') => Nat.beq e' e | _ => false
 | .array n e => match P.underlying t with | some (.array n' e') => Nat.beq n' n && Nat.beq e' e | _ => false
 | .ptr e => match P.underlying t with | some (.pointer e') => Nat.beq e' e | _ => false
 | .map k e => match P.underlying t with | some (.map k' e') => Nat.beq k' k && Nat.beq e' e | _ => false
 | .func => match P.underlying t with | some (.func _ _ _) => true | _ => false
 | .iface => match P.underlying t with | some (.interface _) => true | _ => false
 | .struct fs => match P.underlying t with
  | some (.struct gs) => Nat.beq gs.size fs.length && (List.range fs.length).all fun i => match fs[i]?, gs[i]? with
   | some (o, ft), some g => Nat.beq g.offset o && Nat.beq g.type ft && match P.info? ft with | some j => !Nat.beq j.size 0 | none => false
   | _, _ => false
  | _ => false
theorem Sk.ok_of_check {P : Program} {t : Nat} {s : Sk} (h : s.check P t = true) : s.ok P t := by
 cases s with
 | struct fs =>
  simp only [Sk.check] at h
  split at h
  · rename_i gs hg
    simp only [Bool.and_eq_true, List.all_eq_true, List.mem_range] at h
    refine ⟨gs, hg, Nat.eq_of_beq_eq_true h.1, fun i o ft hi => ?_⟩
    have hlt : i < fs.length := by
     rcases Nat.lt_or_ge i fs.length with h' | h'
     · exact h'
     · rw [List.getElem?_eq_none h'] at hi; cases hi
    have hh := h.2 i hlt
    rw [hi] at hh
    split at hh
    · rename_i o' ft' g e1 e2
      simp only [Option.some.injEq, Prod.mk.injEq] at e1
      obtain ⟨rfl, rfl⟩ := e1
      simp only [Bool.and_eq_true] at hh
      refine ⟨g, e2, Nat.eq_of_beq_eq_true hh.1.1, Nat.eq_of_beq_eq_true hh.1.2, ?_⟩
      have h3 := hh.2
      split at h3
      · rename_i j hj
        exact ⟨j, hj, fun e => by rw [e] at h3; simp at h3⟩
      · cases h3
    · cases hh
  · cases h
 | func =>
  simp only [Sk.check] at h
  split at h
  · exact ⟨_, _, _, by assumption⟩
  · cases h
 | iface =>
  simp only [Sk.check] at h
  split at h
  · exact ⟨_, by assumption⟩
  · cases h
 | int k => simp only [Sk.check] at h; split at h <;> simp_all [Sk.ok]
 | bool => simp only [Sk.check] at h; split at h <;> simp_all [Sk.ok]
 | str => simp only [Sk.check] at h; split at h <;> simp_all [Sk.ok]
 | slice e => simp only [Sk.check] at h; split at h <;> simp_all [Sk.ok]
 | ptr e => simp only [Sk.check] at h; split at h <;> simp_all [Sk.ok]
 | array n e => simp only [Sk.check] at h; split at h <;> simp_all [Sk.ok]
 | map n e => simp only [Sk.check] at h; split at h <;> simp_all [Sk.ok]
structure TyOk (P : Program) (t : Nat) (s : Sk) (sz : Nat) : Prop where
 under : s.ok P t
 info : ∃ i, P.info? t = some i ∧ i.size = sz
def TabOk (P : Program) (tab : Tab) : Prop := ∀ t s sz, lookT tab t = some (s, sz) → TyOk P t s sz
def Tab.check (P : Program) (tab : Tab) : Bool := tab.all fun p => p.2.1.check P p.1 && match P.info? p.1 with | some i => Nat.beq i.size p.2.2 | none => false
theorem lookT_mem {tab : Tab} {t : Nat} {x : Sk × Nat} (h : lookT tab t = some x) : (t, x) ∈ tab := by
 induction tab with
 | nil => simp [lookT] at h
 | cons p r ih =>
  simp only [lookT] at h
  split at h
  · rename_i hb
    have := Nat.eq_of_beq_eq_true hb
    simp only [Option.some.injEq] at h
    subst h this
    exact List.mem_cons_self
  · exact List.mem_cons_of_mem _ (ih h)
theorem TabOk.of_check {P : Program} {tab : Tab} (h : tab.check P = true) : TabOk P tab := fun t s sz hl => by
 have := List.all_eq_true.1 h _ (lookT_mem hl)
 simp only [Bool.and_eq_true] at this
 refine ⟨Sk.ok_of_check this.1, ?_⟩
 have h2 := this.2
 split at h2
 · rename_i i hi
   exact ⟨i, hi, Nat.eq_of_beq_eq_true h2⟩
 · cases h2
def Pur (P : Program) (n : Nat) (l : Sl) (S : World → Prop) (op : Op) (ty : TypeId) (v : Value) : Prop :=
 ∀ a w dst pos after g, Env n l a → S w → (execOp a.eval ⟨dst, op, ty, pos, after, g⟩).run P w = .ok (.value v) w
section pur
variable {P : Program} {n : Nat} {l : Sl} {S : World → Prop} {ty : TypeId} {tab : Tab}
theorem pur_move {x : Operand} {v : Value} (h : ev l x = some v) : Pur P n l S (.move x) ty v := fun a w dst pos after g ha _ => by
 simp [execOp, ha.ev h]
theorem pur_assign {x : Operand} {v : Value} (h : ev l x = some v) : Pur P n l S (.assign x) ty v := fun a w dst pos after g ha _ => by
 simp [execOp, ha.ev h]
theorem run_underlying {t : Nat} {d : TypeDesc} (h : P.underlying t = some d) (w : World) : (underlying t).run P w = .ok d w := by
 simp [underlying, program, Sem.run, h, bind, Sem.bind, pure]
theorem run_size {t : Nat} {i : TypeInfo} (h : P.info? t = some i) (w : World) : (Go.sizeOf t).run P w = .ok i.size w := by
 simp [Go.sizeOf, typeInfo, program, Sem.run, h, bind, Sem.bind, pure]
theorem run_sizeOf {t : Nat} {s : Sk} {sz : Nat} (h : TyOk P t s sz) (w : World) : (Go.sizeOf t).run P w = .ok sz w := by
 obtain ⟨i, hi, hs⟩ := h.info
 simp [Go.sizeOf, typeInfo, program, Sem.run, hi, bind, Sem.bind, pure, hs]
theorem pur_fieldAddr {x : Operand} {s f b o off ft sz : Nat} {fs : List (Nat × Nat)} (T : TabOk P tab) (hx : ev l x = some (.pointer (some ⟨b, o, none⟩)))
 (ht : lookT tab s = some (.struct fs, sz)) (hf : fs[f]? = some (off, ft)) : Pur P n l S (.fieldAddr s x f) ty (.pointer (some ⟨b, o + off, none⟩)) := fun a w dst pos after g ha _ => by
 obtain ⟨gs, h1, -, h2⟩ := (T _ _ _ ht).under
 obtain ⟨fd, h3, h4, h5, j, h6, h7⟩ := h2 f off ft hf
 have e : (Instr.fieldAt s (.pointer (some ⟨b, o, none⟩)) f).run P w = .ok (.pointer (some ⟨b, o + off, none⟩)) w := by
  simp only [Instr.fieldAt, Sem.run_bind, run_underlying h1, Result.andThen, h3, Instr.sureAddr, Sem.run_pure, fieldPlace, h5, h4]
  simp only [run_size h6, h7, if_false, Sem.run_pure, Addr.add]
  by_cases h0 : off = 0
  · subst h0; simp
  · simp [h0]
 simp [execOp, ha.ev hx, e]
theorem pur_fieldAddr0 {x : Operand} {s f b o ft sz : Nat} {fs : List (Nat × Nat)} (T : TabOk P tab) (hx : ev l x = some (.pointer (some ⟨b, o, none⟩)))
 (ht : lookT tab s = some (.struct fs, sz)) (hf : fs[f]? = some (0, ft)) : Pur P n l S (.fieldAddr s x f) ty (.pointer (some ⟨b, o, none⟩)) := pur_fieldAddr T hx ht hf
def Sk.agg : Sk → Bool
 | .struct _ | .array _ _ => true
 | _ => false
theorem run_isAgg {t : Nat} {s : Sk} {sz : Nat} (h : TyOk P t s sz) (w : World) : (isAgg t).run P w = .ok s.agg w := by
 have := h.under
 cases s with
 | struct fs => obtain ⟨gs, h1, -⟩ := this; simp [isAgg, run_underlying h1, Result.andThen, Sk.agg]
 | func => obtain ⟨_, _, _, h1⟩ := this; simp [isAgg, run_underlying h1, Result.andThen, Sk.agg]
 | iface => obtain ⟨_, h1⟩ := this; simp [isAgg, run_underlying h1, Result.andThen, Sk.agg]
 | _ => simp [isAgg, run_underlying this, Result.andThen, Sk.agg]
theorem pur_load {x : Operand} {t sz : Nat} {s : Sk} {p : Addr} {v : Value} (T : TabOk P tab) (ht : lookT tab t = some (s, sz)) (hs : s.agg = false) (hx : ev l x = some (.pointer (some p)))
 (hc : ∀ w, S w → w.cell? p = some v) : Pur P n l S (.load t x) ty v := fun a w dst pos after g ha hS => by
 have e : (Instr.loadAt t (.pointer (some p))).run P w = .ok v w := by
  simp only [Instr.loadAt, Instr.sureAddr, Sem.run_bind, Sem.run_pure, Result.andThen, loadVar, run_isAgg (T _ _ _ ht), hs]
  simp [load, Sem.run, hc w hS]
 simp [execOp, ha.ev hx, e]
def Row (w : World) (p : Addr) (vs : List Value) : Prop := ∀ i v, vs[i]? = some v → w.cell? (p.add i) = some v
theorem run_loadCells' {w : World} {p : Addr} {vs : List Value} (h : Row w p vs) : (loadCells p vs.length).run P w = .ok vs.toArray w :=
 run_loadCells_list w p vs h
theorem pur_loads {x : Operand} {t sz : Nat} {s : Sk} {p : Addr} {vs : List Value} (T : TabOk P tab) (ht : lookT tab t = some (s, sz)) (hs : s.agg = true) (hx : ev l x = some (.pointer (some p)))
 (hl : vs.length = sz) (hc : ∀ w, S w → Row w p vs) : Pur P n l S (.load t x) ty (.agg vs.toArray) := fun a w dst pos after g ha hS => by
 have e : (Instr.loadAt t (.pointer (some p))).run P w = .ok (.agg vs.toArray) w := by
  simp only [Instr.loadAt, Instr.sureAddr, Sem.run_bind, Sem.run_pure, Result.andThen, loadVar, run_isAgg (T _ _ _ ht), hs, if_true, run_sizeOf (T _ _ _ ht)]
  rw [← hl, run_loadCells' (hc w hS)]
 simp [execOp, ha.ev hx, e]
theorem pur_loads' {x : Operand} {t sz : Nat} {s : Sk} {p : Addr} {vs : List Value} (T : TabOk P tab) (ht : lookT tab t = some (s, sz)) (hs : s.agg = true) (hx : ev l x = some (.pointer (some p)))
 (hc : ∀ w, S w → Row w p vs) (hl : vs.length = sz) : Pur P n l S (.load t x) ty (.agg vs.toArray) := pur_loads T ht hs hx hl hc
theorem pur_indexAddr {x i : Operand} {t e sz szE b o len cap : Nat} {k : IntKind} {j : Int} {sE : Sk} (T : TabOk P tab) (ht : lookT tab t = some (.slice e, sz)) (hE : lookT tab e = some (sE, szE))
 (hx : ev l x = some (.slice (some ⟨b, o, none⟩) len cap)) (hi : ev l i = some (.int k j)) (h0 : 0 ≤ j) (h1 : j < len) : Pur P n l S (.indexAddr t x i) ty (.pointer (some ⟨b, o + j.toNat * szE, none⟩)) := fun a w dst pos after g ha _ => by
 have hu : P.underlying t = some (.slice e) := (T _ _ _ ht).under
 have e : (Instr.indexAt t (.slice (some ⟨b, o, none⟩) len cap) (.int k j)).run P w = .ok (.pointer (some ⟨b, o + j.toNat * szE, none⟩)) w := by
  simp only [Instr.indexAt, asIntOf, Sem.run_bind, Sem.run_pure, Result.andThen, run_underlying hu]
  simp only [h0, h1, and_self, if_true, Sem.run_bind, run_sizeOf (T _ _ _ hE), Result.andThen, Sem.run_pure, Addr.add]
  by_cases hz : j.toNat * szE = 0
  · simp [hz]
  · simp [hz]
 simp [execOp, ha.ev hx, ha.ev hi, e]
theorem run_guard_int {op : BinOp} {t : Nat} {x y : Operand} {k k' : IntKind} {a b : Int} {w : World} : (eqGuard op t x y (.int k a) (.int k' b)).run P w = .ok () w := by
 unfold eqGuard; cases op <;> simp
theorem run_guard_str {op : BinOp} {t : Nat} {x y : Operand} {a b : ByteArray} {w : World} : (eqGuard op t x y (.string a) (.string b)).run P w = .ok () w := by
 unfold eqGuard; cases op <;> simp
theorem beq_dec {α : Type} [BEq α] [LawfulBEq α] [DecidableEq α] (a b : α) : (a == b) = decide (a = b) := by
 rw [Bool.eq_iff_iff]; simp
section ints
variable {x y : Operand} {t t' : Nat} {k : IntKind} {a b c : Int}
theorem pur_add (hx : ev l x = some (.int k a)) (hy : ev l y = some (.int k b)) (hc : k.wrap (a + b) = c) : Pur P n l S (.binOp .add t x y t') ty (.int k c) := fun a w dst pos after g ha _ => by
 subst hc; simp [execOp, ha.ev hx, ha.ev hy, run_guard_int, binOp, Op.intArith]
theorem pur_eql (hx : ev l x = some (.int k a)) (hy : ev l y = some (.int k b)) : Pur P n l S (.binOp .eql t x y t') ty (.bool (decide (a = b))) := fun a w dst pos after g ha _ => by
 simp [execOp, ha.ev hx, ha.ev hy, run_guard_int, binOp, Op.intCmp, beq_dec]
theorem pur_neq (hx : ev l x = some (.int k a)) (hy : ev l y = some (.int k b)) : Pur P n l S (.binOp .neq t x y t') ty (.bool (decide (a ≠ b))) := fun a w dst pos after g ha _ => by
 simp [execOp, ha.ev hx, ha.ev hy, run_guard_int, binOp, Op.intCmp, bne, beq_dec]
theorem pur_lss (hx : ev l x = some (.int k a)) (hy : ev l y = some (.int k b)) : Pur P n l S (.binOp .lss t x y t') ty (.bool (decide (a < b))) := fun a w dst pos after g ha _ => by
 simp [execOp, ha.ev hx, ha.ev hy, run_guard_int, binOp, Op.intCmp]
theorem pur_leq (hx : ev l x = some (.int k a)) (hy : ev l y = some (.int k b)) : Pur P n l S (.binOp .leq t x y t') ty (.bool (decide (a ≤ b))) := fun a w dst pos after g ha _ => by
 simp [execOp, ha.ev hx, ha.ev hy, run_guard_int, binOp, Op.intCmp]
theorem pur_gtr (hx : ev l x = some (.int k a)) (hy : ev l y = some (.int k b)) : Pur P n l S (.binOp .gtr t x y t') ty (.bool (decide (b < a))) := fun a w dst pos after g ha _ => by
 simp [execOp, ha.ev hx, ha.ev hy, run_guard_int, binOp, Op.intCmp]
end ints
theorem str_app (a b : List UInt8) : (⟨a.toArray⟩ : ByteArray) ++ ⟨b.toArray⟩ = ⟨(a ++ b).toArray⟩ := by
 apply ByteArray.ext; simp
theorem str_toList (a : List UInt8) : (⟨a.toArray⟩ : ByteArray).toList = a := by
 simp [ByteArray.toList_eq]
section strs
variable {x y : Operand} {t t' : Nat} {a b : List UInt8}
theorem pur_sadd (hx : ev l x = some (str a)) (hy : ev l y = some (str b)) (hl : a.length + b.length ≤ 9223372036854775807) : Pur P n l S (.binOp .add t x y t') ty (str (a ++ b)) := fun _ w dst pos after g ha _ => by
 have h : ¬ IntKind.i64.max < (((⟨a.toArray⟩ : ByteArray).size + (⟨b.toArray⟩ : ByteArray).size : Nat) : Int) := by
  have e1 : (⟨a.toArray⟩ : ByteArray).size = a.length := by simp [ByteArray.size]
  have e2 : (⟨b.toArray⟩ : ByteArray).size = b.length := by simp [ByteArray.size]
  rw [e1, e2]
  simp only [IntKind.max, IntKind.signed, IntKind.bits]
  omega
 simp only [execOp, ha.ev hx, ha.ev hy, Sem.run_bind, run_guard_str, Result.andThen, binOp, Op.stringOp, gt_iff_lt, if_neg h, Sem.run_pure, str_app]
theorem pur_seql (hx : ev l x = some (str a)) (hy : ev l y = some (str b)) : Pur P n l S (.binOp .eql t x y t') ty (.bool (decide (a = b))) := fun _ w dst pos after g ha _ => by
 simp only [execOp, ha.ev hx, ha.ev hy, Sem.run_bind, run_guard_str, Result.andThen, binOp, Op.stringOp, Sem.run_pure, str_toList, beq_dec]
theorem pur_sneq (hx : ev l x = some (str a)) (hy : ev l y = some (str b)) : Pur P n l S (.binOp .neq t x y t') ty (.bool (decide (a ≠ b))) := fun _ w dst pos after g ha _ => by
 simp only [execOp, ha.ev hx, ha.ev hy, Sem.run_bind, run_guard_str, Result.andThen, binOp, Op.stringOp, Sem.run_pure, str_toList]
 congr 3
 by_cases h : a = b <;> simp [h]
theorem pur_not {q : Bool} (hx : ev l x = some (.bool q)) : Pur P n l S (.unOp .not t x) ty (.bool !q) := fun _ w dst pos after g ha _ => by
 simp [execOp, ha.ev hx, Op.unary]
theorem pur_pick_t {c : Operand} {q : Bool} {u : Value} (hc : ev l c = some (.bool q)) (hx : ev l x = some u) (hq : q = true) : Pur P n l S (.pick c x y) ty u := fun _ w dst pos after g ha _ => by
 subst hq
 simp [execOp, ha.ev hc, ha.ev hx, asBool]
theorem pur_pick_f {c : Operand} {q : Bool} {v : Value} (hc : ev l c = some (.bool q)) (hy : ev l y = some v) (hq : q = false) : Pur P n l S (.pick c x y) ty v := fun _ w dst pos after g ha _ => by
 subst hq
 simp [execOp, ha.ev hc, ha.ev hy, asBool]
theorem pur_pick_yes {c : Operand} {p : Prop} [Decidable p] {u : Value} (hc : ev l c = some (.bool (decide p))) (hx : ev l x = some u) (hp : p) : Pur P n l S (.pick c x y) ty u := pur_pick_t hc hx (decide_eq_true hp)
theorem pur_pick_no {c : Operand} {p : Prop} [Decidable p] {v : Value} (hc : ev l c = some (.bool (decide p))) (hy : ev l y = some v) (hp : ¬ p) : Pur P n l S (.pick c x y) ty v := pur_pick_f hc hy (decide_eq_false hp)
theorem pur_extract {i : Nat} {v : Value} {vs : List Value} (hx : ev l x = some (.tuple vs.toArray)) (hi : vs[i]? = some v) : Pur P n l S (.extract x i) ty v := fun _ w dst pos after g ha _ => by
 simp [execOp, ha.ev hx, Instr.extract, hi]
theorem pur_len_str (T : TabOk P tab) {sz : Nat} {pt : Bool} (ht : lookT tab t = some (.str, sz)) (hx : ev l x = some (str a)) : Pur P n l S (.call ⟨.builtin .len, #[x], #[t]⟩) ty (.int .i64 a.length) := fun _ w dst pos after g ha _ => by
 have hu : P.underlying t = some .string := (T _ _ _ ht).under
 have e1 : (⟨a.toArray⟩ : ByteArray).size = a.length := by simp [ByteArray.size]
 simp [execOp, resolve, invoke, builtin, Builtin.len_, ha.ev hx, run_underlying hu, Result.andThen, goInt, e1]
theorem pur_len_slice (T : TabOk P tab) {e sz : Nat} {p : Option Addr} {len cap : Nat} (ht : lookT tab t = some (.slice e, sz)) (hx : ev l x = some (.slice p len cap)) : Pur P n l S (.call ⟨.builtin .len, #[x], #[t]⟩) ty (.int .i64 len) := fun _ w dst pos after g ha _ => by
 have hu : P.underlying t = some (.slice e) := (T _ _ _ ht).under
 simp [execOp, resolve, invoke, builtin, Builtin.len_, ha.ev hx, run_underlying hu, Result.andThen, goInt]
end strs
end pur
def Blk (w : World) (b : Nat) (vs : List Value) : Prop := ∃ ty, w.heap[b]? = some (.cells vs.toArray ty (0, 0))
theorem Blk.lt {w : World} {b : Nat} {vs : List Value} (h : Blk w b vs) : b < w.heap.size := by
 obtain ⟨ty, h⟩ := h
 rcases Nat.lt_or_ge b w.heap.size with h' | h'
 · exact h'
 · rw [Array.getElem?_eq_none h'] at h; cases h
theorem Blk.cell {w : World} {b i : Nat} {vs : List Value} {v : Value} (h : Blk w b vs) (hi : vs[i]? = some v) : w.cell? ⟨b, i, none⟩ = some v := by
 obtain ⟨ty, h⟩ := h
 simp [World.cell?, h, hi]
theorem Blk.row {w : World} {b : Nat} {vs : List Value} (h : Blk w b vs) : Row w ⟨b, 0, none⟩ vs := fun i v hi => by
 have : (⟨b, 0, none⟩ : Addr).add i = ⟨b, i, none⟩ := by unfold Addr.add; by_cases h0 : i = 0 <;> simp [h0]
 rw [this]; exact h.cell hi
theorem Blk.free {w : World} {b o : Nat} {vs : List Value} (h : Blk w b vs) : w.frozen? ⟨b, o, none⟩ = false := by
 obtain ⟨ty, h⟩ := h
 simp [World.frozen?, h]
theorem Blk.ext {w w' : World} {b : Nat} {vs : List Value} (h : Blk w b vs) (e : Ext w w') : Blk w' b vs := by
 have hl := h.lt
 obtain ⟨ty, h⟩ := h
 exact ⟨ty, by rw [e.block hl]; exact h⟩
theorem Blk.fr {S : Nat → Prop} {w w' : World} {b : Nat} {vs : List Value} (h : Blk w b vs) (e : Fr S w w') (hs : ¬ S b) : Blk w' b vs := by
 have hl := h.lt
 obtain ⟨ty, h⟩ := h
 exact ⟨ty, by rw [e.block b hl hs]; exact h⟩
theorem Blk.set {w : World} {b i : Nat} {vs : List Value} (h : Blk w b vs) (v : Value) : Blk (w.setCell ⟨b, i, none⟩ v) b (vs.set i v) := by
 have hl := h.lt
 obtain ⟨ty, h⟩ := h
 refine ⟨ty, ?_⟩
 simp [World.setCell, Array.getElem?_modify, h]
theorem Row.at {w : World} {b o i : Nat} {vs : List Value} {v : Value} (h : Row w ⟨b, o, none⟩ vs) (hi : vs[i]? = some v) : w.cell? ⟨b, o + i, none⟩ = some v := by
 have := h i v hi
 have e : (⟨b, o, none⟩ : Addr).add i = ⟨b, o + i, none⟩ := by unfold Addr.add; by_cases h0 : i = 0 <;> simp [h0]
 rwa [e] at this
theorem Row.at0 {w : World} {b o : Nat} {vs : List Value} {v : Value} (h : Row w ⟨b, o, none⟩ vs) (hi : vs[0]? = some v) : w.cell? ⟨b, o, none⟩ = some v := h.at hi
theorem add_block (p : Addr) (i : Nat) : (p.add i).block = p.block := by unfold Addr.add; split <;> rfl
theorem Row.ext {w w' : World} {p : Addr} {vs : List Value} (h : Row w p vs) (e : Ext w w') : Row w' p vs := fun i v hi => by
 have hc := h i v hi
 have hl := cell_lt hc
 rw [Below.cell e hl]; exact hc
theorem Row.fr {S : Nat → Prop} {w w' : World} {p : Addr} {vs : List Value} (h : Row w p vs) (e : Fr S w w') (hs : ¬ S p.block) : Row w' p vs := fun i v hi => by
 have hc := h i v hi
 have hl := cell_lt hc
 rw [World.cell?_of_block (w := w) (e.block _ hl (by rw [add_block]; exact hs))]; exact hc
structure New (w w1 : World) (b : Nat) (vs : List Value) : Prop where
 pos : b = w.heap.size
 blk : Blk w1 b vs
 ext : Ext w w1
 size : w1.heap.size = b + 1
theorem new_alloc (w : World) (vs : List Value) (ty : TypeId) : New w (w.alloc (.cells vs.toArray ty (0, 0))) w.heap.size vs :=
 ⟨rfl, ⟨ty, by show (w.heap.push _)[w.heap.size]? = _; simp⟩, (Ext.refl w).alloc _, by show (w.heap.push _).size = _; simp⟩
def setMany : List Value → Nat → List Value → List Value
 | vs, _, [] => vs
 | vs, o, u :: r => setMany (vs.set o u) (o + 1) r
structure Put (w w1 : World) (b : Nat) (vs : List Value) : Prop where
 blk : Blk w1 b vs
 fr : Fr (· = b) w w1
 size : w1.heap.size = w.heap.size
def Value.one : Value → Bool
 | .agg _ | .tuple _ => false
 | _ => true
theorem run_store {P : Program} {w : World} {b o : Nat} {vs : List Value} (h : Blk w b vs) (ho : o < vs.length) {v : Value} (hv : Value.one v = true) {α : Type} (k : Sem α) :
 (Sem.store .plain ⟨b, o, none⟩ v k).run P w = k.run P (w.setCell ⟨b, o, none⟩ v) := by
 have hc := h.cell (List.getElem?_eq_getElem ho)
 have hz := h.free (o := o)
 cases v <;> first | (simp [Value.one] at hv; done) | simp [Sem.run, hc, hz]
theorem run_storeCells {P : Program} : ∀ (us : List Value) (w : World) (b o i : Nat) (vs : List Value), Blk w b vs → o + i + us.length ≤ vs.length → us.all Value.one = true →
 ∃ w1, (storeCells ⟨b, o, none⟩ us i).run P w = .ok () w1 ∧ Put w w1 b (setMany vs (o + i) us)
 | [], w, b, o, i, vs, h, _, _ => ⟨w, rfl, h, Fr.refl _ _, rfl⟩
 | u :: r, w, b, o, i, vs, h, hl, hv => by
  simp only [List.length_cons] at hl
  simp only [List.all_cons, Bool.and_eq_true] at hv
  have ha : (⟨b, o, none⟩ : Addr).add i = ⟨b, o + i, none⟩ := by unfold Addr.add; by_cases h0 : i = 0 <;> simp [h0]
  have e : (storeCells ⟨b, o, none⟩ (u :: r) i).run P w = (storeCells ⟨b, o, none⟩ r (i + 1)).run P (w.setCell ⟨b, o + i, none⟩ u) := by
   simp only [storeCells, store, ha, bind, Sem.bind]
   exact run_store h (by omega) hv.1 _
  obtain ⟨w1, h1, h2⟩ := run_storeCells (P := P) r _ b o (i + 1) _ (h.set (i := o + i) u) (by simp; omega) hv.2
  refine ⟨w1, by rw [e, h1], h2.blk, ((Fr.refl (· = b) w).setCell ⟨b, o + i, none⟩ u (Or.inl rfl)).trans h2.fr, ?_⟩
  rw [h2.size]; simp [World.setCell]
theorem wanted_plain {o : Oper} {y : Nat → Option Bool} (h : o.guard = none) : Region.wanted o y = true := by unfold Region.wanted; rw [h]
section seqs
variable {P : Program} {n : Nat} {ops : Array Oper} {Q : Exit → Act → World → Prop} {rest : List Oper} {l : Sl} {w : World} {tab : Tab}
 {d : Nat} {ty : TypeId} {pos : String} {after : Array Edge}
theorem lw_nil (h : QW n Q .normal l w) : LW P n ops Q [] l w := h
theorem lw_pure {op : Op} {v : Value} (hp : Pur P n l (fun x => x = w) op ty v) (hd : Nat.blt d n = true) (k : LW P n ops Q rest ((d, v) :: l) w) :
 LW P n ops Q (⟨some d, op, ty, pos, after, none⟩ :: rest) l w := fun a ha => by
 unfold wpList
 rw [if_pos (wanted_plain rfl)]
 left
 unfold Oper.wp
 rw [hp a w _ _ _ _ ha rfl]
 exact k _ (ha.put hd v)
def guardAt (ops : Array Oper) (j : Nat) : Option Nat := (ops.toList[j]?).bind (·.dst)
theorem wanted_at {n : Nat} {l : Sl} {a : Act} (ha : Env n l a) {ops : Array Oper} {j dj : Nat} {want b : Bool} {o : Oper} (hg : o.guard = some (j, want)) (hj : guardAt ops j = some dj) (hn : Nat.blt dj n = true) (hb : look l dj = some (.bool b)) :
 Region.wanted o (yielded ops a.tmps) = (b == want) := by
 have h1 := ha.has dj _ hb
 have hn' : dj < a.tmps.size := by rw [ha.size]; exact Nat.le_of_ble_eq_true hn
 have h2 : a.tmps[dj]? = some (.bool b) := by
  rw [Array.getD_eq_getD_getElem?, Array.getElem?_eq_getElem hn'] at h1
  rw [Array.getElem?_eq_getElem hn']
  simpa using h1
 have h3 : (ops[j]?).bind (·.dst) = some dj := by simpa [guardAt] using hj
 unfold Region.wanted yielded
 simp only [hg, h3, Option.bind_some, h2]
 cases b <;> cases want <;> rfl
theorem lw_off {op : Op} {j dj : Nat} {want b : Bool} (hj : guardAt ops j = some dj) (hn : Nat.blt dj n = true) (hb : look l dj = some (.bool b)) (hw : (b == want) = false) (hd : Nat.blt d n = true)
 (k : LW P n ops Q rest ((d, undef) :: l) w) : LW P n ops Q (⟨some d, op, ty, pos, after, some (j, want)⟩ :: rest) l w := fun a ha => by
 unfold wpList
 rw [wanted_at ha rfl hj hn hb, hw]
 exact k _ (ha.put hd undef)
theorem lw_on {op : Op} {j dj : Nat} {want b : Bool} (hj : guardAt ops j = some dj) (hn : Nat.blt dj n = true) (hb : look l dj = some (.bool b)) (hw : (b == want) = true)
 (k : LW P n ops Q (⟨some d, op, ty, pos, after, none⟩ :: rest) l w) : LW P n ops Q (⟨some d, op, ty, pos, after, some (j, want)⟩ :: rest) l w := fun a ha => by
 have := k a ha
 unfold wpList at this ⊢
 rw [if_pos (by rw [wanted_at ha rfl hj hn hb, hw])]
 rw [if_pos (wanted_plain rfl)] at this
 exact this
section guards
variable {op : Op} {j dj : Nat} {p : Prop} [Decidable p]
end guards
def Does (P : Program) (n : Nat) (l : Sl) (op : Op) (ty : TypeId) (w : World) (K : Option Value → World → Prop) : Prop :=
 ∀ a dst pos after g (next : Act → World → Prop) (Q : Exit → Act → World → Prop), Env n l a → (∀ v w', K (some v) w' → next (a.put dst v) w') → (∀ w', K none w' → next (a.put dst undef) w') → (⟨dst, op, ty, pos, after, g⟩ : Oper).wp P a w next Q
theorem lw_does {op : Op} {K : Option Value → World → Prop} (hp : Does P n l op ty w K) (hd : Nat.blt d n = true) (k : ∀ v w1, K (some v) w1 → LW P n ops Q rest ((d, v) :: l) w1) (k0 : ∀ w1, ¬ K none w1) :
 LW P n ops Q (⟨some d, op, ty, pos, after, none⟩ :: rest) l w := fun a ha => by
 unfold wpList
 rw [if_pos (wanted_plain rfl)]
 left
 exact hp a _ _ _ _ _ _ ha (fun v w1 hK => k v w1 hK _ (ha.put hd v)) (fun w1 h => absurd h (k0 w1))
theorem lw_does0 {op : Op} {K : Option Value → World → Prop} (hp : Does P n l op ty w K) (k : ∀ v w1, K v w1 → LW P n ops Q rest l w1) :
 LW P n ops Q (⟨none, op, ty, pos, after, none⟩ :: rest) l w := fun a ha => by
 unfold wpList
 rw [if_pos (wanted_plain rfl)]
 left
 exact hp a _ _ _ _ _ _ ha (fun v w1 hK => k _ w1 hK _ ha) (fun w1 h => k _ w1 h _ ha)
end seqs
section does
variable {P : Program} {n : Nat} {l : Sl} {w : World} {tab : Tab} {ty : TypeId}
def NewAt (w : World) (vs : List Value) : Option Value → World → Prop
 | some v, w1 => ∃ b, v = .pointer (some ⟨b, 0, none⟩) ∧ New w w1 b vs
 | none, _ => False
theorem does_box {x : Operand} {t : Nat} {v : Value} {vs : List Value} (hx : ev l x = some v) (hv : v.cells = vs.toArray) : Does P n l (.box t x) ty w (NewAt w vs) := fun a dst pos after g next Q ha hn _ => by
 have e : (execOp a.eval ⟨dst, .box t x, ty, pos, after, g⟩).run P w = .ok (.value (.pointer (some ⟨w.heap.size, 0, none⟩))) (w.alloc (.cells vs.toArray t (0, 0))) := by
  simp [execOp, ha.ev hx, Instr.box, newVar, newRow, newObj, Sem.run, hv, bind, Sem.bind, pure]
 unfold Oper.wp
 rw [e]
 exact hn _ _ ⟨_, rfl, new_alloc _ _ _⟩
abbrev ZTab := List (Nat × List Value)
def ZTabOk (P : Program) : ZTab → Prop
 | [] => True
 | p :: r => ((P.info? p.1).bind (·.zero)).map Value.cells = some p.2.toArray ∧ ZTabOk P r
def lookZ : ZTab → Nat → Option (List Value)
 | [], _ => none
 | p :: r, t => match Nat.beq p.1 t with
  | true => some p.2
  | false => lookZ r t
theorem lookZ_ok {zt : ZTab} (h : ZTabOk P zt) {t : Nat} {vs : List Value} (hl : lookZ zt t = some vs) : ∃ i v, P.info? t = some i ∧ i.zero = some v ∧ v.cells = vs.toArray := by
 induction zt with
 | nil => simp [lookZ] at hl
 | cons p r ih =>
  simp only [lookZ] at hl
  split at hl
  · rename_i hb
    have := Nat.eq_of_beq_eq_true hb
    simp only [Option.some.injEq] at hl
    subst hl this
    have h1 := h.1
    cases hi : P.info? p.1 with
    | none => rw [hi] at h1; simp at h1
    | some i =>
     rw [hi] at h1
     cases hz : i.zero with
     | none => simp [hz] at h1
     | some v => exact ⟨i, v, rfl, hz, by simpa [hz] using h1⟩
  · exact ih h.2 hl
theorem does_alloc {zt : ZTab} {t : Nat} {vs : List Value} (Z : ZTabOk P zt) (hz : lookZ zt t = some vs) : Does P n l (.alloc t) ty w (NewAt w vs) := fun a dst pos after g next Q ha hn _ => by
 obtain ⟨i, v, h1, h2, h3⟩ := lookZ_ok Z hz
 have e : (execOp a.eval ⟨dst, .alloc t, ty, pos, after, g⟩).run P w = .ok (.value (.pointer (some ⟨w.heap.size, 0, none⟩))) (w.alloc (.cells vs.toArray t (0, 0))) := by
  simp [execOp, Instr.alloc, zeroValue, typeInfo, program, newVar, newRow, newObj, Sem.run, h1, h2, h3, bind, Sem.bind, pure]
 unfold Oper.wp
 rw [e]
 exact hn _ _ ⟨_, rfl, new_alloc _ _ _⟩
def PutAt (w : World) (b : Nat) (vs : List Value) : Option Value → World → Prop
 | none, w1 => Put w w1 b vs
 | some _, _ => False
theorem does_store {x y : Operand} {t sz b o : Nat} {s : Sk} {v : Value} {vs us : List Value} (T : TabOk P tab) (ht : lookT tab t = some (s, sz)) (hx : ev l x = some (.pointer (some ⟨b, o, none⟩))) (hy : ev l y = some v)
 (hv : v.cells = us.toArray) (hl : us.length = sz) (h1 : us.all Value.one = true) (hb : Blk w b vs) (ho : Nat.ble (o + us.length) vs.length = true) : Does P n l (.store t x y) ty w (PutAt w b (setMany vs o us)) := fun a dst pos after g next Q ha _ hn => by
 obtain ⟨w1, e1, e2⟩ := run_storeCells (P := P) us w b o 0 vs hb (by simpa using ho) h1
 have e : (execOp a.eval ⟨dst, .store t x y, ty, pos, after, g⟩).run P w = .ok .skip w1 := by
  have hcs : v.cells.toList = us := by rw [hv]
  have hsz : v.cells.size = sz := by rw [hv]; simpa using hl
  simp only [execOp, ha.ev hx, ha.ev hy, Instr.storeAt, Instr.sureAddr, Sem.run_bind, Sem.run_pure, Result.andThen, storeVar, run_sizeOf (T _ _ _ ht), hsz, hcs, e1]
  simp only [ne_eq, not_true, if_false, Sem.run_bind, Sem.run_pure, Result.andThen, e1]
 unfold Oper.wp
 rw [e]
 exact hn _ e2
def bodied (P : Program) (f : FuncId) : Bool := match P.funcs[f]? with
 | some fn => !(fn.name == "runtime.NumGoroutine") && fn.body.isSome
 | none => false
theorem run_callFunc {f : FuncId} {args : Array Value} (hb : bodied P f = true) (w : World) : (callFunc f args).run P w = .ok (.enter f args) w := by
 unfold bodied at hb
 split at hb
 · rename_i fn hf
   simp only [Bool.and_eq_true, Bool.not_eq_true', Option.isSome_iff_ne_none] at hb
   have h2 : fn.body.isNone = false := by cases h : fn.body <;> simp_all
   have h1 : fn.name ≠ "runtime.NumGoroutine" := by simpa using hb.1
   simp [callFunc, program, Sem.run, hf, bind, Sem.bind, h1, hb.2, pure]
 · cases hb
def Ret (R : Ending → World → Prop) : Option Value → World → Prop
 | some v, w1 => R (.returned v) w1
 | none, _ => False
theorem does_call {f : FuncId} {xs : List Operand} {tys : Array TypeId} {vs : List Value} {R : Ending → World → Prop} (hb : bodied P f = true) (hxs : evs l xs = some vs) (C : Calls P f vs.toArray w R)
 (hR : ∀ e w1, R e w1 → ∃ v, e = .returned v) : Does P n l (.call ⟨.value (.func f), xs.toArray, tys⟩) ty w (Ret R) := fun a dst pos after g next Q ha hn _ => by
 have hargs : xs.map a.eval = vs := ha.evs hxs
 have e : (execOp a.eval ⟨dst, .call ⟨.value (.func f), xs.toArray, tys⟩, ty, pos, after, g⟩).run P w = .ok (.enter f vs.toArray) w := by
  simp only [execOp, resolve, Act.eval, Deferred.ofValue, Sem.run_bind, Sem.run_pure, Result.andThen, invoke]
  rw [run_callFunc hb]
  simp [← hargs]
 unfold Oper.wp
 rw [e]
 refine Calls.mono C fun e w1 h => ?_
 obtain ⟨v, rfl⟩ := hR e w1 h
 exact hn v w1 h
theorem does_callv {f : FuncId} {x : Operand} {fi ca : List Value} {xs : List Operand} {tys : Array TypeId} {vs : List Value} {R : Ending → World → Prop} (hb : bodied P f = true) (hx : ev l x = some (.func (.func f) fi.toArray ca.toArray)) (hxs : evs l xs = some vs) (C : Calls P f (fi ++ vs ++ ca).toArray w R)
 (hR : ∀ e w1, R e w1 → ∃ v, e = .returned v) : Does P n l (.call ⟨.value x, xs.toArray, tys⟩) ty w (Ret R) := fun a dst pos after g next Q ha hn _ => by
 have hargs : xs.map a.eval = vs := ha.evs hxs
 have e : (execOp a.eval ⟨dst, .call ⟨.value x, xs.toArray, tys⟩, ty, pos, after, g⟩).run P w = .ok (.enter f (fi ++ vs ++ ca).toArray) w := by
  simp only [execOp, resolve, ha.ev hx, Deferred.ofValue, Sem.run_bind, Sem.run_pure, Result.andThen, invoke]
  rw [run_callFunc hb]
  simp [← hargs]
 unfold Oper.wp
 rw [e]
 refine Calls.mono C fun e w1 h => ?_
 obtain ⟨v, rfl⟩ := hR e w1 h
 exact hn v w1 h
end does
inductive Sch where
 | done
 | pure (i : Nat) (r : Sch)
 | fork (i : Nat) (x r : Sch)
 | none
def Sch.alts : Sch → List Nat
 | .fork i _ r => i :: r.alts
 | _ => []
def Sch.ok (ops : Array Oper) : Bool → Sch → Nat → Array Bool → Bool
 | true, .done, _, listed => (Region.ready .any ops listed).isEmpty
 | true, .pure i r, f + 1, listed => (Region.ready .any ops listed).contains i && Region.free .any ops listed i && Sch.ok ops true r f (listed.setIfInBounds i true)
 | true, .fork i x r, f + 1, listed => (Region.ready .any ops listed).all (fun j => (i :: r.alts).contains j) && Sch.ok ops true x f (listed.setIfInBounds i true) && Sch.ok ops false r (f + 1) listed && !(Region.ready .any ops listed).isEmpty
 | false, .fork i x r, f + 1, listed => Sch.ok ops true x f (listed.setIfInBounds i true) && Sch.ok ops false r (f + 1) listed
 | false, .none, _, _ => true
 | _, _, _, _ => false
def HW (P : Program) (ops : Array Oper) (Q : Exit → Act → World → Prop) (S : World → Prop) : Sch → Act → World → Prop
 | .done, a, w => Q .normal a w
 | .pure i r, a, w => ∃ o v, ops.toList[i]? = some o ∧ YieldsIf P ops S o v a ∧ HW P ops Q S r (a.put o.dst v) w
 | .fork i x r, a, w => wpOp P ops Q i (fun a' w' => S w' ∧ HW P ops Q S x a' w') a w ∧ HW P ops Q S r a w
 | .none, _, _ => True
def PanicOk (Q : Exit → Act → World → Prop) : Prop := ∀ d v c a w, Q (.panic c) (Act.put a d v) w → Q (.panic c) a w
theorem panicOk_body {P : Program} {fn : Func} {R : Ending → World → Prop} : PanicOk (bodyPost P fn R) := fun d v c a w h => by
 cases d <;> exact h
theorem panicOk_then {K : Act → World → Prop} {Q : Exit → Act → World → Prop} (h : PanicOk Q) : PanicOk (Exit.then K Q) := h
theorem panicOk_block {i : Nat} {Q : Exit → Act → World → Prop} (h : PanicOk Q) : PanicOk (Exit.inBlock i Q) := h
theorem HW.any {P : Program} {ops : Array Oper} {Q : Exit → Act → World → Prop} {S : World → Prop} (hs : Region.noSelect ops = true) (hQ : PanicOk Q) :
 ∀ (s : Sch) (f : Nat) (listed : Array Bool) (a : Act) (w : World), S w → HW P ops Q S s a w →
  (Sch.ok ops true s f listed = true → wpAnyH P .any ops Q S f listed a w) ∧
  (Sch.ok ops false s f listed = true → ∀ i ∈ s.alts, ∀ f', f = f' + 1 → wpOp P ops Q i (fun a' w' => S w' ∧ wpAnyH P .any ops Q S f' (listed.setIfInBounds i true) a' w') a w)
 | .done, f, listed, a, w, hS, h => ⟨fun hk => wpAnyH_done (by simpa [Sch.ok] using hk) h f, fun hk => by simp [Sch.ok] at hk⟩
 | .none, f, listed, a, w, hS, h => ⟨fun hk => by simp [Sch.ok] at hk, fun hk => by simp [Sch.alts]⟩
 | .pure i r, 0, listed, a, w, hS, h => ⟨fun hk => by simp [Sch.ok] at hk, fun hk => by simp [Sch.ok] at hk⟩
 | .pure i r, f + 1, listed, a, w, hS, h => ⟨fun hk => by
  simp only [Sch.ok, Bool.and_eq_true] at hk
  obtain ⟨o, v, ho, hy, hr⟩ := h
  exact wpAnyH_take (by simpa using ho) hs hk.1.2 hk.1.1 (fun c a w => hQ o.dst v c a w) hy hS ((HW.any hs hQ r f _ _ w hS hr).1 hk.2), fun hk => by simp [Sch.ok] at hk⟩
 | .fork i x r, 0, listed, a, w, hS, h => ⟨fun hk => by simp [Sch.ok] at hk, fun hk => by simp [Sch.ok] at hk⟩
 | .fork i x r, f + 1, listed, a, w, hS, h => by
  have key : Sch.ok ops true x f (listed.setIfInBounds i true) = true → wpOp P ops Q i (fun a' w' => S w' ∧ wpAnyH P .any ops Q S f (listed.setIfInBounds i true) a' w') a w := fun hk =>
   wpOp_mono (fun a' w' h' => ⟨h'.1, (HW.any hs hQ x f _ a' w' h'.1 h'.2).1 hk⟩) h.1
  have hr := HW.any hs hQ r (f + 1) listed a w hS h.2
  refine ⟨fun hk => ?_, fun hk j hj f' hf => ?_⟩
  · simp only [Sch.ok, Bool.and_eq_true] at hk
    obtain ⟨⟨⟨h1, h2⟩, h3⟩, h4⟩ := hk
    refine wpAnyH_all (rs := Region.ready .any ops listed) rfl (by intro e; simp [e] at h4) (fun j hj => ?_)
    have := List.all_eq_true.1 h1 j hj
    simp only [List.contains_eq_mem, List.mem_cons, decide_eq_true_eq] at this
    rcases this with rfl | hj'
    · exact key h2
    · exact hr.2 h3 j hj' f rfl
  · simp only [Sch.ok, Bool.and_eq_true] at hk
    obtain rfl : f = f' := by omega
    simp only [Sch.alts, List.mem_cons] at hj
    rcases hj with rfl | hj
    · exact key hk.1
    · exact hr.2 hk.2 j hj f rfl
def DW (P : Program) (n : Nat) (ops : Array Oper) (Q : Exit → Act → World → Prop) (S : World → Prop) (s : Sch) (l : Sl) (w : World) : Prop := ∀ a, Env n l a → HW P ops Q S s a w
section draws
variable {P : Program} {n : Nat} {ops : Array Oper} {Q : Exit → Act → World → Prop} {S : World → Prop} {l : Sl} {w : World}
 {d i : Nat} {ty : TypeId} {pos : String} {after : Array Edge} {r x : Sch}
end draws
attribute [irreducible] CW LW QW DW Pur Does
end Bk
