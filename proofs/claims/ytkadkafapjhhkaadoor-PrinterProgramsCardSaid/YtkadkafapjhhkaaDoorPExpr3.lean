/- Contract of the printer's expr at operators. -/
import Derived.Test.YtkadkafapjhhkaaDoorPExpr2
import Derived.Deep.RegionHeld3
namespace Bk
open Go Go.RowKit Go.Proofs
set_option maxHeartbeats 1000000 in
theorem expr_un (k n : Int) (s : List UInt8) (x : Nd) (hk : k = 6 ∨ k = 7) (hx : Prints 22 Nd.text x) : Prints 22 Nd.text (.mk k n s [x]) := by
  intro B b t w a c h ht hB hs hlen
  have htx : (Nd.mk k n s [x]).text = symbol k ++ wrap x.text (isBin x.kind) := by rcases hk with rfl | rfl <;> (rw [Nd.text.eq_def]; simp)
  rw [htx] at hlen ⊢
  have hle := h.le
  have hlt := h.lt
  simp only [List.length_append, List.length_cons, List.length_nil] at hlen
  simp only [Nd.kind, Nd.num, Nd.name, Nd.kids, Nd.val, List.length_cons, List.length_nil]
  have HX := Lib.hid hx; clear hx htx
  simp only [Nd.sits] at hs
  obtain ⟨kb, ko, xa, xc, rfl, -, -⟩ := row1 hs
  have hbx0 : Box w.heap.size #[.int .u8 k, .int .i64 n, str s, .slice (some ⟨kb, ko, none⟩) 1 c] 24 (w.alloc (.cells #[.int .u8 k, .int .i64 n, str s, .slice (some ⟨kb, ko, none⟩) 1 c] 24)) := Box.new _ _ _
  have hk0 : 0 ≤ k ∧ k ≤ 255 := by omega
  obtain ⟨hk0, hk1⟩ := hk0
  have d1 : (k == 1) = false := by rw [beq_eq_false_iff_ne]; omega
  have d2 : (k == 2) = false := by rw [beq_eq_false_iff_ne]; omega
  have d3 : (k == 3) = false := by rw [beq_eq_false_iff_ne]; omega
  have d4 : (k == 4) = false := by rw [beq_eq_false_iff_ne]; omega
  have d5 : (k == 5) = false := by rw [beq_eq_false_iff_ne]; omega
  have dk : (k == 6) = true ∨ (k == 6) = false ∧ (k == 7) = true := by rcases hk with rfl | rfl <;> simp
  clear hk
  rcases dk with d6 | ⟨d6, d7⟩
  all_goals
    go_enter Tryd.func22, Tryd.ntmps22
    go_wp2_with fail
    refine (arith_Symbol_c _ _ hk0 hk1 (ht.ext ((Ext.refl _).alloc _) (by omega))).mono ?_
    rintro e w1 ⟨rfl, rfl⟩
    simp only
    go_wp2_with fail
    refine (write_c B b (w.heap.size + 1) 1 t [symbol k] _ ((h.alloc _).alloc _) (Box.new' _ _ (by simp)) (by simp) (by simp; omega)).mono ?_
    rintro e w1 ⟨rfl, hb1, hx1⟩
    have hbx1 := (hbx0.alloc _).fb hx1 (by omega) (by decide)
    have hxx1 : Fb B b w w1 := Fb.trans (Fb.of_ext (by repeat (first | exact Ext.refl _ | assumption | refine Ext.alloc ?_ _ | refine Ext.drew ?_ | refine Ext.trans ?_ (by assumption))) hle) hx1
    obtain ⟨g0, g1, g2, g3⟩ := hbx1.node
    have hs1 := hs.fb hxx1
    obtain ⟨kb', ko', xa, xc, he, hkB, k0, k1, k2, k3, hxs⟩ := row1 hs1
    simp only [Option.some.injEq, Addr.mk.injEq] at he
    obtain ⟨rfl, rfl, -⟩ := he
    have ht1 := ht.fb hxx1 hB
    simp only
    go_wp2_with fail
    go_region_held3 (fun w' => w'.cell? ⟨w.heap.size, 3, none⟩ = some (.slice (some ⟨kb, ko, none⟩) 1 c) ∧ w'.cell? ⟨kb, ko, none⟩ = some (.int .u8 x.kind) ∧ w'.cell? ⟨kb, ko + 1, none⟩ = some (.int .i64 x.num) ∧ w'.cell? ⟨kb, ko + 2, none⟩ = some (str x.name) ∧ w'.cell? ⟨kb, ko + 3, none⟩ = some (.slice xa x.kids.length xc))
      (first | exact ⟨g3, k0, k1, k2, k3⟩ | exact ⟨hx2.keep g3, hx2.keep k0, hx2.keep k1, hx2.keep k2, hx2.keep k3⟩ | exact ⟨(((hbx1.drew.ext hx2).fb hx3 (by omega) (by decide)).node).2.2.2, (Below.cell (p := ⟨_, _, none⟩) hx3.below hkB).trans (hx2.keep k0), (Below.cell (p := ⟨_, _, none⟩) hx3.below hkB).trans (hx2.keep k1), (Below.cell (p := ⟨_, _, none⟩) hx3.below hkB).trans (hx2.keep k2), (Below.cell (p := ⟨_, _, none⟩) hx3.below hkB).trans (hx2.keep k3)⟩)
      (first | (go_at_call 46; refine (binary_c _ _ _ _ _ _ _).mono ?_; rintro e w2 ⟨rfl, hx2⟩) | (go_at_call 45; refine (operand_c x HX.out B b _ _ _ xa xc (hb1.drew.ext hx2) ((ht1.ext (Ext.refl _).drew (by have := hb1.le; omega)).ext hx2 (by have := hb1.le; show _ ≤ w1.heap.size; omega)) hB (hxs.ext (Ext.trans (Ext.refl _).drew hx2)) (by simp; omega)).mono ?_; rintro e w3 ⟨rfl, hb3, hx3⟩))
    go_wp2_with fail
    go_end0
    exact ⟨rfl, by simpa [Nd.kind] using hb3, (hxx1.trans (Fb.of_ext (Ext.trans (Ext.refl _).drew hx2) hb1.le)).trans hx3⟩
end Bk
