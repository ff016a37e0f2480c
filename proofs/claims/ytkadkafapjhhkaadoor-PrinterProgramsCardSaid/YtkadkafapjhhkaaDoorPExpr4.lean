/- Contract of the printer's expr at binary operators. -/
import Derived.Test.YtkadkafapjhhkaaDoorPExpr3
import Derived.Deep.RegionHeld3
import Derived.Deep.DeepCutAuto
namespace Bk
open Go Go.RowKit Go.Proofs
theorem parenL_f {a k : Int} (h : isBin a = false) : parenL a k = false := by simp [parenL, h]
theorem parenR_f {a k : Int} (h : isBin a = false) : parenR a k = false := by simp [parenR, h]
theorem parenL_t {a k : Int} (h : isBin a = true) {q : Bool} (hq : q = true ↔ level a < level k) : parenL a k = q := by rw [Bool.eq_iff_iff, hq]; simp [parenL, h]
theorem parenR_t {a k : Int} (h : isBin a = true) {q : Bool} (hq : q = true ↔ level a ≤ level k) : parenR a k = q := by rw [Bool.eq_iff_iff, hq]; simp [parenR, h]
theorem row2 {S : Nat → Prop} {w : World} {x y : Nd} {a : Option Addr} (h : rowSits S w [x, y] a) : ∃ kb ko xa xc ya yc, a = some ⟨kb, ko, none⟩ ∧ S kb ∧ (w.cell? ⟨kb, ko, none⟩ = some (.int .u8 x.kind) ∧ w.cell? ⟨kb, ko + 1, none⟩ = some (.int .i64 x.num) ∧ w.cell? ⟨kb, ko + 2, none⟩ = some (str x.name) ∧ w.cell? ⟨kb, ko + 3, none⟩ = some (.slice xa x.kids.length xc) ∧ x.sits S w xa) ∧
    (w.cell? ⟨kb, ko + 4, none⟩ = some (.int .u8 y.kind) ∧ w.cell? ⟨kb, ko + 4 + 1, none⟩ = some (.int .i64 y.num) ∧ w.cell? ⟨kb, ko + 4 + 2, none⟩ = some (str y.name) ∧ w.cell? ⟨kb, ko + 4 + 3, none⟩ = some (.slice ya y.kids.length yc) ∧ y.sits S w ya) := by
  obtain ⟨b, o, a', c, rfl, h0, h1, h2, h3, h4, h5⟩ := rowSits_get h (i := 0) (t := x) rfl
  obtain ⟨b', o', a'', c', he, h0', h1', h2', h3', h4', h5'⟩ := rowSits_get h (i := 1) (t := y) rfl
  simp only [Option.some.injEq, Addr.mk.injEq] at he
  obtain ⟨rfl, rfl, -⟩ := he
  exact ⟨b, o, a', c, a'', c', rfl, h0, ⟨by simpa using h1, by simpa using h2, by simpa using h3, by simpa using h4, h5⟩, ⟨by simpa using h1', by simpa using h2', by simpa using h3', by simpa using h4', h5'⟩⟩
set_option maxHeartbeats 8000000 in
set_option maxRecDepth 100000 in
theorem expr_bin (k n : Int) (s : List UInt8) (x y : Nd) (hk8 : 8 ≤ k) (hk23 : k ≤ 23) (hx : Prints 22 Nd.text x) (hy : Prints 22 Nd.text y) : Prints 22 Nd.text (.mk k n s [x, y]) := by
  intro B b t w a c h ht hB hs hlen
  have d1 : (k == 1) = false := by rw [beq_eq_false_iff_ne]; omega
  have d2 : (k == 2) = false := by rw [beq_eq_false_iff_ne]; omega
  have d3 : (k == 3) = false := by rw [beq_eq_false_iff_ne]; omega
  have d4 : (k == 4) = false := by rw [beq_eq_false_iff_ne]; omega
  have d5 : (k == 5) = false := by rw [beq_eq_false_iff_ne]; omega
  have d6 : (k == 6) = false := by rw [beq_eq_false_iff_ne]; omega
  have d7 : (k == 7) = false := by rw [beq_eq_false_iff_ne]; omega
  have htx : (Nd.mk k n s [x, y]).text = wrap x.text (parenL x.kind k) ++ [32] ++ symbol k ++ [32] ++ wrap y.text (parenR y.kind k) := by
    rw [Nd.text.eq_def]
    simp only []
    rw [if_neg (by omega), if_neg (by omega), if_neg (by omega), if_neg (by omega), if_neg (by omega), if_neg (by omega)]
  rw [htx] at hlen ⊢
  have hle := h.le
  have hlt := h.lt
  simp only [List.length_append, List.length_cons, List.length_nil] at hlen
  simp only [Nd.kind, Nd.num, Nd.name, Nd.kids, Nd.val, List.length_cons, List.length_nil]
  have HX := Lib.hid hx; clear hx htx
  have HY := Lib.hid hy; clear hy
  simp only [Nd.sits] at hs
  obtain ⟨xk, xn, xs, xl⟩ := x
  obtain ⟨yk, yn, ys, yl⟩ := y
  obtain ⟨kb, ko, xa, xc, ya, yc, rfl, hkB, ⟨k0, k1, k2, k3, hxs⟩, ⟨m0, m1, m2, m3, hys⟩⟩ := row2 hs
  simp only [Nd.kind, Nd.num, Nd.name, Nd.kids] at *
  go_enter Tryd.func22, Tryd.ntmps22
  have hkw : kb < w.heap.size := Nat.lt_of_lt_of_le hkB hle
  have m1' : w.cell? ⟨kb, ko + 5, none⟩ = some (.int .i64 yn) := m1
  have m2' : w.cell? ⟨kb, ko + 6, none⟩ = some (str ys) := m2
  have m3' : w.cell? ⟨kb, ko + 7, none⟩ = some (.slice ya yl.length yc) := m3
  have hkw1 : kb < w.heap.size + 1 := by omega
  have hkw2 : kb < w.heap.size + 2 := by omega
  have hkw3 : kb < w.heap.size + 1 + 1 := by omega
  go_upto_region 2 with fail
  go_cut [4, 5] (fun s4 s5 W => ∃ pl pr : Nat, s4 = .pointer (some ⟨pl, 0, none⟩) ∧ s5 = .pointer (some ⟨pr, 0, none⟩) ∧ Box w.heap.size #[.int .u8 k, .int .i64 n, str s, .slice (some ⟨kb, ko, none⟩) 2 c] 24 W ∧ Box pl #[.int .u8 xk, .int .i64 xn, str xs, .slice xa xl.length xc] 24 W ∧ Box pr #[.int .u8 yk, .int .i64 yn, str ys, .slice ya yl.length yc] 24 W ∧ Ext w W ∧ b < pl ∧ b < pr)
  case first =>
    go_region
    · go_wp2_with fail
      go_meet
      exact ⟨w.heap.size + 1, w.heap.size + 1 + 1, rfl, rfl, (((Box.new _ _ _).alloc _).alloc _).drew, ((Box.new' _ _ (by simp)).alloc _).drew, (Box.new' _ _ (by simp)).drew, (by repeat (first | exact Ext.refl _ | assumption | refine Ext.alloc ?_ _ | refine Ext.drew ?_ | refine Ext.trans ?_ (by assumption))), by omega, by omega⟩
    · go_wp2_with fail
      go_meet
      exact ⟨w.heap.size + 1 + 1, w.heap.size + 1, rfl, rfl, (((Box.new _ _ _).alloc _).alloc _).drew, (Box.new' _ _ (by simp)).drew, ((Box.new' _ _ (by simp)).alloc _).drew, (by repeat (first | exact Ext.refl _ | assumption | refine Ext.alloc ?_ _ | refine Ext.drew ?_ | refine Ext.trans ?_ (by assumption))), by omega, by omega⟩
  case rest =>
    obtain ⟨W, hW⟩ : ∃ W : World, W = wc := ⟨wc, rfl⟩
    subst hW
    obtain ⟨pl, pr, rfl, rfl, hbn, hbl, hbr, hxW, hpl, hpr⟩ := hcut
    have hle1 : B ≤ W.heap.size := Nat.le_trans hle hxW.size
    have ht1 := ht.ext hxW (by omega)
    have hxW1 : Fb B b w W := Fb.of_ext hxW hle
    have hxs1 := hxs.ext hxW
    have hys1 := hys.ext hxW
    have hb0 := h.ext hxW
    clear k0 k1 k2 k3 m0 m1 m2 m3 m1' m2' m3' hxs hys hs h ht hkw hkw1 hkw2 hkw3
    have hbb := hb0.lt
    obtain ⟨c0, c1, c2, c3⟩ := hbn.node
    obtain ⟨l0, l1, l2, l3⟩ := hbl.node
    go_wp2_with fail
    refine (arith_Level_c _ _ (by omega) (by omega)).mono ?_
    rintro e w1 ⟨rfl, rfl⟩
    simp only
    go_upto_region 4 with fail
    go_cut [] (fun u3 => Bld B b (t ++ wrap (Nd.mk xk xn xs xl).text (parenL xk k)) u3 ∧ Fb B b W u3)
    case first =>
      cases hq : isBin xk
      · have HQ := Lib.hid hq; clear hq
        refine wp_region_held_drew (S := fun w' => w'.cell? ⟨pl, 0, none⟩ = some (.int .u8 xk) ∧ w'.cell? ⟨pl, 1, none⟩ = some (.int .i64 xn) ∧ w'.cell? ⟨pl, 2, none⟩ = some (str xs) ∧ w'.cell? ⟨pl, 3, none⟩ = some (.slice xa xl.length xc)) (by kernel_rfl) ⟨l0, l1, l2, l3⟩ (fun hHeld => ?_)
        ((refine wpAnyH_take (i := 0) (oi := _) (v := ?v0_1) rfl (by kernel_rfl) (by kernel_rfl) (by kernel_rfl) (fun _ _ _ h => h) (Or.inl ⟨by rfl, ?y0_1⟩) (by assumption) ?r0_1); (case y0_1 => (intro w hSw; (try dsimp only at hSw); go_simp; try (with_reducible rfl))); (try simp only [Act.put, List.getElem_toArray, List.getElem_cons_zero, List.getElem_cons_succ, List.setIfInBounds_toArray, List.set_cons_zero, List.set_cons_succ]))
        ((refine wpAnyH_take (i := 1) (oi := _) (v := ?v1_2) rfl (by kernel_rfl) (by kernel_rfl) (by kernel_rfl) (fun _ _ _ h => h) (Or.inl ⟨by rfl, ?y1_2⟩) (by assumption) ?r1_2); (case y1_2 => (intro w hSw; (try dsimp only at hSw); go_simp; try (with_reducible rfl))); (try simp only [Act.put, List.getElem_toArray, List.getElem_cons_zero, List.getElem_cons_succ, List.setIfInBounds_toArray, List.set_cons_zero, List.set_cons_succ]))
        ((refine wpAnyH_take (i := 2) (oi := _) (v := ?v2_3) rfl (by kernel_rfl) (by kernel_rfl) (by kernel_rfl) (fun _ _ _ h => h) (Or.inl ⟨by rfl, ?y2_3⟩) (by assumption) ?r2_3); (case y2_3 => (intro w hSw; (try dsimp only at hSw); go_simp; try (with_reducible rfl))); (try simp only [Act.put, List.getElem_toArray, List.getElem_cons_zero, List.getElem_cons_succ, List.setIfInBounds_toArray, List.set_cons_zero, List.set_cons_succ]))
        ((refine wpAnyH_ready (rs := [3]) (by kernel_rfl) (by simp) ?_); (refine AllReadyH.cons (o := _) rfl (fun K hK => ?_) AllReadyH.nil); go_simp)
        refine (binary_c _ _ _ _ _ _ _).mono ?_
        rintro e u2 ⟨rfl, hx2⟩
        rw [HQ.out]
        refine hK.out _ _ ⟨hx2.keep l0, hx2.keep l1, hx2.keep l2, hx2.keep l3⟩ (fun hHeld => ?_)
        clear hK K
        (try simp only [Act.put, List.getElem_toArray, List.getElem_cons_zero, List.getElem_cons_succ, List.setIfInBounds_toArray, List.set_cons_zero, List.set_cons_succ])
        ((refine wpAnyH_take (i := 4) (oi := _) (v := ?v4_4) rfl (by kernel_rfl) (by kernel_rfl) (by kernel_rfl) (fun _ _ _ h => h) (Or.inl ⟨by rfl, ?y4_4⟩) (by assumption) ?r4_4); (case y4_4 => (intro w hSw; (try dsimp only at hSw); go_simp; try (with_reducible rfl))); (try simp only [Act.put, List.getElem_toArray, List.getElem_cons_zero, List.getElem_cons_succ, List.setIfInBounds_toArray, List.set_cons_zero, List.set_cons_succ]))
        ((refine wpAnyH_take (i := 5) (oi := _) (v := undef) rfl (by kernel_rfl) (by kernel_rfl) (by kernel_rfl) (fun _ _ _ h => h) (Or.inr ⟨by rfl, rfl⟩) (by assumption) ?_); (try simp only [Act.put, List.getElem_toArray, List.getElem_cons_zero, List.getElem_cons_succ, List.setIfInBounds_toArray, List.set_cons_zero, List.set_cons_succ]))
        ((refine wpAnyH_take (i := 6) (oi := _) (v := undef) rfl (by kernel_rfl) (by kernel_rfl) (by kernel_rfl) (fun _ _ _ h => h) (Or.inr ⟨by rfl, rfl⟩) (by assumption) ?_); (try simp only [Act.put, List.getElem_toArray, List.getElem_cons_zero, List.getElem_cons_succ, List.setIfInBounds_toArray, List.set_cons_zero, List.set_cons_succ]))
        ((refine wpAnyH_take (i := 7) (oi := _) (v := undef) rfl (by kernel_rfl) (by kernel_rfl) (by kernel_rfl) (fun _ _ _ h => h) (Or.inr ⟨by rfl, rfl⟩) (by assumption) ?_); (try simp only [Act.put, List.getElem_toArray, List.getElem_cons_zero, List.getElem_cons_succ, List.setIfInBounds_toArray, List.set_cons_zero, List.set_cons_succ]))
        ((refine wpAnyH_take (i := 8) (oi := _) (v := undef) rfl (by kernel_rfl) (by kernel_rfl) (by kernel_rfl) (fun _ _ _ h => h) (Or.inr ⟨by rfl, rfl⟩) (by assumption) ?_); (try simp only [Act.put, List.getElem_toArray, List.getElem_cons_zero, List.getElem_cons_succ, List.setIfInBounds_toArray, List.set_cons_zero, List.set_cons_succ]))
        ((refine wpAnyH_take (i := 9) (oi := _) (v := undef) rfl (by kernel_rfl) (by kernel_rfl) (by kernel_rfl) (fun _ _ _ h => h) (Or.inr ⟨by rfl, rfl⟩) (by assumption) ?_); (try simp only [Act.put, List.getElem_toArray, List.getElem_cons_zero, List.getElem_cons_succ, List.setIfInBounds_toArray, List.set_cons_zero, List.set_cons_succ]))
        ((refine wpAnyH_take (i := 10) (oi := _) (v := ?v10_5) rfl (by kernel_rfl) (by kernel_rfl) (by kernel_rfl) (fun _ _ _ h => h) (Or.inl ⟨by rfl, ?y10_5⟩) (by assumption) ?r10_5); (case y10_5 => (intro w hSw; (try dsimp only at hSw); go_simp; try (with_reducible rfl))); (try simp only [Act.put, List.getElem_toArray, List.getElem_cons_zero, List.getElem_cons_succ, List.setIfInBounds_toArray, List.set_cons_zero, List.set_cons_succ]))
        ((refine wpAnyH_ready (rs := [11]) (by kernel_rfl) (by simp) ?_); (refine AllReadyH.cons (o := _) rfl (fun K hK => ?_) AllReadyH.nil); go_simp)
        refine (operand_c (.mk xk xn xs xl) HX.out B b _ _ _ xa xc (hb0.drew.ext hx2) ((ht1.ext (Ext.refl _).drew (by omega)).ext hx2 (by show _ ≤ W.heap.size; omega)) hB (hxs1.ext (Ext.trans (Ext.refl _).drew hx2)) (by rw [← parenL_f (k := k) HQ.out]; simp only [List.length_append, List.flatten_cons, List.flatten_nil, List.length_cons, List.length_nil] at hlen ⊢; omega)).mono ?_
        rintro e u3 ⟨rfl, hb3, hx3⟩
        rw [← parenL_f (k := k) HQ.out] at hb3
        refine hK.out _ _ ((hbl.drew.ext hx2).fb hx3 (by omega) (by decide)).node (fun hHeld => ?_)
        clear hK K hHeld
        (try simp only [Act.put, List.getElem_toArray, List.getElem_cons_zero, List.getElem_cons_succ, List.setIfInBounds_toArray, List.set_cons_zero, List.set_cons_succ])
        (refine wpAnyH_done (by kernel_rfl) ?_ _)
        go_wp2_with fail
        go_meet
        refine ⟨?_, (Fb.of_ext (Ext.trans (Ext.refl _).drew hx2) hle1).trans hx3⟩
        exact hb3
      · have HQ := Lib.hid hq; clear hq
        refine wp_region_held_drew (S := fun w' => w'.cell? ⟨pl, 0, none⟩ = some (.int .u8 xk) ∧ w'.cell? ⟨pl, 1, none⟩ = some (.int .i64 xn) ∧ w'.cell? ⟨pl, 2, none⟩ = some (str xs) ∧ w'.cell? ⟨pl, 3, none⟩ = some (.slice xa xl.length xc)) (by kernel_rfl) ⟨l0, l1, l2, l3⟩ (fun hHeld => ?_)
        ((refine wpAnyH_take (i := 0) (oi := _) (v := ?v0_6) rfl (by kernel_rfl) (by kernel_rfl) (by kernel_rfl) (fun _ _ _ h => h) (Or.inl ⟨by rfl, ?y0_6⟩) (by assumption) ?r0_6); (case y0_6 => (intro w hSw; (try dsimp only at hSw); go_simp; try (with_reducible rfl))); (try simp only [Act.put, List.getElem_toArray, List.getElem_cons_zero, List.getElem_cons_succ, List.setIfInBounds_toArray, List.set_cons_zero, List.set_cons_succ]))
        ((refine wpAnyH_take (i := 1) (oi := _) (v := ?v1_7) rfl (by kernel_rfl) (by kernel_rfl) (by kernel_rfl) (fun _ _ _ h => h) (Or.inl ⟨by rfl, ?y1_7⟩) (by assumption) ?r1_7); (case y1_7 => (intro w hSw; (try dsimp only at hSw); go_simp; try (with_reducible rfl))); (try simp only [Act.put, List.getElem_toArray, List.getElem_cons_zero, List.getElem_cons_succ, List.setIfInBounds_toArray, List.set_cons_zero, List.set_cons_succ]))
        ((refine wpAnyH_take (i := 2) (oi := _) (v := ?v2_8) rfl (by kernel_rfl) (by kernel_rfl) (by kernel_rfl) (fun _ _ _ h => h) (Or.inl ⟨by rfl, ?y2_8⟩) (by assumption) ?r2_8); (case y2_8 => (intro w hSw; (try dsimp only at hSw); go_simp; try (with_reducible rfl))); (try simp only [Act.put, List.getElem_toArray, List.getElem_cons_zero, List.getElem_cons_succ, List.setIfInBounds_toArray, List.set_cons_zero, List.set_cons_succ]))
        ((refine wpAnyH_ready (rs := [3]) (by kernel_rfl) (by simp) ?_); (refine AllReadyH.cons (o := _) rfl (fun K hK => ?_) AllReadyH.nil); go_simp)
        refine (binary_c _ _ _ _ _ _ _).mono ?_
        rintro e u2 ⟨rfl, hx2⟩
        rw [HQ.out]
        refine hK.out _ _ ⟨hx2.keep l0, hx2.keep l1, hx2.keep l2, hx2.keep l3⟩ (fun hHeld => ?_)
        clear hK K
        (try simp only [Act.put, List.getElem_toArray, List.getElem_cons_zero, List.getElem_cons_succ, List.setIfInBounds_toArray, List.set_cons_zero, List.set_cons_succ])
        ((refine wpAnyH_take (i := 4) (oi := _) (v := ?v4_9) rfl (by kernel_rfl) (by kernel_rfl) (by kernel_rfl) (fun _ _ _ h => h) (Or.inl ⟨by rfl, ?y4_9⟩) (by assumption) ?r4_9); (case y4_9 => (intro w hSw; (try dsimp only at hSw); go_simp; try (with_reducible rfl))); (try simp only [Act.put, List.getElem_toArray, List.getElem_cons_zero, List.getElem_cons_succ, List.setIfInBounds_toArray, List.set_cons_zero, List.set_cons_succ]))
        have hbk : 8 ≤ xk ∧ xk ≤ 23 := by have := HQ.out; simp [isBin] at this; exact this
        obtain ⟨hbk0, hbk1⟩ := hbk
        ((refine wpAnyH_take (i := 5) (oi := _) (v := ?v5_10) rfl (by kernel_rfl) (by kernel_rfl) (by kernel_rfl) (fun _ _ _ h => h) (Or.inl ⟨by rfl, ?y5_10⟩) (by assumption) ?r5_10); (case y5_10 => (intro w hSw; (try dsimp only at hSw); go_simp; try (with_reducible rfl))); (try simp only [Act.put, List.getElem_toArray, List.getElem_cons_zero, List.getElem_cons_succ, List.setIfInBounds_toArray, List.set_cons_zero, List.set_cons_succ]))
        ((refine wpAnyH_take (i := 6) (oi := _) (v := ?v6_11) rfl (by kernel_rfl) (by kernel_rfl) (by kernel_rfl) (fun _ _ _ h => h) (Or.inl ⟨by rfl, ?y6_11⟩) (by assumption) ?r6_11); (case y6_11 => (intro w hSw; (try dsimp only at hSw); go_simp; try (with_reducible rfl))); (try simp only [Act.put, List.getElem_toArray, List.getElem_cons_zero, List.getElem_cons_succ, List.setIfInBounds_toArray, List.set_cons_zero, List.set_cons_succ]))
        ((refine wpAnyH_take (i := 8) (oi := _) (v := ?v8_12) rfl (by kernel_rfl) (by kernel_rfl) (by kernel_rfl) (fun _ _ _ h => h) (Or.inl ⟨by rfl, ?y8_12⟩) (by assumption) ?r8_12); (case y8_12 => (intro w hSw; (try dsimp only at hSw); go_simp; try (with_reducible rfl))); (try simp only [Act.put, List.getElem_toArray, List.getElem_cons_zero, List.getElem_cons_succ, List.setIfInBounds_toArray, List.set_cons_zero, List.set_cons_succ]))
        ((refine wpAnyH_ready (rs := [7]) (by kernel_rfl) (by simp) ?_); (refine AllReadyH.cons (o := _) rfl (fun K hK => ?_) AllReadyH.nil); go_simp)
        refine (arith_Level_c _ _ (by omega) (by omega)).mono ?_
        rintro e u' ⟨rfl, rfl⟩
        refine hK.out _ _ ⟨hx2.keep l0, hx2.keep l1, hx2.keep l2, hx2.keep l3⟩ (fun hHeld => ?_)
        clear hK K
        (try simp only [Act.put, List.getElem_toArray, List.getElem_cons_zero, List.getElem_cons_succ, List.setIfInBounds_toArray, List.set_cons_zero, List.set_cons_succ])
        ((refine wpAnyH_take (i := 9) (oi := _) (v := ?v9_13) rfl (by kernel_rfl) (by kernel_rfl) (by kernel_rfl) (fun _ _ _ h => h) (Or.inl ⟨by rfl, ?y9_13⟩) (by assumption) ?r9_13); (case y9_13 => (intro w hSw; (try dsimp only at hSw); go_simp; try (with_reducible rfl))); (try simp only [Act.put, List.getElem_toArray, List.getElem_cons_zero, List.getElem_cons_succ, List.setIfInBounds_toArray, List.set_cons_zero, List.set_cons_succ]))
        ((refine wpAnyH_take (i := 10) (oi := _) (v := ?v10_14) rfl (by kernel_rfl) (by kernel_rfl) (by kernel_rfl) (fun _ _ _ h => h) (Or.inl ⟨by rfl, ?y10_14⟩) (by assumption) ?r10_14); (case y10_14 => (intro w hSw; (try dsimp only at hSw); go_simp; try (with_reducible rfl))); (try simp only [Act.put, List.getElem_toArray, List.getElem_cons_zero, List.getElem_cons_succ, List.setIfInBounds_toArray, List.set_cons_zero, List.set_cons_succ]))
        ((refine wpAnyH_ready (rs := [11]) (by kernel_rfl) (by simp) ?_); (refine AllReadyH.cons (o := _) rfl (fun K hK => ?_) AllReadyH.nil); go_simp)
        refine (operand_c (.mk xk xn xs xl) HX.out B b _ _ _ xa xc (hb0.drew.ext hx2) ((ht1.ext (Ext.refl _).drew (by omega)).ext hx2 (by show _ ≤ W.heap.size; omega)) hB (hxs1.ext (Ext.trans (Ext.refl _).drew hx2)) (by rw [← parenL_t (k := k) HQ.out (decide_eq_true_iff)]; simp only [List.length_append, List.flatten_cons, List.flatten_nil, List.length_cons, List.length_nil] at hlen ⊢; omega)).mono ?_
        rintro e u3 ⟨rfl, hb3, hx3⟩
        rw [← parenL_t (k := k) HQ.out (decide_eq_true_iff)] at hb3
        refine hK.out _ _ ((hbl.drew.ext hx2).fb hx3 (by omega) (by decide)).node (fun hHeld => ?_)
        clear hK K hHeld
        (try simp only [Act.put, List.getElem_toArray, List.getElem_cons_zero, List.getElem_cons_succ, List.setIfInBounds_toArray, List.set_cons_zero, List.set_cons_succ])
        (refine wpAnyH_done (by kernel_rfl) ?_ _)
        go_wp2_with fail
        go_meet
        refine ⟨?_, (Fb.of_ext (Ext.trans (Ext.refl _).drew hx2) hle1).trans hx3⟩
        exact hb3
    case rest =>
      obtain ⟨u3, hu3⟩ : ∃ u3 : World, u3 = wc := ⟨wc, rfl⟩
      subst hu3
      obtain ⟨hb3, hxx3⟩ := hcut
      have hlen2 : t.length + (wrap (Nd.mk xk xn xs xl).text (parenL xk k)).length + (1 + (symbol k).length + 1) + (wrap (Nd.mk yk yn ys yl).text (parenR yk k)).length ≤ 140737488355328 := by omega
      clear hlen
      obtain ⟨c0, c1, c2, c3⟩ := (hbn.fb hxx3 (by omega) (by decide)).node
      have hbr3 := hbr.fb hxx3 (by omega) (by decide)
      have ht3 := ht1.fb hxx3 hB
      have hys3 := hys1.fb hxx3
      have hle3 := hb3.le
      clear hbl hbn hxs1 l0 l1 l2 l3 ht1 hys1 hbr hb0
      go_wp2_with fail
      refine (arith_Symbol_c _ _ (by omega) (by omega) ht3).mono ?_
      rintro e u4 ⟨rfl, rfl⟩
      simp only
      go_wp2_with fail
      refine (write_c B b u3.heap.size 3 _ [[32], symbol k, [32]] _ (hb3.alloc _) (Box.new' _ _ (by simp)) (by simp) (by simp only [List.length_append, List.flatten_cons, List.flatten_nil, List.length_cons, List.length_nil]; omega)).mono ?_
      rintro e u4 ⟨rfl, hb4, hx4⟩
      have hxx4 : Fb B b u3 u4 := Fb.trans (Fb.of_ext (by repeat (first | exact Ext.refl _ | assumption | refine Ext.alloc ?_ _ | refine Ext.drew ?_ | refine Ext.trans ?_ (by assumption))) hle3) hx4
      have hbr4 := hbr3.fb hxx4 (by omega) (by decide)
      obtain ⟨r0, r1, r2, r3⟩ := hbr4.node
      have ht4 := ht3.fb hxx4 hB
      have hys4 := hys3.fb hxx4
      have hle4 := hb4.le
      clear hbr3 ht3 hys3 c0 c1 c2 c3 hx4
      simp only
      go_wp2_with fail
      cases hq : isBin yk
      · have HR := Lib.hid hq; clear hq
        refine wp_region_held_drew (S := fun w' => w'.cell? ⟨pr, 0, none⟩ = some (.int .u8 yk) ∧ w'.cell? ⟨pr, 1, none⟩ = some (.int .i64 yn) ∧ w'.cell? ⟨pr, 2, none⟩ = some (str ys) ∧ w'.cell? ⟨pr, 3, none⟩ = some (.slice ya yl.length yc)) (by kernel_rfl) ⟨r0, r1, r2, r3⟩ (fun hHeld => ?_)
        ((refine wpAnyH_take (i := 0) (oi := _) (v := ?v0_15) rfl (by kernel_rfl) (by kernel_rfl) (by kernel_rfl) (fun _ _ _ h => h) (Or.inl ⟨by rfl, ?y0_15⟩) (by assumption) ?r0_15); (case y0_15 => (intro w hSw; (try dsimp only at hSw); go_simp; try (with_reducible rfl))); (try simp only [Act.put, List.getElem_toArray, List.getElem_cons_zero, List.getElem_cons_succ, List.setIfInBounds_toArray, List.set_cons_zero, List.set_cons_succ]))
        ((refine wpAnyH_take (i := 1) (oi := _) (v := ?v1_16) rfl (by kernel_rfl) (by kernel_rfl) (by kernel_rfl) (fun _ _ _ h => h) (Or.inl ⟨by rfl, ?y1_16⟩) (by assumption) ?r1_16); (case y1_16 => (intro w hSw; (try dsimp only at hSw); go_simp; try (with_reducible rfl))); (try simp only [Act.put, List.getElem_toArray, List.getElem_cons_zero, List.getElem_cons_succ, List.setIfInBounds_toArray, List.set_cons_zero, List.set_cons_succ]))
        ((refine wpAnyH_take (i := 2) (oi := _) (v := ?v2_17) rfl (by kernel_rfl) (by kernel_rfl) (by kernel_rfl) (fun _ _ _ h => h) (Or.inl ⟨by rfl, ?y2_17⟩) (by assumption) ?r2_17); (case y2_17 => (intro w hSw; (try dsimp only at hSw); go_simp; try (with_reducible rfl))); (try simp only [Act.put, List.getElem_toArray, List.getElem_cons_zero, List.getElem_cons_succ, List.setIfInBounds_toArray, List.set_cons_zero, List.set_cons_succ]))
        ((refine wpAnyH_ready (rs := [3]) (by kernel_rfl) (by simp) ?_); (refine AllReadyH.cons (o := _) rfl (fun K hK => ?_) AllReadyH.nil); go_simp)
        refine (binary_c _ _ _ _ _ _ _).mono ?_
        rintro e u5 ⟨rfl, hx5⟩
        rw [HR.out]
        refine hK.out _ _ ⟨hx5.keep r0, hx5.keep r1, hx5.keep r2, hx5.keep r3⟩ (fun hHeld => ?_)
        clear hK K
        (try simp only [Act.put, List.getElem_toArray, List.getElem_cons_zero, List.getElem_cons_succ, List.setIfInBounds_toArray, List.set_cons_zero, List.set_cons_succ])
        ((refine wpAnyH_take (i := 4) (oi := _) (v := ?v4_18) rfl (by kernel_rfl) (by kernel_rfl) (by kernel_rfl) (fun _ _ _ h => h) (Or.inl ⟨by rfl, ?y4_18⟩) (by assumption) ?r4_18); (case y4_18 => (intro w hSw; (try dsimp only at hSw); go_simp; try (with_reducible rfl))); (try simp only [Act.put, List.getElem_toArray, List.getElem_cons_zero, List.getElem_cons_succ, List.setIfInBounds_toArray, List.set_cons_zero, List.set_cons_succ]))
        ((refine wpAnyH_take (i := 5) (oi := _) (v := undef) rfl (by kernel_rfl) (by kernel_rfl) (by kernel_rfl) (fun _ _ _ h => h) (Or.inr ⟨by rfl, rfl⟩) (by assumption) ?_); (try simp only [Act.put, List.getElem_toArray, List.getElem_cons_zero, List.getElem_cons_succ, List.setIfInBounds_toArray, List.set_cons_zero, List.set_cons_succ]))
        ((refine wpAnyH_take (i := 6) (oi := _) (v := undef) rfl (by kernel_rfl) (by kernel_rfl) (by kernel_rfl) (fun _ _ _ h => h) (Or.inr ⟨by rfl, rfl⟩) (by assumption) ?_); (try simp only [Act.put, List.getElem_toArray, List.getElem_cons_zero, List.getElem_cons_succ, List.setIfInBounds_toArray, List.set_cons_zero, List.set_cons_succ]))
        ((refine wpAnyH_take (i := 7) (oi := _) (v := undef) rfl (by kernel_rfl) (by kernel_rfl) (by kernel_rfl) (fun _ _ _ h => h) (Or.inr ⟨by rfl, rfl⟩) (by assumption) ?_); (try simp only [Act.put, List.getElem_toArray, List.getElem_cons_zero, List.getElem_cons_succ, List.setIfInBounds_toArray, List.set_cons_zero, List.set_cons_succ]))
        ((refine wpAnyH_take (i := 8) (oi := _) (v := undef) rfl (by kernel_rfl) (by kernel_rfl) (by kernel_rfl) (fun _ _ _ h => h) (Or.inr ⟨by rfl, rfl⟩) (by assumption) ?_); (try simp only [Act.put, List.getElem_toArray, List.getElem_cons_zero, List.getElem_cons_succ, List.setIfInBounds_toArray, List.set_cons_zero, List.set_cons_succ]))
        ((refine wpAnyH_take (i := 9) (oi := _) (v := undef) rfl (by kernel_rfl) (by kernel_rfl) (by kernel_rfl) (fun _ _ _ h => h) (Or.inr ⟨by rfl, rfl⟩) (by assumption) ?_); (try simp only [Act.put, List.getElem_toArray, List.getElem_cons_zero, List.getElem_cons_succ, List.setIfInBounds_toArray, List.set_cons_zero, List.set_cons_succ]))
        ((refine wpAnyH_take (i := 10) (oi := _) (v := ?v10_19) rfl (by kernel_rfl) (by kernel_rfl) (by kernel_rfl) (fun _ _ _ h => h) (Or.inl ⟨by rfl, ?y10_19⟩) (by assumption) ?r10_19); (case y10_19 => (intro w hSw; (try dsimp only at hSw); go_simp; try (with_reducible rfl))); (try simp only [Act.put, List.getElem_toArray, List.getElem_cons_zero, List.getElem_cons_succ, List.setIfInBounds_toArray, List.set_cons_zero, List.set_cons_succ]))
        ((refine wpAnyH_ready (rs := [11]) (by kernel_rfl) (by simp) ?_); (refine AllReadyH.cons (o := _) rfl (fun K hK => ?_) AllReadyH.nil); go_simp)
        refine (operand_c (.mk yk yn ys yl) HY.out B b _ _ _ ya yc (hb4.drew.ext hx5) ((ht4.ext (Ext.refl _).drew (by omega)).ext hx5 (by show _ ≤ u4.heap.size; omega)) hB (hys4.ext (Ext.trans (Ext.refl _).drew hx5)) (by rw [← parenR_f (k := k) HR.out]; simp only [List.length_append, List.flatten_cons, List.flatten_nil, List.length_cons, List.length_nil] at hlen2 ⊢; omega)).mono ?_
        rintro e u6 ⟨rfl, hb6, hx6⟩
        rw [← parenR_f (k := k) HR.out] at hb6
        refine hK.out _ _ ((hbr4.drew.ext hx5).fb hx6 (by omega) (by decide)).node (fun hHeld => ?_)
        clear hK K hHeld
        (try simp only [Act.put, List.getElem_toArray, List.getElem_cons_zero, List.getElem_cons_succ, List.setIfInBounds_toArray, List.set_cons_zero, List.set_cons_succ])
        (refine wpAnyH_done (by kernel_rfl) ?_ _)
        go_wp2_with fail
        go_end0
        refine ⟨rfl, ?_, (hxW1.trans hxx3).trans (hxx4.trans ((Fb.of_ext (Ext.trans (Ext.refl _).drew hx5) hle4).trans hx6))⟩
        simpa using hb6
      · have HR := Lib.hid hq; clear hq
        refine wp_region_held_drew (S := fun w' => w'.cell? ⟨pr, 0, none⟩ = some (.int .u8 yk) ∧ w'.cell? ⟨pr, 1, none⟩ = some (.int .i64 yn) ∧ w'.cell? ⟨pr, 2, none⟩ = some (str ys) ∧ w'.cell? ⟨pr, 3, none⟩ = some (.slice ya yl.length yc)) (by kernel_rfl) ⟨r0, r1, r2, r3⟩ (fun hHeld => ?_)
        ((refine wpAnyH_take (i := 0) (oi := _) (v := ?v0_20) rfl (by kernel_rfl) (by kernel_rfl) (by kernel_rfl) (fun _ _ _ h => h) (Or.inl ⟨by rfl, ?y0_20⟩) (by assumption) ?r0_20); (case y0_20 => (intro w hSw; (try dsimp only at hSw); go_simp; try (with_reducible rfl))); (try simp only [Act.put, List.getElem_toArray, List.getElem_cons_zero, List.getElem_cons_succ, List.setIfInBounds_toArray, List.set_cons_zero, List.set_cons_succ]))
        ((refine wpAnyH_take (i := 1) (oi := _) (v := ?v1_21) rfl (by kernel_rfl) (by kernel_rfl) (by kernel_rfl) (fun _ _ _ h => h) (Or.inl ⟨by rfl, ?y1_21⟩) (by assumption) ?r1_21); (case y1_21 => (intro w hSw; (try dsimp only at hSw); go_simp; try (with_reducible rfl))); (try simp only [Act.put, List.getElem_toArray, List.getElem_cons_zero, List.getElem_cons_succ, List.setIfInBounds_toArray, List.set_cons_zero, List.set_cons_succ]))
        ((refine wpAnyH_take (i := 2) (oi := _) (v := ?v2_22) rfl (by kernel_rfl) (by kernel_rfl) (by kernel_rfl) (fun _ _ _ h => h) (Or.inl ⟨by rfl, ?y2_22⟩) (by assumption) ?r2_22); (case y2_22 => (intro w hSw; (try dsimp only at hSw); go_simp; try (with_reducible rfl))); (try simp only [Act.put, List.getElem_toArray, List.getElem_cons_zero, List.getElem_cons_succ, List.setIfInBounds_toArray, List.set_cons_zero, List.set_cons_succ]))
        ((refine wpAnyH_ready (rs := [3]) (by kernel_rfl) (by simp) ?_); (refine AllReadyH.cons (o := _) rfl (fun K hK => ?_) AllReadyH.nil); go_simp)
        refine (binary_c _ _ _ _ _ _ _).mono ?_
        rintro e u5 ⟨rfl, hx5⟩
        rw [HR.out]
        refine hK.out _ _ ⟨hx5.keep r0, hx5.keep r1, hx5.keep r2, hx5.keep r3⟩ (fun hHeld => ?_)
        clear hK K
        (try simp only [Act.put, List.getElem_toArray, List.getElem_cons_zero, List.getElem_cons_succ, List.setIfInBounds_toArray, List.set_cons_zero, List.set_cons_succ])
        ((refine wpAnyH_take (i := 4) (oi := _) (v := ?v4_23) rfl (by kernel_rfl) (by kernel_rfl) (by kernel_rfl) (fun _ _ _ h => h) (Or.inl ⟨by rfl, ?y4_23⟩) (by assumption) ?r4_23); (case y4_23 => (intro w hSw; (try dsimp only at hSw); go_simp; try (with_reducible rfl))); (try simp only [Act.put, List.getElem_toArray, List.getElem_cons_zero, List.getElem_cons_succ, List.setIfInBounds_toArray, List.set_cons_zero, List.set_cons_succ]))
        have hbk : 8 ≤ yk ∧ yk ≤ 23 := by have := HR.out; simp [isBin] at this; exact this
        obtain ⟨hbk0, hbk1⟩ := hbk
        ((refine wpAnyH_take (i := 5) (oi := _) (v := ?v5_24) rfl (by kernel_rfl) (by kernel_rfl) (by kernel_rfl) (fun _ _ _ h => h) (Or.inl ⟨by rfl, ?y5_24⟩) (by assumption) ?r5_24); (case y5_24 => (intro w hSw; (try dsimp only at hSw); go_simp; try (with_reducible rfl))); (try simp only [Act.put, List.getElem_toArray, List.getElem_cons_zero, List.getElem_cons_succ, List.setIfInBounds_toArray, List.set_cons_zero, List.set_cons_succ]))
        ((refine wpAnyH_take (i := 6) (oi := _) (v := ?v6_25) rfl (by kernel_rfl) (by kernel_rfl) (by kernel_rfl) (fun _ _ _ h => h) (Or.inl ⟨by rfl, ?y6_25⟩) (by assumption) ?r6_25); (case y6_25 => (intro w hSw; (try dsimp only at hSw); go_simp; try (with_reducible rfl))); (try simp only [Act.put, List.getElem_toArray, List.getElem_cons_zero, List.getElem_cons_succ, List.setIfInBounds_toArray, List.set_cons_zero, List.set_cons_succ]))
        ((refine wpAnyH_take (i := 8) (oi := _) (v := ?v8_26) rfl (by kernel_rfl) (by kernel_rfl) (by kernel_rfl) (fun _ _ _ h => h) (Or.inl ⟨by rfl, ?y8_26⟩) (by assumption) ?r8_26); (case y8_26 => (intro w hSw; (try dsimp only at hSw); go_simp; try (with_reducible rfl))); (try simp only [Act.put, List.getElem_toArray, List.getElem_cons_zero, List.getElem_cons_succ, List.setIfInBounds_toArray, List.set_cons_zero, List.set_cons_succ]))
        ((refine wpAnyH_ready (rs := [7]) (by kernel_rfl) (by simp) ?_); (refine AllReadyH.cons (o := _) rfl (fun K hK => ?_) AllReadyH.nil); go_simp)
        refine (arith_Level_c _ _ (by omega) (by omega)).mono ?_
        rintro e u' ⟨rfl, rfl⟩
        refine hK.out _ _ ⟨hx5.keep r0, hx5.keep r1, hx5.keep r2, hx5.keep r3⟩ (fun hHeld => ?_)
        clear hK K
        (try simp only [Act.put, List.getElem_toArray, List.getElem_cons_zero, List.getElem_cons_succ, List.setIfInBounds_toArray, List.set_cons_zero, List.set_cons_succ])
        ((refine wpAnyH_take (i := 9) (oi := _) (v := ?v9_27) rfl (by kernel_rfl) (by kernel_rfl) (by kernel_rfl) (fun _ _ _ h => h) (Or.inl ⟨by rfl, ?y9_27⟩) (by assumption) ?r9_27); (case y9_27 => (intro w hSw; (try dsimp only at hSw); go_simp; try (with_reducible rfl))); (try simp only [Act.put, List.getElem_toArray, List.getElem_cons_zero, List.getElem_cons_succ, List.setIfInBounds_toArray, List.set_cons_zero, List.set_cons_succ]))
        ((refine wpAnyH_take (i := 10) (oi := _) (v := ?v10_28) rfl (by kernel_rfl) (by kernel_rfl) (by kernel_rfl) (fun _ _ _ h => h) (Or.inl ⟨by rfl, ?y10_28⟩) (by assumption) ?r10_28); (case y10_28 => (intro w hSw; (try dsimp only at hSw); go_simp; try (with_reducible rfl))); (try simp only [Act.put, List.getElem_toArray, List.getElem_cons_zero, List.getElem_cons_succ, List.setIfInBounds_toArray, List.set_cons_zero, List.set_cons_succ]))
        ((refine wpAnyH_ready (rs := [11]) (by kernel_rfl) (by simp) ?_); (refine AllReadyH.cons (o := _) rfl (fun K hK => ?_) AllReadyH.nil); go_simp)
        refine (operand_c (.mk yk yn ys yl) HY.out B b _ _ _ ya yc (hb4.drew.ext hx5) ((ht4.ext (Ext.refl _).drew (by omega)).ext hx5 (by show _ ≤ u4.heap.size; omega)) hB (hys4.ext (Ext.trans (Ext.refl _).drew hx5)) (by rw [← parenR_t (k := k) HR.out (decide_eq_true_iff)]; simp only [List.length_append, List.flatten_cons, List.flatten_nil, List.length_cons, List.length_nil] at hlen2 ⊢; omega)).mono ?_
        rintro e u6 ⟨rfl, hb6, hx6⟩
        rw [← parenR_t (k := k) HR.out (decide_eq_true_iff)] at hb6
        refine hK.out _ _ ((hbr4.drew.ext hx5).fb hx6 (by omega) (by decide)).node (fun hHeld => ?_)
        clear hK K hHeld
        (try simp only [Act.put, List.getElem_toArray, List.getElem_cons_zero, List.getElem_cons_succ, List.setIfInBounds_toArray, List.set_cons_zero, List.set_cons_succ])
        (refine wpAnyH_done (by kernel_rfl) ?_ _)
        go_wp2_with fail
        go_end0
        refine ⟨rfl, ?_, (hxW1.trans hxx3).trans (hxx4.trans ((Fb.of_ext (Ext.trans (Ext.refl _).drew hx5) hle4).trans hx6))⟩
        simpa using hb6
end Bk
