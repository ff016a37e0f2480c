/- Contract of the reference's Expr of layer 5. (Printed by wip/mkrefexpr.py.) -/
import Derived.Test.YtkadkafapjhhkaaDoorRef05
import Derived.Deep.DeepCutAuto
namespace Bk
open Go Go.RowKit Go.Proofs
/-- The reference's function f returns the text of t. -/
def Tells (S : Nat → Prop) (f : FuncId) (txt : Nd → List UInt8) (t : Nd) : Prop :=
  ∀ (a : Option Addr) (c : Nat) (w : World), t.sits S w a → Calls Tryd.prog f #[t.val a c] w fun e w' => e = .returned (str (txt t)) ∧ Ext w w'
theorem ref_1 (S : Nat → Prop) (n : Int) (s : List UInt8) (l : List Nd) (hn0 : 0 ≤ n) (hn1 : n ≤ 9223372036854775807) : Tells S 10 Nd.text (.mk 1 n s l) := by
  intro a c w hs
  have htx : (Nd.mk 1 n s l).text = Lib.decDigits n.toNat := by rw [Nd.text.eq_def]; simp [Lib.itoa]; intro h; omega
  rw [htx]
  simp only [Nd.kind, Nd.num, Nd.name, Nd.kids, Nd.val]
  clear hs
  go_enter Tryd.func10, Tryd.ntmps10
  go_wp2_with (go_at_call 27; refine (Decimal_c (n.toNat + 1) n _ (by omega) hn0 hn1).mono ?_; rintro e w1 ⟨rfl, hx1⟩)
  go_ret
  exact ⟨rfl, (by repeat (first | exact Ext.refl _ | assumption | refine Ext.alloc ?_ _ | refine Ext.drew ?_ | refine Ext.trans ?_ (by assumption)))⟩
theorem ref_2 (S : Nat → Prop) (n : Int) (s : List UInt8) (l : List Nd) : Tells S 10 Nd.text (.mk 2 n s l) := by
  intro a c w hs
  have htx : (Nd.mk 2 n s l).text = s := by rw [Nd.text.eq_def]; simp
  rw [htx]
  simp only [Nd.kind, Nd.num, Nd.name, Nd.kids, Nd.val]
  clear hs
  go_enter Tryd.func10, Tryd.ntmps10
  go_wp2_with fail
  go_ret
  exact ⟨rfl, (by repeat (first | exact Ext.refl _ | assumption | refine Ext.alloc ?_ _ | refine Ext.drew ?_ | refine Ext.trans ?_ (by assumption)))⟩
theorem ref_4 (S : Nat → Prop) (n : Int) (s : List UInt8) (l : List Nd) (hsl : s.length ≤ 1000) : Tells S 10 Nd.text (.mk 4 n s l) := by
  intro a c w hs
  have htx : (Nd.mk 4 n s l).text = [116, 111, 112, 40] ++ s ++ [41] := by rw [Nd.text.eq_def]; simp
  rw [htx]
  simp only [Nd.kind, Nd.num, Nd.name, Nd.kids, Nd.val]
  clear hs
  go_enter Tryd.func10, Tryd.ntmps10
  go_wp2_with fail
  go_ret
  refine ⟨ret_eq ?_, (by repeat (first | exact Ext.refl _ | assumption | refine Ext.alloc ?_ _ | refine Ext.drew ?_ | refine Ext.trans ?_ (by assumption)))⟩
  show Value.string ((⟨([116, 111, 112, 40] : List UInt8).toArray⟩ : ByteArray) ++ ⟨s.toArray⟩ ++ ⟨([41] : List UInt8).toArray⟩) = _
  rw [str_app, str_app]
  rfl
theorem ref_5 (S : Nat → Prop) (n : Int) (s : List UInt8) (l : List Nd) (hsl : s.length ≤ 1000) : Tells S 10 Nd.text (.mk 5 n s l) := by
  intro a c w hs
  have htx : (Nd.mk 5 n s l).text = [115, 105, 122, 101, 40] ++ s ++ [41] := by rw [Nd.text.eq_def]; simp
  rw [htx]
  simp only [Nd.kind, Nd.num, Nd.name, Nd.kids, Nd.val]
  clear hs
  go_enter Tryd.func10, Tryd.ntmps10
  go_wp2_with fail
  go_ret
  refine ⟨ret_eq ?_, (by repeat (first | exact Ext.refl _ | assumption | refine Ext.alloc ?_ _ | refine Ext.drew ?_ | refine Ext.trans ?_ (by assumption)))⟩
  show Value.string ((⟨([115, 105, 122, 101, 40] : List UInt8).toArray⟩ : ByteArray) ++ ⟨s.toArray⟩ ++ ⟨([41] : List UInt8).toArray⟩) = _
  rw [str_app, str_app]
  rfl
set_option maxRecDepth 100000 in
set_option maxHeartbeats 2000000 in
theorem ref_3 (S : Nat → Prop) (n : Int) (s : List UInt8) (x : Nd) (hx : Tells S 10 Nd.text x) (hsl : s.length ≤ 1000) (hxl : x.text.length ≤ 1000000000000000) : Tells S 10 Nd.text (.mk 3 n s [x]) := by
  intro a c w hs
  have htx : (Nd.mk 3 n s [x]).text = s ++ [91] ++ x.text ++ [93] := by rw [Nd.text.eq_def]; simp
  rw [htx]
  have HX := Lib.hid hx; clear hx htx
  simp only [Nd.kind, Nd.num, Nd.name, Nd.kids, Nd.val, Nd.sits, List.length_cons, List.length_nil] at hs ⊢
  obtain ⟨xk, xn, xs, xl⟩ := x
  obtain ⟨kb, ko, xa, xc, rfl, -, k0, k1, k2, k3, hxs⟩ := row1 hs
  simp only [Nd.kind, Nd.num, Nd.name, Nd.kids] at k0 k1 k2 k3
  have hkw := cell_lt k0
  simp only at hkw
  have hne : kb ≠ w.heap.size := by omega
  generalize htt : (Nd.mk xk xn xs xl).text = tx at *
  have HTT := Lib.hid htt; clear htt
  have z1 : ¬ 9223372036854775807 < s.length + 1 := by omega
  have z2 : ¬ 9223372036854775807 < s.length + 1 + tx.length := by omega
  have z3 : ¬ 9223372036854775807 < s.length + 1 + tx.length + 1 := by omega
  go_enter Tryd.func10, Tryd.ntmps10
  go_wp2_with fail
  refine wp_region_held_drew (S := fun w' => w'.cell? ⟨w.heap.size, 2, none⟩ = some (str s) ∧ w'.cell? ⟨w.heap.size, 3, none⟩ = some (.slice (some ⟨kb, ko, none⟩) 1 c) ∧ w'.cell? ⟨kb, ko, none⟩ = some (.int .u8 xk) ∧ w'.cell? ⟨kb, ko + 1, none⟩ = some (.int .i64 xn) ∧ w'.cell? ⟨kb, ko + 2, none⟩ = some (str xs) ∧ w'.cell? ⟨kb, ko + 3, none⟩ = some (.slice xa xl.length xc)) (by kernel_rfl) (by go_simp) (fun hHeld => ?_)
  obtain ⟨q2, q3, m0, m1, m2, m3⟩ := id hHeld
  ((refine wpAnyH_take (i := 0) (oi := _) (v := ?v0_1) rfl (by kernel_rfl) (by kernel_rfl) (by kernel_rfl) (fun _ _ _ h => h) (Or.inl ⟨by rfl, ?y0_1⟩) (by assumption) ?r0_1); (case y0_1 => (intro w hSw; (try dsimp only at hSw); go_simp; try (with_reducible rfl))); (try simp only [Act.put, List.getElem_toArray, List.getElem_cons_zero, List.getElem_cons_succ, List.setIfInBounds_toArray, List.set_cons_zero, List.set_cons_succ]))
  ((refine wpAnyH_take (i := 1) (oi := _) (v := ?v1_2) rfl (by kernel_rfl) (by kernel_rfl) (by kernel_rfl) (fun _ _ _ h => h) (Or.inl ⟨by rfl, ?y1_2⟩) (by assumption) ?r1_2); (case y1_2 => (intro w hSw; (try dsimp only at hSw); go_simp; try (with_reducible rfl))); (try simp only [Act.put, List.getElem_toArray, List.getElem_cons_zero, List.getElem_cons_succ, List.setIfInBounds_toArray, List.set_cons_zero, List.set_cons_succ]))
  ((refine wpAnyH_take (i := 2) (oi := _) (v := ?v2_3) rfl (by kernel_rfl) (by kernel_rfl) (by kernel_rfl) (fun _ _ _ h => h) (Or.inl ⟨by rfl, ?y2_3⟩) (by assumption) ?r2_3); (case y2_3 => (intro w hSw; (try dsimp only at hSw); go_simp; try (with_reducible rfl))); (try simp only [Act.put, List.getElem_toArray, List.getElem_cons_zero, List.getElem_cons_succ, List.setIfInBounds_toArray, List.set_cons_zero, List.set_cons_succ]))
  ((refine wpAnyH_take (i := 3) (oi := _) (v := ?v3_4) rfl (by kernel_rfl) (by kernel_rfl) (by kernel_rfl) (fun _ _ _ h => h) (Or.inl ⟨by rfl, ?y3_4⟩) (by assumption) ?r3_4); (case y3_4 => (intro w hSw; (try dsimp only at hSw); go_simp; try (with_reducible rfl))); (try simp only [Act.put, List.getElem_toArray, List.getElem_cons_zero, List.getElem_cons_succ, List.setIfInBounds_toArray, List.set_cons_zero, List.set_cons_succ]))
  ((refine wpAnyH_take (i := 4) (oi := _) (v := ?v4_5) rfl (by kernel_rfl) (by kernel_rfl) (by kernel_rfl) (fun _ _ _ h => h) (Or.inl ⟨by rfl, ?y4_5⟩) (by assumption) ?r4_5); (case y4_5 => (intro w hSw; (try dsimp only at hSw); go_simp; try (with_reducible rfl))); (try simp only [Act.put, List.getElem_toArray, List.getElem_cons_zero, List.getElem_cons_succ, List.setIfInBounds_toArray, List.set_cons_zero, List.set_cons_succ]))
  ((refine wpAnyH_take (i := 5) (oi := _) (v := ?v5_6) rfl (by kernel_rfl) (by kernel_rfl) (by kernel_rfl) (fun _ _ _ h => h) (Or.inl ⟨by rfl, ?y5_6⟩) (by assumption) ?r5_6); (case y5_6 => (intro w hSw; (try dsimp only at hSw); go_simp; try (with_reducible rfl))); (try simp only [Act.put, List.getElem_toArray, List.getElem_cons_zero, List.getElem_cons_succ, List.setIfInBounds_toArray, List.set_cons_zero, List.set_cons_succ]))
  ((refine wpAnyH_take (i := 6) (oi := _) (v := ?v6_7) rfl (by kernel_rfl) (by kernel_rfl) (by kernel_rfl) (fun _ _ _ h => h) (Or.inl ⟨by rfl, ?y6_7⟩) (by assumption) ?r6_7); (case y6_7 => (intro w hSw; (try dsimp only at hSw); go_simp; try (with_reducible rfl))); (try simp only [Act.put, List.getElem_toArray, List.getElem_cons_zero, List.getElem_cons_succ, List.setIfInBounds_toArray, List.set_cons_zero, List.set_cons_succ]))
  ((refine wpAnyH_ready (rs := [7]) (by kernel_rfl) (by simp) ?_); (refine AllReadyH.cons (o := _) rfl (fun K hK => ?_) AllReadyH.nil); go_simp)
  refine (HX.out xa xc _ (hxs.ext (by repeat (first | exact Ext.refl _ | assumption | refine Ext.alloc ?_ _ | refine Ext.drew ?_ | refine Ext.trans ?_ (by assumption))))).mono ?_
  rintro e w1 ⟨rfl, hx1⟩
  rw [HTT.out]
  refine hK.out _ _ ⟨hx1.keep q2, hx1.keep q3, hx1.keep m0, hx1.keep m1, hx1.keep m2, hx1.keep m3⟩ (fun hHeld => ?_)
  clear hK K
  (try simp only [Act.put, List.getElem_toArray, List.getElem_cons_zero, List.getElem_cons_succ, List.setIfInBounds_toArray, List.set_cons_zero, List.set_cons_succ])
  ((refine wpAnyH_take (i := 8) (oi := _) (v := ?v8_8) rfl (by kernel_rfl) (by kernel_rfl) (by kernel_rfl) (fun _ _ _ h => h) (Or.inl ⟨by rfl, ?y8_8⟩) (by assumption) ?r8_8); (case y8_8 => (intro w hSw; (try dsimp only at hSw); go_simp; try (with_reducible rfl))); (try simp only [Act.put, List.getElem_toArray, List.getElem_cons_zero, List.getElem_cons_succ, List.setIfInBounds_toArray, List.set_cons_zero, List.set_cons_succ]))
  ((refine wpAnyH_take (i := 9) (oi := _) (v := ?v9_9) rfl (by kernel_rfl) (by kernel_rfl) (by kernel_rfl) (fun _ _ _ h => h) (Or.inl ⟨by rfl, ?y9_9⟩) (by assumption) ?r9_9); (case y9_9 => (intro w hSw; (try dsimp only at hSw); go_simp; try (with_reducible rfl))); (try simp only [Act.put, List.getElem_toArray, List.getElem_cons_zero, List.getElem_cons_succ, List.setIfInBounds_toArray, List.set_cons_zero, List.set_cons_succ]))
  ((refine wpAnyH_take (i := 10) (oi := _) (v := ?v10_10) rfl (by kernel_rfl) (by kernel_rfl) (by kernel_rfl) (fun _ _ _ h => h) (Or.inl ⟨by rfl, ?y10_10⟩) (by assumption) ?r10_10); (case y10_10 => (intro w hSw; (try dsimp only at hSw); go_simp; try (with_reducible rfl))); (try simp only [Act.put, List.getElem_toArray, List.getElem_cons_zero, List.getElem_cons_succ, List.setIfInBounds_toArray, List.set_cons_zero, List.set_cons_succ]))
  (refine wpAnyH_done (by kernel_rfl) ?_ _)
  go_wp2_with fail
  go_ret
  refine ⟨ret_eq ?_, (by repeat (first | exact Ext.refl _ | assumption | refine Ext.alloc ?_ _ | refine Ext.drew ?_ | refine Ext.trans ?_ (by assumption)))⟩
  show Value.string ((⟨s.toArray⟩ : ByteArray) ++ ⟨([91] : List UInt8).toArray⟩ ++ ⟨tx.toArray⟩ ++ ⟨([93] : List UInt8).toArray⟩) = _
  rw [str_app, str_app, str_app]
set_option maxRecDepth 100000 in
set_option maxHeartbeats 2000000 in
theorem ref_un (S : Nat → Prop) (k n : Int) (s : List UInt8) (x : Nd) (hk : k = 6 ∨ k = 7) (hx : Tells S 10 Nd.text x) (hxl : x.text.length ≤ 1000000000000000) : Tells S 10 Nd.text (.mk k n s [x]) := by
  intro a c w hs
  have htx : (Nd.mk k n s [x]).text = symbol k ++ wrap x.text (isBin x.kind) := by rcases hk with rfl | rfl <;> (rw [Nd.text.eq_def]; simp)
  rw [htx]
  have HX := Lib.hid hx; clear hx htx
  simp only [Nd.kind, Nd.num, Nd.name, Nd.kids, Nd.val, Nd.sits, List.length_cons, List.length_nil] at hs ⊢
  obtain ⟨xk, xn, xs, xl⟩ := x
  obtain ⟨kb, ko, xa, xc, rfl, -, k0, k1, k2, k3, hxs⟩ := row1 hs
  simp only [Nd.kind, Nd.num, Nd.name, Nd.kids] at k0 k1 k2 k3 ⊢
  have hkw := cell_lt k0
  simp only at hkw
  have hne : kb ≠ w.heap.size := by omega
  generalize htt : (Nd.mk xk xn xs xl).text = tx at *
  have HTT := Lib.hid htt; clear htt
  have hk0 : 0 ≤ k ∧ k ≤ 255 := by omega
  obtain ⟨hk0, hk1⟩ := hk0
  have d1 : (k == 1) = false := by rw [beq_eq_false_iff_ne]; omega
  have d2 : (k == 2) = false := by rw [beq_eq_false_iff_ne]; omega
  have d3 : (k == 3) = false := by rw [beq_eq_false_iff_ne]; omega
  have d4 : (k == 4) = false := by rw [beq_eq_false_iff_ne]; omega
  have d5 : (k == 5) = false := by rw [beq_eq_false_iff_ne]; omega
  have hsy := symbol_len k
  have hwl := wrap_len tx (isBin xk)
  have z1 : ¬ 9223372036854775807 < (symbol k).length + (wrap tx (isBin xk)).length := by omega
  have dk : (k == 6) = true ∨ (k == 6) = false ∧ (k == 7) = true := by rcases hk with rfl | rfl <;> simp
  clear hk hsy hwl
  rcases dk with d6 | ⟨d6, d7⟩
  · skip
    go_enter Tryd.func10, Tryd.ntmps10
    go_wp2_with fail
    refine wp_region_held_drew (S := fun w' => w'.cell? ⟨w.heap.size, 0, none⟩ = some (.int .u8 k) ∧ w'.cell? ⟨w.heap.size, 3, none⟩ = some (.slice (some ⟨kb, ko, none⟩) 1 c) ∧ w'.cell? ⟨kb, ko, none⟩ = some (.int .u8 xk) ∧ w'.cell? ⟨kb, ko + 1, none⟩ = some (.int .i64 xn) ∧ w'.cell? ⟨kb, ko + 2, none⟩ = some (str xs) ∧ w'.cell? ⟨kb, ko + 3, none⟩ = some (.slice xa xl.length xc)) (by kernel_rfl) (by go_simp) (fun hHeld => ?_)
    obtain ⟨q0, q3, m0, m1, m2, m3⟩ := id hHeld
    ((refine wpAnyH_take (i := 0) (oi := _) (v := ?v0_11) rfl (by kernel_rfl) (by kernel_rfl) (by kernel_rfl) (fun _ _ _ h => h) (Or.inl ⟨by rfl, ?y0_11⟩) (by assumption) ?r0_11); (case y0_11 => (intro w hSw; (try dsimp only at hSw); go_simp; try (with_reducible rfl))); (try simp only [Act.put, List.getElem_toArray, List.getElem_cons_zero, List.getElem_cons_succ, List.setIfInBounds_toArray, List.set_cons_zero, List.set_cons_succ]))
    ((refine wpAnyH_take (i := 1) (oi := _) (v := ?v1_12) rfl (by kernel_rfl) (by kernel_rfl) (by kernel_rfl) (fun _ _ _ h => h) (Or.inl ⟨by rfl, ?y1_12⟩) (by assumption) ?r1_12); (case y1_12 => (intro w hSw; (try dsimp only at hSw); go_simp; try (with_reducible rfl))); (try simp only [Act.put, List.getElem_toArray, List.getElem_cons_zero, List.getElem_cons_succ, List.setIfInBounds_toArray, List.set_cons_zero, List.set_cons_succ]))
    ((refine wpAnyH_take (i := 3) (oi := _) (v := ?v3_13) rfl (by kernel_rfl) (by kernel_rfl) (by kernel_rfl) (fun _ _ _ h => h) (Or.inl ⟨by rfl, ?y3_13⟩) (by assumption) ?r3_13); (case y3_13 => (intro w hSw; (try dsimp only at hSw); go_simp; try (with_reducible rfl))); (try simp only [Act.put, List.getElem_toArray, List.getElem_cons_zero, List.getElem_cons_succ, List.setIfInBounds_toArray, List.set_cons_zero, List.set_cons_succ]))
    ((refine wpAnyH_take (i := 4) (oi := _) (v := ?v4_14) rfl (by kernel_rfl) (by kernel_rfl) (by kernel_rfl) (fun _ _ _ h => h) (Or.inl ⟨by rfl, ?y4_14⟩) (by assumption) ?r4_14); (case y4_14 => (intro w hSw; (try dsimp only at hSw); go_simp; try (with_reducible rfl))); (try simp only [Act.put, List.getElem_toArray, List.getElem_cons_zero, List.getElem_cons_succ, List.setIfInBounds_toArray, List.set_cons_zero, List.set_cons_succ]))
    ((refine wpAnyH_take (i := 5) (oi := _) (v := ?v5_15) rfl (by kernel_rfl) (by kernel_rfl) (by kernel_rfl) (fun _ _ _ h => h) (Or.inl ⟨by rfl, ?y5_15⟩) (by assumption) ?r5_15); (case y5_15 => (intro w hSw; (try dsimp only at hSw); go_simp; try (with_reducible rfl))); (try simp only [Act.put, List.getElem_toArray, List.getElem_cons_zero, List.getElem_cons_succ, List.setIfInBounds_toArray, List.set_cons_zero, List.set_cons_succ]))
    ((refine wpAnyH_take (i := 6) (oi := _) (v := ?v6_16) rfl (by kernel_rfl) (by kernel_rfl) (by kernel_rfl) (fun _ _ _ h => h) (Or.inl ⟨by rfl, ?y6_16⟩) (by assumption) ?r6_16); (case y6_16 => (intro w hSw; (try dsimp only at hSw); go_simp; try (with_reducible rfl))); (try simp only [Act.put, List.getElem_toArray, List.getElem_cons_zero, List.getElem_cons_succ, List.setIfInBounds_toArray, List.set_cons_zero, List.set_cons_succ]))
    ((refine wpAnyH_take (i := 8) (oi := _) (v := ?v8_17) rfl (by kernel_rfl) (by kernel_rfl) (by kernel_rfl) (fun _ _ _ h => h) (Or.inl ⟨by rfl, ?y8_17⟩) (by assumption) ?r8_17); (case y8_17 => (intro w hSw; (try dsimp only at hSw); go_simp; try (with_reducible rfl))); (try simp only [Act.put, List.getElem_toArray, List.getElem_cons_zero, List.getElem_cons_succ, List.setIfInBounds_toArray, List.set_cons_zero, List.set_cons_succ]))
    ((refine wpAnyH_take (i := 9) (oi := _) (v := ?v9_18) rfl (by kernel_rfl) (by kernel_rfl) (by kernel_rfl) (fun _ _ _ h => h) (Or.inl ⟨by rfl, ?y9_18⟩) (by assumption) ?r9_18); (case y9_18 => (intro w hSw; (try dsimp only at hSw); go_simp; try (with_reducible rfl))); (try simp only [Act.put, List.getElem_toArray, List.getElem_cons_zero, List.getElem_cons_succ, List.setIfInBounds_toArray, List.set_cons_zero, List.set_cons_succ]))
    ((refine wpAnyH_take (i := 10) (oi := _) (v := ?v10_19) rfl (by kernel_rfl) (by kernel_rfl) (by kernel_rfl) (fun _ _ _ h => h) (Or.inl ⟨by rfl, ?y10_19⟩) (by assumption) ?r10_19); (case y10_19 => (intro w hSw; (try dsimp only at hSw); go_simp; try (with_reducible rfl))); (try simp only [Act.put, List.getElem_toArray, List.getElem_cons_zero, List.getElem_cons_succ, List.setIfInBounds_toArray, List.set_cons_zero, List.set_cons_succ]))
    ((refine wpAnyH_take (i := 11) (oi := _) (v := ?v11_20) rfl (by kernel_rfl) (by kernel_rfl) (by kernel_rfl) (fun _ _ _ h => h) (Or.inl ⟨by rfl, ?y11_20⟩) (by assumption) ?r11_20); (case y11_20 => (intro w hSw; (try dsimp only at hSw); go_simp; try (with_reducible rfl))); (try simp only [Act.put, List.getElem_toArray, List.getElem_cons_zero, List.getElem_cons_succ, List.setIfInBounds_toArray, List.set_cons_zero, List.set_cons_succ]))
    ((refine wpAnyH_ready (rs := [2]) (by kernel_rfl) (by simp) ?_); (refine AllReadyH.cons (o := _) rfl (fun K hK => ?_) AllReadyH.nil); go_simp)
    refine (ref_Symbol_c _ _ hk0 hk1).mono ?_
    rintro e w1 ⟨rfl, rfl⟩
    refine hK.out _ _ ⟨q0, q3, m0, m1, m2, m3⟩ (fun hHeld => ?_)
    clear hK K
    (try simp only [Act.put, List.getElem_toArray, List.getElem_cons_zero, List.getElem_cons_succ, List.setIfInBounds_toArray, List.set_cons_zero, List.set_cons_succ])
    ((refine wpAnyH_ready (rs := [7]) (by kernel_rfl) (by simp) ?_); (refine AllReadyH.cons (o := _) rfl (fun K hK => ?_) AllReadyH.nil); go_simp)
    refine (HX.out xa xc _ (hxs.ext (by repeat (first | exact Ext.refl _ | assumption | refine Ext.alloc ?_ _ | refine Ext.drew ?_ | refine Ext.trans ?_ (by assumption))))).mono ?_
    rintro e w1 ⟨rfl, hx1⟩
    rw [HTT.out]
    refine hK.out _ _ ⟨hx1.keep q0, hx1.keep q3, hx1.keep m0, hx1.keep m1, hx1.keep m2, hx1.keep m3⟩ (fun hHeld => ?_)
    clear hK K
    (try simp only [Act.put, List.getElem_toArray, List.getElem_cons_zero, List.getElem_cons_succ, List.setIfInBounds_toArray, List.set_cons_zero, List.set_cons_succ])
    ((refine wpAnyH_ready (rs := [12]) (by kernel_rfl) (by simp) ?_); (refine AllReadyH.cons (o := _) rfl (fun K hK => ?_) AllReadyH.nil); go_simp)
    refine (ref_binary_c _ _ _ _ _ _ _).mono ?_
    rintro e w2 ⟨rfl, hx2⟩
    refine hK.out _ _ ⟨(hx1.trans hx2).keep q0, (hx1.trans hx2).keep q3, (hx1.trans hx2).keep m0, (hx1.trans hx2).keep m1, (hx1.trans hx2).keep m2, (hx1.trans hx2).keep m3⟩ (fun hHeld => ?_)
    clear hK K
    (try simp only [Act.put, List.getElem_toArray, List.getElem_cons_zero, List.getElem_cons_succ, List.setIfInBounds_toArray, List.set_cons_zero, List.set_cons_succ])
    ((refine wpAnyH_ready (rs := [13]) (by kernel_rfl) (by simp) ?_); (refine AllReadyH.cons (o := _) rfl (fun K hK => ?_) AllReadyH.nil); go_simp)
    refine (ref_wrap_c _ _ _ (by omega)).mono ?_
    rintro e w3 ⟨rfl, rfl⟩
    refine hK.out _ _ ⟨(hx1.trans hx2).keep q0, (hx1.trans hx2).keep q3, (hx1.trans hx2).keep m0, (hx1.trans hx2).keep m1, (hx1.trans hx2).keep m2, (hx1.trans hx2).keep m3⟩ (fun hHeld => ?_)
    clear hK K
    (try simp only [Act.put, List.getElem_toArray, List.getElem_cons_zero, List.getElem_cons_succ, List.setIfInBounds_toArray, List.set_cons_zero, List.set_cons_succ])
    ((refine wpAnyH_take (i := 14) (oi := _) (v := ?v14_21) rfl (by kernel_rfl) (by kernel_rfl) (by kernel_rfl) (fun _ _ _ h => h) (Or.inl ⟨by rfl, ?y14_21⟩) (by assumption) ?r14_21); (case y14_21 => (intro w hSw; (try dsimp only at hSw); go_simp; try (with_reducible rfl))); (try simp only [Act.put, List.getElem_toArray, List.getElem_cons_zero, List.getElem_cons_succ, List.setIfInBounds_toArray, List.set_cons_zero, List.set_cons_succ]))
    ((refine wpAnyH_take (i := 15) (oi := _) (v := ?v15_22) rfl (by kernel_rfl) (by kernel_rfl) (by kernel_rfl) (fun _ _ _ h => h) (Or.inl ⟨by rfl, ?y15_22⟩) (by assumption) ?r15_22); (case y15_22 => (intro w hSw; (try dsimp only at hSw); go_simp; try (with_reducible rfl))); (try simp only [Act.put, List.getElem_toArray, List.getElem_cons_zero, List.getElem_cons_succ, List.setIfInBounds_toArray, List.set_cons_zero, List.set_cons_succ]))
    (refine wpAnyH_done (by kernel_rfl) ?_ _)
    go_wp2_with fail
    go_ret
    refine ⟨ret_eq ?_, (by repeat (first | exact Ext.refl _ | assumption | refine Ext.alloc ?_ _ | refine Ext.drew ?_ | refine Ext.trans ?_ (by assumption)))⟩
    show Value.string ((⟨(symbol k).toArray⟩ : ByteArray) ++ ⟨(wrap tx (isBin xk)).toArray⟩) = _
    rw [str_app]
  · skip
    go_enter Tryd.func10, Tryd.ntmps10
    go_wp2_with fail
    refine wp_region_held_drew (S := fun w' => w'.cell? ⟨w.heap.size, 0, none⟩ = some (.int .u8 k) ∧ w'.cell? ⟨w.heap.size, 3, none⟩ = some (.slice (some ⟨kb, ko, none⟩) 1 c) ∧ w'.cell? ⟨kb, ko, none⟩ = some (.int .u8 xk) ∧ w'.cell? ⟨kb, ko + 1, none⟩ = some (.int .i64 xn) ∧ w'.cell? ⟨kb, ko + 2, none⟩ = some (str xs) ∧ w'.cell? ⟨kb, ko + 3, none⟩ = some (.slice xa xl.length xc)) (by kernel_rfl) (by go_simp) (fun hHeld => ?_)
    obtain ⟨q0, q3, m0, m1, m2, m3⟩ := id hHeld
    ((refine wpAnyH_take (i := 0) (oi := _) (v := ?v0_23) rfl (by kernel_rfl) (by kernel_rfl) (by kernel_rfl) (fun _ _ _ h => h) (Or.inl ⟨by rfl, ?y0_23⟩) (by assumption) ?r0_23); (case y0_23 => (intro w hSw; (try dsimp only at hSw); go_simp; try (with_reducible rfl))); (try simp only [Act.put, List.getElem_toArray, List.getElem_cons_zero, List.getElem_cons_succ, List.setIfInBounds_toArray, List.set_cons_zero, List.set_cons_succ]))
    ((refine wpAnyH_take (i := 1) (oi := _) (v := ?v1_24) rfl (by kernel_rfl) (by kernel_rfl) (by kernel_rfl) (fun _ _ _ h => h) (Or.inl ⟨by rfl, ?y1_24⟩) (by assumption) ?r1_24); (case y1_24 => (intro w hSw; (try dsimp only at hSw); go_simp; try (with_reducible rfl))); (try simp only [Act.put, List.getElem_toArray, List.getElem_cons_zero, List.getElem_cons_succ, List.setIfInBounds_toArray, List.set_cons_zero, List.set_cons_succ]))
    ((refine wpAnyH_take (i := 3) (oi := _) (v := ?v3_25) rfl (by kernel_rfl) (by kernel_rfl) (by kernel_rfl) (fun _ _ _ h => h) (Or.inl ⟨by rfl, ?y3_25⟩) (by assumption) ?r3_25); (case y3_25 => (intro w hSw; (try dsimp only at hSw); go_simp; try (with_reducible rfl))); (try simp only [Act.put, List.getElem_toArray, List.getElem_cons_zero, List.getElem_cons_succ, List.setIfInBounds_toArray, List.set_cons_zero, List.set_cons_succ]))
    ((refine wpAnyH_take (i := 4) (oi := _) (v := ?v4_26) rfl (by kernel_rfl) (by kernel_rfl) (by kernel_rfl) (fun _ _ _ h => h) (Or.inl ⟨by rfl, ?y4_26⟩) (by assumption) ?r4_26); (case y4_26 => (intro w hSw; (try dsimp only at hSw); go_simp; try (with_reducible rfl))); (try simp only [Act.put, List.getElem_toArray, List.getElem_cons_zero, List.getElem_cons_succ, List.setIfInBounds_toArray, List.set_cons_zero, List.set_cons_succ]))
    ((refine wpAnyH_take (i := 5) (oi := _) (v := ?v5_27) rfl (by kernel_rfl) (by kernel_rfl) (by kernel_rfl) (fun _ _ _ h => h) (Or.inl ⟨by rfl, ?y5_27⟩) (by assumption) ?r5_27); (case y5_27 => (intro w hSw; (try dsimp only at hSw); go_simp; try (with_reducible rfl))); (try simp only [Act.put, List.getElem_toArray, List.getElem_cons_zero, List.getElem_cons_succ, List.setIfInBounds_toArray, List.set_cons_zero, List.set_cons_succ]))
    ((refine wpAnyH_take (i := 6) (oi := _) (v := ?v6_28) rfl (by kernel_rfl) (by kernel_rfl) (by kernel_rfl) (fun _ _ _ h => h) (Or.inl ⟨by rfl, ?y6_28⟩) (by assumption) ?r6_28); (case y6_28 => (intro w hSw; (try dsimp only at hSw); go_simp; try (with_reducible rfl))); (try simp only [Act.put, List.getElem_toArray, List.getElem_cons_zero, List.getElem_cons_succ, List.setIfInBounds_toArray, List.set_cons_zero, List.set_cons_succ]))
    ((refine wpAnyH_take (i := 8) (oi := _) (v := ?v8_29) rfl (by kernel_rfl) (by kernel_rfl) (by kernel_rfl) (fun _ _ _ h => h) (Or.inl ⟨by rfl, ?y8_29⟩) (by assumption) ?r8_29); (case y8_29 => (intro w hSw; (try dsimp only at hSw); go_simp; try (with_reducible rfl))); (try simp only [Act.put, List.getElem_toArray, List.getElem_cons_zero, List.getElem_cons_succ, List.setIfInBounds_toArray, List.set_cons_zero, List.set_cons_succ]))
    ((refine wpAnyH_take (i := 9) (oi := _) (v := ?v9_30) rfl (by kernel_rfl) (by kernel_rfl) (by kernel_rfl) (fun _ _ _ h => h) (Or.inl ⟨by rfl, ?y9_30⟩) (by assumption) ?r9_30); (case y9_30 => (intro w hSw; (try dsimp only at hSw); go_simp; try (with_reducible rfl))); (try simp only [Act.put, List.getElem_toArray, List.getElem_cons_zero, List.getElem_cons_succ, List.setIfInBounds_toArray, List.set_cons_zero, List.set_cons_succ]))
    ((refine wpAnyH_take (i := 10) (oi := _) (v := ?v10_31) rfl (by kernel_rfl) (by kernel_rfl) (by kernel_rfl) (fun _ _ _ h => h) (Or.inl ⟨by rfl, ?y10_31⟩) (by assumption) ?r10_31); (case y10_31 => (intro w hSw; (try dsimp only at hSw); go_simp; try (with_reducible rfl))); (try simp only [Act.put, List.getElem_toArray, List.getElem_cons_zero, List.getElem_cons_succ, List.setIfInBounds_toArray, List.set_cons_zero, List.set_cons_succ]))
    ((refine wpAnyH_take (i := 11) (oi := _) (v := ?v11_32) rfl (by kernel_rfl) (by kernel_rfl) (by kernel_rfl) (fun _ _ _ h => h) (Or.inl ⟨by rfl, ?y11_32⟩) (by assumption) ?r11_32); (case y11_32 => (intro w hSw; (try dsimp only at hSw); go_simp; try (with_reducible rfl))); (try simp only [Act.put, List.getElem_toArray, List.getElem_cons_zero, List.getElem_cons_succ, List.setIfInBounds_toArray, List.set_cons_zero, List.set_cons_succ]))
    ((refine wpAnyH_ready (rs := [2]) (by kernel_rfl) (by simp) ?_); (refine AllReadyH.cons (o := _) rfl (fun K hK => ?_) AllReadyH.nil); go_simp)
    refine (ref_Symbol_c _ _ hk0 hk1).mono ?_
    rintro e w1 ⟨rfl, rfl⟩
    refine hK.out _ _ ⟨q0, q3, m0, m1, m2, m3⟩ (fun hHeld => ?_)
    clear hK K
    (try simp only [Act.put, List.getElem_toArray, List.getElem_cons_zero, List.getElem_cons_succ, List.setIfInBounds_toArray, List.set_cons_zero, List.set_cons_succ])
    ((refine wpAnyH_ready (rs := [7]) (by kernel_rfl) (by simp) ?_); (refine AllReadyH.cons (o := _) rfl (fun K hK => ?_) AllReadyH.nil); go_simp)
    refine (HX.out xa xc _ (hxs.ext (by repeat (first | exact Ext.refl _ | assumption | refine Ext.alloc ?_ _ | refine Ext.drew ?_ | refine Ext.trans ?_ (by assumption))))).mono ?_
    rintro e w1 ⟨rfl, hx1⟩
    rw [HTT.out]
    refine hK.out _ _ ⟨hx1.keep q0, hx1.keep q3, hx1.keep m0, hx1.keep m1, hx1.keep m2, hx1.keep m3⟩ (fun hHeld => ?_)
    clear hK K
    (try simp only [Act.put, List.getElem_toArray, List.getElem_cons_zero, List.getElem_cons_succ, List.setIfInBounds_toArray, List.set_cons_zero, List.set_cons_succ])
    ((refine wpAnyH_ready (rs := [12]) (by kernel_rfl) (by simp) ?_); (refine AllReadyH.cons (o := _) rfl (fun K hK => ?_) AllReadyH.nil); go_simp)
    refine (ref_binary_c _ _ _ _ _ _ _).mono ?_
    rintro e w2 ⟨rfl, hx2⟩
    refine hK.out _ _ ⟨(hx1.trans hx2).keep q0, (hx1.trans hx2).keep q3, (hx1.trans hx2).keep m0, (hx1.trans hx2).keep m1, (hx1.trans hx2).keep m2, (hx1.trans hx2).keep m3⟩ (fun hHeld => ?_)
    clear hK K
    (try simp only [Act.put, List.getElem_toArray, List.getElem_cons_zero, List.getElem_cons_succ, List.setIfInBounds_toArray, List.set_cons_zero, List.set_cons_succ])
    ((refine wpAnyH_ready (rs := [13]) (by kernel_rfl) (by simp) ?_); (refine AllReadyH.cons (o := _) rfl (fun K hK => ?_) AllReadyH.nil); go_simp)
    refine (ref_wrap_c _ _ _ (by omega)).mono ?_
    rintro e w3 ⟨rfl, rfl⟩
    refine hK.out _ _ ⟨(hx1.trans hx2).keep q0, (hx1.trans hx2).keep q3, (hx1.trans hx2).keep m0, (hx1.trans hx2).keep m1, (hx1.trans hx2).keep m2, (hx1.trans hx2).keep m3⟩ (fun hHeld => ?_)
    clear hK K
    (try simp only [Act.put, List.getElem_toArray, List.getElem_cons_zero, List.getElem_cons_succ, List.setIfInBounds_toArray, List.set_cons_zero, List.set_cons_succ])
    ((refine wpAnyH_take (i := 14) (oi := _) (v := ?v14_33) rfl (by kernel_rfl) (by kernel_rfl) (by kernel_rfl) (fun _ _ _ h => h) (Or.inl ⟨by rfl, ?y14_33⟩) (by assumption) ?r14_33); (case y14_33 => (intro w hSw; (try dsimp only at hSw); go_simp; try (with_reducible rfl))); (try simp only [Act.put, List.getElem_toArray, List.getElem_cons_zero, List.getElem_cons_succ, List.setIfInBounds_toArray, List.set_cons_zero, List.set_cons_succ]))
    ((refine wpAnyH_take (i := 15) (oi := _) (v := ?v15_34) rfl (by kernel_rfl) (by kernel_rfl) (by kernel_rfl) (fun _ _ _ h => h) (Or.inl ⟨by rfl, ?y15_34⟩) (by assumption) ?r15_34); (case y15_34 => (intro w hSw; (try dsimp only at hSw); go_simp; try (with_reducible rfl))); (try simp only [Act.put, List.getElem_toArray, List.getElem_cons_zero, List.getElem_cons_succ, List.setIfInBounds_toArray, List.set_cons_zero, List.set_cons_succ]))
    (refine wpAnyH_done (by kernel_rfl) ?_ _)
    go_wp2_with fail
    go_ret
    refine ⟨ret_eq ?_, (by repeat (first | exact Ext.refl _ | assumption | refine Ext.alloc ?_ _ | refine Ext.drew ?_ | refine Ext.trans ?_ (by assumption)))⟩
    show Value.string ((⟨(symbol k).toArray⟩ : ByteArray) ++ ⟨(wrap tx (isBin xk)).toArray⟩) = _
    rw [str_app]
set_option maxRecDepth 100000 in
set_option maxHeartbeats 8000000 in
theorem ref_bin (S : Nat → Prop) (k n : Int) (s : List UInt8) (x y : Nd) (hk8 : 8 ≤ k) (hk23 : k ≤ 23) (hx : Tells S 10 Nd.text x) (hy : Tells S 10 Nd.text y) (hxl : x.text.length ≤ 1000000000000000) (hyl : y.text.length ≤ 1000000000000000) : Tells S 10 Nd.text (.mk k n s [x, y]) := by
  intro a c w hs
  have htx : (Nd.mk k n s [x, y]).text = wrap x.text (parenL x.kind k) ++ [32] ++ symbol k ++ [32] ++ wrap y.text (parenR y.kind k) := by
    rw [Nd.text.eq_def]
    simp only []
    rw [if_neg (by omega), if_neg (by omega), if_neg (by omega), if_neg (by omega), if_neg (by omega), if_neg (by omega)]
  rw [htx]
  have d1 : (k == 1) = false := by rw [beq_eq_false_iff_ne]; omega
  have d2 : (k == 2) = false := by rw [beq_eq_false_iff_ne]; omega
  have d3 : (k == 3) = false := by rw [beq_eq_false_iff_ne]; omega
  have d4 : (k == 4) = false := by rw [beq_eq_false_iff_ne]; omega
  have d5 : (k == 5) = false := by rw [beq_eq_false_iff_ne]; omega
  have d6 : (k == 6) = false := by rw [beq_eq_false_iff_ne]; omega
  have d7 : (k == 7) = false := by rw [beq_eq_false_iff_ne]; omega
  have HX := Lib.hid hx; clear hx htx
  have HY := Lib.hid hy; clear hy
  simp only [Nd.kind, Nd.num, Nd.name, Nd.kids, Nd.val, Nd.sits, List.length_cons, List.length_nil] at hs ⊢
  obtain ⟨xk, xn, xs, xl⟩ := x
  obtain ⟨yk, yn, ys, yl⟩ := y
  obtain ⟨kb, ko, xa, xc, ya, yc, rfl, -, ⟨k0, k1, k2, k3, hxs⟩, ⟨m0, m1, m2, m3, hys⟩⟩ := row2 hs
  simp only [Nd.kind, Nd.num, Nd.name, Nd.kids] at k0 k1 k2 k3 m0 m1 m2 m3 ⊢
  have hkw := cell_lt k0
  simp only at hkw
  have hkw1 : kb < w.heap.size + 1 := by omega
  have m1' : w.cell? ⟨kb, ko + 5, none⟩ = some (.int .i64 yn) := m1
  have m2' : w.cell? ⟨kb, ko + 6, none⟩ = some (str ys) := m2
  have m3' : w.cell? ⟨kb, ko + 7, none⟩ = some (.slice ya yl.length yc) := m3
  generalize htt : (Nd.mk xk xn xs xl).text = tx at *
  have HTx := Lib.hid htt; clear htt
  generalize htt : (Nd.mk yk yn ys yl).text = ty at *
  have HTy := Lib.hid htt; clear htt
  go_enter Tryd.func10, Tryd.ntmps10
  go_wp2_with fail
  refine (ref_Level_c _ _ (by omega) (by omega)).mono ?_
  rintro e w1 ⟨rfl, rfl⟩
  simp only
  go_upto_region 18 with fail
  have hbn : Box w.heap.size #[.int .u8 k, .int .i64 n, str s, .slice (some ⟨kb, ko, none⟩) 2 c] 24 (((w.alloc (.cells #[.int .u8 k, .int .i64 n, str s, .slice (some ⟨kb, ko, none⟩) 2 c] 24)).alloc (.cells #[.int .u8 xk, .int .i64 xn, str xs, .slice xa xl.length xc] 24)).alloc (.cells #[.int .u8 yk, .int .i64 yn, str ys, .slice ya yl.length yc] 24)) := ((Box.new _ _ _).alloc _).alloc _
  have hbl : Box (w.heap.size + 1) #[.int .u8 xk, .int .i64 xn, str xs, .slice xa xl.length xc] 24 (((w.alloc (.cells #[.int .u8 k, .int .i64 n, str s, .slice (some ⟨kb, ko, none⟩) 2 c] 24)).alloc (.cells #[.int .u8 xk, .int .i64 xn, str xs, .slice xa xl.length xc] 24)).alloc (.cells #[.int .u8 yk, .int .i64 yn, str ys, .slice ya yl.length yc] 24)) := (Box.new' _ _ (by simp)).alloc _
  have hbr : Box (w.heap.size + 1 + 1) #[.int .u8 yk, .int .i64 yn, str ys, .slice ya yl.length yc] 24 (((w.alloc (.cells #[.int .u8 k, .int .i64 n, str s, .slice (some ⟨kb, ko, none⟩) 2 c] 24)).alloc (.cells #[.int .u8 xk, .int .i64 xn, str xs, .slice xa xl.length xc] 24)).alloc (.cells #[.int .u8 yk, .int .i64 yn, str ys, .slice ya yl.length yc] 24)) := Box.new' _ _ (by simp)
  have hxW : Ext w (((w.alloc (.cells #[.int .u8 k, .int .i64 n, str s, .slice (some ⟨kb, ko, none⟩) 2 c] 24)).alloc (.cells #[.int .u8 xk, .int .i64 xn, str xs, .slice xa xl.length xc] 24)).alloc (.cells #[.int .u8 yk, .int .i64 yn, str ys, .slice ya yl.length yc] 24)) := (by repeat (first | exact Ext.refl _ | assumption | refine Ext.alloc ?_ _ | refine Ext.drew ?_ | refine Ext.trans ?_ (by assumption)))
  generalize (((w.alloc (.cells #[.int .u8 k, .int .i64 n, str s, .slice (some ⟨kb, ko, none⟩) 2 c] 24)).alloc (.cells #[.int .u8 xk, .int .i64 xn, str xs, .slice xa xl.length xc] 24)).alloc (.cells #[.int .u8 yk, .int .i64 yn, str ys, .slice ya yl.length yc] 24)) = W at *
  generalize w.heap.size + 1 + 1 = pr at *
  generalize w.heap.size + 1 = pl at *
  have hxs1 := hxs.ext hxW
  have hys1 := hys.ext hxW
  clear k0 k1 k2 k3 m0 m1 m2 m3 m1' m2' m3' hxs hys hs hkw hkw1
  go_cut [6] (fun s6 u => s6 = str (wrap tx (parenL xk k)) ∧ Ext W u)
  case first =>
    cases hq : isBin xk
    · have HQ := Lib.hid hq; clear hq
      refine wp_region_held_drew (S := fun w' => w'.cell? ⟨pl, 0, none⟩ = some (.int .u8 xk) ∧ w'.cell? ⟨pl, 1, none⟩ = some (.int .i64 xn) ∧ w'.cell? ⟨pl, 2, none⟩ = some (str xs) ∧ w'.cell? ⟨pl, 3, none⟩ = some (.slice xa xl.length xc)) (by kernel_rfl) hbl.node (fun hHeld => ?_)
      obtain ⟨m0, m1, m2, m3⟩ := id hHeld
      ((refine wpAnyH_take (i := 0) (oi := _) (v := ?v0_35) rfl (by kernel_rfl) (by kernel_rfl) (by kernel_rfl) (fun _ _ _ h => h) (Or.inl ⟨by rfl, ?y0_35⟩) (by assumption) ?r0_35); (case y0_35 => (intro w hSw; (try dsimp only at hSw); go_simp; try (with_reducible rfl))); (try simp only [Act.put, List.getElem_toArray, List.getElem_cons_zero, List.getElem_cons_succ, List.setIfInBounds_toArray, List.set_cons_zero, List.set_cons_succ]))
      ((refine wpAnyH_take (i := 2) (oi := _) (v := ?v2_36) rfl (by kernel_rfl) (by kernel_rfl) (by kernel_rfl) (fun _ _ _ h => h) (Or.inl ⟨by rfl, ?y2_36⟩) (by assumption) ?r2_36); (case y2_36 => (intro w hSw; (try dsimp only at hSw); go_simp; try (with_reducible rfl))); (try simp only [Act.put, List.getElem_toArray, List.getElem_cons_zero, List.getElem_cons_succ, List.setIfInBounds_toArray, List.set_cons_zero, List.set_cons_succ]))
      ((refine wpAnyH_ready (rs := [1]) (by kernel_rfl) (by simp) ?_); (refine AllReadyH.cons (o := _) rfl (fun K hK => ?_) AllReadyH.nil); go_simp)
      refine (HX.out xa xc _ (hxs1.ext (by repeat (first | exact Ext.refl _ | assumption | refine Ext.alloc ?_ _ | refine Ext.drew ?_ | refine Ext.trans ?_ (by assumption))))).mono ?_
      rintro e u1 ⟨rfl, hu1⟩
      rw [HTx.out]
      refine hK.out _ _ ⟨hu1.keep m0, hu1.keep m1, hu1.keep m2, hu1.keep m3⟩ (fun hHeld => ?_)
      clear hK K
      (try simp only [Act.put, List.getElem_toArray, List.getElem_cons_zero, List.getElem_cons_succ, List.setIfInBounds_toArray, List.set_cons_zero, List.set_cons_succ])
      ((refine wpAnyH_ready (rs := [3]) (by kernel_rfl) (by simp) ?_); (refine AllReadyH.cons (o := _) rfl (fun K hK => ?_) AllReadyH.nil); go_simp)
      refine (ref_binary_c _ _ _ _ _ _ _).mono ?_
      rintro e u2 ⟨rfl, hu2⟩
      rw [HQ.out]
      refine hK.out _ _ ⟨(hu1.trans hu2).keep m0, (hu1.trans hu2).keep m1, (hu1.trans hu2).keep m2, (hu1.trans hu2).keep m3⟩ (fun hHeld => ?_)
      clear hK K
      (try simp only [Act.put, List.getElem_toArray, List.getElem_cons_zero, List.getElem_cons_succ, List.setIfInBounds_toArray, List.set_cons_zero, List.set_cons_succ])
      ((refine wpAnyH_take (i := 4) (oi := _) (v := ?v4_37) rfl (by kernel_rfl) (by kernel_rfl) (by kernel_rfl) (fun _ _ _ h => h) (Or.inl ⟨by rfl, ?y4_37⟩) (by assumption) ?r4_37); (case y4_37 => (intro w hSw; (try dsimp only at hSw); go_simp; try (with_reducible rfl))); (try simp only [Act.put, List.getElem_toArray, List.getElem_cons_zero, List.getElem_cons_succ, List.setIfInBounds_toArray, List.set_cons_zero, List.set_cons_succ]))
      ((refine wpAnyH_take (i := 5) (oi := _) (v := undef) rfl (by kernel_rfl) (by kernel_rfl) (by kernel_rfl) (fun _ _ _ h => h) (Or.inr ⟨by rfl, rfl⟩) (by assumption) ?_); (try simp only [Act.put, List.getElem_toArray, List.getElem_cons_zero, List.getElem_cons_succ, List.setIfInBounds_toArray, List.set_cons_zero, List.set_cons_succ]))
      ((refine wpAnyH_take (i := 6) (oi := _) (v := undef) rfl (by kernel_rfl) (by kernel_rfl) (by kernel_rfl) (fun _ _ _ h => h) (Or.inr ⟨by rfl, rfl⟩) (by assumption) ?_); (try simp only [Act.put, List.getElem_toArray, List.getElem_cons_zero, List.getElem_cons_succ, List.setIfInBounds_toArray, List.set_cons_zero, List.set_cons_succ]))
      ((refine wpAnyH_take (i := 7) (oi := _) (v := undef) rfl (by kernel_rfl) (by kernel_rfl) (by kernel_rfl) (fun _ _ _ h => h) (Or.inr ⟨by rfl, rfl⟩) (by assumption) ?_); (try simp only [Act.put, List.getElem_toArray, List.getElem_cons_zero, List.getElem_cons_succ, List.setIfInBounds_toArray, List.set_cons_zero, List.set_cons_succ]))
      ((refine wpAnyH_take (i := 8) (oi := _) (v := undef) rfl (by kernel_rfl) (by kernel_rfl) (by kernel_rfl) (fun _ _ _ h => h) (Or.inr ⟨by rfl, rfl⟩) (by assumption) ?_); (try simp only [Act.put, List.getElem_toArray, List.getElem_cons_zero, List.getElem_cons_succ, List.setIfInBounds_toArray, List.set_cons_zero, List.set_cons_succ]))
      ((refine wpAnyH_take (i := 9) (oi := _) (v := undef) rfl (by kernel_rfl) (by kernel_rfl) (by kernel_rfl) (fun _ _ _ h => h) (Or.inr ⟨by rfl, rfl⟩) (by assumption) ?_); (try simp only [Act.put, List.getElem_toArray, List.getElem_cons_zero, List.getElem_cons_succ, List.setIfInBounds_toArray, List.set_cons_zero, List.set_cons_succ]))
      ((refine wpAnyH_take (i := 10) (oi := _) (v := ?v10_38) rfl (by kernel_rfl) (by kernel_rfl) (by kernel_rfl) (fun _ _ _ h => h) (Or.inl ⟨by rfl, ?y10_38⟩) (by assumption) ?r10_38); (case y10_38 => (intro w hSw; (try dsimp only at hSw); go_simp; try (with_reducible rfl))); (try simp only [Act.put, List.getElem_toArray, List.getElem_cons_zero, List.getElem_cons_succ, List.setIfInBounds_toArray, List.set_cons_zero, List.set_cons_succ]))
      ((refine wpAnyH_ready (rs := [11]) (by kernel_rfl) (by simp) ?_); (refine AllReadyH.cons (o := _) rfl (fun K hK => ?_) AllReadyH.nil); go_simp)
      refine (ref_wrap_c _ _ _ (by omega)).mono ?_
      rintro e u3 ⟨rfl, rfl⟩
      rw [show wrap tx _ = wrap tx (parenL xk k) from by rw [parenL_f HQ.out]]
      refine hK.out _ _ ⟨(hu1.trans hu2).keep m0, (hu1.trans hu2).keep m1, (hu1.trans hu2).keep m2, (hu1.trans hu2).keep m3⟩ (fun hHeld => ?_)
      clear hK K hHeld
      (try simp only [Act.put, List.getElem_toArray, List.getElem_cons_zero, List.getElem_cons_succ, List.setIfInBounds_toArray, List.set_cons_zero, List.set_cons_succ])
      ((refine wpAnyH_take (i := 12) (oi := _) (v := ?v12_39) rfl (by kernel_rfl) (by kernel_rfl) (by kernel_rfl) (fun _ _ _ h => h) (Or.inl ⟨by rfl, ?y12_39⟩) (by assumption) ?r12_39); (case y12_39 => (intro w hSw; (try dsimp only at hSw); go_simp; try (with_reducible rfl))); (try simp only [Act.put, List.getElem_toArray, List.getElem_cons_zero, List.getElem_cons_succ, List.setIfInBounds_toArray, List.set_cons_zero, List.set_cons_succ]))
      (refine wpAnyH_done (by kernel_rfl) ?_ _)
      go_wp2_with fail
      go_meet
      exact ⟨rfl, Ext.trans (Ext.trans (Ext.refl _).drew hu1) hu2⟩
    · have HQ := Lib.hid hq; clear hq
      refine wp_region_held_drew (S := fun w' => w'.cell? ⟨pl, 0, none⟩ = some (.int .u8 xk) ∧ w'.cell? ⟨pl, 1, none⟩ = some (.int .i64 xn) ∧ w'.cell? ⟨pl, 2, none⟩ = some (str xs) ∧ w'.cell? ⟨pl, 3, none⟩ = some (.slice xa xl.length xc)) (by kernel_rfl) hbl.node (fun hHeld => ?_)
      obtain ⟨m0, m1, m2, m3⟩ := id hHeld
      ((refine wpAnyH_take (i := 0) (oi := _) (v := ?v0_40) rfl (by kernel_rfl) (by kernel_rfl) (by kernel_rfl) (fun _ _ _ h => h) (Or.inl ⟨by rfl, ?y0_40⟩) (by assumption) ?r0_40); (case y0_40 => (intro w hSw; (try dsimp only at hSw); go_simp; try (with_reducible rfl))); (try simp only [Act.put, List.getElem_toArray, List.getElem_cons_zero, List.getElem_cons_succ, List.setIfInBounds_toArray, List.set_cons_zero, List.set_cons_succ]))
      ((refine wpAnyH_take (i := 2) (oi := _) (v := ?v2_41) rfl (by kernel_rfl) (by kernel_rfl) (by kernel_rfl) (fun _ _ _ h => h) (Or.inl ⟨by rfl, ?y2_41⟩) (by assumption) ?r2_41); (case y2_41 => (intro w hSw; (try dsimp only at hSw); go_simp; try (with_reducible rfl))); (try simp only [Act.put, List.getElem_toArray, List.getElem_cons_zero, List.getElem_cons_succ, List.setIfInBounds_toArray, List.set_cons_zero, List.set_cons_succ]))
      ((refine wpAnyH_ready (rs := [1]) (by kernel_rfl) (by simp) ?_); (refine AllReadyH.cons (o := _) rfl (fun K hK => ?_) AllReadyH.nil); go_simp)
      refine (HX.out xa xc _ (hxs1.ext (by repeat (first | exact Ext.refl _ | assumption | refine Ext.alloc ?_ _ | refine Ext.drew ?_ | refine Ext.trans ?_ (by assumption))))).mono ?_
      rintro e u1 ⟨rfl, hu1⟩
      rw [HTx.out]
      refine hK.out _ _ ⟨hu1.keep m0, hu1.keep m1, hu1.keep m2, hu1.keep m3⟩ (fun hHeld => ?_)
      clear hK K
      (try simp only [Act.put, List.getElem_toArray, List.getElem_cons_zero, List.getElem_cons_succ, List.setIfInBounds_toArray, List.set_cons_zero, List.set_cons_succ])
      ((refine wpAnyH_ready (rs := [3]) (by kernel_rfl) (by simp) ?_); (refine AllReadyH.cons (o := _) rfl (fun K hK => ?_) AllReadyH.nil); go_simp)
      refine (ref_binary_c _ _ _ _ _ _ _).mono ?_
      rintro e u2 ⟨rfl, hu2⟩
      rw [HQ.out]
      refine hK.out _ _ ⟨(hu1.trans hu2).keep m0, (hu1.trans hu2).keep m1, (hu1.trans hu2).keep m2, (hu1.trans hu2).keep m3⟩ (fun hHeld => ?_)
      clear hK K
      (try simp only [Act.put, List.getElem_toArray, List.getElem_cons_zero, List.getElem_cons_succ, List.setIfInBounds_toArray, List.set_cons_zero, List.set_cons_succ])
      ((refine wpAnyH_take (i := 4) (oi := _) (v := ?v4_42) rfl (by kernel_rfl) (by kernel_rfl) (by kernel_rfl) (fun _ _ _ h => h) (Or.inl ⟨by rfl, ?y4_42⟩) (by assumption) ?r4_42); (case y4_42 => (intro w hSw; (try dsimp only at hSw); go_simp; try (with_reducible rfl))); (try simp only [Act.put, List.getElem_toArray, List.getElem_cons_zero, List.getElem_cons_succ, List.setIfInBounds_toArray, List.set_cons_zero, List.set_cons_succ]))
      have hbk : 8 ≤ xk ∧ xk ≤ 23 := by have := HQ.out; simp [isBin] at this; exact this
      obtain ⟨hbk0, hbk1⟩ := hbk
      ((refine wpAnyH_take (i := 5) (oi := _) (v := ?v5_43) rfl (by kernel_rfl) (by kernel_rfl) (by kernel_rfl) (fun _ _ _ h => h) (Or.inl ⟨by rfl, ?y5_43⟩) (by assumption) ?r5_43); (case y5_43 => (intro w hSw; (try dsimp only at hSw); go_simp; try (with_reducible rfl))); (try simp only [Act.put, List.getElem_toArray, List.getElem_cons_zero, List.getElem_cons_succ, List.setIfInBounds_toArray, List.set_cons_zero, List.set_cons_succ]))
      ((refine wpAnyH_take (i := 6) (oi := _) (v := ?v6_44) rfl (by kernel_rfl) (by kernel_rfl) (by kernel_rfl) (fun _ _ _ h => h) (Or.inl ⟨by rfl, ?y6_44⟩) (by assumption) ?r6_44); (case y6_44 => (intro w hSw; (try dsimp only at hSw); go_simp; try (with_reducible rfl))); (try simp only [Act.put, List.getElem_toArray, List.getElem_cons_zero, List.getElem_cons_succ, List.setIfInBounds_toArray, List.set_cons_zero, List.set_cons_succ]))
      ((refine wpAnyH_take (i := 8) (oi := _) (v := ?v8_45) rfl (by kernel_rfl) (by kernel_rfl) (by kernel_rfl) (fun _ _ _ h => h) (Or.inl ⟨by rfl, ?y8_45⟩) (by assumption) ?r8_45); (case y8_45 => (intro w hSw; (try dsimp only at hSw); go_simp; try (with_reducible rfl))); (try simp only [Act.put, List.getElem_toArray, List.getElem_cons_zero, List.getElem_cons_succ, List.setIfInBounds_toArray, List.set_cons_zero, List.set_cons_succ]))
      ((refine wpAnyH_ready (rs := [7]) (by kernel_rfl) (by simp) ?_); (refine AllReadyH.cons (o := _) rfl (fun K hK => ?_) AllReadyH.nil); go_simp)
      refine (ref_Level_c _ _ (by omega) (by omega)).mono ?_
      rintro e u' ⟨rfl, rfl⟩
      refine hK.out _ _ ⟨(hu1.trans hu2).keep m0, (hu1.trans hu2).keep m1, (hu1.trans hu2).keep m2, (hu1.trans hu2).keep m3⟩ (fun hHeld => ?_)
      clear hK K
      (try simp only [Act.put, List.getElem_toArray, List.getElem_cons_zero, List.getElem_cons_succ, List.setIfInBounds_toArray, List.set_cons_zero, List.set_cons_succ])
      ((refine wpAnyH_take (i := 9) (oi := _) (v := ?v9_46) rfl (by kernel_rfl) (by kernel_rfl) (by kernel_rfl) (fun _ _ _ h => h) (Or.inl ⟨by rfl, ?y9_46⟩) (by assumption) ?r9_46); (case y9_46 => (intro w hSw; (try dsimp only at hSw); go_simp; try (with_reducible rfl))); (try simp only [Act.put, List.getElem_toArray, List.getElem_cons_zero, List.getElem_cons_succ, List.setIfInBounds_toArray, List.set_cons_zero, List.set_cons_succ]))
      ((refine wpAnyH_take (i := 10) (oi := _) (v := ?v10_47) rfl (by kernel_rfl) (by kernel_rfl) (by kernel_rfl) (fun _ _ _ h => h) (Or.inl ⟨by rfl, ?y10_47⟩) (by assumption) ?r10_47); (case y10_47 => (intro w hSw; (try dsimp only at hSw); go_simp; try (with_reducible rfl))); (try simp only [Act.put, List.getElem_toArray, List.getElem_cons_zero, List.getElem_cons_succ, List.setIfInBounds_toArray, List.set_cons_zero, List.set_cons_succ]))
      ((refine wpAnyH_ready (rs := [11]) (by kernel_rfl) (by simp) ?_); (refine AllReadyH.cons (o := _) rfl (fun K hK => ?_) AllReadyH.nil); go_simp)
      refine (ref_wrap_c _ _ _ (by omega)).mono ?_
      rintro e u3 ⟨rfl, rfl⟩
      rw [show wrap tx _ = wrap tx (parenL xk k) from by rw [parenL_t HQ.out decide_eq_true_iff]]
      refine hK.out _ _ ⟨(hu1.trans hu2).keep m0, (hu1.trans hu2).keep m1, (hu1.trans hu2).keep m2, (hu1.trans hu2).keep m3⟩ (fun hHeld => ?_)
      clear hK K hHeld
      (try simp only [Act.put, List.getElem_toArray, List.getElem_cons_zero, List.getElem_cons_succ, List.setIfInBounds_toArray, List.set_cons_zero, List.set_cons_succ])
      ((refine wpAnyH_take (i := 12) (oi := _) (v := ?v12_48) rfl (by kernel_rfl) (by kernel_rfl) (by kernel_rfl) (fun _ _ _ h => h) (Or.inl ⟨by rfl, ?y12_48⟩) (by assumption) ?r12_48); (case y12_48 => (intro w hSw; (try dsimp only at hSw); go_simp; try (with_reducible rfl))); (try simp only [Act.put, List.getElem_toArray, List.getElem_cons_zero, List.getElem_cons_succ, List.setIfInBounds_toArray, List.set_cons_zero, List.set_cons_succ]))
      (refine wpAnyH_done (by kernel_rfl) ?_ _)
      go_wp2_with fail
      go_meet
      exact ⟨rfl, Ext.trans (Ext.trans (Ext.refl _).drew hu1) hu2⟩
  case rest =>
    obtain ⟨V, hV⟩ : ∃ V : World, V = wc := ⟨wc, rfl⟩
    subst hV
    obtain ⟨rfl, hWV⟩ := hcut
    have hbr1 := hbr.ext hWV
    have hys1 := hys1.ext hWV
    go_upto_region 19 with fail
    go_cut [7] (fun s7 u => s7 = str (wrap ty (parenR yk k)) ∧ Ext V u)
    case first =>
      cases hq : isBin yk
      · have HQ := Lib.hid hq; clear hq
        refine wp_region_held_drew (S := fun w' => w'.cell? ⟨pr, 0, none⟩ = some (.int .u8 yk) ∧ w'.cell? ⟨pr, 1, none⟩ = some (.int .i64 yn) ∧ w'.cell? ⟨pr, 2, none⟩ = some (str ys) ∧ w'.cell? ⟨pr, 3, none⟩ = some (.slice ya yl.length yc)) (by kernel_rfl) hbr1.node (fun hHeld => ?_)
        obtain ⟨m0, m1, m2, m3⟩ := id hHeld
        ((refine wpAnyH_take (i := 0) (oi := _) (v := ?v0_49) rfl (by kernel_rfl) (by kernel_rfl) (by kernel_rfl) (fun _ _ _ h => h) (Or.inl ⟨by rfl, ?y0_49⟩) (by assumption) ?r0_49); (case y0_49 => (intro w hSw; (try dsimp only at hSw); go_simp; try (with_reducible rfl))); (try simp only [Act.put, List.getElem_toArray, List.getElem_cons_zero, List.getElem_cons_succ, List.setIfInBounds_toArray, List.set_cons_zero, List.set_cons_succ]))
        ((refine wpAnyH_take (i := 2) (oi := _) (v := ?v2_50) rfl (by kernel_rfl) (by kernel_rfl) (by kernel_rfl) (fun _ _ _ h => h) (Or.inl ⟨by rfl, ?y2_50⟩) (by assumption) ?r2_50); (case y2_50 => (intro w hSw; (try dsimp only at hSw); go_simp; try (with_reducible rfl))); (try simp only [Act.put, List.getElem_toArray, List.getElem_cons_zero, List.getElem_cons_succ, List.setIfInBounds_toArray, List.set_cons_zero, List.set_cons_succ]))
        ((refine wpAnyH_ready (rs := [1]) (by kernel_rfl) (by simp) ?_); (refine AllReadyH.cons (o := _) rfl (fun K hK => ?_) AllReadyH.nil); go_simp)
        refine (HY.out ya yc _ (hys1.ext (by repeat (first | exact Ext.refl _ | assumption | refine Ext.alloc ?_ _ | refine Ext.drew ?_ | refine Ext.trans ?_ (by assumption))))).mono ?_
        rintro e u1 ⟨rfl, hu1⟩
        rw [HTy.out]
        refine hK.out _ _ ⟨hu1.keep m0, hu1.keep m1, hu1.keep m2, hu1.keep m3⟩ (fun hHeld => ?_)
        clear hK K
        (try simp only [Act.put, List.getElem_toArray, List.getElem_cons_zero, List.getElem_cons_succ, List.setIfInBounds_toArray, List.set_cons_zero, List.set_cons_succ])
        ((refine wpAnyH_ready (rs := [3]) (by kernel_rfl) (by simp) ?_); (refine AllReadyH.cons (o := _) rfl (fun K hK => ?_) AllReadyH.nil); go_simp)
        refine (ref_binary_c _ _ _ _ _ _ _).mono ?_
        rintro e u2 ⟨rfl, hu2⟩
        rw [HQ.out]
        refine hK.out _ _ ⟨(hu1.trans hu2).keep m0, (hu1.trans hu2).keep m1, (hu1.trans hu2).keep m2, (hu1.trans hu2).keep m3⟩ (fun hHeld => ?_)
        clear hK K
        (try simp only [Act.put, List.getElem_toArray, List.getElem_cons_zero, List.getElem_cons_succ, List.setIfInBounds_toArray, List.set_cons_zero, List.set_cons_succ])
        ((refine wpAnyH_take (i := 4) (oi := _) (v := ?v4_51) rfl (by kernel_rfl) (by kernel_rfl) (by kernel_rfl) (fun _ _ _ h => h) (Or.inl ⟨by rfl, ?y4_51⟩) (by assumption) ?r4_51); (case y4_51 => (intro w hSw; (try dsimp only at hSw); go_simp; try (with_reducible rfl))); (try simp only [Act.put, List.getElem_toArray, List.getElem_cons_zero, List.getElem_cons_succ, List.setIfInBounds_toArray, List.set_cons_zero, List.set_cons_succ]))
        ((refine wpAnyH_take (i := 5) (oi := _) (v := undef) rfl (by kernel_rfl) (by kernel_rfl) (by kernel_rfl) (fun _ _ _ h => h) (Or.inr ⟨by rfl, rfl⟩) (by assumption) ?_); (try simp only [Act.put, List.getElem_toArray, List.getElem_cons_zero, List.getElem_cons_succ, List.setIfInBounds_toArray, List.set_cons_zero, List.set_cons_succ]))
        ((refine wpAnyH_take (i := 6) (oi := _) (v := undef) rfl (by kernel_rfl) (by kernel_rfl) (by kernel_rfl) (fun _ _ _ h => h) (Or.inr ⟨by rfl, rfl⟩) (by assumption) ?_); (try simp only [Act.put, List.getElem_toArray, List.getElem_cons_zero, List.getElem_cons_succ, List.setIfInBounds_toArray, List.set_cons_zero, List.set_cons_succ]))
        ((refine wpAnyH_take (i := 7) (oi := _) (v := undef) rfl (by kernel_rfl) (by kernel_rfl) (by kernel_rfl) (fun _ _ _ h => h) (Or.inr ⟨by rfl, rfl⟩) (by assumption) ?_); (try simp only [Act.put, List.getElem_toArray, List.getElem_cons_zero, List.getElem_cons_succ, List.setIfInBounds_toArray, List.set_cons_zero, List.set_cons_succ]))
        ((refine wpAnyH_take (i := 8) (oi := _) (v := undef) rfl (by kernel_rfl) (by kernel_rfl) (by kernel_rfl) (fun _ _ _ h => h) (Or.inr ⟨by rfl, rfl⟩) (by assumption) ?_); (try simp only [Act.put, List.getElem_toArray, List.getElem_cons_zero, List.getElem_cons_succ, List.setIfInBounds_toArray, List.set_cons_zero, List.set_cons_succ]))
        ((refine wpAnyH_take (i := 9) (oi := _) (v := undef) rfl (by kernel_rfl) (by kernel_rfl) (by kernel_rfl) (fun _ _ _ h => h) (Or.inr ⟨by rfl, rfl⟩) (by assumption) ?_); (try simp only [Act.put, List.getElem_toArray, List.getElem_cons_zero, List.getElem_cons_succ, List.setIfInBounds_toArray, List.set_cons_zero, List.set_cons_succ]))
        ((refine wpAnyH_take (i := 10) (oi := _) (v := ?v10_52) rfl (by kernel_rfl) (by kernel_rfl) (by kernel_rfl) (fun _ _ _ h => h) (Or.inl ⟨by rfl, ?y10_52⟩) (by assumption) ?r10_52); (case y10_52 => (intro w hSw; (try dsimp only at hSw); go_simp; try (with_reducible rfl))); (try simp only [Act.put, List.getElem_toArray, List.getElem_cons_zero, List.getElem_cons_succ, List.setIfInBounds_toArray, List.set_cons_zero, List.set_cons_succ]))
        ((refine wpAnyH_ready (rs := [11]) (by kernel_rfl) (by simp) ?_); (refine AllReadyH.cons (o := _) rfl (fun K hK => ?_) AllReadyH.nil); go_simp)
        refine (ref_wrap_c _ _ _ (by omega)).mono ?_
        rintro e u3 ⟨rfl, rfl⟩
        rw [show wrap ty _ = wrap ty (parenR yk k) from by rw [parenR_f HQ.out]]
        refine hK.out _ _ ⟨(hu1.trans hu2).keep m0, (hu1.trans hu2).keep m1, (hu1.trans hu2).keep m2, (hu1.trans hu2).keep m3⟩ (fun hHeld => ?_)
        clear hK K hHeld
        (try simp only [Act.put, List.getElem_toArray, List.getElem_cons_zero, List.getElem_cons_succ, List.setIfInBounds_toArray, List.set_cons_zero, List.set_cons_succ])
        ((refine wpAnyH_take (i := 12) (oi := _) (v := ?v12_53) rfl (by kernel_rfl) (by kernel_rfl) (by kernel_rfl) (fun _ _ _ h => h) (Or.inl ⟨by rfl, ?y12_53⟩) (by assumption) ?r12_53); (case y12_53 => (intro w hSw; (try dsimp only at hSw); go_simp; try (with_reducible rfl))); (try simp only [Act.put, List.getElem_toArray, List.getElem_cons_zero, List.getElem_cons_succ, List.setIfInBounds_toArray, List.set_cons_zero, List.set_cons_succ]))
        (refine wpAnyH_done (by kernel_rfl) ?_ _)
        go_wp2_with fail
        go_meet
        exact ⟨rfl, Ext.trans (Ext.trans (Ext.refl _).drew hu1) hu2⟩
      · have HQ := Lib.hid hq; clear hq
        refine wp_region_held_drew (S := fun w' => w'.cell? ⟨pr, 0, none⟩ = some (.int .u8 yk) ∧ w'.cell? ⟨pr, 1, none⟩ = some (.int .i64 yn) ∧ w'.cell? ⟨pr, 2, none⟩ = some (str ys) ∧ w'.cell? ⟨pr, 3, none⟩ = some (.slice ya yl.length yc)) (by kernel_rfl) hbr1.node (fun hHeld => ?_)
        obtain ⟨m0, m1, m2, m3⟩ := id hHeld
        ((refine wpAnyH_take (i := 0) (oi := _) (v := ?v0_54) rfl (by kernel_rfl) (by kernel_rfl) (by kernel_rfl) (fun _ _ _ h => h) (Or.inl ⟨by rfl, ?y0_54⟩) (by assumption) ?r0_54); (case y0_54 => (intro w hSw; (try dsimp only at hSw); go_simp; try (with_reducible rfl))); (try simp only [Act.put, List.getElem_toArray, List.getElem_cons_zero, List.getElem_cons_succ, List.setIfInBounds_toArray, List.set_cons_zero, List.set_cons_succ]))
        ((refine wpAnyH_take (i := 2) (oi := _) (v := ?v2_55) rfl (by kernel_rfl) (by kernel_rfl) (by kernel_rfl) (fun _ _ _ h => h) (Or.inl ⟨by rfl, ?y2_55⟩) (by assumption) ?r2_55); (case y2_55 => (intro w hSw; (try dsimp only at hSw); go_simp; try (with_reducible rfl))); (try simp only [Act.put, List.getElem_toArray, List.getElem_cons_zero, List.getElem_cons_succ, List.setIfInBounds_toArray, List.set_cons_zero, List.set_cons_succ]))
        ((refine wpAnyH_ready (rs := [1]) (by kernel_rfl) (by simp) ?_); (refine AllReadyH.cons (o := _) rfl (fun K hK => ?_) AllReadyH.nil); go_simp)
        refine (HY.out ya yc _ (hys1.ext (by repeat (first | exact Ext.refl _ | assumption | refine Ext.alloc ?_ _ | refine Ext.drew ?_ | refine Ext.trans ?_ (by assumption))))).mono ?_
        rintro e u1 ⟨rfl, hu1⟩
        rw [HTy.out]
        refine hK.out _ _ ⟨hu1.keep m0, hu1.keep m1, hu1.keep m2, hu1.keep m3⟩ (fun hHeld => ?_)
        clear hK K
        (try simp only [Act.put, List.getElem_toArray, List.getElem_cons_zero, List.getElem_cons_succ, List.setIfInBounds_toArray, List.set_cons_zero, List.set_cons_succ])
        ((refine wpAnyH_ready (rs := [3]) (by kernel_rfl) (by simp) ?_); (refine AllReadyH.cons (o := _) rfl (fun K hK => ?_) AllReadyH.nil); go_simp)
        refine (ref_binary_c _ _ _ _ _ _ _).mono ?_
        rintro e u2 ⟨rfl, hu2⟩
        rw [HQ.out]
        refine hK.out _ _ ⟨(hu1.trans hu2).keep m0, (hu1.trans hu2).keep m1, (hu1.trans hu2).keep m2, (hu1.trans hu2).keep m3⟩ (fun hHeld => ?_)
        clear hK K
        (try simp only [Act.put, List.getElem_toArray, List.getElem_cons_zero, List.getElem_cons_succ, List.setIfInBounds_toArray, List.set_cons_zero, List.set_cons_succ])
        ((refine wpAnyH_take (i := 4) (oi := _) (v := ?v4_56) rfl (by kernel_rfl) (by kernel_rfl) (by kernel_rfl) (fun _ _ _ h => h) (Or.inl ⟨by rfl, ?y4_56⟩) (by assumption) ?r4_56); (case y4_56 => (intro w hSw; (try dsimp only at hSw); go_simp; try (with_reducible rfl))); (try simp only [Act.put, List.getElem_toArray, List.getElem_cons_zero, List.getElem_cons_succ, List.setIfInBounds_toArray, List.set_cons_zero, List.set_cons_succ]))
        have hbk : 8 ≤ yk ∧ yk ≤ 23 := by have := HQ.out; simp [isBin] at this; exact this
        obtain ⟨hbk0, hbk1⟩ := hbk
        ((refine wpAnyH_take (i := 5) (oi := _) (v := ?v5_57) rfl (by kernel_rfl) (by kernel_rfl) (by kernel_rfl) (fun _ _ _ h => h) (Or.inl ⟨by rfl, ?y5_57⟩) (by assumption) ?r5_57); (case y5_57 => (intro w hSw; (try dsimp only at hSw); go_simp; try (with_reducible rfl))); (try simp only [Act.put, List.getElem_toArray, List.getElem_cons_zero, List.getElem_cons_succ, List.setIfInBounds_toArray, List.set_cons_zero, List.set_cons_succ]))
        ((refine wpAnyH_take (i := 6) (oi := _) (v := ?v6_58) rfl (by kernel_rfl) (by kernel_rfl) (by kernel_rfl) (fun _ _ _ h => h) (Or.inl ⟨by rfl, ?y6_58⟩) (by assumption) ?r6_58); (case y6_58 => (intro w hSw; (try dsimp only at hSw); go_simp; try (with_reducible rfl))); (try simp only [Act.put, List.getElem_toArray, List.getElem_cons_zero, List.getElem_cons_succ, List.setIfInBounds_toArray, List.set_cons_zero, List.set_cons_succ]))
        ((refine wpAnyH_take (i := 8) (oi := _) (v := ?v8_59) rfl (by kernel_rfl) (by kernel_rfl) (by kernel_rfl) (fun _ _ _ h => h) (Or.inl ⟨by rfl, ?y8_59⟩) (by assumption) ?r8_59); (case y8_59 => (intro w hSw; (try dsimp only at hSw); go_simp; try (with_reducible rfl))); (try simp only [Act.put, List.getElem_toArray, List.getElem_cons_zero, List.getElem_cons_succ, List.setIfInBounds_toArray, List.set_cons_zero, List.set_cons_succ]))
        ((refine wpAnyH_ready (rs := [7]) (by kernel_rfl) (by simp) ?_); (refine AllReadyH.cons (o := _) rfl (fun K hK => ?_) AllReadyH.nil); go_simp)
        refine (ref_Level_c _ _ (by omega) (by omega)).mono ?_
        rintro e u' ⟨rfl, rfl⟩
        refine hK.out _ _ ⟨(hu1.trans hu2).keep m0, (hu1.trans hu2).keep m1, (hu1.trans hu2).keep m2, (hu1.trans hu2).keep m3⟩ (fun hHeld => ?_)
        clear hK K
        (try simp only [Act.put, List.getElem_toArray, List.getElem_cons_zero, List.getElem_cons_succ, List.setIfInBounds_toArray, List.set_cons_zero, List.set_cons_succ])
        ((refine wpAnyH_take (i := 9) (oi := _) (v := ?v9_60) rfl (by kernel_rfl) (by kernel_rfl) (by kernel_rfl) (fun _ _ _ h => h) (Or.inl ⟨by rfl, ?y9_60⟩) (by assumption) ?r9_60); (case y9_60 => (intro w hSw; (try dsimp only at hSw); go_simp; try (with_reducible rfl))); (try simp only [Act.put, List.getElem_toArray, List.getElem_cons_zero, List.getElem_cons_succ, List.setIfInBounds_toArray, List.set_cons_zero, List.set_cons_succ]))
        ((refine wpAnyH_take (i := 10) (oi := _) (v := ?v10_61) rfl (by kernel_rfl) (by kernel_rfl) (by kernel_rfl) (fun _ _ _ h => h) (Or.inl ⟨by rfl, ?y10_61⟩) (by assumption) ?r10_61); (case y10_61 => (intro w hSw; (try dsimp only at hSw); go_simp; try (with_reducible rfl))); (try simp only [Act.put, List.getElem_toArray, List.getElem_cons_zero, List.getElem_cons_succ, List.setIfInBounds_toArray, List.set_cons_zero, List.set_cons_succ]))
        ((refine wpAnyH_ready (rs := [11]) (by kernel_rfl) (by simp) ?_); (refine AllReadyH.cons (o := _) rfl (fun K hK => ?_) AllReadyH.nil); go_simp)
        refine (ref_wrap_c _ _ _ (by omega)).mono ?_
        rintro e u3 ⟨rfl, rfl⟩
        rw [show wrap ty _ = wrap ty (parenR yk k) from by rw [parenR_t HQ.out decide_eq_true_iff]]
        refine hK.out _ _ ⟨(hu1.trans hu2).keep m0, (hu1.trans hu2).keep m1, (hu1.trans hu2).keep m2, (hu1.trans hu2).keep m3⟩ (fun hHeld => ?_)
        clear hK K hHeld
        (try simp only [Act.put, List.getElem_toArray, List.getElem_cons_zero, List.getElem_cons_succ, List.setIfInBounds_toArray, List.set_cons_zero, List.set_cons_succ])
        ((refine wpAnyH_take (i := 12) (oi := _) (v := ?v12_62) rfl (by kernel_rfl) (by kernel_rfl) (by kernel_rfl) (fun _ _ _ h => h) (Or.inl ⟨by rfl, ?y12_62⟩) (by assumption) ?r12_62); (case y12_62 => (intro w hSw; (try dsimp only at hSw); go_simp; try (with_reducible rfl))); (try simp only [Act.put, List.getElem_toArray, List.getElem_cons_zero, List.getElem_cons_succ, List.setIfInBounds_toArray, List.set_cons_zero, List.set_cons_succ]))
        (refine wpAnyH_done (by kernel_rfl) ?_ _)
        go_wp2_with fail
        go_meet
        exact ⟨rfl, Ext.trans (Ext.trans (Ext.refl _).drew hu1) hu2⟩
    case rest =>
      obtain ⟨U, hU⟩ : ∃ U : World, U = wc := ⟨wc, rfl⟩
      subst hU
      obtain ⟨rfl, hVU⟩ := hcut
      obtain ⟨c0, c1, c2, c3⟩ := ((hbn.ext hWV).ext hVU).node
      have w1 := wrap_len tx (parenL xk k)
      have w2 := wrap_len ty (parenR yk k)
      have w3 := symbol_len k
      generalize ht1 : wrap tx (parenL xk k) = t1 at *
      generalize ht2 : wrap ty (parenR yk k) = t2 at *
      have HT1 := Lib.hid ht1; clear ht1
      have HT2 := Lib.hid ht2; clear ht2
      have z1 : ¬ 9223372036854775807 < t1.length + 1 := by omega
      have z2 : ¬ 9223372036854775807 < t1.length + 1 + (symbol k).length := by omega
      have z3 : ¬ 9223372036854775807 < t1.length + 1 + (symbol k).length + 1 := by omega
      have z4 : ¬ 9223372036854775807 < t1.length + 1 + (symbol k).length + 1 + t2.length := by omega
      go_wp2_with (go_at_call 28; refine (ref_Symbol_c _ _ (by omega) (by omega)).mono ?_; rintro e u4 ⟨rfl, rfl⟩)
      go_ret
      refine ⟨ret_eq ?_, (by repeat (first | exact Ext.refl _ | assumption | refine Ext.alloc ?_ _ | refine Ext.drew ?_ | refine Ext.trans ?_ (by assumption)))⟩
      show Value.string ((⟨t1.toArray⟩ : ByteArray) ++ ⟨([32] : List UInt8).toArray⟩ ++ ⟨(symbol k).toArray⟩ ++ ⟨([32] : List UInt8).toArray⟩ ++ ⟨t2.toArray⟩) = _
      rw [HT1.out, HT2.out, str_app, str_app, str_app, str_app]
end Bk
