/- Contracts of ast.IsExpr, IsPlace, isVar. -/
import Derived.Test.YtkadkafapjhhkaaDoorKids
namespace Bk
open Go Go.RowKit Go.Proofs
theorem get1 {α : Type} {Q : Nat → α → Prop} {x : α} (h : Q 0 x) : ∀ i f, [x][i]? = some f → Q i f := by
  intro i f hf
  rcases i with _ | i
  · simp at hf; exact hf ▸ h
  · simp at hf
theorem get2 {α : Type} {Q : Nat → α → Prop} {x y : α} (h : Q 0 x) (h1 : Q 1 y) : ∀ i f, [x, y][i]? = some f → Q i f := by
  intro i f hf
  rcases i with _ | _ | i
  · simp at hf; exact hf ▸ h
  · simp at hf; exact hf ▸ h1
  · simp at hf
theorem get3 {α : Type} {Q : Nat → α → Prop} {x y z : α} (h : Q 0 x) (h1 : Q 1 y) (h2 : Q 2 z) : ∀ i f, [x, y, z][i]? = some f → Q i f := by
  intro i f hf
  rcases i with _ | _ | _ | i
  · simp at hf; exact hf ▸ h
  · simp at hf; exact hf ▸ h1
  · simp at hf; exact hf ▸ h2
  · simp at hf
theorem get4 {α : Type} {Q : Nat → α → Prop} {x y z u : α} (h : Q 0 x) (h1 : Q 1 y) (h2 : Q 2 z) (h3 : Q 3 u) : ∀ i f, [x, y, z, u][i]? = some f → Q i f := by
  intro i f hf
  rcases i with _ | _ | _ | _ | i
  · simp at hf; exact hf ▸ h
  · simp at hf; exact hf ▸ h1
  · simp at hf; exact hf ▸ h2
  · simp at hf; exact hf ▸ h3
  · simp at hf
theorem mem1 {α : Type} {Q : α → Prop} {x : α} (h : Q x) : ∀ f ∈ [x], Q f := by intro f hf; simp at hf; exact hf ▸ h
theorem mem2 {α : Type} {Q : α → Prop} {x y : α} (h : Q x) (h1 : Q y) : ∀ f ∈ [x, y], Q f := by
  intro f hf; simp at hf; rcases hf with rfl | rfl <;> assumption
theorem mem3 {α : Type} {Q : α → Prop} {x y z : α} (h : Q x) (h1 : Q y) (h2 : Q z) : ∀ f ∈ [x, y, z], Q f := by
  intro f hf; simp at hf; rcases hf with rfl | rfl | rfl <;> assumption
theorem mem4 {α : Type} {Q : α → Prop} {x y z u : α} (h : Q x) (h1 : Q y) (h2 : Q z) (h3 : Q u) : ∀ f ∈ [x, y, z, u], Q f := by
  intro f hf; simp at hf; rcases hf with rfl | rfl | rfl | rfl <;> assumption
theorem en_IsExpr : Enters 9 := enters_of Tryd.func9 (by kernel_rfl) rfl

theorem isExpr_leaf (n : Int) (s : List UInt8) (l : List Nd) : (Nd.mk 1 n s l).isExpr = (decide (0 ≤ n) && s.isEmpty && l.isEmpty) := by rw [Nd.isExpr.eq_def]; simp
theorem isExpr_name (k n : Int) (s : List UInt8) (l : List Nd) (h : k = 2 ∨ k = 4 ∨ k = 5) : (Nd.mk k n s l).isExpr = (named n s && l.isEmpty) := by
  rcases h with rfl | rfl | rfl <;> rw [Nd.isExpr.eq_def] <;> simp
theorem isExpr_item (f : FuncId) (n : Int) (s : List UInt8) (l : List Nd) : (Nd.mk 3 n s l).isExpr = (named n s && kidsOk l [(f, Nd.isExpr)]) := by
  rcases l with _ | ⟨x, _ | ⟨y, l⟩⟩ <;> rw [Nd.isExpr.eq_def] <;> simp [kidsOk]
theorem isExpr_un (f : FuncId) (k n : Int) (s : List UInt8) (l : List Nd) (h : k = 6 ∨ k = 7) : (Nd.mk k n s l).isExpr = (plain n s && kidsOk l [(f, Nd.isExpr)]) := by
  rcases l with _ | ⟨x, _ | ⟨y, l⟩⟩ <;> rcases h with rfl | rfl <;> rw [Nd.isExpr.eq_def] <;> simp [kidsOk]
theorem isExpr_bin (f : FuncId) (k n : Int) (s : List UInt8) (l : List Nd) (h : 8 ≤ k) (h' : k ≤ 23) : (Nd.mk k n s l).isExpr = (plain n s && kidsOk l [(f, Nd.isExpr), (f, Nd.isExpr)]) := by
  have e1 : ¬ k = 1 := by omega
  have e2 : ¬ (k = 2 ∨ k = 4 ∨ k = 5) := by omega
  have e3 : ¬ k = 3 := by omega
  have e4 : ¬ (k = 6 ∨ k = 7) := by omega
  rcases l with _ | ⟨x, _ | ⟨y, _ | ⟨z, l⟩⟩⟩ <;> rw [Nd.isExpr.eq_def] <;> simp [kidsOk, e1, e2, e3, e4, h, h']
theorem isExpr_else (k n : Int) (s : List UInt8) (l : List Nd) (h : k < 1 ∨ 23 < k) : (Nd.mk k n s l).isExpr = false := by
  have e1 : ¬ k = 1 := by omega
  have e2 : ¬ (k = 2 ∨ k = 4 ∨ k = 5) := by omega
  have e3 : ¬ k = 3 := by omega
  have e4 : ¬ (k = 6 ∨ k = 7) := by omega
  have e5 : ¬ (8 ≤ k ∧ k ≤ 23) := by omega
  rw [Nd.isExpr.eq_def]; simp [e1, e2, e3, e4, e5]

set_option maxHeartbeats 2000000 in
theorem IsExpr_c (S : Nat → Prop) (N : Nat) : ∀ t : Nd, t.size < N → t.wf → Tests S 9 Nd.isExpr t := by
  induction N with
  | zero => intro t h; omega
  | succ N ih =>
    rintro ⟨k, n, s, l⟩ hN hwf a c w hs
    simp only [Nd.wf, Nd.size, Nd.sits, Nd.kind, Nd.num, Nd.name, Nd.kids, Nd.val] at *
    obtain ⟨hk0, hk1, hn0, hn1, hsl, hll, hrw⟩ := hwf
    have hkid : ∀ t ∈ l, Tests S 9 Nd.isExpr t := fun t ht => ih t (by have := size_mem ht; omega) (rowWf_get hrw t ht)
    have HKID := Lib.hid hkid; clear hkid ih hrw
    have HSL := Lib.hid hsl; clear hsl
    by_cases c1 : k = 1
    · subst c1
      have hr := isExpr_leaf n s l
      have HR := Lib.hid hr; clear hr
      go_enter Tryd.func9, Tryd.ntmps9
      go_wp2_with fail
      all_goals go_ret
      all_goals rw [HR.out]
      all_goals exact ⟨ret_bool (by rw [Bool.eq_iff_iff]; first | (simp [*]; done) | (simp [*]; intros; omega)), (by repeat (first | exact Ext.refl _ | assumption | refine Ext.alloc ?_ _ | refine Ext.drew ?_ | refine Ext.trans ?_ (by assumption)))⟩
    by_cases c2 : k = 2 ∨ k = 4 ∨ k = 5
    · have hr := isExpr_name k n s l c2
      have HR := Lib.hid hr; clear hr
      cases hnm : named n s
      all_goals have HNM := Lib.hid hnm; clear hnm
      all_goals rcases c2 with rfl | rfl | rfl
      all_goals go_enter Tryd.func9, Tryd.ntmps9
      all_goals go_wp2_with (go_at_call 24; refine (named_c _ _ _ _ _ _ _ HSL.out).mono ?_; rintro e w1 ⟨rfl, hx1⟩; have hc1 := hx1.cells; rw [HNM.out])
      all_goals go_ret
      all_goals rw [HR.out, HNM.out]
      all_goals exact ⟨ret_bool (by first | rfl | (rw [Bool.eq_iff_iff]; simp)), (by repeat (first | exact Ext.refl _ | assumption | refine Ext.alloc ?_ _ | refine Ext.drew ?_ | refine Ext.trans ?_ (by assumption)))⟩
    by_cases c3 : k = 3
    · subst c3
      have hr := isExpr_item 9 n s l
      have HR := Lib.hid hr; clear hr
      cases hnm : named n s
      all_goals have HNM := Lib.hid hnm; clear hnm
      all_goals go_enter Tryd.func9, Tryd.ntmps9
      all_goals go_wp2_with (first | (go_at_call 24; refine (named_c _ _ _ _ _ _ _ HSL.out).mono ?_; rintro e w1 ⟨rfl, hx1⟩; have hc1 := hx1.cells; rw [HNM.out]) | (go_at_call 25; refine (kids_c _ _ _ l a c [(9, Nd.isExpr)] _ _ S _ hll (by decide) (hs.ext (by repeat (first | exact Ext.refl _ | assumption | refine Ext.alloc ?_ _ | refine Ext.drew ?_ | refine Ext.trans ?_ (by assumption)))) (get1 (by go_simp)) (mem1 en_IsExpr) (mem1 HKID.out)).mono ?_; rintro e w2 ⟨rfl, hx2⟩))
      all_goals go_ret
      all_goals rw [HR.out, HNM.out]
      all_goals exact ⟨ret_bool (by simp), (by repeat (first | exact Ext.refl _ | assumption | refine Ext.alloc ?_ _ | refine Ext.drew ?_ | refine Ext.trans ?_ (by assumption)))⟩
    by_cases c4 : k = 6 ∨ k = 7
    · have hr := isExpr_un 9 k n s l c4
      have HR := Lib.hid hr; clear hr
      cases hnm : plain n s
      all_goals have HNM := Lib.hid hnm; clear hnm
      all_goals rcases c4 with rfl | rfl
      all_goals go_enter Tryd.func9, Tryd.ntmps9
      all_goals go_wp2_with (first | (go_at_call 26; refine (plain_c _ _ _ _ _ _ _).mono ?_; rintro e w1 ⟨rfl, hx1⟩; have hc1 := hx1.cells; rw [HNM.out]) | (go_at_call 25; refine (kids_c _ _ _ l a c [(9, Nd.isExpr)] _ _ S _ hll (by decide) (hs.ext (by repeat (first | exact Ext.refl _ | assumption | refine Ext.alloc ?_ _ | refine Ext.drew ?_ | refine Ext.trans ?_ (by assumption)))) (get1 (by go_simp)) (mem1 en_IsExpr) (mem1 HKID.out)).mono ?_; rintro e w2 ⟨rfl, hx2⟩))
      all_goals go_ret
      all_goals rw [HR.out, HNM.out]
      all_goals exact ⟨ret_bool (by simp), (by repeat (first | exact Ext.refl _ | assumption | refine Ext.alloc ?_ _ | refine Ext.drew ?_ | refine Ext.trans ?_ (by assumption)))⟩
    by_cases c5 : 8 ≤ k ∧ k ≤ 23
    · obtain ⟨c5a, c5b⟩ := c5
      have d1 : (k == 1) = false := by rw [beq_eq_false_iff_ne]; omega
      have d2 : (k == 2) = false := by rw [beq_eq_false_iff_ne]; omega
      have d3 : (k == 3) = false := by rw [beq_eq_false_iff_ne]; omega
      have d4 : (k == 4) = false := by rw [beq_eq_false_iff_ne]; omega
      have d5 : (k == 5) = false := by rw [beq_eq_false_iff_ne]; omega
      have d6 : (k == 6) = false := by rw [beq_eq_false_iff_ne]; omega
      have d7 : (k == 7) = false := by rw [beq_eq_false_iff_ne]; omega
      clear c1 c2 c3 c4
      have hr := isExpr_bin 9 k n s l c5a c5b
      have HR := Lib.hid hr; clear hr
      cases hnm : plain n s
      all_goals have HNM := Lib.hid hnm; clear hnm
      all_goals go_enter Tryd.func9, Tryd.ntmps9
      all_goals go_wp2_with (first | (go_at_call 26; refine (plain_c _ _ _ _ _ _ _).mono ?_; rintro e w1 ⟨rfl, hx1⟩; have hc1 := hx1.cells; rw [HNM.out]) | (go_at_call 25; refine (kids_c _ _ _ l a c [(9, Nd.isExpr), (9, Nd.isExpr)] _ _ S _ hll (by decide) (hs.ext (by repeat (first | exact Ext.refl _ | assumption | refine Ext.alloc ?_ _ | refine Ext.drew ?_ | refine Ext.trans ?_ (by assumption)))) (get2 (by go_simp) (by go_simp)) (mem2 en_IsExpr en_IsExpr) (mem2 HKID.out HKID.out)).mono ?_; rintro e w2 ⟨rfl, hx2⟩))
      all_goals go_ret
      all_goals rw [HR.out, HNM.out]
      all_goals exact ⟨ret_bool (by simp), (by repeat (first | exact Ext.refl _ | assumption | refine Ext.alloc ?_ _ | refine Ext.drew ?_ | refine Ext.trans ?_ (by assumption)))⟩
    · have hr := isExpr_else k n s l (by omega)
      have HR := Lib.hid hr; clear hr
      have d1 : (k == 1) = false := by rw [beq_eq_false_iff_ne]; omega
      have d2 : (k == 2) = false := by rw [beq_eq_false_iff_ne]; omega
      have d3 : (k == 3) = false := by rw [beq_eq_false_iff_ne]; omega
      have d4 : (k == 4) = false := by rw [beq_eq_false_iff_ne]; omega
      have d5 : (k == 5) = false := by rw [beq_eq_false_iff_ne]; omega
      have d6 : (k == 6) = false := by rw [beq_eq_false_iff_ne]; omega
      have d7 : (k == 7) = false := by rw [beq_eq_false_iff_ne]; omega
      clear c1 c2 c3 c4
      go_enter Tryd.func9, Tryd.ntmps9
      go_wp2_with fail
      all_goals go_ret
      all_goals rw [HR.out]
      all_goals exact ⟨ret_bool (by first | rfl | (simp; omega)), (by repeat (first | exact Ext.refl _ | assumption | refine Ext.alloc ?_ _ | refine Ext.drew ?_ | refine Ext.trans ?_ (by assumption)))⟩
end Bk
