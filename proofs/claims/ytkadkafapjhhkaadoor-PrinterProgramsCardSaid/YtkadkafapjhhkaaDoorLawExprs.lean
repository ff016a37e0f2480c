/- The statement PrinterExprs, as a walk: it returns true for every tree. -/
import Derived.Test.YtkadkafapjhhkaaDoorAwake5
import Derived.Test.YtkadkafapjhhkaaDoorRefExpr
import Derived.Test.YtkadkafapjhhkaaDoorGreat
namespace Bk
open Go Go.RowKit Go.Proofs
theorem ref_all (S : Nat → Prop) (N : Nat) : ∀ t : Nd, t.size < N → t.size ≤ 1000000000000 → t.wf → t.isExpr = true → Tells S 10 Nd.text t := by
  induction N with
  | zero => intro t h; omega
  | succ N ih =>
    rintro ⟨k, n, s, l⟩ hN hM hwf he
    simp only [Nd.wf, Nd.size] at hwf hN hM
    obtain ⟨hk0, hk1, hn0, hn1, hsl, hll, hrw⟩ := hwf
    rw [Nd.isExpr.eq_def] at he
    simp only [] at he
    by_cases c1 : k = 1
    · subst c1
      simp at he
      exact ref_1 S n s l he.1.1 hn1
    rw [if_neg c1] at he
    by_cases c2 : k = 2 ∨ k = 4 ∨ k = 5
    · rw [if_pos c2] at he
      simp only [named, Bool.and_eq_true] at he
      have hnl := isName_len he.1.2
      rcases c2 with rfl | rfl | rfl
      · exact ref_2 S n s l
      · exact ref_4 S n s l (by omega)
      · exact ref_5 S n s l (by omega)
    rw [if_neg c2] at he
    by_cases c3 : k = 3
    · rw [if_pos c3] at he
      subst c3
      rcases l with _ | ⟨x, _ | ⟨y, l⟩⟩
      · simp at he
      · simp only [named, Bool.and_eq_true] at he
        have hnl := isName_len he.1.2
        simp only [rowSize, rowWf] at hN hM hrw
        have hx := textLen x hrw.1 he.2
        exact ref_3 S n s x (ih x (by omega) (by omega) hrw.1 he.2) (by omega) (by omega)
      · simp at he
    rw [if_neg c3] at he
    by_cases c6 : k = 6 ∨ k = 7
    · rw [if_pos c6] at he
      rcases l with _ | ⟨x, _ | ⟨y, l⟩⟩
      · simp at he
      · simp only [Bool.and_eq_true] at he
        simp only [rowSize, rowWf] at hN hM hrw
        have hx := textLen x hrw.1 he.2
        exact ref_un S k n s x c6 (ih x (by omega) (by omega) hrw.1 he.2) (by omega)
      · simp at he
    rw [if_neg c6] at he
    by_cases c8 : 8 ≤ k ∧ k ≤ 23
    · rw [if_pos c8] at he
      rcases l with _ | ⟨x, _ | ⟨y, _ | ⟨z, l⟩⟩⟩
      · simp at he
      · simp at he
      · simp only [Bool.and_eq_true] at he
        simp only [rowSize, rowWf] at hN hM hrw
        have hx := textLen x hrw.1 he.2.1
        have hy := textLen y hrw.2.1 he.2.2
        exact ref_bin S k n s x y c8.1 c8.2 (ih x (by omega) (by omega) hrw.1 he.2.1) (ih y (by omega) (by omega) hrw.2.1 he.2.2) (by omega) (by omega)
      · simp at he
    · rw [if_neg c8] at he; simp at he
theorem refExpr_t (S : Nat → Prop) (t : Nd) (hM : t.size ≤ 1000000000000) (hwf : t.wf) (he : t.isExpr = true) : Tells S 10 Nd.text t := ref_all S (t.size + 1) t (by omega) hM hwf he
set_option maxHeartbeats 1000000 in
theorem PrinterExprs_w (t : Nd) (hwf : t.wf) (S : Nat → Prop) (a : Option Addr) (c : Nat) (w : World) (ht : Tabs w) (hg : Tryd.prog.globals.size ≤ w.heap.size) (hs : t.sits S w a) :
    Calls Tryd.prog 3 #[t.val a c] w fun e w' => e = .returned (.bool true) ∧ Ext w w' := by
  have HGR := Lib.hid (great_c t hwf S a c)
  have HE := Lib.hid (IsExpr_t S t hwf)
  have HT := Lib.hid ht; clear ht
  have HG := Lib.hid hg; clear hg
  have HS := Lib.hid hs; clear hs
  cases hgr : (t.small 24 200).1
  · have HQ := Lib.hid hgr; clear hgr
    clear HE
    obtain ⟨k, n, s, l⟩ := t
    simp only [Nd.kind, Nd.num, Nd.name, Nd.kids, Nd.val]
    go_enter Tryd.func3, Tryd.ntmps3
    go_wp2_with fail
    refine (awake5_c _ (HT.out.ext ((Ext.refl _).alloc _) HG.out) (Nat.le_trans HG.out ((Ext.refl w).alloc _).size)).mono ?_
    rintro e w1 ⟨rfl, hx1⟩
    have hc1 := hx1.cells
    simp only
    go_wp2_with fail
    refine (HGR.out _ (HS.out.ext (by repeat (first | exact Ext.refl _ | assumption | refine Ext.alloc ?_ _ | refine Ext.drew ?_ | refine Ext.trans ?_ (by assumption))))).mono ?_
    rintro e w2 ⟨rfl, hx2⟩
    rw [HQ.out]
    simp only [Bool.not_false]
    go_wp2_with fail
    go_ret
    exact ⟨rfl, (by repeat (first | exact Ext.refl _ | assumption | refine Ext.alloc ?_ _ | refine Ext.drew ?_ | refine Ext.trans ?_ (by assumption)))⟩
  · have hsz := small_size t 24 200 (by omega) hgr
    have hle := small_le t 24 200 (by omega) hgr
    have hM : t.size ≤ 200 := by omega
    have HEX := Lib.hid (Expr_c t hwf (by omega) S a c)
    have HRE := Lib.hid (refExpr_t S t (by omega) hwf)
    have HQ := Lib.hid hgr; clear hgr hsz hle hM hwf
    cases he : t.isExpr
    · have HI := Lib.hid he; clear he
      obtain ⟨k, n, s, l⟩ := t
      simp only [Nd.kind, Nd.num, Nd.name, Nd.kids, Nd.val]
      go_enter Tryd.func3, Tryd.ntmps3
      go_wp2_with fail
      refine (awake5_c _ (HT.out.ext ((Ext.refl _).alloc _) HG.out) (Nat.le_trans HG.out ((Ext.refl w).alloc _).size)).mono ?_
      rintro e w1 ⟨rfl, hx1⟩
      have hc1 := hx1.cells
      simp only
      go_wp2_with fail
      refine (HGR.out _ (HS.out.ext (by repeat (first | exact Ext.refl _ | assumption | refine Ext.alloc ?_ _ | refine Ext.drew ?_ | refine Ext.trans ?_ (by assumption))))).mono ?_
      rintro e w2 ⟨rfl, hx2⟩
      have hc2 := (hx1.trans hx2).cells
      have hxx2 : Ext w w2 := (by repeat (first | exact Ext.refl _ | assumption | refine Ext.alloc ?_ _ | refine Ext.drew ?_ | refine Ext.trans ?_ (by assumption)))
      rw [HQ.out]
      simp only [Bool.not_true]
      go_wp2_with fail
      refine (HEX.out _ (HT.out.ext hxx2 HG.out) (Nat.le_trans HG.out hxx2.size) (HS.out.ext hxx2)).mono ?_
      rintro e w3 ⟨rfl, hx3⟩
      have hc3 := ((hx1.trans hx2).trans hx3).cells
      rw [HI.out]
      simp only [Bool.false_eq_true, if_false]
      go_wp2_with fail
      refine (HE.out a c _ (HS.out.ext (hxx2.trans hx3))).mono ?_
      rintro e w4 ⟨rfl, hx4⟩
      rw [HI.out]
      simp only
      go_wp2_with fail
      go_ret
      exact ⟨rfl, (by repeat (first | exact Ext.refl _ | assumption | refine Ext.alloc ?_ _ | refine Ext.drew ?_ | refine Ext.trans ?_ (by assumption)))⟩
    · have HI := Lib.hid he; clear he
      obtain ⟨k, n, s, l⟩ := t
      generalize htt : (Nd.mk k n s l).text = tx at *
      have HTT := Lib.hid htt; clear htt
      simp only [Nd.kind, Nd.num, Nd.name, Nd.kids, Nd.val]
      go_enter Tryd.func3, Tryd.ntmps3
      go_wp2_with fail
      refine (awake5_c _ (HT.out.ext ((Ext.refl _).alloc _) HG.out) (Nat.le_trans HG.out ((Ext.refl w).alloc _).size)).mono ?_
      rintro e w1 ⟨rfl, hx1⟩
      have hc1 := hx1.cells
      simp only
      go_wp2_with fail
      refine (HGR.out _ (HS.out.ext (by repeat (first | exact Ext.refl _ | assumption | refine Ext.alloc ?_ _ | refine Ext.drew ?_ | refine Ext.trans ?_ (by assumption))))).mono ?_
      rintro e w2 ⟨rfl, hx2⟩
      have hc2 := (hx1.trans hx2).cells
      have hxx2 : Ext w w2 := (by repeat (first | exact Ext.refl _ | assumption | refine Ext.alloc ?_ _ | refine Ext.drew ?_ | refine Ext.trans ?_ (by assumption)))
      rw [HQ.out]
      simp only [Bool.not_true]
      go_wp2_with fail
      refine (HEX.out _ (HT.out.ext hxx2 HG.out) (Nat.le_trans HG.out hxx2.size) (HS.out.ext hxx2)).mono ?_
      rintro e w3 ⟨rfl, hx3⟩
      have hc3 := ((hx1.trans hx2).trans hx3).cells
      rw [HI.out]
      simp only [if_true]
      try rw [HTT.out]
      go_wp2_with fail
      refine (HE.out a c _ (HS.out.ext (hxx2.trans hx3))).mono ?_
      rintro e w4 ⟨rfl, hx4⟩
      have hc4 := (((hx1.trans hx2).trans hx3).trans hx4).cells
      rw [HI.out]
      simp only
      go_wp2_with fail
      refine (HRE.out HI.out a c _ (HS.out.ext ((hxx2.trans hx3).trans hx4))).mono ?_
      rintro e w5 ⟨rfl, hx5⟩
      try rw [HTT.out]
      simp only
      go_wp2_with fail
      go_ret
      exact ⟨rfl, (by repeat (first | exact Ext.refl _ | assumption | refine Ext.alloc ?_ _ | refine Ext.drew ?_ | refine Ext.trans ?_ (by assumption)))⟩
end Bk
