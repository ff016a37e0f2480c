/- Contracts of ast.IsPlace, isVar, IsStmt, IsBlock. (Printed by wip/mkstmt.py.) -/
import Derived.Test.YtkadkafapjhhkaaDoorIsExpr
namespace Bk
open Go Go.RowKit Go.Proofs
theorem en_IsPlace : Enters 50 := enters_of Tryd.func50 (by kernel_rfl) rfl
theorem en_isVar : Enters 51 := enters_of Tryd.func51 (by kernel_rfl) rfl
theorem en_IsStmt : Enters 34 := enters_of Tryd.func34 (by kernel_rfl) rfl
theorem en_IsBlock : Enters 12 := enters_of Tryd.func12 (by kernel_rfl) rfl
theorem IsExpr_t (S : Nat → Prop) (t : Nd) (h : t.wf) : Tests S 9 Nd.isExpr t := IsExpr_c S (t.size + 1) t (by omega) h
theorem IsPlace_t (S : Nat → Prop) (t : Nd) (h : t.wf) : Tests S 50 Nd.isPlace t := by
  have HE := Lib.hid (IsExpr_t S t h)
  intro a c w hs
  obtain ⟨k, n, s, l⟩ := t
  have hr : (Nd.mk k n s l).isPlace = ((k == 2 || k == 3) && (Nd.mk k n s l).isExpr) := rfl
  have HR := Lib.hid hr; clear hr
  have HSI := Lib.hid hs; clear hs h
  simp only [Nd.kind, Nd.num, Nd.name, Nd.kids, Nd.val]
  by_cases h2 : k = 2 ∨ k = 3
  · rcases h2 with rfl | rfl
    all_goals go_enter Tryd.func50, Tryd.ntmps50
    all_goals go_wp2_with (go_at_call 9; refine (HE.out a c _ (HSI.out.ext (by repeat (first | exact Ext.refl _ | assumption | refine Ext.alloc ?_ _ | refine Ext.drew ?_ | refine Ext.trans ?_ (by assumption))))).mono ?_; rintro e w1 ⟨rfl, hx1⟩)
    all_goals go_ret
    all_goals rw [HR.out]
    all_goals exact ⟨ret_bool (by simp), (by repeat (first | exact Ext.refl _ | assumption | refine Ext.alloc ?_ _ | refine Ext.drew ?_ | refine Ext.trans ?_ (by assumption)))⟩
  · have d2 : (k == 2) = false := by rw [beq_eq_false_iff_ne]; omega
    have d3 : (k == 3) = false := by rw [beq_eq_false_iff_ne]; omega
    clear h2
    go_enter Tryd.func50, Tryd.ntmps50
    go_wp2_with fail
    go_ret
    rw [HR.out]
    exact ⟨ret_bool (by simp [d2, d3]), (by repeat (first | exact Ext.refl _ | assumption | refine Ext.alloc ?_ _ | refine Ext.drew ?_ | refine Ext.trans ?_ (by assumption)))⟩
theorem isVar_t (S : Nat → Prop) (t : Nd) (h : t.wf) : Tests S 51 Nd.isVar t := by
  have HE := Lib.hid (IsExpr_t S t h)
  intro a c w hs
  obtain ⟨k, n, s, l⟩ := t
  have hr : (Nd.mk k n s l).isVar = (k == 2 && (Nd.mk k n s l).isExpr) := rfl
  have HR := Lib.hid hr; clear hr
  have HSI := Lib.hid hs; clear hs h
  simp only [Nd.kind, Nd.num, Nd.name, Nd.kids, Nd.val]
  by_cases h2 : k = 2
  · subst h2
    go_enter Tryd.func51, Tryd.ntmps51
    go_wp2_with (go_at_call 9; refine (HE.out a c _ (HSI.out.ext (by repeat (first | exact Ext.refl _ | assumption | refine Ext.alloc ?_ _ | refine Ext.drew ?_ | refine Ext.trans ?_ (by assumption))))).mono ?_; rintro e w1 ⟨rfl, hx1⟩)
    go_ret
    rw [HR.out]
    exact ⟨ret_bool (by simp), (by repeat (first | exact Ext.refl _ | assumption | refine Ext.alloc ?_ _ | refine Ext.drew ?_ | refine Ext.trans ?_ (by assumption)))⟩
  · have d2 : (k == 2) = false := by rw [beq_eq_false_iff_ne]; omega
    clear h2
    go_enter Tryd.func51, Tryd.ntmps51
    go_wp2_with fail
    go_ret
    rw [HR.out]
    exact ⟨ret_bool (by simp [d2]), (by repeat (first | exact Ext.refl _ | assumption | refine Ext.alloc ?_ _ | refine Ext.drew ?_ | refine Ext.trans ?_ (by assumption)))⟩

theorem isStmt_40 (n : Int) (s : List UInt8) (l : List Nd) : (Nd.mk 40 n s l).isStmt = (plain n s && kidsOk l [(50, Nd.isPlace), (9, Nd.isExpr)]) := by
  rcases l with _ | ⟨x, _ | ⟨y, _ | ⟨z, _ | ⟨u, _ | ⟨v, l⟩⟩⟩⟩⟩ <;> rw [Nd.isStmt.eq_def] <;> simp [kidsOk, Bool.and_assoc]
theorem IsStmt_40 (n : Int) (s : List UInt8) (l : List Nd) (a : Option Addr) (c : Nat) (S : Nat → Prop) (w : World)
    (hs : rowSits S w l a) (hsl : s.length ≤ 9223372036854775807) (hll : l.length ≤ 9223372036854775807) (hrw : rowWf l) (hb : ∀ t ∈ l, Tests S 12 Nd.isBlock t) :
    Calls Tryd.prog 34 #[.agg #[.int .u8 40, .int .i64 n, str s, .slice a l.length c]] w fun e w' => e = .returned (.bool (Nd.mk 40 n s l).isStmt) ∧ Ext w w' := by
  have HEX : Hid (∀ t ∈ l, Tests S 9 Nd.isExpr t) := Lib.hid fun t ht => IsExpr_t S t (rowWf_get hrw t ht)
  have HPL : Hid (∀ t ∈ l, Tests S 50 Nd.isPlace t) := Lib.hid fun t ht => IsPlace_t S t (rowWf_get hrw t ht)
  have HVA : Hid (∀ t ∈ l, Tests S 51 Nd.isVar t) := Lib.hid fun t ht => isVar_t S t (rowWf_get hrw t ht)
  have HBL := Lib.hid hb; clear hb
  have HSL := Lib.hid hsl; clear hsl hrw
  have hr := isStmt_40 n s l
  have HR := Lib.hid hr; clear hr
  cases hnm : plain n s
  all_goals have HNM := Lib.hid hnm; clear hnm
  all_goals go_enter Tryd.func34, Tryd.ntmps34
  all_goals go_wp2_with (first | (go_at_call 26; refine (plain_c _ _ _ _ _ _ _).mono ?_; rintro e w1 ⟨rfl, hx1⟩; have hc1 := hx1.cells; rw [HNM.out]) | (go_at_call 25; refine (kids_c _ _ _ l a c [(50, Nd.isPlace), (9, Nd.isExpr)] _ _ S _ hll (by decide) (hs.ext (by repeat (first | exact Ext.refl _ | assumption | refine Ext.alloc ?_ _ | refine Ext.drew ?_ | refine Ext.trans ?_ (by assumption)))) (get2 (by go_simp) (by go_simp)) (mem2 en_IsPlace en_IsExpr) (mem2 HPL.out HEX.out)).mono ?_; rintro e w2 ⟨rfl, hx2⟩))
  all_goals go_ret
  all_goals rw [HR.out, HNM.out]
  all_goals exact ⟨ret_bool (by simp), (by repeat (first | exact Ext.refl _ | assumption | refine Ext.alloc ?_ _ | refine Ext.drew ?_ | refine Ext.trans ?_ (by assumption)))⟩

theorem isStmt_41 (n : Int) (s : List UInt8) (l : List Nd) : (Nd.mk 41 n s l).isStmt = (plain n s && kidsOk l [(50, Nd.isPlace), (9, Nd.isExpr)]) := by
  rcases l with _ | ⟨x, _ | ⟨y, _ | ⟨z, _ | ⟨u, _ | ⟨v, l⟩⟩⟩⟩⟩ <;> rw [Nd.isStmt.eq_def] <;> simp [kidsOk, Bool.and_assoc]
theorem IsStmt_41 (n : Int) (s : List UInt8) (l : List Nd) (a : Option Addr) (c : Nat) (S : Nat → Prop) (w : World)
    (hs : rowSits S w l a) (hsl : s.length ≤ 9223372036854775807) (hll : l.length ≤ 9223372036854775807) (hrw : rowWf l) (hb : ∀ t ∈ l, Tests S 12 Nd.isBlock t) :
    Calls Tryd.prog 34 #[.agg #[.int .u8 41, .int .i64 n, str s, .slice a l.length c]] w fun e w' => e = .returned (.bool (Nd.mk 41 n s l).isStmt) ∧ Ext w w' := by
  have HEX : Hid (∀ t ∈ l, Tests S 9 Nd.isExpr t) := Lib.hid fun t ht => IsExpr_t S t (rowWf_get hrw t ht)
  have HPL : Hid (∀ t ∈ l, Tests S 50 Nd.isPlace t) := Lib.hid fun t ht => IsPlace_t S t (rowWf_get hrw t ht)
  have HVA : Hid (∀ t ∈ l, Tests S 51 Nd.isVar t) := Lib.hid fun t ht => isVar_t S t (rowWf_get hrw t ht)
  have HBL := Lib.hid hb; clear hb
  have HSL := Lib.hid hsl; clear hsl hrw
  have hr := isStmt_41 n s l
  have HR := Lib.hid hr; clear hr
  cases hnm : plain n s
  all_goals have HNM := Lib.hid hnm; clear hnm
  all_goals go_enter Tryd.func34, Tryd.ntmps34
  all_goals go_wp2_with (first | (go_at_call 26; refine (plain_c _ _ _ _ _ _ _).mono ?_; rintro e w1 ⟨rfl, hx1⟩; have hc1 := hx1.cells; rw [HNM.out]) | (go_at_call 25; refine (kids_c _ _ _ l a c [(50, Nd.isPlace), (9, Nd.isExpr)] _ _ S _ hll (by decide) (hs.ext (by repeat (first | exact Ext.refl _ | assumption | refine Ext.alloc ?_ _ | refine Ext.drew ?_ | refine Ext.trans ?_ (by assumption)))) (get2 (by go_simp) (by go_simp)) (mem2 en_IsPlace en_IsExpr) (mem2 HPL.out HEX.out)).mono ?_; rintro e w2 ⟨rfl, hx2⟩))
  all_goals go_ret
  all_goals rw [HR.out, HNM.out]
  all_goals exact ⟨ret_bool (by simp), (by repeat (first | exact Ext.refl _ | assumption | refine Ext.alloc ?_ _ | refine Ext.drew ?_ | refine Ext.trans ?_ (by assumption)))⟩

theorem isStmt_42 (n : Int) (s : List UInt8) (l : List Nd) : (Nd.mk 42 n s l).isStmt = (plain n s && kidsOk l [(50, Nd.isPlace), (9, Nd.isExpr)]) := by
  rcases l with _ | ⟨x, _ | ⟨y, _ | ⟨z, _ | ⟨u, _ | ⟨v, l⟩⟩⟩⟩⟩ <;> rw [Nd.isStmt.eq_def] <;> simp [kidsOk, Bool.and_assoc]
theorem IsStmt_42 (n : Int) (s : List UInt8) (l : List Nd) (a : Option Addr) (c : Nat) (S : Nat → Prop) (w : World)
    (hs : rowSits S w l a) (hsl : s.length ≤ 9223372036854775807) (hll : l.length ≤ 9223372036854775807) (hrw : rowWf l) (hb : ∀ t ∈ l, Tests S 12 Nd.isBlock t) :
    Calls Tryd.prog 34 #[.agg #[.int .u8 42, .int .i64 n, str s, .slice a l.length c]] w fun e w' => e = .returned (.bool (Nd.mk 42 n s l).isStmt) ∧ Ext w w' := by
  have HEX : Hid (∀ t ∈ l, Tests S 9 Nd.isExpr t) := Lib.hid fun t ht => IsExpr_t S t (rowWf_get hrw t ht)
  have HPL : Hid (∀ t ∈ l, Tests S 50 Nd.isPlace t) := Lib.hid fun t ht => IsPlace_t S t (rowWf_get hrw t ht)
  have HVA : Hid (∀ t ∈ l, Tests S 51 Nd.isVar t) := Lib.hid fun t ht => isVar_t S t (rowWf_get hrw t ht)
  have HBL := Lib.hid hb; clear hb
  have HSL := Lib.hid hsl; clear hsl hrw
  have hr := isStmt_42 n s l
  have HR := Lib.hid hr; clear hr
  cases hnm : plain n s
  all_goals have HNM := Lib.hid hnm; clear hnm
  all_goals go_enter Tryd.func34, Tryd.ntmps34
  all_goals go_wp2_with (first | (go_at_call 26; refine (plain_c _ _ _ _ _ _ _).mono ?_; rintro e w1 ⟨rfl, hx1⟩; have hc1 := hx1.cells; rw [HNM.out]) | (go_at_call 25; refine (kids_c _ _ _ l a c [(50, Nd.isPlace), (9, Nd.isExpr)] _ _ S _ hll (by decide) (hs.ext (by repeat (first | exact Ext.refl _ | assumption | refine Ext.alloc ?_ _ | refine Ext.drew ?_ | refine Ext.trans ?_ (by assumption)))) (get2 (by go_simp) (by go_simp)) (mem2 en_IsPlace en_IsExpr) (mem2 HPL.out HEX.out)).mono ?_; rintro e w2 ⟨rfl, hx2⟩))
  all_goals go_ret
  all_goals rw [HR.out, HNM.out]
  all_goals exact ⟨ret_bool (by simp), (by repeat (first | exact Ext.refl _ | assumption | refine Ext.alloc ?_ _ | refine Ext.drew ?_ | refine Ext.trans ?_ (by assumption)))⟩

theorem isStmt_56 (n : Int) (s : List UInt8) (l : List Nd) : (Nd.mk 56 n s l).isStmt = (plain n s && kidsOk l [(50, Nd.isPlace), (9, Nd.isExpr)]) := by
  rcases l with _ | ⟨x, _ | ⟨y, _ | ⟨z, _ | ⟨u, _ | ⟨v, l⟩⟩⟩⟩⟩ <;> rw [Nd.isStmt.eq_def] <;> simp [kidsOk, Bool.and_assoc]
theorem IsStmt_56 (n : Int) (s : List UInt8) (l : List Nd) (a : Option Addr) (c : Nat) (S : Nat → Prop) (w : World)
    (hs : rowSits S w l a) (hsl : s.length ≤ 9223372036854775807) (hll : l.length ≤ 9223372036854775807) (hrw : rowWf l) (hb : ∀ t ∈ l, Tests S 12 Nd.isBlock t) :
    Calls Tryd.prog 34 #[.agg #[.int .u8 56, .int .i64 n, str s, .slice a l.length c]] w fun e w' => e = .returned (.bool (Nd.mk 56 n s l).isStmt) ∧ Ext w w' := by
  have HEX : Hid (∀ t ∈ l, Tests S 9 Nd.isExpr t) := Lib.hid fun t ht => IsExpr_t S t (rowWf_get hrw t ht)
  have HPL : Hid (∀ t ∈ l, Tests S 50 Nd.isPlace t) := Lib.hid fun t ht => IsPlace_t S t (rowWf_get hrw t ht)
  have HVA : Hid (∀ t ∈ l, Tests S 51 Nd.isVar t) := Lib.hid fun t ht => isVar_t S t (rowWf_get hrw t ht)
  have HBL := Lib.hid hb; clear hb
  have HSL := Lib.hid hsl; clear hsl hrw
  have hr := isStmt_56 n s l
  have HR := Lib.hid hr; clear hr
  cases hnm : plain n s
  all_goals have HNM := Lib.hid hnm; clear hnm
  all_goals go_enter Tryd.func34, Tryd.ntmps34
  all_goals go_wp2_with (first | (go_at_call 26; refine (plain_c _ _ _ _ _ _ _).mono ?_; rintro e w1 ⟨rfl, hx1⟩; have hc1 := hx1.cells; rw [HNM.out]) | (go_at_call 25; refine (kids_c _ _ _ l a c [(50, Nd.isPlace), (9, Nd.isExpr)] _ _ S _ hll (by decide) (hs.ext (by repeat (first | exact Ext.refl _ | assumption | refine Ext.alloc ?_ _ | refine Ext.drew ?_ | refine Ext.trans ?_ (by assumption)))) (get2 (by go_simp) (by go_simp)) (mem2 en_IsPlace en_IsExpr) (mem2 HPL.out HEX.out)).mono ?_; rintro e w2 ⟨rfl, hx2⟩))
  all_goals go_ret
  all_goals rw [HR.out, HNM.out]
  all_goals exact ⟨ret_bool (by simp), (by repeat (first | exact Ext.refl _ | assumption | refine Ext.alloc ?_ _ | refine Ext.drew ?_ | refine Ext.trans ?_ (by assumption)))⟩

theorem isStmt_43 (n : Int) (s : List UInt8) (l : List Nd) : (Nd.mk 43 n s l).isStmt = (plain n s && kidsOk l [(50, Nd.isPlace), (50, Nd.isPlace)]) := by
  rcases l with _ | ⟨x, _ | ⟨y, _ | ⟨z, _ | ⟨u, _ | ⟨v, l⟩⟩⟩⟩⟩ <;> rw [Nd.isStmt.eq_def] <;> simp [kidsOk, Bool.and_assoc]
theorem IsStmt_43 (n : Int) (s : List UInt8) (l : List Nd) (a : Option Addr) (c : Nat) (S : Nat → Prop) (w : World)
    (hs : rowSits S w l a) (hsl : s.length ≤ 9223372036854775807) (hll : l.length ≤ 9223372036854775807) (hrw : rowWf l) (hb : ∀ t ∈ l, Tests S 12 Nd.isBlock t) :
    Calls Tryd.prog 34 #[.agg #[.int .u8 43, .int .i64 n, str s, .slice a l.length c]] w fun e w' => e = .returned (.bool (Nd.mk 43 n s l).isStmt) ∧ Ext w w' := by
  have HEX : Hid (∀ t ∈ l, Tests S 9 Nd.isExpr t) := Lib.hid fun t ht => IsExpr_t S t (rowWf_get hrw t ht)
  have HPL : Hid (∀ t ∈ l, Tests S 50 Nd.isPlace t) := Lib.hid fun t ht => IsPlace_t S t (rowWf_get hrw t ht)
  have HVA : Hid (∀ t ∈ l, Tests S 51 Nd.isVar t) := Lib.hid fun t ht => isVar_t S t (rowWf_get hrw t ht)
  have HBL := Lib.hid hb; clear hb
  have HSL := Lib.hid hsl; clear hsl hrw
  have hr := isStmt_43 n s l
  have HR := Lib.hid hr; clear hr
  cases hnm : plain n s
  all_goals have HNM := Lib.hid hnm; clear hnm
  all_goals go_enter Tryd.func34, Tryd.ntmps34
  all_goals go_wp2_with (first | (go_at_call 26; refine (plain_c _ _ _ _ _ _ _).mono ?_; rintro e w1 ⟨rfl, hx1⟩; have hc1 := hx1.cells; rw [HNM.out]) | (go_at_call 25; refine (kids_c _ _ _ l a c [(50, Nd.isPlace), (50, Nd.isPlace)] _ _ S _ hll (by decide) (hs.ext (by repeat (first | exact Ext.refl _ | assumption | refine Ext.alloc ?_ _ | refine Ext.drew ?_ | refine Ext.trans ?_ (by assumption)))) (get2 (by go_simp) (by go_simp)) (mem2 en_IsPlace en_IsPlace) (mem2 HPL.out HPL.out)).mono ?_; rintro e w2 ⟨rfl, hx2⟩))
  all_goals go_ret
  all_goals rw [HR.out, HNM.out]
  all_goals exact ⟨ret_bool (by simp), (by repeat (first | exact Ext.refl _ | assumption | refine Ext.alloc ?_ _ | refine Ext.drew ?_ | refine Ext.trans ?_ (by assumption)))⟩

theorem isStmt_44 (n : Int) (s : List UInt8) (l : List Nd) : (Nd.mk 44 n s l).isStmt = (named n s && kidsOk l [(50, Nd.isPlace)]) := by
  rcases l with _ | ⟨x, _ | ⟨y, _ | ⟨z, _ | ⟨u, _ | ⟨v, l⟩⟩⟩⟩⟩ <;> rw [Nd.isStmt.eq_def] <;> simp [kidsOk, Bool.and_assoc]
theorem IsStmt_44 (n : Int) (s : List UInt8) (l : List Nd) (a : Option Addr) (c : Nat) (S : Nat → Prop) (w : World)
    (hs : rowSits S w l a) (hsl : s.length ≤ 9223372036854775807) (hll : l.length ≤ 9223372036854775807) (hrw : rowWf l) (hb : ∀ t ∈ l, Tests S 12 Nd.isBlock t) :
    Calls Tryd.prog 34 #[.agg #[.int .u8 44, .int .i64 n, str s, .slice a l.length c]] w fun e w' => e = .returned (.bool (Nd.mk 44 n s l).isStmt) ∧ Ext w w' := by
  have HEX : Hid (∀ t ∈ l, Tests S 9 Nd.isExpr t) := Lib.hid fun t ht => IsExpr_t S t (rowWf_get hrw t ht)
  have HPL : Hid (∀ t ∈ l, Tests S 50 Nd.isPlace t) := Lib.hid fun t ht => IsPlace_t S t (rowWf_get hrw t ht)
  have HVA : Hid (∀ t ∈ l, Tests S 51 Nd.isVar t) := Lib.hid fun t ht => isVar_t S t (rowWf_get hrw t ht)
  have HBL := Lib.hid hb; clear hb
  have HSL := Lib.hid hsl; clear hsl hrw
  have hr := isStmt_44 n s l
  have HR := Lib.hid hr; clear hr
  cases hnm : named n s
  all_goals have HNM := Lib.hid hnm; clear hnm
  all_goals go_enter Tryd.func34, Tryd.ntmps34
  all_goals go_wp2_with (first | (go_at_call 24; refine (named_c _ _ _ _ _ _ _ HSL.out).mono ?_; rintro e w1 ⟨rfl, hx1⟩; have hc1 := hx1.cells; rw [HNM.out]) | (go_at_call 25; refine (kids_c _ _ _ l a c [(50, Nd.isPlace)] _ _ S _ hll (by decide) (hs.ext (by repeat (first | exact Ext.refl _ | assumption | refine Ext.alloc ?_ _ | refine Ext.drew ?_ | refine Ext.trans ?_ (by assumption)))) (get1 (by go_simp)) (mem1 en_IsPlace) (mem1 HPL.out)).mono ?_; rintro e w2 ⟨rfl, hx2⟩))
  all_goals go_ret
  all_goals rw [HR.out, HNM.out]
  all_goals exact ⟨ret_bool (by simp), (by repeat (first | exact Ext.refl _ | assumption | refine Ext.alloc ?_ _ | refine Ext.drew ?_ | refine Ext.trans ?_ (by assumption)))⟩

theorem isStmt_45 (n : Int) (s : List UInt8) (l : List Nd) : (Nd.mk 45 n s l).isStmt = (named n s && kidsOk l [(50, Nd.isPlace)]) := by
  rcases l with _ | ⟨x, _ | ⟨y, _ | ⟨z, _ | ⟨u, _ | ⟨v, l⟩⟩⟩⟩⟩ <;> rw [Nd.isStmt.eq_def] <;> simp [kidsOk, Bool.and_assoc]
theorem IsStmt_45 (n : Int) (s : List UInt8) (l : List Nd) (a : Option Addr) (c : Nat) (S : Nat → Prop) (w : World)
    (hs : rowSits S w l a) (hsl : s.length ≤ 9223372036854775807) (hll : l.length ≤ 9223372036854775807) (hrw : rowWf l) (hb : ∀ t ∈ l, Tests S 12 Nd.isBlock t) :
    Calls Tryd.prog 34 #[.agg #[.int .u8 45, .int .i64 n, str s, .slice a l.length c]] w fun e w' => e = .returned (.bool (Nd.mk 45 n s l).isStmt) ∧ Ext w w' := by
  have HEX : Hid (∀ t ∈ l, Tests S 9 Nd.isExpr t) := Lib.hid fun t ht => IsExpr_t S t (rowWf_get hrw t ht)
  have HPL : Hid (∀ t ∈ l, Tests S 50 Nd.isPlace t) := Lib.hid fun t ht => IsPlace_t S t (rowWf_get hrw t ht)
  have HVA : Hid (∀ t ∈ l, Tests S 51 Nd.isVar t) := Lib.hid fun t ht => isVar_t S t (rowWf_get hrw t ht)
  have HBL := Lib.hid hb; clear hb
  have HSL := Lib.hid hsl; clear hsl hrw
  have hr := isStmt_45 n s l
  have HR := Lib.hid hr; clear hr
  cases hnm : named n s
  all_goals have HNM := Lib.hid hnm; clear hnm
  all_goals go_enter Tryd.func34, Tryd.ntmps34
  all_goals go_wp2_with (first | (go_at_call 24; refine (named_c _ _ _ _ _ _ _ HSL.out).mono ?_; rintro e w1 ⟨rfl, hx1⟩; have hc1 := hx1.cells; rw [HNM.out]) | (go_at_call 25; refine (kids_c _ _ _ l a c [(50, Nd.isPlace)] _ _ S _ hll (by decide) (hs.ext (by repeat (first | exact Ext.refl _ | assumption | refine Ext.alloc ?_ _ | refine Ext.drew ?_ | refine Ext.trans ?_ (by assumption)))) (get1 (by go_simp)) (mem1 en_IsPlace) (mem1 HPL.out)).mono ?_; rintro e w2 ⟨rfl, hx2⟩))
  all_goals go_ret
  all_goals rw [HR.out, HNM.out]
  all_goals exact ⟨ret_bool (by simp), (by repeat (first | exact Ext.refl _ | assumption | refine Ext.alloc ?_ _ | refine Ext.drew ?_ | refine Ext.trans ?_ (by assumption)))⟩

theorem isStmt_46 (n : Int) (s : List UInt8) (l : List Nd) : (Nd.mk 46 n s l).isStmt = (plain n s && kidsOk l [(50, Nd.isPlace)]) := by
  rcases l with _ | ⟨x, _ | ⟨y, _ | ⟨z, _ | ⟨u, _ | ⟨v, l⟩⟩⟩⟩⟩ <;> rw [Nd.isStmt.eq_def] <;> simp [kidsOk, Bool.and_assoc]
theorem IsStmt_46 (n : Int) (s : List UInt8) (l : List Nd) (a : Option Addr) (c : Nat) (S : Nat → Prop) (w : World)
    (hs : rowSits S w l a) (hsl : s.length ≤ 9223372036854775807) (hll : l.length ≤ 9223372036854775807) (hrw : rowWf l) (hb : ∀ t ∈ l, Tests S 12 Nd.isBlock t) :
    Calls Tryd.prog 34 #[.agg #[.int .u8 46, .int .i64 n, str s, .slice a l.length c]] w fun e w' => e = .returned (.bool (Nd.mk 46 n s l).isStmt) ∧ Ext w w' := by
  have HEX : Hid (∀ t ∈ l, Tests S 9 Nd.isExpr t) := Lib.hid fun t ht => IsExpr_t S t (rowWf_get hrw t ht)
  have HPL : Hid (∀ t ∈ l, Tests S 50 Nd.isPlace t) := Lib.hid fun t ht => IsPlace_t S t (rowWf_get hrw t ht)
  have HVA : Hid (∀ t ∈ l, Tests S 51 Nd.isVar t) := Lib.hid fun t ht => isVar_t S t (rowWf_get hrw t ht)
  have HBL := Lib.hid hb; clear hb
  have HSL := Lib.hid hsl; clear hsl hrw
  have hr := isStmt_46 n s l
  have HR := Lib.hid hr; clear hr
  cases hnm : plain n s
  all_goals have HNM := Lib.hid hnm; clear hnm
  all_goals go_enter Tryd.func34, Tryd.ntmps34
  all_goals go_wp2_with (first | (go_at_call 26; refine (plain_c _ _ _ _ _ _ _).mono ?_; rintro e w1 ⟨rfl, hx1⟩; have hc1 := hx1.cells; rw [HNM.out]) | (go_at_call 25; refine (kids_c _ _ _ l a c [(50, Nd.isPlace)] _ _ S _ hll (by decide) (hs.ext (by repeat (first | exact Ext.refl _ | assumption | refine Ext.alloc ?_ _ | refine Ext.drew ?_ | refine Ext.trans ?_ (by assumption)))) (get1 (by go_simp)) (mem1 en_IsPlace) (mem1 HPL.out)).mono ?_; rintro e w2 ⟨rfl, hx2⟩))
  all_goals go_ret
  all_goals rw [HR.out, HNM.out]
  all_goals exact ⟨ret_bool (by simp), (by repeat (first | exact Ext.refl _ | assumption | refine Ext.alloc ?_ _ | refine Ext.drew ?_ | refine Ext.trans ?_ (by assumption)))⟩

theorem isStmt_47 (n : Int) (s : List UInt8) (l : List Nd) : (Nd.mk 47 n s l).isStmt = (plain n s && kidsOk l [(50, Nd.isPlace)]) := by
  rcases l with _ | ⟨x, _ | ⟨y, _ | ⟨z, _ | ⟨u, _ | ⟨v, l⟩⟩⟩⟩⟩ <;> rw [Nd.isStmt.eq_def] <;> simp [kidsOk, Bool.and_assoc]
theorem IsStmt_47 (n : Int) (s : List UInt8) (l : List Nd) (a : Option Addr) (c : Nat) (S : Nat → Prop) (w : World)
    (hs : rowSits S w l a) (hsl : s.length ≤ 9223372036854775807) (hll : l.length ≤ 9223372036854775807) (hrw : rowWf l) (hb : ∀ t ∈ l, Tests S 12 Nd.isBlock t) :
    Calls Tryd.prog 34 #[.agg #[.int .u8 47, .int .i64 n, str s, .slice a l.length c]] w fun e w' => e = .returned (.bool (Nd.mk 47 n s l).isStmt) ∧ Ext w w' := by
  have HEX : Hid (∀ t ∈ l, Tests S 9 Nd.isExpr t) := Lib.hid fun t ht => IsExpr_t S t (rowWf_get hrw t ht)
  have HPL : Hid (∀ t ∈ l, Tests S 50 Nd.isPlace t) := Lib.hid fun t ht => IsPlace_t S t (rowWf_get hrw t ht)
  have HVA : Hid (∀ t ∈ l, Tests S 51 Nd.isVar t) := Lib.hid fun t ht => isVar_t S t (rowWf_get hrw t ht)
  have HBL := Lib.hid hb; clear hb
  have HSL := Lib.hid hsl; clear hsl hrw
  have hr := isStmt_47 n s l
  have HR := Lib.hid hr; clear hr
  cases hnm : plain n s
  all_goals have HNM := Lib.hid hnm; clear hnm
  all_goals go_enter Tryd.func34, Tryd.ntmps34
  all_goals go_wp2_with (first | (go_at_call 26; refine (plain_c _ _ _ _ _ _ _).mono ?_; rintro e w1 ⟨rfl, hx1⟩; have hc1 := hx1.cells; rw [HNM.out]) | (go_at_call 25; refine (kids_c _ _ _ l a c [(50, Nd.isPlace)] _ _ S _ hll (by decide) (hs.ext (by repeat (first | exact Ext.refl _ | assumption | refine Ext.alloc ?_ _ | refine Ext.drew ?_ | refine Ext.trans ?_ (by assumption)))) (get1 (by go_simp)) (mem1 en_IsPlace) (mem1 HPL.out)).mono ?_; rintro e w2 ⟨rfl, hx2⟩))
  all_goals go_ret
  all_goals rw [HR.out, HNM.out]
  all_goals exact ⟨ret_bool (by simp), (by repeat (first | exact Ext.refl _ | assumption | refine Ext.alloc ?_ _ | refine Ext.drew ?_ | refine Ext.trans ?_ (by assumption)))⟩

theorem isStmt_48 (n : Int) (s : List UInt8) (l : List Nd) : (Nd.mk 48 n s l).isStmt = (plain n s && kidsOk l [(50, Nd.isPlace)]) := by
  rcases l with _ | ⟨x, _ | ⟨y, _ | ⟨z, _ | ⟨u, _ | ⟨v, l⟩⟩⟩⟩⟩ <;> rw [Nd.isStmt.eq_def] <;> simp [kidsOk, Bool.and_assoc]
theorem IsStmt_48 (n : Int) (s : List UInt8) (l : List Nd) (a : Option Addr) (c : Nat) (S : Nat → Prop) (w : World)
    (hs : rowSits S w l a) (hsl : s.length ≤ 9223372036854775807) (hll : l.length ≤ 9223372036854775807) (hrw : rowWf l) (hb : ∀ t ∈ l, Tests S 12 Nd.isBlock t) :
    Calls Tryd.prog 34 #[.agg #[.int .u8 48, .int .i64 n, str s, .slice a l.length c]] w fun e w' => e = .returned (.bool (Nd.mk 48 n s l).isStmt) ∧ Ext w w' := by
  have HEX : Hid (∀ t ∈ l, Tests S 9 Nd.isExpr t) := Lib.hid fun t ht => IsExpr_t S t (rowWf_get hrw t ht)
  have HPL : Hid (∀ t ∈ l, Tests S 50 Nd.isPlace t) := Lib.hid fun t ht => IsPlace_t S t (rowWf_get hrw t ht)
  have HVA : Hid (∀ t ∈ l, Tests S 51 Nd.isVar t) := Lib.hid fun t ht => isVar_t S t (rowWf_get hrw t ht)
  have HBL := Lib.hid hb; clear hb
  have HSL := Lib.hid hsl; clear hsl hrw
  have hr := isStmt_48 n s l
  have HR := Lib.hid hr; clear hr
  cases hnm : plain n s
  all_goals have HNM := Lib.hid hnm; clear hnm
  all_goals go_enter Tryd.func34, Tryd.ntmps34
  all_goals go_wp2_with (first | (go_at_call 26; refine (plain_c _ _ _ _ _ _ _).mono ?_; rintro e w1 ⟨rfl, hx1⟩; have hc1 := hx1.cells; rw [HNM.out]) | (go_at_call 25; refine (kids_c _ _ _ l a c [(50, Nd.isPlace)] _ _ S _ hll (by decide) (hs.ext (by repeat (first | exact Ext.refl _ | assumption | refine Ext.alloc ?_ _ | refine Ext.drew ?_ | refine Ext.trans ?_ (by assumption)))) (get1 (by go_simp)) (mem1 en_IsPlace) (mem1 HPL.out)).mono ?_; rintro e w2 ⟨rfl, hx2⟩))
  all_goals go_ret
  all_goals rw [HR.out, HNM.out]
  all_goals exact ⟨ret_bool (by simp), (by repeat (first | exact Ext.refl _ | assumption | refine Ext.alloc ?_ _ | refine Ext.drew ?_ | refine Ext.trans ?_ (by assumption)))⟩

theorem isStmt_49 (n : Int) (s : List UInt8) (l : List Nd) : (Nd.mk 49 n s l).isStmt = (plain n s && kidsOk l [(50, Nd.isPlace)]) := by
  rcases l with _ | ⟨x, _ | ⟨y, _ | ⟨z, _ | ⟨u, _ | ⟨v, l⟩⟩⟩⟩⟩ <;> rw [Nd.isStmt.eq_def] <;> simp [kidsOk, Bool.and_assoc]
theorem IsStmt_49 (n : Int) (s : List UInt8) (l : List Nd) (a : Option Addr) (c : Nat) (S : Nat → Prop) (w : World)
    (hs : rowSits S w l a) (hsl : s.length ≤ 9223372036854775807) (hll : l.length ≤ 9223372036854775807) (hrw : rowWf l) (hb : ∀ t ∈ l, Tests S 12 Nd.isBlock t) :
    Calls Tryd.prog 34 #[.agg #[.int .u8 49, .int .i64 n, str s, .slice a l.length c]] w fun e w' => e = .returned (.bool (Nd.mk 49 n s l).isStmt) ∧ Ext w w' := by
  have HEX : Hid (∀ t ∈ l, Tests S 9 Nd.isExpr t) := Lib.hid fun t ht => IsExpr_t S t (rowWf_get hrw t ht)
  have HPL : Hid (∀ t ∈ l, Tests S 50 Nd.isPlace t) := Lib.hid fun t ht => IsPlace_t S t (rowWf_get hrw t ht)
  have HVA : Hid (∀ t ∈ l, Tests S 51 Nd.isVar t) := Lib.hid fun t ht => isVar_t S t (rowWf_get hrw t ht)
  have HBL := Lib.hid hb; clear hb
  have HSL := Lib.hid hsl; clear hsl hrw
  have hr := isStmt_49 n s l
  have HR := Lib.hid hr; clear hr
  cases hnm : plain n s
  all_goals have HNM := Lib.hid hnm; clear hnm
  all_goals go_enter Tryd.func34, Tryd.ntmps34
  all_goals go_wp2_with (first | (go_at_call 26; refine (plain_c _ _ _ _ _ _ _).mono ?_; rintro e w1 ⟨rfl, hx1⟩; have hc1 := hx1.cells; rw [HNM.out]) | (go_at_call 25; refine (kids_c _ _ _ l a c [(50, Nd.isPlace)] _ _ S _ hll (by decide) (hs.ext (by repeat (first | exact Ext.refl _ | assumption | refine Ext.alloc ?_ _ | refine Ext.drew ?_ | refine Ext.trans ?_ (by assumption)))) (get1 (by go_simp)) (mem1 en_IsPlace) (mem1 HPL.out)).mono ?_; rintro e w2 ⟨rfl, hx2⟩))
  all_goals go_ret
  all_goals rw [HR.out, HNM.out]
  all_goals exact ⟨ret_bool (by simp), (by repeat (first | exact Ext.refl _ | assumption | refine Ext.alloc ?_ _ | refine Ext.drew ?_ | refine Ext.trans ?_ (by assumption)))⟩

theorem isStmt_52 (n : Int) (s : List UInt8) (l : List Nd) : (Nd.mk 52 n s l).isStmt = (plain n s && kidsOk l [(9, Nd.isExpr), (12, Nd.isBlock), (12, Nd.isBlock), (9, Nd.isExpr)]) := by
  rcases l with _ | ⟨x, _ | ⟨y, _ | ⟨z, _ | ⟨u, _ | ⟨v, l⟩⟩⟩⟩⟩ <;> rw [Nd.isStmt.eq_def] <;> simp [kidsOk, Bool.and_assoc]
theorem IsStmt_52 (n : Int) (s : List UInt8) (l : List Nd) (a : Option Addr) (c : Nat) (S : Nat → Prop) (w : World)
    (hs : rowSits S w l a) (hsl : s.length ≤ 9223372036854775807) (hll : l.length ≤ 9223372036854775807) (hrw : rowWf l) (hb : ∀ t ∈ l, Tests S 12 Nd.isBlock t) :
    Calls Tryd.prog 34 #[.agg #[.int .u8 52, .int .i64 n, str s, .slice a l.length c]] w fun e w' => e = .returned (.bool (Nd.mk 52 n s l).isStmt) ∧ Ext w w' := by
  have HEX : Hid (∀ t ∈ l, Tests S 9 Nd.isExpr t) := Lib.hid fun t ht => IsExpr_t S t (rowWf_get hrw t ht)
  have HPL : Hid (∀ t ∈ l, Tests S 50 Nd.isPlace t) := Lib.hid fun t ht => IsPlace_t S t (rowWf_get hrw t ht)
  have HVA : Hid (∀ t ∈ l, Tests S 51 Nd.isVar t) := Lib.hid fun t ht => isVar_t S t (rowWf_get hrw t ht)
  have HBL := Lib.hid hb; clear hb
  have HSL := Lib.hid hsl; clear hsl hrw
  have hr := isStmt_52 n s l
  have HR := Lib.hid hr; clear hr
  cases hnm : plain n s
  all_goals have HNM := Lib.hid hnm; clear hnm
  all_goals go_enter Tryd.func34, Tryd.ntmps34
  all_goals go_wp2_with (first | (go_at_call 26; refine (plain_c _ _ _ _ _ _ _).mono ?_; rintro e w1 ⟨rfl, hx1⟩; have hc1 := hx1.cells; rw [HNM.out]) | (go_at_call 25; refine (kids_c _ _ _ l a c [(9, Nd.isExpr), (12, Nd.isBlock), (12, Nd.isBlock), (9, Nd.isExpr)] _ _ S _ hll (by decide) (hs.ext (by repeat (first | exact Ext.refl _ | assumption | refine Ext.alloc ?_ _ | refine Ext.drew ?_ | refine Ext.trans ?_ (by assumption)))) (get4 (by go_simp) (by go_simp) (by go_simp) (by go_simp)) (mem4 en_IsExpr en_IsBlock en_IsBlock en_IsExpr) (mem4 HEX.out HBL.out HBL.out HEX.out)).mono ?_; rintro e w2 ⟨rfl, hx2⟩))
  all_goals go_ret
  all_goals rw [HR.out, HNM.out]
  all_goals exact ⟨ret_bool (by simp), (by repeat (first | exact Ext.refl _ | assumption | refine Ext.alloc ?_ _ | refine Ext.drew ?_ | refine Ext.trans ?_ (by assumption)))⟩

theorem isStmt_53 (n : Int) (s : List UInt8) (l : List Nd) : (Nd.mk 53 n s l).isStmt = (plain n s && kidsOk l [(9, Nd.isExpr), (12, Nd.isBlock), (12, Nd.isBlock), (9, Nd.isExpr)]) := by
  rcases l with _ | ⟨x, _ | ⟨y, _ | ⟨z, _ | ⟨u, _ | ⟨v, l⟩⟩⟩⟩⟩ <;> rw [Nd.isStmt.eq_def] <;> simp [kidsOk, Bool.and_assoc]
theorem IsStmt_53 (n : Int) (s : List UInt8) (l : List Nd) (a : Option Addr) (c : Nat) (S : Nat → Prop) (w : World)
    (hs : rowSits S w l a) (hsl : s.length ≤ 9223372036854775807) (hll : l.length ≤ 9223372036854775807) (hrw : rowWf l) (hb : ∀ t ∈ l, Tests S 12 Nd.isBlock t) :
    Calls Tryd.prog 34 #[.agg #[.int .u8 53, .int .i64 n, str s, .slice a l.length c]] w fun e w' => e = .returned (.bool (Nd.mk 53 n s l).isStmt) ∧ Ext w w' := by
  have HEX : Hid (∀ t ∈ l, Tests S 9 Nd.isExpr t) := Lib.hid fun t ht => IsExpr_t S t (rowWf_get hrw t ht)
  have HPL : Hid (∀ t ∈ l, Tests S 50 Nd.isPlace t) := Lib.hid fun t ht => IsPlace_t S t (rowWf_get hrw t ht)
  have HVA : Hid (∀ t ∈ l, Tests S 51 Nd.isVar t) := Lib.hid fun t ht => isVar_t S t (rowWf_get hrw t ht)
  have HBL := Lib.hid hb; clear hb
  have HSL := Lib.hid hsl; clear hsl hrw
  have hr := isStmt_53 n s l
  have HR := Lib.hid hr; clear hr
  cases hnm : plain n s
  all_goals have HNM := Lib.hid hnm; clear hnm
  all_goals go_enter Tryd.func34, Tryd.ntmps34
  all_goals go_wp2_with (first | (go_at_call 26; refine (plain_c _ _ _ _ _ _ _).mono ?_; rintro e w1 ⟨rfl, hx1⟩; have hc1 := hx1.cells; rw [HNM.out]) | (go_at_call 25; refine (kids_c _ _ _ l a c [(9, Nd.isExpr), (12, Nd.isBlock), (12, Nd.isBlock), (9, Nd.isExpr)] _ _ S _ hll (by decide) (hs.ext (by repeat (first | exact Ext.refl _ | assumption | refine Ext.alloc ?_ _ | refine Ext.drew ?_ | refine Ext.trans ?_ (by assumption)))) (get4 (by go_simp) (by go_simp) (by go_simp) (by go_simp)) (mem4 en_IsExpr en_IsBlock en_IsBlock en_IsExpr) (mem4 HEX.out HBL.out HBL.out HEX.out)).mono ?_; rintro e w2 ⟨rfl, hx2⟩))
  all_goals go_ret
  all_goals rw [HR.out, HNM.out]
  all_goals exact ⟨ret_bool (by simp), (by repeat (first | exact Ext.refl _ | assumption | refine Ext.alloc ?_ _ | refine Ext.drew ?_ | refine Ext.trans ?_ (by assumption)))⟩

theorem isStmt_54 (n : Int) (s : List UInt8) (l : List Nd) : (Nd.mk 54 n s l).isStmt = (named n s && kidsOk l [(9, Nd.isExpr), (12, Nd.isBlock), (9, Nd.isExpr)]) := by
  rcases l with _ | ⟨x, _ | ⟨y, _ | ⟨z, _ | ⟨u, _ | ⟨v, l⟩⟩⟩⟩⟩ <;> rw [Nd.isStmt.eq_def] <;> simp [kidsOk, Bool.and_assoc]
theorem IsStmt_54 (n : Int) (s : List UInt8) (l : List Nd) (a : Option Addr) (c : Nat) (S : Nat → Prop) (w : World)
    (hs : rowSits S w l a) (hsl : s.length ≤ 9223372036854775807) (hll : l.length ≤ 9223372036854775807) (hrw : rowWf l) (hb : ∀ t ∈ l, Tests S 12 Nd.isBlock t) :
    Calls Tryd.prog 34 #[.agg #[.int .u8 54, .int .i64 n, str s, .slice a l.length c]] w fun e w' => e = .returned (.bool (Nd.mk 54 n s l).isStmt) ∧ Ext w w' := by
  have HEX : Hid (∀ t ∈ l, Tests S 9 Nd.isExpr t) := Lib.hid fun t ht => IsExpr_t S t (rowWf_get hrw t ht)
  have HPL : Hid (∀ t ∈ l, Tests S 50 Nd.isPlace t) := Lib.hid fun t ht => IsPlace_t S t (rowWf_get hrw t ht)
  have HVA : Hid (∀ t ∈ l, Tests S 51 Nd.isVar t) := Lib.hid fun t ht => isVar_t S t (rowWf_get hrw t ht)
  have HBL := Lib.hid hb; clear hb
  have HSL := Lib.hid hsl; clear hsl hrw
  have hr := isStmt_54 n s l
  have HR := Lib.hid hr; clear hr
  cases hnm : named n s
  all_goals have HNM := Lib.hid hnm; clear hnm
  all_goals go_enter Tryd.func34, Tryd.ntmps34
  all_goals go_wp2_with (first | (go_at_call 24; refine (named_c _ _ _ _ _ _ _ HSL.out).mono ?_; rintro e w1 ⟨rfl, hx1⟩; have hc1 := hx1.cells; rw [HNM.out]) | (go_at_call 25; refine (kids_c _ _ _ l a c [(9, Nd.isExpr), (12, Nd.isBlock), (9, Nd.isExpr)] _ _ S _ hll (by decide) (hs.ext (by repeat (first | exact Ext.refl _ | assumption | refine Ext.alloc ?_ _ | refine Ext.drew ?_ | refine Ext.trans ?_ (by assumption)))) (get3 (by go_simp) (by go_simp) (by go_simp)) (mem3 en_IsExpr en_IsBlock en_IsExpr) (mem3 HEX.out HBL.out HEX.out)).mono ?_; rintro e w2 ⟨rfl, hx2⟩))
  all_goals go_ret
  all_goals rw [HR.out, HNM.out]
  all_goals exact ⟨ret_bool (by simp), (by repeat (first | exact Ext.refl _ | assumption | refine Ext.alloc ?_ _ | refine Ext.drew ?_ | refine Ext.trans ?_ (by assumption)))⟩

theorem isStmt_55 (n : Int) (s : List UInt8) (l : List Nd) : (Nd.mk 55 n s l).isStmt = (named n s && kidsOk l [(12, Nd.isBlock)]) := by
  rcases l with _ | ⟨x, _ | ⟨y, _ | ⟨z, _ | ⟨u, _ | ⟨v, l⟩⟩⟩⟩⟩ <;> rw [Nd.isStmt.eq_def] <;> simp [kidsOk, Bool.and_assoc]
theorem IsStmt_55 (n : Int) (s : List UInt8) (l : List Nd) (a : Option Addr) (c : Nat) (S : Nat → Prop) (w : World)
    (hs : rowSits S w l a) (hsl : s.length ≤ 9223372036854775807) (hll : l.length ≤ 9223372036854775807) (hrw : rowWf l) (hb : ∀ t ∈ l, Tests S 12 Nd.isBlock t) :
    Calls Tryd.prog 34 #[.agg #[.int .u8 55, .int .i64 n, str s, .slice a l.length c]] w fun e w' => e = .returned (.bool (Nd.mk 55 n s l).isStmt) ∧ Ext w w' := by
  have HEX : Hid (∀ t ∈ l, Tests S 9 Nd.isExpr t) := Lib.hid fun t ht => IsExpr_t S t (rowWf_get hrw t ht)
  have HPL : Hid (∀ t ∈ l, Tests S 50 Nd.isPlace t) := Lib.hid fun t ht => IsPlace_t S t (rowWf_get hrw t ht)
  have HVA : Hid (∀ t ∈ l, Tests S 51 Nd.isVar t) := Lib.hid fun t ht => isVar_t S t (rowWf_get hrw t ht)
  have HBL := Lib.hid hb; clear hb
  have HSL := Lib.hid hsl; clear hsl hrw
  have hr := isStmt_55 n s l
  have HR := Lib.hid hr; clear hr
  cases hnm : named n s
  all_goals have HNM := Lib.hid hnm; clear hnm
  all_goals go_enter Tryd.func34, Tryd.ntmps34
  all_goals go_wp2_with (first | (go_at_call 24; refine (named_c _ _ _ _ _ _ _ HSL.out).mono ?_; rintro e w1 ⟨rfl, hx1⟩; have hc1 := hx1.cells; rw [HNM.out]) | (go_at_call 25; refine (kids_c _ _ _ l a c [(12, Nd.isBlock)] _ _ S _ hll (by decide) (hs.ext (by repeat (first | exact Ext.refl _ | assumption | refine Ext.alloc ?_ _ | refine Ext.drew ?_ | refine Ext.trans ?_ (by assumption)))) (get1 (by go_simp)) (mem1 en_IsBlock) (mem1 HBL.out)).mono ?_; rintro e w2 ⟨rfl, hx2⟩))
  all_goals go_ret
  all_goals rw [HR.out, HNM.out]
  all_goals exact ⟨ret_bool (by simp), (by repeat (first | exact Ext.refl _ | assumption | refine Ext.alloc ?_ _ | refine Ext.drew ?_ | refine Ext.trans ?_ (by assumption)))⟩

theorem isStmt_50 (n : Int) (s : List UInt8) (l : List Nd) : (Nd.mk 50 n s l).isStmt = (named n s && decide (l.length ≤ 8) && l.all Nd.isVar) := by
  rw [Nd.isStmt.eq_def]; simp
theorem IsStmt_50 (n : Int) (s : List UInt8) (l : List Nd) (a : Option Addr) (c : Nat) (S : Nat → Prop) (w : World)
    (hs : rowSits S w l a) (hsl : s.length ≤ 9223372036854775807) (hll : l.length ≤ 9223372036854775807) (hrw : rowWf l) (hb : ∀ t ∈ l, Tests S 12 Nd.isBlock t) :
    Calls Tryd.prog 34 #[.agg #[.int .u8 50, .int .i64 n, str s, .slice a l.length c]] w fun e w' => e = .returned (.bool (Nd.mk 50 n s l).isStmt) ∧ Ext w w' := by
  have HEX : Hid (∀ t ∈ l, Tests S 9 Nd.isExpr t) := Lib.hid fun t ht => IsExpr_t S t (rowWf_get hrw t ht)
  have HPL : Hid (∀ t ∈ l, Tests S 50 Nd.isPlace t) := Lib.hid fun t ht => IsPlace_t S t (rowWf_get hrw t ht)
  have HVA : Hid (∀ t ∈ l, Tests S 51 Nd.isVar t) := Lib.hid fun t ht => isVar_t S t (rowWf_get hrw t ht)
  have HBL := Lib.hid hb; clear hb
  have HSL := Lib.hid hsl; clear hsl hrw
  have hr := isStmt_50 n s l
  have HR := Lib.hid hr; clear hr
  cases hnm : named n s
  · have HNM := Lib.hid hnm; clear hnm
    go_enter Tryd.func34, Tryd.ntmps34
    go_wp2_with (first | (go_at_call 24; refine (named_c _ _ _ _ _ _ _ HSL.out).mono ?_; rintro e w1 ⟨rfl, hx1⟩; have hc1 := hx1.cells; rw [HNM.out]))
    go_ret
    rw [HR.out, HNM.out]
    exact ⟨ret_bool (by simp), (by repeat (first | exact Ext.refl _ | assumption | refine Ext.alloc ?_ _ | refine Ext.drew ?_ | refine Ext.trans ?_ (by assumption)))⟩
  · have HNM := Lib.hid hnm; clear hnm
    by_cases h8 : l.length ≤ 8
    · have d8 : decide ((l.length : Int) ≤ 8) = true := by simp; omega
      have H8 := Lib.hid h8; clear h8
      go_enter Tryd.func34, Tryd.ntmps34
      go_wp2_with (first | (go_at_call 24; refine (named_c _ _ _ _ _ _ _ HSL.out).mono ?_; rintro e w1 ⟨rfl, hx1⟩; have hc1 := hx1.cells; rw [HNM.out]) | (go_at_call 33; refine (every_c 51 Nd.isVar en_isVar l a c S _ hll (hs.ext (by repeat (first | exact Ext.refl _ | assumption | refine Ext.alloc ?_ _ | refine Ext.drew ?_ | refine Ext.trans ?_ (by assumption)))) HVA.out).mono ?_; rintro e w2 ⟨rfl, hx2⟩))
      go_ret
      rw [HR.out, HNM.out]
      exact ⟨ret_bool (by simp [H8.out]), (by repeat (first | exact Ext.refl _ | assumption | refine Ext.alloc ?_ _ | refine Ext.drew ?_ | refine Ext.trans ?_ (by assumption)))⟩
    · have d8 : decide ((l.length : Int) ≤ 8) = false := by simp; omega
      have H8 := Lib.hid h8; clear h8
      go_enter Tryd.func34, Tryd.ntmps34
      go_wp2_with (first | (go_at_call 24; refine (named_c _ _ _ _ _ _ _ HSL.out).mono ?_; rintro e w1 ⟨rfl, hx1⟩; have hc1 := hx1.cells; rw [HNM.out]))
      go_ret
      rw [HR.out, HNM.out]
      exact ⟨ret_bool (by simp [H8.out]), (by repeat (first | exact Ext.refl _ | assumption | refine Ext.alloc ?_ _ | refine Ext.drew ?_ | refine Ext.trans ?_ (by assumption)))⟩

theorem isStmt_51 (n : Int) (s : List UInt8) (l : List Nd) : (Nd.mk 51 n s l).isStmt = (named n s && decide (l.length ≤ 8) && l.all Nd.isVar) := by
  rw [Nd.isStmt.eq_def]; simp
theorem IsStmt_51 (n : Int) (s : List UInt8) (l : List Nd) (a : Option Addr) (c : Nat) (S : Nat → Prop) (w : World)
    (hs : rowSits S w l a) (hsl : s.length ≤ 9223372036854775807) (hll : l.length ≤ 9223372036854775807) (hrw : rowWf l) (hb : ∀ t ∈ l, Tests S 12 Nd.isBlock t) :
    Calls Tryd.prog 34 #[.agg #[.int .u8 51, .int .i64 n, str s, .slice a l.length c]] w fun e w' => e = .returned (.bool (Nd.mk 51 n s l).isStmt) ∧ Ext w w' := by
  have HEX : Hid (∀ t ∈ l, Tests S 9 Nd.isExpr t) := Lib.hid fun t ht => IsExpr_t S t (rowWf_get hrw t ht)
  have HPL : Hid (∀ t ∈ l, Tests S 50 Nd.isPlace t) := Lib.hid fun t ht => IsPlace_t S t (rowWf_get hrw t ht)
  have HVA : Hid (∀ t ∈ l, Tests S 51 Nd.isVar t) := Lib.hid fun t ht => isVar_t S t (rowWf_get hrw t ht)
  have HBL := Lib.hid hb; clear hb
  have HSL := Lib.hid hsl; clear hsl hrw
  have hr := isStmt_51 n s l
  have HR := Lib.hid hr; clear hr
  cases hnm : named n s
  · have HNM := Lib.hid hnm; clear hnm
    go_enter Tryd.func34, Tryd.ntmps34
    go_wp2_with (first | (go_at_call 24; refine (named_c _ _ _ _ _ _ _ HSL.out).mono ?_; rintro e w1 ⟨rfl, hx1⟩; have hc1 := hx1.cells; rw [HNM.out]))
    go_ret
    rw [HR.out, HNM.out]
    exact ⟨ret_bool (by simp), (by repeat (first | exact Ext.refl _ | assumption | refine Ext.alloc ?_ _ | refine Ext.drew ?_ | refine Ext.trans ?_ (by assumption)))⟩
  · have HNM := Lib.hid hnm; clear hnm
    by_cases h8 : l.length ≤ 8
    · have d8 : decide ((l.length : Int) ≤ 8) = true := by simp; omega
      have H8 := Lib.hid h8; clear h8
      go_enter Tryd.func34, Tryd.ntmps34
      go_wp2_with (first | (go_at_call 24; refine (named_c _ _ _ _ _ _ _ HSL.out).mono ?_; rintro e w1 ⟨rfl, hx1⟩; have hc1 := hx1.cells; rw [HNM.out]) | (go_at_call 33; refine (every_c 51 Nd.isVar en_isVar l a c S _ hll (hs.ext (by repeat (first | exact Ext.refl _ | assumption | refine Ext.alloc ?_ _ | refine Ext.drew ?_ | refine Ext.trans ?_ (by assumption)))) HVA.out).mono ?_; rintro e w2 ⟨rfl, hx2⟩))
      go_ret
      rw [HR.out, HNM.out]
      exact ⟨ret_bool (by simp [H8.out]), (by repeat (first | exact Ext.refl _ | assumption | refine Ext.alloc ?_ _ | refine Ext.drew ?_ | refine Ext.trans ?_ (by assumption)))⟩
    · have d8 : decide ((l.length : Int) ≤ 8) = false := by simp; omega
      have H8 := Lib.hid h8; clear h8
      go_enter Tryd.func34, Tryd.ntmps34
      go_wp2_with (first | (go_at_call 24; refine (named_c _ _ _ _ _ _ _ HSL.out).mono ?_; rintro e w1 ⟨rfl, hx1⟩; have hc1 := hx1.cells; rw [HNM.out]))
      go_ret
      rw [HR.out, HNM.out]
      exact ⟨ret_bool (by simp [H8.out]), (by repeat (first | exact Ext.refl _ | assumption | refine Ext.alloc ?_ _ | refine Ext.drew ?_ | refine Ext.trans ?_ (by assumption)))⟩

theorem isStmt_else (k n : Int) (s : List UInt8) (l : List Nd) (h : k < 40 ∨ 56 < k) : (Nd.mk k n s l).isStmt = false := by
  rw [Nd.isStmt.eq_def]
  simp only []
  rw [if_neg (by omega), if_neg (by omega), if_neg (by omega), if_neg (by omega), if_neg (by omega), if_neg (by omega), if_neg (by omega), if_neg (by omega)]
theorem IsStmt_else (k n : Int) (s : List UInt8) (l : List Nd) (a : Option Addr) (c : Nat) (w : World) (h : k < 40 ∨ 56 < k) :
    Calls Tryd.prog 34 #[.agg #[.int .u8 k, .int .i64 n, str s, .slice a l.length c]] w fun e w' => e = .returned (.bool (Nd.mk k n s l).isStmt) ∧ Ext w w' := by
  have hr := isStmt_else k n s l h
  have HR := Lib.hid hr; clear hr
  have d40 : (k == 40) = false := by rw [beq_eq_false_iff_ne]; omega
  have d41 : (k == 41) = false := by rw [beq_eq_false_iff_ne]; omega
  have d42 : (k == 42) = false := by rw [beq_eq_false_iff_ne]; omega
  have d43 : (k == 43) = false := by rw [beq_eq_false_iff_ne]; omega
  have d44 : (k == 44) = false := by rw [beq_eq_false_iff_ne]; omega
  have d45 : (k == 45) = false := by rw [beq_eq_false_iff_ne]; omega
  have d46 : (k == 46) = false := by rw [beq_eq_false_iff_ne]; omega
  have d47 : (k == 47) = false := by rw [beq_eq_false_iff_ne]; omega
  have d48 : (k == 48) = false := by rw [beq_eq_false_iff_ne]; omega
  have d49 : (k == 49) = false := by rw [beq_eq_false_iff_ne]; omega
  have d50 : (k == 50) = false := by rw [beq_eq_false_iff_ne]; omega
  have d51 : (k == 51) = false := by rw [beq_eq_false_iff_ne]; omega
  have d52 : (k == 52) = false := by rw [beq_eq_false_iff_ne]; omega
  have d53 : (k == 53) = false := by rw [beq_eq_false_iff_ne]; omega
  have d54 : (k == 54) = false := by rw [beq_eq_false_iff_ne]; omega
  have d55 : (k == 55) = false := by rw [beq_eq_false_iff_ne]; omega
  have d56 : (k == 56) = false := by rw [beq_eq_false_iff_ne]; omega
  clear h
  go_enter Tryd.func34, Tryd.ntmps34
  go_wp2_with fail
  go_ret
  rw [HR.out]
  exact ⟨rfl, (by repeat (first | exact Ext.refl _ | assumption | refine Ext.alloc ?_ _ | refine Ext.drew ?_ | refine Ext.trans ?_ (by assumption)))⟩
theorem IsStmt_any (k n : Int) (s : List UInt8) (l : List Nd) (a : Option Addr) (c : Nat) (S : Nat → Prop) (w : World)
    (hs : rowSits S w l a) (hsl : s.length ≤ 9223372036854775807) (hll : l.length ≤ 9223372036854775807) (hrw : rowWf l) (hb : ∀ t ∈ l, Tests S 12 Nd.isBlock t) :
    Calls Tryd.prog 34 #[.agg #[.int .u8 k, .int .i64 n, str s, .slice a l.length c]] w fun e w' => e = .returned (.bool (Nd.mk k n s l).isStmt) ∧ Ext w w' := by
  by_cases h : k < 40 ∨ 56 < k
  · exact IsStmt_else k n s l a c w h
  by_cases h40 : k = 40
  · subst h40; exact IsStmt_40 n s l a c S w hs hsl hll hrw hb
  by_cases h41 : k = 41
  · subst h41; exact IsStmt_41 n s l a c S w hs hsl hll hrw hb
  by_cases h42 : k = 42
  · subst h42; exact IsStmt_42 n s l a c S w hs hsl hll hrw hb
  by_cases h43 : k = 43
  · subst h43; exact IsStmt_43 n s l a c S w hs hsl hll hrw hb
  by_cases h44 : k = 44
  · subst h44; exact IsStmt_44 n s l a c S w hs hsl hll hrw hb
  by_cases h45 : k = 45
  · subst h45; exact IsStmt_45 n s l a c S w hs hsl hll hrw hb
  by_cases h46 : k = 46
  · subst h46; exact IsStmt_46 n s l a c S w hs hsl hll hrw hb
  by_cases h47 : k = 47
  · subst h47; exact IsStmt_47 n s l a c S w hs hsl hll hrw hb
  by_cases h48 : k = 48
  · subst h48; exact IsStmt_48 n s l a c S w hs hsl hll hrw hb
  by_cases h49 : k = 49
  · subst h49; exact IsStmt_49 n s l a c S w hs hsl hll hrw hb
  by_cases h50 : k = 50
  · subst h50; exact IsStmt_50 n s l a c S w hs hsl hll hrw hb
  by_cases h51 : k = 51
  · subst h51; exact IsStmt_51 n s l a c S w hs hsl hll hrw hb
  by_cases h52 : k = 52
  · subst h52; exact IsStmt_52 n s l a c S w hs hsl hll hrw hb
  by_cases h53 : k = 53
  · subst h53; exact IsStmt_53 n s l a c S w hs hsl hll hrw hb
  by_cases h54 : k = 54
  · subst h54; exact IsStmt_54 n s l a c S w hs hsl hll hrw hb
  by_cases h55 : k = 55
  · subst h55; exact IsStmt_55 n s l a c S w hs hsl hll hrw hb
  by_cases h56 : k = 56
  · subst h56; exact IsStmt_56 n s l a c S w hs hsl hll hrw hb
  omega
theorem IsBlock_any (k n : Int) (s : List UInt8) (l : List Nd) (a : Option Addr) (c : Nat) (S : Nat → Prop) (w : World)
    (hs : rowSits S w l a) (hll : l.length ≤ 9223372036854775807) (ht : ∀ t ∈ l, Tests S 34 Nd.isStmt t) :
    Calls Tryd.prog 12 #[.agg #[.int .u8 k, .int .i64 n, str s, .slice a l.length c]] w fun e w' => e = .returned (.bool (Nd.mk k n s l).isBlock) ∧ Ext w w' := by
  have hall : ∀ r : List Nd, rowStmt r = r.all Nd.isStmt := by
    intro r
    induction r with
    | nil => rfl
    | cons x r ih => simp [rowStmt, ih]
  have hr : (Nd.mk k n s l).isBlock = (k == 57 && plain n s && l.all Nd.isStmt) := by rw [Nd.isBlock, hall]
  have HR := Lib.hid hr; clear hr hall
  have HT := Lib.hid ht; clear ht
  by_cases h57 : k = 57
  · subst h57
    cases hnm : plain n s
    all_goals have HNM := Lib.hid hnm; clear hnm
    all_goals go_enter Tryd.func12, Tryd.ntmps12
    all_goals go_wp2_with (first | (go_at_call 26; refine (plain_c _ _ _ _ _ _ _).mono ?_; rintro e w1 ⟨rfl, hx1⟩; have hc1 := hx1.cells; rw [HNM.out]) | (go_at_call 33; refine (every_c 34 Nd.isStmt en_IsStmt l a c S _ hll (hs.ext (by repeat (first | exact Ext.refl _ | assumption | refine Ext.alloc ?_ _ | refine Ext.drew ?_ | refine Ext.trans ?_ (by assumption)))) HT.out).mono ?_; rintro e w2 ⟨rfl, hx2⟩))
    all_goals go_ret
    all_goals rw [HR.out, HNM.out]
    all_goals exact ⟨ret_bool (by simp), (by repeat (first | exact Ext.refl _ | assumption | refine Ext.alloc ?_ _ | refine Ext.drew ?_ | refine Ext.trans ?_ (by assumption)))⟩
  · have d57 : (k == 57) = false := by rw [beq_eq_false_iff_ne]; omega
    clear h57
    go_enter Tryd.func12, Tryd.ntmps12
    go_wp2_with fail
    go_ret
    rw [HR.out]
    exact ⟨ret_bool (by simp [d57]), (by repeat (first | exact Ext.refl _ | assumption | refine Ext.alloc ?_ _ | refine Ext.drew ?_ | refine Ext.trans ?_ (by assumption)))⟩
theorem IsStmtBlock_c (S : Nat → Prop) (N : Nat) : (∀ t : Nd, t.size < N → t.wf → Tests S 34 Nd.isStmt t) ∧ (∀ t : Nd, t.size < N → t.wf → Tests S 12 Nd.isBlock t) := by
  induction N with
  | zero => exact ⟨fun t h => absurd h (Nat.not_lt_zero _), fun t h => absurd h (Nat.not_lt_zero _)⟩
  | succ N ih =>
    refine ⟨?_, ?_⟩
    · rintro ⟨k, n, s, l⟩ hN hwf a c w hs
      simp only [Nd.wf, Nd.size, Nd.sits] at *
      exact IsStmt_any k n s l a c S w hs hwf.2.2.2.2.1 hwf.2.2.2.2.2.1 hwf.2.2.2.2.2.2 (fun t ht => ih.2 t (by have := size_mem ht; omega) (rowWf_get hwf.2.2.2.2.2.2 t ht))
    · rintro ⟨k, n, s, l⟩ hN hwf a c w hs
      simp only [Nd.wf, Nd.size, Nd.sits] at *
      exact IsBlock_any k n s l a c S w hs hwf.2.2.2.2.2.1 (fun t ht => ih.1 t (by have := size_mem ht; omega) (rowWf_get hwf.2.2.2.2.2.2 t ht))
theorem IsStmt_t (S : Nat → Prop) (t : Nd) (h : t.wf) : Tests S 34 Nd.isStmt t := (IsStmtBlock_c S (t.size + 1)).1 t (by omega) h
theorem IsBlock_t (S : Nat → Prop) (t : Nd) (h : t.wf) : Tests S 12 Nd.isBlock t := (IsStmtBlock_c S (t.size + 1)).2 t (by omega) h
end Bk
