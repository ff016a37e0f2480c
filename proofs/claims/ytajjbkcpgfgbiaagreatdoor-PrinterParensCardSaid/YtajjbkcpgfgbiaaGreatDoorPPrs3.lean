/- Texts that the proofs of PrinterParens need. No condition. (Part 3 of 5.) -/
import Derived.Test.YtajjbkcpgfgbiaaGreatDoorPPrs2
set_option linter.unusedSimpArgs false
set_option linter.unusedVariables false
namespace Bk
open Go Go.RowKit Go.Proofs
theorem en_IsPlace : Enters 63 := enters_of Tryz.func63 (by kernel_rfl) rfl
theorem en_isVar : Enters 64 := enters_of Tryz.func64 (by kernel_rfl) rfl
theorem en_IsStmt : Enters 37 := enters_of Tryz.func37 (by kernel_rfl) rfl
theorem en_IsBlock : Enters 14 := enters_of Tryz.func14 (by kernel_rfl) rfl
theorem IsExpr_t (S : Nat → Prop) (t : Nd) (h : t.wf) : Tests S 10 Nd.isExpr t := IsExpr_c S (t.size + 1) t (by omega) h
theorem IsPlace_t (S : Nat → Prop) (t : Nd) (h : t.wf) : Tests S 63 Nd.isPlace t := by
 have HE := Lib.hid (IsExpr_t S t h); intro a c w hs; obtain ⟨k, n, s, l⟩ := t; have hr : (Nd.mk k n s l).isPlace = ((k == 2 || k == 3) && (Nd.mk k n s l).isExpr) := rfl
 have HR := Lib.hid hr; clear hr
 have HSI := Lib.hid hs; clear hs h
 simp only [Nd.kind, Nd.num, Nd.name, Nd.kids, Nd.val]
 by_cases h2 : k = 2 ∨ k = 3
 · rcases h2 with rfl | rfl
   all_goals go_enter Tryz.func63, Tryz.ntmps63
   all_goals go_wp2_with (go_at_call 10; refine (HE.out a c _ (HSI.out.ext (by repeat (first | exact Ext.refl _ | assumption | refine Ext.alloc ?_ _ | refine Ext.drew ?_ | refine Ext.trans ?_ (by assumption))))).mono ?_; rintro e w1 ⟨rfl, hx1⟩)
   all_goals go_ret
   all_goals rw [HR.out]
   all_goals exact ⟨ret_bool (by simp), (by repeat (first | exact Ext.refl _ | assumption | refine Ext.alloc ?_ _ | refine Ext.drew ?_ | refine Ext.trans ?_ (by assumption)))⟩
 · have d2 : (k == 2) = false := by rw [beq_eq_false_iff_ne]; omega
   have d3 : (k == 3) = false := by rw [beq_eq_false_iff_ne]; omega
   clear h2
   go_enter Tryz.func63, Tryz.ntmps63
   go_wp2_with fail
   go_ret
   rw [HR.out]
   exact ⟨ret_bool (by simp [d2, d3]), (by refine Ext.alloc ?_ _; exact Ext.refl _)⟩
theorem isVar_t (S : Nat → Prop) (t : Nd) (h : t.wf) : Tests S 64 Nd.isVar t := by
 have HE := Lib.hid (IsExpr_t S t h); intro a c w hs; obtain ⟨k, n, s, l⟩ := t; have hr : (Nd.mk k n s l).isVar = (k == 2 && (Nd.mk k n s l).isExpr) := rfl
 have HR := Lib.hid hr; clear hr
 have HSI := Lib.hid hs; clear hs h
 simp only [Nd.kind, Nd.num, Nd.name, Nd.kids, Nd.val]
 by_cases h2 : k = 2
 · subst h2
   go_enter Tryz.func64, Tryz.ntmps64
   go_wp2_with (go_at_call 10; refine (HE.out a c _ (HSI.out.ext (by refine Ext.alloc ?_ _; exact Ext.refl _))).mono ?_; rintro e w1 ⟨rfl, hx1⟩)
   go_ret
   rw [HR.out]
   exact ⟨ret_bool (by simp), (by refine Ext.trans ?_ (by assumption); refine Ext.alloc ?_ _; exact Ext.refl _)⟩
 · have d2 : (k == 2) = false := by rw [beq_eq_false_iff_ne]; omega
   clear h2
   go_enter Tryz.func64, Tryz.ntmps64
   go_wp2_with fail
   go_ret
   rw [HR.out]
   exact ⟨ret_bool (by simp [d2]), (by refine Ext.alloc ?_ _; exact Ext.refl _)⟩
theorem isStmt_40 (n : Int) (s : List UInt8) (l : List Nd) : (Nd.mk 40 n s l).isStmt = (plain n s && kidsOk l [(63, Nd.isPlace), (10, Nd.isExpr)]) := by
 rcases l with _ | ⟨x, _ | ⟨y, _ | ⟨z, _ | ⟨u, _ | ⟨v, l⟩⟩⟩⟩⟩ <;> rw [Nd.isStmt.eq_def] <;> simp [kidsOk, Bool.and_assoc]
theorem IsStmt_40 (n : Int) (s : List UInt8) (l : List Nd) (a : Option Addr) (c : Nat) (S : Nat → Prop) (w : World)
 (hs : rowSits S w l a) (hsl : s.length ≤ 9223372036854775807) (hll : l.length ≤ 9223372036854775807) (hrw : rowWf l) (hb : ∀ t ∈ l, Tests S 14 Nd.isBlock t) :
 Calls Tryz.prog 37 #[.agg #[.int .u8 40, .int .i64 n, str s, .slice a l.length c]] w fun e w' => e = .returned (.bool (Nd.mk 40 n s l).isStmt) ∧ Ext w w' := by
 have HEX : Hid (∀ t ∈ l, Tests S 10 Nd.isExpr t) := Lib.hid fun t ht => IsExpr_t S t (rowWf_get hrw t ht)
 have HPL : Hid (∀ t ∈ l, Tests S 63 Nd.isPlace t) := Lib.hid fun t ht => IsPlace_t S t (rowWf_get hrw t ht)
 have HVA : Hid (∀ t ∈ l, Tests S 64 Nd.isVar t) := Lib.hid fun t ht => isVar_t S t (rowWf_get hrw t ht)
 have HBL := Lib.hid hb; clear hb
 have HSL := Lib.hid hsl; clear hsl hrw
 have hr := isStmt_40 n s l
 have HR := Lib.hid hr; clear hr
 cases hnm : plain n s
 all_goals have HNM := Lib.hid hnm; clear hnm
 all_goals go_enter Tryz.func37, Tryz.ntmps37
 all_goals go_wp2_with (first | (go_at_call 28; refine (plain_c _ _ _ _ _ _ _).mono ?_; rintro e w1 ⟨rfl, hx1⟩; have hc1 := hx1.cells; rw [HNM.out]) | (go_at_call 27; refine (kids_c _ _ _ l a c [(63, Nd.isPlace), (10, Nd.isExpr)] _ _ S _ hll (by decide) (hs.ext (by refine Ext.alloc ?_ _; refine Ext.trans ?_ (by assumption); refine Ext.alloc ?_ _; exact Ext.refl _)) (get2 (by go_simp) (by go_simp)) (mem2 en_IsPlace en_IsExpr) (mem2 HPL.out HEX.out)).mono ?_; rintro e w2 ⟨rfl, hx2⟩))
 all_goals go_ret
 all_goals rw [HR.out, HNM.out]
 all_goals exact ⟨ret_bool (by simp), (by repeat (first | exact Ext.refl _ | assumption | refine Ext.alloc ?_ _ | refine Ext.drew ?_ | refine Ext.trans ?_ (by assumption)))⟩
theorem isStmt_41 (n : Int) (s : List UInt8) (l : List Nd) : (Nd.mk 41 n s l).isStmt = (plain n s && kidsOk l [(63, Nd.isPlace), (10, Nd.isExpr)]) := by
 rcases l with _ | ⟨x, _ | ⟨y, _ | ⟨z, _ | ⟨u, _ | ⟨v, l⟩⟩⟩⟩⟩ <;> rw [Nd.isStmt.eq_def] <;> simp [kidsOk, Bool.and_assoc]
theorem IsStmt_41 (n : Int) (s : List UInt8) (l : List Nd) (a : Option Addr) (c : Nat) (S : Nat → Prop) (w : World)
 (hs : rowSits S w l a) (hsl : s.length ≤ 9223372036854775807) (hll : l.length ≤ 9223372036854775807) (hrw : rowWf l) (hb : ∀ t ∈ l, Tests S 14 Nd.isBlock t) :
 Calls Tryz.prog 37 #[.agg #[.int .u8 41, .int .i64 n, str s, .slice a l.length c]] w fun e w' => e = .returned (.bool (Nd.mk 41 n s l).isStmt) ∧ Ext w w' := by
 have HEX : Hid (∀ t ∈ l, Tests S 10 Nd.isExpr t) := Lib.hid fun t ht => IsExpr_t S t (rowWf_get hrw t ht)
 have HPL : Hid (∀ t ∈ l, Tests S 63 Nd.isPlace t) := Lib.hid fun t ht => IsPlace_t S t (rowWf_get hrw t ht)
 have HVA : Hid (∀ t ∈ l, Tests S 64 Nd.isVar t) := Lib.hid fun t ht => isVar_t S t (rowWf_get hrw t ht)
 have HBL := Lib.hid hb; clear hb
 have HSL := Lib.hid hsl; clear hsl hrw
 have hr := isStmt_41 n s l
 have HR := Lib.hid hr; clear hr
 cases hnm : plain n s
 all_goals have HNM := Lib.hid hnm; clear hnm
 all_goals go_enter Tryz.func37, Tryz.ntmps37
 all_goals go_wp2_with (first | (go_at_call 28; refine (plain_c _ _ _ _ _ _ _).mono ?_; rintro e w1 ⟨rfl, hx1⟩; have hc1 := hx1.cells; rw [HNM.out]) | (go_at_call 27; refine (kids_c _ _ _ l a c [(63, Nd.isPlace), (10, Nd.isExpr)] _ _ S _ hll (by decide) (hs.ext (by refine Ext.alloc ?_ _; refine Ext.trans ?_ (by assumption); refine Ext.alloc ?_ _; exact Ext.refl _)) (get2 (by go_simp) (by go_simp)) (mem2 en_IsPlace en_IsExpr) (mem2 HPL.out HEX.out)).mono ?_; rintro e w2 ⟨rfl, hx2⟩))
 all_goals go_ret
 all_goals rw [HR.out, HNM.out]
 all_goals exact ⟨ret_bool (by simp), (by repeat (first | exact Ext.refl _ | assumption | refine Ext.alloc ?_ _ | refine Ext.drew ?_ | refine Ext.trans ?_ (by assumption)))⟩
theorem isStmt_42 (n : Int) (s : List UInt8) (l : List Nd) : (Nd.mk 42 n s l).isStmt = (plain n s && kidsOk l [(63, Nd.isPlace), (10, Nd.isExpr)]) := by
 rcases l with _ | ⟨x, _ | ⟨y, _ | ⟨z, _ | ⟨u, _ | ⟨v, l⟩⟩⟩⟩⟩ <;> rw [Nd.isStmt.eq_def] <;> simp [kidsOk, Bool.and_assoc]
theorem IsStmt_42 (n : Int) (s : List UInt8) (l : List Nd) (a : Option Addr) (c : Nat) (S : Nat → Prop) (w : World)
 (hs : rowSits S w l a) (hsl : s.length ≤ 9223372036854775807) (hll : l.length ≤ 9223372036854775807) (hrw : rowWf l) (hb : ∀ t ∈ l, Tests S 14 Nd.isBlock t) :
 Calls Tryz.prog 37 #[.agg #[.int .u8 42, .int .i64 n, str s, .slice a l.length c]] w fun e w' => e = .returned (.bool (Nd.mk 42 n s l).isStmt) ∧ Ext w w' := by
 have HEX : Hid (∀ t ∈ l, Tests S 10 Nd.isExpr t) := Lib.hid fun t ht => IsExpr_t S t (rowWf_get hrw t ht)
 have HPL : Hid (∀ t ∈ l, Tests S 63 Nd.isPlace t) := Lib.hid fun t ht => IsPlace_t S t (rowWf_get hrw t ht)
 have HVA : Hid (∀ t ∈ l, Tests S 64 Nd.isVar t) := Lib.hid fun t ht => isVar_t S t (rowWf_get hrw t ht)
 have HBL := Lib.hid hb; clear hb
 have HSL := Lib.hid hsl; clear hsl hrw
 have hr := isStmt_42 n s l
 have HR := Lib.hid hr; clear hr
 cases hnm : plain n s
 all_goals have HNM := Lib.hid hnm; clear hnm
 all_goals go_enter Tryz.func37, Tryz.ntmps37
 all_goals go_wp2_with (first | (go_at_call 28; refine (plain_c _ _ _ _ _ _ _).mono ?_; rintro e w1 ⟨rfl, hx1⟩; have hc1 := hx1.cells; rw [HNM.out]) | (go_at_call 27; refine (kids_c _ _ _ l a c [(63, Nd.isPlace), (10, Nd.isExpr)] _ _ S _ hll (by decide) (hs.ext (by refine Ext.alloc ?_ _; refine Ext.trans ?_ (by assumption); refine Ext.alloc ?_ _; exact Ext.refl _)) (get2 (by go_simp) (by go_simp)) (mem2 en_IsPlace en_IsExpr) (mem2 HPL.out HEX.out)).mono ?_; rintro e w2 ⟨rfl, hx2⟩))
 all_goals go_ret
 all_goals rw [HR.out, HNM.out]
 all_goals exact ⟨ret_bool (by simp), (by repeat (first | exact Ext.refl _ | assumption | refine Ext.alloc ?_ _ | refine Ext.drew ?_ | refine Ext.trans ?_ (by assumption)))⟩
theorem isStmt_56 (n : Int) (s : List UInt8) (l : List Nd) : (Nd.mk 56 n s l).isStmt = (plain n s && kidsOk l [(63, Nd.isPlace), (10, Nd.isExpr)]) := by
 rcases l with _ | ⟨x, _ | ⟨y, _ | ⟨z, _ | ⟨u, _ | ⟨v, l⟩⟩⟩⟩⟩ <;> rw [Nd.isStmt.eq_def] <;> simp [kidsOk, Bool.and_assoc]
theorem IsStmt_56 (n : Int) (s : List UInt8) (l : List Nd) (a : Option Addr) (c : Nat) (S : Nat → Prop) (w : World)
 (hs : rowSits S w l a) (hsl : s.length ≤ 9223372036854775807) (hll : l.length ≤ 9223372036854775807) (hrw : rowWf l) (hb : ∀ t ∈ l, Tests S 14 Nd.isBlock t) :
 Calls Tryz.prog 37 #[.agg #[.int .u8 56, .int .i64 n, str s, .slice a l.length c]] w fun e w' => e = .returned (.bool (Nd.mk 56 n s l).isStmt) ∧ Ext w w' := by
 have HEX : Hid (∀ t ∈ l, Tests S 10 Nd.isExpr t) := Lib.hid fun t ht => IsExpr_t S t (rowWf_get hrw t ht)
 have HPL : Hid (∀ t ∈ l, Tests S 63 Nd.isPlace t) := Lib.hid fun t ht => IsPlace_t S t (rowWf_get hrw t ht)
 have HVA : Hid (∀ t ∈ l, Tests S 64 Nd.isVar t) := Lib.hid fun t ht => isVar_t S t (rowWf_get hrw t ht)
 have HBL := Lib.hid hb; clear hb
 have HSL := Lib.hid hsl; clear hsl hrw
 have hr := isStmt_56 n s l
 have HR := Lib.hid hr; clear hr
 cases hnm : plain n s
 all_goals have HNM := Lib.hid hnm; clear hnm
 all_goals go_enter Tryz.func37, Tryz.ntmps37
 all_goals go_wp2_with (first | (go_at_call 28; refine (plain_c _ _ _ _ _ _ _).mono ?_; rintro e w1 ⟨rfl, hx1⟩; have hc1 := hx1.cells; rw [HNM.out]) | (go_at_call 27; refine (kids_c _ _ _ l a c [(63, Nd.isPlace), (10, Nd.isExpr)] _ _ S _ hll (by decide) (hs.ext (by refine Ext.alloc ?_ _; refine Ext.trans ?_ (by assumption); refine Ext.alloc ?_ _; exact Ext.refl _)) (get2 (by go_simp) (by go_simp)) (mem2 en_IsPlace en_IsExpr) (mem2 HPL.out HEX.out)).mono ?_; rintro e w2 ⟨rfl, hx2⟩))
 all_goals go_ret
 all_goals rw [HR.out, HNM.out]
 all_goals exact ⟨ret_bool (by simp), (by repeat (first | exact Ext.refl _ | assumption | refine Ext.alloc ?_ _ | refine Ext.drew ?_ | refine Ext.trans ?_ (by assumption)))⟩
theorem isStmt_43 (n : Int) (s : List UInt8) (l : List Nd) : (Nd.mk 43 n s l).isStmt = (plain n s && kidsOk l [(63, Nd.isPlace), (63, Nd.isPlace)]) := by
 rcases l with _ | ⟨x, _ | ⟨y, _ | ⟨z, _ | ⟨u, _ | ⟨v, l⟩⟩⟩⟩⟩ <;> rw [Nd.isStmt.eq_def] <;> simp [kidsOk, Bool.and_assoc]
theorem IsStmt_43 (n : Int) (s : List UInt8) (l : List Nd) (a : Option Addr) (c : Nat) (S : Nat → Prop) (w : World)
 (hs : rowSits S w l a) (hsl : s.length ≤ 9223372036854775807) (hll : l.length ≤ 9223372036854775807) (hrw : rowWf l) (hb : ∀ t ∈ l, Tests S 14 Nd.isBlock t) :
 Calls Tryz.prog 37 #[.agg #[.int .u8 43, .int .i64 n, str s, .slice a l.length c]] w fun e w' => e = .returned (.bool (Nd.mk 43 n s l).isStmt) ∧ Ext w w' := by
 have HEX : Hid (∀ t ∈ l, Tests S 10 Nd.isExpr t) := Lib.hid fun t ht => IsExpr_t S t (rowWf_get hrw t ht)
 have HPL : Hid (∀ t ∈ l, Tests S 63 Nd.isPlace t) := Lib.hid fun t ht => IsPlace_t S t (rowWf_get hrw t ht)
 have HVA : Hid (∀ t ∈ l, Tests S 64 Nd.isVar t) := Lib.hid fun t ht => isVar_t S t (rowWf_get hrw t ht)
 have HBL := Lib.hid hb; clear hb
 have HSL := Lib.hid hsl; clear hsl hrw
 have hr := isStmt_43 n s l
 have HR := Lib.hid hr; clear hr
 cases hnm : plain n s
 all_goals have HNM := Lib.hid hnm; clear hnm
 all_goals go_enter Tryz.func37, Tryz.ntmps37
 all_goals go_wp2_with (first | (go_at_call 28; refine (plain_c _ _ _ _ _ _ _).mono ?_; rintro e w1 ⟨rfl, hx1⟩; have hc1 := hx1.cells; rw [HNM.out]) | (go_at_call 27; refine (kids_c _ _ _ l a c [(63, Nd.isPlace), (63, Nd.isPlace)] _ _ S _ hll (by decide) (hs.ext (by refine Ext.alloc ?_ _; refine Ext.trans ?_ (by assumption); refine Ext.alloc ?_ _; exact Ext.refl _)) (get2 (by go_simp) (by go_simp)) (mem2 en_IsPlace en_IsPlace) (mem2 HPL.out HPL.out)).mono ?_; rintro e w2 ⟨rfl, hx2⟩))
 all_goals go_ret
 all_goals rw [HR.out, HNM.out]
 all_goals exact ⟨ret_bool (by simp), (by repeat (first | exact Ext.refl _ | assumption | refine Ext.alloc ?_ _ | refine Ext.drew ?_ | refine Ext.trans ?_ (by assumption)))⟩
theorem isStmt_44 (n : Int) (s : List UInt8) (l : List Nd) : (Nd.mk 44 n s l).isStmt = (named n s && kidsOk l [(63, Nd.isPlace)]) := by
 rcases l with _ | ⟨x, _ | ⟨y, _ | ⟨z, _ | ⟨u, _ | ⟨v, l⟩⟩⟩⟩⟩ <;> rw [Nd.isStmt.eq_def] <;> simp [kidsOk, Bool.and_assoc]
theorem IsStmt_44 (n : Int) (s : List UInt8) (l : List Nd) (a : Option Addr) (c : Nat) (S : Nat → Prop) (w : World)
 (hs : rowSits S w l a) (hsl : s.length ≤ 9223372036854775807) (hll : l.length ≤ 9223372036854775807) (hrw : rowWf l) (hb : ∀ t ∈ l, Tests S 14 Nd.isBlock t) :
 Calls Tryz.prog 37 #[.agg #[.int .u8 44, .int .i64 n, str s, .slice a l.length c]] w fun e w' => e = .returned (.bool (Nd.mk 44 n s l).isStmt) ∧ Ext w w' := by
 have HEX : Hid (∀ t ∈ l, Tests S 10 Nd.isExpr t) := Lib.hid fun t ht => IsExpr_t S t (rowWf_get hrw t ht)
 have HPL : Hid (∀ t ∈ l, Tests S 63 Nd.isPlace t) := Lib.hid fun t ht => IsPlace_t S t (rowWf_get hrw t ht)
 have HVA : Hid (∀ t ∈ l, Tests S 64 Nd.isVar t) := Lib.hid fun t ht => isVar_t S t (rowWf_get hrw t ht)
 have HBL := Lib.hid hb; clear hb
 have HSL := Lib.hid hsl; clear hsl hrw
 have hr := isStmt_44 n s l
 have HR := Lib.hid hr; clear hr
 cases hnm : named n s
 all_goals have HNM := Lib.hid hnm; clear hnm
 all_goals go_enter Tryz.func37, Tryz.ntmps37
 all_goals go_wp2_with (first | (go_at_call 26; refine (named_c _ _ _ _ _ _ _ HSL.out).mono ?_; rintro e w1 ⟨rfl, hx1⟩; have hc1 := hx1.cells; rw [HNM.out]) | (go_at_call 27; refine (kids_c _ _ _ l a c [(63, Nd.isPlace)] _ _ S _ hll (by decide) (hs.ext (by refine Ext.alloc ?_ _; refine Ext.trans ?_ (by assumption); refine Ext.alloc ?_ _; exact Ext.refl _)) (get1 (by go_simp)) (mem1 en_IsPlace) (mem1 HPL.out)).mono ?_; rintro e w2 ⟨rfl, hx2⟩))
 all_goals go_ret
 all_goals rw [HR.out, HNM.out]
 all_goals exact ⟨ret_bool (by simp), (by repeat (first | exact Ext.refl _ | assumption | refine Ext.alloc ?_ _ | refine Ext.drew ?_ | refine Ext.trans ?_ (by assumption)))⟩
theorem isStmt_45 (n : Int) (s : List UInt8) (l : List Nd) : (Nd.mk 45 n s l).isStmt = (named n s && kidsOk l [(63, Nd.isPlace)]) := by
 rcases l with _ | ⟨x, _ | ⟨y, _ | ⟨z, _ | ⟨u, _ | ⟨v, l⟩⟩⟩⟩⟩ <;> rw [Nd.isStmt.eq_def] <;> simp [kidsOk, Bool.and_assoc]
theorem IsStmt_45 (n : Int) (s : List UInt8) (l : List Nd) (a : Option Addr) (c : Nat) (S : Nat → Prop) (w : World)
 (hs : rowSits S w l a) (hsl : s.length ≤ 9223372036854775807) (hll : l.length ≤ 9223372036854775807) (hrw : rowWf l) (hb : ∀ t ∈ l, Tests S 14 Nd.isBlock t) :
 Calls Tryz.prog 37 #[.agg #[.int .u8 45, .int .i64 n, str s, .slice a l.length c]] w fun e w' => e = .returned (.bool (Nd.mk 45 n s l).isStmt) ∧ Ext w w' := by
 have HEX : Hid (∀ t ∈ l, Tests S 10 Nd.isExpr t) := Lib.hid fun t ht => IsExpr_t S t (rowWf_get hrw t ht)
 have HPL : Hid (∀ t ∈ l, Tests S 63 Nd.isPlace t) := Lib.hid fun t ht => IsPlace_t S t (rowWf_get hrw t ht)
 have HVA : Hid (∀ t ∈ l, Tests S 64 Nd.isVar t) := Lib.hid fun t ht => isVar_t S t (rowWf_get hrw t ht)
 have HBL := Lib.hid hb; clear hb
 have HSL := Lib.hid hsl; clear hsl hrw
 have hr := isStmt_45 n s l
 have HR := Lib.hid hr; clear hr
 cases hnm : named n s
 all_goals have HNM := Lib.hid hnm; clear hnm
 all_goals go_enter Tryz.func37, Tryz.ntmps37
 all_goals go_wp2_with (first | (go_at_call 26; refine (named_c _ _ _ _ _ _ _ HSL.out).mono ?_; rintro e w1 ⟨rfl, hx1⟩; have hc1 := hx1.cells; rw [HNM.out]) | (go_at_call 27; refine (kids_c _ _ _ l a c [(63, Nd.isPlace)] _ _ S _ hll (by decide) (hs.ext (by refine Ext.alloc ?_ _; refine Ext.trans ?_ (by assumption); refine Ext.alloc ?_ _; exact Ext.refl _)) (get1 (by go_simp)) (mem1 en_IsPlace) (mem1 HPL.out)).mono ?_; rintro e w2 ⟨rfl, hx2⟩))
 all_goals go_ret
 all_goals rw [HR.out, HNM.out]
 all_goals exact ⟨ret_bool (by simp), (by repeat (first | exact Ext.refl _ | assumption | refine Ext.alloc ?_ _ | refine Ext.drew ?_ | refine Ext.trans ?_ (by assumption)))⟩
theorem isStmt_46 (n : Int) (s : List UInt8) (l : List Nd) : (Nd.mk 46 n s l).isStmt = (plain n s && kidsOk l [(63, Nd.isPlace)]) := by
 rcases l with _ | ⟨x, _ | ⟨y, _ | ⟨z, _ | ⟨u, _ | ⟨v, l⟩⟩⟩⟩⟩ <;> rw [Nd.isStmt.eq_def] <;> simp [kidsOk, Bool.and_assoc]
theorem IsStmt_46 (n : Int) (s : List UInt8) (l : List Nd) (a : Option Addr) (c : Nat) (S : Nat → Prop) (w : World)
 (hs : rowSits S w l a) (hsl : s.length ≤ 9223372036854775807) (hll : l.length ≤ 9223372036854775807) (hrw : rowWf l) (hb : ∀ t ∈ l, Tests S 14 Nd.isBlock t) :
 Calls Tryz.prog 37 #[.agg #[.int .u8 46, .int .i64 n, str s, .slice a l.length c]] w fun e w' => e = .returned (.bool (Nd.mk 46 n s l).isStmt) ∧ Ext w w' := by
 have HEX : Hid (∀ t ∈ l, Tests S 10 Nd.isExpr t) := Lib.hid fun t ht => IsExpr_t S t (rowWf_get hrw t ht)
 have HPL : Hid (∀ t ∈ l, Tests S 63 Nd.isPlace t) := Lib.hid fun t ht => IsPlace_t S t (rowWf_get hrw t ht)
 have HVA : Hid (∀ t ∈ l, Tests S 64 Nd.isVar t) := Lib.hid fun t ht => isVar_t S t (rowWf_get hrw t ht)
 have HBL := Lib.hid hb; clear hb
 have HSL := Lib.hid hsl; clear hsl hrw
 have hr := isStmt_46 n s l
 have HR := Lib.hid hr; clear hr
 cases hnm : plain n s
 all_goals have HNM := Lib.hid hnm; clear hnm
 all_goals go_enter Tryz.func37, Tryz.ntmps37
 all_goals go_wp2_with (first | (go_at_call 28; refine (plain_c _ _ _ _ _ _ _).mono ?_; rintro e w1 ⟨rfl, hx1⟩; have hc1 := hx1.cells; rw [HNM.out]) | (go_at_call 27; refine (kids_c _ _ _ l a c [(63, Nd.isPlace)] _ _ S _ hll (by decide) (hs.ext (by refine Ext.alloc ?_ _; refine Ext.trans ?_ (by assumption); refine Ext.alloc ?_ _; exact Ext.refl _)) (get1 (by go_simp)) (mem1 en_IsPlace) (mem1 HPL.out)).mono ?_; rintro e w2 ⟨rfl, hx2⟩))
 all_goals go_ret
 all_goals rw [HR.out, HNM.out]
 all_goals exact ⟨ret_bool (by simp), (by repeat (first | exact Ext.refl _ | assumption | refine Ext.alloc ?_ _ | refine Ext.drew ?_ | refine Ext.trans ?_ (by assumption)))⟩
theorem isStmt_47 (n : Int) (s : List UInt8) (l : List Nd) : (Nd.mk 47 n s l).isStmt = (plain n s && kidsOk l [(63, Nd.isPlace)]) := by
 rcases l with _ | ⟨x, _ | ⟨y, _ | ⟨z, _ | ⟨u, _ | ⟨v, l⟩⟩⟩⟩⟩ <;> rw [Nd.isStmt.eq_def] <;> simp [kidsOk, Bool.and_assoc]
theorem IsStmt_47 (n : Int) (s : List UInt8) (l : List Nd) (a : Option Addr) (c : Nat) (S : Nat → Prop) (w : World)
 (hs : rowSits S w l a) (hsl : s.length ≤ 9223372036854775807) (hll : l.length ≤ 9223372036854775807) (hrw : rowWf l) (hb : ∀ t ∈ l, Tests S 14 Nd.isBlock t) :
 Calls Tryz.prog 37 #[.agg #[.int .u8 47, .int .i64 n, str s, .slice a l.length c]] w fun e w' => e = .returned (.bool (Nd.mk 47 n s l).isStmt) ∧ Ext w w' := by
 have HEX : Hid (∀ t ∈ l, Tests S 10 Nd.isExpr t) := Lib.hid fun t ht => IsExpr_t S t (rowWf_get hrw t ht)
 have HPL : Hid (∀ t ∈ l, Tests S 63 Nd.isPlace t) := Lib.hid fun t ht => IsPlace_t S t (rowWf_get hrw t ht)
 have HVA : Hid (∀ t ∈ l, Tests S 64 Nd.isVar t) := Lib.hid fun t ht => isVar_t S t (rowWf_get hrw t ht)
 have HBL := Lib.hid hb; clear hb
 have HSL := Lib.hid hsl; clear hsl hrw
 have hr := isStmt_47 n s l
 have HR := Lib.hid hr; clear hr
 cases hnm : plain n s
 all_goals have HNM := Lib.hid hnm; clear hnm
 all_goals go_enter Tryz.func37, Tryz.ntmps37
 all_goals go_wp2_with (first | (go_at_call 28; refine (plain_c _ _ _ _ _ _ _).mono ?_; rintro e w1 ⟨rfl, hx1⟩; have hc1 := hx1.cells; rw [HNM.out]) | (go_at_call 27; refine (kids_c _ _ _ l a c [(63, Nd.isPlace)] _ _ S _ hll (by decide) (hs.ext (by refine Ext.alloc ?_ _; refine Ext.trans ?_ (by assumption); refine Ext.alloc ?_ _; exact Ext.refl _)) (get1 (by go_simp)) (mem1 en_IsPlace) (mem1 HPL.out)).mono ?_; rintro e w2 ⟨rfl, hx2⟩))
 all_goals go_ret
 all_goals rw [HR.out, HNM.out]
 all_goals exact ⟨ret_bool (by simp), (by repeat (first | exact Ext.refl _ | assumption | refine Ext.alloc ?_ _ | refine Ext.drew ?_ | refine Ext.trans ?_ (by assumption)))⟩
theorem isStmt_48 (n : Int) (s : List UInt8) (l : List Nd) : (Nd.mk 48 n s l).isStmt = (plain n s && kidsOk l [(63, Nd.isPlace)]) := by
 rcases l with _ | ⟨x, _ | ⟨y, _ | ⟨z, _ | ⟨u, _ | ⟨v, l⟩⟩⟩⟩⟩ <;> rw [Nd.isStmt.eq_def] <;> simp [kidsOk, Bool.and_assoc]
theorem IsStmt_48 (n : Int) (s : List UInt8) (l : List Nd) (a : Option Addr) (c : Nat) (S : Nat → Prop) (w : World)
 (hs : rowSits S w l a) (hsl : s.length ≤ 9223372036854775807) (hll : l.length ≤ 9223372036854775807) (hrw : rowWf l) (hb : ∀ t ∈ l, Tests S 14 Nd.isBlock t) :
 Calls Tryz.prog 37 #[.agg #[.int .u8 48, .int .i64 n, str s, .slice a l.length c]] w fun e w' => e = .returned (.bool (Nd.mk 48 n s l).isStmt) ∧ Ext w w' := by
 have HEX : Hid (∀ t ∈ l, Tests S 10 Nd.isExpr t) := Lib.hid fun t ht => IsExpr_t S t (rowWf_get hrw t ht)
 have HPL : Hid (∀ t ∈ l, Tests S 63 Nd.isPlace t) := Lib.hid fun t ht => IsPlace_t S t (rowWf_get hrw t ht)
 have HVA : Hid (∀ t ∈ l, Tests S 64 Nd.isVar t) := Lib.hid fun t ht => isVar_t S t (rowWf_get hrw t ht)
 have HBL := Lib.hid hb; clear hb
 have HSL := Lib.hid hsl; clear hsl hrw
 have hr := isStmt_48 n s l
 have HR := Lib.hid hr; clear hr
 cases hnm : plain n s
 all_goals have HNM := Lib.hid hnm; clear hnm
 all_goals go_enter Tryz.func37, Tryz.ntmps37
 all_goals go_wp2_with (first | (go_at_call 28; refine (plain_c _ _ _ _ _ _ _).mono ?_; rintro e w1 ⟨rfl, hx1⟩; have hc1 := hx1.cells; rw [HNM.out]) | (go_at_call 27; refine (kids_c _ _ _ l a c [(63, Nd.isPlace)] _ _ S _ hll (by decide) (hs.ext (by refine Ext.alloc ?_ _; refine Ext.trans ?_ (by assumption); refine Ext.alloc ?_ _; exact Ext.refl _)) (get1 (by go_simp)) (mem1 en_IsPlace) (mem1 HPL.out)).mono ?_; rintro e w2 ⟨rfl, hx2⟩))
 all_goals go_ret
 all_goals rw [HR.out, HNM.out]
 all_goals exact ⟨ret_bool (by simp), (by repeat (first | exact Ext.refl _ | assumption | refine Ext.alloc ?_ _ | refine Ext.drew ?_ | refine Ext.trans ?_ (by assumption)))⟩
theorem isStmt_49 (n : Int) (s : List UInt8) (l : List Nd) : (Nd.mk 49 n s l).isStmt = (plain n s && kidsOk l [(63, Nd.isPlace)]) := by
 rcases l with _ | ⟨x, _ | ⟨y, _ | ⟨z, _ | ⟨u, _ | ⟨v, l⟩⟩⟩⟩⟩ <;> rw [Nd.isStmt.eq_def] <;> simp [kidsOk, Bool.and_assoc]
theorem IsStmt_49 (n : Int) (s : List UInt8) (l : List Nd) (a : Option Addr) (c : Nat) (S : Nat → Prop) (w : World)
 (hs : rowSits S w l a) (hsl : s.length ≤ 9223372036854775807) (hll : l.length ≤ 9223372036854775807) (hrw : rowWf l) (hb : ∀ t ∈ l, Tests S 14 Nd.isBlock t) :
 Calls Tryz.prog 37 #[.agg #[.int .u8 49, .int .i64 n, str s, .slice a l.length c]] w fun e w' => e = .returned (.bool (Nd.mk 49 n s l).isStmt) ∧ Ext w w' := by
 have HEX : Hid (∀ t ∈ l, Tests S 10 Nd.isExpr t) := Lib.hid fun t ht => IsExpr_t S t (rowWf_get hrw t ht)
 have HPL : Hid (∀ t ∈ l, Tests S 63 Nd.isPlace t) := Lib.hid fun t ht => IsPlace_t S t (rowWf_get hrw t ht)
 have HVA : Hid (∀ t ∈ l, Tests S 64 Nd.isVar t) := Lib.hid fun t ht => isVar_t S t (rowWf_get hrw t ht)
 have HBL := Lib.hid hb; clear hb
 have HSL := Lib.hid hsl; clear hsl hrw
 have hr := isStmt_49 n s l
 have HR := Lib.hid hr; clear hr
 cases hnm : plain n s
 all_goals have HNM := Lib.hid hnm; clear hnm
 all_goals go_enter Tryz.func37, Tryz.ntmps37
 all_goals go_wp2_with (first | (go_at_call 28; refine (plain_c _ _ _ _ _ _ _).mono ?_; rintro e w1 ⟨rfl, hx1⟩; have hc1 := hx1.cells; rw [HNM.out]) | (go_at_call 27; refine (kids_c _ _ _ l a c [(63, Nd.isPlace)] _ _ S _ hll (by decide) (hs.ext (by refine Ext.alloc ?_ _; refine Ext.trans ?_ (by assumption); refine Ext.alloc ?_ _; exact Ext.refl _)) (get1 (by go_simp)) (mem1 en_IsPlace) (mem1 HPL.out)).mono ?_; rintro e w2 ⟨rfl, hx2⟩))
 all_goals go_ret
 all_goals rw [HR.out, HNM.out]
 all_goals exact ⟨ret_bool (by simp), (by repeat (first | exact Ext.refl _ | assumption | refine Ext.alloc ?_ _ | refine Ext.drew ?_ | refine Ext.trans ?_ (by assumption)))⟩
theorem isStmt_52 (n : Int) (s : List UInt8) (l : List Nd) : (Nd.mk 52 n s l).isStmt = (plain n s && kidsOk l [(10, Nd.isExpr), (14, Nd.isBlock), (14, Nd.isBlock), (10, Nd.isExpr)]) := by
 rcases l with _ | ⟨x, _ | ⟨y, _ | ⟨z, _ | ⟨u, _ | ⟨v, l⟩⟩⟩⟩⟩ <;> rw [Nd.isStmt.eq_def] <;> simp [kidsOk, Bool.and_assoc]
theorem IsStmt_52 (n : Int) (s : List UInt8) (l : List Nd) (a : Option Addr) (c : Nat) (S : Nat → Prop) (w : World)
 (hs : rowSits S w l a) (hsl : s.length ≤ 9223372036854775807) (hll : l.length ≤ 9223372036854775807) (hrw : rowWf l) (hb : ∀ t ∈ l, Tests S 14 Nd.isBlock t) :
 Calls Tryz.prog 37 #[.agg #[.int .u8 52, .int .i64 n, str s, .slice a l.length c]] w fun e w' => e = .returned (.bool (Nd.mk 52 n s l).isStmt) ∧ Ext w w' := by
 have HEX : Hid (∀ t ∈ l, Tests S 10 Nd.isExpr t) := Lib.hid fun t ht => IsExpr_t S t (rowWf_get hrw t ht)
 have HPL : Hid (∀ t ∈ l, Tests S 63 Nd.isPlace t) := Lib.hid fun t ht => IsPlace_t S t (rowWf_get hrw t ht)
 have HVA : Hid (∀ t ∈ l, Tests S 64 Nd.isVar t) := Lib.hid fun t ht => isVar_t S t (rowWf_get hrw t ht)
 have HBL := Lib.hid hb; clear hb
 have HSL := Lib.hid hsl; clear hsl hrw
 have hr := isStmt_52 n s l
 have HR := Lib.hid hr; clear hr
 cases hnm : plain n s
 all_goals have HNM := Lib.hid hnm; clear hnm
 all_goals go_enter Tryz.func37, Tryz.ntmps37
 all_goals go_wp2_with (first | (go_at_call 28; refine (plain_c _ _ _ _ _ _ _).mono ?_; rintro e w1 ⟨rfl, hx1⟩; have hc1 := hx1.cells; rw [HNM.out]) | (go_at_call 27; refine (kids_c _ _ _ l a c [(10, Nd.isExpr), (14, Nd.isBlock), (14, Nd.isBlock), (10, Nd.isExpr)] _ _ S _ hll (by decide) (hs.ext (by refine Ext.alloc ?_ _; refine Ext.trans ?_ (by assumption); refine Ext.alloc ?_ _; exact Ext.refl _)) (get4 (by go_simp) (by go_simp) (by go_simp) (by go_simp)) (mem4 en_IsExpr en_IsBlock en_IsBlock en_IsExpr) (mem4 HEX.out HBL.out HBL.out HEX.out)).mono ?_; rintro e w2 ⟨rfl, hx2⟩))
 all_goals go_ret
 all_goals rw [HR.out, HNM.out]
 all_goals exact ⟨ret_bool (by simp), (by repeat (first | exact Ext.refl _ | assumption | refine Ext.alloc ?_ _ | refine Ext.drew ?_ | refine Ext.trans ?_ (by assumption)))⟩
theorem isStmt_53 (n : Int) (s : List UInt8) (l : List Nd) : (Nd.mk 53 n s l).isStmt = (plain n s && kidsOk l [(10, Nd.isExpr), (14, Nd.isBlock), (14, Nd.isBlock), (10, Nd.isExpr)]) := by
 rcases l with _ | ⟨x, _ | ⟨y, _ | ⟨z, _ | ⟨u, _ | ⟨v, l⟩⟩⟩⟩⟩ <;> rw [Nd.isStmt.eq_def] <;> simp [kidsOk, Bool.and_assoc]
theorem IsStmt_53 (n : Int) (s : List UInt8) (l : List Nd) (a : Option Addr) (c : Nat) (S : Nat → Prop) (w : World)
 (hs : rowSits S w l a) (hsl : s.length ≤ 9223372036854775807) (hll : l.length ≤ 9223372036854775807) (hrw : rowWf l) (hb : ∀ t ∈ l, Tests S 14 Nd.isBlock t) :
 Calls Tryz.prog 37 #[.agg #[.int .u8 53, .int .i64 n, str s, .slice a l.length c]] w fun e w' => e = .returned (.bool (Nd.mk 53 n s l).isStmt) ∧ Ext w w' := by
 have HEX : Hid (∀ t ∈ l, Tests S 10 Nd.isExpr t) := Lib.hid fun t ht => IsExpr_t S t (rowWf_get hrw t ht)
 have HPL : Hid (∀ t ∈ l, Tests S 63 Nd.isPlace t) := Lib.hid fun t ht => IsPlace_t S t (rowWf_get hrw t ht)
 have HVA : Hid (∀ t ∈ l, Tests S 64 Nd.isVar t) := Lib.hid fun t ht => isVar_t S t (rowWf_get hrw t ht)
 have HBL := Lib.hid hb; clear hb
 have HSL := Lib.hid hsl; clear hsl hrw
 have hr := isStmt_53 n s l
 have HR := Lib.hid hr; clear hr
 cases hnm : plain n s
 all_goals have HNM := Lib.hid hnm; clear hnm
 all_goals go_enter Tryz.func37, Tryz.ntmps37
 all_goals go_wp2_with (first | (go_at_call 28; refine (plain_c _ _ _ _ _ _ _).mono ?_; rintro e w1 ⟨rfl, hx1⟩; have hc1 := hx1.cells; rw [HNM.out]) | (go_at_call 27; refine (kids_c _ _ _ l a c [(10, Nd.isExpr), (14, Nd.isBlock), (14, Nd.isBlock), (10, Nd.isExpr)] _ _ S _ hll (by decide) (hs.ext (by refine Ext.alloc ?_ _; refine Ext.trans ?_ (by assumption); refine Ext.alloc ?_ _; exact Ext.refl _)) (get4 (by go_simp) (by go_simp) (by go_simp) (by go_simp)) (mem4 en_IsExpr en_IsBlock en_IsBlock en_IsExpr) (mem4 HEX.out HBL.out HBL.out HEX.out)).mono ?_; rintro e w2 ⟨rfl, hx2⟩))
 all_goals go_ret
 all_goals rw [HR.out, HNM.out]
 all_goals exact ⟨ret_bool (by simp), (by repeat (first | exact Ext.refl _ | assumption | refine Ext.alloc ?_ _ | refine Ext.drew ?_ | refine Ext.trans ?_ (by assumption)))⟩
theorem isStmt_54 (n : Int) (s : List UInt8) (l : List Nd) : (Nd.mk 54 n s l).isStmt = (named n s && kidsOk l [(10, Nd.isExpr), (14, Nd.isBlock), (10, Nd.isExpr)]) := by
 rcases l with _ | ⟨x, _ | ⟨y, _ | ⟨z, _ | ⟨u, _ | ⟨v, l⟩⟩⟩⟩⟩ <;> rw [Nd.isStmt.eq_def] <;> simp [kidsOk, Bool.and_assoc]
theorem IsStmt_54 (n : Int) (s : List UInt8) (l : List Nd) (a : Option Addr) (c : Nat) (S : Nat → Prop) (w : World)
 (hs : rowSits S w l a) (hsl : s.length ≤ 9223372036854775807) (hll : l.length ≤ 9223372036854775807) (hrw : rowWf l) (hb : ∀ t ∈ l, Tests S 14 Nd.isBlock t) :
 Calls Tryz.prog 37 #[.agg #[.int .u8 54, .int .i64 n, str s, .slice a l.length c]] w fun e w' => e = .returned (.bool (Nd.mk 54 n s l).isStmt) ∧ Ext w w' := by
 have HEX : Hid (∀ t ∈ l, Tests S 10 Nd.isExpr t) := Lib.hid fun t ht => IsExpr_t S t (rowWf_get hrw t ht)
 have HPL : Hid (∀ t ∈ l, Tests S 63 Nd.isPlace t) := Lib.hid fun t ht => IsPlace_t S t (rowWf_get hrw t ht)
 have HVA : Hid (∀ t ∈ l, Tests S 64 Nd.isVar t) := Lib.hid fun t ht => isVar_t S t (rowWf_get hrw t ht)
 have HBL := Lib.hid hb; clear hb
 have HSL := Lib.hid hsl; clear hsl hrw
 have hr := isStmt_54 n s l
 have HR := Lib.hid hr; clear hr
 cases hnm : named n s
 all_goals have HNM := Lib.hid hnm; clear hnm
 all_goals go_enter Tryz.func37, Tryz.ntmps37
 all_goals go_wp2_with (first | (go_at_call 26; refine (named_c _ _ _ _ _ _ _ HSL.out).mono ?_; rintro e w1 ⟨rfl, hx1⟩; have hc1 := hx1.cells; rw [HNM.out]) | (go_at_call 27; refine (kids_c _ _ _ l a c [(10, Nd.isExpr), (14, Nd.isBlock), (10, Nd.isExpr)] _ _ S _ hll (by decide) (hs.ext (by refine Ext.alloc ?_ _; refine Ext.trans ?_ (by assumption); refine Ext.alloc ?_ _; exact Ext.refl _)) (get3 (by go_simp) (by go_simp) (by go_simp)) (mem3 en_IsExpr en_IsBlock en_IsExpr) (mem3 HEX.out HBL.out HEX.out)).mono ?_; rintro e w2 ⟨rfl, hx2⟩))
 all_goals go_ret
 all_goals rw [HR.out, HNM.out]
 all_goals exact ⟨ret_bool (by simp), (by repeat (first | exact Ext.refl _ | assumption | refine Ext.alloc ?_ _ | refine Ext.drew ?_ | refine Ext.trans ?_ (by assumption)))⟩
theorem isStmt_55 (n : Int) (s : List UInt8) (l : List Nd) : (Nd.mk 55 n s l).isStmt = (named n s && kidsOk l [(14, Nd.isBlock)]) := by
 rcases l with _ | ⟨x, _ | ⟨y, _ | ⟨z, _ | ⟨u, _ | ⟨v, l⟩⟩⟩⟩⟩ <;> rw [Nd.isStmt.eq_def] <;> simp [kidsOk, Bool.and_assoc]
theorem IsStmt_55 (n : Int) (s : List UInt8) (l : List Nd) (a : Option Addr) (c : Nat) (S : Nat → Prop) (w : World)
 (hs : rowSits S w l a) (hsl : s.length ≤ 9223372036854775807) (hll : l.length ≤ 9223372036854775807) (hrw : rowWf l) (hb : ∀ t ∈ l, Tests S 14 Nd.isBlock t) :
 Calls Tryz.prog 37 #[.agg #[.int .u8 55, .int .i64 n, str s, .slice a l.length c]] w fun e w' => e = .returned (.bool (Nd.mk 55 n s l).isStmt) ∧ Ext w w' := by
 have HEX : Hid (∀ t ∈ l, Tests S 10 Nd.isExpr t) := Lib.hid fun t ht => IsExpr_t S t (rowWf_get hrw t ht)
 have HPL : Hid (∀ t ∈ l, Tests S 63 Nd.isPlace t) := Lib.hid fun t ht => IsPlace_t S t (rowWf_get hrw t ht)
 have HVA : Hid (∀ t ∈ l, Tests S 64 Nd.isVar t) := Lib.hid fun t ht => isVar_t S t (rowWf_get hrw t ht)
 have HBL := Lib.hid hb; clear hb
 have HSL := Lib.hid hsl; clear hsl hrw
 have hr := isStmt_55 n s l
 have HR := Lib.hid hr; clear hr
 cases hnm : named n s
 all_goals have HNM := Lib.hid hnm; clear hnm
 all_goals go_enter Tryz.func37, Tryz.ntmps37
 all_goals go_wp2_with (first | (go_at_call 26; refine (named_c _ _ _ _ _ _ _ HSL.out).mono ?_; rintro e w1 ⟨rfl, hx1⟩; have hc1 := hx1.cells; rw [HNM.out]) | (go_at_call 27; refine (kids_c _ _ _ l a c [(14, Nd.isBlock)] _ _ S _ hll (by decide) (hs.ext (by refine Ext.alloc ?_ _; refine Ext.trans ?_ (by assumption); refine Ext.alloc ?_ _; exact Ext.refl _)) (get1 (by go_simp)) (mem1 en_IsBlock) (mem1 HBL.out)).mono ?_; rintro e w2 ⟨rfl, hx2⟩))
 all_goals go_ret
 all_goals rw [HR.out, HNM.out]
 all_goals exact ⟨ret_bool (by simp), (by repeat (first | exact Ext.refl _ | assumption | refine Ext.alloc ?_ _ | refine Ext.drew ?_ | refine Ext.trans ?_ (by assumption)))⟩
theorem isStmt_50 (n : Int) (s : List UInt8) (l : List Nd) : (Nd.mk 50 n s l).isStmt = (named n s && decide (l.length ≤ 8) && l.all Nd.isVar) := by
 rw [Nd.isStmt.eq_def]; simp
theorem IsStmt_50 (n : Int) (s : List UInt8) (l : List Nd) (a : Option Addr) (c : Nat) (S : Nat → Prop) (w : World)
 (hs : rowSits S w l a) (hsl : s.length ≤ 9223372036854775807) (hll : l.length ≤ 9223372036854775807) (hrw : rowWf l) (hb : ∀ t ∈ l, Tests S 14 Nd.isBlock t) :
 Calls Tryz.prog 37 #[.agg #[.int .u8 50, .int .i64 n, str s, .slice a l.length c]] w fun e w' => e = .returned (.bool (Nd.mk 50 n s l).isStmt) ∧ Ext w w' := by
 have HEX : Hid (∀ t ∈ l, Tests S 10 Nd.isExpr t) := Lib.hid fun t ht => IsExpr_t S t (rowWf_get hrw t ht)
 have HPL : Hid (∀ t ∈ l, Tests S 63 Nd.isPlace t) := Lib.hid fun t ht => IsPlace_t S t (rowWf_get hrw t ht)
 have HVA : Hid (∀ t ∈ l, Tests S 64 Nd.isVar t) := Lib.hid fun t ht => isVar_t S t (rowWf_get hrw t ht)
 have HBL := Lib.hid hb; clear hb
 have HSL := Lib.hid hsl; clear hsl hrw
 have hr := isStmt_50 n s l
 have HR := Lib.hid hr; clear hr
 cases hnm : named n s
 · have HNM := Lib.hid hnm; clear hnm
   go_enter Tryz.func37, Tryz.ntmps37
   go_wp2_with (first | (go_at_call 26; refine (named_c _ _ _ _ _ _ _ HSL.out).mono ?_; rintro e w1 ⟨rfl, hx1⟩; have hc1 := hx1.cells; rw [HNM.out]))
   go_ret
   rw [HR.out, HNM.out]
   exact ⟨ret_bool (by simp), (by refine Ext.trans ?_ (by assumption); refine Ext.alloc ?_ _; exact Ext.refl _)⟩
 · have HNM := Lib.hid hnm; clear hnm
   by_cases h8 : l.length ≤ 8
   · have d8 : decide ((l.length : Int) ≤ 8) = true := by simp; omega
     have H8 := Lib.hid h8; clear h8
     go_enter Tryz.func37, Tryz.ntmps37
     go_wp2_with (first | (go_at_call 26; refine (named_c _ _ _ _ _ _ _ HSL.out).mono ?_; rintro e w1 ⟨rfl, hx1⟩; have hc1 := hx1.cells; rw [HNM.out]) | (go_at_call 36; refine (every_c 64 Nd.isVar en_isVar l a c S _ hll (hs.ext (by refine Ext.trans ?_ (by assumption); refine Ext.alloc ?_ _; exact Ext.refl _)) HVA.out).mono ?_; rintro e w2 ⟨rfl, hx2⟩))
     go_ret
     rw [HR.out, HNM.out]
     exact ⟨ret_bool (by simp [H8.out]), (by refine Ext.trans ?_ (by assumption); refine Ext.trans ?_ (by assumption); refine Ext.alloc ?_ _; exact Ext.refl _)⟩
   · have d8 : decide ((l.length : Int) ≤ 8) = false := by simp; omega
     have H8 := Lib.hid h8; clear h8
     go_enter Tryz.func37, Tryz.ntmps37
     go_wp2_with (first | (go_at_call 26; refine (named_c _ _ _ _ _ _ _ HSL.out).mono ?_; rintro e w1 ⟨rfl, hx1⟩; have hc1 := hx1.cells; rw [HNM.out]))
     go_ret
     rw [HR.out, HNM.out]
     exact ⟨ret_bool (by simp [H8.out]), (by refine Ext.trans ?_ (by assumption); refine Ext.alloc ?_ _; exact Ext.refl _)⟩
theorem isStmt_51 (n : Int) (s : List UInt8) (l : List Nd) : (Nd.mk 51 n s l).isStmt = (named n s && decide (l.length ≤ 8) && l.all Nd.isVar) := by
 rw [Nd.isStmt.eq_def]; simp
theorem IsStmt_51 (n : Int) (s : List UInt8) (l : List Nd) (a : Option Addr) (c : Nat) (S : Nat → Prop) (w : World)
 (hs : rowSits S w l a) (hsl : s.length ≤ 9223372036854775807) (hll : l.length ≤ 9223372036854775807) (hrw : rowWf l) (hb : ∀ t ∈ l, Tests S 14 Nd.isBlock t) :
 Calls Tryz.prog 37 #[.agg #[.int .u8 51, .int .i64 n, str s, .slice a l.length c]] w fun e w' => e = .returned (.bool (Nd.mk 51 n s l).isStmt) ∧ Ext w w' := by
 have HEX : Hid (∀ t ∈ l, Tests S 10 Nd.isExpr t) := Lib.hid fun t ht => IsExpr_t S t (rowWf_get hrw t ht)
 have HPL : Hid (∀ t ∈ l, Tests S 63 Nd.isPlace t) := Lib.hid fun t ht => IsPlace_t S t (rowWf_get hrw t ht)
 have HVA : Hid (∀ t ∈ l, Tests S 64 Nd.isVar t) := Lib.hid fun t ht => isVar_t S t (rowWf_get hrw t ht)
 have HBL := Lib.hid hb; clear hb
 have HSL := Lib.hid hsl; clear hsl hrw
 have hr := isStmt_51 n s l
 have HR := Lib.hid hr; clear hr
 cases hnm : named n s
 · have HNM := Lib.hid hnm; clear hnm
   go_enter Tryz.func37, Tryz.ntmps37
   go_wp2_with (first | (go_at_call 26; refine (named_c _ _ _ _ _ _ _ HSL.out).mono ?_; rintro e w1 ⟨rfl, hx1⟩; have hc1 := hx1.cells; rw [HNM.out]))
   go_ret
   rw [HR.out, HNM.out]
   exact ⟨ret_bool (by simp), (by refine Ext.trans ?_ (by assumption); refine Ext.alloc ?_ _; exact Ext.refl _)⟩
 · have HNM := Lib.hid hnm; clear hnm
   by_cases h8 : l.length ≤ 8
   · have d8 : decide ((l.length : Int) ≤ 8) = true := by simp; omega
     have H8 := Lib.hid h8; clear h8
     go_enter Tryz.func37, Tryz.ntmps37
     go_wp2_with (first | (go_at_call 26; refine (named_c _ _ _ _ _ _ _ HSL.out).mono ?_; rintro e w1 ⟨rfl, hx1⟩; have hc1 := hx1.cells; rw [HNM.out]) | (go_at_call 36; refine (every_c 64 Nd.isVar en_isVar l a c S _ hll (hs.ext (by refine Ext.trans ?_ (by assumption); refine Ext.alloc ?_ _; exact Ext.refl _)) HVA.out).mono ?_; rintro e w2 ⟨rfl, hx2⟩))
     go_ret
     rw [HR.out, HNM.out]
     exact ⟨ret_bool (by simp [H8.out]), (by refine Ext.trans ?_ (by assumption); refine Ext.trans ?_ (by assumption); refine Ext.alloc ?_ _; exact Ext.refl _)⟩
   · have d8 : decide ((l.length : Int) ≤ 8) = false := by simp; omega
     have H8 := Lib.hid h8; clear h8
     go_enter Tryz.func37, Tryz.ntmps37
     go_wp2_with (first | (go_at_call 26; refine (named_c _ _ _ _ _ _ _ HSL.out).mono ?_; rintro e w1 ⟨rfl, hx1⟩; have hc1 := hx1.cells; rw [HNM.out]))
     go_ret
     rw [HR.out, HNM.out]
     exact ⟨ret_bool (by simp [H8.out]), (by refine Ext.trans ?_ (by assumption); refine Ext.alloc ?_ _; exact Ext.refl _)⟩
theorem isStmt_else (k n : Int) (s : List UInt8) (l : List Nd) (h : k < 40 ∨ 56 < k) : (Nd.mk k n s l).isStmt = false := by
 rw [Nd.isStmt.eq_def]; simp only []; rw [if_neg (by omega), if_neg (by omega), if_neg (by omega), if_neg (by omega), if_neg (by omega), if_neg (by omega), if_neg (by omega), if_neg (by omega)]
theorem IsStmt_else (k n : Int) (s : List UInt8) (l : List Nd) (a : Option Addr) (c : Nat) (w : World) (h : k < 40 ∨ 56 < k) :
 Calls Tryz.prog 37 #[.agg #[.int .u8 k, .int .i64 n, str s, .slice a l.length c]] w fun e w' => e = .returned (.bool (Nd.mk k n s l).isStmt) ∧ Ext w w' := by
 have hr := isStmt_else k n s l h
 have HR := Lib.hid hr; clear hr
 have d40 : (k == 40) = false := by rw [beq_eq_false_iff_ne]; omega
 have d41 : (k == 41) = false := by rw [beq_eq_false_iff_ne]; omega
 have d42 : (k == 42) = false := by rw [beq_eq_false_iff_ne]; omega
 have d43 : (k == 43) = false := by rw [beq_eq_false_iff_ne]; omega
 have d44 : (k == 44) = false := by rw [beq_eq_false_iff_ne]; omega
 have d45 : (k == 45) = false := by rw [beq_eq_false_iff_ne]; omega
 have d46 : (k == 46) = false := by rw [beq_eq_false_iff_ne]; omega
 have d47 : (k == 47) = false := by rw [beq_eq_false_iff_ne]; omega
 have d48 : (k == 48) = false := by rw [beq_eq_false_iff_ne]; omega
 have d49 : (k == 49) = false := by rw [beq_eq_false_iff_ne]; omega
 have d50 : (k == 50) = false := by rw [beq_eq_false_iff_ne]; omega
 have d51 : (k == 51) = false := by rw [beq_eq_false_iff_ne]; omega
 have d52 : (k == 52) = false := by rw [beq_eq_false_iff_ne]; omega
 have d53 : (k == 53) = false := by rw [beq_eq_false_iff_ne]; omega
 have d54 : (k == 54) = false := by rw [beq_eq_false_iff_ne]; omega
 have d55 : (k == 55) = false := by rw [beq_eq_false_iff_ne]; omega
 have d56 : (k == 56) = false := by rw [beq_eq_false_iff_ne]; omega
 clear h
 go_enter Tryz.func37, Tryz.ntmps37
 go_wp2_with fail
 go_ret
 rw [HR.out]
 exact ⟨rfl, (by refine Ext.alloc ?_ _; exact Ext.refl _)⟩
theorem IsStmt_any (k n : Int) (s : List UInt8) (l : List Nd) (a : Option Addr) (c : Nat) (S : Nat → Prop) (w : World)
 (hs : rowSits S w l a) (hsl : s.length ≤ 9223372036854775807) (hll : l.length ≤ 9223372036854775807) (hrw : rowWf l) (hb : ∀ t ∈ l, Tests S 14 Nd.isBlock t) :
 Calls Tryz.prog 37 #[.agg #[.int .u8 k, .int .i64 n, str s, .slice a l.length c]] w fun e w' => e = .returned (.bool (Nd.mk k n s l).isStmt) ∧ Ext w w' := by
 by_cases h : k < 40 ∨ 56 < k
 · exact IsStmt_else k n s l a c w h
 by_cases h40 : k = 40
 · subst h40; exact IsStmt_40 n s l a c S w hs hsl hll hrw hb
 by_cases h41 : k = 41
 · subst h41; exact IsStmt_41 n s l a c S w hs hsl hll hrw hb
 by_cases h42 : k = 42
 · subst h42; exact IsStmt_42 n s l a c S w hs hsl hll hrw hb
 by_cases h43 : k = 43
 · subst h43; exact IsStmt_43 n s l a c S w hs hsl hll hrw hb
 by_cases h44 : k = 44
 · subst h44; exact IsStmt_44 n s l a c S w hs hsl hll hrw hb
 by_cases h45 : k = 45
 · subst h45; exact IsStmt_45 n s l a c S w hs hsl hll hrw hb
 by_cases h46 : k = 46
 · subst h46; exact IsStmt_46 n s l a c S w hs hsl hll hrw hb
 by_cases h47 : k = 47
 · subst h47; exact IsStmt_47 n s l a c S w hs hsl hll hrw hb
 by_cases h48 : k = 48
 · subst h48; exact IsStmt_48 n s l a c S w hs hsl hll hrw hb
 by_cases h49 : k = 49
 · subst h49; exact IsStmt_49 n s l a c S w hs hsl hll hrw hb
 by_cases h50 : k = 50
 · subst h50; exact IsStmt_50 n s l a c S w hs hsl hll hrw hb
 by_cases h51 : k = 51
 · subst h51; exact IsStmt_51 n s l a c S w hs hsl hll hrw hb
 by_cases h52 : k = 52
 · subst h52; exact IsStmt_52 n s l a c S w hs hsl hll hrw hb
 by_cases h53 : k = 53
 · subst h53; exact IsStmt_53 n s l a c S w hs hsl hll hrw hb
 by_cases h54 : k = 54
 · subst h54; exact IsStmt_54 n s l a c S w hs hsl hll hrw hb
 by_cases h55 : k = 55
 · subst h55; exact IsStmt_55 n s l a c S w hs hsl hll hrw hb
 by_cases h56 : k = 56
 · subst h56; exact IsStmt_56 n s l a c S w hs hsl hll hrw hb
 omega
theorem IsBlock_any (k n : Int) (s : List UInt8) (l : List Nd) (a : Option Addr) (c : Nat) (S : Nat → Prop) (w : World)
 (hs : rowSits S w l a) (hll : l.length ≤ 9223372036854775807) (ht : ∀ t ∈ l, Tests S 37 Nd.isStmt t) :
 Calls Tryz.prog 14 #[.agg #[.int .u8 k, .int .i64 n, str s, .slice a l.length c]] w fun e w' => e = .returned (.bool (Nd.mk k n s l).isBlock) ∧ Ext w w' := by
 have hall : ∀ r : List Nd, rowStmt r = r.all Nd.isStmt := by
  intro r
  induction r with
  | nil => rfl
  | cons x r ih => simp [rowStmt, ih]
 have hr : (Nd.mk k n s l).isBlock = (k == 57 && plain n s && l.all Nd.isStmt) := by rw [Nd.isBlock, hall]
 have HR := Lib.hid hr; clear hr hall
 have HT := Lib.hid ht; clear ht
 by_cases h57 : k = 57
 · subst h57
   cases hnm : plain n s
   all_goals have HNM := Lib.hid hnm; clear hnm
   all_goals go_enter Tryz.func14, Tryz.ntmps14
   all_goals go_wp2_with (first | (go_at_call 28; refine (plain_c _ _ _ _ _ _ _).mono ?_; rintro e w1 ⟨rfl, hx1⟩; have hc1 := hx1.cells; rw [HNM.out]) | (go_at_call 36; refine (every_c 37 Nd.isStmt en_IsStmt l a c S _ hll (hs.ext (by refine Ext.trans ?_ (by assumption); refine Ext.alloc ?_ _; exact Ext.refl _)) HT.out).mono ?_; rintro e w2 ⟨rfl, hx2⟩))
   all_goals go_ret
   all_goals rw [HR.out, HNM.out]
   all_goals exact ⟨ret_bool (by simp), (by repeat (first | exact Ext.refl _ | assumption | refine Ext.alloc ?_ _ | refine Ext.drew ?_ | refine Ext.trans ?_ (by assumption)))⟩
 · have d57 : (k == 57) = false := by rw [beq_eq_false_iff_ne]; omega
   clear h57
   go_enter Tryz.func14, Tryz.ntmps14
   go_wp2_with fail
   go_ret
   rw [HR.out]
   exact ⟨ret_bool (by simp [d57]), (by refine Ext.alloc ?_ _; exact Ext.refl _)⟩
theorem IsStmtBlock_c (S : Nat → Prop) (N : Nat) : (∀ t : Nd, t.size < N → t.wf → Tests S 37 Nd.isStmt t) ∧ (∀ t : Nd, t.size < N → t.wf → Tests S 14 Nd.isBlock t) := by
 induction N with
 | zero => exact ⟨fun t h => absurd h (Nat.not_lt_zero _), fun t h => absurd h (Nat.not_lt_zero _)⟩
 | succ N ih =>
  refine ⟨?_, ?_⟩
  · rintro ⟨k, n, s, l⟩ hN hwf a c w hs
    simp only [Nd.wf, Nd.size, Nd.sits] at *
    exact IsStmt_any k n s l a c S w hs hwf.2.2.2.2.1 hwf.2.2.2.2.2.1 hwf.2.2.2.2.2.2 (fun t ht => ih.2 t (by have := size_mem ht; omega) (rowWf_get hwf.2.2.2.2.2.2 t ht))
  · rintro ⟨k, n, s, l⟩ hN hwf a c w hs
    simp only [Nd.wf, Nd.size, Nd.sits] at *
    exact IsBlock_any k n s l a c S w hs hwf.2.2.2.2.2.1 (fun t ht => ih.1 t (by have := size_mem ht; omega) (rowWf_get hwf.2.2.2.2.2.2 t ht))
theorem IsBlock_t (S : Nat → Prop) (t : Nd) (h : t.wf) : Tests S 14 Nd.isBlock t := (IsStmtBlock_c S (t.size + 1)).2 t (by omega) h
end Bk
namespace Bk
open Go Go.RowKit Go.Proofs
def Prints (f : FuncId) (txt : Nd → List UInt8) (t : Nd) : Prop :=
 ∀ (B b : Nat) (l : List UInt8) (w : World) (a : Option Addr) (c : Nat), Bld B b l w → Tabs w → Tryz.prog.globals.size ≤ B → t.sits (· < B) w a → (l ++ txt t).length ≤ 140737488355328 →
  Calls Tryz.prog f #[.pointer (some ⟨b, 0, none⟩), t.val a c] w fun e w' => e = .returned (.tuple #[]) ∧ Bld B b (l ++ txt t) w' ∧ Fb B b w w'
theorem Nd.sits.fb {B b : Nat} {w w' : World} {t : Nd} {a : Option Addr} (h : t.sits (· < B) w a) (x : Fb B b w w') : t.sits (· < B) w' a :=
 Nd.sits_mono (fun _ h => h) (fun k o _ hb hc => (Below.cell (p := ⟨k, o, none⟩) x.below hb).trans hc) t a h
theorem Tabs.fb {B b : Nat} {w w' : World} (h : Tabs w) (x : Fb B b w w') (hB : Tryz.prog.globals.size ≤ B) : Tabs w' := h.below x.below hB
theorem operand_c (t : Nd) (hp : Prints 29 Nd.text t) (B b : Nat) (l : List UInt8) (q : Bool) (w : World) (a : Option Addr) (c : Nat) (h : Bld B b l w) (ht : Tabs w) (hB : Tryz.prog.globals.size ≤ B)
 (hs : t.sits (· < B) w a) (hlen : (l ++ wrap t.text q).length ≤ 140737488355328) :
 Calls Tryz.prog 53 #[.pointer (some ⟨b, 0, none⟩), t.val a c, .bool q] w fun e w' => e = .returned (.tuple #[]) ∧ Bld B b (l ++ wrap t.text q) w' ∧ Fb B b w w' := by
 have hle := h.le; have hlt := h.lt
 have HP := Lib.hid hp; clear hp
 cases q
 · have HL : Hid ((l ++ t.text).length ≤ 140737488355328) := Lib.hid (by simpa [wrap] using hlen)
   clear hlen
   go_enter Tryz.func53, Tryz.ntmps53
   go_wp2_with fail
   refine (HP.out B b l _ a c (h.alloc _) (ht.ext ((Ext.refl _).alloc _) (by omega)) hB (hs.ext ((Ext.refl _).alloc _)) HL.out).mono ?_; rintro e w1 ⟨rfl, hb1, hx1⟩; simp only
   go_wp2_with fail
   ((try simp only [Exit.inBlock, Exit.then]); refine bodyPost_ret (results_none rfl _ _ _) rfl ?_)
   exact ⟨rfl, by simpa [wrap] using hb1, Fb.trans ((Fb.refl _ _ _).alloc hle _) hx1⟩
 · simp only [wrap, if_true, List.length_append, List.length_cons, List.length_nil] at hlen
   go_enter Tryz.func53, Tryz.ntmps53
   go_wp2_with fail
   have hbx0 : Box w.heap.size #[.int .u8 t.kind, .int .i64 t.num, str t.name, .slice a t.kids.length c] 24 (w.alloc (.cells #[.int .u8 t.kind, .int .i64 t.num, str t.name, .slice a t.kids.length c] 24)) := Box.new _ _ _; refine (write_c B b (w.heap.size + 1) 1 l [[40]] _ ((h.alloc _).alloc _) (Box.new' _ _ (by simp)) (by decide) (by simp; omega)).mono ?_; rintro e w1 ⟨rfl, hb1, hx1⟩; have hbx1 := (hbx0.alloc (Obj.cells #[.string { data := #[40] }] 9)).fb hx1 (by omega) (by decide); have hxx1 : Fb B b w w1 := Fb.trans (((Fb.refl _ _ _).alloc hle _).alloc hle _) hx1; obtain ⟨g0, g1, g2, g3⟩ := hbx1.node; simp only
   go_wp2_with fail
   refine (HP.out B b (l ++ [[40]].flatten) _ a c hb1 (ht.fb hxx1 hB) hB (hs.fb hxx1) (by simp; omega)).mono ?_; rintro e w2 ⟨rfl, hb2, hx2⟩; simp only
   go_wp2_with fail
   refine (write_c B b w2.heap.size 1 _ [[41]] _ (hb2.alloc _) (Box.new' _ _ (by simp)) (by decide) (by simp; omega)).mono ?_; rintro e w3 ⟨rfl, hb3, hx3⟩; simp only
   go_wp2_with fail
   go_end0
   refine ⟨rfl, by simpa [wrap] using hb3, ?_⟩
   exact (hxx1.trans hx2).trans (Fb.trans ((Fb.refl _ _ _).alloc hb2.le _) hx3)
end Bk
namespace Bk
open Go Go.RowKit Go.Proofs Go.Sort
theorem ext_grow (w : World) (k : Nat) (os : Array Obj) : Ext w (grow (w.drewN k) os) := by
 have hh : (grow (w.drewN k) os).heap = w.heap ++ os := rfl; refine ⟨rfl, rfl, rfl, ?_, fun i hi => ?_⟩
 · rw [hh]; simp
 · rw [hh, Array.getElem?_append_left hi]
theorem Itoa_c (n : Int) (h0 : -9223372036854775808 ≤ n) (h1 : n ≤ 9223372036854775807) (w : World) (ht : Tabs w) :
 Calls Tryz.prog 51 #[.int .i64 n] w fun e w' => e = .returned (str (Lib.itoa n)) ∧ Ext w w' :=
 (Tryz.strconv_Itoa n h0 h1 w ht.pow).mono fun e w' ⟨he, k, os, hw⟩ => ⟨he, hw ▸ ext_grow w k os⟩
theorem binary_c (k n : Int) (s : List UInt8) (a : Option Addr) (l c : Nat) (w : World) :
 Calls Tryz.prog 54 #[.agg #[.int .u8 k, .int .i64 n, str s, .slice a l c]] w fun e w' => e = .returned (.bool (isBin k)) ∧ Ext w w' := by
 go_enter Tryz.func54, Tryz.ntmps54
 go_wp2_with fail
 all_goals go_ret
 all_goals exact ⟨ret_bool (by unfold isBin; rw [Bool.eq_iff_iff]; simp; try omega), (by repeat (first | exact Ext.refl _ | assumption | refine Ext.alloc ?_ _ | refine Ext.drew ?_ | refine Ext.trans ?_ (by assumption)))⟩
theorem expr_1 (n : Int) (s : List UInt8) (l : List Nd) (hn0 : -9223372036854775808 ≤ n) (hn1 : n ≤ 9223372036854775807) : Prints 29 Nd.text (.mk 1 n s l) := by
 intro B b t w a c h ht hB hs hlen
 have htx : (Nd.mk 1 n s l).text = Lib.itoa n := by rw [Nd.text.eq_def]; simp
 rw [htx] at hlen ⊢; have hle := h.le; have hlt := h.lt; simp only [List.length_append] at hlen; simp only [Nd.kind, Nd.num, Nd.name, Nd.kids, Nd.val]; clear hs
 go_enter Tryz.func29, Tryz.ntmps29
 go_wp2_with fail
 refine (Itoa_c n hn0 hn1 _ (ht.ext ((Ext.refl _).alloc _) (by omega))).mono ?_; rintro e w1 ⟨rfl, hx1⟩; have hb1 := (h.alloc _).ext hx1; simp only
 go_wp2_with fail
 refine (write_c B b w1.heap.size 1 t [Lib.itoa n] _ (hb1.alloc _) (Box.new' _ _ (by simp)) (by simp) (by simp; omega)).mono ?_; rintro e w2 ⟨rfl, hb2, hx2⟩; simp only
 go_wp2_with fail
 go_end0
 exact ⟨rfl, by simpa using hb2, Fb.trans (Fb.of_ext (by refine Ext.alloc ?_ _; refine Ext.trans ?_ (by assumption); refine Ext.alloc ?_ _; exact Ext.refl _) hle) hx2⟩
theorem expr_2 (n : Int) (s : List UInt8) (l : List Nd) : Prints 29 Nd.text (.mk 2 n s l) := by
 intro B b t w a c h ht hB hs hlen
 have htx : (Nd.mk 2 n s l).text = s := by rw [Nd.text.eq_def]; simp
 rw [htx] at hlen ⊢; have hle := h.le; have hlt := h.lt; simp only [List.length_append] at hlen; simp only [Nd.kind, Nd.num, Nd.name, Nd.kids, Nd.val]; clear hs
 go_enter Tryz.func29, Tryz.ntmps29
 go_wp2_with fail
 refine (write_c B b (w.heap.size + 1) 1 t [s] _ ((h.alloc _).alloc _) (Box.new' _ _ (by simp)) (by simp) (by simp; omega)).mono ?_; rintro e w2 ⟨rfl, hb2, hx2⟩; simp only
 go_wp2_with fail
 go_end0
 exact ⟨rfl, by simpa using hb2, Fb.trans (Fb.of_ext (by refine Ext.alloc ?_ _; refine Ext.alloc ?_ _; exact Ext.refl _) hle) hx2⟩
theorem expr_4 (n : Int) (s : List UInt8) (l : List Nd) : Prints 29 Nd.text (.mk 4 n s l) := by
 intro B b t w a c h ht hB hs hlen
 have htx : (Nd.mk 4 n s l).text = [116, 111, 112, 40] ++ s ++ [41] := by rw [Nd.text.eq_def]; simp
 rw [htx] at hlen ⊢; have hle := h.le; have hlt := h.lt; simp only [List.length_append, List.length_cons, List.length_nil] at hlen; simp only [Nd.kind, Nd.num, Nd.name, Nd.kids, Nd.val]; clear hs
 go_enter Tryz.func29, Tryz.ntmps29
 go_wp2_with fail
 refine (write_c B b (w.heap.size + 1) 3 t [[116, 111, 112, 40], s, [41]] _ ((h.alloc _).alloc _) (Box.new' _ _ (by simp)) (by simp) (by simp; omega)).mono ?_; rintro e w2 ⟨rfl, hb2, hx2⟩; simp only
 go_wp2_with fail
 go_end0
 exact ⟨rfl, by simpa using hb2, Fb.trans (Fb.of_ext (by refine Ext.alloc ?_ _; refine Ext.alloc ?_ _; exact Ext.refl _) hle) hx2⟩
theorem expr_5 (n : Int) (s : List UInt8) (l : List Nd) : Prints 29 Nd.text (.mk 5 n s l) := by
 intro B b t w a c h ht hB hs hlen
 have htx : (Nd.mk 5 n s l).text = [115, 105, 122, 101, 40] ++ s ++ [41] := by rw [Nd.text.eq_def]; simp
 rw [htx] at hlen ⊢; have hle := h.le; have hlt := h.lt; simp only [List.length_append, List.length_cons, List.length_nil] at hlen; simp only [Nd.kind, Nd.num, Nd.name, Nd.kids, Nd.val]; clear hs
 go_enter Tryz.func29, Tryz.ntmps29
 go_wp2_with fail
 refine (write_c B b (w.heap.size + 1) 3 t [[115, 105, 122, 101, 40], s, [41]] _ ((h.alloc _).alloc _) (Box.new' _ _ (by simp)) (by simp) (by simp; omega)).mono ?_; rintro e w2 ⟨rfl, hb2, hx2⟩; simp only
 go_wp2_with fail
 go_end0
 exact ⟨rfl, by simpa using hb2, Fb.trans (Fb.of_ext (by refine Ext.alloc ?_ _; refine Ext.alloc ?_ _; exact Ext.refl _) hle) hx2⟩
theorem row1 {S : Nat → Prop} {w : World} {x : Nd} {a : Option Addr} (h : rowSits S w [x] a) : ∃ kb ko xa xc, a = some ⟨kb, ko, none⟩ ∧ S kb ∧ w.cell? ⟨kb, ko, none⟩ = some (.int .u8 x.kind) ∧ w.cell? ⟨kb, ko + 1, none⟩ = some (.int .i64 x.num) ∧ w.cell? ⟨kb, ko + 2, none⟩ = some (str x.name) ∧ w.cell? ⟨kb, ko + 3, none⟩ = some (.slice xa x.kids.length xc) ∧ x.sits S w xa := by
 obtain ⟨b, o, a', c, rfl, h0, h1, h2, h3, h4, h5⟩ := rowSits_get h (i := 0) (t := x) rfl
 exact ⟨b, o, a', c, rfl, h0, by simpa using h1, by simpa using h2, by simpa using h3, by simpa using h4, h5⟩
theorem expr_3 (n : Int) (s : List UInt8) (x : Nd) (hx : Prints 29 Nd.text x) : Prints 29 Nd.text (.mk 3 n s [x]) := by
 intro B b t w a c h ht hB hs hlen
 have htx : (Nd.mk 3 n s [x]).text = s ++ [91] ++ x.text ++ [93] := by rw [Nd.text.eq_def]; simp
 rw [htx] at hlen ⊢; have hle := h.le; have hlt := h.lt; simp only [List.length_append, List.length_cons, List.length_nil] at hlen; simp only [Nd.kind, Nd.num, Nd.name, Nd.kids, Nd.val, List.length_cons, List.length_nil]
 have HX := Lib.hid hx; clear hx
 simp only [Nd.sits] at hs; obtain ⟨kb, ko, xa, xc, rfl, -, -⟩ := row1 hs; have hbx0 : Box w.heap.size #[.int .u8 3, .int .i64 n, str s, .slice (some ⟨kb, ko, none⟩) 1 c] 24 (w.alloc (.cells #[.int .u8 3, .int .i64 n, str s, .slice (some ⟨kb, ko, none⟩) 1 c] 24)) := Box.new _ _ _
 go_enter Tryz.func29, Tryz.ntmps29
 go_wp2_with fail
 refine (write_c B b (w.heap.size + 1) 2 t [s, [91]] _ ((h.alloc _).alloc _) (Box.new' _ _ (by simp)) (by simp) (by simp; omega)).mono ?_; rintro e w1 ⟨rfl, hb1, hx1⟩; have hbx1 := (hbx0.alloc _).fb hx1 (by omega) (by decide); have hxx1 : Fb B b w w1 := Fb.trans (Fb.of_ext (by refine Ext.alloc ?_ _; refine Ext.alloc ?_ _; exact Ext.refl _) hle) hx1; obtain ⟨g0, g1, g2, g3⟩ := hbx1.node; have hs1 := hs.fb hxx1; obtain ⟨kb', ko', xa, xc, he, hk1, k0, k1, k2, k3, hxs⟩ := row1 hs1; simp only [Option.some.injEq, Addr.mk.injEq] at he; obtain ⟨rfl, rfl, -⟩ := he; simp only
 go_wp2_with fail
 refine (HX.out B b _ _ xa xc hb1 (ht.fb hxx1 hB) hB hxs (by simp; omega)).mono ?_; rintro e w2 ⟨rfl, hb2, hx2⟩; simp only
 go_wp2_with fail
 refine (write_c B b w2.heap.size 1 _ [[93]] _ (hb2.alloc _) (Box.new' _ _ (by simp)) (by simp) (by simp; omega)).mono ?_; rintro e w3 ⟨rfl, hb3, hx3⟩; simp only
 go_wp2_with fail
 go_end0
 exact ⟨rfl, by simpa using hb3, (hxx1.trans hx2).trans (Fb.trans (Fb.of_ext (by refine Ext.alloc ?_ _; exact Ext.refl _) hb2.le) hx3)⟩
end Bk
namespace Bk
open Go Go.RowKit Go.Proofs
set_option maxHeartbeats 1000000 in
theorem expr_un (k n : Int) (s : List UInt8) (x : Nd) (hk : k = 6 ∨ k = 7) (hx : Prints 29 Nd.text x) : Prints 29 Nd.text (.mk k n s [x]) := by
 intro B b t w a c h ht hB hs hlen
 have htx : (Nd.mk k n s [x]).text = symbol k ++ wrap x.text (isBin x.kind) := by rcases hk with rfl | rfl <;> (rw [Nd.text.eq_def]; simp)
 rw [htx] at hlen ⊢; have hle := h.le; have hlt := h.lt; simp only [List.length_append, List.length_cons, List.length_nil] at hlen; simp only [Nd.kind, Nd.num, Nd.name, Nd.kids, Nd.val, List.length_cons, List.length_nil]
 have HX := Lib.hid hx; clear hx htx
 simp only [Nd.sits] at hs; obtain ⟨kb, ko, xa, xc, rfl, -, -⟩ := row1 hs; have hbx0 : Box w.heap.size #[.int .u8 k, .int .i64 n, str s, .slice (some ⟨kb, ko, none⟩) 1 c] 24 (w.alloc (.cells #[.int .u8 k, .int .i64 n, str s, .slice (some ⟨kb, ko, none⟩) 1 c] 24)) := Box.new _ _ _
 have hk0 : 0 ≤ k ∧ k ≤ 255 := by omega
 obtain ⟨hk0, hk1⟩ := hk0
 have d1 : (k == 1) = false := by rw [beq_eq_false_iff_ne]; omega
 have d2 : (k == 2) = false := by rw [beq_eq_false_iff_ne]; omega
 have d3 : (k == 3) = false := by rw [beq_eq_false_iff_ne]; omega
 have d4 : (k == 4) = false := by rw [beq_eq_false_iff_ne]; omega
 have d5 : (k == 5) = false := by rw [beq_eq_false_iff_ne]; omega
 have dk : (k == 6) = true ∨ (k == 6) = false ∧ (k == 7) = true := by rcases hk with rfl | rfl <;> simp
 clear hk
 rcases dk with d6 | ⟨d6, d7⟩
 all_goals
  go_enter Tryz.func29, Tryz.ntmps29
  go_wp2_with fail
  refine (arith_Symbol_c _ _ hk0 hk1 (ht.ext ((Ext.refl _).alloc _) (by omega))).mono ?_; rintro e w1 ⟨rfl, rfl⟩; simp only
  go_wp2_with fail
  refine (write_c B b (w.heap.size + 1) 1 t [symbol k] _ ((h.alloc _).alloc _) (Box.new' _ _ (by simp)) (by simp) (by simp; omega)).mono ?_; rintro e w1 ⟨rfl, hb1, hx1⟩; have hbx1 := (hbx0.alloc _).fb hx1 (by omega) (by decide); have hxx1 : Fb B b w w1 := Fb.trans (Fb.of_ext (by repeat (first | exact Ext.refl _ | assumption | refine Ext.alloc ?_ _ | refine Ext.drew ?_ | refine Ext.trans ?_ (by assumption))) hle) hx1; obtain ⟨g0, g1, g2, g3⟩ := hbx1.node; have hs1 := hs.fb hxx1; obtain ⟨kb', ko', xa, xc, he, hkB, k0, k1, k2, k3, hxs⟩ := row1 hs1; simp only [Option.some.injEq, Addr.mk.injEq] at he; obtain ⟨rfl, rfl, -⟩ := he; have ht1 := ht.fb hxx1 hB; simp only
  go_wp2_with fail
  go_region_held3 (fun w' => w'.cell? ⟨w.heap.size, 3, none⟩ = some (.slice (some ⟨kb, ko, none⟩) 1 c) ∧ w'.cell? ⟨kb, ko, none⟩ = some (.int .u8 x.kind) ∧ w'.cell? ⟨kb, ko + 1, none⟩ = some (.int .i64 x.num) ∧ w'.cell? ⟨kb, ko + 2, none⟩ = some (str x.name) ∧ w'.cell? ⟨kb, ko + 3, none⟩ = some (.slice xa x.kids.length xc))
   (first | exact ⟨g3, k0, k1, k2, k3⟩ | exact ⟨hx2.keep g3, hx2.keep k0, hx2.keep k1, hx2.keep k2, hx2.keep k3⟩ | exact ⟨(((hbx1.drew.ext hx2).fb hx3 (by omega) (by decide)).node).2.2.2, (Below.cell (p := ⟨_, _, none⟩) hx3.below hkB).trans (hx2.keep k0), (Below.cell (p := ⟨_, _, none⟩) hx3.below hkB).trans (hx2.keep k1), (Below.cell (p := ⟨_, _, none⟩) hx3.below hkB).trans (hx2.keep k2), (Below.cell (p := ⟨_, _, none⟩) hx3.below hkB).trans (hx2.keep k3)⟩)
   (first | (go_at_call 54; refine (binary_c _ _ _ _ _ _ _).mono ?_; rintro e w2 ⟨rfl, hx2⟩) | (go_at_call 53; refine (operand_c x HX.out B b _ _ _ xa xc (hb1.drew.ext hx2) ((ht1.ext (Ext.refl _).drew (by have := hb1.le; omega)).ext hx2 (by have := hb1.le; show _ ≤ w1.heap.size; omega)) hB (hxs.ext (Ext.trans (Ext.refl _).drew hx2)) (by simp; omega)).mono ?_; rintro e w3 ⟨rfl, hb3, hx3⟩))
  go_wp2_with fail
  go_end0
  exact ⟨rfl, by simpa [Nd.kind] using hb3, (hxx1.trans (Fb.of_ext (Ext.trans (Ext.refl _).drew hx2) hb1.le)).trans hx3⟩
end Bk
namespace Bk
open Go Go.RowKit Go.Proofs
theorem parenL_f {a k : Int} (h : isBin a = false) : parenL a k = false := by simp [parenL, h]
theorem parenR_f {a k : Int} (h : isBin a = false) : parenR a k = false := by simp [parenR, h]
theorem parenL_t {a k : Int} (h : isBin a = true) {q : Bool} (hq : q = true ↔ level a < level k) : parenL a k = q := by rw [Bool.eq_iff_iff, hq]; simp [parenL, h]
theorem parenR_t {a k : Int} (h : isBin a = true) {q : Bool} (hq : q = true ↔ level a ≤ level k) : parenR a k = q := by rw [Bool.eq_iff_iff, hq]; simp [parenR, h]
theorem row2 {S : Nat → Prop} {w : World} {x y : Nd} {a : Option Addr} (h : rowSits S w [x, y] a) : ∃ kb ko xa xc ya yc, a = some ⟨kb, ko, none⟩ ∧ S kb ∧ (w.cell? ⟨kb, ko, none⟩ = some (.int .u8 x.kind) ∧ w.cell? ⟨kb, ko + 1, none⟩ = some (.int .i64 x.num) ∧ w.cell? ⟨kb, ko + 2, none⟩ = some (str x.name) ∧ w.cell? ⟨kb, ko + 3, none⟩ = some (.slice xa x.kids.length xc) ∧ x.sits S w xa) ∧
 (w.cell? ⟨kb, ko + 4, none⟩ = some (.int .u8 y.kind) ∧ w.cell? ⟨kb, ko + 4 + 1, none⟩ = some (.int .i64 y.num) ∧ w.cell? ⟨kb, ko + 4 + 2, none⟩ = some (str y.name) ∧ w.cell? ⟨kb, ko + 4 + 3, none⟩ = some (.slice ya y.kids.length yc) ∧ y.sits S w ya) := by
 obtain ⟨b, o, a', c, rfl, h0, h1, h2, h3, h4, h5⟩ := rowSits_get h (i := 0) (t := x) rfl; obtain ⟨b', o', a'', c', he, h0', h1', h2', h3', h4', h5'⟩ := rowSits_get h (i := 1) (t := y) rfl; simp only [Option.some.injEq, Addr.mk.injEq] at he; obtain ⟨rfl, rfl, -⟩ := he
 exact ⟨b, o, a', c, a'', c', rfl, h0, ⟨by simpa using h1, by simpa using h2, by simpa using h3, by simpa using h4, h5⟩, ⟨by simpa using h1', by simpa using h2', by simpa using h3', by simpa using h4', h5'⟩⟩
set_option maxHeartbeats 8000000 in
set_option maxRecDepth 100000 in
theorem expr_bin (k n : Int) (s : List UInt8) (x y : Nd) (hk8 : 8 ≤ k) (hk23 : k ≤ 23) (hx : Prints 29 Nd.text x) (hy : Prints 29 Nd.text y) : Prints 29 Nd.text (.mk k n s [x, y]) := by
 intro B b t w a c h ht hB hs hlen
 have d1 : (k == 1) = false := by rw [beq_eq_false_iff_ne]; omega
 have d2 : (k == 2) = false := by rw [beq_eq_false_iff_ne]; omega
 have d3 : (k == 3) = false := by rw [beq_eq_false_iff_ne]; omega
 have d4 : (k == 4) = false := by rw [beq_eq_false_iff_ne]; omega
 have d5 : (k == 5) = false := by rw [beq_eq_false_iff_ne]; omega
 have d6 : (k == 6) = false := by rw [beq_eq_false_iff_ne]; omega
 have d7 : (k == 7) = false := by rw [beq_eq_false_iff_ne]; omega
 have htx : (Nd.mk k n s [x, y]).text = wrap x.text (parenL x.kind k) ++ [32] ++ symbol k ++ [32] ++ wrap y.text (parenR y.kind k) := by
  rw [Nd.text.eq_def]; simp only []; rw [if_neg (by omega), if_neg (by omega), if_neg (by omega), if_neg (by omega), if_neg (by omega), if_neg (by omega)]
 rw [htx] at hlen ⊢; have hle := h.le; have hlt := h.lt; simp only [List.length_append, List.length_cons, List.length_nil] at hlen; simp only [Nd.kind, Nd.num, Nd.name, Nd.kids, Nd.val, List.length_cons, List.length_nil]
 have HX := Lib.hid hx; clear hx htx
 have HY := Lib.hid hy; clear hy
 simp only [Nd.sits] at hs; obtain ⟨xk, xn, xs, xl⟩ := x; obtain ⟨yk, yn, ys, yl⟩ := y; obtain ⟨kb, ko, xa, xc, ya, yc, rfl, hkB, ⟨k0, k1, k2, k3, hxs⟩, ⟨m0, m1, m2, m3, hys⟩⟩ := row2 hs; simp only [Nd.kind, Nd.num, Nd.name, Nd.kids] at *
 go_enter Tryz.func29, Tryz.ntmps29
 have hkw : kb < w.heap.size := Nat.lt_of_lt_of_le hkB hle; have m1' : w.cell? ⟨kb, ko + 5, none⟩ = some (.int .i64 yn) := m1; have m2' : w.cell? ⟨kb, ko + 6, none⟩ = some (str ys) := m2; have m3' : w.cell? ⟨kb, ko + 7, none⟩ = some (.slice ya yl.length yc) := m3
 have hkw1 : kb < w.heap.size + 1 := by omega
 have hkw2 : kb < w.heap.size + 2 := by omega
 have hkw3 : kb < w.heap.size + 1 + 1 := by omega
 go_upto_region 2 with fail
 go_cut [4, 5] (fun s4 s5 W => ∃ pl pr : Nat, s4 = .pointer (some ⟨pl, 0, none⟩) ∧ s5 = .pointer (some ⟨pr, 0, none⟩) ∧ Box w.heap.size #[.int .u8 k, .int .i64 n, str s, .slice (some ⟨kb, ko, none⟩) 2 c] 24 W ∧ Box pl #[.int .u8 xk, .int .i64 xn, str xs, .slice xa xl.length xc] 24 W ∧ Box pr #[.int .u8 yk, .int .i64 yn, str ys, .slice ya yl.length yc] 24 W ∧ Ext w W ∧ b < pl ∧ b < pr)
 case first =>
  go_region
  · go_wp2_with fail
    go_meet
    exact ⟨w.heap.size + 1, w.heap.size + 1 + 1, rfl, rfl, (((Box.new _ _ _).alloc _).alloc _).drew, ((Box.new' _ _ (by simp)).alloc _).drew, (Box.new' _ _ (by simp)).drew, (by refine Ext.drew ?_; refine Ext.alloc ?_ _; refine Ext.alloc ?_ _; refine Ext.alloc ?_ _; exact Ext.refl _), by omega, by omega⟩
  · go_wp2_with fail
    go_meet
    exact ⟨w.heap.size + 1 + 1, w.heap.size + 1, rfl, rfl, (((Box.new _ _ _).alloc _).alloc _).drew, (Box.new' _ _ (by simp)).drew, ((Box.new' _ _ (by simp)).alloc _).drew, (by refine Ext.drew ?_; refine Ext.alloc ?_ _; refine Ext.alloc ?_ _; refine Ext.alloc ?_ _; exact Ext.refl _), by omega, by omega⟩
 case rest =>
  obtain ⟨W, hW⟩ : ∃ W : World, W = wc := ⟨wc, rfl⟩; subst hW; obtain ⟨pl, pr, rfl, rfl, hbn, hbl, hbr, hxW, hpl, hpr⟩ := hcut; have hle1 : B ≤ W.heap.size := Nat.le_trans hle hxW.size; have ht1 := ht.ext hxW (by omega); have hxW1 : Fb B b w W := Fb.of_ext hxW hle; have hxs1 := hxs.ext hxW; have hys1 := hys.ext hxW; have hb0 := h.ext hxW; clear k0 k1 k2 k3 m0 m1 m2 m3 m1' m2' m3' hxs hys hs h ht hkw hkw1 hkw2 hkw3; have hbb := hb0.lt; obtain ⟨c0, c1, c2, c3⟩ := hbn.node; obtain ⟨l0, l1, l2, l3⟩ := hbl.node
  go_wp2_with fail
  refine (arith_Level_c _ _ (by omega) (by omega)).mono ?_; rintro e w1 ⟨rfl, rfl⟩; simp only
  go_upto_region 4 with fail
  go_cut [] (fun u3 => Bld B b (t ++ wrap (Nd.mk xk xn xs xl).text (parenL xk k)) u3 ∧ Fb B b W u3)
  case first =>
   cases hq : isBin xk
   · have HQ := Lib.hid hq; clear hq
     refine wp_region_held_drew (S := fun w' => w'.cell? ⟨pl, 0, none⟩ = some (.int .u8 xk) ∧ w'.cell? ⟨pl, 1, none⟩ = some (.int .i64 xn) ∧ w'.cell? ⟨pl, 2, none⟩ = some (str xs) ∧ w'.cell? ⟨pl, 3, none⟩ = some (.slice xa xl.length xc)) (by kernel_rfl) ⟨l0, l1, l2, l3⟩ (fun hHeld => ?_)
     ((refine wpAnyH_take (i := 0) (oi := _) (v := ?v0_1) rfl (by kernel_rfl) (by kernel_rfl) (by kernel_rfl) (fun _ _ _ h => h) (Or.inl ⟨by rfl, ?y0_1⟩) (by assumption) ?r0_1); (case y0_1 => (intro w hSw; (try dsimp only at hSw); go_simp; try (with_reducible rfl))); (try simp only [Act.put, List.getElem_toArray, List.getElem_cons_zero, List.getElem_cons_succ, List.setIfInBounds_toArray, List.set_cons_zero, List.set_cons_succ]))
     ((refine wpAnyH_take (i := 1) (oi := _) (v := ?v1_2) rfl (by kernel_rfl) (by kernel_rfl) (by kernel_rfl) (fun _ _ _ h => h) (Or.inl ⟨by rfl, ?y1_2⟩) (by assumption) ?r1_2); (case y1_2 => (intro w hSw; (try dsimp only at hSw); go_simp; try (with_reducible rfl))); (try simp only [Act.put, List.getElem_toArray, List.getElem_cons_zero, List.getElem_cons_succ, List.setIfInBounds_toArray, List.set_cons_zero, List.set_cons_succ]))
     ((refine wpAnyH_take (i := 2) (oi := _) (v := ?v2_3) rfl (by kernel_rfl) (by kernel_rfl) (by kernel_rfl) (fun _ _ _ h => h) (Or.inl ⟨by rfl, ?y2_3⟩) (by assumption) ?r2_3); (case y2_3 => (intro w hSw; (try dsimp only at hSw); go_simp; try (with_reducible rfl))); (try simp only [Act.put, List.getElem_toArray, List.getElem_cons_zero, List.getElem_cons_succ, List.setIfInBounds_toArray, List.set_cons_zero, List.set_cons_succ]))
     ((refine wpAnyH_ready (rs := [3]) (by kernel_rfl) (by simp) ?_); (refine AllReadyH.cons (o := _) rfl (fun K hK => ?_) AllReadyH.nil); go_simp)
     refine (binary_c _ _ _ _ _ _ _).mono ?_; rintro e u2 ⟨rfl, hx2⟩; rw [HQ.out]; refine hK.out _ _ ⟨hx2.keep l0, hx2.keep l1, hx2.keep l2, hx2.keep l3⟩ (fun hHeld => ?_); clear hK K; (try simp only [Act.put, List.getElem_toArray, List.getElem_cons_zero, List.getElem_cons_succ, List.setIfInBounds_toArray, List.set_cons_zero, List.set_cons_succ])
     ((refine wpAnyH_take (i := 4) (oi := _) (v := ?v4_4) rfl (by kernel_rfl) (by kernel_rfl) (by kernel_rfl) (fun _ _ _ h => h) (Or.inl ⟨by rfl, ?y4_4⟩) (by assumption) ?r4_4); (case y4_4 => (intro w hSw; (try dsimp only at hSw); go_simp; try (with_reducible rfl))); (try simp only [Act.put, List.getElem_toArray, List.getElem_cons_zero, List.getElem_cons_succ, List.setIfInBounds_toArray, List.set_cons_zero, List.set_cons_succ]))
     ((refine wpAnyH_take (i := 5) (oi := _) (v := undef) rfl (by kernel_rfl) (by kernel_rfl) (by kernel_rfl) (fun _ _ _ h => h) (Or.inr ⟨by rfl, rfl⟩) (by assumption) ?_); (try simp only [Act.put, List.getElem_toArray, List.getElem_cons_zero, List.getElem_cons_succ, List.setIfInBounds_toArray, List.set_cons_zero, List.set_cons_succ]))
     ((refine wpAnyH_take (i := 6) (oi := _) (v := undef) rfl (by kernel_rfl) (by kernel_rfl) (by kernel_rfl) (fun _ _ _ h => h) (Or.inr ⟨by rfl, rfl⟩) (by assumption) ?_); (try simp only [Act.put, List.getElem_toArray, List.getElem_cons_zero, List.getElem_cons_succ, List.setIfInBounds_toArray, List.set_cons_zero, List.set_cons_succ]))
     ((refine wpAnyH_take (i := 7) (oi := _) (v := undef) rfl (by kernel_rfl) (by kernel_rfl) (by kernel_rfl) (fun _ _ _ h => h) (Or.inr ⟨by rfl, rfl⟩) (by assumption) ?_); (try simp only [Act.put, List.getElem_toArray, List.getElem_cons_zero, List.getElem_cons_succ, List.setIfInBounds_toArray, List.set_cons_zero, List.set_cons_succ]))
     ((refine wpAnyH_take (i := 8) (oi := _) (v := undef) rfl (by kernel_rfl) (by kernel_rfl) (by kernel_rfl) (fun _ _ _ h => h) (Or.inr ⟨by rfl, rfl⟩) (by assumption) ?_); (try simp only [Act.put, List.getElem_toArray, List.getElem_cons_zero, List.getElem_cons_succ, List.setIfInBounds_toArray, List.set_cons_zero, List.set_cons_succ]))
     ((refine wpAnyH_take (i := 9) (oi := _) (v := undef) rfl (by kernel_rfl) (by kernel_rfl) (by kernel_rfl) (fun _ _ _ h => h) (Or.inr ⟨by rfl, rfl⟩) (by assumption) ?_); (try simp only [Act.put, List.getElem_toArray, List.getElem_cons_zero, List.getElem_cons_succ, List.setIfInBounds_toArray, List.set_cons_zero, List.set_cons_succ]))
     ((refine wpAnyH_take (i := 10) (oi := _) (v := ?v10_5) rfl (by kernel_rfl) (by kernel_rfl) (by kernel_rfl) (fun _ _ _ h => h) (Or.inl ⟨by rfl, ?y10_5⟩) (by assumption) ?r10_5); (case y10_5 => (intro w hSw; (try dsimp only at hSw); go_simp; try (with_reducible rfl))); (try simp only [Act.put, List.getElem_toArray, List.getElem_cons_zero, List.getElem_cons_succ, List.setIfInBounds_toArray, List.set_cons_zero, List.set_cons_succ]))
     ((refine wpAnyH_ready (rs := [11]) (by kernel_rfl) (by simp) ?_); (refine AllReadyH.cons (o := _) rfl (fun K hK => ?_) AllReadyH.nil); go_simp)
     refine (operand_c (.mk xk xn xs xl) HX.out B b _ _ _ xa xc (hb0.drew.ext hx2) ((ht1.ext (Ext.refl _).drew (by omega)).ext hx2 (by show _ ≤ W.heap.size; omega)) hB (hxs1.ext (Ext.trans (Ext.refl _).drew hx2)) (by rw [← parenL_f (k := k) HQ.out]; simp only [List.length_append, List.flatten_cons, List.flatten_nil, List.length_cons, List.length_nil] at hlen ⊢; omega)).mono ?_; rintro e u3 ⟨rfl, hb3, hx3⟩; rw [← parenL_f (k := k) HQ.out] at hb3; refine hK.out _ _ ((hbl.drew.ext hx2).fb hx3 (by omega) (by decide)).node (fun hHeld => ?_); clear hK K hHeld; (try simp only [Act.put, List.getElem_toArray, List.getElem_cons_zero, List.getElem_cons_succ, List.setIfInBounds_toArray, List.set_cons_zero, List.set_cons_succ]); (refine wpAnyH_done (by kernel_rfl) ?_ _)
     go_wp2_with fail
     go_meet
     refine ⟨?_, (Fb.of_ext (Ext.trans (Ext.refl _).drew hx2) hle1).trans hx3⟩
     exact hb3
   · have HQ := Lib.hid hq; clear hq
     refine wp_region_held_drew (S := fun w' => w'.cell? ⟨pl, 0, none⟩ = some (.int .u8 xk) ∧ w'.cell? ⟨pl, 1, none⟩ = some (.int .i64 xn) ∧ w'.cell? ⟨pl, 2, none⟩ = some (str xs) ∧ w'.cell? ⟨pl, 3, none⟩ = some (.slice xa xl.length xc)) (by kernel_rfl) ⟨l0, l1, l2, l3⟩ (fun hHeld => ?_)
     ((refine wpAnyH_take (i := 0) (oi := _) (v := ?v0_6) rfl (by kernel_rfl) (by kernel_rfl) (by kernel_rfl) (fun _ _ _ h => h) (Or.inl ⟨by rfl, ?y0_6⟩) (by assumption) ?r0_6); (case y0_6 => (intro w hSw; (try dsimp only at hSw); go_simp; try (with_reducible rfl))); (try simp only [Act.put, List.getElem_toArray, List.getElem_cons_zero, List.getElem_cons_succ, List.setIfInBounds_toArray, List.set_cons_zero, List.set_cons_succ]))
     ((refine wpAnyH_take (i := 1) (oi := _) (v := ?v1_7) rfl (by kernel_rfl) (by kernel_rfl) (by kernel_rfl) (fun _ _ _ h => h) (Or.inl ⟨by rfl, ?y1_7⟩) (by assumption) ?r1_7); (case y1_7 => (intro w hSw; (try dsimp only at hSw); go_simp; try (with_reducible rfl))); (try simp only [Act.put, List.getElem_toArray, List.getElem_cons_zero, List.getElem_cons_succ, List.setIfInBounds_toArray, List.set_cons_zero, List.set_cons_succ]))
     ((refine wpAnyH_take (i := 2) (oi := _) (v := ?v2_8) rfl (by kernel_rfl) (by kernel_rfl) (by kernel_rfl) (fun _ _ _ h => h) (Or.inl ⟨by rfl, ?y2_8⟩) (by assumption) ?r2_8); (case y2_8 => (intro w hSw; (try dsimp only at hSw); go_simp; try (with_reducible rfl))); (try simp only [Act.put, List.getElem_toArray, List.getElem_cons_zero, List.getElem_cons_succ, List.setIfInBounds_toArray, List.set_cons_zero, List.set_cons_succ]))
     ((refine wpAnyH_ready (rs := [3]) (by kernel_rfl) (by simp) ?_); (refine AllReadyH.cons (o := _) rfl (fun K hK => ?_) AllReadyH.nil); go_simp)
     refine (binary_c _ _ _ _ _ _ _).mono ?_; rintro e u2 ⟨rfl, hx2⟩; rw [HQ.out]; refine hK.out _ _ ⟨hx2.keep l0, hx2.keep l1, hx2.keep l2, hx2.keep l3⟩ (fun hHeld => ?_); clear hK K; (try simp only [Act.put, List.getElem_toArray, List.getElem_cons_zero, List.getElem_cons_succ, List.setIfInBounds_toArray, List.set_cons_zero, List.set_cons_succ])
     ((refine wpAnyH_take (i := 4) (oi := _) (v := ?v4_9) rfl (by kernel_rfl) (by kernel_rfl) (by kernel_rfl) (fun _ _ _ h => h) (Or.inl ⟨by rfl, ?y4_9⟩) (by assumption) ?r4_9); (case y4_9 => (intro w hSw; (try dsimp only at hSw); go_simp; try (with_reducible rfl))); (try simp only [Act.put, List.getElem_toArray, List.getElem_cons_zero, List.getElem_cons_succ, List.setIfInBounds_toArray, List.set_cons_zero, List.set_cons_succ]))
     have hbk : 8 ≤ xk ∧ xk ≤ 23 := by have := HQ.out; simp [isBin] at this; exact this
     obtain ⟨hbk0, hbk1⟩ := hbk
     ((refine wpAnyH_take (i := 5) (oi := _) (v := ?v5_10) rfl (by kernel_rfl) (by kernel_rfl) (by kernel_rfl) (fun _ _ _ h => h) (Or.inl ⟨by rfl, ?y5_10⟩) (by assumption) ?r5_10); (case y5_10 => (intro w hSw; (try dsimp only at hSw); go_simp; try (with_reducible rfl))); (try simp only [Act.put, List.getElem_toArray, List.getElem_cons_zero, List.getElem_cons_succ, List.setIfInBounds_toArray, List.set_cons_zero, List.set_cons_succ]))
     ((refine wpAnyH_take (i := 6) (oi := _) (v := ?v6_11) rfl (by kernel_rfl) (by kernel_rfl) (by kernel_rfl) (fun _ _ _ h => h) (Or.inl ⟨by rfl, ?y6_11⟩) (by assumption) ?r6_11); (case y6_11 => (intro w hSw; (try dsimp only at hSw); go_simp; try (with_reducible rfl))); (try simp only [Act.put, List.getElem_toArray, List.getElem_cons_zero, List.getElem_cons_succ, List.setIfInBounds_toArray, List.set_cons_zero, List.set_cons_succ]))
     ((refine wpAnyH_take (i := 8) (oi := _) (v := ?v8_12) rfl (by kernel_rfl) (by kernel_rfl) (by kernel_rfl) (fun _ _ _ h => h) (Or.inl ⟨by rfl, ?y8_12⟩) (by assumption) ?r8_12); (case y8_12 => (intro w hSw; (try dsimp only at hSw); go_simp; try (with_reducible rfl))); (try simp only [Act.put, List.getElem_toArray, List.getElem_cons_zero, List.getElem_cons_succ, List.setIfInBounds_toArray, List.set_cons_zero, List.set_cons_succ]))
     ((refine wpAnyH_ready (rs := [7]) (by kernel_rfl) (by simp) ?_); (refine AllReadyH.cons (o := _) rfl (fun K hK => ?_) AllReadyH.nil); go_simp)
     refine (arith_Level_c _ _ (by omega) (by omega)).mono ?_; rintro e u' ⟨rfl, rfl⟩; refine hK.out _ _ ⟨hx2.keep l0, hx2.keep l1, hx2.keep l2, hx2.keep l3⟩ (fun hHeld => ?_); clear hK K; (try simp only [Act.put, List.getElem_toArray, List.getElem_cons_zero, List.getElem_cons_succ, List.setIfInBounds_toArray, List.set_cons_zero, List.set_cons_succ])
     ((refine wpAnyH_take (i := 9) (oi := _) (v := ?v9_13) rfl (by kernel_rfl) (by kernel_rfl) (by kernel_rfl) (fun _ _ _ h => h) (Or.inl ⟨by rfl, ?y9_13⟩) (by assumption) ?r9_13); (case y9_13 => (intro w hSw; (try dsimp only at hSw); go_simp; try (with_reducible rfl))); (try simp only [Act.put, List.getElem_toArray, List.getElem_cons_zero, List.getElem_cons_succ, List.setIfInBounds_toArray, List.set_cons_zero, List.set_cons_succ]))
     ((refine wpAnyH_take (i := 10) (oi := _) (v := ?v10_14) rfl (by kernel_rfl) (by kernel_rfl) (by kernel_rfl) (fun _ _ _ h => h) (Or.inl ⟨by rfl, ?y10_14⟩) (by assumption) ?r10_14); (case y10_14 => (intro w hSw; (try dsimp only at hSw); go_simp; try (with_reducible rfl))); (try simp only [Act.put, List.getElem_toArray, List.getElem_cons_zero, List.getElem_cons_succ, List.setIfInBounds_toArray, List.set_cons_zero, List.set_cons_succ]))
     ((refine wpAnyH_ready (rs := [11]) (by kernel_rfl) (by simp) ?_); (refine AllReadyH.cons (o := _) rfl (fun K hK => ?_) AllReadyH.nil); go_simp)
     refine (operand_c (.mk xk xn xs xl) HX.out B b _ _ _ xa xc (hb0.drew.ext hx2) ((ht1.ext (Ext.refl _).drew (by omega)).ext hx2 (by show _ ≤ W.heap.size; omega)) hB (hxs1.ext (Ext.trans (Ext.refl _).drew hx2)) (by rw [← parenL_t (k := k) HQ.out (decide_eq_true_iff)]; simp only [List.length_append, List.flatten_cons, List.flatten_nil, List.length_cons, List.length_nil] at hlen ⊢; omega)).mono ?_; rintro e u3 ⟨rfl, hb3, hx3⟩; rw [← parenL_t (k := k) HQ.out (decide_eq_true_iff)] at hb3; refine hK.out _ _ ((hbl.drew.ext hx2).fb hx3 (by omega) (by decide)).node (fun hHeld => ?_); clear hK K hHeld; (try simp only [Act.put, List.getElem_toArray, List.getElem_cons_zero, List.getElem_cons_succ, List.setIfInBounds_toArray, List.set_cons_zero, List.set_cons_succ]); (refine wpAnyH_done (by kernel_rfl) ?_ _)
     go_wp2_with fail
     go_meet
     refine ⟨?_, (Fb.of_ext (Ext.trans (Ext.refl _).drew hx2) hle1).trans hx3⟩
     exact hb3
  case rest =>
   obtain ⟨u3, hu3⟩ : ∃ u3 : World, u3 = wc := ⟨wc, rfl⟩; subst hu3; obtain ⟨hb3, hxx3⟩ := hcut
   have hlen2 : t.length + (wrap (Nd.mk xk xn xs xl).text (parenL xk k)).length + (1 + (symbol k).length + 1) + (wrap (Nd.mk yk yn ys yl).text (parenR yk k)).length ≤ 140737488355328 := by omega
   clear hlen; obtain ⟨c0, c1, c2, c3⟩ := (hbn.fb hxx3 (by omega) (by decide)).node; have hbr3 := hbr.fb hxx3 (by omega) (by decide); have ht3 := ht1.fb hxx3 hB; have hys3 := hys1.fb hxx3; have hle3 := hb3.le; clear hbl hbn hxs1 l0 l1 l2 l3 ht1 hys1 hbr hb0
   go_wp2_with fail
   refine (arith_Symbol_c _ _ (by omega) (by omega) ht3).mono ?_; rintro e u4 ⟨rfl, rfl⟩; simp only
   go_wp2_with fail
   refine (write_c B b u3.heap.size 3 _ [[32], symbol k, [32]] _ (hb3.alloc _) (Box.new' _ _ (by simp)) (by simp) (by simp only [List.length_append, List.flatten_cons, List.flatten_nil, List.length_cons, List.length_nil]; omega)).mono ?_; rintro e u4 ⟨rfl, hb4, hx4⟩; have hxx4 : Fb B b u3 u4 := Fb.trans (Fb.of_ext (by refine Ext.alloc ?_ _; exact Ext.refl _) hle3) hx4; have hbr4 := hbr3.fb hxx4 (by omega) (by decide); obtain ⟨r0, r1, r2, r3⟩ := hbr4.node; have ht4 := ht3.fb hxx4 hB; have hys4 := hys3.fb hxx4; have hle4 := hb4.le; clear hbr3 ht3 hys3 c0 c1 c2 c3 hx4; simp only
   go_wp2_with fail
   cases hq : isBin yk
   · have HR := Lib.hid hq; clear hq
     refine wp_region_held_drew (S := fun w' => w'.cell? ⟨pr, 0, none⟩ = some (.int .u8 yk) ∧ w'.cell? ⟨pr, 1, none⟩ = some (.int .i64 yn) ∧ w'.cell? ⟨pr, 2, none⟩ = some (str ys) ∧ w'.cell? ⟨pr, 3, none⟩ = some (.slice ya yl.length yc)) (by kernel_rfl) ⟨r0, r1, r2, r3⟩ (fun hHeld => ?_)
     ((refine wpAnyH_take (i := 0) (oi := _) (v := ?v0_15) rfl (by kernel_rfl) (by kernel_rfl) (by kernel_rfl) (fun _ _ _ h => h) (Or.inl ⟨by rfl, ?y0_15⟩) (by assumption) ?r0_15); (case y0_15 => (intro w hSw; (try dsimp only at hSw); go_simp; try (with_reducible rfl))); (try simp only [Act.put, List.getElem_toArray, List.getElem_cons_zero, List.getElem_cons_succ, List.setIfInBounds_toArray, List.set_cons_zero, List.set_cons_succ]))
     ((refine wpAnyH_take (i := 1) (oi := _) (v := ?v1_16) rfl (by kernel_rfl) (by kernel_rfl) (by kernel_rfl) (fun _ _ _ h => h) (Or.inl ⟨by rfl, ?y1_16⟩) (by assumption) ?r1_16); (case y1_16 => (intro w hSw; (try dsimp only at hSw); go_simp; try (with_reducible rfl))); (try simp only [Act.put, List.getElem_toArray, List.getElem_cons_zero, List.getElem_cons_succ, List.setIfInBounds_toArray, List.set_cons_zero, List.set_cons_succ]))
     ((refine wpAnyH_take (i := 2) (oi := _) (v := ?v2_17) rfl (by kernel_rfl) (by kernel_rfl) (by kernel_rfl) (fun _ _ _ h => h) (Or.inl ⟨by rfl, ?y2_17⟩) (by assumption) ?r2_17); (case y2_17 => (intro w hSw; (try dsimp only at hSw); go_simp; try (with_reducible rfl))); (try simp only [Act.put, List.getElem_toArray, List.getElem_cons_zero, List.getElem_cons_succ, List.setIfInBounds_toArray, List.set_cons_zero, List.set_cons_succ]))
     ((refine wpAnyH_ready (rs := [3]) (by kernel_rfl) (by simp) ?_); (refine AllReadyH.cons (o := _) rfl (fun K hK => ?_) AllReadyH.nil); go_simp)
     refine (binary_c _ _ _ _ _ _ _).mono ?_; rintro e u5 ⟨rfl, hx5⟩; rw [HR.out]; refine hK.out _ _ ⟨hx5.keep r0, hx5.keep r1, hx5.keep r2, hx5.keep r3⟩ (fun hHeld => ?_); clear hK K; (try simp only [Act.put, List.getElem_toArray, List.getElem_cons_zero, List.getElem_cons_succ, List.setIfInBounds_toArray, List.set_cons_zero, List.set_cons_succ])
     ((refine wpAnyH_take (i := 4) (oi := _) (v := ?v4_18) rfl (by kernel_rfl) (by kernel_rfl) (by kernel_rfl) (fun _ _ _ h => h) (Or.inl ⟨by rfl, ?y4_18⟩) (by assumption) ?r4_18); (case y4_18 => (intro w hSw; (try dsimp only at hSw); go_simp; try (with_reducible rfl))); (try simp only [Act.put, List.getElem_toArray, List.getElem_cons_zero, List.getElem_cons_succ, List.setIfInBounds_toArray, List.set_cons_zero, List.set_cons_succ]))
     ((refine wpAnyH_take (i := 5) (oi := _) (v := undef) rfl (by kernel_rfl) (by kernel_rfl) (by kernel_rfl) (fun _ _ _ h => h) (Or.inr ⟨by rfl, rfl⟩) (by assumption) ?_); (try simp only [Act.put, List.getElem_toArray, List.getElem_cons_zero, List.getElem_cons_succ, List.setIfInBounds_toArray, List.set_cons_zero, List.set_cons_succ]))
     ((refine wpAnyH_take (i := 6) (oi := _) (v := undef) rfl (by kernel_rfl) (by kernel_rfl) (by kernel_rfl) (fun _ _ _ h => h) (Or.inr ⟨by rfl, rfl⟩) (by assumption) ?_); (try simp only [Act.put, List.getElem_toArray, List.getElem_cons_zero, List.getElem_cons_succ, List.setIfInBounds_toArray, List.set_cons_zero, List.set_cons_succ]))
     ((refine wpAnyH_take (i := 7) (oi := _) (v := undef) rfl (by kernel_rfl) (by kernel_rfl) (by kernel_rfl) (fun _ _ _ h => h) (Or.inr ⟨by rfl, rfl⟩) (by assumption) ?_); (try simp only [Act.put, List.getElem_toArray, List.getElem_cons_zero, List.getElem_cons_succ, List.setIfInBounds_toArray, List.set_cons_zero, List.set_cons_succ]))
     ((refine wpAnyH_take (i := 8) (oi := _) (v := undef) rfl (by kernel_rfl) (by kernel_rfl) (by kernel_rfl) (fun _ _ _ h => h) (Or.inr ⟨by rfl, rfl⟩) (by assumption) ?_); (try simp only [Act.put, List.getElem_toArray, List.getElem_cons_zero, List.getElem_cons_succ, List.setIfInBounds_toArray, List.set_cons_zero, List.set_cons_succ]))
     ((refine wpAnyH_take (i := 9) (oi := _) (v := undef) rfl (by kernel_rfl) (by kernel_rfl) (by kernel_rfl) (fun _ _ _ h => h) (Or.inr ⟨by rfl, rfl⟩) (by assumption) ?_); (try simp only [Act.put, List.getElem_toArray, List.getElem_cons_zero, List.getElem_cons_succ, List.setIfInBounds_toArray, List.set_cons_zero, List.set_cons_succ]))
     ((refine wpAnyH_take (i := 10) (oi := _) (v := ?v10_19) rfl (by kernel_rfl) (by kernel_rfl) (by kernel_rfl) (fun _ _ _ h => h) (Or.inl ⟨by rfl, ?y10_19⟩) (by assumption) ?r10_19); (case y10_19 => (intro w hSw; (try dsimp only at hSw); go_simp; try (with_reducible rfl))); (try simp only [Act.put, List.getElem_toArray, List.getElem_cons_zero, List.getElem_cons_succ, List.setIfInBounds_toArray, List.set_cons_zero, List.set_cons_succ]))
     ((refine wpAnyH_ready (rs := [11]) (by kernel_rfl) (by simp) ?_); (refine AllReadyH.cons (o := _) rfl (fun K hK => ?_) AllReadyH.nil); go_simp)
     refine (operand_c (.mk yk yn ys yl) HY.out B b _ _ _ ya yc (hb4.drew.ext hx5) ((ht4.ext (Ext.refl _).drew (by omega)).ext hx5 (by show _ ≤ u4.heap.size; omega)) hB (hys4.ext (Ext.trans (Ext.refl _).drew hx5)) (by rw [← parenR_f (k := k) HR.out]; simp only [List.length_append, List.flatten_cons, List.flatten_nil, List.length_cons, List.length_nil] at hlen2 ⊢; omega)).mono ?_; rintro e u6 ⟨rfl, hb6, hx6⟩; rw [← parenR_f (k := k) HR.out] at hb6; refine hK.out _ _ ((hbr4.drew.ext hx5).fb hx6 (by omega) (by decide)).node (fun hHeld => ?_); clear hK K hHeld; (try simp only [Act.put, List.getElem_toArray, List.getElem_cons_zero, List.getElem_cons_succ, List.setIfInBounds_toArray, List.set_cons_zero, List.set_cons_succ]); (refine wpAnyH_done (by kernel_rfl) ?_ _)
     go_wp2_with fail
     go_end0
     refine ⟨rfl, ?_, (hxW1.trans hxx3).trans (hxx4.trans ((Fb.of_ext (Ext.trans (Ext.refl _).drew hx5) hle4).trans hx6))⟩
     simpa using hb6
   · have HR := Lib.hid hq; clear hq
     refine wp_region_held_drew (S := fun w' => w'.cell? ⟨pr, 0, none⟩ = some (.int .u8 yk) ∧ w'.cell? ⟨pr, 1, none⟩ = some (.int .i64 yn) ∧ w'.cell? ⟨pr, 2, none⟩ = some (str ys) ∧ w'.cell? ⟨pr, 3, none⟩ = some (.slice ya yl.length yc)) (by kernel_rfl) ⟨r0, r1, r2, r3⟩ (fun hHeld => ?_)
     ((refine wpAnyH_take (i := 0) (oi := _) (v := ?v0_20) rfl (by kernel_rfl) (by kernel_rfl) (by kernel_rfl) (fun _ _ _ h => h) (Or.inl ⟨by rfl, ?y0_20⟩) (by assumption) ?r0_20); (case y0_20 => (intro w hSw; (try dsimp only at hSw); go_simp; try (with_reducible rfl))); (try simp only [Act.put, List.getElem_toArray, List.getElem_cons_zero, List.getElem_cons_succ, List.setIfInBounds_toArray, List.set_cons_zero, List.set_cons_succ]))
     ((refine wpAnyH_take (i := 1) (oi := _) (v := ?v1_21) rfl (by kernel_rfl) (by kernel_rfl) (by kernel_rfl) (fun _ _ _ h => h) (Or.inl ⟨by rfl, ?y1_21⟩) (by assumption) ?r1_21); (case y1_21 => (intro w hSw; (try dsimp only at hSw); go_simp; try (with_reducible rfl))); (try simp only [Act.put, List.getElem_toArray, List.getElem_cons_zero, List.getElem_cons_succ, List.setIfInBounds_toArray, List.set_cons_zero, List.set_cons_succ]))
     ((refine wpAnyH_take (i := 2) (oi := _) (v := ?v2_22) rfl (by kernel_rfl) (by kernel_rfl) (by kernel_rfl) (fun _ _ _ h => h) (Or.inl ⟨by rfl, ?y2_22⟩) (by assumption) ?r2_22); (case y2_22 => (intro w hSw; (try dsimp only at hSw); go_simp; try (with_reducible rfl))); (try simp only [Act.put, List.getElem_toArray, List.getElem_cons_zero, List.getElem_cons_succ, List.setIfInBounds_toArray, List.set_cons_zero, List.set_cons_succ]))
     ((refine wpAnyH_ready (rs := [3]) (by kernel_rfl) (by simp) ?_); (refine AllReadyH.cons (o := _) rfl (fun K hK => ?_) AllReadyH.nil); go_simp)
     refine (binary_c _ _ _ _ _ _ _).mono ?_; rintro e u5 ⟨rfl, hx5⟩; rw [HR.out]; refine hK.out _ _ ⟨hx5.keep r0, hx5.keep r1, hx5.keep r2, hx5.keep r3⟩ (fun hHeld => ?_); clear hK K; (try simp only [Act.put, List.getElem_toArray, List.getElem_cons_zero, List.getElem_cons_succ, List.setIfInBounds_toArray, List.set_cons_zero, List.set_cons_succ])
     ((refine wpAnyH_take (i := 4) (oi := _) (v := ?v4_23) rfl (by kernel_rfl) (by kernel_rfl) (by kernel_rfl) (fun _ _ _ h => h) (Or.inl ⟨by rfl, ?y4_23⟩) (by assumption) ?r4_23); (case y4_23 => (intro w hSw; (try dsimp only at hSw); go_simp; try (with_reducible rfl))); (try simp only [Act.put, List.getElem_toArray, List.getElem_cons_zero, List.getElem_cons_succ, List.setIfInBounds_toArray, List.set_cons_zero, List.set_cons_succ]))
     have hbk : 8 ≤ yk ∧ yk ≤ 23 := by have := HR.out; simp [isBin] at this; exact this
     obtain ⟨hbk0, hbk1⟩ := hbk
     ((refine wpAnyH_take (i := 5) (oi := _) (v := ?v5_24) rfl (by kernel_rfl) (by kernel_rfl) (by kernel_rfl) (fun _ _ _ h => h) (Or.inl ⟨by rfl, ?y5_24⟩) (by assumption) ?r5_24); (case y5_24 => (intro w hSw; (try dsimp only at hSw); go_simp; try (with_reducible rfl))); (try simp only [Act.put, List.getElem_toArray, List.getElem_cons_zero, List.getElem_cons_succ, List.setIfInBounds_toArray, List.set_cons_zero, List.set_cons_succ]))
     ((refine wpAnyH_take (i := 6) (oi := _) (v := ?v6_25) rfl (by kernel_rfl) (by kernel_rfl) (by kernel_rfl) (fun _ _ _ h => h) (Or.inl ⟨by rfl, ?y6_25⟩) (by assumption) ?r6_25); (case y6_25 => (intro w hSw; (try dsimp only at hSw); go_simp; try (with_reducible rfl))); (try simp only [Act.put, List.getElem_toArray, List.getElem_cons_zero, List.getElem_cons_succ, List.setIfInBounds_toArray, List.set_cons_zero, List.set_cons_succ]))
     ((refine wpAnyH_take (i := 8) (oi := _) (v := ?v8_26) rfl (by kernel_rfl) (by kernel_rfl) (by kernel_rfl) (fun _ _ _ h => h) (Or.inl ⟨by rfl, ?y8_26⟩) (by assumption) ?r8_26); (case y8_26 => (intro w hSw; (try dsimp only at hSw); go_simp; try (with_reducible rfl))); (try simp only [Act.put, List.getElem_toArray, List.getElem_cons_zero, List.getElem_cons_succ, List.setIfInBounds_toArray, List.set_cons_zero, List.set_cons_succ]))
     ((refine wpAnyH_ready (rs := [7]) (by kernel_rfl) (by simp) ?_); (refine AllReadyH.cons (o := _) rfl (fun K hK => ?_) AllReadyH.nil); go_simp)
     refine (arith_Level_c _ _ (by omega) (by omega)).mono ?_; rintro e u' ⟨rfl, rfl⟩; refine hK.out _ _ ⟨hx5.keep r0, hx5.keep r1, hx5.keep r2, hx5.keep r3⟩ (fun hHeld => ?_); clear hK K; (try simp only [Act.put, List.getElem_toArray, List.getElem_cons_zero, List.getElem_cons_succ, List.setIfInBounds_toArray, List.set_cons_zero, List.set_cons_succ])
     ((refine wpAnyH_take (i := 9) (oi := _) (v := ?v9_27) rfl (by kernel_rfl) (by kernel_rfl) (by kernel_rfl) (fun _ _ _ h => h) (Or.inl ⟨by rfl, ?y9_27⟩) (by assumption) ?r9_27); (case y9_27 => (intro w hSw; (try dsimp only at hSw); go_simp; try (with_reducible rfl))); (try simp only [Act.put, List.getElem_toArray, List.getElem_cons_zero, List.getElem_cons_succ, List.setIfInBounds_toArray, List.set_cons_zero, List.set_cons_succ]))
     ((refine wpAnyH_take (i := 10) (oi := _) (v := ?v10_28) rfl (by kernel_rfl) (by kernel_rfl) (by kernel_rfl) (fun _ _ _ h => h) (Or.inl ⟨by rfl, ?y10_28⟩) (by assumption) ?r10_28); (case y10_28 => (intro w hSw; (try dsimp only at hSw); go_simp; try (with_reducible rfl))); (try simp only [Act.put, List.getElem_toArray, List.getElem_cons_zero, List.getElem_cons_succ, List.setIfInBounds_toArray, List.set_cons_zero, List.set_cons_succ]))
     ((refine wpAnyH_ready (rs := [11]) (by kernel_rfl) (by simp) ?_); (refine AllReadyH.cons (o := _) rfl (fun K hK => ?_) AllReadyH.nil); go_simp)
     refine (operand_c (.mk yk yn ys yl) HY.out B b _ _ _ ya yc (hb4.drew.ext hx5) ((ht4.ext (Ext.refl _).drew (by omega)).ext hx5 (by show _ ≤ u4.heap.size; omega)) hB (hys4.ext (Ext.trans (Ext.refl _).drew hx5)) (by rw [← parenR_t (k := k) HR.out (decide_eq_true_iff)]; simp only [List.length_append, List.flatten_cons, List.flatten_nil, List.length_cons, List.length_nil] at hlen2 ⊢; omega)).mono ?_; rintro e u6 ⟨rfl, hb6, hx6⟩; rw [← parenR_t (k := k) HR.out (decide_eq_true_iff)] at hb6; refine hK.out _ _ ((hbr4.drew.ext hx5).fb hx6 (by omega) (by decide)).node (fun hHeld => ?_); clear hK K hHeld; (try simp only [Act.put, List.getElem_toArray, List.getElem_cons_zero, List.getElem_cons_succ, List.setIfInBounds_toArray, List.set_cons_zero, List.set_cons_succ]); (refine wpAnyH_done (by kernel_rfl) ?_ _)
     go_wp2_with fail
     go_end0
     refine ⟨rfl, ?_, (hxW1.trans hxx3).trans (hxx4.trans ((Fb.of_ext (Ext.trans (Ext.refl _).drew hx5) hle4).trans hx6))⟩
     simpa using hb6
end Bk
namespace Bk
open Go Go.RowKit Go.Proofs
theorem expr_all (N : Nat) : ∀ t : Nd, t.size < N → t.wf → t.isExpr = true → Prints 29 Nd.text t := by
 induction N with
 | zero => intro t h; omega
 | succ N ih =>
  rintro ⟨k, n, s, l⟩ hN hwf he; simp only [Nd.wf, Nd.size] at hwf hN; obtain ⟨hk0, hk1, hn0, hn1, hsl, hll, hrw⟩ := hwf
  by_cases c1 : k = 1
  · subst c1; exact expr_1 n s l hn0 hn1
  by_cases c2 : k = 2
  · subst c2; exact expr_2 n s l
  by_cases c4 : k = 4
  · subst c4; exact expr_4 n s l
  by_cases c5 : k = 5
  · subst c5; exact expr_5 n s l
  rw [Nd.isExpr.eq_def] at he; simp only [c1, c2, c4, c5, or_self, if_false, false_or] at he
  by_cases c3 : k = 3
  · subst c3
    rcases l with _ | ⟨x, _ | ⟨y, l⟩⟩
    · simp at he
    · simp at he
      simp only [rowSize, rowWf] at hN hrw
      exact expr_3 n s x (ih x (by omega) hrw.1 he.2)
    · simp at he
  simp only [c3, if_false] at he
  by_cases c6 : k = 6 ∨ k = 7
  · rcases l with _ | ⟨x, _ | ⟨y, l⟩⟩
    · simp [c6] at he
    · simp [c6] at he
      simp only [rowSize, rowWf] at hN hrw
      exact expr_un k n s x c6 (ih x (by omega) hrw.1 he.2)
    · simp [c6] at he
  simp only [c6, if_false] at he
  by_cases c8 : 8 ≤ k ∧ k ≤ 23
  · rcases l with _ | ⟨x, _ | ⟨y, _ | ⟨z, l⟩⟩⟩
    · simp [c8] at he
    · simp [c8] at he
    · simp [c8] at he
      simp only [rowSize, rowWf] at hN hrw
      exact expr_bin k n s x y c8.1 c8.2 (ih x (by omega) hrw.1 he.2.1) (ih y (by omega) hrw.2.1 he.2.2)
    · simp [c8] at he
  · simp [c8] at he
theorem expr_t (t : Nd) (hwf : t.wf) (he : t.isExpr = true) : Prints 29 Nd.text t := expr_all (t.size + 1) t (by omega) hwf he
theorem isName_len {s : List UInt8} (h : isName s = true) : s.length ≤ 16 := by
 simp only [isName, Bool.and_eq_true, decide_eq_true_eq] at h
 exact h.1.1.1.2
theorem wrap_len (s : List UInt8) (q : Bool) : (wrap s q).length ≤ s.length + 2 := by
 unfold wrap; split <;> simp
theorem symbol_len (k : Int) : (symbol k).length ≤ 2 := by
 by_cases h : k.toNat < 43
 · have key : ∀ i : Fin 43, (symbols.getD i.val []).length ≤ 2 := by decide
   exact key ⟨k.toNat, h⟩
 · unfold symbol
   rw [List.getD_eq_getElem?_getD, List.getElem?_eq_none (show 43 ≤ k.toNat by omega)]; simp
mutual
theorem rowSits_lt {S : Nat → Prop} {w : World} : ∀ (l : List Nd) (a : Option Addr), rowSits S w l a → rowSits (· < w.heap.size) w l a
 | [], _, _ => by simp [rowSits]
 | t :: r, a, h => by
  simp only [rowSits] at h ⊢; obtain ⟨b, o, a', c, rfl, hb, h0, h1, h2, h3, hs, hr⟩ := h
  exact ⟨b, o, a', c, rfl, cell_lt h0, h0, h1, h2, h3, sits_lt t a' hs, rowSits_lt r _ hr⟩
theorem sits_lt {S : Nat → Prop} {w : World} : ∀ (t : Nd) (a : Option Addr), t.sits S w a → t.sits (· < w.heap.size) w a
 | .mk _ _ _ l, a, h => by
  simp only [Nd.sits] at h ⊢
  exact rowSits_lt l a h
end
theorem text_len (N : Nat) : ∀ t : Nd, t.size < N → t.wf → t.isExpr = true → t.text.length ≤ 30 * t.size := by
 induction N with
 | zero => intro t h; omega
 | succ N ih =>
  rintro ⟨k, n, s, l⟩ hN hwf he; simp only [Nd.wf, Nd.size] at hwf hN ⊢; obtain ⟨hk0, hk1, hn0, hn1, hsl, hll, hrw⟩ := hwf; rw [Nd.isExpr.eq_def] at he; rw [Nd.text.eq_def]; simp only [] at he ⊢
  by_cases c1 : k = 1
  · have := Lib.itoa_length_le n hn0 hn1
    rw [if_pos c1]; omega
  rw [if_neg c1] at he ⊢
  by_cases c2 : k = 2 ∨ k = 4 ∨ k = 5
  · rw [if_pos c2] at he
    simp only [named, Bool.and_eq_true] at he; have := isName_len he.1.2
    rcases c2 with rfl | rfl | rfl
    · simp; omega
    · simp; omega
    · simp; omega
  rw [if_neg c2] at he
  have e2 : ¬ k = 2 := by omega
  have e4 : ¬ k = 4 := by omega
  have e5 : ¬ k = 5 := by omega
  rw [if_neg e2]
  by_cases c3 : k = 3
  · rw [if_pos c3] at he ⊢
    rcases l with _ | ⟨x, _ | ⟨y, l⟩⟩
    · simp at he
    · simp only [named, Bool.and_eq_true] at he
      have := isName_len he.1.2; simp only [rowSize, rowWf] at hN hrw ⊢; have hx := ih x (by omega) hrw.1 he.2
      simp; omega
    · simp at he
  rw [if_neg c3] at he ⊢; rw [if_neg e4, if_neg e5]; have hsy := symbol_len k
  by_cases c6 : k = 6 ∨ k = 7
  · rw [if_pos c6] at he ⊢
    rcases l with _ | ⟨x, _ | ⟨y, l⟩⟩
    · simp at he
    · simp only [Bool.and_eq_true] at he
      simp only [rowSize, rowWf] at hN hrw ⊢; have hx := ih x (by omega) hrw.1 he.2; have hw := wrap_len x.text (isBin x.kind)
      simp only [List.length_append]; omega
    · simp at he
  rw [if_neg c6] at he ⊢
  by_cases c8 : 8 ≤ k ∧ k ≤ 23
  · rw [if_pos c8] at he
    rcases l with _ | ⟨x, _ | ⟨y, _ | ⟨z, l⟩⟩⟩
    · simp at he
    · simp at he
    · simp only [Bool.and_eq_true] at he
      simp only [rowSize, rowWf] at hN hrw ⊢; have hx := ih x (by omega) hrw.1 he.2.1; have hy := ih y (by omega) hrw.2.1 he.2.2; have hw := wrap_len x.text (parenL x.kind k); have hv := wrap_len y.text (parenR y.kind k)
      simp only [List.length_append, List.length_cons, List.length_nil]; omega
    · simp at he
  · rw [if_neg c8] at he; simp at he
theorem Bld.new (w : World) (B : Nat) (hB : B ≤ w.heap.size) : Bld B w.heap.size [] (w.alloc (.cells #[.pointer none, .slice none 0 0] 57)) := by
 refine ⟨.inl ⟨hB, .slice none 0 0, ?_, ?_, by simp [Value.ownBlock]⟩, by simp; omega⟩
 · show (w.heap.push _)[w.heap.size]? = _; simp
 · exact ⟨rfl, .inl ⟨rfl, rfl⟩⟩
theorem Expr_c (t : Nd) (hwf : t.wf) (hsz : t.size ≤ 4000000000000) (S : Nat → Prop) (a : Option Addr) (c : Nat) (w : World) (ht : Tabs w) (hg : Tryz.prog.globals.size ≤ w.heap.size) (hs : t.sits S w a) :
 Calls Tryz.prog 11 #[t.val a c] w fun e w' => e = .returned (.tuple #[str (if t.isExpr then t.text else []), .int .i64 (if t.isExpr then 0 else 3)]) ∧ Ext w w' := by
 have HE := Lib.hid (IsExpr_t S t hwf)
 cases he : t.isExpr
 · have HT := Lib.hid he; clear he
   obtain ⟨k, n, s, l⟩ := t; simp only [Nd.kind, Nd.num, Nd.name, Nd.kids, Nd.val]
   go_enter Tryz.func11, Tryz.ntmps11
   go_wp2_with (go_at_call 10; refine (HE.out a c _ (hs.ext (by refine Ext.alloc ?_ _; exact Ext.refl _))).mono ?_; rintro e w1 ⟨rfl, hx1⟩; rw [HT.out])
   go_ret2
   exact ⟨rfl, (by refine Ext.trans ?_ (by assumption); refine Ext.alloc ?_ _; exact Ext.refl _)⟩
 · have hp := expr_t t hwf he
   have hl := text_len (t.size + 1) t (by omega) hwf he
   have HP := Lib.hid hp; clear hp
   have HT := Lib.hid he; clear he
   obtain ⟨k, n, s, l⟩ := t; have HS := Lib.hid (sits_lt _ _ hs)
   have hle : (Nd.mk k n s l).text.length ≤ 130000000000000 := by omega
   clear hl hsz hwf; simp only [Nd.kind, Nd.num, Nd.name, Nd.kids, Nd.val]
   go_enter Tryz.func11, Tryz.ntmps11
   go_wp2_with fail
   refine (HE.out a c _ (hs.ext ((Ext.refl _).alloc _))).mono ?_; rintro e w1 ⟨rfl, hx1⟩; have hc1 := hx1.cells
   have hz1 : w.heap.size < w1.heap.size := by
    have := hx1.size
    simp at this
    omega
   rw [HT.out]; simp only
   go_wp2_with fail
   have hxx1 : Ext w w1 := (by refine Ext.trans ?_ (by assumption); refine Ext.alloc ?_ _; exact Ext.refl _); have hlew : w.heap.size ≤ w1.heap.size := hxx1.size; have hx2 : Ext w (w1.alloc (.cells #[.pointer none, .slice none 0 0] 57)) := (by refine Ext.alloc ?_ _; assumption); refine (HP.out w.heap.size w1.heap.size [] _ a c (Bld.new w1 w.heap.size hlew) (ht.ext hx2 hg) hg (HS.out.ext hx2) (by simp; omega)).mono ?_; rintro e w3 ⟨rfl, hb3, hx3⟩; simp only
   go_wp2_with fail
   refine (String_any 57 w.heap.size w1.heap.size _ _ hb3.is hb3.le).mono ?_; rintro e w4 ⟨rfl, hb4, hx4⟩; simp only
   go_wp2_with fail
   go_ret2
   exact ⟨by simp, Below.trans hx2 (Below.trans hx3.below hx4.below)⟩
end Bk
namespace Bk
open Go Go.RowKit Go.Proofs
theorem word_c (k : Int) (w : World) (h0 : 0 ≤ k) (h1 : k ≤ 255) : Calls Tryz.prog 88 #[.int .u8 k] w fun e w' => e = .returned (str (kword k)) ∧ w = w' := by
 go_enter Tryz.func88, Tryz.ntmps88
 go_wp2_with fail
 all_goals go_ret
 all_goals (refine ⟨ret_str ?_, rfl⟩; (try simp only [beq_iff_eq, beq_eq_false_iff_ne, ne_eq, bne_iff_ne, decide_eq_true_eq, decide_eq_false_iff_not] at *); first | (subst k; rfl) | (unfold kword; (repeat' split) <;> first | rfl | omega))
theorem updater_c (k : Int) (w : World) (h0 : 0 ≤ k) (h1 : k ≤ 255) (ht : Tabs w) : Calls Tryz.prog 89 #[.int .u8 k] w fun e w' => e = .returned (str (updSign k)) ∧ w = w' := by
 have HT := Lib.hid ht; clear ht
 by_cases h56 : k = 56
 · subst h56
   go_enter Tryz.func89, Tryz.ntmps89
   go_wp2_with fail
   go_ret
   exact ⟨rfl, rfl⟩
 by_cases h43 : k = 43
 · subst h43
   go_enter Tryz.func89, Tryz.ntmps89
   go_wp2_with fail
   go_ret
   exact ⟨rfl, rfl⟩
 have hu : updSign k = symbol k := by unfold updSign; rw [if_neg h56, if_neg h43]
 rw [hu]
 have d1 : (k == 56) = false := by simpa using h56
 have d2 : (k == 43) = false := by simpa using h43
 clear hu h56 h43
 go_enter Tryz.func89, Tryz.ntmps89
 go_wp2_with (go_at_call 52; refine (arith_Symbol_c _ _ h0 h1 HT.out).mono ?_; rintro e w1 ⟨rfl, rfl⟩)
 go_ret
 exact ⟨rfl, rfl⟩
end Bk
namespace Bk
open Go Go.RowKit Go.Proofs
theorem tabT_len (d : Nat) : (tabT d).length = d := by simp [tabT]
theorem bracesT_len (t : Nd) (d : Nat) : (bracesT t d).length = (t.linesT (d + 1)).length + d + 4 := by
 simp [bracesT, tabT_len]; omega
attribute [local simp] tabT_len bracesT_len
def PrintsD (f : FuncId) (txt : Nd → Nat → List UInt8) (t : Nd) : Prop :=
 ∀ (B b : Nat) (l : List UInt8) (w : World) (a : Option Addr) (c d : Nat), Bld B b l w → Tabs w → Tryz.prog.globals.size ≤ B → t.sits (· < B) w a → d + t.size ≤ 1000000 → (l ++ txt t d).length ≤ 140737488355328 →
  Calls Tryz.prog f #[.pointer (some ⟨b, 0, none⟩), t.val a c, .int .i64 d] w fun e w' => e = .returned (.tuple #[]) ∧ Bld B b (l ++ txt t d) w' ∧ Fb B b w w'
theorem kid0 {S : Nat → Prop} {w : World} {x : Nd} {r : List Nd} {kb ko : Nat} (h : rowSits S w (x :: r) (some ⟨kb, ko, none⟩)) :
 ∃ xa xc, w.cell? ⟨kb, ko, none⟩ = some (.int .u8 x.kind) ∧ w.cell? ⟨kb, ko + 1, none⟩ = some (.int .i64 x.num) ∧ w.cell? ⟨kb, ko + 2, none⟩ = some (str x.name) ∧ w.cell? ⟨kb, ko + 3, none⟩ = some (.slice xa x.kids.length xc) ∧ x.sits S w xa := by
 obtain ⟨b, o, a', c, he, h0, h1, h2, h3, h4, h5⟩ := rowSits_get h (i := 0) (t := x) rfl; simp only [Option.some.injEq, Addr.mk.injEq] at he; obtain ⟨rfl, rfl, -⟩ := he
 exact ⟨a', c, by simpa using h1, by simpa using h2, by simpa using h3, by simpa using h4, h5⟩
theorem kid1 {S : Nat → Prop} {w : World} {x0 x : Nd} {r : List Nd} {kb ko : Nat} (h : rowSits S w (x0 :: x :: r) (some ⟨kb, ko, none⟩)) :
 ∃ xa xc, w.cell? ⟨kb, ko + 4, none⟩ = some (.int .u8 x.kind) ∧ w.cell? ⟨kb, ko + 4 + 1, none⟩ = some (.int .i64 x.num) ∧ w.cell? ⟨kb, ko + 4 + 2, none⟩ = some (str x.name) ∧ w.cell? ⟨kb, ko + 4 + 3, none⟩ = some (.slice xa x.kids.length xc) ∧ w.cell? ⟨kb, ko + 5, none⟩ = some (.int .i64 x.num) ∧ w.cell? ⟨kb, ko + 6, none⟩ = some (str x.name) ∧ w.cell? ⟨kb, ko + 7, none⟩ = some (.slice xa x.kids.length xc) ∧ x.sits S w xa := by
 obtain ⟨b, o, a', c, he, h0, h1, h2, h3, h4, h5⟩ := rowSits_get h (i := 1) (t := x) rfl; simp only [Option.some.injEq, Addr.mk.injEq] at he; obtain ⟨rfl, rfl, -⟩ := he
 exact ⟨a', c, by simpa using h1, by simpa using h2, by simpa using h3, by simpa using h4, by simpa using h2, by simpa using h3, by simpa using h4, h5⟩
theorem kid2 {S : Nat → Prop} {w : World} {x0 x1 x : Nd} {r : List Nd} {kb ko : Nat} (h : rowSits S w (x0 :: x1 :: x :: r) (some ⟨kb, ko, none⟩)) :
 ∃ xa xc, w.cell? ⟨kb, ko + 8, none⟩ = some (.int .u8 x.kind) ∧ w.cell? ⟨kb, ko + 8 + 1, none⟩ = some (.int .i64 x.num) ∧ w.cell? ⟨kb, ko + 8 + 2, none⟩ = some (str x.name) ∧ w.cell? ⟨kb, ko + 8 + 3, none⟩ = some (.slice xa x.kids.length xc) ∧ w.cell? ⟨kb, ko + 9, none⟩ = some (.int .i64 x.num) ∧ w.cell? ⟨kb, ko + 10, none⟩ = some (str x.name) ∧ w.cell? ⟨kb, ko + 11, none⟩ = some (.slice xa x.kids.length xc) ∧ x.sits S w xa := by
 obtain ⟨b, o, a', c, he, h0, h1, h2, h3, h4, h5⟩ := rowSits_get h (i := 2) (t := x) rfl; simp only [Option.some.injEq, Addr.mk.injEq] at he; obtain ⟨rfl, rfl, -⟩ := he
 exact ⟨a', c, by simpa using h1, by simpa using h2, by simpa using h3, by simpa using h4, by simpa using h2, by simpa using h3, by simpa using h4, h5⟩
theorem kid3 {S : Nat → Prop} {w : World} {x0 x1 x2 x : Nd} {r : List Nd} {kb ko : Nat} (h : rowSits S w (x0 :: x1 :: x2 :: x :: r) (some ⟨kb, ko, none⟩)) :
 ∃ xa xc, w.cell? ⟨kb, ko + 12, none⟩ = some (.int .u8 x.kind) ∧ w.cell? ⟨kb, ko + 12 + 1, none⟩ = some (.int .i64 x.num) ∧ w.cell? ⟨kb, ko + 12 + 2, none⟩ = some (str x.name) ∧ w.cell? ⟨kb, ko + 12 + 3, none⟩ = some (.slice xa x.kids.length xc) ∧ w.cell? ⟨kb, ko + 13, none⟩ = some (.int .i64 x.num) ∧ w.cell? ⟨kb, ko + 14, none⟩ = some (str x.name) ∧ w.cell? ⟨kb, ko + 15, none⟩ = some (.slice xa x.kids.length xc) ∧ x.sits S w xa := by
 obtain ⟨b, o, a', c, he, h0, h1, h2, h3, h4, h5⟩ := rowSits_get h (i := 3) (t := x) rfl; simp only [Option.some.injEq, Addr.mk.injEq] at he; obtain ⟨rfl, rfl, -⟩ := he
 exact ⟨a', c, by simpa using h1, by simpa using h2, by simpa using h3, by simpa using h4, by simpa using h2, by simpa using h3, by simpa using h4, h5⟩
theorem braces_c (y : Nd) (hy : PrintsD 38 Nd.linesT y) :
 ∀ (B b : Nat) (t : List UInt8) (w : World) (a : Option Addr) (c d : Nat), Bld B b t w → Tabs w → Tryz.prog.globals.size ≤ B → y.sits (· < B) w a → d + 1 + y.size ≤ 1000000 → (t ++ bracesT y d).length ≤ 140737488355328 →
 Calls Tryz.prog 46 #[.pointer (some ⟨b, 0, none⟩), y.val a c, .int .i64 d] w fun e w' => e = .returned (.tuple #[]) ∧ Bld B b (t ++ bracesT y d) w' ∧ Fb B b w w' := by
 intro B b t w a c d h ht hB hs hd hlen; have hle := h.le; have hlt := h.lt
 have HY := Lib.hid hy; clear hy
 have hbx0 : Box w.heap.size #[.int .u8 y.kind, .int .i64 y.num, str y.name, .slice a y.kids.length c] 24 (w.alloc (.cells #[.int .u8 y.kind, .int .i64 y.num, str y.name, .slice a y.kids.length c] 24)) := Box.new _ _ _; have hxW : Fb B b w (w.alloc (.cells #[.int .u8 y.kind, .int .i64 y.num, str y.name, .slice a y.kids.length c] 24)) := Fb.of_ext ((Ext.refl _).alloc _) hle; have hb0 : Bld B b t (w.alloc (.cells #[.int .u8 y.kind, .int .i64 y.num, str y.name, .slice a y.kids.length c] 24)) := h.alloc _; have ht0 := ht.fb hxW hB; have hs0 := hs.fb hxW
 go_enter Tryz.func46, Tryz.ntmps46
 go_wp2_with fail
 refine (write_c B b (w.heap.size + 1) 1 _ [[32, 123, 10]] _ (hb0.alloc _) (Box.new' _ _ (by simp)) (by simp) (by (try simp at hlen ⊢) <;> omega)).mono ?_; rintro e u1 ⟨rfl, hb1, hx1⟩; have hxx1 : Fb B b (w.alloc (.cells #[.int .u8 y.kind, .int .i64 y.num, str y.name, .slice a y.kids.length c] 24)) u1 := Fb.trans (Fb.of_ext ((Ext.refl _).alloc _) hb0.le) hx1; obtain ⟨g0, g1, g2, g3⟩ := (hbx0.fb hxx1 (by omega) (by decide)).node; have ht1 := ht0.fb hxx1 hB; have hs1 := hs0.fb hxx1; simp only
 go_wp2_with fail
 rw [show ((d : Int) + 1) = ((d + 1 : Nat) : Int) from by omega]; refine (HY.out B b _ _ a c (d + 1) hb1 ht1 hB hs1 (by omega) (by (try simp at hlen ⊢) <;> omega)).mono ?_; rintro e u2 ⟨rfl, hb2, hx2⟩; have hxx2 : Fb B b (w.alloc (.cells #[.int .u8 y.kind, .int .i64 y.num, str y.name, .slice a y.kids.length c] 24)) u2 := Fb.trans hxx1 hx2; obtain ⟨g0, g1, g2, g3⟩ := (hbx0.fb hxx2 (by omega) (by decide)).node; have ht2 := ht0.fb hxx2 hB; simp only
 go_wp2_with fail
 refine (tabs_c B b _ d _ hb2 (by omega) (by (try simp at hlen ⊢) <;> omega)).mono ?_; rintro e u3 ⟨rfl, hb3, hx3⟩; have hxx3 : Fb B b (w.alloc (.cells #[.int .u8 y.kind, .int .i64 y.num, str y.name, .slice a y.kids.length c] 24)) u3 := Fb.trans hxx2 hx3; obtain ⟨g0, g1, g2, g3⟩ := (hbx0.fb hxx3 (by omega) (by decide)).node; have ht3 := ht0.fb hxx3 hB; simp only
 go_wp2_with fail
 refine (write_c B b u3.heap.size 1 _ [[125]] _ (hb3.alloc _) (Box.new' _ _ (by simp)) (by simp) (by (try simp at hlen ⊢) <;> omega)).mono ?_; rintro e u4 ⟨rfl, hb4, hx4⟩; have hxx4 : Fb B b (w.alloc (.cells #[.int .u8 y.kind, .int .i64 y.num, str y.name, .slice a y.kids.length c] 24)) u4 := Fb.trans (Fb.trans hxx3 (Fb.of_ext ((Ext.refl _).alloc _) hb3.le)) hx4; obtain ⟨g0, g1, g2, g3⟩ := (hbx0.fb hxx4 (by omega) (by decide)).node; have ht4 := ht0.fb hxx4 hB; simp only
 go_wp2_with fail
 go_end0
 exact ⟨rfl, by simpa [bracesT, tabT] using hb4, hxW.trans hxx4⟩
set_option maxHeartbeats 2000000 in
set_option maxRecDepth 100000 in
theorem stmt_40 (n : Int) (s : List UInt8) (x y : Nd) (hx : Prints 29 Nd.text x) (hy : Prints 29 Nd.text y) : PrintsD 66 Nd.stmtT (.mk 40 n s [x, y]) := by
 intro B b t w a c d h ht hB hs hd hlen
 have htx : (Nd.mk 40 n s [x, y]).stmtT d = kword 40 ++ x.text ++ [32] ++ updSign 40 ++ [32] ++ y.text := by rw [Nd.stmtT.eq_def]; simp [kword]
 rw [htx] at hlen ⊢; clear htx; have hle := h.le; have hlt := h.lt; simp only [Nd.kind, Nd.num, Nd.name, Nd.kids, Nd.val, Nd.sits, Nd.size, rowSize, List.length_cons, List.length_nil] at hs hd ⊢
 obtain ⟨kb, ko, rfl⟩ : ∃ kb ko, a = some ⟨kb, ko, none⟩ := by
  obtain ⟨b0, o0, _, _, he, _⟩ := rowSits_get hs (i := 0) rfl
  exact ⟨b0, o0, he⟩
 have HX := Lib.hid hx; clear hx
 have HY := Lib.hid hy; clear hy
 have hbx0 : Box w.heap.size #[.int .u8 40, .int .i64 n, str s, .slice (some ⟨kb, ko, none⟩) 2 c] 24 (w.alloc (.cells #[.int .u8 40, .int .i64 n, str s, .slice (some ⟨kb, ko, none⟩) 2 c] 24)) := Box.new _ _ _; have hxW : Fb B b w (w.alloc (.cells #[.int .u8 40, .int .i64 n, str s, .slice (some ⟨kb, ko, none⟩) 2 c] 24)) := Fb.of_ext ((Ext.refl _).alloc _) hle; have hb0 : Bld B b t (w.alloc (.cells #[.int .u8 40, .int .i64 n, str s, .slice (some ⟨kb, ko, none⟩) 2 c] 24)) := h.alloc _; have ht0 := ht.fb hxW hB; have hs0 := hs.fb hxW
 go_enter Tryz.func66, Tryz.ntmps66
 go_wp2_with fail
 refine (word_c _ _ (by omega) (by omega)).mono ?_; rintro e w1 ⟨rfl, rfl⟩; simp only
 go_wp2_with fail
 refine (write_c B b (w.heap.size + 1) 1 _ [kword 40] _ (hb0.alloc _) (Box.new' _ _ (by simp)) (by simp) (by (try simp at hlen ⊢) <;> omega)).mono ?_; rintro e u1 ⟨rfl, hb1, hx1⟩; have hxx1 : Fb B b (w.alloc (.cells #[.int .u8 40, .int .i64 n, str s, .slice (some ⟨kb, ko, none⟩) 2 c] 24)) u1 := Fb.trans (Fb.of_ext ((Ext.refl _).alloc _) hb0.le) hx1; obtain ⟨g0, g1, g2, g3⟩ := (hbx0.fb hxx1 (by omega) (by decide)).node; have ht1 := ht0.fb hxx1 hB; have hs1 := hs0.fb hxx1; obtain ⟨ka1, kc1, m0, m1, m2, m3, hk1⟩ := kid0 hs1; simp only
 go_wp2_with fail
 refine (HX.out B b _ _ ka1 kc1 hb1 ht1 hB hk1 (by (try simp at hlen ⊢) <;> omega)).mono ?_; rintro e u2 ⟨rfl, hb2, hx2⟩; have hxx2 : Fb B b (w.alloc (.cells #[.int .u8 40, .int .i64 n, str s, .slice (some ⟨kb, ko, none⟩) 2 c] 24)) u2 := Fb.trans hxx1 hx2; obtain ⟨g0, g1, g2, g3⟩ := (hbx0.fb hxx2 (by omega) (by decide)).node; have ht2 := ht0.fb hxx2 hB; have hs2 := hs0.fb hxx2; simp only
 go_wp2_with fail
 refine (updater_c _ _ (by omega) (by omega) ht2).mono ?_; rintro e w1 ⟨rfl, rfl⟩; simp only
 go_wp2_with fail
 refine (write_c B b u2.heap.size 3 _ [[32], updSign 40, [32]] _ (hb2.alloc _) (Box.new' _ _ (by simp)) (by simp) (by (try simp at hlen ⊢) <;> omega)).mono ?_; rintro e u3 ⟨rfl, hb3, hx3⟩; have hxx3 : Fb B b (w.alloc (.cells #[.int .u8 40, .int .i64 n, str s, .slice (some ⟨kb, ko, none⟩) 2 c] 24)) u3 := Fb.trans (Fb.trans hxx2 (Fb.of_ext ((Ext.refl _).alloc _) hb2.le)) hx3; obtain ⟨g0, g1, g2, g3⟩ := (hbx0.fb hxx3 (by omega) (by decide)).node; have ht3 := ht0.fb hxx3 hB; have hs3 := hs0.fb hxx3; obtain ⟨ka3, kc3, m0, m1, m2, m3, m4, m5, m6, hk3⟩ := kid1 hs3; simp only
 go_wp2_with fail
 refine (HY.out B b _ _ ka3 kc3 hb3 ht3 hB hk3 (by (try simp at hlen ⊢) <;> omega)).mono ?_; rintro e u4 ⟨rfl, hb4, hx4⟩; have hxx4 : Fb B b (w.alloc (.cells #[.int .u8 40, .int .i64 n, str s, .slice (some ⟨kb, ko, none⟩) 2 c] 24)) u4 := Fb.trans hxx3 hx4; obtain ⟨g0, g1, g2, g3⟩ := (hbx0.fb hxx4 (by omega) (by decide)).node; have ht4 := ht0.fb hxx4 hB; have hs4 := hs0.fb hxx4; simp only
 go_wp2_with fail
 go_end0
 exact ⟨rfl, by simpa using hb4, hxW.trans hxx4⟩
set_option maxHeartbeats 2000000 in
set_option maxRecDepth 100000 in
theorem stmt_41 (n : Int) (s : List UInt8) (x y : Nd) (hx : Prints 29 Nd.text x) (hy : Prints 29 Nd.text y) : PrintsD 66 Nd.stmtT (.mk 41 n s [x, y]) := by
 intro B b t w a c d h ht hB hs hd hlen
 have htx : (Nd.mk 41 n s [x, y]).stmtT d = kword 41 ++ x.text ++ [32] ++ updSign 41 ++ [32] ++ y.text := by rw [Nd.stmtT.eq_def]; simp [kword]
 rw [htx] at hlen ⊢; clear htx; have hle := h.le; have hlt := h.lt; simp only [Nd.kind, Nd.num, Nd.name, Nd.kids, Nd.val, Nd.sits, Nd.size, rowSize, List.length_cons, List.length_nil] at hs hd ⊢
 obtain ⟨kb, ko, rfl⟩ : ∃ kb ko, a = some ⟨kb, ko, none⟩ := by
  obtain ⟨b0, o0, _, _, he, _⟩ := rowSits_get hs (i := 0) rfl
  exact ⟨b0, o0, he⟩
 have HX := Lib.hid hx; clear hx
 have HY := Lib.hid hy; clear hy
 have hbx0 : Box w.heap.size #[.int .u8 41, .int .i64 n, str s, .slice (some ⟨kb, ko, none⟩) 2 c] 24 (w.alloc (.cells #[.int .u8 41, .int .i64 n, str s, .slice (some ⟨kb, ko, none⟩) 2 c] 24)) := Box.new _ _ _; have hxW : Fb B b w (w.alloc (.cells #[.int .u8 41, .int .i64 n, str s, .slice (some ⟨kb, ko, none⟩) 2 c] 24)) := Fb.of_ext ((Ext.refl _).alloc _) hle; have hb0 : Bld B b t (w.alloc (.cells #[.int .u8 41, .int .i64 n, str s, .slice (some ⟨kb, ko, none⟩) 2 c] 24)) := h.alloc _; have ht0 := ht.fb hxW hB; have hs0 := hs.fb hxW
 go_enter Tryz.func66, Tryz.ntmps66
 go_wp2_with fail
 refine (word_c _ _ (by omega) (by omega)).mono ?_; rintro e w1 ⟨rfl, rfl⟩; simp only
 go_wp2_with fail
 refine (write_c B b (w.heap.size + 1) 1 _ [kword 41] _ (hb0.alloc _) (Box.new' _ _ (by simp)) (by simp) (by (try simp at hlen ⊢) <;> omega)).mono ?_; rintro e u1 ⟨rfl, hb1, hx1⟩; have hxx1 : Fb B b (w.alloc (.cells #[.int .u8 41, .int .i64 n, str s, .slice (some ⟨kb, ko, none⟩) 2 c] 24)) u1 := Fb.trans (Fb.of_ext ((Ext.refl _).alloc _) hb0.le) hx1; obtain ⟨g0, g1, g2, g3⟩ := (hbx0.fb hxx1 (by omega) (by decide)).node; have ht1 := ht0.fb hxx1 hB; have hs1 := hs0.fb hxx1; obtain ⟨ka1, kc1, m0, m1, m2, m3, hk1⟩ := kid0 hs1; simp only
 go_wp2_with fail
 refine (HX.out B b _ _ ka1 kc1 hb1 ht1 hB hk1 (by (try simp at hlen ⊢) <;> omega)).mono ?_; rintro e u2 ⟨rfl, hb2, hx2⟩; have hxx2 : Fb B b (w.alloc (.cells #[.int .u8 41, .int .i64 n, str s, .slice (some ⟨kb, ko, none⟩) 2 c] 24)) u2 := Fb.trans hxx1 hx2; obtain ⟨g0, g1, g2, g3⟩ := (hbx0.fb hxx2 (by omega) (by decide)).node; have ht2 := ht0.fb hxx2 hB; have hs2 := hs0.fb hxx2; simp only
 go_wp2_with fail
 refine (updater_c _ _ (by omega) (by omega) ht2).mono ?_; rintro e w1 ⟨rfl, rfl⟩; simp only
 go_wp2_with fail
 refine (write_c B b u2.heap.size 3 _ [[32], updSign 41, [32]] _ (hb2.alloc _) (Box.new' _ _ (by simp)) (by simp) (by (try simp at hlen ⊢) <;> omega)).mono ?_; rintro e u3 ⟨rfl, hb3, hx3⟩; have hxx3 : Fb B b (w.alloc (.cells #[.int .u8 41, .int .i64 n, str s, .slice (some ⟨kb, ko, none⟩) 2 c] 24)) u3 := Fb.trans (Fb.trans hxx2 (Fb.of_ext ((Ext.refl _).alloc _) hb2.le)) hx3; obtain ⟨g0, g1, g2, g3⟩ := (hbx0.fb hxx3 (by omega) (by decide)).node; have ht3 := ht0.fb hxx3 hB; have hs3 := hs0.fb hxx3; obtain ⟨ka3, kc3, m0, m1, m2, m3, m4, m5, m6, hk3⟩ := kid1 hs3; simp only
 go_wp2_with fail
 refine (HY.out B b _ _ ka3 kc3 hb3 ht3 hB hk3 (by (try simp at hlen ⊢) <;> omega)).mono ?_; rintro e u4 ⟨rfl, hb4, hx4⟩; have hxx4 : Fb B b (w.alloc (.cells #[.int .u8 41, .int .i64 n, str s, .slice (some ⟨kb, ko, none⟩) 2 c] 24)) u4 := Fb.trans hxx3 hx4; obtain ⟨g0, g1, g2, g3⟩ := (hbx0.fb hxx4 (by omega) (by decide)).node; have ht4 := ht0.fb hxx4 hB; have hs4 := hs0.fb hxx4; simp only
 go_wp2_with fail
 go_end0
 exact ⟨rfl, by simpa using hb4, hxW.trans hxx4⟩
set_option maxHeartbeats 2000000 in
set_option maxRecDepth 100000 in
theorem stmt_42 (n : Int) (s : List UInt8) (x y : Nd) (hx : Prints 29 Nd.text x) (hy : Prints 29 Nd.text y) : PrintsD 66 Nd.stmtT (.mk 42 n s [x, y]) := by
 intro B b t w a c d h ht hB hs hd hlen
 have htx : (Nd.mk 42 n s [x, y]).stmtT d = kword 42 ++ x.text ++ [32] ++ updSign 42 ++ [32] ++ y.text := by rw [Nd.stmtT.eq_def]; simp [kword]
 rw [htx] at hlen ⊢; clear htx; have hle := h.le; have hlt := h.lt; simp only [Nd.kind, Nd.num, Nd.name, Nd.kids, Nd.val, Nd.sits, Nd.size, rowSize, List.length_cons, List.length_nil] at hs hd ⊢
 obtain ⟨kb, ko, rfl⟩ : ∃ kb ko, a = some ⟨kb, ko, none⟩ := by
  obtain ⟨b0, o0, _, _, he, _⟩ := rowSits_get hs (i := 0) rfl
  exact ⟨b0, o0, he⟩
 have HX := Lib.hid hx; clear hx
 have HY := Lib.hid hy; clear hy
 have hbx0 : Box w.heap.size #[.int .u8 42, .int .i64 n, str s, .slice (some ⟨kb, ko, none⟩) 2 c] 24 (w.alloc (.cells #[.int .u8 42, .int .i64 n, str s, .slice (some ⟨kb, ko, none⟩) 2 c] 24)) := Box.new _ _ _; have hxW : Fb B b w (w.alloc (.cells #[.int .u8 42, .int .i64 n, str s, .slice (some ⟨kb, ko, none⟩) 2 c] 24)) := Fb.of_ext ((Ext.refl _).alloc _) hle; have hb0 : Bld B b t (w.alloc (.cells #[.int .u8 42, .int .i64 n, str s, .slice (some ⟨kb, ko, none⟩) 2 c] 24)) := h.alloc _; have ht0 := ht.fb hxW hB; have hs0 := hs.fb hxW
 go_enter Tryz.func66, Tryz.ntmps66
 go_wp2_with fail
 refine (word_c _ _ (by omega) (by omega)).mono ?_; rintro e w1 ⟨rfl, rfl⟩; simp only
 go_wp2_with fail
 refine (write_c B b (w.heap.size + 1) 1 _ [kword 42] _ (hb0.alloc _) (Box.new' _ _ (by simp)) (by simp) (by (try simp at hlen ⊢) <;> omega)).mono ?_; rintro e u1 ⟨rfl, hb1, hx1⟩; have hxx1 : Fb B b (w.alloc (.cells #[.int .u8 42, .int .i64 n, str s, .slice (some ⟨kb, ko, none⟩) 2 c] 24)) u1 := Fb.trans (Fb.of_ext ((Ext.refl _).alloc _) hb0.le) hx1; obtain ⟨g0, g1, g2, g3⟩ := (hbx0.fb hxx1 (by omega) (by decide)).node; have ht1 := ht0.fb hxx1 hB; have hs1 := hs0.fb hxx1; obtain ⟨ka1, kc1, m0, m1, m2, m3, hk1⟩ := kid0 hs1; simp only
 go_wp2_with fail
 refine (HX.out B b _ _ ka1 kc1 hb1 ht1 hB hk1 (by (try simp at hlen ⊢) <;> omega)).mono ?_; rintro e u2 ⟨rfl, hb2, hx2⟩; have hxx2 : Fb B b (w.alloc (.cells #[.int .u8 42, .int .i64 n, str s, .slice (some ⟨kb, ko, none⟩) 2 c] 24)) u2 := Fb.trans hxx1 hx2; obtain ⟨g0, g1, g2, g3⟩ := (hbx0.fb hxx2 (by omega) (by decide)).node; have ht2 := ht0.fb hxx2 hB; have hs2 := hs0.fb hxx2; simp only
 go_wp2_with fail
 refine (updater_c _ _ (by omega) (by omega) ht2).mono ?_; rintro e w1 ⟨rfl, rfl⟩; simp only
 go_wp2_with fail
 refine (write_c B b u2.heap.size 3 _ [[32], updSign 42, [32]] _ (hb2.alloc _) (Box.new' _ _ (by simp)) (by simp) (by (try simp at hlen ⊢) <;> omega)).mono ?_; rintro e u3 ⟨rfl, hb3, hx3⟩; have hxx3 : Fb B b (w.alloc (.cells #[.int .u8 42, .int .i64 n, str s, .slice (some ⟨kb, ko, none⟩) 2 c] 24)) u3 := Fb.trans (Fb.trans hxx2 (Fb.of_ext ((Ext.refl _).alloc _) hb2.le)) hx3; obtain ⟨g0, g1, g2, g3⟩ := (hbx0.fb hxx3 (by omega) (by decide)).node; have ht3 := ht0.fb hxx3 hB; have hs3 := hs0.fb hxx3; obtain ⟨ka3, kc3, m0, m1, m2, m3, m4, m5, m6, hk3⟩ := kid1 hs3; simp only
 go_wp2_with fail
 refine (HY.out B b _ _ ka3 kc3 hb3 ht3 hB hk3 (by (try simp at hlen ⊢) <;> omega)).mono ?_; rintro e u4 ⟨rfl, hb4, hx4⟩; have hxx4 : Fb B b (w.alloc (.cells #[.int .u8 42, .int .i64 n, str s, .slice (some ⟨kb, ko, none⟩) 2 c] 24)) u4 := Fb.trans hxx3 hx4; obtain ⟨g0, g1, g2, g3⟩ := (hbx0.fb hxx4 (by omega) (by decide)).node; have ht4 := ht0.fb hxx4 hB; have hs4 := hs0.fb hxx4; simp only
 go_wp2_with fail
 go_end0
 exact ⟨rfl, by simpa using hb4, hxW.trans hxx4⟩
set_option maxHeartbeats 2000000 in
set_option maxRecDepth 100000 in
theorem stmt_56 (n : Int) (s : List UInt8) (x y : Nd) (hx : Prints 29 Nd.text x) (hy : Prints 29 Nd.text y) : PrintsD 66 Nd.stmtT (.mk 56 n s [x, y]) := by
 intro B b t w a c d h ht hB hs hd hlen
 have htx : (Nd.mk 56 n s [x, y]).stmtT d = kword 56 ++ x.text ++ [32] ++ updSign 56 ++ [32] ++ y.text := by rw [Nd.stmtT.eq_def]; simp [kword]
 rw [htx] at hlen ⊢; clear htx; have hle := h.le; have hlt := h.lt; simp only [Nd.kind, Nd.num, Nd.name, Nd.kids, Nd.val, Nd.sits, Nd.size, rowSize, List.length_cons, List.length_nil] at hs hd ⊢
 obtain ⟨kb, ko, rfl⟩ : ∃ kb ko, a = some ⟨kb, ko, none⟩ := by
  obtain ⟨b0, o0, _, _, he, _⟩ := rowSits_get hs (i := 0) rfl
  exact ⟨b0, o0, he⟩
 have HX := Lib.hid hx; clear hx
 have HY := Lib.hid hy; clear hy
 have hbx0 : Box w.heap.size #[.int .u8 56, .int .i64 n, str s, .slice (some ⟨kb, ko, none⟩) 2 c] 24 (w.alloc (.cells #[.int .u8 56, .int .i64 n, str s, .slice (some ⟨kb, ko, none⟩) 2 c] 24)) := Box.new _ _ _; have hxW : Fb B b w (w.alloc (.cells #[.int .u8 56, .int .i64 n, str s, .slice (some ⟨kb, ko, none⟩) 2 c] 24)) := Fb.of_ext ((Ext.refl _).alloc _) hle; have hb0 : Bld B b t (w.alloc (.cells #[.int .u8 56, .int .i64 n, str s, .slice (some ⟨kb, ko, none⟩) 2 c] 24)) := h.alloc _; have ht0 := ht.fb hxW hB; have hs0 := hs.fb hxW
 go_enter Tryz.func66, Tryz.ntmps66
 go_wp2_with fail
 refine (word_c _ _ (by omega) (by omega)).mono ?_; rintro e w1 ⟨rfl, rfl⟩; simp only
 go_wp2_with fail
 refine (write_c B b (w.heap.size + 1) 1 _ [kword 56] _ (hb0.alloc _) (Box.new' _ _ (by simp)) (by simp) (by (try simp at hlen ⊢) <;> omega)).mono ?_; rintro e u1 ⟨rfl, hb1, hx1⟩; have hxx1 : Fb B b (w.alloc (.cells #[.int .u8 56, .int .i64 n, str s, .slice (some ⟨kb, ko, none⟩) 2 c] 24)) u1 := Fb.trans (Fb.of_ext ((Ext.refl _).alloc _) hb0.le) hx1; obtain ⟨g0, g1, g2, g3⟩ := (hbx0.fb hxx1 (by omega) (by decide)).node; have ht1 := ht0.fb hxx1 hB; have hs1 := hs0.fb hxx1; obtain ⟨ka1, kc1, m0, m1, m2, m3, hk1⟩ := kid0 hs1; simp only
 go_wp2_with fail
 refine (HX.out B b _ _ ka1 kc1 hb1 ht1 hB hk1 (by (try simp at hlen ⊢) <;> omega)).mono ?_; rintro e u2 ⟨rfl, hb2, hx2⟩; have hxx2 : Fb B b (w.alloc (.cells #[.int .u8 56, .int .i64 n, str s, .slice (some ⟨kb, ko, none⟩) 2 c] 24)) u2 := Fb.trans hxx1 hx2; obtain ⟨g0, g1, g2, g3⟩ := (hbx0.fb hxx2 (by omega) (by decide)).node; have ht2 := ht0.fb hxx2 hB; have hs2 := hs0.fb hxx2; simp only
 go_wp2_with fail
 refine (updater_c _ _ (by omega) (by omega) ht2).mono ?_; rintro e w1 ⟨rfl, rfl⟩; simp only
 go_wp2_with fail
 refine (write_c B b u2.heap.size 3 _ [[32], updSign 56, [32]] _ (hb2.alloc _) (Box.new' _ _ (by simp)) (by simp) (by (try simp at hlen ⊢) <;> omega)).mono ?_; rintro e u3 ⟨rfl, hb3, hx3⟩; have hxx3 : Fb B b (w.alloc (.cells #[.int .u8 56, .int .i64 n, str s, .slice (some ⟨kb, ko, none⟩) 2 c] 24)) u3 := Fb.trans (Fb.trans hxx2 (Fb.of_ext ((Ext.refl _).alloc _) hb2.le)) hx3; obtain ⟨g0, g1, g2, g3⟩ := (hbx0.fb hxx3 (by omega) (by decide)).node; have ht3 := ht0.fb hxx3 hB; have hs3 := hs0.fb hxx3; obtain ⟨ka3, kc3, m0, m1, m2, m3, m4, m5, m6, hk3⟩ := kid1 hs3; simp only
 go_wp2_with fail
 refine (HY.out B b _ _ ka3 kc3 hb3 ht3 hB hk3 (by (try simp at hlen ⊢) <;> omega)).mono ?_; rintro e u4 ⟨rfl, hb4, hx4⟩; have hxx4 : Fb B b (w.alloc (.cells #[.int .u8 56, .int .i64 n, str s, .slice (some ⟨kb, ko, none⟩) 2 c] 24)) u4 := Fb.trans hxx3 hx4; obtain ⟨g0, g1, g2, g3⟩ := (hbx0.fb hxx4 (by omega) (by decide)).node; have ht4 := ht0.fb hxx4 hB; have hs4 := hs0.fb hxx4; simp only
 go_wp2_with fail
 go_end0
 exact ⟨rfl, by simpa using hb4, hxW.trans hxx4⟩
set_option maxHeartbeats 2000000 in
set_option maxRecDepth 100000 in
theorem stmt_43 (n : Int) (s : List UInt8) (x y : Nd) (hx : Prints 29 Nd.text x) (hy : Prints 29 Nd.text y) : PrintsD 66 Nd.stmtT (.mk 43 n s [x, y]) := by
 intro B b t w a c d h ht hB hs hd hlen
 have htx : (Nd.mk 43 n s [x, y]).stmtT d = kword 43 ++ x.text ++ [32] ++ updSign 43 ++ [32] ++ y.text := by rw [Nd.stmtT.eq_def]; simp [kword]
 rw [htx] at hlen ⊢; clear htx; have hle := h.le; have hlt := h.lt; simp only [Nd.kind, Nd.num, Nd.name, Nd.kids, Nd.val, Nd.sits, Nd.size, rowSize, List.length_cons, List.length_nil] at hs hd ⊢
 obtain ⟨kb, ko, rfl⟩ : ∃ kb ko, a = some ⟨kb, ko, none⟩ := by
  obtain ⟨b0, o0, _, _, he, _⟩ := rowSits_get hs (i := 0) rfl
  exact ⟨b0, o0, he⟩
 have HX := Lib.hid hx; clear hx
 have HY := Lib.hid hy; clear hy
 have hbx0 : Box w.heap.size #[.int .u8 43, .int .i64 n, str s, .slice (some ⟨kb, ko, none⟩) 2 c] 24 (w.alloc (.cells #[.int .u8 43, .int .i64 n, str s, .slice (some ⟨kb, ko, none⟩) 2 c] 24)) := Box.new _ _ _; have hxW : Fb B b w (w.alloc (.cells #[.int .u8 43, .int .i64 n, str s, .slice (some ⟨kb, ko, none⟩) 2 c] 24)) := Fb.of_ext ((Ext.refl _).alloc _) hle; have hb0 : Bld B b t (w.alloc (.cells #[.int .u8 43, .int .i64 n, str s, .slice (some ⟨kb, ko, none⟩) 2 c] 24)) := h.alloc _; have ht0 := ht.fb hxW hB; have hs0 := hs.fb hxW
 go_enter Tryz.func66, Tryz.ntmps66
 go_wp2_with fail
 refine (word_c _ _ (by omega) (by omega)).mono ?_; rintro e w1 ⟨rfl, rfl⟩; simp only
 go_wp2_with fail
 refine (write_c B b (w.heap.size + 1) 1 _ [kword 43] _ (hb0.alloc _) (Box.new' _ _ (by simp)) (by simp) (by (try simp at hlen ⊢) <;> omega)).mono ?_; rintro e u1 ⟨rfl, hb1, hx1⟩; have hxx1 : Fb B b (w.alloc (.cells #[.int .u8 43, .int .i64 n, str s, .slice (some ⟨kb, ko, none⟩) 2 c] 24)) u1 := Fb.trans (Fb.of_ext ((Ext.refl _).alloc _) hb0.le) hx1; obtain ⟨g0, g1, g2, g3⟩ := (hbx0.fb hxx1 (by omega) (by decide)).node; have ht1 := ht0.fb hxx1 hB; have hs1 := hs0.fb hxx1; obtain ⟨ka1, kc1, m0, m1, m2, m3, hk1⟩ := kid0 hs1; simp only
 go_wp2_with fail
 refine (HX.out B b _ _ ka1 kc1 hb1 ht1 hB hk1 (by (try simp at hlen ⊢) <;> omega)).mono ?_; rintro e u2 ⟨rfl, hb2, hx2⟩; have hxx2 : Fb B b (w.alloc (.cells #[.int .u8 43, .int .i64 n, str s, .slice (some ⟨kb, ko, none⟩) 2 c] 24)) u2 := Fb.trans hxx1 hx2; obtain ⟨g0, g1, g2, g3⟩ := (hbx0.fb hxx2 (by omega) (by decide)).node; have ht2 := ht0.fb hxx2 hB; have hs2 := hs0.fb hxx2; simp only
 go_wp2_with fail
 refine (updater_c _ _ (by omega) (by omega) ht2).mono ?_; rintro e w1 ⟨rfl, rfl⟩; simp only
 go_wp2_with fail
 refine (write_c B b u2.heap.size 3 _ [[32], updSign 43, [32]] _ (hb2.alloc _) (Box.new' _ _ (by simp)) (by simp) (by (try simp at hlen ⊢) <;> omega)).mono ?_; rintro e u3 ⟨rfl, hb3, hx3⟩; have hxx3 : Fb B b (w.alloc (.cells #[.int .u8 43, .int .i64 n, str s, .slice (some ⟨kb, ko, none⟩) 2 c] 24)) u3 := Fb.trans (Fb.trans hxx2 (Fb.of_ext ((Ext.refl _).alloc _) hb2.le)) hx3; obtain ⟨g0, g1, g2, g3⟩ := (hbx0.fb hxx3 (by omega) (by decide)).node; have ht3 := ht0.fb hxx3 hB; have hs3 := hs0.fb hxx3; obtain ⟨ka3, kc3, m0, m1, m2, m3, m4, m5, m6, hk3⟩ := kid1 hs3; simp only
 go_wp2_with fail
 refine (HY.out B b _ _ ka3 kc3 hb3 ht3 hB hk3 (by (try simp at hlen ⊢) <;> omega)).mono ?_; rintro e u4 ⟨rfl, hb4, hx4⟩; have hxx4 : Fb B b (w.alloc (.cells #[.int .u8 43, .int .i64 n, str s, .slice (some ⟨kb, ko, none⟩) 2 c] 24)) u4 := Fb.trans hxx3 hx4; obtain ⟨g0, g1, g2, g3⟩ := (hbx0.fb hxx4 (by omega) (by decide)).node; have ht4 := ht0.fb hxx4 hB; have hs4 := hs0.fb hxx4; simp only
 go_wp2_with fail
 go_end0
 exact ⟨rfl, by simpa using hb4, hxW.trans hxx4⟩
set_option maxHeartbeats 2000000 in
set_option maxRecDepth 100000 in
theorem stmt_44 (n : Int) (s : List UInt8) (x : Nd) (hx : Prints 29 Nd.text x) : PrintsD 66 Nd.stmtT (.mk 44 n s [x]) := by
 intro B b t w a c d h ht hB hs hd hlen
 have htx : (Nd.mk 44 n s [x]).stmtT d = kword 44 ++ x.text ++ [44, 32] ++ s := by rw [Nd.stmtT.eq_def]; simp
 rw [htx] at hlen ⊢; clear htx; have hle := h.le; have hlt := h.lt; simp only [Nd.kind, Nd.num, Nd.name, Nd.kids, Nd.val, Nd.sits, Nd.size, rowSize, List.length_cons, List.length_nil] at hs hd ⊢
 obtain ⟨kb, ko, rfl⟩ : ∃ kb ko, a = some ⟨kb, ko, none⟩ := by
  obtain ⟨b0, o0, _, _, he, _⟩ := rowSits_get hs (i := 0) rfl
  exact ⟨b0, o0, he⟩
 have HX := Lib.hid hx; clear hx
 have hbx0 : Box w.heap.size #[.int .u8 44, .int .i64 n, str s, .slice (some ⟨kb, ko, none⟩) 1 c] 24 (w.alloc (.cells #[.int .u8 44, .int .i64 n, str s, .slice (some ⟨kb, ko, none⟩) 1 c] 24)) := Box.new _ _ _; have hxW : Fb B b w (w.alloc (.cells #[.int .u8 44, .int .i64 n, str s, .slice (some ⟨kb, ko, none⟩) 1 c] 24)) := Fb.of_ext ((Ext.refl _).alloc _) hle; have hb0 : Bld B b t (w.alloc (.cells #[.int .u8 44, .int .i64 n, str s, .slice (some ⟨kb, ko, none⟩) 1 c] 24)) := h.alloc _; have ht0 := ht.fb hxW hB; have hs0 := hs.fb hxW
 go_enter Tryz.func66, Tryz.ntmps66
 go_wp2_with fail
 refine (word_c _ _ (by omega) (by omega)).mono ?_; rintro e w1 ⟨rfl, rfl⟩; simp only
 go_wp2_with fail
 refine (write_c B b (w.heap.size + 1) 1 _ [kword 44] _ (hb0.alloc _) (Box.new' _ _ (by simp)) (by simp) (by (try simp at hlen ⊢) <;> omega)).mono ?_; rintro e u1 ⟨rfl, hb1, hx1⟩; have hxx1 : Fb B b (w.alloc (.cells #[.int .u8 44, .int .i64 n, str s, .slice (some ⟨kb, ko, none⟩) 1 c] 24)) u1 := Fb.trans (Fb.of_ext ((Ext.refl _).alloc _) hb0.le) hx1; obtain ⟨g0, g1, g2, g3⟩ := (hbx0.fb hxx1 (by omega) (by decide)).node; have ht1 := ht0.fb hxx1 hB; have hs1 := hs0.fb hxx1; obtain ⟨ka1, kc1, m0, m1, m2, m3, hk1⟩ := kid0 hs1; simp only
 go_wp2_with fail
 refine (HX.out B b _ _ ka1 kc1 hb1 ht1 hB hk1 (by (try simp at hlen ⊢) <;> omega)).mono ?_; rintro e u2 ⟨rfl, hb2, hx2⟩; have hxx2 : Fb B b (w.alloc (.cells #[.int .u8 44, .int .i64 n, str s, .slice (some ⟨kb, ko, none⟩) 1 c] 24)) u2 := Fb.trans hxx1 hx2; obtain ⟨g0, g1, g2, g3⟩ := (hbx0.fb hxx2 (by omega) (by decide)).node; have ht2 := ht0.fb hxx2 hB; have hs2 := hs0.fb hxx2; simp only
 go_wp2_with fail
 refine (write_c B b u2.heap.size 2 _ [[44, 32], s] _ (hb2.alloc _) (Box.new' _ _ (by simp)) (by simp) (by (try simp at hlen ⊢) <;> omega)).mono ?_; rintro e u3 ⟨rfl, hb3, hx3⟩; have hxx3 : Fb B b (w.alloc (.cells #[.int .u8 44, .int .i64 n, str s, .slice (some ⟨kb, ko, none⟩) 1 c] 24)) u3 := Fb.trans (Fb.trans hxx2 (Fb.of_ext ((Ext.refl _).alloc _) hb2.le)) hx3; obtain ⟨g0, g1, g2, g3⟩ := (hbx0.fb hxx3 (by omega) (by decide)).node; have ht3 := ht0.fb hxx3 hB; have hs3 := hs0.fb hxx3; simp only
 go_wp2_with fail
 go_end0
 exact ⟨rfl, by simpa using hb3, hxW.trans hxx3⟩
set_option maxHeartbeats 2000000 in
set_option maxRecDepth 100000 in
theorem stmt_45 (n : Int) (s : List UInt8) (x : Nd) (hx : Prints 29 Nd.text x) : PrintsD 66 Nd.stmtT (.mk 45 n s [x]) := by
 intro B b t w a c d h ht hB hs hd hlen
 have htx : (Nd.mk 45 n s [x]).stmtT d = kword 45 ++ x.text ++ [44, 32] ++ s := by rw [Nd.stmtT.eq_def]; simp
 rw [htx] at hlen ⊢; clear htx; have hle := h.le; have hlt := h.lt; simp only [Nd.kind, Nd.num, Nd.name, Nd.kids, Nd.val, Nd.sits, Nd.size, rowSize, List.length_cons, List.length_nil] at hs hd ⊢
 obtain ⟨kb, ko, rfl⟩ : ∃ kb ko, a = some ⟨kb, ko, none⟩ := by
  obtain ⟨b0, o0, _, _, he, _⟩ := rowSits_get hs (i := 0) rfl
  exact ⟨b0, o0, he⟩
 have HX := Lib.hid hx; clear hx
 have hbx0 : Box w.heap.size #[.int .u8 45, .int .i64 n, str s, .slice (some ⟨kb, ko, none⟩) 1 c] 24 (w.alloc (.cells #[.int .u8 45, .int .i64 n, str s, .slice (some ⟨kb, ko, none⟩) 1 c] 24)) := Box.new _ _ _; have hxW : Fb B b w (w.alloc (.cells #[.int .u8 45, .int .i64 n, str s, .slice (some ⟨kb, ko, none⟩) 1 c] 24)) := Fb.of_ext ((Ext.refl _).alloc _) hle; have hb0 : Bld B b t (w.alloc (.cells #[.int .u8 45, .int .i64 n, str s, .slice (some ⟨kb, ko, none⟩) 1 c] 24)) := h.alloc _; have ht0 := ht.fb hxW hB; have hs0 := hs.fb hxW
 go_enter Tryz.func66, Tryz.ntmps66
 go_wp2_with fail
 refine (word_c _ _ (by omega) (by omega)).mono ?_; rintro e w1 ⟨rfl, rfl⟩; simp only
 go_wp2_with fail
 refine (write_c B b (w.heap.size + 1) 1 _ [kword 45] _ (hb0.alloc _) (Box.new' _ _ (by simp)) (by simp) (by (try simp at hlen ⊢) <;> omega)).mono ?_; rintro e u1 ⟨rfl, hb1, hx1⟩; have hxx1 : Fb B b (w.alloc (.cells #[.int .u8 45, .int .i64 n, str s, .slice (some ⟨kb, ko, none⟩) 1 c] 24)) u1 := Fb.trans (Fb.of_ext ((Ext.refl _).alloc _) hb0.le) hx1; obtain ⟨g0, g1, g2, g3⟩ := (hbx0.fb hxx1 (by omega) (by decide)).node; have ht1 := ht0.fb hxx1 hB; have hs1 := hs0.fb hxx1; obtain ⟨ka1, kc1, m0, m1, m2, m3, hk1⟩ := kid0 hs1; simp only
 go_wp2_with fail
 refine (HX.out B b _ _ ka1 kc1 hb1 ht1 hB hk1 (by (try simp at hlen ⊢) <;> omega)).mono ?_; rintro e u2 ⟨rfl, hb2, hx2⟩; have hxx2 : Fb B b (w.alloc (.cells #[.int .u8 45, .int .i64 n, str s, .slice (some ⟨kb, ko, none⟩) 1 c] 24)) u2 := Fb.trans hxx1 hx2; obtain ⟨g0, g1, g2, g3⟩ := (hbx0.fb hxx2 (by omega) (by decide)).node; have ht2 := ht0.fb hxx2 hB; have hs2 := hs0.fb hxx2; simp only
 go_wp2_with fail
 refine (write_c B b u2.heap.size 2 _ [[44, 32], s] _ (hb2.alloc _) (Box.new' _ _ (by simp)) (by simp) (by (try simp at hlen ⊢) <;> omega)).mono ?_; rintro e u3 ⟨rfl, hb3, hx3⟩; have hxx3 : Fb B b (w.alloc (.cells #[.int .u8 45, .int .i64 n, str s, .slice (some ⟨kb, ko, none⟩) 1 c] 24)) u3 := Fb.trans (Fb.trans hxx2 (Fb.of_ext ((Ext.refl _).alloc _) hb2.le)) hx3; obtain ⟨g0, g1, g2, g3⟩ := (hbx0.fb hxx3 (by omega) (by decide)).node; have ht3 := ht0.fb hxx3 hB; have hs3 := hs0.fb hxx3; simp only
 go_wp2_with fail
 go_end0
 exact ⟨rfl, by simpa using hb3, hxW.trans hxx3⟩
set_option maxHeartbeats 2000000 in
set_option maxRecDepth 100000 in
theorem stmt_46 (n : Int) (s : List UInt8) (x : Nd) (hx : Prints 29 Nd.text x) : PrintsD 66 Nd.stmtT (.mk 46 n s [x]) := by
 intro B b t w a c d h ht hB hs hd hlen
 have htx : (Nd.mk 46 n s [x]).stmtT d = kword 46 ++ x.text := by rw [Nd.stmtT.eq_def]; simp
 rw [htx] at hlen ⊢; clear htx; have hle := h.le; have hlt := h.lt; simp only [Nd.kind, Nd.num, Nd.name, Nd.kids, Nd.val, Nd.sits, Nd.size, rowSize, List.length_cons, List.length_nil] at hs hd ⊢
 obtain ⟨kb, ko, rfl⟩ : ∃ kb ko, a = some ⟨kb, ko, none⟩ := by
  obtain ⟨b0, o0, _, _, he, _⟩ := rowSits_get hs (i := 0) rfl
  exact ⟨b0, o0, he⟩
 have HX := Lib.hid hx; clear hx
 have hbx0 : Box w.heap.size #[.int .u8 46, .int .i64 n, str s, .slice (some ⟨kb, ko, none⟩) 1 c] 24 (w.alloc (.cells #[.int .u8 46, .int .i64 n, str s, .slice (some ⟨kb, ko, none⟩) 1 c] 24)) := Box.new _ _ _; have hxW : Fb B b w (w.alloc (.cells #[.int .u8 46, .int .i64 n, str s, .slice (some ⟨kb, ko, none⟩) 1 c] 24)) := Fb.of_ext ((Ext.refl _).alloc _) hle; have hb0 : Bld B b t (w.alloc (.cells #[.int .u8 46, .int .i64 n, str s, .slice (some ⟨kb, ko, none⟩) 1 c] 24)) := h.alloc _; have ht0 := ht.fb hxW hB; have hs0 := hs.fb hxW
 go_enter Tryz.func66, Tryz.ntmps66
 go_wp2_with fail
 refine (word_c _ _ (by omega) (by omega)).mono ?_; rintro e w1 ⟨rfl, rfl⟩; simp only
 go_wp2_with fail
 refine (write_c B b (w.heap.size + 1) 1 _ [kword 46] _ (hb0.alloc _) (Box.new' _ _ (by simp)) (by simp) (by (try simp at hlen ⊢) <;> omega)).mono ?_; rintro e u1 ⟨rfl, hb1, hx1⟩; have hxx1 : Fb B b (w.alloc (.cells #[.int .u8 46, .int .i64 n, str s, .slice (some ⟨kb, ko, none⟩) 1 c] 24)) u1 := Fb.trans (Fb.of_ext ((Ext.refl _).alloc _) hb0.le) hx1; obtain ⟨g0, g1, g2, g3⟩ := (hbx0.fb hxx1 (by omega) (by decide)).node; have ht1 := ht0.fb hxx1 hB; have hs1 := hs0.fb hxx1; obtain ⟨ka1, kc1, m0, m1, m2, m3, hk1⟩ := kid0 hs1; simp only
 go_wp2_with fail
 refine (HX.out B b _ _ ka1 kc1 hb1 ht1 hB hk1 (by (try simp at hlen ⊢) <;> omega)).mono ?_; rintro e u2 ⟨rfl, hb2, hx2⟩; have hxx2 : Fb B b (w.alloc (.cells #[.int .u8 46, .int .i64 n, str s, .slice (some ⟨kb, ko, none⟩) 1 c] 24)) u2 := Fb.trans hxx1 hx2; obtain ⟨g0, g1, g2, g3⟩ := (hbx0.fb hxx2 (by omega) (by decide)).node; have ht2 := ht0.fb hxx2 hB; have hs2 := hs0.fb hxx2; simp only
 go_wp2_with fail
 go_end0
 exact ⟨rfl, by simpa using hb2, hxW.trans hxx2⟩
set_option maxHeartbeats 2000000 in
set_option maxRecDepth 100000 in
theorem stmt_47 (n : Int) (s : List UInt8) (x : Nd) (hx : Prints 29 Nd.text x) : PrintsD 66 Nd.stmtT (.mk 47 n s [x]) := by
 intro B b t w a c d h ht hB hs hd hlen
 have htx : (Nd.mk 47 n s [x]).stmtT d = kword 47 ++ x.text := by rw [Nd.stmtT.eq_def]; simp
 rw [htx] at hlen ⊢; clear htx; have hle := h.le; have hlt := h.lt; simp only [Nd.kind, Nd.num, Nd.name, Nd.kids, Nd.val, Nd.sits, Nd.size, rowSize, List.length_cons, List.length_nil] at hs hd ⊢
 obtain ⟨kb, ko, rfl⟩ : ∃ kb ko, a = some ⟨kb, ko, none⟩ := by
  obtain ⟨b0, o0, _, _, he, _⟩ := rowSits_get hs (i := 0) rfl
  exact ⟨b0, o0, he⟩
 have HX := Lib.hid hx; clear hx
 have hbx0 : Box w.heap.size #[.int .u8 47, .int .i64 n, str s, .slice (some ⟨kb, ko, none⟩) 1 c] 24 (w.alloc (.cells #[.int .u8 47, .int .i64 n, str s, .slice (some ⟨kb, ko, none⟩) 1 c] 24)) := Box.new _ _ _; have hxW : Fb B b w (w.alloc (.cells #[.int .u8 47, .int .i64 n, str s, .slice (some ⟨kb, ko, none⟩) 1 c] 24)) := Fb.of_ext ((Ext.refl _).alloc _) hle; have hb0 : Bld B b t (w.alloc (.cells #[.int .u8 47, .int .i64 n, str s, .slice (some ⟨kb, ko, none⟩) 1 c] 24)) := h.alloc _; have ht0 := ht.fb hxW hB; have hs0 := hs.fb hxW
 go_enter Tryz.func66, Tryz.ntmps66
 go_wp2_with fail
 refine (word_c _ _ (by omega) (by omega)).mono ?_; rintro e w1 ⟨rfl, rfl⟩; simp only
 go_wp2_with fail
 refine (write_c B b (w.heap.size + 1) 1 _ [kword 47] _ (hb0.alloc _) (Box.new' _ _ (by simp)) (by simp) (by (try simp at hlen ⊢) <;> omega)).mono ?_; rintro e u1 ⟨rfl, hb1, hx1⟩; have hxx1 : Fb B b (w.alloc (.cells #[.int .u8 47, .int .i64 n, str s, .slice (some ⟨kb, ko, none⟩) 1 c] 24)) u1 := Fb.trans (Fb.of_ext ((Ext.refl _).alloc _) hb0.le) hx1; obtain ⟨g0, g1, g2, g3⟩ := (hbx0.fb hxx1 (by omega) (by decide)).node; have ht1 := ht0.fb hxx1 hB; have hs1 := hs0.fb hxx1; obtain ⟨ka1, kc1, m0, m1, m2, m3, hk1⟩ := kid0 hs1; simp only
 go_wp2_with fail
 refine (HX.out B b _ _ ka1 kc1 hb1 ht1 hB hk1 (by (try simp at hlen ⊢) <;> omega)).mono ?_; rintro e u2 ⟨rfl, hb2, hx2⟩; have hxx2 : Fb B b (w.alloc (.cells #[.int .u8 47, .int .i64 n, str s, .slice (some ⟨kb, ko, none⟩) 1 c] 24)) u2 := Fb.trans hxx1 hx2; obtain ⟨g0, g1, g2, g3⟩ := (hbx0.fb hxx2 (by omega) (by decide)).node; have ht2 := ht0.fb hxx2 hB; have hs2 := hs0.fb hxx2; simp only
 go_wp2_with fail
 go_end0
 exact ⟨rfl, by simpa using hb2, hxW.trans hxx2⟩
set_option maxHeartbeats 2000000 in
set_option maxRecDepth 100000 in
theorem stmt_48 (n : Int) (s : List UInt8) (x : Nd) (hx : Prints 29 Nd.text x) : PrintsD 66 Nd.stmtT (.mk 48 n s [x]) := by
 intro B b t w a c d h ht hB hs hd hlen
 have htx : (Nd.mk 48 n s [x]).stmtT d = kword 48 ++ x.text := by rw [Nd.stmtT.eq_def]; simp
 rw [htx] at hlen ⊢; clear htx; have hle := h.le; have hlt := h.lt; simp only [Nd.kind, Nd.num, Nd.name, Nd.kids, Nd.val, Nd.sits, Nd.size, rowSize, List.length_cons, List.length_nil] at hs hd ⊢
 obtain ⟨kb, ko, rfl⟩ : ∃ kb ko, a = some ⟨kb, ko, none⟩ := by
  obtain ⟨b0, o0, _, _, he, _⟩ := rowSits_get hs (i := 0) rfl
  exact ⟨b0, o0, he⟩
 have HX := Lib.hid hx; clear hx
 have hbx0 : Box w.heap.size #[.int .u8 48, .int .i64 n, str s, .slice (some ⟨kb, ko, none⟩) 1 c] 24 (w.alloc (.cells #[.int .u8 48, .int .i64 n, str s, .slice (some ⟨kb, ko, none⟩) 1 c] 24)) := Box.new _ _ _; have hxW : Fb B b w (w.alloc (.cells #[.int .u8 48, .int .i64 n, str s, .slice (some ⟨kb, ko, none⟩) 1 c] 24)) := Fb.of_ext ((Ext.refl _).alloc _) hle; have hb0 : Bld B b t (w.alloc (.cells #[.int .u8 48, .int .i64 n, str s, .slice (some ⟨kb, ko, none⟩) 1 c] 24)) := h.alloc _; have ht0 := ht.fb hxW hB; have hs0 := hs.fb hxW
 go_enter Tryz.func66, Tryz.ntmps66
 go_wp2_with fail
 refine (word_c _ _ (by omega) (by omega)).mono ?_; rintro e w1 ⟨rfl, rfl⟩; simp only
 go_wp2_with fail
 refine (write_c B b (w.heap.size + 1) 1 _ [kword 48] _ (hb0.alloc _) (Box.new' _ _ (by simp)) (by simp) (by (try simp at hlen ⊢) <;> omega)).mono ?_; rintro e u1 ⟨rfl, hb1, hx1⟩; have hxx1 : Fb B b (w.alloc (.cells #[.int .u8 48, .int .i64 n, str s, .slice (some ⟨kb, ko, none⟩) 1 c] 24)) u1 := Fb.trans (Fb.of_ext ((Ext.refl _).alloc _) hb0.le) hx1; obtain ⟨g0, g1, g2, g3⟩ := (hbx0.fb hxx1 (by omega) (by decide)).node; have ht1 := ht0.fb hxx1 hB; have hs1 := hs0.fb hxx1; obtain ⟨ka1, kc1, m0, m1, m2, m3, hk1⟩ := kid0 hs1; simp only
 go_wp2_with fail
 refine (HX.out B b _ _ ka1 kc1 hb1 ht1 hB hk1 (by (try simp at hlen ⊢) <;> omega)).mono ?_; rintro e u2 ⟨rfl, hb2, hx2⟩; have hxx2 : Fb B b (w.alloc (.cells #[.int .u8 48, .int .i64 n, str s, .slice (some ⟨kb, ko, none⟩) 1 c] 24)) u2 := Fb.trans hxx1 hx2; obtain ⟨g0, g1, g2, g3⟩ := (hbx0.fb hxx2 (by omega) (by decide)).node; have ht2 := ht0.fb hxx2 hB; have hs2 := hs0.fb hxx2; simp only
 go_wp2_with fail
 go_end0
 exact ⟨rfl, by simpa using hb2, hxW.trans hxx2⟩
set_option maxHeartbeats 2000000 in
set_option maxRecDepth 100000 in
theorem stmt_49 (n : Int) (s : List UInt8) (x : Nd) (hx : Prints 29 Nd.text x) : PrintsD 66 Nd.stmtT (.mk 49 n s [x]) := by
 intro B b t w a c d h ht hB hs hd hlen
 have htx : (Nd.mk 49 n s [x]).stmtT d = kword 49 ++ x.text := by rw [Nd.stmtT.eq_def]; simp
 rw [htx] at hlen ⊢; clear htx; have hle := h.le; have hlt := h.lt; simp only [Nd.kind, Nd.num, Nd.name, Nd.kids, Nd.val, Nd.sits, Nd.size, rowSize, List.length_cons, List.length_nil] at hs hd ⊢
 obtain ⟨kb, ko, rfl⟩ : ∃ kb ko, a = some ⟨kb, ko, none⟩ := by
  obtain ⟨b0, o0, _, _, he, _⟩ := rowSits_get hs (i := 0) rfl
  exact ⟨b0, o0, he⟩
 have HX := Lib.hid hx; clear hx
 have hbx0 : Box w.heap.size #[.int .u8 49, .int .i64 n, str s, .slice (some ⟨kb, ko, none⟩) 1 c] 24 (w.alloc (.cells #[.int .u8 49, .int .i64 n, str s, .slice (some ⟨kb, ko, none⟩) 1 c] 24)) := Box.new _ _ _; have hxW : Fb B b w (w.alloc (.cells #[.int .u8 49, .int .i64 n, str s, .slice (some ⟨kb, ko, none⟩) 1 c] 24)) := Fb.of_ext ((Ext.refl _).alloc _) hle; have hb0 : Bld B b t (w.alloc (.cells #[.int .u8 49, .int .i64 n, str s, .slice (some ⟨kb, ko, none⟩) 1 c] 24)) := h.alloc _; have ht0 := ht.fb hxW hB; have hs0 := hs.fb hxW
 go_enter Tryz.func66, Tryz.ntmps66
 go_wp2_with fail
 refine (word_c _ _ (by omega) (by omega)).mono ?_; rintro e w1 ⟨rfl, rfl⟩; simp only
 go_wp2_with fail
 refine (write_c B b (w.heap.size + 1) 1 _ [kword 49] _ (hb0.alloc _) (Box.new' _ _ (by simp)) (by simp) (by (try simp at hlen ⊢) <;> omega)).mono ?_; rintro e u1 ⟨rfl, hb1, hx1⟩; have hxx1 : Fb B b (w.alloc (.cells #[.int .u8 49, .int .i64 n, str s, .slice (some ⟨kb, ko, none⟩) 1 c] 24)) u1 := Fb.trans (Fb.of_ext ((Ext.refl _).alloc _) hb0.le) hx1; obtain ⟨g0, g1, g2, g3⟩ := (hbx0.fb hxx1 (by omega) (by decide)).node; have ht1 := ht0.fb hxx1 hB; have hs1 := hs0.fb hxx1; obtain ⟨ka1, kc1, m0, m1, m2, m3, hk1⟩ := kid0 hs1; simp only
 go_wp2_with fail
 refine (HX.out B b _ _ ka1 kc1 hb1 ht1 hB hk1 (by (try simp at hlen ⊢) <;> omega)).mono ?_; rintro e u2 ⟨rfl, hb2, hx2⟩; have hxx2 : Fb B b (w.alloc (.cells #[.int .u8 49, .int .i64 n, str s, .slice (some ⟨kb, ko, none⟩) 1 c] 24)) u2 := Fb.trans hxx1 hx2; obtain ⟨g0, g1, g2, g3⟩ := (hbx0.fb hxx2 (by omega) (by decide)).node; have ht2 := ht0.fb hxx2 hB; have hs2 := hs0.fb hxx2; simp only
 go_wp2_with fail
 go_end0
 exact ⟨rfl, by simpa using hb2, hxW.trans hxx2⟩
set_option maxHeartbeats 2000000 in
set_option maxRecDepth 100000 in
theorem branches_c (k n : Int) (s : List UInt8) (x y z u : Nd) (hx : Prints 29 Nd.text x) (hy : PrintsD 38 Nd.linesT y) (hz : PrintsD 38 Nd.linesT z) (hu : Prints 29 Nd.text u) (mid lst : List UInt8) (B b : Nat) (t : List UInt8) (w : World) (a : Option Addr) (c d : Nat)
 (h : Bld B b t w) (ht : Tabs w) (hB : Tryz.prog.globals.size ≤ B) (hs : rowSits (· < B) w [x, y, z, u] a) (hd : d + (1 + rowSize [x, y, z, u]) ≤ 1000000) (hlen : (t ++ (x.text ++ bracesT y d ++ mid ++ bracesT z d ++ lst ++ u.text)).length ≤ 140737488355328) :
 Calls Tryz.prog 90 #[.pointer (some ⟨b, 0, none⟩), .agg #[.int .u8 k, .int .i64 n, str s, .slice a 4 c], .int .i64 d, str mid, str lst] w fun e w' => e = .returned (.tuple #[]) ∧ Bld B b (t ++ (x.text ++ bracesT y d ++ mid ++ bracesT z d ++ lst ++ u.text)) w' ∧ Fb B b w w' := by
 have hle := h.le; have hlt := h.lt; simp only [rowSize] at hd
 obtain ⟨kb, ko, rfl⟩ : ∃ kb ko, a = some ⟨kb, ko, none⟩ := by
  obtain ⟨b0, o0, _, _, he, _⟩ := rowSits_get hs (i := 0) rfl
  exact ⟨b0, o0, he⟩
 have HX := Lib.hid hx; clear hx
 have HY := Lib.hid hy; clear hy
 have HZ := Lib.hid hz; clear hz
 have HU := Lib.hid hu; clear hu
 have hbx0 : Box w.heap.size #[.int .u8 k, .int .i64 n, str s, .slice (some ⟨kb, ko, none⟩) 4 c] 24 (w.alloc (.cells #[.int .u8 k, .int .i64 n, str s, .slice (some ⟨kb, ko, none⟩) 4 c] 24)) := Box.new _ _ _; have hxW : Fb B b w (w.alloc (.cells #[.int .u8 k, .int .i64 n, str s, .slice (some ⟨kb, ko, none⟩) 4 c] 24)) := Fb.of_ext ((Ext.refl _).alloc _) hle; have hb0 : Bld B b t (w.alloc (.cells #[.int .u8 k, .int .i64 n, str s, .slice (some ⟨kb, ko, none⟩) 4 c] 24)) := h.alloc _; have ht0 := ht.fb hxW hB; have hs0 := hs.fb hxW; have hxx0 := Fb.refl B b (w.alloc (.cells #[.int .u8 k, .int .i64 n, str s, .slice (some ⟨kb, ko, none⟩) 4 c] 24)); obtain ⟨ka0, kc0, m0, m1, m2, m3, hk0⟩ := kid0 hs0
 have hkw : kb < w.heap.size := by
  have := cell_lt m0; have h2 := (rowSits_get hs (i := 0) rfl); obtain ⟨_, _, _, _, he, h3, h4, _⟩ := h2; simp only [Option.some.injEq, Addr.mk.injEq] at he; obtain ⟨rfl, rfl, -⟩ := he
  omega
 go_enter Tryz.func90, Tryz.ntmps90
 go_wp2_with fail
 refine (HX.out B b _ _ ka0 kc0 hb0 ht0 hB hk0 (by (try simp at hlen ⊢) <;> omega)).mono ?_; rintro e u1 ⟨rfl, hb1, hx1⟩; have hxx1 : Fb B b (w.alloc (.cells #[.int .u8 k, .int .i64 n, str s, .slice (some ⟨kb, ko, none⟩) 4 c] 24)) u1 := Fb.trans hxx0 hx1; obtain ⟨g0, g1, g2, g3⟩ := (hbx0.fb hxx1 (by omega) (by decide)).node; have ht1 := ht0.fb hxx1 hB; have hs1 := hs0.fb hxx1; obtain ⟨ka1, kc1, m0, m1, m2, m3, m4, m5, m6, hk1⟩ := kid1 hs1; simp only
 go_wp2_with fail
 refine (braces_c _ HY.out B b _ _ ka1 kc1 d hb1 ht1 hB hk1 (by omega) (by (try simp at hlen ⊢) <;> omega)).mono ?_; rintro e u2 ⟨rfl, hb2, hx2⟩; have hxx2 : Fb B b (w.alloc (.cells #[.int .u8 k, .int .i64 n, str s, .slice (some ⟨kb, ko, none⟩) 4 c] 24)) u2 := Fb.trans hxx1 hx2; obtain ⟨g0, g1, g2, g3⟩ := (hbx0.fb hxx2 (by omega) (by decide)).node; have ht2 := ht0.fb hxx2 hB; have hs2 := hs0.fb hxx2; simp only
 go_wp2_with fail
 refine (write_c B b u2.heap.size 1 _ [mid] _ (hb2.alloc _) (Box.new' _ _ (by simp)) (by simp) (by (try simp at hlen ⊢) <;> omega)).mono ?_; rintro e u3 ⟨rfl, hb3, hx3⟩; have hxx3 : Fb B b (w.alloc (.cells #[.int .u8 k, .int .i64 n, str s, .slice (some ⟨kb, ko, none⟩) 4 c] 24)) u3 := Fb.trans (Fb.trans hxx2 (Fb.of_ext ((Ext.refl _).alloc _) hb2.le)) hx3; obtain ⟨g0, g1, g2, g3⟩ := (hbx0.fb hxx3 (by omega) (by decide)).node; have ht3 := ht0.fb hxx3 hB; have hs3 := hs0.fb hxx3; obtain ⟨ka3, kc3, m0, m1, m2, m3, m4, m5, m6, hk3⟩ := kid2 hs3; simp only
 go_wp2_with fail
 refine (braces_c _ HZ.out B b _ _ ka3 kc3 d hb3 ht3 hB hk3 (by omega) (by (try simp at hlen ⊢) <;> omega)).mono ?_; rintro e u4 ⟨rfl, hb4, hx4⟩; have hxx4 : Fb B b (w.alloc (.cells #[.int .u8 k, .int .i64 n, str s, .slice (some ⟨kb, ko, none⟩) 4 c] 24)) u4 := Fb.trans hxx3 hx4; obtain ⟨g0, g1, g2, g3⟩ := (hbx0.fb hxx4 (by omega) (by decide)).node; have ht4 := ht0.fb hxx4 hB; have hs4 := hs0.fb hxx4; simp only
 go_wp2_with fail
 refine (write_c B b u4.heap.size 1 _ [lst] _ (hb4.alloc _) (Box.new' _ _ (by simp)) (by simp) (by (try simp at hlen ⊢) <;> omega)).mono ?_; rintro e u5 ⟨rfl, hb5, hx5⟩; have hxx5 : Fb B b (w.alloc (.cells #[.int .u8 k, .int .i64 n, str s, .slice (some ⟨kb, ko, none⟩) 4 c] 24)) u5 := Fb.trans (Fb.trans hxx4 (Fb.of_ext ((Ext.refl _).alloc _) hb4.le)) hx5; obtain ⟨g0, g1, g2, g3⟩ := (hbx0.fb hxx5 (by omega) (by decide)).node; have ht5 := ht0.fb hxx5 hB; have hs5 := hs0.fb hxx5; obtain ⟨ka5, kc5, m0, m1, m2, m3, m4, m5, m6, hk5⟩ := kid3 hs5; simp only
 go_wp2_with fail
 refine (HU.out B b _ _ ka5 kc5 hb5 ht5 hB hk5 (by (try simp at hlen ⊢) <;> omega)).mono ?_; rintro e u6 ⟨rfl, hb6, hx6⟩; have hxx6 : Fb B b (w.alloc (.cells #[.int .u8 k, .int .i64 n, str s, .slice (some ⟨kb, ko, none⟩) 4 c] 24)) u6 := Fb.trans hxx5 hx6; obtain ⟨g0, g1, g2, g3⟩ := (hbx0.fb hxx6 (by omega) (by decide)).node; have ht6 := ht0.fb hxx6 hB; have hs6 := hs0.fb hxx6; simp only
 go_wp2_with fail
 go_end0
 exact ⟨rfl, by simpa using hb6, hxW.trans hxx6⟩
set_option maxHeartbeats 2000000 in
set_option maxRecDepth 100000 in
theorem stmt_52 (n : Int) (s : List UInt8) (x y z u : Nd) (hx : Prints 29 Nd.text x) (hy : PrintsD 38 Nd.linesT y) (hz : PrintsD 38 Nd.linesT z) (hu : Prints 29 Nd.text u) : PrintsD 66 Nd.stmtT (.mk 52 n s [x, y, z, u]) := by
 intro B b t w a c d h ht hB hs hd hlen
 have htx : (Nd.mk 52 n s [x, y, z, u]).stmtT d = kword 52 ++ x.text ++ bracesT y d ++ [32, 101, 108, 115, 101] ++ bracesT z d ++ [32, 102, 105, 32] ++ u.text := by rw [Nd.stmtT.eq_def]; simp [bracesT]
 rw [htx] at hlen ⊢; clear htx; have hle := h.le; have hlt := h.lt; simp only [Nd.kind, Nd.num, Nd.name, Nd.kids, Nd.val, Nd.sits, Nd.size, rowSize, List.length_cons, List.length_nil] at hs hd ⊢
 obtain ⟨kb, ko, rfl⟩ : ∃ kb ko, a = some ⟨kb, ko, none⟩ := by
  obtain ⟨b0, o0, _, _, he, _⟩ := rowSits_get hs (i := 0) rfl
  exact ⟨b0, o0, he⟩
 have HX := Lib.hid hx; clear hx
 have HY := Lib.hid hy; clear hy
 have HZ := Lib.hid hz; clear hz
 have HU := Lib.hid hu; clear hu
 have hbx0 : Box w.heap.size #[.int .u8 52, .int .i64 n, str s, .slice (some ⟨kb, ko, none⟩) 4 c] 24 (w.alloc (.cells #[.int .u8 52, .int .i64 n, str s, .slice (some ⟨kb, ko, none⟩) 4 c] 24)) := Box.new _ _ _; have hxW : Fb B b w (w.alloc (.cells #[.int .u8 52, .int .i64 n, str s, .slice (some ⟨kb, ko, none⟩) 4 c] 24)) := Fb.of_ext ((Ext.refl _).alloc _) hle; have hb0 : Bld B b t (w.alloc (.cells #[.int .u8 52, .int .i64 n, str s, .slice (some ⟨kb, ko, none⟩) 4 c] 24)) := h.alloc _; have ht0 := ht.fb hxW hB; have hs0 := hs.fb hxW
 go_enter Tryz.func66, Tryz.ntmps66
 go_wp2_with fail
 refine (word_c _ _ (by omega) (by omega)).mono ?_; rintro e w1 ⟨rfl, rfl⟩; simp only
 go_wp2_with fail
 refine (write_c B b (w.heap.size + 1) 1 _ [kword 52] _ (hb0.alloc _) (Box.new' _ _ (by simp)) (by simp) (by (try simp at hlen ⊢) <;> omega)).mono ?_; rintro e u1 ⟨rfl, hb1, hx1⟩; have hxx1 : Fb B b (w.alloc (.cells #[.int .u8 52, .int .i64 n, str s, .slice (some ⟨kb, ko, none⟩) 4 c] 24)) u1 := Fb.trans (Fb.of_ext ((Ext.refl _).alloc _) hb0.le) hx1; obtain ⟨g0, g1, g2, g3⟩ := (hbx0.fb hxx1 (by omega) (by decide)).node; have ht1 := ht0.fb hxx1 hB; have hs1 := hs0.fb hxx1; simp only
 go_wp2_with fail
 refine (branches_c _ _ _ x y z u HX.out HY.out HZ.out HU.out [32, 101, 108, 115, 101] [32, 102, 105, 32] B b _ _ _ c d hb1 ht1 hB hs1 (by simp only [rowSize]; omega) (by (try simp at hlen ⊢) <;> omega)).mono ?_; rintro e u2 ⟨rfl, hb2, hx2⟩; have hxx2 : Fb B b (w.alloc (.cells #[.int .u8 52, .int .i64 n, str s, .slice (some ⟨kb, ko, none⟩) 4 c] 24)) u2 := Fb.trans hxx1 hx2; obtain ⟨g0, g1, g2, g3⟩ := (hbx0.fb hxx2 (by omega) (by decide)).node; have ht2 := ht0.fb hxx2 hB; have hs2 := hs0.fb hxx2; simp only
 go_wp2_with fail
 go_end0
 exact ⟨rfl, by simpa using hb2, hxW.trans hxx2⟩
set_option maxHeartbeats 2000000 in
set_option maxRecDepth 100000 in
theorem stmt_53 (n : Int) (s : List UInt8) (x y z u : Nd) (hx : Prints 29 Nd.text x) (hy : PrintsD 38 Nd.linesT y) (hz : PrintsD 38 Nd.linesT z) (hu : Prints 29 Nd.text u) : PrintsD 66 Nd.stmtT (.mk 53 n s [x, y, z, u]) := by
 intro B b t w a c d h ht hB hs hd hlen
 have htx : (Nd.mk 53 n s [x, y, z, u]).stmtT d = kword 53 ++ x.text ++ bracesT y d ++ [32, 108, 111, 111, 112] ++ bracesT z d ++ [32, 117, 110, 116, 105, 108, 32] ++ u.text := by rw [Nd.stmtT.eq_def]; simp [bracesT]
 rw [htx] at hlen ⊢; clear htx; have hle := h.le; have hlt := h.lt; simp only [Nd.kind, Nd.num, Nd.name, Nd.kids, Nd.val, Nd.sits, Nd.size, rowSize, List.length_cons, List.length_nil] at hs hd ⊢
 obtain ⟨kb, ko, rfl⟩ : ∃ kb ko, a = some ⟨kb, ko, none⟩ := by
  obtain ⟨b0, o0, _, _, he, _⟩ := rowSits_get hs (i := 0) rfl
  exact ⟨b0, o0, he⟩
 have HX := Lib.hid hx; clear hx
 have HY := Lib.hid hy; clear hy
 have HZ := Lib.hid hz; clear hz
 have HU := Lib.hid hu; clear hu
 have hbx0 : Box w.heap.size #[.int .u8 53, .int .i64 n, str s, .slice (some ⟨kb, ko, none⟩) 4 c] 24 (w.alloc (.cells #[.int .u8 53, .int .i64 n, str s, .slice (some ⟨kb, ko, none⟩) 4 c] 24)) := Box.new _ _ _; have hxW : Fb B b w (w.alloc (.cells #[.int .u8 53, .int .i64 n, str s, .slice (some ⟨kb, ko, none⟩) 4 c] 24)) := Fb.of_ext ((Ext.refl _).alloc _) hle; have hb0 : Bld B b t (w.alloc (.cells #[.int .u8 53, .int .i64 n, str s, .slice (some ⟨kb, ko, none⟩) 4 c] 24)) := h.alloc _; have ht0 := ht.fb hxW hB; have hs0 := hs.fb hxW
 go_enter Tryz.func66, Tryz.ntmps66
 go_wp2_with fail
 refine (word_c _ _ (by omega) (by omega)).mono ?_; rintro e w1 ⟨rfl, rfl⟩; simp only
 go_wp2_with fail
 refine (write_c B b (w.heap.size + 1) 1 _ [kword 53] _ (hb0.alloc _) (Box.new' _ _ (by simp)) (by simp) (by (try simp at hlen ⊢) <;> omega)).mono ?_; rintro e u1 ⟨rfl, hb1, hx1⟩; have hxx1 : Fb B b (w.alloc (.cells #[.int .u8 53, .int .i64 n, str s, .slice (some ⟨kb, ko, none⟩) 4 c] 24)) u1 := Fb.trans (Fb.of_ext ((Ext.refl _).alloc _) hb0.le) hx1; obtain ⟨g0, g1, g2, g3⟩ := (hbx0.fb hxx1 (by omega) (by decide)).node; have ht1 := ht0.fb hxx1 hB; have hs1 := hs0.fb hxx1; simp only
 go_wp2_with fail
 refine (branches_c _ _ _ x y z u HX.out HY.out HZ.out HU.out [32, 108, 111, 111, 112] [32, 117, 110, 116, 105, 108, 32] B b _ _ _ c d hb1 ht1 hB hs1 (by simp only [rowSize]; omega) (by (try simp at hlen ⊢) <;> omega)).mono ?_; rintro e u2 ⟨rfl, hb2, hx2⟩; have hxx2 : Fb B b (w.alloc (.cells #[.int .u8 53, .int .i64 n, str s, .slice (some ⟨kb, ko, none⟩) 4 c] 24)) u2 := Fb.trans hxx1 hx2; obtain ⟨g0, g1, g2, g3⟩ := (hbx0.fb hxx2 (by omega) (by decide)).node; have ht2 := ht0.fb hxx2 hB; have hs2 := hs0.fb hxx2; simp only
 go_wp2_with fail
 go_end0
 exact ⟨rfl, by simpa using hb2, hxW.trans hxx2⟩
set_option maxHeartbeats 2000000 in
set_option maxRecDepth 100000 in
theorem stmt_54 (n : Int) (s : List UInt8) (x y z : Nd) (hx : Prints 29 Nd.text x) (hy : PrintsD 38 Nd.linesT y) (hz : Prints 29 Nd.text z) : PrintsD 66 Nd.stmtT (.mk 54 n s [x, y, z]) := by
 intro B b t w a c d h ht hB hs hd hlen
 have htx : (Nd.mk 54 n s [x, y, z]).stmtT d = kword 54 ++ s ++ [32, 61, 32] ++ x.text ++ bracesT y d ++ [32, 100, 101, 108, 111, 99, 97, 108, 32] ++ z.text := by rw [Nd.stmtT.eq_def]; simp [bracesT]
 rw [htx] at hlen ⊢; clear htx; have hle := h.le; have hlt := h.lt; simp only [Nd.kind, Nd.num, Nd.name, Nd.kids, Nd.val, Nd.sits, Nd.size, rowSize, List.length_cons, List.length_nil] at hs hd ⊢
 obtain ⟨kb, ko, rfl⟩ : ∃ kb ko, a = some ⟨kb, ko, none⟩ := by
  obtain ⟨b0, o0, _, _, he, _⟩ := rowSits_get hs (i := 0) rfl
  exact ⟨b0, o0, he⟩
 have HX := Lib.hid hx; clear hx
 have HY := Lib.hid hy; clear hy
 have HZ := Lib.hid hz; clear hz
 have hbx0 : Box w.heap.size #[.int .u8 54, .int .i64 n, str s, .slice (some ⟨kb, ko, none⟩) 3 c] 24 (w.alloc (.cells #[.int .u8 54, .int .i64 n, str s, .slice (some ⟨kb, ko, none⟩) 3 c] 24)) := Box.new _ _ _; have hxW : Fb B b w (w.alloc (.cells #[.int .u8 54, .int .i64 n, str s, .slice (some ⟨kb, ko, none⟩) 3 c] 24)) := Fb.of_ext ((Ext.refl _).alloc _) hle; have hb0 : Bld B b t (w.alloc (.cells #[.int .u8 54, .int .i64 n, str s, .slice (some ⟨kb, ko, none⟩) 3 c] 24)) := h.alloc _; have ht0 := ht.fb hxW hB; have hs0 := hs.fb hxW
 go_enter Tryz.func66, Tryz.ntmps66
 go_wp2_with fail
 refine (word_c _ _ (by omega) (by omega)).mono ?_; rintro e w1 ⟨rfl, rfl⟩; simp only
 go_wp2_with fail
 refine (write_c B b (w.heap.size + 1) 1 _ [kword 54] _ (hb0.alloc _) (Box.new' _ _ (by simp)) (by simp) (by (try simp at hlen ⊢) <;> omega)).mono ?_; rintro e u1 ⟨rfl, hb1, hx1⟩; have hxx1 : Fb B b (w.alloc (.cells #[.int .u8 54, .int .i64 n, str s, .slice (some ⟨kb, ko, none⟩) 3 c] 24)) u1 := Fb.trans (Fb.of_ext ((Ext.refl _).alloc _) hb0.le) hx1; obtain ⟨g0, g1, g2, g3⟩ := (hbx0.fb hxx1 (by omega) (by decide)).node; have ht1 := ht0.fb hxx1 hB; have hs1 := hs0.fb hxx1; simp only
 go_wp2_with fail
 refine (write_c B b u1.heap.size 2 _ [s, [32, 61, 32]] _ (hb1.alloc _) (Box.new' _ _ (by simp)) (by simp) (by (try simp at hlen ⊢) <;> omega)).mono ?_; rintro e u2 ⟨rfl, hb2, hx2⟩; have hxx2 : Fb B b (w.alloc (.cells #[.int .u8 54, .int .i64 n, str s, .slice (some ⟨kb, ko, none⟩) 3 c] 24)) u2 := Fb.trans (Fb.trans hxx1 (Fb.of_ext ((Ext.refl _).alloc _) hb1.le)) hx2; obtain ⟨g0, g1, g2, g3⟩ := (hbx0.fb hxx2 (by omega) (by decide)).node; have ht2 := ht0.fb hxx2 hB; have hs2 := hs0.fb hxx2; obtain ⟨ka2, kc2, m0, m1, m2, m3, hk2⟩ := kid0 hs2; simp only
 go_wp2_with fail
 refine (HX.out B b _ _ ka2 kc2 hb2 ht2 hB hk2 (by (try simp at hlen ⊢) <;> omega)).mono ?_; rintro e u3 ⟨rfl, hb3, hx3⟩; have hxx3 : Fb B b (w.alloc (.cells #[.int .u8 54, .int .i64 n, str s, .slice (some ⟨kb, ko, none⟩) 3 c] 24)) u3 := Fb.trans hxx2 hx3; obtain ⟨g0, g1, g2, g3⟩ := (hbx0.fb hxx3 (by omega) (by decide)).node; have ht3 := ht0.fb hxx3 hB; have hs3 := hs0.fb hxx3; obtain ⟨ka3, kc3, m0, m1, m2, m3, m4, m5, m6, hk3⟩ := kid1 hs3; simp only
 go_wp2_with fail
 refine (braces_c _ HY.out B b _ _ ka3 kc3 d hb3 ht3 hB hk3 (by omega) (by (try simp at hlen ⊢) <;> omega)).mono ?_; rintro e u4 ⟨rfl, hb4, hx4⟩; have hxx4 : Fb B b (w.alloc (.cells #[.int .u8 54, .int .i64 n, str s, .slice (some ⟨kb, ko, none⟩) 3 c] 24)) u4 := Fb.trans hxx3 hx4; obtain ⟨g0, g1, g2, g3⟩ := (hbx0.fb hxx4 (by omega) (by decide)).node; have ht4 := ht0.fb hxx4 hB; have hs4 := hs0.fb hxx4; simp only
 go_wp2_with fail
 refine (write_c B b u4.heap.size 1 _ [[32, 100, 101, 108, 111, 99, 97, 108, 32]] _ (hb4.alloc _) (Box.new' _ _ (by simp)) (by simp) (by (try simp at hlen ⊢) <;> omega)).mono ?_; rintro e u5 ⟨rfl, hb5, hx5⟩; have hxx5 : Fb B b (w.alloc (.cells #[.int .u8 54, .int .i64 n, str s, .slice (some ⟨kb, ko, none⟩) 3 c] 24)) u5 := Fb.trans (Fb.trans hxx4 (Fb.of_ext ((Ext.refl _).alloc _) hb4.le)) hx5; obtain ⟨g0, g1, g2, g3⟩ := (hbx0.fb hxx5 (by omega) (by decide)).node; have ht5 := ht0.fb hxx5 hB; have hs5 := hs0.fb hxx5; obtain ⟨ka5, kc5, m0, m1, m2, m3, m4, m5, m6, hk5⟩ := kid2 hs5; simp only
 go_wp2_with fail
 refine (HZ.out B b _ _ ka5 kc5 hb5 ht5 hB hk5 (by (try simp at hlen ⊢) <;> omega)).mono ?_; rintro e u6 ⟨rfl, hb6, hx6⟩; have hxx6 : Fb B b (w.alloc (.cells #[.int .u8 54, .int .i64 n, str s, .slice (some ⟨kb, ko, none⟩) 3 c] 24)) u6 := Fb.trans hxx5 hx6; obtain ⟨g0, g1, g2, g3⟩ := (hbx0.fb hxx6 (by omega) (by decide)).node; have ht6 := ht0.fb hxx6 hB; have hs6 := hs0.fb hxx6; simp only
 go_wp2_with fail
 go_end0
 exact ⟨rfl, by simpa using hb6, hxW.trans hxx6⟩
set_option maxHeartbeats 2000000 in
set_option maxRecDepth 100000 in
theorem stmt_55 (n : Int) (s : List UInt8) (x : Nd) (hx : PrintsD 38 Nd.linesT x) : PrintsD 66 Nd.stmtT (.mk 55 n s [x]) := by
 intro B b t w a c d h ht hB hs hd hlen
 have htx : (Nd.mk 55 n s [x]).stmtT d = kword 55 ++ s ++ bracesT x d := by rw [Nd.stmtT.eq_def]; simp [bracesT]
 rw [htx] at hlen ⊢; clear htx; have hle := h.le; have hlt := h.lt; simp only [Nd.kind, Nd.num, Nd.name, Nd.kids, Nd.val, Nd.sits, Nd.size, rowSize, List.length_cons, List.length_nil] at hs hd ⊢
 obtain ⟨kb, ko, rfl⟩ : ∃ kb ko, a = some ⟨kb, ko, none⟩ := by
  obtain ⟨b0, o0, _, _, he, _⟩ := rowSits_get hs (i := 0) rfl
  exact ⟨b0, o0, he⟩
 have HX := Lib.hid hx; clear hx
 have hbx0 : Box w.heap.size #[.int .u8 55, .int .i64 n, str s, .slice (some ⟨kb, ko, none⟩) 1 c] 24 (w.alloc (.cells #[.int .u8 55, .int .i64 n, str s, .slice (some ⟨kb, ko, none⟩) 1 c] 24)) := Box.new _ _ _; have hxW : Fb B b w (w.alloc (.cells #[.int .u8 55, .int .i64 n, str s, .slice (some ⟨kb, ko, none⟩) 1 c] 24)) := Fb.of_ext ((Ext.refl _).alloc _) hle; have hb0 : Bld B b t (w.alloc (.cells #[.int .u8 55, .int .i64 n, str s, .slice (some ⟨kb, ko, none⟩) 1 c] 24)) := h.alloc _; have ht0 := ht.fb hxW hB; have hs0 := hs.fb hxW
 go_enter Tryz.func66, Tryz.ntmps66
 go_wp2_with fail
 refine (word_c _ _ (by omega) (by omega)).mono ?_; rintro e w1 ⟨rfl, rfl⟩; simp only
 go_wp2_with fail
 refine (write_c B b (w.heap.size + 1) 1 _ [kword 55] _ (hb0.alloc _) (Box.new' _ _ (by simp)) (by simp) (by (try simp at hlen ⊢) <;> omega)).mono ?_; rintro e u1 ⟨rfl, hb1, hx1⟩; have hxx1 : Fb B b (w.alloc (.cells #[.int .u8 55, .int .i64 n, str s, .slice (some ⟨kb, ko, none⟩) 1 c] 24)) u1 := Fb.trans (Fb.of_ext ((Ext.refl _).alloc _) hb0.le) hx1; obtain ⟨g0, g1, g2, g3⟩ := (hbx0.fb hxx1 (by omega) (by decide)).node; have ht1 := ht0.fb hxx1 hB; have hs1 := hs0.fb hxx1; simp only
 go_wp2_with fail
 refine (write_c B b u1.heap.size 1 _ [s] _ (hb1.alloc _) (Box.new' _ _ (by simp)) (by simp) (by (try simp at hlen ⊢) <;> omega)).mono ?_; rintro e u2 ⟨rfl, hb2, hx2⟩; have hxx2 : Fb B b (w.alloc (.cells #[.int .u8 55, .int .i64 n, str s, .slice (some ⟨kb, ko, none⟩) 1 c] 24)) u2 := Fb.trans (Fb.trans hxx1 (Fb.of_ext ((Ext.refl _).alloc _) hb1.le)) hx2; obtain ⟨g0, g1, g2, g3⟩ := (hbx0.fb hxx2 (by omega) (by decide)).node; have ht2 := ht0.fb hxx2 hB; have hs2 := hs0.fb hxx2; obtain ⟨ka2, kc2, m0, m1, m2, m3, hk2⟩ := kid0 hs2; simp only
 go_wp2_with fail
 refine (braces_c _ HX.out B b _ _ ka2 kc2 d hb2 ht2 hB hk2 (by omega) (by (try simp at hlen ⊢) <;> omega)).mono ?_; rintro e u3 ⟨rfl, hb3, hx3⟩; have hxx3 : Fb B b (w.alloc (.cells #[.int .u8 55, .int .i64 n, str s, .slice (some ⟨kb, ko, none⟩) 1 c] 24)) u3 := Fb.trans hxx2 hx3; obtain ⟨g0, g1, g2, g3⟩ := (hbx0.fb hxx3 (by omega) (by decide)).node; have ht3 := ht0.fb hxx3 hB; have hs3 := hs0.fb hxx3; simp only
 go_wp2_with fail
 go_end0
 exact ⟨rfl, by simpa using hb3, hxW.trans hxx3⟩
end Bk
namespace Bk
open Go Go.RowKit Go.Proofs
theorem argsT_append (q : Bool) (l r : List Nd) : argsT q (l ++ r) = argsT q l ++ argsT (q && l.isEmpty) r := by
 induction l generalizing q with
 | nil => simp [argsT]
 | cons x l ih => simp [argsT, ih]
theorem argsT_snoc (l : List Nd) (j : Nat) (h : j < l.length) : argsT true (l.take (j + 1)) = argsT true (l.take j) ++ ((if j = 0 then [] else [44, 32]) ++ l[j].text) := by
 rw [List.take_succ_eq_append_getElem h, argsT_append]
 rcases j with _ | j
 · simp [argsT]
 · have : (l.take (j + 1)).isEmpty = false := by
    rw [List.isEmpty_eq_false_iff]; intro e
    have h1 : (l.take (j + 1)).length = j + 1 := by simp; omega
    rw [e] at h1; simp at h1
   rw [this]; simp [argsT]
theorem argsT_le (l : List Nd) (j : Nat) : (argsT true (l.take j)).length ≤ (argsT true l).length := by
 have e := argsT_append true (l.take j) (l.drop j); rw [List.take_append_drop] at e
 rw [e]; simp
theorem rowLines_append (l r : List Nd) (d : Nat) : rowLines (l ++ r) d = rowLines l d ++ rowLines r d := by
 induction l with
 | nil => simp [rowLines]
 | cons x l ih => simp [rowLines, ih]
theorem rowLines_snoc (l : List Nd) (j d : Nat) (h : j < l.length) : rowLines (l.take (j + 1)) d = rowLines (l.take j) d ++ (tabT d ++ l[j].stmtT d ++ [59, 10]) := by
 rw [List.take_succ_eq_append_getElem h, rowLines_append]; simp [rowLines]
theorem rowLines_le (l : List Nd) (j d : Nat) : (rowLines (l.take j) d).length ≤ (rowLines l d).length := by
 have e := rowLines_append (l.take j) (l.drop j) d; rw [List.take_append_drop] at e
 rw [e]; simp
set_option maxHeartbeats 2000000 in
theorem block_c (k n : Int) (s : List UInt8) (l : List Nd) (hll : l.length ≤ 9223372036854775807) (hx : ∀ x ∈ l, PrintsD 66 Nd.stmtT x) : PrintsD 38 Nd.linesT (.mk k n s l) := by
 intro B b t w a c d h ht hB hs hd hlen
 have htx : (Nd.mk k n s l).linesT d = rowLines l d := by simp [Nd.linesT]
 rw [htx] at hlen ⊢; clear htx; have hle := h.le; have hlt := h.lt; simp only [Nd.kind, Nd.num, Nd.name, Nd.kids, Nd.val, Nd.sits, Nd.size] at hs hd ⊢
 have HX := Lib.hid hx; clear hx
 simp only [List.length_append] at hlen
 go_enter Tryz.func38, Tryz.ntmps38
 go_wp2_with fail
 go_loopw [11] (fun i wr => ∃ j : Nat, j ≤ l.length ∧ i = .int .i64 j ∧ Bld B b (t ++ rowLines (l.take j) d) wr ∧ Fb B b w wr) (fun i _ => l.length - (intOf i).toNat)
 case atStart => exact ⟨0, Nat.zero_le _, rfl, by simpa [rowLines] using h.alloc _, Fb.of_ext ((Ext.refl _).alloc _) hle⟩
 case round =>
  obtain ⟨j, hj, rfl, hb0, hxx0⟩ := hrel; clear h
  by_cases hlj : j < l.length
  · have hg : l[j]? = some l[j] := List.getElem?_eq_getElem hlj
    have hmem : l[j] ∈ l := List.getElem_mem hlj; have hsz := size_mem hmem; have hsn := rowLines_snoc l j d hlj; have hsl := rowLines_le l (j + 1) d; obtain ⟨kb, ko, xa, xc, rfl, hkB, k0, k1, k2, k3, hxs⟩ := rowSits_get (hs.fb hxx0) hg; have hP := HX.out l[j] hmem
    have HG := Lib.hid hg; clear hg
    generalize l[j] = x at *
    have HSN := Lib.hid hsn; rw [hsn] at hsl; clear hsn
    have HP := Lib.hid hP; clear hP
    simp only [List.length_append, List.length_cons, List.length_nil] at hsl; have hb0l := hb0.le; have hb0t := hb0.lt
    have hkw : kb < wr.heap.size := by omega
    have hbx0 : Box wr.heap.size #[.int .u8 x.kind, .int .i64 x.num, str x.name, .slice xa x.kids.length xc] 24 (wr.alloc (.cells #[.int .u8 x.kind, .int .i64 x.num, str x.name, .slice xa x.kids.length xc] 24)) := Box.new _ _ _; have hxW : Fb B b wr (wr.alloc (.cells #[.int .u8 x.kind, .int .i64 x.num, str x.name, .slice xa x.kids.length xc] 24)) := Fb.of_ext ((Ext.refl _).alloc _) hb0l
    go_wp2_with fail
    refine (tabs_c B b _ d _ (hb0.alloc _) (by omega) (by simp only [tabT, List.length_replicate, List.length_append] at *; omega)).mono ?_; rintro e u1 ⟨rfl, hb1, hx1⟩; obtain ⟨g0, g1, g2, g3⟩ := (hbx0.fb hx1 (by omega) (by decide)).node; have hxx1 : Fb B b w u1 := (hxx0.trans hxW).trans hx1; have hxs1 := (hxs.fb hxW).fb hx1; have ht1 := ht.fb hxx1 hB; clear k0 k1 k2 k3; simp only
    go_wp2_with fail
    refine (HP.out B b _ _ xa xc d hb1 ht1 hB hxs1 (by omega) (by simp only [tabT, List.length_replicate, List.length_append] at *; omega)).mono ?_; rintro e u2 ⟨rfl, hb2, hx2⟩; simp only
    go_wp2_with fail
    refine (write_c B b u2.heap.size 1 _ [[59, 10]] _ (hb2.alloc _) (Box.new' _ _ (by simp)) (by simp) (by simp only [tabT, List.length_replicate, List.length_append, List.flatten_cons, List.flatten_nil, List.length_cons, List.length_nil] at *; omega)).mono ?_; rintro e u3 ⟨rfl, hb3, hx3⟩
    have hb4 : Bld B b (t ++ rowLines (l.take (j + 1)) d) u3 := by rw [HSN.out]; simpa [tabT] using hb3
    have hxx3 : Fb B b w u3 := (hxx1.trans hx2).trans (Fb.trans (Fb.of_ext ((Ext.refl _).alloc _) hb2.le) hx3); clear g0 g1 g2 g3 hb0 hb1 hb2 hb3 hsl; simp only
    go_wp2_with fail
    go_roundw
    case rel => exact ⟨j + 1, by omega, by go_num, hb4, hxx3⟩
    case measure => simp [intOf]; omega
  · go_wp2_with fail
    go_end0
    rw [List.take_of_length_le (by omega)] at hb0
    exact ⟨rfl, hb0, hxx0⟩
set_option maxHeartbeats 4000000 in
set_option maxRecDepth 100000 in
theorem stmt_50 (n : Int) (s : List UInt8) (l : List Nd) (hll : l.length ≤ 9223372036854775807) (hx : ∀ x ∈ l, Prints 29 Nd.text x) : PrintsD 66 Nd.stmtT (.mk 50 n s l) := by
 intro B b t w a c d h ht hB hs hd hlen
 have htx : (Nd.mk 50 n s l).stmtT d = kword 50 ++ s ++ [40] ++ argsT true l ++ [41] := by rw [Nd.stmtT.eq_def]; simp
 rw [htx] at hlen ⊢; clear htx; have hle := h.le; have hlt := h.lt; simp only [Nd.kind, Nd.num, Nd.name, Nd.kids, Nd.val, Nd.sits, Nd.size] at hs hd ⊢
 have HX := Lib.hid hx; clear hx
 have hbx0 : Box w.heap.size #[.int .u8 50, .int .i64 n, str s, .slice a l.length c] 24 (w.alloc (.cells #[.int .u8 50, .int .i64 n, str s, .slice a l.length c] 24)) := Box.new _ _ _; have hxW : Fb B b w (w.alloc (.cells #[.int .u8 50, .int .i64 n, str s, .slice a l.length c] 24)) := Fb.of_ext ((Ext.refl _).alloc _) hle; have hb0 : Bld B b t (w.alloc (.cells #[.int .u8 50, .int .i64 n, str s, .slice a l.length c] 24)) := h.alloc _; have ht0 := ht.fb hxW hB; have hs0 := hs.fb hxW
 go_enter Tryz.func66, Tryz.ntmps66
 go_wp2_with fail
 refine (word_c _ _ (by omega) (by omega)).mono ?_; rintro e w1 ⟨rfl, rfl⟩; simp only
 go_wp2_with fail
 refine (write_c B b (w.heap.size + 1) 1 _ [kword 50] _ (hb0.alloc _) (Box.new' _ _ (by simp)) (by simp) (by simp only [List.length_append, List.flatten_cons, List.flatten_nil, List.length_cons, List.length_nil, List.length_replicate, bracesT, tabT] at hlen ⊢; omega)).mono ?_; rintro e u1 ⟨rfl, hb1, hx1⟩; have hxx1 : Fb B b (w.alloc (.cells #[.int .u8 50, .int .i64 n, str s, .slice a l.length c] 24)) u1 := Fb.trans (Fb.of_ext ((Ext.refl _).alloc _) hb0.le) hx1; obtain ⟨g0, g1, g2, g3⟩ := (hbx0.fb hxx1 (by omega) (by decide)).node; have ht1 := ht0.fb hxx1 hB; have hs1 := hs0.fb hxx1; simp only
 go_wp2_with fail
 refine (write_c B b u1.heap.size 2 _ [s, [40]] _ (hb1.alloc _) (Box.new' _ _ (by simp)) (by simp) (by simp only [List.length_append, List.flatten_cons, List.flatten_nil, List.length_cons, List.length_nil, List.length_replicate, bracesT, tabT] at hlen ⊢; omega)).mono ?_; rintro e u2 ⟨rfl, hb2, hx2⟩; have hxx2 : Fb B b (w.alloc (.cells #[.int .u8 50, .int .i64 n, str s, .slice a l.length c] 24)) u2 := Fb.trans (Fb.trans hxx1 (Fb.of_ext ((Ext.refl _).alloc _) hb1.le)) hx2; obtain ⟨g0, g1, g2, g3⟩ := (hbx0.fb hxx2 (by omega) (by decide)).node; have ht2 := ht0.fb hxx2 hB; have hs2 := hs0.fb hxx2; clear g0 g1 g2; simp only
 go_wp2_with fail
 simp only [List.length_append, List.length_cons, List.length_nil] at hlen; clear g3
 go_loopw [76] (fun i wr => ∃ j : Nat, j ≤ l.length ∧ i = .int .i64 j ∧ Bld B b (t ++ kword 50 ++ s ++ [40] ++ argsT true (l.take j)) wr ∧ Fb B b (w.alloc (.cells #[.int .u8 50, .int .i64 n, str s, .slice a l.length c] 24)) wr) (fun i _ => l.length - (intOf i).toNat)
 case atStart => exact ⟨0, Nat.zero_le _, rfl, by simpa [argsT] using hb2, hxx2⟩
 case round =>
  obtain ⟨j, hj, rfl, hb3, hxx3⟩ := hrel; clear hb1 hx1 hxx1 hb2 hx2 hxx2 ht1 ht2 hs1 hs2
  by_cases hlj : j < l.length
  · have hg : l[j]? = some l[j] := List.getElem?_eq_getElem hlj
    have hmem : l[j] ∈ l := List.getElem_mem hlj; have hsn := argsT_snoc l j hlj; have hsl := argsT_le l (j + 1); obtain ⟨kb, ko, xa, xc, rfl, hkB, k0, k1, k2, k3, hxs⟩ := rowSits_get (hs0.fb hxx3) hg; have hP := HX.out l[j] hmem
    have HG := Lib.hid hg; clear hg
    generalize l[j] = x at *
    have HSN := Lib.hid hsn; rw [hsn] at hsl; clear hsn
    have HP := Lib.hid hP; clear hP
    have hb3l := hb3.le; have hb3t := hb3.lt
    have hkw : kb < wr.heap.size := by omega
    have hbx3 : Box wr.heap.size #[.int .u8 x.kind, .int .i64 x.num, str x.name, .slice xa x.kids.length xc] 24 (wr.alloc (.cells #[.int .u8 x.kind, .int .i64 x.num, str x.name, .slice xa x.kids.length xc] 24)) := Box.new _ _ _; have hxV : Fb B b wr (wr.alloc (.cells #[.int .u8 x.kind, .int .i64 x.num, str x.name, .slice xa x.kids.length xc] 24)) := Fb.of_ext ((Ext.refl _).alloc _) hb3l
    by_cases hj0 : j = 0
    · have dj : decide (0 < j) = false := by simp; omega
      have hjz : j ≤ 0 := by omega
      simp only [if_pos hj0, List.nil_append, List.length_append] at hsl
      have HJ := Lib.hid hj0; clear hj0
      go_wp2_with fail
      refine (HP.out B b _ _ xa xc (hb3.alloc _) (ht0.fb (hxx3.trans hxV) hB) hB (hxs.fb hxV) (by simp only [List.length_append, List.length_cons, List.length_nil]; omega)).mono ?_; rintro e u5 ⟨rfl, hb5, hx5⟩
      have hb6 : Bld B b (t ++ kword 50 ++ s ++ [40] ++ argsT true (l.take (j + 1))) u5 := by rw [HSN.out, if_pos HJ.out]; simpa using hb5
      have hxx6 := (hxx3.trans hxV).trans hx5; clear k0 k1 k2 k3 hb3 hb5 hsl; simp only
      go_wp2_with fail
      go_roundw
      case rel => exact ⟨j + 1, by omega, by go_num, hb6, hxx6⟩
      case measure => simp [intOf]; omega
    · have dj : decide ((0 : Int) < j) = true := by simp; omega
      simp only [if_neg hj0, List.length_append, List.length_cons, List.length_nil] at hsl
      go_wp2_with fail
      refine (write_c B b (wr.heap.size + 1) 1 _ [[44, 32]] _ ((hb3.alloc _).alloc _) (Box.new' _ _ (by simp)) (by simp) (by simp only [List.length_append, List.flatten_cons, List.flatten_nil, List.length_cons, List.length_nil]; omega)).mono ?_; rintro e u4 ⟨rfl, hb4, hx4⟩; have hx4' : Fb B b (wr.alloc (.cells #[.int .u8 x.kind, .int .i64 x.num, str x.name, .slice xa x.kids.length xc] 24)) u4 := Fb.trans (Fb.of_ext ((Ext.refl _).alloc _) (hb3.alloc _).le) hx4; obtain ⟨g0, g1, g2, g3⟩ := (hbx3.fb hx4' (by omega) (by decide)).node; clear k0 k1 k2 k3; simp only
      go_wp2_with fail
      refine (HP.out B b _ _ xa xc hb4 (ht0.fb ((hxx3.trans hxV).trans hx4') hB) hB ((hxs.fb hxV).fb hx4') (by simp only [List.length_append, List.flatten_cons, List.flatten_nil, List.length_cons, List.length_nil]; omega)).mono ?_; rintro e u5 ⟨rfl, hb5, hx5⟩
      have hb6 : Bld B b (t ++ kword 50 ++ s ++ [40] ++ argsT true (l.take (j + 1))) u5 := by rw [HSN.out, if_neg hj0]; simpa using hb5
      have hxx6 := ((hxx3.trans hxV).trans hx4').trans hx5; clear g0 g1 g2 g3 hb3 hb5 hsl hb4; simp only
      go_wp2_with fail
      go_roundw
      case rel => exact ⟨j + 1, by omega, by go_num, hb6, hxx6⟩
      case measure => simp [intOf]; omega
  · rw [List.take_of_length_le (by omega)] at hb3
    go_wp2_with fail
    refine (write_c B b wr.heap.size 1 _ [[41]] _ (hb3.alloc _) (Box.new' _ _ (by simp)) (by simp) (by simp only [List.length_append, List.flatten_cons, List.flatten_nil, List.length_cons, List.length_nil]; omega)).mono ?_; rintro e u5 ⟨rfl, hb5, hx5⟩; simp only
    go_wp2_with fail
    go_end0
    exact ⟨rfl, by simpa using hb5, (hxW.trans hxx3).trans (Fb.trans (Fb.of_ext ((Ext.refl _).alloc _) hb3.le) hx5)⟩
set_option maxHeartbeats 4000000 in
set_option maxRecDepth 100000 in
theorem stmt_51 (n : Int) (s : List UInt8) (l : List Nd) (hll : l.length ≤ 9223372036854775807) (hx : ∀ x ∈ l, Prints 29 Nd.text x) : PrintsD 66 Nd.stmtT (.mk 51 n s l) := by
 intro B b t w a c d h ht hB hs hd hlen
 have htx : (Nd.mk 51 n s l).stmtT d = kword 51 ++ s ++ [40] ++ argsT true l ++ [41] := by rw [Nd.stmtT.eq_def]; simp
 rw [htx] at hlen ⊢; clear htx; have hle := h.le; have hlt := h.lt; simp only [Nd.kind, Nd.num, Nd.name, Nd.kids, Nd.val, Nd.sits, Nd.size] at hs hd ⊢
 have HX := Lib.hid hx; clear hx
 have hbx0 : Box w.heap.size #[.int .u8 51, .int .i64 n, str s, .slice a l.length c] 24 (w.alloc (.cells #[.int .u8 51, .int .i64 n, str s, .slice a l.length c] 24)) := Box.new _ _ _; have hxW : Fb B b w (w.alloc (.cells #[.int .u8 51, .int .i64 n, str s, .slice a l.length c] 24)) := Fb.of_ext ((Ext.refl _).alloc _) hle; have hb0 : Bld B b t (w.alloc (.cells #[.int .u8 51, .int .i64 n, str s, .slice a l.length c] 24)) := h.alloc _; have ht0 := ht.fb hxW hB; have hs0 := hs.fb hxW
 go_enter Tryz.func66, Tryz.ntmps66
 go_wp2_with fail
 refine (word_c _ _ (by omega) (by omega)).mono ?_; rintro e w1 ⟨rfl, rfl⟩; simp only
 go_wp2_with fail
 refine (write_c B b (w.heap.size + 1) 1 _ [kword 51] _ (hb0.alloc _) (Box.new' _ _ (by simp)) (by simp) (by simp only [List.length_append, List.flatten_cons, List.flatten_nil, List.length_cons, List.length_nil, List.length_replicate, bracesT, tabT] at hlen ⊢; omega)).mono ?_; rintro e u1 ⟨rfl, hb1, hx1⟩; have hxx1 : Fb B b (w.alloc (.cells #[.int .u8 51, .int .i64 n, str s, .slice a l.length c] 24)) u1 := Fb.trans (Fb.of_ext ((Ext.refl _).alloc _) hb0.le) hx1; obtain ⟨g0, g1, g2, g3⟩ := (hbx0.fb hxx1 (by omega) (by decide)).node; have ht1 := ht0.fb hxx1 hB; have hs1 := hs0.fb hxx1; simp only
 go_wp2_with fail
 refine (write_c B b u1.heap.size 2 _ [s, [40]] _ (hb1.alloc _) (Box.new' _ _ (by simp)) (by simp) (by simp only [List.length_append, List.flatten_cons, List.flatten_nil, List.length_cons, List.length_nil, List.length_replicate, bracesT, tabT] at hlen ⊢; omega)).mono ?_; rintro e u2 ⟨rfl, hb2, hx2⟩; have hxx2 : Fb B b (w.alloc (.cells #[.int .u8 51, .int .i64 n, str s, .slice a l.length c] 24)) u2 := Fb.trans (Fb.trans hxx1 (Fb.of_ext ((Ext.refl _).alloc _) hb1.le)) hx2; obtain ⟨g0, g1, g2, g3⟩ := (hbx0.fb hxx2 (by omega) (by decide)).node; have ht2 := ht0.fb hxx2 hB; have hs2 := hs0.fb hxx2; clear g0 g1 g2; simp only
 go_wp2_with fail
 simp only [List.length_append, List.length_cons, List.length_nil] at hlen; clear g3
 go_loopw [76] (fun i wr => ∃ j : Nat, j ≤ l.length ∧ i = .int .i64 j ∧ Bld B b (t ++ kword 51 ++ s ++ [40] ++ argsT true (l.take j)) wr ∧ Fb B b (w.alloc (.cells #[.int .u8 51, .int .i64 n, str s, .slice a l.length c] 24)) wr) (fun i _ => l.length - (intOf i).toNat)
 case atStart => exact ⟨0, Nat.zero_le _, rfl, by simpa [argsT] using hb2, hxx2⟩
 case round =>
  obtain ⟨j, hj, rfl, hb3, hxx3⟩ := hrel; clear hb1 hx1 hxx1 hb2 hx2 hxx2 ht1 ht2 hs1 hs2
  by_cases hlj : j < l.length
  · have hg : l[j]? = some l[j] := List.getElem?_eq_getElem hlj
    have hmem : l[j] ∈ l := List.getElem_mem hlj; have hsn := argsT_snoc l j hlj; have hsl := argsT_le l (j + 1); obtain ⟨kb, ko, xa, xc, rfl, hkB, k0, k1, k2, k3, hxs⟩ := rowSits_get (hs0.fb hxx3) hg; have hP := HX.out l[j] hmem
    have HG := Lib.hid hg; clear hg
    generalize l[j] = x at *
    have HSN := Lib.hid hsn; rw [hsn] at hsl; clear hsn
    have HP := Lib.hid hP; clear hP
    have hb3l := hb3.le; have hb3t := hb3.lt
    have hkw : kb < wr.heap.size := by omega
    have hbx3 : Box wr.heap.size #[.int .u8 x.kind, .int .i64 x.num, str x.name, .slice xa x.kids.length xc] 24 (wr.alloc (.cells #[.int .u8 x.kind, .int .i64 x.num, str x.name, .slice xa x.kids.length xc] 24)) := Box.new _ _ _; have hxV : Fb B b wr (wr.alloc (.cells #[.int .u8 x.kind, .int .i64 x.num, str x.name, .slice xa x.kids.length xc] 24)) := Fb.of_ext ((Ext.refl _).alloc _) hb3l
    by_cases hj0 : j = 0
    · have dj : decide (0 < j) = false := by simp; omega
      have hjz : j ≤ 0 := by omega
      simp only [if_pos hj0, List.nil_append, List.length_append] at hsl
      have HJ := Lib.hid hj0; clear hj0
      go_wp2_with fail
      refine (HP.out B b _ _ xa xc (hb3.alloc _) (ht0.fb (hxx3.trans hxV) hB) hB (hxs.fb hxV) (by simp only [List.length_append, List.length_cons, List.length_nil]; omega)).mono ?_; rintro e u5 ⟨rfl, hb5, hx5⟩
      have hb6 : Bld B b (t ++ kword 51 ++ s ++ [40] ++ argsT true (l.take (j + 1))) u5 := by rw [HSN.out, if_pos HJ.out]; simpa using hb5
      have hxx6 := (hxx3.trans hxV).trans hx5; clear k0 k1 k2 k3 hb3 hb5 hsl; simp only
      go_wp2_with fail
      go_roundw
      case rel => exact ⟨j + 1, by omega, by go_num, hb6, hxx6⟩
      case measure => simp [intOf]; omega
    · have dj : decide ((0 : Int) < j) = true := by simp; omega
      simp only [if_neg hj0, List.length_append, List.length_cons, List.length_nil] at hsl
      go_wp2_with fail
      refine (write_c B b (wr.heap.size + 1) 1 _ [[44, 32]] _ ((hb3.alloc _).alloc _) (Box.new' _ _ (by simp)) (by simp) (by simp only [List.length_append, List.flatten_cons, List.flatten_nil, List.length_cons, List.length_nil]; omega)).mono ?_; rintro e u4 ⟨rfl, hb4, hx4⟩; have hx4' : Fb B b (wr.alloc (.cells #[.int .u8 x.kind, .int .i64 x.num, str x.name, .slice xa x.kids.length xc] 24)) u4 := Fb.trans (Fb.of_ext ((Ext.refl _).alloc _) (hb3.alloc _).le) hx4; obtain ⟨g0, g1, g2, g3⟩ := (hbx3.fb hx4' (by omega) (by decide)).node; clear k0 k1 k2 k3; simp only
      go_wp2_with fail
      refine (HP.out B b _ _ xa xc hb4 (ht0.fb ((hxx3.trans hxV).trans hx4') hB) hB ((hxs.fb hxV).fb hx4') (by simp only [List.length_append, List.flatten_cons, List.flatten_nil, List.length_cons, List.length_nil]; omega)).mono ?_; rintro e u5 ⟨rfl, hb5, hx5⟩
      have hb6 : Bld B b (t ++ kword 51 ++ s ++ [40] ++ argsT true (l.take (j + 1))) u5 := by rw [HSN.out, if_neg hj0]; simpa using hb5
      have hxx6 := ((hxx3.trans hxV).trans hx4').trans hx5; clear g0 g1 g2 g3 hb3 hb5 hsl hb4; simp only
      go_wp2_with fail
      go_roundw
      case rel => exact ⟨j + 1, by omega, by go_num, hb6, hxx6⟩
      case measure => simp [intOf]; omega
  · rw [List.take_of_length_le (by omega)] at hb3
    go_wp2_with fail
    refine (write_c B b wr.heap.size 1 _ [[41]] _ (hb3.alloc _) (Box.new' _ _ (by simp)) (by simp) (by simp only [List.length_append, List.flatten_cons, List.flatten_nil, List.length_cons, List.length_nil]; omega)).mono ?_; rintro e u5 ⟨rfl, hb5, hx5⟩; simp only
    go_wp2_with fail
    go_end0
    exact ⟨rfl, by simpa using hb5, (hxW.trans hxx3).trans (Fb.trans (Fb.of_ext ((Ext.refl _).alloc _) hb3.le) hx5)⟩
end Bk
