/- Texts that the proofs of InverterAccepted need. No condition. (Part 4 of 8.) -/
import Derived.Test.YtoagkanlgkdhiaaGreatDoorPIac3
set_option linter.unusedSimpArgs false
set_option linter.unusedVariables false
namespace Bk
open Go Go.RowKit Go.Proofs
theorem en_IsPlace : Enters 67 := enters_of Tryz.func67 (by kernel_rfl) rfl
theorem en_isVar : Enters 71 := enters_of Tryz.func71 (by kernel_rfl) rfl
theorem en_IsStmt : Enters 33 := enters_of Tryz.func33 (by kernel_rfl) rfl
theorem en_IsBlock : Enters 34 := enters_of Tryz.func34 (by kernel_rfl) rfl
theorem IsExpr_t (S : Nat → Prop) (t : Nd) (h : t.wf) : Tests S 68 Nd.isExpr t := IsExpr_c S (t.size + 1) t (by omega) h
theorem IsPlace_t (S : Nat → Prop) (t : Nd) (h : t.wf) : Tests S 67 Nd.isPlace t := by
 have HE := Lib.hid (IsExpr_t S t h); intro a c w hs; obtain ⟨k, n, s, l⟩ := t; have hr : (Nd.mk k n s l).isPlace = ((k == 2 || k == 3) && (Nd.mk k n s l).isExpr) := rfl
 have HR := Lib.hid hr; clear hr
 have HSI := Lib.hid hs; clear hs h
 simp only [Nd.kind, Nd.num, Nd.name, Nd.kids, Nd.val]
 by_cases h2 : k = 2 ∨ k = 3
 · rcases h2 with rfl | rfl
   all_goals go_enter Tryz.func67, Tryz.ntmps67
   all_goals go_wp2_with (go_at_call 68; refine (HE.out a c _ (HSI.out.ext (by repeat (first | exact Ext.refl _ | assumption | refine Ext.alloc ?_ _ | refine Ext.drew ?_ | refine Ext.trans ?_ (by assumption))))).mono ?_; rintro e w1 ⟨rfl, hx1⟩)
   all_goals go_ret
   all_goals rw [HR.out]
   all_goals exact ⟨ret_bool (by simp), (by repeat (first | exact Ext.refl _ | assumption | refine Ext.alloc ?_ _ | refine Ext.drew ?_ | refine Ext.trans ?_ (by assumption)))⟩
 · have d2 : (k == 2) = false := by rw [beq_eq_false_iff_ne]; omega
   have d3 : (k == 3) = false := by rw [beq_eq_false_iff_ne]; omega
   clear h2
   go_enter Tryz.func67, Tryz.ntmps67
   go_wp2_with fail
   go_ret
   rw [HR.out]
   exact ⟨ret_bool (by simp [d2, d3]), (by refine Ext.alloc ?_ _; exact Ext.refl _)⟩
theorem isVar_t (S : Nat → Prop) (t : Nd) (h : t.wf) : Tests S 71 Nd.isVar t := by
 have HE := Lib.hid (IsExpr_t S t h); intro a c w hs; obtain ⟨k, n, s, l⟩ := t; have hr : (Nd.mk k n s l).isVar = (k == 2 && (Nd.mk k n s l).isExpr) := rfl
 have HR := Lib.hid hr; clear hr
 have HSI := Lib.hid hs; clear hs h
 simp only [Nd.kind, Nd.num, Nd.name, Nd.kids, Nd.val]
 by_cases h2 : k = 2
 · subst h2
   go_enter Tryz.func71, Tryz.ntmps71
   go_wp2_with (go_at_call 68; refine (HE.out a c _ (HSI.out.ext (by refine Ext.alloc ?_ _; exact Ext.refl _))).mono ?_; rintro e w1 ⟨rfl, hx1⟩)
   go_ret
   rw [HR.out]
   exact ⟨ret_bool (by simp), (by refine Ext.trans ?_ (by assumption); refine Ext.alloc ?_ _; exact Ext.refl _)⟩
 · have d2 : (k == 2) = false := by rw [beq_eq_false_iff_ne]; omega
   clear h2
   go_enter Tryz.func71, Tryz.ntmps71
   go_wp2_with fail
   go_ret
   rw [HR.out]
   exact ⟨ret_bool (by simp [d2]), (by refine Ext.alloc ?_ _; exact Ext.refl _)⟩
theorem isStmt_40 (n : Int) (s : List UInt8) (l : List Nd) : (Nd.mk 40 n s l).isStmt = (plain n s && kidsOk l [(67, Nd.isPlace), (68, Nd.isExpr)]) := by
 rcases l with _ | ⟨x, _ | ⟨y, _ | ⟨z, _ | ⟨u, _ | ⟨v, l⟩⟩⟩⟩⟩ <;> rw [Nd.isStmt.eq_def] <;> simp [kidsOk, Bool.and_assoc]
theorem IsStmt_40 (n : Int) (s : List UInt8) (l : List Nd) (a : Option Addr) (c : Nat) (S : Nat → Prop) (w : World)
 (hs : rowSits S w l a) (hsl : s.length ≤ 9223372036854775807) (hll : l.length ≤ 9223372036854775807) (hrw : rowWf l) (hb : ∀ t ∈ l, Tests S 34 Nd.isBlock t) :
 Calls Tryz.prog 33 #[.agg #[.int .u8 40, .int .i64 n, str s, .slice a l.length c]] w fun e w' => e = .returned (.bool (Nd.mk 40 n s l).isStmt) ∧ Ext w w' := by
 have HEX : Hid (∀ t ∈ l, Tests S 68 Nd.isExpr t) := Lib.hid fun t ht => IsExpr_t S t (rowWf_get hrw t ht)
 have HPL : Hid (∀ t ∈ l, Tests S 67 Nd.isPlace t) := Lib.hid fun t ht => IsPlace_t S t (rowWf_get hrw t ht)
 have HVA : Hid (∀ t ∈ l, Tests S 71 Nd.isVar t) := Lib.hid fun t ht => isVar_t S t (rowWf_get hrw t ht)
 have HBL := Lib.hid hb; clear hb
 have HSL := Lib.hid hsl; clear hsl hrw
 have hr := isStmt_40 n s l
 have HR := Lib.hid hr; clear hr
 cases hnm : plain n s
 all_goals have HNM := Lib.hid hnm; clear hnm
 all_goals go_enter Tryz.func33, Tryz.ntmps33
 all_goals go_wp2_with (first | (go_at_call 65; refine (plain_c _ _ _ _ _ _ _).mono ?_; rintro e w1 ⟨rfl, hx1⟩; have hc1 := hx1.cells; rw [HNM.out]) | (go_at_call 66; refine (kids_c _ _ _ l a c [(67, Nd.isPlace), (68, Nd.isExpr)] _ _ S _ hll (by decide) (hs.ext (by refine Ext.alloc ?_ _; refine Ext.trans ?_ (by assumption); refine Ext.alloc ?_ _; exact Ext.refl _)) (get2 (by go_simp) (by go_simp)) (mem2 en_IsPlace en_IsExpr) (mem2 HPL.out HEX.out)).mono ?_; rintro e w2 ⟨rfl, hx2⟩))
 all_goals go_ret
 all_goals rw [HR.out, HNM.out]
 all_goals exact ⟨ret_bool (by simp), (by repeat (first | exact Ext.refl _ | assumption | refine Ext.alloc ?_ _ | refine Ext.drew ?_ | refine Ext.trans ?_ (by assumption)))⟩
theorem isStmt_41 (n : Int) (s : List UInt8) (l : List Nd) : (Nd.mk 41 n s l).isStmt = (plain n s && kidsOk l [(67, Nd.isPlace), (68, Nd.isExpr)]) := by
 rcases l with _ | ⟨x, _ | ⟨y, _ | ⟨z, _ | ⟨u, _ | ⟨v, l⟩⟩⟩⟩⟩ <;> rw [Nd.isStmt.eq_def] <;> simp [kidsOk, Bool.and_assoc]
theorem IsStmt_41 (n : Int) (s : List UInt8) (l : List Nd) (a : Option Addr) (c : Nat) (S : Nat → Prop) (w : World)
 (hs : rowSits S w l a) (hsl : s.length ≤ 9223372036854775807) (hll : l.length ≤ 9223372036854775807) (hrw : rowWf l) (hb : ∀ t ∈ l, Tests S 34 Nd.isBlock t) :
 Calls Tryz.prog 33 #[.agg #[.int .u8 41, .int .i64 n, str s, .slice a l.length c]] w fun e w' => e = .returned (.bool (Nd.mk 41 n s l).isStmt) ∧ Ext w w' := by
 have HEX : Hid (∀ t ∈ l, Tests S 68 Nd.isExpr t) := Lib.hid fun t ht => IsExpr_t S t (rowWf_get hrw t ht)
 have HPL : Hid (∀ t ∈ l, Tests S 67 Nd.isPlace t) := Lib.hid fun t ht => IsPlace_t S t (rowWf_get hrw t ht)
 have HVA : Hid (∀ t ∈ l, Tests S 71 Nd.isVar t) := Lib.hid fun t ht => isVar_t S t (rowWf_get hrw t ht)
 have HBL := Lib.hid hb; clear hb
 have HSL := Lib.hid hsl; clear hsl hrw
 have hr := isStmt_41 n s l
 have HR := Lib.hid hr; clear hr
 cases hnm : plain n s
 all_goals have HNM := Lib.hid hnm; clear hnm
 all_goals go_enter Tryz.func33, Tryz.ntmps33
 all_goals go_wp2_with (first | (go_at_call 65; refine (plain_c _ _ _ _ _ _ _).mono ?_; rintro e w1 ⟨rfl, hx1⟩; have hc1 := hx1.cells; rw [HNM.out]) | (go_at_call 66; refine (kids_c _ _ _ l a c [(67, Nd.isPlace), (68, Nd.isExpr)] _ _ S _ hll (by decide) (hs.ext (by refine Ext.alloc ?_ _; refine Ext.trans ?_ (by assumption); refine Ext.alloc ?_ _; exact Ext.refl _)) (get2 (by go_simp) (by go_simp)) (mem2 en_IsPlace en_IsExpr) (mem2 HPL.out HEX.out)).mono ?_; rintro e w2 ⟨rfl, hx2⟩))
 all_goals go_ret
 all_goals rw [HR.out, HNM.out]
 all_goals exact ⟨ret_bool (by simp), (by repeat (first | exact Ext.refl _ | assumption | refine Ext.alloc ?_ _ | refine Ext.drew ?_ | refine Ext.trans ?_ (by assumption)))⟩
theorem isStmt_42 (n : Int) (s : List UInt8) (l : List Nd) : (Nd.mk 42 n s l).isStmt = (plain n s && kidsOk l [(67, Nd.isPlace), (68, Nd.isExpr)]) := by
 rcases l with _ | ⟨x, _ | ⟨y, _ | ⟨z, _ | ⟨u, _ | ⟨v, l⟩⟩⟩⟩⟩ <;> rw [Nd.isStmt.eq_def] <;> simp [kidsOk, Bool.and_assoc]
theorem IsStmt_42 (n : Int) (s : List UInt8) (l : List Nd) (a : Option Addr) (c : Nat) (S : Nat → Prop) (w : World)
 (hs : rowSits S w l a) (hsl : s.length ≤ 9223372036854775807) (hll : l.length ≤ 9223372036854775807) (hrw : rowWf l) (hb : ∀ t ∈ l, Tests S 34 Nd.isBlock t) :
 Calls Tryz.prog 33 #[.agg #[.int .u8 42, .int .i64 n, str s, .slice a l.length c]] w fun e w' => e = .returned (.bool (Nd.mk 42 n s l).isStmt) ∧ Ext w w' := by
 have HEX : Hid (∀ t ∈ l, Tests S 68 Nd.isExpr t) := Lib.hid fun t ht => IsExpr_t S t (rowWf_get hrw t ht)
 have HPL : Hid (∀ t ∈ l, Tests S 67 Nd.isPlace t) := Lib.hid fun t ht => IsPlace_t S t (rowWf_get hrw t ht)
 have HVA : Hid (∀ t ∈ l, Tests S 71 Nd.isVar t) := Lib.hid fun t ht => isVar_t S t (rowWf_get hrw t ht)
 have HBL := Lib.hid hb; clear hb
 have HSL := Lib.hid hsl; clear hsl hrw
 have hr := isStmt_42 n s l
 have HR := Lib.hid hr; clear hr
 cases hnm : plain n s
 all_goals have HNM := Lib.hid hnm; clear hnm
 all_goals go_enter Tryz.func33, Tryz.ntmps33
 all_goals go_wp2_with (first | (go_at_call 65; refine (plain_c _ _ _ _ _ _ _).mono ?_; rintro e w1 ⟨rfl, hx1⟩; have hc1 := hx1.cells; rw [HNM.out]) | (go_at_call 66; refine (kids_c _ _ _ l a c [(67, Nd.isPlace), (68, Nd.isExpr)] _ _ S _ hll (by decide) (hs.ext (by refine Ext.alloc ?_ _; refine Ext.trans ?_ (by assumption); refine Ext.alloc ?_ _; exact Ext.refl _)) (get2 (by go_simp) (by go_simp)) (mem2 en_IsPlace en_IsExpr) (mem2 HPL.out HEX.out)).mono ?_; rintro e w2 ⟨rfl, hx2⟩))
 all_goals go_ret
 all_goals rw [HR.out, HNM.out]
 all_goals exact ⟨ret_bool (by simp), (by repeat (first | exact Ext.refl _ | assumption | refine Ext.alloc ?_ _ | refine Ext.drew ?_ | refine Ext.trans ?_ (by assumption)))⟩
theorem isStmt_56 (n : Int) (s : List UInt8) (l : List Nd) : (Nd.mk 56 n s l).isStmt = (plain n s && kidsOk l [(67, Nd.isPlace), (68, Nd.isExpr)]) := by
 rcases l with _ | ⟨x, _ | ⟨y, _ | ⟨z, _ | ⟨u, _ | ⟨v, l⟩⟩⟩⟩⟩ <;> rw [Nd.isStmt.eq_def] <;> simp [kidsOk, Bool.and_assoc]
theorem IsStmt_56 (n : Int) (s : List UInt8) (l : List Nd) (a : Option Addr) (c : Nat) (S : Nat → Prop) (w : World)
 (hs : rowSits S w l a) (hsl : s.length ≤ 9223372036854775807) (hll : l.length ≤ 9223372036854775807) (hrw : rowWf l) (hb : ∀ t ∈ l, Tests S 34 Nd.isBlock t) :
 Calls Tryz.prog 33 #[.agg #[.int .u8 56, .int .i64 n, str s, .slice a l.length c]] w fun e w' => e = .returned (.bool (Nd.mk 56 n s l).isStmt) ∧ Ext w w' := by
 have HEX : Hid (∀ t ∈ l, Tests S 68 Nd.isExpr t) := Lib.hid fun t ht => IsExpr_t S t (rowWf_get hrw t ht)
 have HPL : Hid (∀ t ∈ l, Tests S 67 Nd.isPlace t) := Lib.hid fun t ht => IsPlace_t S t (rowWf_get hrw t ht)
 have HVA : Hid (∀ t ∈ l, Tests S 71 Nd.isVar t) := Lib.hid fun t ht => isVar_t S t (rowWf_get hrw t ht)
 have HBL := Lib.hid hb; clear hb
 have HSL := Lib.hid hsl; clear hsl hrw
 have hr := isStmt_56 n s l
 have HR := Lib.hid hr; clear hr
 cases hnm : plain n s
 all_goals have HNM := Lib.hid hnm; clear hnm
 all_goals go_enter Tryz.func33, Tryz.ntmps33
 all_goals go_wp2_with (first | (go_at_call 65; refine (plain_c _ _ _ _ _ _ _).mono ?_; rintro e w1 ⟨rfl, hx1⟩; have hc1 := hx1.cells; rw [HNM.out]) | (go_at_call 66; refine (kids_c _ _ _ l a c [(67, Nd.isPlace), (68, Nd.isExpr)] _ _ S _ hll (by decide) (hs.ext (by refine Ext.alloc ?_ _; refine Ext.trans ?_ (by assumption); refine Ext.alloc ?_ _; exact Ext.refl _)) (get2 (by go_simp) (by go_simp)) (mem2 en_IsPlace en_IsExpr) (mem2 HPL.out HEX.out)).mono ?_; rintro e w2 ⟨rfl, hx2⟩))
 all_goals go_ret
 all_goals rw [HR.out, HNM.out]
 all_goals exact ⟨ret_bool (by simp), (by repeat (first | exact Ext.refl _ | assumption | refine Ext.alloc ?_ _ | refine Ext.drew ?_ | refine Ext.trans ?_ (by assumption)))⟩
theorem isStmt_43 (n : Int) (s : List UInt8) (l : List Nd) : (Nd.mk 43 n s l).isStmt = (plain n s && kidsOk l [(67, Nd.isPlace), (67, Nd.isPlace)]) := by
 rcases l with _ | ⟨x, _ | ⟨y, _ | ⟨z, _ | ⟨u, _ | ⟨v, l⟩⟩⟩⟩⟩ <;> rw [Nd.isStmt.eq_def] <;> simp [kidsOk, Bool.and_assoc]
theorem IsStmt_43 (n : Int) (s : List UInt8) (l : List Nd) (a : Option Addr) (c : Nat) (S : Nat → Prop) (w : World)
 (hs : rowSits S w l a) (hsl : s.length ≤ 9223372036854775807) (hll : l.length ≤ 9223372036854775807) (hrw : rowWf l) (hb : ∀ t ∈ l, Tests S 34 Nd.isBlock t) :
 Calls Tryz.prog 33 #[.agg #[.int .u8 43, .int .i64 n, str s, .slice a l.length c]] w fun e w' => e = .returned (.bool (Nd.mk 43 n s l).isStmt) ∧ Ext w w' := by
 have HEX : Hid (∀ t ∈ l, Tests S 68 Nd.isExpr t) := Lib.hid fun t ht => IsExpr_t S t (rowWf_get hrw t ht)
 have HPL : Hid (∀ t ∈ l, Tests S 67 Nd.isPlace t) := Lib.hid fun t ht => IsPlace_t S t (rowWf_get hrw t ht)
 have HVA : Hid (∀ t ∈ l, Tests S 71 Nd.isVar t) := Lib.hid fun t ht => isVar_t S t (rowWf_get hrw t ht)
 have HBL := Lib.hid hb; clear hb
 have HSL := Lib.hid hsl; clear hsl hrw
 have hr := isStmt_43 n s l
 have HR := Lib.hid hr; clear hr
 cases hnm : plain n s
 all_goals have HNM := Lib.hid hnm; clear hnm
 all_goals go_enter Tryz.func33, Tryz.ntmps33
 all_goals go_wp2_with (first | (go_at_call 65; refine (plain_c _ _ _ _ _ _ _).mono ?_; rintro e w1 ⟨rfl, hx1⟩; have hc1 := hx1.cells; rw [HNM.out]) | (go_at_call 66; refine (kids_c _ _ _ l a c [(67, Nd.isPlace), (67, Nd.isPlace)] _ _ S _ hll (by decide) (hs.ext (by refine Ext.alloc ?_ _; refine Ext.trans ?_ (by assumption); refine Ext.alloc ?_ _; exact Ext.refl _)) (get2 (by go_simp) (by go_simp)) (mem2 en_IsPlace en_IsPlace) (mem2 HPL.out HPL.out)).mono ?_; rintro e w2 ⟨rfl, hx2⟩))
 all_goals go_ret
 all_goals rw [HR.out, HNM.out]
 all_goals exact ⟨ret_bool (by simp), (by repeat (first | exact Ext.refl _ | assumption | refine Ext.alloc ?_ _ | refine Ext.drew ?_ | refine Ext.trans ?_ (by assumption)))⟩
theorem isStmt_44 (n : Int) (s : List UInt8) (l : List Nd) : (Nd.mk 44 n s l).isStmt = (named n s && kidsOk l [(67, Nd.isPlace)]) := by
 rcases l with _ | ⟨x, _ | ⟨y, _ | ⟨z, _ | ⟨u, _ | ⟨v, l⟩⟩⟩⟩⟩ <;> rw [Nd.isStmt.eq_def] <;> simp [kidsOk, Bool.and_assoc]
theorem IsStmt_44 (n : Int) (s : List UInt8) (l : List Nd) (a : Option Addr) (c : Nat) (S : Nat → Prop) (w : World)
 (hs : rowSits S w l a) (hsl : s.length ≤ 9223372036854775807) (hll : l.length ≤ 9223372036854775807) (hrw : rowWf l) (hb : ∀ t ∈ l, Tests S 34 Nd.isBlock t) :
 Calls Tryz.prog 33 #[.agg #[.int .u8 44, .int .i64 n, str s, .slice a l.length c]] w fun e w' => e = .returned (.bool (Nd.mk 44 n s l).isStmt) ∧ Ext w w' := by
 have HEX : Hid (∀ t ∈ l, Tests S 68 Nd.isExpr t) := Lib.hid fun t ht => IsExpr_t S t (rowWf_get hrw t ht)
 have HPL : Hid (∀ t ∈ l, Tests S 67 Nd.isPlace t) := Lib.hid fun t ht => IsPlace_t S t (rowWf_get hrw t ht)
 have HVA : Hid (∀ t ∈ l, Tests S 71 Nd.isVar t) := Lib.hid fun t ht => isVar_t S t (rowWf_get hrw t ht)
 have HBL := Lib.hid hb; clear hb
 have HSL := Lib.hid hsl; clear hsl hrw
 have hr := isStmt_44 n s l
 have HR := Lib.hid hr; clear hr
 cases hnm : named n s
 all_goals have HNM := Lib.hid hnm; clear hnm
 all_goals go_enter Tryz.func33, Tryz.ntmps33
 all_goals go_wp2_with (first | (go_at_call 69; refine (named_c _ _ _ _ _ _ _ HSL.out).mono ?_; rintro e w1 ⟨rfl, hx1⟩; have hc1 := hx1.cells; rw [HNM.out]) | (go_at_call 66; refine (kids_c _ _ _ l a c [(67, Nd.isPlace)] _ _ S _ hll (by decide) (hs.ext (by refine Ext.alloc ?_ _; refine Ext.trans ?_ (by assumption); refine Ext.alloc ?_ _; exact Ext.refl _)) (get1 (by go_simp)) (mem1 en_IsPlace) (mem1 HPL.out)).mono ?_; rintro e w2 ⟨rfl, hx2⟩))
 all_goals go_ret
 all_goals rw [HR.out, HNM.out]
 all_goals exact ⟨ret_bool (by simp), (by repeat (first | exact Ext.refl _ | assumption | refine Ext.alloc ?_ _ | refine Ext.drew ?_ | refine Ext.trans ?_ (by assumption)))⟩
theorem isStmt_45 (n : Int) (s : List UInt8) (l : List Nd) : (Nd.mk 45 n s l).isStmt = (named n s && kidsOk l [(67, Nd.isPlace)]) := by
 rcases l with _ | ⟨x, _ | ⟨y, _ | ⟨z, _ | ⟨u, _ | ⟨v, l⟩⟩⟩⟩⟩ <;> rw [Nd.isStmt.eq_def] <;> simp [kidsOk, Bool.and_assoc]
theorem IsStmt_45 (n : Int) (s : List UInt8) (l : List Nd) (a : Option Addr) (c : Nat) (S : Nat → Prop) (w : World)
 (hs : rowSits S w l a) (hsl : s.length ≤ 9223372036854775807) (hll : l.length ≤ 9223372036854775807) (hrw : rowWf l) (hb : ∀ t ∈ l, Tests S 34 Nd.isBlock t) :
 Calls Tryz.prog 33 #[.agg #[.int .u8 45, .int .i64 n, str s, .slice a l.length c]] w fun e w' => e = .returned (.bool (Nd.mk 45 n s l).isStmt) ∧ Ext w w' := by
 have HEX : Hid (∀ t ∈ l, Tests S 68 Nd.isExpr t) := Lib.hid fun t ht => IsExpr_t S t (rowWf_get hrw t ht)
 have HPL : Hid (∀ t ∈ l, Tests S 67 Nd.isPlace t) := Lib.hid fun t ht => IsPlace_t S t (rowWf_get hrw t ht)
 have HVA : Hid (∀ t ∈ l, Tests S 71 Nd.isVar t) := Lib.hid fun t ht => isVar_t S t (rowWf_get hrw t ht)
 have HBL := Lib.hid hb; clear hb
 have HSL := Lib.hid hsl; clear hsl hrw
 have hr := isStmt_45 n s l
 have HR := Lib.hid hr; clear hr
 cases hnm : named n s
 all_goals have HNM := Lib.hid hnm; clear hnm
 all_goals go_enter Tryz.func33, Tryz.ntmps33
 all_goals go_wp2_with (first | (go_at_call 69; refine (named_c _ _ _ _ _ _ _ HSL.out).mono ?_; rintro e w1 ⟨rfl, hx1⟩; have hc1 := hx1.cells; rw [HNM.out]) | (go_at_call 66; refine (kids_c _ _ _ l a c [(67, Nd.isPlace)] _ _ S _ hll (by decide) (hs.ext (by refine Ext.alloc ?_ _; refine Ext.trans ?_ (by assumption); refine Ext.alloc ?_ _; exact Ext.refl _)) (get1 (by go_simp)) (mem1 en_IsPlace) (mem1 HPL.out)).mono ?_; rintro e w2 ⟨rfl, hx2⟩))
 all_goals go_ret
 all_goals rw [HR.out, HNM.out]
 all_goals exact ⟨ret_bool (by simp), (by repeat (first | exact Ext.refl _ | assumption | refine Ext.alloc ?_ _ | refine Ext.drew ?_ | refine Ext.trans ?_ (by assumption)))⟩
theorem isStmt_46 (n : Int) (s : List UInt8) (l : List Nd) : (Nd.mk 46 n s l).isStmt = (plain n s && kidsOk l [(67, Nd.isPlace)]) := by
 rcases l with _ | ⟨x, _ | ⟨y, _ | ⟨z, _ | ⟨u, _ | ⟨v, l⟩⟩⟩⟩⟩ <;> rw [Nd.isStmt.eq_def] <;> simp [kidsOk, Bool.and_assoc]
theorem IsStmt_46 (n : Int) (s : List UInt8) (l : List Nd) (a : Option Addr) (c : Nat) (S : Nat → Prop) (w : World)
 (hs : rowSits S w l a) (hsl : s.length ≤ 9223372036854775807) (hll : l.length ≤ 9223372036854775807) (hrw : rowWf l) (hb : ∀ t ∈ l, Tests S 34 Nd.isBlock t) :
 Calls Tryz.prog 33 #[.agg #[.int .u8 46, .int .i64 n, str s, .slice a l.length c]] w fun e w' => e = .returned (.bool (Nd.mk 46 n s l).isStmt) ∧ Ext w w' := by
 have HEX : Hid (∀ t ∈ l, Tests S 68 Nd.isExpr t) := Lib.hid fun t ht => IsExpr_t S t (rowWf_get hrw t ht)
 have HPL : Hid (∀ t ∈ l, Tests S 67 Nd.isPlace t) := Lib.hid fun t ht => IsPlace_t S t (rowWf_get hrw t ht)
 have HVA : Hid (∀ t ∈ l, Tests S 71 Nd.isVar t) := Lib.hid fun t ht => isVar_t S t (rowWf_get hrw t ht)
 have HBL := Lib.hid hb; clear hb
 have HSL := Lib.hid hsl; clear hsl hrw
 have hr := isStmt_46 n s l
 have HR := Lib.hid hr; clear hr
 cases hnm : plain n s
 all_goals have HNM := Lib.hid hnm; clear hnm
 all_goals go_enter Tryz.func33, Tryz.ntmps33
 all_goals go_wp2_with (first | (go_at_call 65; refine (plain_c _ _ _ _ _ _ _).mono ?_; rintro e w1 ⟨rfl, hx1⟩; have hc1 := hx1.cells; rw [HNM.out]) | (go_at_call 66; refine (kids_c _ _ _ l a c [(67, Nd.isPlace)] _ _ S _ hll (by decide) (hs.ext (by refine Ext.alloc ?_ _; refine Ext.trans ?_ (by assumption); refine Ext.alloc ?_ _; exact Ext.refl _)) (get1 (by go_simp)) (mem1 en_IsPlace) (mem1 HPL.out)).mono ?_; rintro e w2 ⟨rfl, hx2⟩))
 all_goals go_ret
 all_goals rw [HR.out, HNM.out]
 all_goals exact ⟨ret_bool (by simp), (by repeat (first | exact Ext.refl _ | assumption | refine Ext.alloc ?_ _ | refine Ext.drew ?_ | refine Ext.trans ?_ (by assumption)))⟩
theorem isStmt_47 (n : Int) (s : List UInt8) (l : List Nd) : (Nd.mk 47 n s l).isStmt = (plain n s && kidsOk l [(67, Nd.isPlace)]) := by
 rcases l with _ | ⟨x, _ | ⟨y, _ | ⟨z, _ | ⟨u, _ | ⟨v, l⟩⟩⟩⟩⟩ <;> rw [Nd.isStmt.eq_def] <;> simp [kidsOk, Bool.and_assoc]
theorem IsStmt_47 (n : Int) (s : List UInt8) (l : List Nd) (a : Option Addr) (c : Nat) (S : Nat → Prop) (w : World)
 (hs : rowSits S w l a) (hsl : s.length ≤ 9223372036854775807) (hll : l.length ≤ 9223372036854775807) (hrw : rowWf l) (hb : ∀ t ∈ l, Tests S 34 Nd.isBlock t) :
 Calls Tryz.prog 33 #[.agg #[.int .u8 47, .int .i64 n, str s, .slice a l.length c]] w fun e w' => e = .returned (.bool (Nd.mk 47 n s l).isStmt) ∧ Ext w w' := by
 have HEX : Hid (∀ t ∈ l, Tests S 68 Nd.isExpr t) := Lib.hid fun t ht => IsExpr_t S t (rowWf_get hrw t ht)
 have HPL : Hid (∀ t ∈ l, Tests S 67 Nd.isPlace t) := Lib.hid fun t ht => IsPlace_t S t (rowWf_get hrw t ht)
 have HVA : Hid (∀ t ∈ l, Tests S 71 Nd.isVar t) := Lib.hid fun t ht => isVar_t S t (rowWf_get hrw t ht)
 have HBL := Lib.hid hb; clear hb
 have HSL := Lib.hid hsl; clear hsl hrw
 have hr := isStmt_47 n s l
 have HR := Lib.hid hr; clear hr
 cases hnm : plain n s
 all_goals have HNM := Lib.hid hnm; clear hnm
 all_goals go_enter Tryz.func33, Tryz.ntmps33
 all_goals go_wp2_with (first | (go_at_call 65; refine (plain_c _ _ _ _ _ _ _).mono ?_; rintro e w1 ⟨rfl, hx1⟩; have hc1 := hx1.cells; rw [HNM.out]) | (go_at_call 66; refine (kids_c _ _ _ l a c [(67, Nd.isPlace)] _ _ S _ hll (by decide) (hs.ext (by refine Ext.alloc ?_ _; refine Ext.trans ?_ (by assumption); refine Ext.alloc ?_ _; exact Ext.refl _)) (get1 (by go_simp)) (mem1 en_IsPlace) (mem1 HPL.out)).mono ?_; rintro e w2 ⟨rfl, hx2⟩))
 all_goals go_ret
 all_goals rw [HR.out, HNM.out]
 all_goals exact ⟨ret_bool (by simp), (by repeat (first | exact Ext.refl _ | assumption | refine Ext.alloc ?_ _ | refine Ext.drew ?_ | refine Ext.trans ?_ (by assumption)))⟩
theorem isStmt_48 (n : Int) (s : List UInt8) (l : List Nd) : (Nd.mk 48 n s l).isStmt = (plain n s && kidsOk l [(67, Nd.isPlace)]) := by
 rcases l with _ | ⟨x, _ | ⟨y, _ | ⟨z, _ | ⟨u, _ | ⟨v, l⟩⟩⟩⟩⟩ <;> rw [Nd.isStmt.eq_def] <;> simp [kidsOk, Bool.and_assoc]
theorem IsStmt_48 (n : Int) (s : List UInt8) (l : List Nd) (a : Option Addr) (c : Nat) (S : Nat → Prop) (w : World)
 (hs : rowSits S w l a) (hsl : s.length ≤ 9223372036854775807) (hll : l.length ≤ 9223372036854775807) (hrw : rowWf l) (hb : ∀ t ∈ l, Tests S 34 Nd.isBlock t) :
 Calls Tryz.prog 33 #[.agg #[.int .u8 48, .int .i64 n, str s, .slice a l.length c]] w fun e w' => e = .returned (.bool (Nd.mk 48 n s l).isStmt) ∧ Ext w w' := by
 have HEX : Hid (∀ t ∈ l, Tests S 68 Nd.isExpr t) := Lib.hid fun t ht => IsExpr_t S t (rowWf_get hrw t ht)
 have HPL : Hid (∀ t ∈ l, Tests S 67 Nd.isPlace t) := Lib.hid fun t ht => IsPlace_t S t (rowWf_get hrw t ht)
 have HVA : Hid (∀ t ∈ l, Tests S 71 Nd.isVar t) := Lib.hid fun t ht => isVar_t S t (rowWf_get hrw t ht)
 have HBL := Lib.hid hb; clear hb
 have HSL := Lib.hid hsl; clear hsl hrw
 have hr := isStmt_48 n s l
 have HR := Lib.hid hr; clear hr
 cases hnm : plain n s
 all_goals have HNM := Lib.hid hnm; clear hnm
 all_goals go_enter Tryz.func33, Tryz.ntmps33
 all_goals go_wp2_with (first | (go_at_call 65; refine (plain_c _ _ _ _ _ _ _).mono ?_; rintro e w1 ⟨rfl, hx1⟩; have hc1 := hx1.cells; rw [HNM.out]) | (go_at_call 66; refine (kids_c _ _ _ l a c [(67, Nd.isPlace)] _ _ S _ hll (by decide) (hs.ext (by refine Ext.alloc ?_ _; refine Ext.trans ?_ (by assumption); refine Ext.alloc ?_ _; exact Ext.refl _)) (get1 (by go_simp)) (mem1 en_IsPlace) (mem1 HPL.out)).mono ?_; rintro e w2 ⟨rfl, hx2⟩))
 all_goals go_ret
 all_goals rw [HR.out, HNM.out]
 all_goals exact ⟨ret_bool (by simp), (by repeat (first | exact Ext.refl _ | assumption | refine Ext.alloc ?_ _ | refine Ext.drew ?_ | refine Ext.trans ?_ (by assumption)))⟩
theorem isStmt_49 (n : Int) (s : List UInt8) (l : List Nd) : (Nd.mk 49 n s l).isStmt = (plain n s && kidsOk l [(67, Nd.isPlace)]) := by
 rcases l with _ | ⟨x, _ | ⟨y, _ | ⟨z, _ | ⟨u, _ | ⟨v, l⟩⟩⟩⟩⟩ <;> rw [Nd.isStmt.eq_def] <;> simp [kidsOk, Bool.and_assoc]
theorem IsStmt_49 (n : Int) (s : List UInt8) (l : List Nd) (a : Option Addr) (c : Nat) (S : Nat → Prop) (w : World)
 (hs : rowSits S w l a) (hsl : s.length ≤ 9223372036854775807) (hll : l.length ≤ 9223372036854775807) (hrw : rowWf l) (hb : ∀ t ∈ l, Tests S 34 Nd.isBlock t) :
 Calls Tryz.prog 33 #[.agg #[.int .u8 49, .int .i64 n, str s, .slice a l.length c]] w fun e w' => e = .returned (.bool (Nd.mk 49 n s l).isStmt) ∧ Ext w w' := by
 have HEX : Hid (∀ t ∈ l, Tests S 68 Nd.isExpr t) := Lib.hid fun t ht => IsExpr_t S t (rowWf_get hrw t ht)
 have HPL : Hid (∀ t ∈ l, Tests S 67 Nd.isPlace t) := Lib.hid fun t ht => IsPlace_t S t (rowWf_get hrw t ht)
 have HVA : Hid (∀ t ∈ l, Tests S 71 Nd.isVar t) := Lib.hid fun t ht => isVar_t S t (rowWf_get hrw t ht)
 have HBL := Lib.hid hb; clear hb
 have HSL := Lib.hid hsl; clear hsl hrw
 have hr := isStmt_49 n s l
 have HR := Lib.hid hr; clear hr
 cases hnm : plain n s
 all_goals have HNM := Lib.hid hnm; clear hnm
 all_goals go_enter Tryz.func33, Tryz.ntmps33
 all_goals go_wp2_with (first | (go_at_call 65; refine (plain_c _ _ _ _ _ _ _).mono ?_; rintro e w1 ⟨rfl, hx1⟩; have hc1 := hx1.cells; rw [HNM.out]) | (go_at_call 66; refine (kids_c _ _ _ l a c [(67, Nd.isPlace)] _ _ S _ hll (by decide) (hs.ext (by refine Ext.alloc ?_ _; refine Ext.trans ?_ (by assumption); refine Ext.alloc ?_ _; exact Ext.refl _)) (get1 (by go_simp)) (mem1 en_IsPlace) (mem1 HPL.out)).mono ?_; rintro e w2 ⟨rfl, hx2⟩))
 all_goals go_ret
 all_goals rw [HR.out, HNM.out]
 all_goals exact ⟨ret_bool (by simp), (by repeat (first | exact Ext.refl _ | assumption | refine Ext.alloc ?_ _ | refine Ext.drew ?_ | refine Ext.trans ?_ (by assumption)))⟩
theorem isStmt_52 (n : Int) (s : List UInt8) (l : List Nd) : (Nd.mk 52 n s l).isStmt = (plain n s && kidsOk l [(68, Nd.isExpr), (34, Nd.isBlock), (34, Nd.isBlock), (68, Nd.isExpr)]) := by
 rcases l with _ | ⟨x, _ | ⟨y, _ | ⟨z, _ | ⟨u, _ | ⟨v, l⟩⟩⟩⟩⟩ <;> rw [Nd.isStmt.eq_def] <;> simp [kidsOk, Bool.and_assoc]
theorem IsStmt_52 (n : Int) (s : List UInt8) (l : List Nd) (a : Option Addr) (c : Nat) (S : Nat → Prop) (w : World)
 (hs : rowSits S w l a) (hsl : s.length ≤ 9223372036854775807) (hll : l.length ≤ 9223372036854775807) (hrw : rowWf l) (hb : ∀ t ∈ l, Tests S 34 Nd.isBlock t) :
 Calls Tryz.prog 33 #[.agg #[.int .u8 52, .int .i64 n, str s, .slice a l.length c]] w fun e w' => e = .returned (.bool (Nd.mk 52 n s l).isStmt) ∧ Ext w w' := by
 have HEX : Hid (∀ t ∈ l, Tests S 68 Nd.isExpr t) := Lib.hid fun t ht => IsExpr_t S t (rowWf_get hrw t ht)
 have HPL : Hid (∀ t ∈ l, Tests S 67 Nd.isPlace t) := Lib.hid fun t ht => IsPlace_t S t (rowWf_get hrw t ht)
 have HVA : Hid (∀ t ∈ l, Tests S 71 Nd.isVar t) := Lib.hid fun t ht => isVar_t S t (rowWf_get hrw t ht)
 have HBL := Lib.hid hb; clear hb
 have HSL := Lib.hid hsl; clear hsl hrw
 have hr := isStmt_52 n s l
 have HR := Lib.hid hr; clear hr
 cases hnm : plain n s
 all_goals have HNM := Lib.hid hnm; clear hnm
 all_goals go_enter Tryz.func33, Tryz.ntmps33
 all_goals go_wp2_with (first | (go_at_call 65; refine (plain_c _ _ _ _ _ _ _).mono ?_; rintro e w1 ⟨rfl, hx1⟩; have hc1 := hx1.cells; rw [HNM.out]) | (go_at_call 66; refine (kids_c _ _ _ l a c [(68, Nd.isExpr), (34, Nd.isBlock), (34, Nd.isBlock), (68, Nd.isExpr)] _ _ S _ hll (by decide) (hs.ext (by refine Ext.alloc ?_ _; refine Ext.trans ?_ (by assumption); refine Ext.alloc ?_ _; exact Ext.refl _)) (get4 (by go_simp) (by go_simp) (by go_simp) (by go_simp)) (mem4 en_IsExpr en_IsBlock en_IsBlock en_IsExpr) (mem4 HEX.out HBL.out HBL.out HEX.out)).mono ?_; rintro e w2 ⟨rfl, hx2⟩))
 all_goals go_ret
 all_goals rw [HR.out, HNM.out]
 all_goals exact ⟨ret_bool (by simp), (by repeat (first | exact Ext.refl _ | assumption | refine Ext.alloc ?_ _ | refine Ext.drew ?_ | refine Ext.trans ?_ (by assumption)))⟩
theorem isStmt_53 (n : Int) (s : List UInt8) (l : List Nd) : (Nd.mk 53 n s l).isStmt = (plain n s && kidsOk l [(68, Nd.isExpr), (34, Nd.isBlock), (34, Nd.isBlock), (68, Nd.isExpr)]) := by
 rcases l with _ | ⟨x, _ | ⟨y, _ | ⟨z, _ | ⟨u, _ | ⟨v, l⟩⟩⟩⟩⟩ <;> rw [Nd.isStmt.eq_def] <;> simp [kidsOk, Bool.and_assoc]
theorem IsStmt_53 (n : Int) (s : List UInt8) (l : List Nd) (a : Option Addr) (c : Nat) (S : Nat → Prop) (w : World)
 (hs : rowSits S w l a) (hsl : s.length ≤ 9223372036854775807) (hll : l.length ≤ 9223372036854775807) (hrw : rowWf l) (hb : ∀ t ∈ l, Tests S 34 Nd.isBlock t) :
 Calls Tryz.prog 33 #[.agg #[.int .u8 53, .int .i64 n, str s, .slice a l.length c]] w fun e w' => e = .returned (.bool (Nd.mk 53 n s l).isStmt) ∧ Ext w w' := by
 have HEX : Hid (∀ t ∈ l, Tests S 68 Nd.isExpr t) := Lib.hid fun t ht => IsExpr_t S t (rowWf_get hrw t ht)
 have HPL : Hid (∀ t ∈ l, Tests S 67 Nd.isPlace t) := Lib.hid fun t ht => IsPlace_t S t (rowWf_get hrw t ht)
 have HVA : Hid (∀ t ∈ l, Tests S 71 Nd.isVar t) := Lib.hid fun t ht => isVar_t S t (rowWf_get hrw t ht)
 have HBL := Lib.hid hb; clear hb
 have HSL := Lib.hid hsl; clear hsl hrw
 have hr := isStmt_53 n s l
 have HR := Lib.hid hr; clear hr
 cases hnm : plain n s
 all_goals have HNM := Lib.hid hnm; clear hnm
 all_goals go_enter Tryz.func33, Tryz.ntmps33
 all_goals go_wp2_with (first | (go_at_call 65; refine (plain_c _ _ _ _ _ _ _).mono ?_; rintro e w1 ⟨rfl, hx1⟩; have hc1 := hx1.cells; rw [HNM.out]) | (go_at_call 66; refine (kids_c _ _ _ l a c [(68, Nd.isExpr), (34, Nd.isBlock), (34, Nd.isBlock), (68, Nd.isExpr)] _ _ S _ hll (by decide) (hs.ext (by refine Ext.alloc ?_ _; refine Ext.trans ?_ (by assumption); refine Ext.alloc ?_ _; exact Ext.refl _)) (get4 (by go_simp) (by go_simp) (by go_simp) (by go_simp)) (mem4 en_IsExpr en_IsBlock en_IsBlock en_IsExpr) (mem4 HEX.out HBL.out HBL.out HEX.out)).mono ?_; rintro e w2 ⟨rfl, hx2⟩))
 all_goals go_ret
 all_goals rw [HR.out, HNM.out]
 all_goals exact ⟨ret_bool (by simp), (by repeat (first | exact Ext.refl _ | assumption | refine Ext.alloc ?_ _ | refine Ext.drew ?_ | refine Ext.trans ?_ (by assumption)))⟩
theorem isStmt_54 (n : Int) (s : List UInt8) (l : List Nd) : (Nd.mk 54 n s l).isStmt = (named n s && kidsOk l [(68, Nd.isExpr), (34, Nd.isBlock), (68, Nd.isExpr)]) := by
 rcases l with _ | ⟨x, _ | ⟨y, _ | ⟨z, _ | ⟨u, _ | ⟨v, l⟩⟩⟩⟩⟩ <;> rw [Nd.isStmt.eq_def] <;> simp [kidsOk, Bool.and_assoc]
theorem IsStmt_54 (n : Int) (s : List UInt8) (l : List Nd) (a : Option Addr) (c : Nat) (S : Nat → Prop) (w : World)
 (hs : rowSits S w l a) (hsl : s.length ≤ 9223372036854775807) (hll : l.length ≤ 9223372036854775807) (hrw : rowWf l) (hb : ∀ t ∈ l, Tests S 34 Nd.isBlock t) :
 Calls Tryz.prog 33 #[.agg #[.int .u8 54, .int .i64 n, str s, .slice a l.length c]] w fun e w' => e = .returned (.bool (Nd.mk 54 n s l).isStmt) ∧ Ext w w' := by
 have HEX : Hid (∀ t ∈ l, Tests S 68 Nd.isExpr t) := Lib.hid fun t ht => IsExpr_t S t (rowWf_get hrw t ht)
 have HPL : Hid (∀ t ∈ l, Tests S 67 Nd.isPlace t) := Lib.hid fun t ht => IsPlace_t S t (rowWf_get hrw t ht)
 have HVA : Hid (∀ t ∈ l, Tests S 71 Nd.isVar t) := Lib.hid fun t ht => isVar_t S t (rowWf_get hrw t ht)
 have HBL := Lib.hid hb; clear hb
 have HSL := Lib.hid hsl; clear hsl hrw
 have hr := isStmt_54 n s l
 have HR := Lib.hid hr; clear hr
 cases hnm : named n s
 all_goals have HNM := Lib.hid hnm; clear hnm
 all_goals go_enter Tryz.func33, Tryz.ntmps33
 all_goals go_wp2_with (first | (go_at_call 69; refine (named_c _ _ _ _ _ _ _ HSL.out).mono ?_; rintro e w1 ⟨rfl, hx1⟩; have hc1 := hx1.cells; rw [HNM.out]) | (go_at_call 66; refine (kids_c _ _ _ l a c [(68, Nd.isExpr), (34, Nd.isBlock), (68, Nd.isExpr)] _ _ S _ hll (by decide) (hs.ext (by refine Ext.alloc ?_ _; refine Ext.trans ?_ (by assumption); refine Ext.alloc ?_ _; exact Ext.refl _)) (get3 (by go_simp) (by go_simp) (by go_simp)) (mem3 en_IsExpr en_IsBlock en_IsExpr) (mem3 HEX.out HBL.out HEX.out)).mono ?_; rintro e w2 ⟨rfl, hx2⟩))
 all_goals go_ret
 all_goals rw [HR.out, HNM.out]
 all_goals exact ⟨ret_bool (by simp), (by repeat (first | exact Ext.refl _ | assumption | refine Ext.alloc ?_ _ | refine Ext.drew ?_ | refine Ext.trans ?_ (by assumption)))⟩
theorem isStmt_55 (n : Int) (s : List UInt8) (l : List Nd) : (Nd.mk 55 n s l).isStmt = (named n s && kidsOk l [(34, Nd.isBlock)]) := by
 rcases l with _ | ⟨x, _ | ⟨y, _ | ⟨z, _ | ⟨u, _ | ⟨v, l⟩⟩⟩⟩⟩ <;> rw [Nd.isStmt.eq_def] <;> simp [kidsOk, Bool.and_assoc]
theorem IsStmt_55 (n : Int) (s : List UInt8) (l : List Nd) (a : Option Addr) (c : Nat) (S : Nat → Prop) (w : World)
 (hs : rowSits S w l a) (hsl : s.length ≤ 9223372036854775807) (hll : l.length ≤ 9223372036854775807) (hrw : rowWf l) (hb : ∀ t ∈ l, Tests S 34 Nd.isBlock t) :
 Calls Tryz.prog 33 #[.agg #[.int .u8 55, .int .i64 n, str s, .slice a l.length c]] w fun e w' => e = .returned (.bool (Nd.mk 55 n s l).isStmt) ∧ Ext w w' := by
 have HEX : Hid (∀ t ∈ l, Tests S 68 Nd.isExpr t) := Lib.hid fun t ht => IsExpr_t S t (rowWf_get hrw t ht)
 have HPL : Hid (∀ t ∈ l, Tests S 67 Nd.isPlace t) := Lib.hid fun t ht => IsPlace_t S t (rowWf_get hrw t ht)
 have HVA : Hid (∀ t ∈ l, Tests S 71 Nd.isVar t) := Lib.hid fun t ht => isVar_t S t (rowWf_get hrw t ht)
 have HBL := Lib.hid hb; clear hb
 have HSL := Lib.hid hsl; clear hsl hrw
 have hr := isStmt_55 n s l
 have HR := Lib.hid hr; clear hr
 cases hnm : named n s
 all_goals have HNM := Lib.hid hnm; clear hnm
 all_goals go_enter Tryz.func33, Tryz.ntmps33
 all_goals go_wp2_with (first | (go_at_call 69; refine (named_c _ _ _ _ _ _ _ HSL.out).mono ?_; rintro e w1 ⟨rfl, hx1⟩; have hc1 := hx1.cells; rw [HNM.out]) | (go_at_call 66; refine (kids_c _ _ _ l a c [(34, Nd.isBlock)] _ _ S _ hll (by decide) (hs.ext (by refine Ext.alloc ?_ _; refine Ext.trans ?_ (by assumption); refine Ext.alloc ?_ _; exact Ext.refl _)) (get1 (by go_simp)) (mem1 en_IsBlock) (mem1 HBL.out)).mono ?_; rintro e w2 ⟨rfl, hx2⟩))
 all_goals go_ret
 all_goals rw [HR.out, HNM.out]
 all_goals exact ⟨ret_bool (by simp), (by repeat (first | exact Ext.refl _ | assumption | refine Ext.alloc ?_ _ | refine Ext.drew ?_ | refine Ext.trans ?_ (by assumption)))⟩
theorem isStmt_50 (n : Int) (s : List UInt8) (l : List Nd) : (Nd.mk 50 n s l).isStmt = (named n s && decide (l.length ≤ 8) && l.all Nd.isVar) := by
 rw [Nd.isStmt.eq_def]; simp
theorem IsStmt_50 (n : Int) (s : List UInt8) (l : List Nd) (a : Option Addr) (c : Nat) (S : Nat → Prop) (w : World)
 (hs : rowSits S w l a) (hsl : s.length ≤ 9223372036854775807) (hll : l.length ≤ 9223372036854775807) (hrw : rowWf l) (hb : ∀ t ∈ l, Tests S 34 Nd.isBlock t) :
 Calls Tryz.prog 33 #[.agg #[.int .u8 50, .int .i64 n, str s, .slice a l.length c]] w fun e w' => e = .returned (.bool (Nd.mk 50 n s l).isStmt) ∧ Ext w w' := by
 have HEX : Hid (∀ t ∈ l, Tests S 68 Nd.isExpr t) := Lib.hid fun t ht => IsExpr_t S t (rowWf_get hrw t ht)
 have HPL : Hid (∀ t ∈ l, Tests S 67 Nd.isPlace t) := Lib.hid fun t ht => IsPlace_t S t (rowWf_get hrw t ht)
 have HVA : Hid (∀ t ∈ l, Tests S 71 Nd.isVar t) := Lib.hid fun t ht => isVar_t S t (rowWf_get hrw t ht)
 have HBL := Lib.hid hb; clear hb
 have HSL := Lib.hid hsl; clear hsl hrw
 have hr := isStmt_50 n s l
 have HR := Lib.hid hr; clear hr
 cases hnm : named n s
 · have HNM := Lib.hid hnm; clear hnm
   go_enter Tryz.func33, Tryz.ntmps33
   go_wp2_with (first | (go_at_call 69; refine (named_c _ _ _ _ _ _ _ HSL.out).mono ?_; rintro e w1 ⟨rfl, hx1⟩; have hc1 := hx1.cells; rw [HNM.out]))
   go_ret
   rw [HR.out, HNM.out]
   exact ⟨ret_bool (by simp), (by refine Ext.trans ?_ (by assumption); refine Ext.alloc ?_ _; exact Ext.refl _)⟩
 · have HNM := Lib.hid hnm; clear hnm
   by_cases h8 : l.length ≤ 8
   · have d8 : decide ((l.length : Int) ≤ 8) = true := by simp; omega
     have H8 := Lib.hid h8; clear h8
     go_enter Tryz.func33, Tryz.ntmps33
     go_wp2_with (first | (go_at_call 69; refine (named_c _ _ _ _ _ _ _ HSL.out).mono ?_; rintro e w1 ⟨rfl, hx1⟩; have hc1 := hx1.cells; rw [HNM.out]) | (go_at_call 70; refine (every_c 71 Nd.isVar en_isVar l a c S _ hll (hs.ext (by refine Ext.trans ?_ (by assumption); refine Ext.alloc ?_ _; exact Ext.refl _)) HVA.out).mono ?_; rintro e w2 ⟨rfl, hx2⟩))
     go_ret
     rw [HR.out, HNM.out]
     exact ⟨ret_bool (by simp [H8.out]), (by refine Ext.trans ?_ (by assumption); refine Ext.trans ?_ (by assumption); refine Ext.alloc ?_ _; exact Ext.refl _)⟩
   · have d8 : decide ((l.length : Int) ≤ 8) = false := by simp; omega
     have H8 := Lib.hid h8; clear h8
     go_enter Tryz.func33, Tryz.ntmps33
     go_wp2_with (first | (go_at_call 69; refine (named_c _ _ _ _ _ _ _ HSL.out).mono ?_; rintro e w1 ⟨rfl, hx1⟩; have hc1 := hx1.cells; rw [HNM.out]))
     go_ret
     rw [HR.out, HNM.out]
     exact ⟨ret_bool (by simp [H8.out]), (by refine Ext.trans ?_ (by assumption); refine Ext.alloc ?_ _; exact Ext.refl _)⟩
theorem isStmt_51 (n : Int) (s : List UInt8) (l : List Nd) : (Nd.mk 51 n s l).isStmt = (named n s && decide (l.length ≤ 8) && l.all Nd.isVar) := by
 rw [Nd.isStmt.eq_def]; simp
theorem IsStmt_51 (n : Int) (s : List UInt8) (l : List Nd) (a : Option Addr) (c : Nat) (S : Nat → Prop) (w : World)
 (hs : rowSits S w l a) (hsl : s.length ≤ 9223372036854775807) (hll : l.length ≤ 9223372036854775807) (hrw : rowWf l) (hb : ∀ t ∈ l, Tests S 34 Nd.isBlock t) :
 Calls Tryz.prog 33 #[.agg #[.int .u8 51, .int .i64 n, str s, .slice a l.length c]] w fun e w' => e = .returned (.bool (Nd.mk 51 n s l).isStmt) ∧ Ext w w' := by
 have HEX : Hid (∀ t ∈ l, Tests S 68 Nd.isExpr t) := Lib.hid fun t ht => IsExpr_t S t (rowWf_get hrw t ht)
 have HPL : Hid (∀ t ∈ l, Tests S 67 Nd.isPlace t) := Lib.hid fun t ht => IsPlace_t S t (rowWf_get hrw t ht)
 have HVA : Hid (∀ t ∈ l, Tests S 71 Nd.isVar t) := Lib.hid fun t ht => isVar_t S t (rowWf_get hrw t ht)
 have HBL := Lib.hid hb; clear hb
 have HSL := Lib.hid hsl; clear hsl hrw
 have hr := isStmt_51 n s l
 have HR := Lib.hid hr; clear hr
 cases hnm : named n s
 · have HNM := Lib.hid hnm; clear hnm
   go_enter Tryz.func33, Tryz.ntmps33
   go_wp2_with (first | (go_at_call 69; refine (named_c _ _ _ _ _ _ _ HSL.out).mono ?_; rintro e w1 ⟨rfl, hx1⟩; have hc1 := hx1.cells; rw [HNM.out]))
   go_ret
   rw [HR.out, HNM.out]
   exact ⟨ret_bool (by simp), (by refine Ext.trans ?_ (by assumption); refine Ext.alloc ?_ _; exact Ext.refl _)⟩
 · have HNM := Lib.hid hnm; clear hnm
   by_cases h8 : l.length ≤ 8
   · have d8 : decide ((l.length : Int) ≤ 8) = true := by simp; omega
     have H8 := Lib.hid h8; clear h8
     go_enter Tryz.func33, Tryz.ntmps33
     go_wp2_with (first | (go_at_call 69; refine (named_c _ _ _ _ _ _ _ HSL.out).mono ?_; rintro e w1 ⟨rfl, hx1⟩; have hc1 := hx1.cells; rw [HNM.out]) | (go_at_call 70; refine (every_c 71 Nd.isVar en_isVar l a c S _ hll (hs.ext (by refine Ext.trans ?_ (by assumption); refine Ext.alloc ?_ _; exact Ext.refl _)) HVA.out).mono ?_; rintro e w2 ⟨rfl, hx2⟩))
     go_ret
     rw [HR.out, HNM.out]
     exact ⟨ret_bool (by simp [H8.out]), (by refine Ext.trans ?_ (by assumption); refine Ext.trans ?_ (by assumption); refine Ext.alloc ?_ _; exact Ext.refl _)⟩
   · have d8 : decide ((l.length : Int) ≤ 8) = false := by simp; omega
     have H8 := Lib.hid h8; clear h8
     go_enter Tryz.func33, Tryz.ntmps33
     go_wp2_with (first | (go_at_call 69; refine (named_c _ _ _ _ _ _ _ HSL.out).mono ?_; rintro e w1 ⟨rfl, hx1⟩; have hc1 := hx1.cells; rw [HNM.out]))
     go_ret
     rw [HR.out, HNM.out]
     exact ⟨ret_bool (by simp [H8.out]), (by refine Ext.trans ?_ (by assumption); refine Ext.alloc ?_ _; exact Ext.refl _)⟩
theorem isStmt_else (k n : Int) (s : List UInt8) (l : List Nd) (h : k < 40 ∨ 56 < k) : (Nd.mk k n s l).isStmt = false := by
 rw [Nd.isStmt.eq_def]; simp only []; rw [if_neg (by omega), if_neg (by omega), if_neg (by omega), if_neg (by omega), if_neg (by omega), if_neg (by omega), if_neg (by omega), if_neg (by omega)]
theorem IsStmt_else (k n : Int) (s : List UInt8) (l : List Nd) (a : Option Addr) (c : Nat) (w : World) (h : k < 40 ∨ 56 < k) :
 Calls Tryz.prog 33 #[.agg #[.int .u8 k, .int .i64 n, str s, .slice a l.length c]] w fun e w' => e = .returned (.bool (Nd.mk k n s l).isStmt) ∧ Ext w w' := by
 have hr := isStmt_else k n s l h
 have HR := Lib.hid hr; clear hr
 have d40 : (k == 40) = false := by rw [beq_eq_false_iff_ne]; omega
 have d41 : (k == 41) = false := by rw [beq_eq_false_iff_ne]; omega
 have d42 : (k == 42) = false := by rw [beq_eq_false_iff_ne]; omega
 have d43 : (k == 43) = false := by rw [beq_eq_false_iff_ne]; omega
 have d44 : (k == 44) = false := by rw [beq_eq_false_iff_ne]; omega
 have d45 : (k == 45) = false := by rw [beq_eq_false_iff_ne]; omega
 have d46 : (k == 46) = false := by rw [beq_eq_false_iff_ne]; omega
 have d47 : (k == 47) = false := by rw [beq_eq_false_iff_ne]; omega
 have d48 : (k == 48) = false := by rw [beq_eq_false_iff_ne]; omega
 have d49 : (k == 49) = false := by rw [beq_eq_false_iff_ne]; omega
 have d50 : (k == 50) = false := by rw [beq_eq_false_iff_ne]; omega
 have d51 : (k == 51) = false := by rw [beq_eq_false_iff_ne]; omega
 have d52 : (k == 52) = false := by rw [beq_eq_false_iff_ne]; omega
 have d53 : (k == 53) = false := by rw [beq_eq_false_iff_ne]; omega
 have d54 : (k == 54) = false := by rw [beq_eq_false_iff_ne]; omega
 have d55 : (k == 55) = false := by rw [beq_eq_false_iff_ne]; omega
 have d56 : (k == 56) = false := by rw [beq_eq_false_iff_ne]; omega
 clear h
 go_enter Tryz.func33, Tryz.ntmps33
 go_wp2_with fail
 go_ret
 rw [HR.out]
 exact ⟨rfl, (by refine Ext.alloc ?_ _; exact Ext.refl _)⟩
theorem IsStmt_any (k n : Int) (s : List UInt8) (l : List Nd) (a : Option Addr) (c : Nat) (S : Nat → Prop) (w : World)
 (hs : rowSits S w l a) (hsl : s.length ≤ 9223372036854775807) (hll : l.length ≤ 9223372036854775807) (hrw : rowWf l) (hb : ∀ t ∈ l, Tests S 34 Nd.isBlock t) :
 Calls Tryz.prog 33 #[.agg #[.int .u8 k, .int .i64 n, str s, .slice a l.length c]] w fun e w' => e = .returned (.bool (Nd.mk k n s l).isStmt) ∧ Ext w w' := by
 by_cases h : k < 40 ∨ 56 < k
 · exact IsStmt_else k n s l a c w h
 by_cases h40 : k = 40
 · subst h40; exact IsStmt_40 n s l a c S w hs hsl hll hrw hb
 by_cases h41 : k = 41
 · subst h41; exact IsStmt_41 n s l a c S w hs hsl hll hrw hb
 by_cases h42 : k = 42
 · subst h42; exact IsStmt_42 n s l a c S w hs hsl hll hrw hb
 by_cases h43 : k = 43
 · subst h43; exact IsStmt_43 n s l a c S w hs hsl hll hrw hb
 by_cases h44 : k = 44
 · subst h44; exact IsStmt_44 n s l a c S w hs hsl hll hrw hb
 by_cases h45 : k = 45
 · subst h45; exact IsStmt_45 n s l a c S w hs hsl hll hrw hb
 by_cases h46 : k = 46
 · subst h46; exact IsStmt_46 n s l a c S w hs hsl hll hrw hb
 by_cases h47 : k = 47
 · subst h47; exact IsStmt_47 n s l a c S w hs hsl hll hrw hb
 by_cases h48 : k = 48
 · subst h48; exact IsStmt_48 n s l a c S w hs hsl hll hrw hb
 by_cases h49 : k = 49
 · subst h49; exact IsStmt_49 n s l a c S w hs hsl hll hrw hb
 by_cases h50 : k = 50
 · subst h50; exact IsStmt_50 n s l a c S w hs hsl hll hrw hb
 by_cases h51 : k = 51
 · subst h51; exact IsStmt_51 n s l a c S w hs hsl hll hrw hb
 by_cases h52 : k = 52
 · subst h52; exact IsStmt_52 n s l a c S w hs hsl hll hrw hb
 by_cases h53 : k = 53
 · subst h53; exact IsStmt_53 n s l a c S w hs hsl hll hrw hb
 by_cases h54 : k = 54
 · subst h54; exact IsStmt_54 n s l a c S w hs hsl hll hrw hb
 by_cases h55 : k = 55
 · subst h55; exact IsStmt_55 n s l a c S w hs hsl hll hrw hb
 by_cases h56 : k = 56
 · subst h56; exact IsStmt_56 n s l a c S w hs hsl hll hrw hb
 omega
theorem IsBlock_any (k n : Int) (s : List UInt8) (l : List Nd) (a : Option Addr) (c : Nat) (S : Nat → Prop) (w : World)
 (hs : rowSits S w l a) (hll : l.length ≤ 9223372036854775807) (ht : ∀ t ∈ l, Tests S 33 Nd.isStmt t) :
 Calls Tryz.prog 34 #[.agg #[.int .u8 k, .int .i64 n, str s, .slice a l.length c]] w fun e w' => e = .returned (.bool (Nd.mk k n s l).isBlock) ∧ Ext w w' := by
 have hall : ∀ r : List Nd, rowStmt r = r.all Nd.isStmt := by
  intro r
  induction r with
  | nil => rfl
  | cons x r ih => simp [rowStmt, ih]
 have hr : (Nd.mk k n s l).isBlock = (k == 57 && plain n s && l.all Nd.isStmt) := by rw [Nd.isBlock, hall]
 have HR := Lib.hid hr; clear hr hall
 have HT := Lib.hid ht; clear ht
 by_cases h57 : k = 57
 · subst h57
   cases hnm : plain n s
   all_goals have HNM := Lib.hid hnm; clear hnm
   all_goals go_enter Tryz.func34, Tryz.ntmps34
   all_goals go_wp2_with (first | (go_at_call 65; refine (plain_c _ _ _ _ _ _ _).mono ?_; rintro e w1 ⟨rfl, hx1⟩; have hc1 := hx1.cells; rw [HNM.out]) | (go_at_call 70; refine (every_c 33 Nd.isStmt en_IsStmt l a c S _ hll (hs.ext (by refine Ext.trans ?_ (by assumption); refine Ext.alloc ?_ _; exact Ext.refl _)) HT.out).mono ?_; rintro e w2 ⟨rfl, hx2⟩))
   all_goals go_ret
   all_goals rw [HR.out, HNM.out]
   all_goals exact ⟨ret_bool (by simp), (by repeat (first | exact Ext.refl _ | assumption | refine Ext.alloc ?_ _ | refine Ext.drew ?_ | refine Ext.trans ?_ (by assumption)))⟩
 · have d57 : (k == 57) = false := by rw [beq_eq_false_iff_ne]; omega
   clear h57
   go_enter Tryz.func34, Tryz.ntmps34
   go_wp2_with fail
   go_ret
   rw [HR.out]
   exact ⟨ret_bool (by simp [d57]), (by refine Ext.alloc ?_ _; exact Ext.refl _)⟩
theorem IsStmtBlock_c (S : Nat → Prop) (N : Nat) : (∀ t : Nd, t.size < N → t.wf → Tests S 33 Nd.isStmt t) ∧ (∀ t : Nd, t.size < N → t.wf → Tests S 34 Nd.isBlock t) := by
 induction N with
 | zero => exact ⟨fun t h => absurd h (Nat.not_lt_zero _), fun t h => absurd h (Nat.not_lt_zero _)⟩
 | succ N ih =>
  refine ⟨?_, ?_⟩
  · rintro ⟨k, n, s, l⟩ hN hwf a c w hs
    simp only [Nd.wf, Nd.size, Nd.sits] at *
    exact IsStmt_any k n s l a c S w hs hwf.2.2.2.2.1 hwf.2.2.2.2.2.1 hwf.2.2.2.2.2.2 (fun t ht => ih.2 t (by have := size_mem ht; omega) (rowWf_get hwf.2.2.2.2.2.2 t ht))
  · rintro ⟨k, n, s, l⟩ hN hwf a c w hs
    simp only [Nd.wf, Nd.size, Nd.sits] at *
    exact IsBlock_any k n s l a c S w hs hwf.2.2.2.2.2.1 (fun t ht => ih.1 t (by have := size_mem ht; omega) (rowWf_get hwf.2.2.2.2.2.2 t ht))
theorem IsStmt_t (S : Nat → Prop) (t : Nd) (h : t.wf) : Tests S 33 Nd.isStmt t := (IsStmtBlock_c S (t.size + 1)).1 t (by omega) h
theorem IsBlock_t (S : Nat → Prop) (t : Nd) (h : t.wf) : Tests S 34 Nd.isBlock t := (IsStmtBlock_c S (t.size + 1)).2 t (by omega) h
end Bk
namespace Bk
open Go Go.RowKit Go.Proofs
attribute [local irreducible] Go.Calls
set_option maxRecDepth 100000 in
set_option maxHeartbeats 4000000 in
theorem fold1_c (k n : Int) (s : List UInt8) (a : Option Addr) (m c : Nat) (v : Int) (q : Bool) (w : World) :
 Calls Tryz.prog 115 #[.agg #[.int .u8 k, .int .i64 n, str s, .slice a m c, .int .i64 v, .bool q]] w fun e w' => e = .returned (.agg #[.int .u8 k, .int .i64 n, str s, .slice a m c]) ∧ Ext w w' := by
 have X := Ext.refl w; refine calls_in Tryz.func115 Tryz.ntmps115 rfl rfl ?_
 focus
  refine cS ?_; (refine lw_box' [_, _, _, _, _, _] rfl rfl rfl ?_; intro b1 w2 n3); have h4 := n3.blk; have x5 := n3.ext; have p6 := n3.pos; have z7 := n3.size; clear n3; replace X := X.ext x5; clear x5; (refine lw_alloc' [_, _, _, _] zOk rfl rfl ?_; intro b8 w9 n10); have h12 := n10.blk; have x13 := n10.ext; have p14 := n10.pos; have z15 := n10.size; clear n10; replace h4 := h4.ext x13; replace X := X.ext x13; clear x13; refine cN (C1 Pg (lw_loads_b' [_, _, _, _] tabOk rfl rfl rfl h4 rfl rfl rfl ?_)); (refine lw_store' [_, _, _, _] [_, _, _, _] tabOk rfl rfl rfl rfl rfl rfl h12 rfl rfl ?_; intro w16 n17); have h20 := n17.blk; have f18 := n17.fr; have z19 := n17.size; clear n17 h12; replace h4 := h4.fr f18 (by omega); replace X := X.fr f18 (by omega); clear f18; refine cT (cw_ret (qw_retc rfl tabOk rfl rfl rfl h20 rfl ?_)); rotate_left 1
 all_goals exact ⟨rfl, X⟩
set_option maxRecDepth 100000 in
set_option maxHeartbeats 4000000 in
theorem eachN_c (kids : List (Int × Bool)) (hl : kids.length ≤ 1000000) (a : Option Addr) (c : Nat) (w : World) (hk : KidsAt w a kids) :
 Calls Tryz.prog 114 #[.slice a kids.length c, .func (.func 115) #[] #[]] w (EachR (anyShape 4) 26 (kids.map fun _ => ()) w) := by
 have X := Ext.refl w; refine calls_in Tryz.func114 Tryz.ntmps114 rfl rfl ?_
 focus
  refine cS (C1 Pa (cN (C1 Pa (cT (cw_seq (cS (C1 Mv (C1 Pz (C1 Mv (cT ?_)))))))))); rotate_left 1
 refine cw_block ?_; refine cw_loop (ι := Nat × Option Addr × Nat) (fun x => [(1, .func (.func 115) #[] #[]), (5, .slice x.2.1 (List.replicate x.1 ()).length x.2.2), (8, .slice a kids.length c), (9, .int .i64 kids.length), (10, .int .i64 x.1)])
  (fun x w' => OwnQ (anyShape 4) w' (fun _ => False) w.heap.size 26 (.slice x.2.1 (List.replicate x.1 ()).length x.2.2) (List.replicate x.1 ()) ∧ x.1 ≤ kids.length ∧ Ext w w')
  (fun x => kids.length - x.1) (0, none, 0) (by (refine sub_cons rfl ?_; refine sub_cons rfl ?_; refine sub_cons rfl ?_; refine sub_cons rfl ?_; refine sub_cons rfl ?_; exact sub_nil)) ⟨OwnQ.nil, Nat.zero_le _, X⟩ ?_
 clear X; rintro ⟨j, ra, rc⟩ w1 ⟨hown, hj, X⟩; simp only at hown hj X
 have hob : ∀ g, (Value.slice ra (List.replicate j ()).length rc).ownBlock = some g → w.heap.size ≤ g ∧ g < w1.heap.size := fun g h => ⟨hown.ge h, hown.lt h⟩
 have hsz := X.size
 by_cases hlt : j < kids.length
 · rcases hk.ext X with hk | ⟨b, o, rfl, hb, hkk⟩
   · subst hk; simp at hlt
   obtain ⟨k', n', s', c', m', d', r0⟩ := hkk j kids[j] (List.getElem?_eq_getElem hlt)
   have hml : (List.replicate j ()).length ≤ 1000000 := by simp; omega
   have hnext : List.replicate j () ++ [()] = List.replicate (j + 1) () := by rw [List.replicate_succ']
   clear hkk hk
   generalize kids[j] = x at *
   focus
    refine cS (C1 V3 (cT (cw_seq (Wyo (cw_skip (qw_then (cw_seq (cw_block (cS (C1 Pi (C1 (Pws r0) ?_))))))))))); (refine lw_alloc' [_, _, _, _, _, _] zOk rfl rfl ?_; intro ba1 wa2 na3); (refine lw_init' [_, _, _, _, _, _] tabOk rfl rfl rfl rfl rfl rfl na3 rfl ?_; clear na3; clear wa2; intro wa4 na3); have ha5 := na3.blk; have xa6 := na3.ext; have pa7 := na3.pos; have za8 := na3.size; clear na3; replace hown := hown.ext xa6; replace X := X.ext xa6; replace r0 := r0.ext xa6; clear xa6; refine cT (cw_region (C1 Mv (C1 Mv (lw_loads_b' [_, _, _, _, _, _] tabOk rfl rfl rfl ha5 rfl rfl rfl ?_)))); refine lw_does (does_callv (fi := []) (ca := []) (by kernel_rfl) rfl rfl (fold1_c _ _ _ _ _ _ _ _ _) (fun _ _ h => ⟨_, h.1⟩)) rfl ?_ (fun _ h => h); rintro _ wa10 ⟨⟨⟩, xa9⟩; have za11 := xa9.size; replace ha5 := ha5.ext xa9; replace hown := hown.ext xa9; replace X := X.ext xa9; replace r0 := r0.ext xa9; clear xa9; (refine lw_does (does_slice' [_, _, _, _] tabOk zOk rfl rfl rfl rfl rfl rfl rfl rfl rfl) rfl ?_ (fun _ h => h); rintro _ wa13 ⟨ba12, rfl, na14, ta15⟩); clear ta15; have ha16 := na14.blk; have xa17 := na14.ext; have pa18 := na14.pos; have za19 := na14.size; clear na14; replace ha5 := ha5.ext xa17; replace hown := hown.ext xa17; replace X := X.ext xa17; replace r0 := r0.ext xa17; clear xa17; refine lw_appendQ (R := fun _ => False) (sh := anyShape 4) (z := ()) tabOk zOk rfl rfl rfl rfl (by kernel_rfl) rfl rfl rfl (by assumption) (fun _ h => by exact h) (Blk.row (by assumption)) ⟨rfl, rfl⟩ (by omega) (by omega) rfl ?_
    rintro ga20 cap'a21 wa22 ha23 ha24 ha25 fa26; have za27 := fa26.size; replace ha16 := Blk.fr ha16 fa26 (fun h => by have := hob _ h; omega); replace ha5 := Blk.fr ha5 fa26 (fun h => by have := hob _ h; omega); clear hown; replace X := Ext.fr X fa26 (fun k hk => by have := hob _ hk; omega); clear r0 fa26; refine C1 Pa (lw_nil (qw_block_norm (qw_then (cw_region (C1 V7 (C1 Mv (lw_nil ?_))))))); rotate_left 1
   rw [hnext]
   exact qw_round (j + 1, some ⟨_, 0, none⟩, _) (by (refine sub_cons rfl ?_; refine sub_cons rfl ?_; refine sub_cons rfl ?_; refine sub_cons rfl ?_; refine sub_cons rfl ?_; exact sub_nil)) ⟨by simp only; rw [← hnext]; assumption, by simp only; omega, X⟩ (by simp only; omega)
 · obtain rfl : j = kids.length := by omega
   have e : kids.map (fun _ => ()) = List.replicate kids.length () := by rw [List.map_const']
   rw [e]
   focus
    refine cS (C1 V3 (cT (cw_seq (Wno (cw_exit (qw_then_exit (qw_then_exit (qw_block_exit (qw_then (cS (C1 Mv ?_))))))))))); refine C1 Pa (cT (cw_ret (qw_ret1 rfl rfl ?_))); rotate_left 1
   exact ⟨_, _, rfl, hown, X⟩
def Rng (v : Int) : Prop := -9223372036854775808 ≤ v ∧ v ≤ 9223372036854775807
theorem rng_w64 (v : Int) : Rng (w64 v) := by
 unfold Rng w64; rw [IntKind.wrap]; simp [IntKind.signed, IntKind.bits]; split <;> omega
theorem rng_n01 (b : Bool) : Rng (n01 b) := by cases b <;> simp [n01, Rng]
theorem rng_unary (k x : Int) : Rng (unaryV k x).1 := by
 unfold unaryV
 split
 · exact rng_w64 _
 split
 · exact rng_n01 _
 · simp [Rng]
theorem rng_bit (o : BinOp) (x y : Int) : Rng (bitV o x y) := by
 unfold bitV
 split <;> exact rng_w64 _
theorem rng_tmod {x y : Int} (h : Rng x) : Rng (x.tmod y) := by
 have h1 := Int.natAbs_tmod x y; have h2 := Nat.mod_le x.natAbs y.natAbs
 unfold Rng at h ⊢
 by_cases hx : 0 ≤ x
 · have := Int.tmod_nonneg y hx
   omega
 · have h3 : (-x).tmod y = - x.tmod y := Int.neg_tmod ..
   have h4 := Int.tmod_nonneg y (show 0 ≤ -x by omega)
   omega
theorem rng_ite {c : Prop} [Decidable c] {a b : Int × Int} (h1 : Rng a.1) (h2 : Rng b.1) : Rng (if c then a else b).1 := by split <;> assumption
theorem rng_apply (k : Int) {x y : Int} (h : Rng x) : Rng (applyV k x y).1 := by
 unfold applyV divV
 repeat' (refine rng_ite ?_ ?_)
 all_goals first
  | exact rng_w64 _
  | exact rng_n01 _
  | exact rng_bit _ _ _
  | exact rng_tmod h
  | (constructor <;> decide)
theorem rng_cvalue {k n : Int} {kids : List (Int × Bool)} (hn : Rng n) (hk : ∀ x ∈ kids, Rng x.1) : Rng (cvalue k n kids).1 := by
 have h0 : Rng (kids.getD 0 (0, false)).1 := by
  cases kids with
  | nil => simp [Rng]
  | cons x r => exact hk x (by simp)
 unfold cvalue
 repeat' split
 all_goals first
  | exact hn
  | exact rng_unary _ _
  | exact rng_apply _ h0
  | simp [Rng]
theorem rng_keep {x : Int × Bool} (h : Rng x.1) : Rng (keepV x).1 := by
 unfold keepV
 split
 · exact h
 · simp [Rng]
mutual
theorem rng_cval : ∀ t : Nd, t.wf → Rng t.cval.1
 | .mk k n s l, h => by
  simp only [Nd.wf] at h; rw [Nd.cval]
  exact rng_keep (rng_cvalue ⟨h.2.2.1, h.2.2.2.1⟩ (rng_row l h.2.2.2.2.2.2))
theorem rng_row : ∀ l : List Nd, rowWf l → ∀ x ∈ rowCval l, Rng x.1
 | [], _, x, hx => by simp [rowCval] at hx
 | t :: r, h, x, hx => by
  simp only [rowWf] at h; simp only [rowCval, List.mem_cons] at hx
  rcases hx with rfl | hx
  · exact rng_cval t h.1
  · exact rng_row r h.2 x hx
end
theorem expr_kids {k n : Int} {s : List UInt8} {l : List Nd} (h : (Nd.mk k n s l).isExpr = true) : 1 ≤ k ∧ (∀ x ∈ l, x.isExpr = true) ∧ (k = 6 ∨ k = 7 → l.length = 1) ∧ (8 ≤ k → l.length = 2) := by
 rw [Nd.isExpr.eq_def] at h; simp only at h
 split at h
 · rename_i h1
   simp only [Bool.and_eq_true, List.isEmpty_iff] at h; rw [h.2]
   exact ⟨by omega, by simp, by omega, by omega⟩
 split at h
 · simp only [Bool.and_eq_true, List.isEmpty_iff] at h
   rw [h.2]
   exact ⟨by omega, by simp, by omega, by omega⟩
 split at h
 · match l, h with
   | [x], h =>
    simp only [Bool.and_eq_true] at h
    exact ⟨by omega, by simpa using h.2, by omega, by omega⟩
   | [], h => simp at h
   | _ :: _ :: _, h => simp at h
 split at h
 · match l, h with
   | [x], h =>
    simp only [Bool.and_eq_true] at h
    exact ⟨by omega, by simpa using h.2, fun _ => rfl, by omega⟩
   | [], h => simp at h
   | _ :: _ :: _, h => simp at h
 split at h
 · match l, h with
   | [x, y], h =>
    simp only [Bool.and_eq_true] at h
    exact ⟨by omega, by simpa using h.2, by omega, fun _ => rfl⟩
   | [], h => simp at h
   | [_], h => simp at h
   | _ :: _ :: _ :: _, h => simp at h
 · simp at h
set_option maxRecDepth 100000 in
set_option maxHeartbeats 4000000 in
theorem fold_c (N : Nat) : ∀ (t : Nd), t.size < N → t.size ≤ 1000000 → t.wf → t.isExpr = true → ∀ (S : Nat → Prop) (a : Option Addr) (c : Nat) (w : World), t.sits S w a → Calls Tryz.prog 108 #[t.val a c] w (FoldR t w) := by
 induction N with
 | zero => intro t h; omega
 | succ N ih =>
  rintro ⟨k, n, s, l⟩ hN hM hf hx S a c w hs; have hlen := length_rowA l; simp only [Nd.size] at hN hM; have hR := rng_cval _ hf; obtain ⟨e1, e2, e3, e4⟩ := expr_kids hx; simp only [Nd.wf] at hf; have HC := Lib.hid (fun x hxl => ih x (by have := size_memA hxl; omega) (by have := size_memA hxl; omega) (rowWf_get hf.2.2.2.2.2.2 x hxl) (e2 x hxl)); clear ih hf hx
  have hl2 : (l.map Nd.cval).length = l.length := by simp
  have hcv : (Nd.mk k n s l).cval = keepV (cvalue k n (l.map Nd.cval)) := by rw [Nd.cval, rowCval_map]
  have X := Ext.refl w; refine calls_in Tryz.func108 Tryz.ntmps108 rfl rfl ?_
  focus
   refine cS ?_; (refine lw_box' [_, _, _, _] rfl rfl rfl ?_; intro b1 w2 n3); have h4 := n3.blk; have x5 := n3.ext; have p6 := n3.pos; have z7 := n3.size; clear n3; replace hs := Nd.sits.ext hs x5; replace X := X.ext x5; clear x5; (refine lw_alloc' [_, _, _, _, _, _] zOk rfl rfl ?_; intro b8 w9 n10); have h12 := n10.blk; have x13 := n10.ext; have p14 := n10.pos; have z15 := n10.size; clear n10; replace h4 := h4.ext x13; replace hs := Nd.sits.ext hs x13; replace X := X.ext x13; clear x13; refine cN (C1 Pf (C1 (Pl h4) ?_)); refine cR (by kernel_rfl) rfl (eachF_c l (by omega) _ _ _ _ (kids_sits (by assumption)) HC.out) (fun _ _ h => h.ret) rfl ?_; rintro _ w20 ⟨a16, ⟨c17, ⟨⟨⟩, ⟨h18, x19⟩⟩⟩⟩; have z21 := x19.size; replace h12 := h12.ext x19; replace h4 := h4.ext x19; replace hs := Nd.sits.ext hs x19; replace X := X.ext x19; clear x19; refine C1 Pa (cT (cw_seq ?_)); rotate_left 1
  have hka := h18.kidsAt; have HV := Lib.hid (value_c k n s l a c (l.map Nd.cval) a16 c17 w20 (by omega) hka (fun h => by rw [hl2]; exact e3 h) (fun h => by rw [hl2]; exact e4 h) e1); have HE := Lib.hid (eachN_c (l.map Nd.cval) (by omega) a16 c17); have hC2 := hcv; rw [hcv] at hR; clear e1 e2 e3 e4 HC hs hl2 h18 hcv
  generalize l.map Nd.cval = kids at *
  generalize cvalue k n kids = cv at *
  obtain ⟨v, q⟩ := cv; dsimp only at HV
  cases q
  · focus
     refine cS (lw_loads_b' [_, _, _, _] tabOk rfl rfl rfl h4 rfl rfl rfl (C1 Mv (cC rfl (HV.out) ?_))); rintro _ wa2 ⟨⟨⟩, xa1⟩; have za3 := xa1.size; replace h12 := h12.ext xa1; replace h4 := h4.ext xa1; replace X := X.ext xa1; replace hka := hka.ext xa1; clear xa1; refine C1 Mv (C1 Px (C1 Px (C1 Pa (C1 Pa (cN (C1 Mv (cT (cw_cond_f rfl (cw_skip (qw_then (cS ?_))))))))))); refine C1 Mv ?_; refine cR (by kernel_rfl) rfl (HE.out _ (by assumption)) (fun _ _ h => h.ret) rfl ?_; rintro _ wa8 ⟨aa4, ⟨ca5, ⟨⟨⟩, ⟨ha6, xa7⟩⟩⟩⟩; have za9 := xa7.size; replace h12 := h12.ext xa7; replace h4 := h4.ext xa7; replace X := X.ext xa7; replace hka := hka.ext xa7; clear xa7; refine C1 Pf ?_; (refine lw_store' [_] [_, _, _, _] tabOk rfl rfl rfl rfl rfl rfl h4 rfl rfl ?_; intro wa10 na11); have ha14 := na11.blk; have fa12 := na11.fr; have za13 := na11.size; clear na11 h4 ha6; replace h12 := h12.fr fa12 (by omega); replace X := X.fr fa12 (by omega); clear hka fa12; refine cN (lw_loads_b' [_, _, _, _] tabOk rfl rfl rfl ha14 rfl rfl rfl (C1 (pur_build' [_, _, _, _, _, _] tabOk zOk rfl rfl rfl rfl) ?_)); (refine lw_store' [_, _, _, _, _, _] [_, _, _, _, _, _] tabOk rfl rfl rfl rfl rfl rfl h12 rfl rfl ?_; intro wa15 na16); have ha19 := na16.blk; have fa17 := na16.fr; have za18 := na16.size; clear na16 h12; replace ha14 := ha14.fr fa17 (by omega); replace X := X.fr fa17 (by omega); clear fa17; refine cT (cw_ret (qw_retc rfl tabOk rfl rfl rfl ha19 rfl ?_)); rotate_left 1
    exact ⟨_, _, _, _, _, _, by rw [hC2]; rfl, X⟩
  · focus
     refine cS (lw_loads_b' [_, _, _, _] tabOk rfl rfl rfl h4 rfl rfl rfl (C1 Mv (cC rfl (HV.out) ?_))); rintro _ wb2 ⟨⟨⟩, xb1⟩; have zb3 := xb1.size; replace h12 := h12.ext xb1; replace h4 := h4.ext xb1; replace X := X.ext xb1; replace hka := hka.ext xb1; clear xb1; refine C1 Mv (C1 Px (C1 Px (C1 Pa (C1 Pa (cN (C1 Mv (cT (cw_cond_t rfl (cS (C1 Mv ?_)))))))))); refine cR (by kernel_rfl) rfl (literal_c _ _ hR.1) (fun _ _ h => h.ret) rfl ?_; rintro _ wb11 ⟨kb4, ⟨nb5, ⟨sb6, ⟨ab7, ⟨mb8, ⟨cb9, ⟨⟨⟩, xb10⟩⟩⟩⟩⟩⟩⟩; have zb12 := xb10.size; replace h12 := h12.ext xb10; replace h4 := h4.ext xb10; replace X := X.ext xb10; replace hka := hka.ext xb10; clear xb10; refine C1 Mv (C1 (pur_build' [_, _, _, _, _, _] tabOk zOk rfl rfl rfl rfl) ?_); (refine lw_store' [_, _, _, _, _, _] [_, _, _, _, _, _] tabOk rfl rfl rfl rfl rfl rfl h12 rfl rfl ?_; intro wb13 nb14); have hb17 := nb14.blk; have fb15 := nb14.fr; have zb16 := nb14.size; clear nb14 h12; replace h4 := h4.fr fb15 (by omega); replace X := X.fr fb15 (by omega); clear hka fb15; refine cT (cw_ret (qw_then_ret (qw_retc rfl tabOk rfl rfl rfl hb17 rfl ?_))); rotate_left 1
    exact ⟨_, _, _, _, _, _, by rw [hC2]; rfl, X⟩
def Nd.const (t : Nd) : Int × Bool := if t.isExpr = true then t.cval else (0, false)
set_option maxRecDepth 100000 in
set_option maxHeartbeats 4000000 in
theorem Const_c (t : Nd) (hM : t.size ≤ 1000000) (hf : t.wf) (S : Nat → Prop) (a : Option Addr) (c : Nat) (w : World) (hs : t.sits S w a) : Calls Tryz.prog 103 #[t.val a c] w fun e w' => e = .returned (.tuple #[.int .i64 t.const.1, .bool t.const.2]) ∧ Ext w w' := by
 have hE0 := IsExpr_t S t hf
 unfold Tests at hE0
 have X := Ext.refl w
 by_cases hx : t.isExpr = true
 · have HF := Lib.hid (fold_c (t.size + 1) t (by omega) hM hf hx)
   have hc : t.const = t.cval := by rw [Nd.const, if_pos hx]
   rw [hc]; rw [hx] at hE0; have HE := Lib.hid hE0; clear hE0; refine calls_in Tryz.func103 Tryz.ntmps103 rfl rfl ?_
   focus
    refine cS ?_; (refine lw_box' [_, _, _, _] rfl rfl rfl ?_; intro b1 w2 n3); have h4 := n3.blk; have x5 := n3.ext; have p6 := n3.pos; have z7 := n3.size; clear n3; replace hs := Nd.sits.ext hs x5; replace X := X.ext x5; clear x5; refine C1 Pa (C1 Pa (cT (cw_seq (cS (lw_loads_b' [_, _, _, _] tabOk rfl rfl rfl h4 rfl rfl rfl ?_))))); refine cC rfl (HE.out _ _ _ (by assumption)) ?_; rintro _ w9 ⟨⟨⟩, x8⟩; have z10 := x8.size; replace h4 := h4.ext x8; replace hs := Nd.sits.ext hs x8; replace X := X.ext x8; clear x8; refine C1 Pt (cT (cw_cond_f rfl (cw_skip (qw_then (cS (lw_loads_b' [_, _, _, _] tabOk rfl rfl rfl h4 rfl rfl rfl ?_)))))); refine cR (by kernel_rfl) rfl (HF.out _ _ _ _ (by assumption)) (fun _ _ h => h.ret) rfl ?_; rintro _ w18 ⟨k11, ⟨n12, ⟨s13, ⟨a14, ⟨m15, ⟨c16, ⟨⟨⟩, x17⟩⟩⟩⟩⟩⟩⟩; have z19 := x17.size; replace h4 := h4.ext x17; replace hs := Nd.sits.ext hs x17; replace X := X.ext x17; clear x17; (refine lw_alloc' [_, _, _, _, _, _] zOk rfl rfl ?_; intro b20 w21 n22); (refine lw_init' [_, _, _, _, _, _] tabOk rfl rfl rfl rfl rfl rfl n22 rfl ?_; clear n22; clear w21; intro w23 n22); have h24 := n22.blk; have x25 := n22.ext; have p26 := n22.pos; have z27 := n22.size; clear n22; replace h4 := h4.ext x25; replace hs := Nd.sits.ext hs x25; replace X := X.ext x25; clear x25; refine cT (cw_seq ?_); (refine cw_tdraw (fun wz => Ext w23 wz) 5 (.pure 0 (.pure 1 (.pure 2 (.pure 3 (.pure 4 .tail))))) mixed (by kernel_rfl) (panicOk_then panicOk_body) ?_; intro w28 x29 _); have qs30 : (fun wz => Ext w23 wz) w28 := x29
    simp only at qs30; have d_h24 := h24; have d_h4 := h4; have d_hs := hs; have z31 := x29.size; replace h24 := h24.ext x29; replace h4 := h4.ext x29; replace hs := Nd.sits.ext hs x29; replace X := X.ext x29; clear x29; refine ⟨qs30, ?_⟩; refine Tq rfl Pf (Tq rfl (Db d_h24) (Tq rfl Pf (Tq rfl (Db d_h24) (Tq rfl Pa ?_)))); clear qs30 d_h24 d_h4 d_hs; refine tw_tail rfl (C1 Pa (cT (cw_ret (qw_ret2 rfl rfl rfl ?_)))); rotate_left 1
   all_goals exact ⟨rfl, X⟩
 · have hc : t.const = (0, false) := by rw [Nd.const, if_neg hx]
   rw [hc]; rw [Bool.not_eq_true] at hx; rw [hx] at hE0; have HE := Lib.hid hE0; clear hE0; refine calls_in Tryz.func103 Tryz.ntmps103 rfl rfl ?_
   focus
    refine cS ?_; (refine lw_box' [_, _, _, _] rfl rfl rfl ?_; intro ba1 wa2 na3); have ha4 := na3.blk; have xa5 := na3.ext; have pa6 := na3.pos; have za7 := na3.size; clear na3; replace hs := Nd.sits.ext hs xa5; replace X := X.ext xa5; clear xa5; refine C1 Pa (C1 Pa (cT (cw_seq (cS (lw_loads_b' [_, _, _, _] tabOk rfl rfl rfl ha4 rfl rfl rfl ?_))))); refine cC rfl (HE.out _ _ _ (by assumption)) ?_; rintro _ wa9 ⟨⟨⟩, xa8⟩; have za10 := xa8.size; replace ha4 := ha4.ext xa8; replace hs := Nd.sits.ext hs xa8; replace X := X.ext xa8; clear xa8; refine C1 Pt (cT (cw_cond_t rfl (cS (C1 Pa (C1 Pa (cT (cw_ret (qw_then_ret (qw_ret2 rfl rfl rfl ?_))))))))); rotate_left 1
   exact ⟨rfl, X⟩
set_option maxRecDepth 100000 in
set_option maxHeartbeats 4000000 in
theorem constant_c (t : Nd) (hM : t.size ≤ 1000000) (hf : t.wf) (S : Nat → Prop) (a : Option Addr) (c : Nat) (w : World) (hs : t.sits S w a) : Calls Tryz.prog 88 #[t.val a c] w fun e w' => e = .returned (.bool t.const.2) ∧ Ext w w' := by
 have X := Ext.refl w; refine calls_in Tryz.func88 Tryz.ntmps88 rfl rfl ?_
 focus
  refine cS ?_; (refine lw_box' [_, _, _, _] rfl rfl rfl ?_; intro b1 w2 n3); have h4 := n3.blk; have x5 := n3.ext; have p6 := n3.pos; have z7 := n3.size; clear n3; replace hs := Nd.sits.ext hs x5; replace X := X.ext x5; clear x5; refine C1 Pa (cN (lw_loads_b' [_, _, _, _] tabOk rfl rfl rfl h4 rfl rfl rfl ?_)); refine cC rfl (Const_c _ hM hf _ _ _ _ (by assumption)) ?_; rintro _ w9 ⟨⟨⟩, x8⟩; have z10 := x8.size; replace h4 := h4.ext x8; replace hs := Nd.sits.ext hs x8; replace X := X.ext x8; clear x8; refine C1 Mv (C1 Px (C1 Px (C1 Pa (C1 Pa (cN (C1 Mv (C1 Pa (cT (cw_ret (qw_ret1 rfl rfl ?_)))))))))); rotate_left 1
 exact ⟨rfl, X⟩
end Bk
namespace Bk
open Go Go.RowKit Go.Proofs
attribute [local irreducible] Go.Calls
def Nd.idx (t : Nd) (s : List UInt8) : Bool := decide (t.kind = 3) && (match t.kids with
 | [] => false
 | x :: _ => x.ment s)
def aliasO (places : List Nd) (names : List (List UInt8)) : Option (List UInt8) := places.findSome? fun t => names.find? fun s => t.idx s
def errOf (o : Option (List UInt8)) : List UInt8 × Int := match o with
 | some s => (s, 8)
 | none => ([], 0)
def Nd.okIdx (t : Nd) : Prop := t.kind = 3 → t.kids ≠ []
set_option maxRecDepth 100000 in
set_option maxHeartbeats 4000000 in
theorem indexed_c (t : Nd) (hz : t.size ≤ 1000000) (hp : t.okIdx) (s : List UInt8) (S : Nat → Prop) (a : Option Addr) (c : Nat) (w : World) (hs : t.sits S w a) : Calls Tryz.prog 83 #[t.val a c, str s] w fun e w' => e = .returned (.bool (t.idx s)) ∧ Ext w w' := by
 obtain ⟨k, n, sn, l⟩ := t; have X := Ext.refl w
 by_cases h3 : k = 3
 · subst h3
   have hne : l ≠ [] := hp rfl
   match l, hne, hs, hz with
   | x :: r, _, hs, hz =>
    have hs' := kids_sits hs; obtain ⟨kb, ko, rfl, kS, hkid⟩ := kidRows hs' (by simp); obtain ⟨xa, xc, rx, sx⟩ := hkid 0 x rfl
    have hxz : x.size ≤ 1000000 := by simp only [Nd.size, rowSize] at hz; omega
    have hi : (Nd.mk 3 n sn (x :: r)).idx s = x.ment s := by unfold Nd.idx; simp [Nd.kind, Nd.kids]
    rw [hi]; clear hkid hs hs' hp hi
    show Calls Tryz.prog 83 #[.agg #[.int .u8 3, .int .i64 n, str sn, .slice (some ⟨kb, ko, none⟩) (r.length + 1) c], str s] w _
    refine calls_in Tryz.func83 Tryz.ntmps83 rfl rfl ?_
    focus
     refine cS ?_; (refine lw_box' [_, _, _, _] rfl rfl rfl ?_; intro b1 w2 n3); have h4 := n3.blk; have x5 := n3.ext; have p6 := n3.pos; have z7 := n3.size; clear n3; replace X := X.ext x5; replace hs := Nd.sits.ext hs x5; replace rx := rx.ext x5; replace sx := Nd.sits.ext sx x5; clear x5; refine C1 Pa (cN (C1 Pg (C1 (Pl h4) (C1 V1 (C1 Mv (Gyd (C1 Pf (Gyd (C1 (Pl h4) (Gyd (C1 Pi ?_))))))))))); refine Gyd (lw_loads_r' [_, _, _, _] tabOk rfl rfl rfl rx rfl rfl rfl (Gyd (C1 Mv (Gyd ?_)))); refine cC rfl (mentions_c _ hxz _ _ _ _ _ (by assumption)) ?_; rintro _ w9 ⟨⟨⟩, x8⟩; have z10 := x8.size; replace h4 := h4.ext x8; replace X := X.ext x8; replace hs := Nd.sits.ext hs x8; replace rx := rx.ext x8; replace sx := Nd.sits.ext sx x8; clear x8; refine C1 Qyd (C1 Pa (cT (cw_ret (qw_ret1 rfl rfl ?_)))); rotate_left 1
    exact ⟨rfl, X⟩
 · have hi : (Nd.mk k n sn l).idx s = false := by unfold Nd.idx; simp [Nd.kind, h3]
   rw [hi]; refine calls_in Tryz.func83 Tryz.ntmps83 rfl rfl ?_
   focus
    refine cS ?_; (refine lw_box' [_, _, _, _] rfl rfl rfl ?_; intro ba1 wa2 na3); have ha4 := na3.blk; have xa5 := na3.ext; have pa6 := na3.pos; have za7 := na3.size; clear na3; replace hs := Nd.sits.ext hs xa5; replace X := X.ext xa5; clear xa5; refine C1 Pa (cN (C1 Pg (C1 (Pl ha4) (C1 V1 (C1 Mv (Ona (Ona (Ona (Ona (Ona (Ona ?_))))))))))); refine C1 Qna (C1 Pa (cT (cw_ret (qw_ret1 rfl rfl ?_)))); rotate_left 1
   exact ⟨rfl, X⟩
theorem find_take {α : Type} {f : α → Bool} {l : List α} {j : Nat} (h : j < l.length) (h0 : (l.take j).find? f = none) : (l.take (j + 1)).find? f = if f l[j] = true then some l[j] else none := by
 rw [List.take_succ_eq_append_getElem h, List.find?_append, h0]
 by_cases hf : f l[j] = true
 · simp [hf]
 · simp [hf]
theorem find_mono {α : Type} {f : α → Bool} {l : List α} {j : Nat} {x : α} (h : (l.take j).find? f = some x) : l.find? f = some x := by
 rw [← List.take_append_drop j l, List.find?_append, h]; rfl
theorem findS_take {α β : Type} {f : α → Option β} {l : List α} {j : Nat} (h : j < l.length) (h0 : (l.take j).findSome? f = none) : (l.take (j + 1)).findSome? f = f l[j] := by
 rw [List.take_succ_eq_append_getElem h, List.findSome?_append, h0]
 simp
theorem findS_mono {α β : Type} {f : α → Option β} {l : List α} {j : Nat} {x : β} (h : (l.take j).findSome? f = some x) : l.findSome? f = some x := by
 rw [← List.take_append_drop j l, List.findSome?_append, h]; rfl
set_option maxRecDepth 100000 in
set_option maxHeartbeats 4000000 in
theorem alias_c (places : List Nd) (names : List (List UInt8)) (hz : rowSize places ≤ 1000000) (hp : ∀ t ∈ places, t.okIdx) (hn : names.length ≤ 1000) (S : Nat → Prop) (a : Option Addr) (c nb : Nat) (no nc : Nat) (w : World) (hs : rowSits S w places a) (hr : Row w ⟨nb, no, none⟩ (names.map str)) :
 Calls Tryz.prog 85 #[.slice a places.length c, .slice (some ⟨nb, no, none⟩) names.length nc] w fun e w' => e = .returned (.tuple #[str (errOf (aliasO places names)).1, .int .i64 (errOf (aliasO places names)).2]) ∧ Ext w w' := by
 have X := Ext.refl w; have hlen := length_rowA places
 have HP := Lib.hid hp; clear hp
 replace hs := rowSits_ltA _ _ hs; refine calls_in Tryz.func85 Tryz.ntmps85 rfl rfl ?_
 focus
  refine cS (C1 Pa (C1 Pa (cT (cw_seq (cS (C1 Mv (C1 Pz (C1 Mv (cT ?_))))))))); rotate_left 1
 refine cw_block ?_; refine cw_loop (ι := Nat) (fun i => [(1, .slice (some ⟨nb, no, none⟩) names.length nc), (10, .slice a places.length c), (11, .int .i64 places.length), (12, .int .i64 i)])
  (fun i w' => i ≤ places.length ∧ rowSits (· < w.heap.size) w' places a ∧ Row w' ⟨nb, no, none⟩ (names.map str) ∧ Ext w w' ∧ (places.take i).findSome? (fun t => names.find? fun s => t.idx s) = none)
  (fun i => places.length - i) 0 (by (refine sub_cons rfl ?_; refine sub_cons rfl ?_; refine sub_cons rfl ?_; refine sub_cons rfl ?_; exact sub_nil)) ⟨Nat.zero_le _, hs, hr, X, rfl⟩ ?_
 clear hs hr X; rintro i w1 ⟨hi, hs, hr, X, hno⟩
 by_cases hlt : i < places.length
 · obtain ⟨kb, ko, rfl, kS, hkid⟩ := kidRows hs (by intro e; subst e; simp at hlt)
   obtain ⟨xa, xc, rx, sx⟩ := hkid i places[i] (List.getElem?_eq_getElem hlt); have hxz := size_memA (List.getElem_mem hlt); have hxp := HP.out _ (List.getElem_mem hlt); have hnext := findS_take hlt hno
   have hmo : ∀ s, names.find? (fun s => places[i].idx s) = some s → errOf (aliasO places names) = (s, 8) := fun s h => by rw [aliasO, findS_mono (hnext.trans h)]; rfl
   clear hkid HP hno
   generalize places[i] = x at *
   focus
    refine cS (C1 V3 (cT (cw_seq (Wyo (cw_skip (qw_then (cw_seq (cw_block (cS (C1 Pi (C1 (Pws rx) ?_))))))))))); (refine lw_alloc' [_, _, _, _] zOk rfl rfl ?_; intro ba1 wa2 na3); (refine lw_init' [_, _, _, _] tabOk rfl rfl rfl rfl rfl rfl na3 rfl ?_; clear na3; clear wa2; intro wa4 na3); have ha5 := na3.blk; have xa6 := na3.ext; have pa7 := na3.pos; have za8 := na3.size; clear na3; replace hr := hr.ext xa6; replace X := X.ext xa6; replace hs := Bk.rowSits.ext hs xa6; replace rx := rx.ext xa6; replace sx := Nd.sits.ext sx xa6; clear xa6; refine cN (C1 Mv (C1 Pz (C1 Mv (cT ?_)))); rotate_left 1
   refine cw_block ?_; refine cw_loop (ι := Nat) (fun j => [(1, .slice (some ⟨nb, no, none⟩) names.length nc), (10, .slice (some ⟨kb, ko, none⟩) places.length c), (11, .int .i64 places.length), (12, .int .i64 i), (7, .pointer (some ⟨ba1, 0, none⟩)), (16, .slice (some ⟨nb, no, none⟩) names.length nc), (17, .int .i64 names.length), (18, .int .i64 j)])
    (fun j w' => j ≤ names.length ∧ Blk w' ba1 (x.cells xa xc) ∧ x.sits (· < w.heap.size) w' xa ∧ rowSits (· < w.heap.size) w' places (some ⟨kb, ko, none⟩) ∧ Row w' ⟨nb, no, none⟩ (names.map str) ∧ Ext w w' ∧ (names.take j).find? (fun s => x.idx s) = none)
    (fun j => names.length - j) 0 (by (refine sub_cons rfl ?_; refine sub_cons rfl ?_; refine sub_cons rfl ?_; refine sub_cons rfl ?_; refine sub_cons rfl ?_; refine sub_cons rfl ?_; refine sub_cons rfl ?_; refine sub_cons rfl ?_; exact sub_nil)) ⟨Nat.zero_le _, ha5, sx, hs, hr, X, rfl⟩ ?_
   clear ha5 sx hs hr X rx; rintro j w2 ⟨hj, hb, sx, hs, hr, X, hno⟩
   by_cases hltj : j < names.length
   · have r1 : Row w2 ⟨nb, no + j * 1, none⟩ [str names[j]] := by
      have := hr.sub j 1; rw [List.drop_eq_getElem_cons (by simpa using hltj)] at this
      simpa using this
     have hnj := find_take hltj hno
     have hmj : x.idx names[j] = true → errOf (aliasO places names) = (names[j], 8) := fun h => hmo _ (find_mono (hnj.trans (if_pos h)))
     have HI := Lib.hid (indexed_c x (by omega) hxp names[j]); clear hno hmo hnext
     generalize names[j] = y at *
     generalize x.idx y = q at *
     focus
      refine cS (C1 V3 (cT (cw_seq (Wyo (cw_skip (qw_then (cw_seq (cw_block (cS (C1 Pi (C1 (Pw0 r1) ?_))))))))))); refine C1 Pa (cN (lw_loads_b' [_, _, _, _] tabOk rfl rfl rfl hb rfl rfl rfl (C1 Mv ?_))); refine cC rfl (HI.out _ _ _ _ (by assumption)) ?_; rintro _ wb2 ⟨⟨⟩, xb1⟩; have zb3 := xb1.size; replace hb := hb.ext xb1; replace sx := Nd.sits.ext sx xb1; replace hs := Bk.rowSits.ext hs xb1; replace hr := hr.ext xb1; replace X := X.ext xb1; replace r1 := r1.ext xb1; clear xb1; refine cT ?_; refine cw_cond rfl (fun cb4 => ?_) (fun cb4 => ?_); refine cS (C1 Mv (C1 Pa (C1 Pa (cT (cw_ret (qw_block_ret (qw_then_ret (qw_then_ret (qw_block_ret (qw_block_ret (qw_then_ret ?_))))))))))); refine qw_then_ret (qw_block_ret (qw_then_ret (qw_ret2 rfl rfl rfl ?_))); rotate_left 1; refine cw_skip (qw_block_norm (qw_then (cw_region (C1 V7 (C1 Mv (lw_nil ?_)))))); rotate_left 1
     · exact ⟨by rw [hmj (by assumption)], X⟩
     · exact qw_round (j + 1) (by (refine sub_cons rfl ?_; refine sub_cons rfl ?_; refine sub_cons rfl ?_; refine sub_cons rfl ?_; refine sub_cons rfl ?_; refine sub_cons rfl ?_; refine sub_cons rfl ?_; refine sub_cons rfl ?_; exact sub_nil)) ⟨by omega, hb, sx, hs, hr, X, hnj.trans (if_neg (by simp [*]))⟩ (by omega)
   · obtain rfl : j = names.length := by omega
     rw [List.take_length] at hno
     focus
      refine cS (C1 V3 (cT (cw_seq (Wno (cw_exit (qw_then_exit (qw_then_exit (qw_block_exit (qw_block_norm (qw_then (cw_region ?_))))))))))); refine C1 V7 (C1 Mv (lw_nil ?_)); rotate_left 1
     exact qw_round (i + 1) (by (refine sub_cons rfl ?_; refine sub_cons rfl ?_; refine sub_cons rfl ?_; refine sub_cons rfl ?_; exact sub_nil)) ⟨by omega, hs, hr, X, hnext.trans hno⟩ (by omega)
 · obtain rfl : i = places.length := by omega
   rw [List.take_length] at hno
   have he : errOf (aliasO places names) = ([], 0) := by rw [aliasO, hno]; rfl
   rw [he]
   focus
    refine cS (C1 V3 (cT (cw_seq (Wno (cw_exit (qw_then_exit (qw_then_exit (qw_block_exit (qw_then (cS (C1 Pa ?_))))))))))); refine C1 Pa (cT (cw_ret (qw_ret2 rfl rfl rfl ?_))); rotate_left 1
   exact ⟨rfl, X⟩
set_option maxRecDepth 100000 in
set_option maxHeartbeats 4000000 in
theorem reject1_c (t x : Nd) (a xa : Option Addr) (c xc b8 : Nat) (w : World) (hb : Blk w b8 (x.cells xa xc)) : Calls Tryz.prog 87 #[t.val a c, .pointer (some ⟨b8, 0, none⟩)] w fun e w' => e = .returned (.bool (decide (t.name = x.name))) ∧ Ext w w' := by
 have X := Ext.refl w; refine calls_in Tryz.func87 Tryz.ntmps87 rfl rfl ?_
 focus
  refine cS ?_; (refine lw_box' [_, _, _, _] rfl rfl rfl ?_; intro b1 w2 n3); have h4 := n3.blk; have x5 := n3.ext; have p6 := n3.pos; have z7 := n3.size; clear n3; replace hb := hb.ext x5; replace X := X.ext x5; clear x5; refine C1 Pa (cN (C1 Pf (C1 (Pl h4) (C1 Pf (C1 (Pl hb) (C1 V8 (C1 Pa (cT (cw_ret (qw_ret1 rfl rfl ?_)))))))))); rotate_left 1
 exact ⟨rfl, X⟩
def idxN (s : List UInt8) (l : List Nd) : Int := match l.findIdx? (fun t => decide (t.name = s)) with
 | some i => (i : Int)
 | none => -1
theorem findIdx_take {α : Type} {f : α → Bool} {l : List α} {j : Nat} (h : j < l.length) (h0 : (l.take j).findIdx? f = none) : (l.take (j + 1)).findIdx? f = if f l[j] = true then some j else none := by
 rw [List.take_succ_eq_append_getElem h, List.findIdx?_append, h0]
 by_cases hf : f l[j] = true
 · simp [hf, List.findIdx?_cons]; omega
 · simp [hf, List.findIdx?_cons]
theorem findIdx_mono {α : Type} {f : α → Bool} {l : List α} {j i : Nat} (h : (l.take j).findIdx? f = some i) : l.findIdx? f = some i := by
 rw [← List.take_append_drop j l, List.findIdx?_append, h]; rfl
set_option maxRecDepth 100000 in
set_option maxHeartbeats 4000000 in
theorem IndexN_c (l : List Nd) (hl : l.length ≤ 1000000) (x : Nd) (S : Nat → Prop) (a xa : Option Addr) (c xc b8 : Nat) (w : World) (hs : rowSits S w l a) (hb : Blk w b8 (x.cells xa xc)) :
 Calls Tryz.prog 102 #[.slice a l.length c, .func (.func 87) #[] #[.pointer (some ⟨b8, 0, none⟩)]] w fun e w' => e = .returned (.int .i64 (idxN x.name l)) ∧ Ext w w' := by
 have X := Ext.refl w; replace hs := rowSits_ltA _ _ hs; refine calls_in Tryz.func102 Tryz.ntmps102 rfl rfl ?_
 focus
  refine cS (C1 Pa (cT (cw_seq (cS (C1 Mv (C1 Pz (C1 Mv (cT ?_)))))))); rotate_left 1
 refine cw_block ?_; refine cw_loop (ι := Nat) (fun j => [(0, .slice a l.length c), (1, .func (.func 87) #[] #[.pointer (some ⟨b8, 0, none⟩)]), (6, .slice a l.length c), (7, .int .i64 l.length), (8, .int .i64 j)])
  (fun j w' => j ≤ l.length ∧ rowSits (· < w.heap.size) w' l a ∧ Blk w' b8 (x.cells xa xc) ∧ Ext w w' ∧ (l.take j).findIdx? (fun t => decide (t.name = x.name)) = none)
  (fun j => l.length - j) 0 (by (refine sub_cons rfl ?_; refine sub_cons rfl ?_; refine sub_cons rfl ?_; refine sub_cons rfl ?_; refine sub_cons rfl ?_; exact sub_nil)) ⟨Nat.zero_le _, hs, hb, X, rfl⟩ ?_
 clear hs hb X; rintro j w1 ⟨hj, hs, hb, X, hno⟩
 by_cases hlt : j < l.length
 · obtain ⟨kb, ko, rfl, kS, hkid⟩ := kidRows hs (by intro e; subst e; simp at hlt)
   obtain ⟨ya, yc, ry, sy⟩ := hkid j l[j] (List.getElem?_eq_getElem hlt); have hn := findIdx_take hlt hno
   have hmo : l[j].name = x.name → idxN x.name l = j := fun h => by
    rw [if_pos (by simpa using h)] at hn; rw [idxN, findIdx_mono hn]
   clear hkid hno
   generalize l[j] = y at *
   focus
    refine cS (C1 V3 (cT (cw_seq (Wyo (cw_skip (qw_then (cw_seq (cw_block (cS (C1 Mv (C1 Pa ?_))))))))))); refine cN (C1 Mv (C1 Mv (C1 Mv (C1 Pi (C1 (Pws ry) ?_))))); refine lw_does (does_callv (fi := []) (ca := [.pointer (some ⟨b8, 0, none⟩)]) (by kernel_rfl) rfl rfl (reject1_c _ x _ xa _ xc _ _ (by assumption)) (fun _ _ h => ⟨_, h.1⟩)) rfl ?_ (fun _ h => h); rintro _ wa2 ⟨⟨⟩, xa1⟩; have za3 := xa1.size; replace hb := hb.ext xa1; replace X := X.ext xa1; replace hs := Bk.rowSits.ext hs xa1; replace ry := ry.ext xa1; replace sy := Nd.sits.ext sy xa1; clear xa1; refine cT ?_; refine cw_dec rfl (fun ca4 => ?_) (fun ca4 => ?_); refine cS (C1 Mv (C1 Pa (cT (cw_ret (qw_block_ret (qw_then_ret (qw_then_ret (qw_block_ret (qw_then_ret (qw_ret1 rfl rfl ?_)))))))))); rotate_left 1; refine cw_skip (qw_block_norm (qw_then (cw_region (C1 V7 (C1 Mv (lw_nil ?_)))))); rotate_left 1
   · exact ⟨by rw [hmo (by assumption)], X⟩
   · exact qw_round (j + 1) (by (refine sub_cons rfl ?_; refine sub_cons rfl ?_; refine sub_cons rfl ?_; refine sub_cons rfl ?_; refine sub_cons rfl ?_; exact sub_nil)) ⟨by omega, hs, hb, X, hn.trans (if_neg (by simpa using (by assumption)))⟩ (by omega)
 · obtain rfl : j = l.length := by omega
   rw [List.take_length] at hno
   have he : idxN x.name l = -1 := by rw [idxN, hno]
   rw [he]
   focus
    refine cS (C1 V3 (cT (cw_seq (Wno (cw_exit (qw_then_exit (qw_then_exit (qw_block_exit (qw_then (cS (C1 Pa ?_))))))))))); refine cT (cw_ret (qw_ret1 rfl rfl ?_)); rotate_left 1
   exact ⟨rfl, X⟩
theorem idxN_pos (s : List UInt8) (l : List Nd) : decide (0 ≤ idxN s l) = l.any (fun t => decide (t.name = s)) := by
 unfold idxN
 cases h : l.findIdx? (fun t => decide (t.name = s)) with
 | none =>
  rw [List.findIdx?_eq_none_iff] at h
  have : l.any (fun t => decide (t.name = s)) = false := by rw [List.any_eq_false]; intro x hx; simpa using h x hx
  rw [this]; rfl
 | some i =>
  have h2 := List.findIdx?_eq_some_iff_getElem.1 h; obtain ⟨hi, h3, -⟩ := h2; have : l.any (fun t => decide (t.name = s)) = true := List.any_eq_true.2 ⟨l[i], List.getElem_mem hi, h3⟩; rw [this]
  simp
set_option maxRecDepth 100000 in
set_option maxHeartbeats 4000000 in
theorem ContainsN_c (l : List Nd) (hl : l.length ≤ 1000000) (x : Nd) (S : Nat → Prop) (a xa : Option Addr) (c xc b8 : Nat) (w : World) (hs : rowSits S w l a) (hb : Blk w b8 (x.cells xa xc)) :
 Calls Tryz.prog 86 #[.slice a l.length c, .func (.func 87) #[] #[.pointer (some ⟨b8, 0, none⟩)]] w fun e w' => e = .returned (.bool (l.any fun t => decide (t.name = x.name))) ∧ Ext w w' := by
 have X := Ext.refl w; rw [← idxN_pos]; refine calls_in Tryz.func86 Tryz.ntmps86 rfl rfl ?_
 focus
  refine cS (C1 Pa (cN (C1 Mv (C1 Mv ?_)))); refine cC rfl (IndexN_c l hl x _ _ xa _ xc _ _ (by assumption) (by assumption)) ?_; rintro _ w2 ⟨⟨⟩, x1⟩; have z3 := x1.size; replace hs := Bk.rowSits.ext hs x1; replace hb := hb.ext x1; replace X := X.ext x1; clear x1; refine C1 V6 (C1 Pa (cT (cw_ret (qw_ret1 rfl rfl ?_)))); rotate_left 1
 exact ⟨rfl, X⟩
end Bk
namespace Bk
open Go Go.RowKit Go.Proofs
attribute [local irreducible] Go.Calls
def dupO : List Nd → List Nd → Option (List UInt8)
 | _, [] => none
 | acc, t :: r => if acc.any (fun u => decide (u.name = t.name)) = true then some t.name else dupO (acc ++ [t]) r
def rejV : Nd → List UInt8 × Int
 | .mk k _ s l =>
  if k = 56 then ((l.getD 0 zeroNd).name, 9)
  else if 40 ≤ k ∧ k ≤ 42 then (if ((l.getD 0 zeroNd).idx (l.getD 0 zeroNd).name || (l.getD 1 zeroNd).ment (l.getD 0 zeroNd).name) = true then ((l.getD 0 zeroNd).name, 8) else ([], 0))
  else if k = 43 then errOf (aliasO l [(l.getD 0 zeroNd).name, (l.getD 1 zeroNd).name])
  else if 44 ≤ k ∧ k ≤ 45 then errOf (aliasO l [(l.getD 0 zeroNd).name, s])
  else if 46 ≤ k ∧ k ≤ 49 then errOf (aliasO l [(l.getD 0 zeroNd).name])
  else if 50 ≤ k ∧ k ≤ 51 then errOf (dupO [] l)
  else if k = 52 then (if ((l.getD 3 zeroNd).const.2 && !(l.getD 0 zeroNd).const.2) = true then ([], 10) else ([], 0))
  else if k = 53 then (if (l.getD 0 zeroNd).const.2 = true then ([], 10) else ([], 0))
  else ([], 0)
theorem rejV_eq (k n : Int) (s : List UInt8) (l : List Nd) : rejV (.mk k n s l) = if k = 56 then ((l.getD 0 zeroNd).name, 9)
 else if 40 ≤ k ∧ k ≤ 42 then (if ((l.getD 0 zeroNd).idx (l.getD 0 zeroNd).name || (l.getD 1 zeroNd).ment (l.getD 0 zeroNd).name) = true then ((l.getD 0 zeroNd).name, 8) else ([], 0))
 else if k = 43 then errOf (aliasO l [(l.getD 0 zeroNd).name, (l.getD 1 zeroNd).name])
 else if 44 ≤ k ∧ k ≤ 45 then errOf (aliasO l [(l.getD 0 zeroNd).name, s])
 else if 46 ≤ k ∧ k ≤ 49 then errOf (aliasO l [(l.getD 0 zeroNd).name])
 else if 50 ≤ k ∧ k ≤ 51 then errOf (dupO [] l)
 else if k = 52 then (if ((l.getD 3 zeroNd).const.2 && !(l.getD 0 zeroNd).const.2) = true then ([], 10) else ([], 0))
 else if k = 53 then (if (l.getD 0 zeroNd).const.2 = true then ([], 10) else ([], 0))
 else ([], 0) := rfl
theorem rowSits_take {S : Nat → Prop} {w : World} : ∀ (l : List Nd) (i : Nat) (a : Option Addr), rowSits S w l a → rowSits S w (l.take i) a
 | _, 0, _, _ => by simp [rowSits]
 | [], _ + 1, _, _ => by simp [rowSits]
 | t :: r, i + 1, a, h => by
  simp only [List.take_succ_cons, rowSits] at h ⊢; obtain ⟨b, o, a', c, rfl, h1, h2, h3, h4, h5, h6, h7⟩ := h
  exact ⟨b, o, a', c, rfl, h1, h2, h3, h4, h5, h6, rowSits_take r i _ h7⟩
def Nd.good (t : Nd) : Prop := t.isStmt = true ∨ t.isBlock = true ∨ t.isExpr = true
theorem good_stmt {t : Nd} (h : t.good) (h1 : 40 ≤ t.kind) (h2 : t.kind ≤ 56) : t.isStmt = true := by
 rcases h with h | h | h
 · exact h
 · obtain ⟨e, -⟩ := block_kind h
   rw [e] at h2; simp only [Nd.kind] at h2
   omega
 · have := expr_kind h; omega
theorem place_okIdx {t : Nd} (h : t.isPlace = true) : t.okIdx := by
 intro h3 e; have hx := place_isExpr h; obtain ⟨k, n, s, l⟩ := t; simp only [Nd.kind, Nd.kids] at h3 e; subst h3 e; rw [Nd.isExpr.eq_def] at hx
 simp at hx
theorem upd_kids {k n : Int} {s : List UInt8} {l : List Nd} (h : (Nd.mk k n s l).isStmt = true) (hk : k = 56 ∨ (40 ≤ k ∧ k ≤ 42)) : ∃ x y, l = [x, y] ∧ x.isPlace = true ∧ y.isExpr = true := by
 cases stmt_shape h <;> first | omega | exact ⟨_, _, rfl, by assumption, by assumption⟩
theorem swap_kids {n : Int} {s : List UInt8} {l : List Nd} (h : (Nd.mk 43 n s l).isStmt = true) : ∃ x y, l = [x, y] ∧ x.isPlace = true ∧ y.isPlace = true := by
 cases stmt_shape h <;> first | omega | exact ⟨_, _, rfl, by assumption, by assumption⟩
theorem one_kid {k n : Int} {s : List UInt8} {l : List Nd} (h : (Nd.mk k n s l).isStmt = true) (hk : 44 ≤ k ∧ k ≤ 49) : ∃ x, l = [x] ∧ x.isPlace = true := by
 cases stmt_shape h <;> first | omega | exact ⟨_, rfl, by assumption⟩
theorem branch_kids {k n : Int} {s : List UInt8} {l : List Nd} (h : (Nd.mk k n s l).isStmt = true) (hk : k = 52 ∨ k = 53) : ∃ x y z u, l = [x, y, z, u] ∧ x.isExpr = true ∧ u.isExpr = true := by
 cases stmt_shape h <;> first | omega | exact ⟨_, _, _, _, rfl, by assumption, by assumption⟩
set_option maxRecDepth 100000 in
set_option maxHeartbeats 8000000 in
theorem reject_c (t : Nd) (hz : t.size ≤ 1000000) (hf : t.wf) (hg : t.good) (S : Nat → Prop) (a : Option Addr) (c : Nat) (w : World) (hs : t.sits S w a) (hcap : t.kids.length ≤ c) : Calls Tryz.prog 43 #[t.val a c] w fun e w' => e = .returned (.tuple #[str (rejV t).1, .int .i64 (rejV t).2]) ∧ Ext w w' := by
 have hst := good_stmt hg; clear hg; obtain ⟨k, n, s, l⟩ := t; replace hs := rowSits_ltA _ _ (kids_sits hs); have hlen := length_rowA l; have HZ := Lib.hid (fun x (hx : x ∈ l) => size_memA hx)
 have hl1 : rowSize l ≤ 1000000 := by simp only [Nd.size] at hz; omega
 have HF := Lib.hid (fun x (hx : x ∈ l) => rowWf_get (by simp only [Nd.wf] at hf; exact hf.2.2.2.2.2.2) x hx); have HT := Lib.hid (fun h1 h2 => hst h1 h2); simp only [Nd.kind] at HT; clear hst hf hz; simp only [Nd.kids] at hcap; have X := Ext.refl w
 show Calls Tryz.prog 43 #[.agg #[.int .u8 k, .int .i64 n, str s, .slice a l.length c]] w _
 refine calls_in Tryz.func43 Tryz.ntmps43 rfl rfl ?_
 focus
  refine cS ?_; (refine lw_box' [_, _, _, _] rfl rfl rfl ?_; intro b1 w2 n3); have h4 := n3.blk; have x5 := n3.ext; have p6 := n3.pos; have z7 := n3.size; clear n3; replace hs := Bk.rowSits.ext hs x5; replace X := X.ext x5; clear x5; refine C1 Pa (C1 Pa (cT (cw_seq (cS (C1 Pg (C1 (Pl h4) (cT (cw_block (cS (C1 V1 (C1 Pa ?_))))))))))); refine cT ?_; refine cw_dec rfl (fun c8 => ?_) (fun c8 => ?_); rotate_left 1; refine cw_seq ?_; rotate_left 1
 · obtain ⟨x, y, rfl, hx, hy⟩ := upd_kids (HT.out (by omega) (by omega)) (Or.inl (by omega))
   obtain ⟨kb, ko, rfl, kS, hkid⟩ := kidRows hs (by simp); obtain ⟨xa, xc, rx, sx⟩ := hkid 0 x rfl
   have he : rejV (.mk k n s [x, y]) = (x.name, 9) := by rw [rejV_eq, if_pos (by omega)]; rfl
   rw [he]; clear hs hkid he; replace h4 : Blk w2 b1 [.int .u8 k, .int .i64 n, str s, .slice (some ⟨kb, ko, none⟩) 2 c] := h4
   focus
    refine cS (C1 Pf (C1 (Pl h4) (C1 Pi (C1 Pf (C1 (Pw rx) (C1 Pa (C1 Pa (cT (cw_ret (qw_block_ret (qw_then_ret ?_))))))))))); refine qw_ret2 rfl rfl rfl ?_; rotate_left 1
   exact ⟨rfl, X⟩
 refine cw_meet2 (ι := Unit) (fun _ => [(1, .pointer (some ⟨b1, 0, none⟩)), (10, .int .u8 k), (18, .bool (decide (40 ≤ k ∧ k ≤ 42)))]) (fun _ w' => w' = w2) ?_ ?_
 · focus
    refine cS (C1 V1 (C1 Pa (cT ?_))); refine cw_dec rfl (fun cb1 => ?_) (fun cb1 => ?_); refine cw_skip ?_; rotate_left 1; refine cS (C1 V1 (C1 Pa (cT ?_))); refine cw_dec rfl (fun cb2 => ?_) (fun cb2 => ?_); refine cw_skip ?_; rotate_left 1; refine cw_region (C1 V1 (C1 Pa (lw_nil ?_))); rotate_left 1
   all_goals exact qw_meet () (sub_cons rfl (sub_cons rfl (sub_cons' rfl (congrArg Value.bool (decide_eq_decide.2 (by omega))) sub_nil))) rfl
 rintro - u1 h; subst h
 focus
  refine cw_dec rfl (fun cc1 => ?_) (fun cc1 => ?_); rotate_left 1; rotate_left 1
 · obtain ⟨x, y, rfl, hx, hy⟩ := upd_kids (HT.out (by omega) (by omega)) (Or.inr (by omega))
   obtain ⟨kb, ko, rfl, kS, hkid⟩ := kidRows hs (by simp); obtain ⟨xa, xc, rx, sx⟩ := hkid 0 x rfl; obtain ⟨ya, yc, ry, sy⟩ := hkid 1 y rfl
   have he : rejV (.mk k n s [x, y]) = if (x.idx x.name || y.ment x.name) = true then (x.name, 8) else ([], 0) := by rw [rejV_eq, if_neg (by omega), if_pos (by omega)]; rfl
   have HI := Lib.hid (indexed_c x (by have := HZ.out x (by simp); omega) (place_okIdx hx) x.name); have HM := Lib.hid (mentions_c y (by have := HZ.out y (by simp); omega) x.name); rw [he]; clear hs hkid he
   generalize x.idx x.name = q at *
   generalize y.ment x.name = p at *
   replace h4 : Blk u1 b1 [.int .u8 k, .int .i64 n, str s, .slice (some ⟨kb, ko, none⟩) 2 c] := h4
   focus
    refine cS (C1 Pf (C1 (Pl h4) (C1 Pi (C1 Pf (C1 (Pw rx) (C1 Pa (cN (C1 Pf (C1 (Pl h4) (C1 Pi (lw_loads_r' [_, _, _, _] tabOk rfl rfl rfl rx rfl rfl rfl ?_))))))))))); refine C1 Mv ?_; refine cC rfl (HI.out _ _ _ _ (by assumption)) ?_; rintro _ wd2 ⟨⟨⟩, xd1⟩; have zd3 := xd1.size; replace X := X.ext xd1; replace rx := rx.ext xd1; replace sx := Nd.sits.ext sx xd1; replace ry := ry.ext xd1; replace sy := Nd.sits.ext sy xd1; replace h4 := h4.ext xd1; clear xd1; refine C1 Mv ?_; refine lw_bool rfl rfl rfl (fun cd4 => ?_) (fun cd4 => ?_); refine lw_off rfl rfl rfl (gb_ft (by assumption)) rfl ?_; refine lw_off rfl rfl rfl (gb_ft (by assumption)) rfl ?_; refine lw_off rfl rfl rfl (gb_ft (by assumption)) rfl ?_; refine lw_off rfl rfl rfl (gb_ft (by assumption)) rfl ?_; refine lw_off rfl rfl rfl (gb_ft (by assumption)) rfl ?_; refine lw_off rfl rfl rfl (gb_ft (by assumption)) rfl ?_; refine C1 (pur_pick_t rfl rfl (by assumption)) ?_; refine cT (cw_cond_t rfl (cS (C1 Mv (C1 Pa (C1 Pa (cT (cw_ret (qw_block_ret (qw_then_ret (qw_ret2 rfl rfl rfl ?_)))))))))); rotate_left 1; refine lw_on rfl rfl rfl (gb_ff (by assumption)) ?_; refine C1 Pf ?_; refine lw_on rfl rfl rfl (gb_ff (by assumption)) ?_; refine C1 (Pl h4) ?_; refine lw_on rfl rfl rfl (gb_ff (by assumption)) ?_; refine C1 Pi ?_; refine lw_on rfl rfl rfl (gb_ff (by assumption)) ?_; refine C1 (Pws ry) ?_; refine lw_on rfl rfl rfl (gb_ff (by assumption)) ?_; refine C1 Mv ?_; refine lw_on rfl rfl rfl (gb_ff (by assumption)) ?_; refine cC rfl (HM.out _ _ _ _ (by assumption)) ?_
    rintro _ wd6 ⟨⟨⟩, xd5⟩; have zd7 := xd5.size; replace X := X.ext xd5; replace rx := rx.ext xd5; replace sx := Nd.sits.ext sx xd5; replace ry := ry.ext xd5; replace sy := Nd.sits.ext sy xd5; replace h4 := h4.ext xd5; clear xd5; refine C1 (pur_pick_f rfl rfl (by assumption)) ?_; refine cT ?_; refine cw_cond rfl (fun cd8 => ?_) (fun cd8 => ?_); refine cS (C1 Mv (C1 Pa (C1 Pa (cT (cw_ret (qw_block_ret (qw_then_ret (qw_ret2 rfl rfl rfl ?_)))))))); rotate_left 1; refine cw_skip (qw_block_norm (qw_then (cS (C1 Pa (C1 Pa (cT (cw_ret (qw_ret2 rfl rfl rfl ?_)))))))); rotate_left 1
   all_goals exact ⟨by simp [*], X⟩
 focus
  refine cS (C1 V1 (C1 Pa (cT ?_))); refine cw_dec rfl (fun ce1 => ?_) (fun ce1 => ?_); rotate_left 1; refine cw_seq ?_; rotate_left 1
 · have hk : k = 43 := by assumption
   subst hk; obtain ⟨x, y, rfl, hx, hy⟩ := swap_kids (HT.out (by omega) (by omega)); obtain ⟨kb, ko, rfl, kS, hkid⟩ := kidRows hs (by simp); obtain ⟨xa, xc, rx, sx⟩ := hkid 0 x rfl; obtain ⟨ya, yc, ry, sy⟩ := hkid 1 y rfl
   have he : rejV (.mk 43 n s [x, y]) = errOf (aliasO [x, y] [x.name, y.name]) := by rw [rejV_eq, if_neg (by omega), if_neg (by omega), if_pos (by omega)]; rfl
   have HA := Lib.hid (alias_c [x, y] [x.name, y.name] (by omega) (fun t ht => by simp at ht; rcases ht with rfl | rfl <;> exact place_okIdx (by assumption)) (by simp)); rw [he]; clear hkid he; replace h4 : Blk u1 b1 [.int .u8 43, .int .i64 n, str s, .slice (some ⟨kb, ko, none⟩) 2 c] := h4
   focus
    refine cw_seq ?_; (refine cw_tdraw (fun wz => Ext u1 wz) 11 (.pure 0 (.pure 1 (.pure 2 (.pure 3 (.pure 4 (.pure 5 (.pure 6 (.pure 7 (.fork 8 (.fork 9 (.fork 10 .tail .none) .none) (.fork 9 (.fork 8 (.fork 10 .tail .none) .none) .none)))))))))) mixed (by kernel_rfl) (panicOk_then (panicOk_block (panicOk_then panicOk_body))) ?_; intro wf1 xf2 _); have qsf3 : (fun wz => Ext u1 wz) wf1 := xf2; simp only at qsf3; have d_hs := hs; have d_rx := rx; have d_sx := sx; have d_ry := ry; have d_sy := sy; have d_h4 := h4; have zf4 := xf2.size; replace X := X.ext xf2; replace hs := Bk.rowSits.ext hs xf2; replace rx := rx.ext xf2; replace sx := Nd.sits.ext sx xf2; replace ry := ry.ext xf2; replace sy := Nd.sits.ext sy xf2; replace h4 := h4.ext xf2; clear xf2; refine ⟨qsf3, ?_⟩; refine Tq rfl Pf (Tq rfl (Db d_h4) (Tq rfl Pi (Tq rfl (pur_loads_row' [_, _, _, _] tabOk rfl rfl rfl (fun wz hz => (Row.ext d_rx hz)) rfl rfl) (Tq rfl Pf (Tq rfl (Db d_h4) (Tq rfl Pi (Tq rfl (pur_loads' tabOk rfl rfl rfl (fun wz hz => (Row.ext d_ry hz)) rfl) ?_))))))); (refine tw_does rfl (does_alloc zOk rfl) rfl ?_ (fun _ h => h) ?krf5; rintro _ wf7 ⟨bf6, rfl, nf8⟩); have hf9 := nf8.blk; dsimp only at hf9; have xf10 := nf8.ext; have pf11 := nf8.pos; have zf12 := nf8.size; clear nf8; replace qsf3 := qsf3.ext xf10; replace X := X.ext xf10; replace hs := Bk.rowSits.ext hs xf10; replace rx := rx.ext xf10; replace sx := Nd.sits.ext sx xf10; replace ry := ry.ext xf10; replace sy := Nd.sits.ext sy xf10; replace h4 := h4.ext xf10
    clear xf10; refine ⟨qsf3, ?_⟩; (refine tw_does rfl (does_alloc zOk rfl) rfl ?_ (fun _ h => h) tw_none; rintro _ wf15 ⟨bf14, rfl, nf16⟩); have hf17 := nf16.blk; dsimp only at hf17; have xf18 := nf16.ext; have pf19 := nf16.pos; have zf20 := nf16.size; clear nf16; replace hf9 := hf9.ext xf18; replace qsf3 := qsf3.ext xf18; replace X := X.ext xf18; replace hs := Bk.rowSits.ext hs xf18; replace rx := rx.ext xf18; replace sx := Nd.sits.ext sx xf18; replace ry := ry.ext xf18; replace sy := Nd.sits.ext sy xf18; replace h4 := h4.ext xf18; clear xf18; refine ⟨qsf3, ?_⟩; (refine tw_store [_, _, _, _] [_, _, _, _] rfl tabOk rfl rfl rfl rfl rfl rfl hf9 rfl rfl ?_ tw_none; intro wf22 nf23); have hf26 := nf23.blk; have ff24 := nf23.fr; have zf25 := nf23.size; clear nf23 hf9; replace hf17 := hf17.fr ff24 (by omega); replace qsf3 := qsf3.fr ff24 (by omega); replace X := X.fr ff24 (by omega); replace hs := Bk.rowSits.fr hs ff24 (by omega); replace rx := Row.fr rx ff24 (by simp only; omega); replace sx := Nd.sits.fr sx ff24 (by omega); replace ry := Row.fr ry ff24 (by simp only; omega); replace sy := Nd.sits.fr sy ff24 (by omega); replace h4 := h4.fr ff24 (by omega); clear ff24; refine ⟨qsf3, ?_⟩; clear d_hs d_rx d_sx d_ry d_sy d_h4 qsf3; refine tw_tail rfl ?_; (refine lw_store' [_, _, _, _] [_, _, _, _] tabOk rfl rfl rfl rfl rfl rfl hf17 rfl rfl ?_; intro wf27 nf28); have hf31 := nf28.blk; have ff29 := nf28.fr; have zf30 := nf28.size; clear nf28 hf17; replace hf26 := hf26.fr ff29 (by omega)
    replace X := X.fr ff29 (by omega); replace hs := Bk.rowSits.fr hs ff29 (by omega); replace rx := Row.fr rx ff29 (by simp only; omega); replace sx := Nd.sits.fr sx ff29 (by omega); replace ry := Row.fr ry ff29 (by simp only; omega); replace sy := Nd.sits.fr sy ff29 (by omega); replace h4 := h4.fr ff29 (by omega); clear ff29; refine cN (C1 Pf (C1 (Pl h4) (C1 Pf (C1 (Pl hf26) (C1 Pf (C1 (Pl hf31) ?_)))))); (refine lw_does (does_slice' [_, _] tabOk zOk rfl rfl rfl rfl rfl rfl rfl rfl rfl) rfl ?_ (fun _ h => h); rintro _ wf33 ⟨bf32, rfl, nf34, tf35⟩); clear tf35; have hf36 := nf34.blk; have xf37 := nf34.ext; have pf38 := nf34.pos; have zf39 := nf34.size; clear nf34; replace hf31 := hf31.ext xf37; replace hf26 := hf26.ext xf37; replace X := X.ext xf37; replace hs := Bk.rowSits.ext hs xf37; replace rx := rx.ext xf37; replace sx := Nd.sits.ext sx xf37; replace ry := ry.ext xf37; replace sy := Nd.sits.ext sy xf37; replace h4 := h4.ext xf37; clear xf37; refine cC rfl (HA.out _ _ _ _ _ _ _ (by assumption) (Blk.row (by assumption))) ?_; rintro _ wf41 ⟨⟨⟩, xf40⟩; have zf42 := xf40.size; replace hf36 := hf36.ext xf40; replace hf31 := hf31.ext xf40; replace hf26 := hf26.ext xf40; replace X := X.ext xf40; replace hs := Bk.rowSits.ext hs xf40; replace rx := rx.ext xf40; replace sx := Nd.sits.ext sx xf40; replace ry := ry.ext xf40; replace sy := Nd.sits.ext sy xf40; replace h4 := h4.ext xf40; clear xf40; refine C1 Px (C1 Px (C1 Pa (C1 Pa (cT (cw_ret (qw_block_ret (qw_then_ret (qw_ret2 rfl rfl rfl ?_))))))))
    rotate_left 1; (refine tw_does rfl (does_alloc zOk rfl) rfl ?_ (fun _ h => h) tw_none; rintro _ wf45 ⟨bf44, rfl, nf46⟩); have hf47 := nf46.blk; dsimp only at hf47; have xf48 := nf46.ext; have pf49 := nf46.pos; have zf50 := nf46.size; clear nf46; replace qsf3 := qsf3.ext xf48; replace X := X.ext xf48; replace hs := Bk.rowSits.ext hs xf48; replace rx := rx.ext xf48; replace sx := Nd.sits.ext sx xf48; replace ry := ry.ext xf48; replace sy := Nd.sits.ext sy xf48; replace h4 := h4.ext xf48; clear xf48; refine ⟨qsf3, ?_⟩; (refine tw_does rfl (does_alloc zOk rfl) rfl ?_ (fun _ h => h) tw_none; rintro _ wf53 ⟨bf52, rfl, nf54⟩); have hf55 := nf54.blk; dsimp only at hf55; have xf56 := nf54.ext; have pf57 := nf54.pos; have zf58 := nf54.size; clear nf54; replace hf47 := hf47.ext xf56; replace qsf3 := qsf3.ext xf56; replace X := X.ext xf56; replace hs := Bk.rowSits.ext hs xf56; replace rx := rx.ext xf56; replace sx := Nd.sits.ext sx xf56; replace ry := ry.ext xf56; replace sy := Nd.sits.ext sy xf56; replace h4 := h4.ext xf56; clear xf56; refine ⟨qsf3, ?_⟩; (refine tw_store [_, _, _, _] [_, _, _, _] rfl tabOk rfl rfl rfl rfl rfl rfl hf55 rfl rfl ?_ tw_none; intro wf60 nf61); have hf64 := nf61.blk; have ff62 := nf61.fr; have zf63 := nf61.size; clear nf61 hf55; replace hf47 := hf47.fr ff62 (by omega); replace qsf3 := qsf3.fr ff62 (by omega); replace X := X.fr ff62 (by omega); replace hs := Bk.rowSits.fr hs ff62 (by omega); replace rx := Row.fr rx ff62 (by simp only; omega); replace sx := Nd.sits.fr sx ff62 (by omega)
    replace ry := Row.fr ry ff62 (by simp only; omega); replace sy := Nd.sits.fr sy ff62 (by omega); replace h4 := h4.fr ff62 (by omega); clear ff62; refine ⟨qsf3, ?_⟩; clear d_hs d_rx d_sx d_ry d_sy d_h4 qsf3; refine tw_tail rfl ?_; (refine lw_store' [_, _, _, _] [_, _, _, _] tabOk rfl rfl rfl rfl rfl rfl hf47 rfl rfl ?_; intro wf65 nf66); have hf69 := nf66.blk; have ff67 := nf66.fr; have zf68 := nf66.size; clear nf66 hf47; replace hf64 := hf64.fr ff67 (by omega); replace X := X.fr ff67 (by omega); replace hs := Bk.rowSits.fr hs ff67 (by omega); replace rx := Row.fr rx ff67 (by simp only; omega); replace sx := Nd.sits.fr sx ff67 (by omega); replace ry := Row.fr ry ff67 (by simp only; omega); replace sy := Nd.sits.fr sy ff67 (by omega); replace h4 := h4.fr ff67 (by omega); clear ff67; refine cN (C1 Pf (C1 (Pl h4) (C1 Pf (C1 (Pl hf64) (C1 Pf (C1 (Pl hf69) ?_)))))); (refine lw_does (does_slice' [_, _] tabOk zOk rfl rfl rfl rfl rfl rfl rfl rfl rfl) rfl ?_ (fun _ h => h); rintro _ wf71 ⟨bf70, rfl, nf72, tf73⟩); clear tf73; have hf74 := nf72.blk; have xf75 := nf72.ext; have pf76 := nf72.pos; have zf77 := nf72.size; clear nf72; replace hf69 := hf69.ext xf75; replace hf64 := hf64.ext xf75; replace X := X.ext xf75; replace hs := Bk.rowSits.ext hs xf75; replace rx := rx.ext xf75; replace sx := Nd.sits.ext sx xf75; replace ry := ry.ext xf75; replace sy := Nd.sits.ext sy xf75; replace h4 := h4.ext xf75; clear xf75; refine cC rfl (HA.out _ _ _ _ _ _ _ (by assumption) (Blk.row (by assumption))) ?_
    rintro _ wf79 ⟨⟨⟩, xf78⟩; have zf80 := xf78.size; replace hf74 := hf74.ext xf78; replace hf69 := hf69.ext xf78; replace hf64 := hf64.ext xf78; replace X := X.ext xf78; replace hs := Bk.rowSits.ext hs xf78; replace rx := rx.ext xf78; replace sx := Nd.sits.ext sx xf78; replace ry := ry.ext xf78; replace sy := Nd.sits.ext sy xf78; replace h4 := h4.ext xf78; clear xf78; refine C1 Px (C1 Px (C1 Pa (C1 Pa (cT (cw_ret (qw_block_ret (qw_then_ret (qw_ret2 rfl rfl rfl ?_)))))))); rotate_left 1
   all_goals exact ⟨rfl, X⟩
 refine cw_meet2 (ι := Unit) (fun _ => [(1, .pointer (some ⟨b1, 0, none⟩)), (10, .int .u8 k), (62, .bool (decide (44 ≤ k ∧ k ≤ 45)))]) (fun _ w' => w' = u1) ?_ ?_
 · focus
    refine cS (C1 V1 (C1 Pa (cT ?_))); refine cw_dec rfl (fun cg1 => ?_) (fun cg1 => ?_); refine cw_skip ?_; rotate_left 1; refine cw_region (C1 V1 (C1 Pa (lw_nil ?_))); rotate_left 1
   all_goals exact qw_meet () (sub_cons rfl (sub_cons rfl (sub_cons' rfl (congrArg Value.bool (decide_eq_decide.2 (by omega))) sub_nil))) rfl
 rintro - u2 h; subst h
 focus
  refine cw_dec rfl (fun ch1 => ?_) (fun ch1 => ?_); rotate_left 1; refine cw_seq ?_; rotate_left 1
 · obtain ⟨x, rfl, hx⟩ := one_kid (HT.out (by omega) (by omega)) (by omega)
   obtain ⟨kb, ko, rfl, kS, hkid⟩ := kidRows hs (by simp); obtain ⟨xa, xc, rx, sx⟩ := hkid 0 x rfl
   have he : rejV (.mk k n s [x]) = errOf (aliasO [x] [x.name, s]) := by rw [rejV_eq, if_neg (by omega), if_neg (by omega), if_neg (by omega), if_pos (by omega)]; rfl
   have HA := Lib.hid (alias_c [x] [x.name, s] (by omega) (fun t ht => by simp at ht; subst ht; exact place_okIdx hx) (by simp)); rw [he]; clear hkid he; replace h4 : Blk u2 b1 [.int .u8 k, .int .i64 n, str s, .slice (some ⟨kb, ko, none⟩) 1 c] := h4
   focus
    refine cw_seq ?_; (refine cw_tdraw (fun wz => Ext u2 wz) 13 (.pure 0 (.pure 1 (.pure 2 (.pure 3 (.pure 4 (.pure 5 (.pure 6 (.pure 7 (.pure 8 (.fork 9 (.fork 10 (.pure 11 (.pure 12 .tail)) .none) .none)))))))))) mixed (by kernel_rfl) (panicOk_then (panicOk_block (panicOk_then panicOk_body))) ?_; intro wi1 xi2 _); have qsi3 : (fun wz => Ext u2 wz) wi1 := xi2; simp only at qsi3; have d_hs := hs; have d_rx := rx; have d_sx := sx; have d_h4 := h4; have zi4 := xi2.size; replace X := X.ext xi2; replace hs := Bk.rowSits.ext hs xi2; replace rx := rx.ext xi2; replace sx := Nd.sits.ext sx xi2; replace h4 := h4.ext xi2; clear xi2; refine ⟨qsi3, ?_⟩; refine Tq rfl Pf (Tq rfl (Db d_h4) (Tq rfl Pf (Tq rfl (Db d_h4) (Tq rfl Pi (Tq rfl Pf (Tq rfl (Dr d_rx) (Tq rfl Pf (Tq rfl (Db d_h4) ?_)))))))); (refine tw_does rfl (does_slice' [_, _] tabOk zOk rfl rfl rfl rfl rfl rfl rfl rfl rfl) rfl ?_ (fun _ h => h) tw_none; rintro _ wi7 ⟨bi6, rfl, ni8, ti9⟩); clear ti9; have hi10 := ni8.blk; have xi11 := ni8.ext; have pi12 := ni8.pos; have zi13 := ni8.size; clear ni8; replace qsi3 := qsi3.ext xi11; replace X := X.ext xi11; replace hs := Bk.rowSits.ext hs xi11; replace rx := rx.ext xi11; replace sx := Nd.sits.ext sx xi11; replace h4 := h4.ext xi11; clear xi11; refine ⟨qsi3, ?_⟩; refine tw_does rfl (does_call (by kernel_rfl) rfl (HA.out _ _ _ _ _ _ _ (by assumption) (Blk.row (by assumption))) (fun _ _ h => ⟨_, h.1⟩)) rfl ?_ (fun _ h => h) tw_none; rintro _ wi16 ⟨⟨⟩, xi15⟩; have zi17 := xi15.size; replace hi10 := hi10.ext xi15
    replace qsi3 := qsi3.ext xi15; replace X := X.ext xi15; replace hs := Bk.rowSits.ext hs xi15; replace rx := rx.ext xi15; replace sx := Nd.sits.ext sx xi15; replace h4 := h4.ext xi15; clear xi15; refine ⟨qsi3, ?_⟩; refine Tq rfl Px (Tq rfl Px ?_); clear d_hs d_rx d_sx d_h4 qsi3; refine tw_tail rfl (C1 Pa (C1 Pa (cT (cw_ret (qw_block_ret (qw_then_ret (qw_ret2 rfl rfl rfl ?_))))))); rotate_left 1
   all_goals exact ⟨rfl, X⟩
 refine cw_meet2 (ι := Unit) (fun _ => [(1, .pointer (some ⟨b1, 0, none⟩)), (10, .int .u8 k), (78, .bool (decide (46 ≤ k ∧ k ≤ 49)))]) (fun _ w' => w' = u2) ?_ ?_
 · focus
    refine cS (C1 V1 (C1 Pa (cT ?_))); refine cw_dec rfl (fun cj1 => ?_) (fun cj1 => ?_); refine cw_skip ?_; rotate_left 1; refine cS (C1 V1 (C1 Pa (cT ?_))); refine cw_dec rfl (fun cj2 => ?_) (fun cj2 => ?_); refine cw_skip ?_; rotate_left 1; refine cS (C1 V1 (C1 Pa (cT ?_))); refine cw_dec rfl (fun cj3 => ?_) (fun cj3 => ?_); refine cw_skip ?_; rotate_left 1; refine cw_region (C1 V1 (C1 Pa (lw_nil ?_))); rotate_left 1
   all_goals exact qw_meet () (sub_cons rfl (sub_cons rfl (sub_cons' rfl (congrArg Value.bool (decide_eq_decide.2 (by omega))) sub_nil))) rfl
 rintro - u3 h; subst h
 focus
  refine cw_dec rfl (fun ck1 => ?_) (fun ck1 => ?_); rotate_left 1; refine cw_seq ?_; rotate_left 1
 · obtain ⟨x, rfl, hx⟩ := one_kid (HT.out (by omega) (by omega)) (by omega)
   obtain ⟨kb, ko, rfl, kS, hkid⟩ := kidRows hs (by simp); obtain ⟨xa, xc, rx, sx⟩ := hkid 0 x rfl
   have he : rejV (.mk k n s [x]) = errOf (aliasO [x] [x.name]) := by rw [rejV_eq, if_neg (by omega), if_neg (by omega), if_neg (by omega), if_neg (by omega), if_pos (by omega)]; rfl
   have HA := Lib.hid (alias_c [x] [x.name] (by omega) (fun t ht => by simp at ht; subst ht; exact place_okIdx hx) (by simp)); rw [he]; clear hkid he; replace h4 : Blk u3 b1 [.int .u8 k, .int .i64 n, str s, .slice (some ⟨kb, ko, none⟩) 1 c] := h4
   focus
    refine cw_seq ?_; (refine cw_tdraw (fun wz => Ext u3 wz) 11 (.pure 0 (.pure 1 (.pure 2 (.pure 3 (.pure 4 (.pure 5 (.pure 6 (.fork 7 (.fork 8 (.pure 9 (.pure 10 .tail)) .none) .none)))))))) mixed (by kernel_rfl) (panicOk_then (panicOk_block (panicOk_then panicOk_body))) ?_; intro wl1 xl2 _); have qsl3 : (fun wz => Ext u3 wz) wl1 := xl2; simp only at qsl3; have d_hs := hs; have d_rx := rx; have d_sx := sx; have d_h4 := h4; have zl4 := xl2.size; replace X := X.ext xl2; replace hs := Bk.rowSits.ext hs xl2; replace rx := rx.ext xl2; replace sx := Nd.sits.ext sx xl2; replace h4 := h4.ext xl2; clear xl2; refine ⟨qsl3, ?_⟩; refine Tq rfl Pf (Tq rfl (Db d_h4) (Tq rfl Pf (Tq rfl (Db d_h4) (Tq rfl Pi (Tq rfl Pf (Tq rfl (Dr d_rx) ?_)))))); (refine tw_does rfl (does_slice' [_] tabOk zOk rfl rfl rfl rfl rfl rfl rfl rfl rfl) rfl ?_ (fun _ h => h) tw_none; rintro _ wl7 ⟨bl6, rfl, nl8, tl9⟩); clear tl9; have hl10 := nl8.blk; have xl11 := nl8.ext; have pl12 := nl8.pos; have zl13 := nl8.size; clear nl8; replace qsl3 := qsl3.ext xl11; replace X := X.ext xl11; replace hs := Bk.rowSits.ext hs xl11; replace rx := rx.ext xl11; replace sx := Nd.sits.ext sx xl11; replace h4 := h4.ext xl11; clear xl11; refine ⟨qsl3, ?_⟩; refine tw_does rfl (does_call (by kernel_rfl) rfl (HA.out _ _ _ _ _ _ _ (by assumption) (Blk.row (by assumption))) (fun _ _ h => ⟨_, h.1⟩)) rfl ?_ (fun _ h => h) tw_none; rintro _ wl16 ⟨⟨⟩, xl15⟩; have zl17 := xl15.size; replace hl10 := hl10.ext xl15; replace qsl3 := qsl3.ext xl15; replace X := X.ext xl15
    replace hs := Bk.rowSits.ext hs xl15; replace rx := rx.ext xl15; replace sx := Nd.sits.ext sx xl15; replace h4 := h4.ext xl15; clear xl15; refine ⟨qsl3, ?_⟩; refine Tq rfl Px (Tq rfl Px ?_); clear d_hs d_rx d_sx d_h4 qsl3; refine tw_tail rfl (C1 Pa (C1 Pa (cT (cw_ret (qw_block_ret (qw_then_ret (qw_ret2 rfl rfl rfl ?_))))))); rotate_left 1
   all_goals exact ⟨rfl, X⟩
 refine cw_meet2 (ι := Unit) (fun _ => [(1, .pointer (some ⟨b1, 0, none⟩)), (10, .int .u8 k), (94, .bool (decide (50 ≤ k ∧ k ≤ 51)))]) (fun _ w' => w' = u3) ?_ ?_
 · focus
    refine cS (C1 V1 (C1 Pa (cT ?_))); refine cw_dec rfl (fun cm1 => ?_) (fun cm1 => ?_); refine cw_skip ?_; rotate_left 1; refine cw_region (C1 V1 (C1 Pa (lw_nil ?_))); rotate_left 1
   all_goals exact qw_meet () (sub_cons rfl (sub_cons rfl (sub_cons' rfl (congrArg Value.bool (decide_eq_decide.2 (by omega))) sub_nil))) rfl
 rintro - u4 h; subst h
 focus
  refine cw_dec rfl (fun cn1 => ?_) (fun cn1 => ?_); rotate_left 1; rotate_left 1
 · have he : rejV (.mk k n s l) = errOf (dupO [] l) := by rw [rejV_eq, if_neg (by omega), if_neg (by omega), if_neg (by omega), if_neg (by omega), if_neg (by omega), if_pos (by omega)]
   rw [he]; clear he
   focus
    refine cS (C1 Pf (C1 (Pl h4) (C1 Pz (C1 Mv (cT ?_))))); rotate_left 1
   refine cw_block ?_; refine cw_loop (ι := Nat) (fun i => [(1, .pointer (some ⟨b1, 0, none⟩)), (98, .slice a l.length c), (99, .int .i64 l.length), (100, .int .i64 i)])
    (fun i w' => i ≤ l.length ∧ Blk w' b1 [.int .u8 k, .int .i64 n, str s, .slice a l.length c] ∧ rowSits (· < w.heap.size) w' l a ∧ Ext w w' ∧ dupO [] l = dupO (l.take i) (l.drop i))
    (fun i => l.length - i) 0 (by (refine sub_cons rfl ?_; refine sub_cons rfl ?_; refine sub_cons rfl ?_; refine sub_cons rfl ?_; exact sub_nil)) ⟨Nat.zero_le _, h4, hs, X, by simp⟩ ?_
   clear h4 hs X z7; rintro i v1 ⟨hi, h4, hs, X, hd⟩; have hbl := h4.lt; have hxs := X.size
   by_cases hlt : i < l.length
   · obtain ⟨kb, ko, rfl, kS, hkid⟩ := kidRows hs (by intro e; subst e; simp at hlt)
     obtain ⟨xa, xc, rx, sx⟩ := hkid i l[i] (List.getElem?_eq_getElem hlt); rw [List.drop_eq_getElem_cons hlt, dupO] at hd; have htk : l.take i ++ [l[i]] = l.take (i + 1) := (List.take_succ_eq_append_getElem hlt).symm
     have hlk : (l.take i).length = i := by simp; omega
     have hm : (i : Int) = (i : Int) := rfl; have hs2 := rowSits_take l i _ hs; have HC := Lib.hid (ContainsN_c (l.take i) (by omega) l[i]); rw [hlk] at HC; clear hkid; rw [htk] at hd
     generalize l[i] = x at *
     generalize (l.take i).any (fun t => decide (t.name = x.name)) = q at *
     focus
      refine cS (C1 V3 (cT (cw_seq (Wyo (cw_skip (qw_then (cw_seq (cw_block (cS (C1 Mv (C1 Pi ?_))))))))))); refine C1 (Pws rx) ?_; (refine lw_alloc' [_, _, _, _] zOk rfl rfl ?_; intro bp1 wp2 np3); have hp5 := np3.blk; have xp6 := np3.ext; have pp7 := np3.pos; have zp8 := np3.size; clear np3; replace X := X.ext xp6; replace h4 := h4.ext xp6; replace hs := Bk.rowSits.ext hs xp6; replace hs2 := Bk.rowSits.ext hs2 xp6; replace rx := rx.ext xp6; replace sx := Nd.sits.ext sx xp6; clear xp6; refine C1 Pa ?_; (refine lw_store' [_, _, _, _] [_, _, _, _] tabOk rfl rfl rfl rfl rfl rfl hp5 rfl rfl ?_; intro wp9 np10); have hp13 := np10.blk; have fp11 := np10.fr; have zp12 := np10.size; clear np10 hp5; replace X := X.fr fp11 (by omega); replace h4 := h4.fr fp11 (by omega); replace hs := Bk.rowSits.fr hs fp11 (by omega); replace hs2 := Bk.rowSits.fr hs2 fp11 (by omega); replace rx := Row.fr rx fp11 (by simp only; omega); replace sx := Nd.sits.fr sx fp11 (by omega); clear fp11; refine cN (C1 Pf (C1 (Pl h4) (C1 Mv ?_))); refine C1 (pur_slH tabOk rfl rfl rfl rfl hm (by omega)) ?_; refine C1 (pur_funcC rfl) ?_; refine cC rfl (HC.out _ _ _ _ _ _ _ hs2 (by assumption)) ?_; rintro _ wp15 ⟨⟨⟩, xp14⟩; have zp16 := xp14.size; replace hp13 := hp13.ext xp14; replace X := X.ext xp14; replace h4 := h4.ext xp14; replace hs := Bk.rowSits.ext hs xp14; replace hs2 := Bk.rowSits.ext hs2 xp14; replace rx := rx.ext xp14; replace sx := Nd.sits.ext sx xp14; clear xp14; refine cT ?_; refine cw_cond rfl (fun cp17 => ?_) (fun cp17 => ?_)
      refine cS (C1 Pf (C1 (Pl hp13) (C1 Pa (C1 Pa (cT (cw_ret (qw_block_ret (qw_then_ret (qw_then_ret (qw_block_ret (qw_block_ret ?_))))))))))); refine qw_then_ret (qw_ret2 rfl rfl rfl ?_); rotate_left 1; refine cw_skip (qw_block_norm (qw_then (cw_region (C1 V7 (C1 Mv (lw_nil ?_)))))); rotate_left 1
     · rw [if_pos (by assumption)] at hd
       exact ⟨by rw [hd]; rfl, X⟩
     · rw [if_neg (by simp [*])] at hd
       exact qw_round (i + 1) (by (refine sub_cons rfl ?_; refine sub_cons rfl ?_; refine sub_cons rfl ?_; refine sub_cons rfl ?_; exact sub_nil)) ⟨by omega, h4, hs, X, hd⟩ (by omega)
   · obtain rfl : i = l.length := by omega
     rw [List.drop_length, dupO] at hd; rw [hd]
     focus
      refine cS (C1 V3 (cT (cw_seq (Wno (cw_exit (qw_then_exit (qw_then_exit (qw_block_exit (qw_block_norm (qw_then (cS ?_))))))))))); refine C1 Pa (C1 Pa (cT (cw_ret (qw_ret2 rfl rfl rfl ?_)))); rotate_left 1
     exact ⟨rfl, X⟩
 focus
  refine cS (C1 V1 (C1 Pa (cT ?_))); refine cw_dec rfl (fun cr1 => ?_) (fun cr1 => ?_); rotate_left 1; rotate_left 1
 · obtain ⟨x, y, z, u, rfl, hx, hu⟩ := branch_kids (HT.out (by omega) (by omega)) (by omega)
   obtain ⟨kb, ko, rfl, kS, hkid⟩ := kidRows hs (by simp); obtain ⟨xa, xc, rx, sx⟩ := hkid 0 x rfl; obtain ⟨ua, uc, ru, su⟩ := hkid 3 u rfl
   have he : rejV (.mk k n s [x, y, z, u]) = if (u.const.2 && !x.const.2) = true then ([], 10) else ([], 0) := by rw [rejV_eq, if_neg (by omega), if_neg (by omega), if_neg (by omega), if_neg (by omega), if_neg (by omega), if_neg (by omega), if_pos (by omega)]; rfl
   have HX := Lib.hid (constant_c x (by have := HZ.out x (by simp); omega) (HF.out x (by simp))); have HU := Lib.hid (constant_c u (by have := HZ.out u (by simp); omega) (HF.out u (by simp))); rw [he]; clear hs hkid he
   generalize x.const.2 = q at *
   generalize u.const.2 = p at *
   replace h4 : Blk u4 b1 [.int .u8 k, .int .i64 n, str s, .slice (some ⟨kb, ko, none⟩) 4 c] := h4
   focus
    refine cS (C1 Pf (C1 (Pl h4) (C1 Pi (C1 (Pws ru) (cC rfl (HU.out _ _ _ _ su) ?_))))); rintro _ ws2 ⟨⟨⟩, xs1⟩; have zs3 := xs1.size; replace X := X.ext xs1; replace rx := rx.ext xs1; replace sx := Nd.sits.ext sx xs1; replace ru := ru.ext xs1; replace su := Nd.sits.ext su xs1; replace h4 := h4.ext xs1; clear xs1; refine C1 Mv ?_; refine lw_bool rfl rfl rfl (fun cs4 => ?_) (fun cs4 => ?_); refine lw_on rfl rfl rfl (gb_tt (by assumption)) ?_; refine C1 Pf ?_; refine lw_on rfl rfl rfl (gb_tt (by assumption)) ?_; refine C1 (Pl h4) ?_; refine lw_on rfl rfl rfl (gb_tt (by assumption)) ?_; refine C1 Pi ?_; refine lw_on rfl rfl rfl (gb_tt (by assumption)) ?_; refine lw_loads_r' [_, _, _, _] tabOk rfl rfl rfl rx rfl rfl rfl ?_; refine lw_on rfl rfl rfl (gb_tt (by assumption)) ?_; refine cC rfl (HX.out _ _ _ _ sx) ?_; rintro _ ws6 ⟨⟨⟩, xs5⟩; have zs7 := xs5.size; replace X := X.ext xs5; replace rx := rx.ext xs5; replace sx := Nd.sits.ext sx xs5; replace ru := ru.ext xs5; replace su := Nd.sits.ext su xs5; replace h4 := h4.ext xs5; clear xs5; refine lw_on rfl rfl rfl (gb_tt (by assumption)) ?_; refine C1 Pt ?_; refine C1 (pur_pick_t rfl rfl (by assumption)) ?_; refine cT ?_; refine cw_ncond rfl (fun cs8 => ?_) (fun cs8 => ?_); refine cS (C1 Pa (C1 Pa (cT (cw_ret (qw_block_ret (qw_then_ret (qw_ret2 rfl rfl rfl ?_))))))); rotate_left 1; refine cw_skip (qw_block_norm (qw_then (cS (C1 Pa (C1 Pa (cT (cw_ret (qw_ret2 rfl rfl rfl ?_)))))))); rotate_left 1; refine lw_off rfl rfl rfl (gb_tf (by assumption)) rfl ?_
    refine lw_off rfl rfl rfl (gb_tf (by assumption)) rfl ?_; refine lw_off rfl rfl rfl (gb_tf (by assumption)) rfl ?_; refine lw_off rfl rfl rfl (gb_tf (by assumption)) rfl ?_; refine lw_off rfl rfl rfl (gb_tf (by assumption)) rfl ?_; refine lw_off rfl rfl rfl (gb_tf (by assumption)) rfl ?_; refine C1 (pur_pick_f rfl rfl (by assumption)) ?_; refine cT (cw_cond_f rfl (cw_skip (qw_block_norm (qw_then (cS (C1 Pa (C1 Pa (cT (cw_ret (qw_ret2 rfl rfl rfl ?_)))))))))); rotate_left 1
   all_goals exact ⟨by simp [*], X⟩
 focus
  refine cS (C1 V1 (C1 Pa (cT ?_))); refine cw_dec rfl (fun ct1 => ?_) (fun ct1 => ?_); rotate_left 1; refine cw_skip (qw_block_norm (qw_then (cS (C1 Pa (C1 Pa (cT (cw_ret (qw_ret2 rfl rfl rfl ?_)))))))); rotate_left 1
 · obtain ⟨x, y, z, u, rfl, hx, hu⟩ := branch_kids (HT.out (by omega) (by omega)) (by omega)
   obtain ⟨kb, ko, rfl, kS, hkid⟩ := kidRows hs (by simp); obtain ⟨xa, xc, rx, sx⟩ := hkid 0 x rfl
   have he : rejV (.mk k n s [x, y, z, u]) = if x.const.2 = true then ([], 10) else ([], 0) := by rw [rejV_eq, if_neg (by omega), if_neg (by omega), if_neg (by omega), if_neg (by omega), if_neg (by omega), if_neg (by omega), if_neg (by omega), if_pos (by omega)]; rfl
   have HX := Lib.hid (constant_c x (by have := HZ.out x (by simp); omega) (HF.out x (by simp))); rw [he]; clear hs hkid he
   generalize x.const.2 = q at *
   replace h4 : Blk u4 b1 [.int .u8 k, .int .i64 n, str s, .slice (some ⟨kb, ko, none⟩) 4 c] := h4
   focus
    refine cS (C1 Pf (C1 (Pl h4) (C1 Pi (lw_loads_r' [_, _, _, _] tabOk rfl rfl rfl rx rfl rfl rfl (cC rfl (HX.out _ _ _ _ sx) ?_))))); rintro _ wu2 ⟨⟨⟩, xu1⟩; have zu3 := xu1.size; replace X := X.ext xu1; replace rx := rx.ext xu1; replace sx := Nd.sits.ext sx xu1; replace h4 := h4.ext xu1; clear xu1; refine cT ?_; refine cw_cond rfl (fun cu4 => ?_) (fun cu4 => ?_); refine cS (C1 Pa (C1 Pa (cT (cw_ret (qw_block_ret (qw_then_ret (qw_ret2 rfl rfl rfl ?_))))))); rotate_left 1; refine cw_skip (qw_block_norm (qw_then (cS (C1 Pa (C1 Pa (cT (cw_ret (qw_ret2 rfl rfl rfl ?_)))))))); rotate_left 1
   all_goals exact ⟨by simp [*], X⟩
 · have he : rejV (.mk k n s l) = ([], 0) := by rw [rejV_eq, if_neg (by omega), if_neg (by omega), if_neg (by omega), if_neg (by omega), if_neg (by omega), if_neg (by omega), if_neg (by omega), if_neg (by omega)]
   rw [he]
   exact ⟨rfl, X⟩
end Bk
namespace Bk
open Go Go.RowKit Go.Proofs
attribute [local irreducible] Go.Calls
def rejShape : Shape Int where
 sz := 4
 rep _ _ x cs := ∃ (p : Int) (pa : Option Addr) (pn pc : Nat) (s : List UInt8), cs = [.int .i64 p, .slice pa pn pc, .int .i64 x, str s]
 len h := by obtain ⟨_, _, _, _, _, rfl⟩ := h; rfl
 one h := by obtain ⟨_, _, _, _, _, rfl⟩ := h; rfl
 mono h _ _ := h
 lt h := h
def errsOf (l : List Nd) : List Int := (l.map fun m => (rejV m).2).filter (fun e => decide (e ≠ 0))
theorem errsOf_snoc (l : List Nd) (x : Nd) : errsOf (l ++ [x]) = if (rejV x).2 = 0 then errsOf l else errsOf l ++ [(rejV x).2] := by
 unfold errsOf
 rw [List.map_append, List.filter_append]
 by_cases h : (rejV x).2 = 0
 · rw [if_pos h]; simp [h]
 · rw [if_neg h]; simp [h]
theorem errsOf_len (l : List Nd) : (errsOf l).length ≤ l.length := by
 unfold errsOf
 exact Nat.le_trans (List.length_filter_le _ _) (by simp)
mutual
theorem walk_len : ∀ t : Nd, t.walk.length = t.size
 | .mk k n s l => by simp only [Nd.walk, Nd.size, List.length_cons, rowWalk_len l]; omega
theorem rowWalk_len : ∀ l : List Nd, (rowWalk l).length = rowSize l
 | [] => rfl
 | t :: r => by simp only [rowWalk, rowSize, List.length_append, walk_len t, rowWalk_len r]
end
def ChkR (xs : List Int) (w : World) : Ending → World → Prop := fun e w' => ∃ a c, e = .returned (.slice a xs.length c) ∧ OwnQ rejShape w' (fun _ => False) w.heap.size 39 (.slice a xs.length c) xs ∧ Ext w w' ∧ (xs = [] → a = none ∧ c = 0)
theorem ChkR.ret {xs : List Int} {w : World} {e : Ending} {w' : World} (h : ChkR xs w e w') : ∃ v, e = .returned v := by
 obtain ⟨_, _, h, -⟩ := h
 exact ⟨_, h⟩
set_option maxRecDepth 100000 in
set_option maxHeartbeats 4000000 in
theorem check_c (p : Int) (t : Nd) (hz : t.size ≤ 1000000) (hg : ∀ x ∈ t.walk, x.good ∧ x.wf ∧ x.size ≤ 1000000) (S : Nat → Prop) (a : Option Addr) (c : Nat) (w : World) (hs : t.sits S w a) :
 Calls Tryz.prog 21 #[.int .i64 p, t.val a c] w (ChkR (errsOf t.walk) w) := by
 have HG := Lib.hid hg; clear hg
 have X := Ext.refl w; refine calls_inM (args := [_, _]) Tryz.func21 Tryz.ntmps21 rfl rfl ?_
 focus
  refine cS ?_; (refine lw_box' [_] rfl rfl rfl ?_; intro b1 w2 n3); have h4 := n3.blk; have x5 := n3.ext; have p6 := n3.pos; have z7 := n3.size; clear n3; replace hs := Nd.sits.ext hs x5; replace X := X.ext x5; clear x5; (refine lw_box' [_, _, _, _] rfl rfl rfl ?_; intro b8 w9 n10); have h11 := n10.blk; have x12 := n10.ext; have p13 := n10.pos; have z14 := n10.size; clear n10; replace h4 := h4.ext x12; replace hs := Nd.sits.ext hs x12; replace X := X.ext x12; clear x12; refine C1 Pa (cN ?_); (refine lw_alloc' [_] zOk rfl rfl ?_; intro b15 w16 n17); have h19 := n17.blk; have x20 := n17.ext; have p21 := n17.pos; have z22 := n17.size; clear n17; replace h11 := h11.ext x20; replace h4 := h4.ext x20; replace hs := Nd.sits.ext hs x20; replace X := X.ext x20; clear x20; refine cT (cw_seq (cS (lw_loads_b' [_, _, _, _] tabOk rfl rfl rfl h11 rfl rfl rfl ?_))); refine cR (by kernel_rfl) rfl (Walk_c _ hz _ _ _ _ (by assumption)) (fun _ _ h => h.ret) rfl ?_; rintro _ w26 ⟨br23, ⟨⟨⟩, ⟨h24, x25⟩⟩⟩; have z27 := x25.size; replace h19 := h19.ext x25; replace h11 := h11.ext x25; replace h4 := h4.ext x25; replace hs := Nd.sits.ext hs x25; replace X := X.ext x25; clear x25; refine cT ?_; rotate_left 1
 refine cw_block ?_; refine cw_range rfl rfl rfl (by kernel_rfl) h24 (fun _ _ _ _ h => wrep2 h) (fun k hk => hk.2)
  (fun A xs W => ∃ ra rc, Blk W b15 [.slice ra (errsOf xs).length rc] ∧ OwnQ rejShape W (fun _ => False) w.heap.size 39 (.slice ra (errsOf xs).length rc) (errsOf xs) ∧ (∀ g, (Value.slice ra (errsOf xs).length rc).ownBlock = some g → ¬ A g ∧ w26.heap.size ≤ g) ∧ Blk W b1 [.int .i64 p] ∧ Ext w W ∧ (errsOf xs = [] → ra = none ∧ rc = 0))
  (fun _ _ _ => False) ?_ (fun _ _ _ _ _ h => h.elim) ⟨none, 0, h19, OwnQ.nil, fun g hg => by simp [Value.ownBlock] at hg, h4, X, fun _ => ⟨rfl, rfl⟩⟩ ?_ ?_ (fun _ _ _ _ _ h => h.elim)
 · rintro A A' xs W W' ⟨ra, rc, h1, h2, h3, h4, x, h5⟩ hf hA - hss
   exact ⟨ra, rc, h1.fr hf (fun e => by have := hA _ e; omega), h2.fr hf (fun k hk => ⟨id, fun e => (h3 k e).1 hk⟩), fun g hg => ⟨fun e => (h3 g hg).1 (hss g (h2.lt hg) e), (h3 g hg).2⟩, h4.fr hf (fun e => by have := hA _ e; omega), Ext.fr x hf (fun k hk => by have := hA _ hk; omega), h5⟩
 · rintro r A pre x u v W hA hA1 ⟨ra, rc, j1, j2, j3, j4, x0, j5⟩ ⟨pa, pn, pc, xa, xc, e, sx, hcap⟩ hpre
   simp only [List.cons.injEq, and_true] at e; obtain ⟨rfl, rfl⟩ := e; clear h24 h19 h11 h4 hs X; have hWz := hA _ hA1; obtain ⟨g1, g2, g3⟩ := HG.out x (by obtain ⟨q, hq⟩ := hpre; rw [← hq]; simp)
   have hlen : (errsOf pre).length ≤ 1000000 := by
    have h1 := errsOf_len pre; have h2 := hpre.length_le; rw [walk_len] at h2; simp only [List.length_append, List.length_cons, List.length_nil] at h2
    omega
   have hob : ∀ g, (Value.slice ra (errsOf pre).length rc).ownBlock = some g → ¬ A g ∧ w26.heap.size ≤ g ∧ g < W.heap.size := fun g hg => ⟨(j3 g hg).1, (j3 g hg).2, j2.lt hg⟩
   have hnx := errsOf_snoc pre x; have HR := Lib.hid (reject_c x g3 g2 g1); have X1 := Ext.refl W; clear j3 hpre g1 g2 g3
   focus
    refine cr_seq (cr_region rfl (nl_then nl_assign) (C1 Pa (lw_nil (qr_then (cr_region rfl nl_assign ?_))))); (refine lw_alloc' [_, _, _, _] zOk rfl rfl ?_; intro ba1 wa2 na3); (refine lw_init' [_, _, _, _] tabOk rfl rfl rfl rfl rfl rfl na3 rfl ?_; clear na3; clear wa2; intro wa4 na3); have ha5 := na3.blk; have xa6 := na3.ext; have pa7 := na3.pos; have za8 := na3.size; clear na3; replace j1 := j1.ext xa6; replace j2 := j2.ext xa6; replace j4 := j4.ext xa6; replace x0 := x0.ext xa6; replace sx := Nd.sits.ext sx xa6; replace X1 := X1.ext xa6; clear xa6; refine lw_nil ?_; rotate_left 1
   refine qw_assign (Keeps.of_ext X1) fun W2 f2 => ?_
   have ho2 : ∀ k, k = w26.heap.size + 1 → ¬ False ∧ (Value.slice ra (errsOf pre).length rc).ownBlock ≠ some k := fun k e => ⟨id, fun h => (hob k h).1 (e ▸ hA1)⟩
   replace ha5 := ha5.fr f2 (by omega); replace j1 := j1.fr f2 (by omega); replace j2 := j2.fr f2 ho2; replace j4 := j4.fr f2 (by omega); replace x0 := Ext.fr x0 f2 (fun k hk => by omega); replace sx := sx.fr f2 (fun b hb e => by omega); have hz2 := f2.size
   have hA2 : ∀ k, A k → w26.heap.size ≤ k ∧ k < W2.heap.size := fun k hk => by have := hA k hk; omega
   have HA := Lib.hid hA2; clear X1 f2 hA ho2 hA2
   generalize rejV x = ev at *
   obtain ⟨en, ec⟩ := ev; dsimp only at hnx HR; have HN := Lib.hid hnx; have X3 := Fr.refl (fun k => k = b15 ∨ (Value.slice ra (errsOf pre).length rc).ownBlock = some k) W2
   have hK : ∀ k, A k ∨ (w16.heap.size ≤ k ∧ k < w26.heap.size) → ¬ (k = b15 ∨ (Value.slice ra (errsOf pre).length rc).ownBlock = some k) := fun k hk h => by
    rcases h with h | h
    · rcases hk with hk | hk
      · have := HA.out k hk; omega
      · omega
    · rcases hk with hk | hk
      · exact (hob k h).1 hk
      · have := hob k h; omega
   clear hnx
   by_cases he : ec = 0
   · have hN := HN.out
     rw [if_pos he] at hN; subst he
     focus
      refine cr_block (cr_seq (cr_region rfl (nl_then (nl_block nl_round)) (lw_loads_b' [_, _, _, _] tabOk rfl rfl rfl ha5 rfl rfl rfl ?_))); refine cC rfl (HR.out _ _ _ _ (by assumption) (by omega)) ?_; rintro _ wb2 ⟨⟨⟩, xb1⟩; have zb3 := xb1.size; replace ha5 := ha5.ext xb1; replace j1 := j1.ext xb1; replace j2 := j2.ext xb1; replace j4 := j4.ext xb1; replace x0 := x0.ext xb1; replace sx := Nd.sits.ext sx xb1; replace X3 := X3.ext xb1; clear xb1; refine C1 Mv (C1 Px (C1 Px (C1 Pa (C1 Pa (lw_nil (qr_then (cr_seq (cr_region rfl (nl_then (nl_block nl_round)) (C1 Mv (C1 V2 (lw_nil ?_))))))))))); refine qr_then ?_; refine cr_no rfl (by decide) ?_; refine cr_skip (qw_block_norm ?_); rotate_left 1
     exact qr_end (Keeps.of_fr X3 hK) ⟨ra, rc, by rw [hN]; exact j1, by rw [hN]; exact j2, by rw [hN]; exact fun g hg => ⟨(hob g hg).1, (hob g hg).2.1⟩, j4, x0, by rw [hN]; exact j5⟩
   · have hN := HN.out
     rw [if_neg he] at hN
     focus
      refine cr_block (cr_seq (cr_region rfl (nl_then (nl_block nl_round)) (lw_loads_b' [_, _, _, _] tabOk rfl rfl rfl ha5 rfl rfl rfl ?_))); refine cC rfl (HR.out _ _ _ _ (by assumption) (by omega)) ?_; rintro _ wc2 ⟨⟨⟩, xc1⟩; have zc3 := xc1.size; replace ha5 := ha5.ext xc1; replace j1 := j1.ext xc1; replace j2 := j2.ext xc1; replace j4 := j4.ext xc1; replace x0 := x0.ext xc1; replace sx := Nd.sits.ext sx xc1; replace X3 := X3.ext xc1; clear xc1; refine C1 Mv (C1 Px (C1 Px (C1 Pa (C1 Pa (lw_nil (qr_then (cr_seq (cr_region rfl (nl_then (nl_block nl_round)) (C1 Mv (C1 V2 (lw_nil ?_))))))))))); refine qr_then ?_; refine cr_yes rfl (by assumption) ?_; refine cr_region rfl (nl_block nl_round) (C1 (Pl j1) (C1 (Pl j4) (C1 Mv (C1 Mv (C1 Mv (C1 (pur_build' [_, _, _, _] tabOk zOk rfl rfl rfl rfl) ?_)))))); (refine lw_does (does_slice' [_, _, _, _] tabOk zOk rfl rfl rfl rfl rfl rfl rfl rfl rfl) rfl ?_ (fun _ h => h); rintro _ wc5 ⟨bc4, rfl, nc6, tc7⟩); clear tc7; have hc8 := nc6.blk; have xc9 := nc6.ext; have pc10 := nc6.pos; have zc11 := nc6.size; clear nc6; replace ha5 := ha5.ext xc9; replace j1 := j1.ext xc9; replace j2 := j2.ext xc9; replace j4 := j4.ext xc9; replace x0 := x0.ext xc9; replace sx := Nd.sits.ext sx xc9; replace X3 := X3.ext xc9; clear xc9; refine lw_appendQ (R := fun _ => False) (sh := rejShape) (z := ec) tabOk zOk rfl rfl rfl rfl (by kernel_rfl) rfl rfl rfl (by assumption) (fun _ h => by exact h) (Blk.row (by assumption)) ⟨_, _, _, _, _, rfl⟩ (by omega) (by omega) rfl ?_
      rintro gc12 cap'c13 wc14 hc15 hc16 hc17 fc18; have zc19 := fc18.size; replace hc8 := Blk.fr hc8 fc18 (fun h => by have := hob _ h; omega); replace ha5 := Blk.fr ha5 fc18 (fun h => by have := hob _ h; omega); replace j1 := Blk.fr j1 fc18 (fun h => by have := hob _ h; omega); clear j2; replace j4 := Blk.fr j4 fc18 (fun h => by have := hob _ h; omega); replace x0 := Ext.fr x0 fc18 (fun k hk => by have := hob _ hk; omega); clear sx; replace X3 := Fr.fr X3 fc18 (fun k hk => Or.inl (Or.inr hk)); clear fc18; (refine lw_store' [_] [_] tabOk rfl rfl rfl rfl rfl rfl j1 rfl rfl ?_; intro wc20 nc21); have hc24 := nc21.blk; have fc22 := nc21.fr; have zc23 := nc21.size; clear nc21 j1; replace hc15 := OwnQ.fr hc15 fc22 (fun k hk => ⟨id, fun e => by (obtain rfl := Option.some.inj (show some gc12 = some k from e); rcases hc16 with h | h; have := hob _ h; omega; omega)⟩); replace hc8 := hc8.fr fc22 (by omega); replace ha5 := ha5.fr fc22 (by omega); replace j4 := j4.fr fc22 (by omega); replace x0 := x0.fr fc22 (by omega); replace X3 := X3.fr fc22 (by omega); clear fc22; refine lw_nil (qw_block_norm ?_); rotate_left 1
     refine qr_end (Keeps.of_fr X3 hK) ⟨some ⟨gc12, 0, none⟩, cap'c13, by rw [hN]; exact hc24, by rw [hN]; assumption, fun g hg => ?_, j4, x0, fun e => by rw [hN] at e; simp at e⟩; obtain rfl := Option.some.inj (show some gc12 = some g from hg)
     rcases hc16 with h | h
     · exact ⟨(hob _ h).1, (hob _ h).2.1⟩
     · exact ⟨fun hA => by have := HA.out _ hA; omega, by omega⟩
 · rintro A W hA ⟨ra, rc, j1, j2, j3, j4, x0, j5⟩ hm hk
   refine qwd_block (qwd_then (cwd_seq (cwd_region (lwd_pure (pur_load tabOk rfl rfl rfl (fun wz hz => by rw [show wz = W from hz]; exact j1.cell rfl)) rfl (lwd_pure (pur_assign rfl) rfl (lwd_nil (qwd_then (cwd_ret (qwd_ret1 hk rfl rfl (fun w2 hf2 => ?_))))))))))
   exact ⟨ra, rc, rfl, j2.fr hf2 (fun k e => ⟨id, fun h => (j3 k h).1 (e ▸ hm)⟩), Ext.fr x0 hf2 (fun k e => by omega), j5⟩
end Bk
namespace Bk
open Go
def findV (l : List VD) (s : List UInt8) : Option VD := l.reverse.find? (fun v => decide (v.name = s))
def freshE (l : List VD) (s : List UInt8) : Int := if (findV l s).isSome then 22 else 0
def useE (l : List VD) (s : List UInt8) (k : Int) : Int := match findV l s with
 | none => 6
 | some v => if v.kind = k then 0 else 7
def procI (ps : List PD) (s : List UInt8) : Option Nat := ps.findIdx? (fun p => decide (p.name = s))
def callE (ps : List PD) (s : List UInt8) (m : Nat) : Int := match procI ps s with
 | none => 6
 | some i => if m = ((ps[i]?.map fun p => p.params.length).getD 0) then 0 else 7
def faultE (ps : List PD) (v : List VD) (k : Int) (s : List UInt8) (m : Nat) : Int :=
 if k = 2 then useE v s 1 else if k = 3 then useE v s 2 else if k = 4 ∨ k = 5 ∨ k = 44 ∨ k = 45 then useE v s 3
 else if k = 54 ∨ k = 55 then freshE v s else if k = 50 ∨ k = 51 then callE ps s m else 0
def argE (ps : List PD) (v : List VD) (s : List UInt8) (m i : Nat) (x : List UInt8) : Int := match findV v x with
 | none => 6
 | some d => match (procI ps s).bind (ps[·]?) with
  | none => 0
  | some p => if m ≠ p.params.length then 0 else match p.params[i]? with
   | none => 0
   | some q => if d.kind ≠ q.kind ∨ d.len ≠ q.len then 7 else 0
def innerV (k : Int) (s : List UInt8) (i : Nat) (v : List VD) : List VD :=
 if k = 54 ∧ i = 1 then v ++ [⟨s, 1, 0⟩] else if k = 55 ∧ i = 0 then v ++ [⟨s, 3, 0⟩] else v
def b01 (e : Int) : Nat := if e = 0 then 0 else 1
def argsF (ps : List PD) (v : List VD) (s : List UInt8) (m : Nat) : Nat → List Nd → Nat
 | _, [] => 0
 | i, t :: r => b01 (argE ps v s m i t.name) + argsF ps v s m (i + 1) r
mutual
def Nd.flt (ps : List PD) (v : List VD) : Nd → Nat
 | .mk k _ s l => b01 (faultE ps v k s l.length) + if k = 50 ∨ k = 51 then argsF ps v s l.length 0 l else rowFlt ps v k s 0 l
def rowFlt (ps : List PD) (v : List VD) (k : Int) (s : List UInt8) : Nat → List Nd → Nat
 | _, [] => 0
 | i, t :: r => t.flt ps (innerV k s i v) + rowFlt ps v k s (i + 1) r
end
def twiceF : List VD → List VD → Nat
 | _, [] => 0
 | acc, v :: r => b01 (freshE acc v.name) + twiceF (acc ++ [v]) r
def procsF (ps : List PD) : Nat → List PD → Nat
 | _, [] => 0
 | i, p :: r => (if (procI ps p.name).getD i < i then 1 else 0) + twiceF [] p.params + p.body.flt ps p.params + procsF ps (i + 1) r
def PG.flt (g : PG) : Nat := twiceF [] g.vars + procsF g.procs 0 g.procs + g.main.flt g.procs g.vars
end Bk
namespace Bk
open Go
section
variable {ts : List Tok} {n : Int}
structure Le (ts : List Tok) (σ σ' : PS) : Prop where
 le : σ.at_ ≤ σ'.at_
 wf : σ'.at_ ≤ ts.length
 err : σ.err ≠ 0 → σ' = σ
def Lt (σ σ' : PS) : Prop := σ'.err = 0 → σ.at_ < σ'.at_
theorem Le.refl {σ : PS} (h : σ.at_ ≤ ts.length) : Le ts σ σ := ⟨Nat.le_refl _, h, fun _ => rfl⟩
theorem Le.trans {a b c : PS} (h : Le ts a b) (k : Le ts b c) : Le ts a c := ⟨Nat.le_trans h.le k.le, k.wf, fun e => by rw [k.err (by rw [h.err e]; exact e), h.err e]⟩
theorem Le.ok {a b : PS} (h : Le ts a b) (e : b.err = 0) : a.err = 0 := by
 rcases Int.lt_trichotomy a.err 0 with h' | h' | h'
 · have := h.err (by omega); rw [this] at e; exact e
 · exact h'
 · have := h.err (by omega); rw [this] at e; exact e
theorem Lt.of_lt {a b c : PS} (h : Lt a b) (k : Le ts b c) : Lt a c := fun e => Nat.lt_of_lt_of_le (h (k.ok e)) k.le
theorem Lt.of_le {a b c : PS} (h : Le ts a b) (k : Lt b c) : Lt a c := fun e => Nat.lt_of_le_of_lt h.le (k e)
theorem peek_err {σ : PS} (h : σ.err ≠ 0) : peekP ts σ = Tok.zero := by unfold peekP; rw [if_pos (Or.inl h)]
theorem peek_end {σ : PS} (h : σ.at_ = ts.length) : peekP ts σ = Tok.zero := by unfold peekP; rw [if_pos (Or.inr h)]
theorem peek_in {σ : PS} (hw : σ.at_ ≤ ts.length) (h : (peekP ts σ).text ≠ [] ∨ (peekP ts σ).kind ≠ 0) : σ.err = 0 ∧ σ.at_ < ts.length := by
 by_cases h1 : σ.err = 0
 · by_cases h2 : σ.at_ = ts.length
   · rw [peek_end h2] at h; simp [Tok.zero] at h
   · exact ⟨h1, by omega⟩
 · rw [peek_err h1] at h; simp [Tok.zero] at h
theorem has_in {σ : PS} {t : List UInt8} (hw : σ.at_ ≤ ts.length) (h : hasP ts σ t = true) (ht : t ≠ []) : σ.err = 0 ∧ σ.at_ < ts.length := by
 unfold hasP at h
 have := of_decide_eq_true h
 exact peek_in hw (Or.inl (by rw [this]; exact ht))
theorem next_le {σ : PS} (h : σ.err = 0 ∧ σ.at_ < ts.length) : Le ts σ (nextP σ) := ⟨Nat.le_succ _, h.2, fun e => absurd h.1 e⟩
theorem next_lt {σ : PS} : Lt σ (nextP σ) := fun _ => Nat.lt_succ_self _
theorem fail_le {σ : PS} (h : σ.at_ ≤ ts.length) (off e : Int) : Le ts σ (failP σ off e) := by
 unfold failP
 split
 · rename_i h0; exact ⟨Nat.le_refl _, h, fun e => absurd h0 e⟩
 · exact Le.refl h
theorem fail_err {σ : PS} {off e : Int} (he : e ≠ 0) : (failP σ off e).err ≠ 0 := by
 unfold failP
 split
 · exact he
 · assumption
theorem unexp_le {σ : PS} (h : σ.at_ ≤ ts.length) : Le ts σ (unexpP ts n σ) := by
 unfold unexpP; split <;> exact fail_le h _ _
theorem unexp_err {σ : PS} : (unexpP ts n σ).err ≠ 0 := by
 unfold unexpP; split <;> exact fail_err (by decide)
theorem unexp_lt {σ : PS} : Lt σ (unexpP ts n σ) := fun e => absurd e unexp_err
theorem expect_le {σ : PS} {t : List UInt8} (h : σ.at_ ≤ ts.length) (ht : t ≠ []) : Le ts σ (expectP ts n σ t) := by
 unfold expectP
 split
 · rename_i hh; exact next_le (has_in h hh ht)
 · exact unexp_le h
theorem expect_lt {σ : PS} {t : List UInt8} : Lt σ (expectP ts n σ t) := by
 unfold expectP
 split
 · exact next_lt
 · exact unexp_lt
theorem isName_ne {s : List UInt8} (h : isName s = true) : s ≠ [] := by
 intro e; subst e; simp [isName] at h
theorem name_le {σ : PS} (h : σ.at_ ≤ ts.length) : Le ts σ (nameP ts n σ).2 := by
 unfold nameP
 split
 · rename_i hh; exact next_le (peek_in h (Or.inl (isName_ne hh)))
 · exact unexp_le h
theorem name_lt {σ : PS} : Lt σ (nameP ts n σ).2 := by
 unfold nameP
 split
 · exact next_lt
 · exact unexp_lt
theorem number_le {σ : PS} {a b : Int} (h : σ.at_ ≤ ts.length) : Le ts σ (numberP ts n a b σ).2 := by
 unfold numberP
 split
 · rename_i hh
   have hn := peek_in h (Or.inr (by rw [hh]; decide))
   split
   · exact next_le hn
   · exact (next_le hn).trans (fail_le (next_le hn).wf _ _)
 · exact unexp_le h
theorem number_lt {σ : PS} {a b : Int} : Lt σ (numberP ts n a b σ).2 := by
 unfold numberP
 split
 · split
   · exact next_lt
   · exact fun e => absurd e (fail_err (by decide))
 · exact unexp_lt
theorem binOf_ne {t : List UInt8} {op : Int} (h : binOf t = some op) : t ≠ [] ∧ 8 ≤ op ∧ op ≤ 23 ∧ symbol op = t := by
 unfold binOf at h
 have h1 := List.find?_some h; have h2 := List.mem_of_find?_eq_some h; have h3 := of_decide_eq_true h1; simp only [List.mem_cons, List.not_mem_nil, or_false] at h2; refine ⟨?_, by omega, by omega, h3⟩; rintro rfl
 rcases h2 with rfl | rfl | rfl | rfl | rfl | rfl | rfl | rfl | rfl | rfl | rfl | rfl | rfl | rfl | rfl | rfl <;> exact absurd h3 (by decide)
theorem expr_inv (k : Nat) : (∀ lv σ, σ.at_ ≤ ts.length → Le ts σ (exprP ts n k lv σ).2 ∧ (4 ≤ k → Lt σ (exprP ts n k lv σ).2)) ∧ (∀ lv x σ, σ.at_ ≤ ts.length → Le ts σ (climbP ts n k lv x σ).2) ∧
 (∀ σ, σ.at_ ≤ ts.length → Le ts σ (unaryP ts n k σ).2 ∧ (3 ≤ k → Lt σ (unaryP ts n k σ).2)) ∧ (∀ σ, σ.at_ ≤ ts.length → Le ts σ (primaryP ts n k σ).2 ∧ (2 ≤ k → Lt σ (primaryP ts n k σ).2)) ∧
 (∀ σ, σ.at_ ≤ ts.length → Le ts σ (placeP ts n k σ).2 ∧ (1 ≤ k → Lt σ (placeP ts n k σ).2)) := by
 induction k with
 | zero =>
  refine ⟨fun lv σ h => ⟨?_, fun h => by omega⟩, fun lv x σ h => ?_, fun σ h => ⟨?_, fun h => by omega⟩, fun σ h => ⟨?_, fun h => by omega⟩, fun σ h => ⟨?_, fun h => by omega⟩⟩
  · rw [exprP]; exact Le.refl h
  · rw [climbP]; exact Le.refl h
  · rw [unaryP]; exact Le.refl h
  · rw [primaryP]; exact Le.refl h
  · rw [placeP]; exact Le.refl h
 | succ k ih =>
  obtain ⟨iE, iC, iU, iP, iL⟩ := ih; refine ⟨fun lv σ h => ?_, fun lv x σ h => ?_, fun σ h => ?_, fun σ h => ?_, fun σ h => ?_⟩
  · rw [exprP]
    have hu := iU σ h; have hc := iC lv (unaryP ts n k σ).1 (unaryP ts n k σ).2 hu.1.wf
    exact ⟨hu.1.trans hc, fun hk => (hu.2 (by omega)).of_lt hc⟩
  · rw [climbP]
    split
    · exact Le.refl h
    · rename_i op hop
      obtain ⟨hne, -⟩ := binOf_ne hop; have hn := peek_in h (Or.inl hne)
      split
      · exact Le.refl h
      · have h1 := next_le hn
        have h2 := iE (level op + 1) (nextP σ) h1.wf
        exact (h1.trans h2.1).trans (iC _ _ _ h2.1.wf)
  · rw [unaryP]
    split
    · rename_i hh
      have hn := has_in h hh (by decide); have h1 := next_le hn; have h2 := iU (nextP σ) h1.wf
      exact ⟨h1.trans h2.1, fun _ => next_lt.of_lt h2.1⟩
    · split
      · rename_i hh
        have hn := has_in h hh (by decide); have h1 := next_le hn; have h2 := iU (nextP σ) h1.wf
        exact ⟨h1.trans h2.1, fun _ => next_lt.of_lt h2.1⟩
      · exact ⟨(iP σ h).1, fun hk => (iP σ h).2 (by omega)⟩
  · rw [primaryP]
    split
    · exact ⟨number_le h, fun _ => number_lt⟩
    · split
      · rename_i hh
        have hn := has_in h hh (by decide); have h1 := next_le hn; have h2 := h1.trans (expect_le (n := n) (t := [40]) h1.wf (by decide)); have h3 := h2.trans (name_le (n := n) h2.wf); have h4 := h3.trans (expect_le (n := n) (t := [41]) h3.wf (by decide))
        exact ⟨h4, fun _ => Lt.of_le (ts := ts) h3 expect_lt⟩
      · split
        · rename_i hh
          have hn := has_in h hh (by decide); have h1 := next_le hn; have h2 := h1.trans (expect_le (n := n) (t := [40]) h1.wf (by decide)); have h3 := h2.trans (name_le (n := n) h2.wf); have h4 := h3.trans (expect_le (n := n) (t := [41]) h3.wf (by decide))
          exact ⟨h4, fun _ => Lt.of_le (ts := ts) h3 expect_lt⟩
        · split
          · rename_i hh
            have hn := has_in h hh (by decide); have h1 := next_le hn; have h2 := h1.trans (iE 1 (nextP σ) h1.wf).1
            exact ⟨h2.trans (expect_le h2.wf (by decide)), fun _ => Lt.of_le (ts := ts) h2 expect_lt⟩
          · exact ⟨(iL σ h).1, fun hk => (iL σ h).2 (by omega)⟩
  · rw [placeP]
    have h0 := name_le (n := n) h
    split
    · rename_i hh
      have hn := has_in h0.wf hh (by decide); have h1 := h0.trans (next_le hn); have h2 := h1.trans (iE 1 _ h1.wf).1
      exact ⟨h2.trans (expect_le h2.wf (by decide)), fun _ => Lt.of_le (ts := ts) h2 expect_lt⟩
    · exact ⟨h0, fun _ => name_lt⟩
end
end Bk
namespace Bk
open Go Go.RowKit Go.Proofs
attribute [local irreducible] Go.Calls
structure PC where
 pb : Nat
 B : Nat
 ts : List Tok
 n : Int
 a : Option Addr
 cap : Nat
 r : Nat
abbrev Tok.cells (t : Tok) : List Value := [.int .u8 t.kind, str t.text, .int .i64 t.pos]
abbrev Tok.val (t : Tok) : Value := .agg #[.int .u8 t.kind, str t.text, .int .i64 t.pos]
def TokAt (w : World) (b o : Nat) (t : Tok) : Prop := Row w ⟨b, o, none⟩ t.cells
def binMap : List (List UInt8 × Value) := [8, 9, 10, 11, 12, 13, 14, 15, 16, 17, 18, 19, 20, 21, 22, 23].map fun k => (symbol k, .int .u8 k)
abbrev PC.cells (c : PC) (σ : PS) : List Value := [.slice c.a c.ts.length c.cap, .int .i64 σ.at_, .int .i64 c.n, .map (some c.r), .int .i64 σ.off, .int .i64 σ.err]
structure Errs (w : World) : Prop where
 ex : ∃ te pe, w.cell? ⟨3, 0, none⟩ = some (.iface te pe)
theorem Errs.ext {w w' : World} (h : Errs w) (x : Ext w w') : Errs w' := by
 obtain ⟨te, pe, h⟩ := h.ex
 exact ⟨te, pe, x.keep h⟩
theorem Errs.fr {S : Nat → Prop} {w w' : World} (h : Errs w) (x : Fr S w w') (hs : ¬ S 3) : Errs w' := by
 obtain ⟨te, pe, h⟩ := h.ex
 exact ⟨te, pe, x.keep hs h⟩
structure PP (c : PC) (σ : PS) (w : World) : Prop where
 blk : Blk w c.pb (c.cells σ)
 toks : Arr (fun b => b < c.B ∧ b ≠ c.pb) 3 TokAt w c.ts c.a
 map : MapIs w c.r binMap
 pbB : c.pb < c.B
 rB : c.r < c.B
 rne : c.r ≠ c.pb
 B : c.B ≤ w.heap.size
 at_ : σ.at_ ≤ c.ts.length
 len : c.ts.length ≤ 1000000
 tok : ∀ t ∈ c.ts, t.text.length ≤ 1000000
 num : ∀ t ∈ c.ts, t.kind = 2 → t.text ≠ [] ∧ ∀ x ∈ t.text, digit x = true
 errs : Errs w
 gl : 3 < c.pb
theorem PP.ext {c : PC} {σ : PS} {w w' : World} (h : PP c σ w) (x : Ext w w') : PP c σ w' :=
 ⟨h.blk.ext x, h.toks.mono (fun _ h => h) (fun _ _ _ _ _ h => Row.ext h x), h.map.ext x, h.pbB, h.rB, h.rne, Nat.le_trans h.B x.size, h.at_, h.len, h.tok, h.num, h.errs.ext x, h.gl⟩
theorem PP.fr {c : PC} {σ : PS} {S : Nat → Prop} {w w' : World} (h : PP c σ w) (x : Fr S w w') (hs : ∀ k, S k → c.B ≤ k) : PP c σ w' :=
 ⟨h.blk.fr x (fun e => by have := hs _ e; have := h.pbB; omega), h.toks.mono (fun _ h => h) (fun b _ _ _ hb h => Row.fr h x (fun e => by have h1 := hs _ e; have h2 := hb.1; have h3 : c.B ≤ b := h1; omega)), h.map.fr x (fun e => by have := hs _ e; have := h.rB; omega), h.pbB, h.rB, h.rne, Nat.le_trans h.B x.size, h.at_, h.len, h.tok, h.num, h.errs.fr x (fun e => by have := hs _ e; have := h.gl; have := h.pbB; omega), h.gl⟩
theorem PP.put {c : PC} {σ σ' : PS} {w w' : World} (h : PP c σ w) (p : Put w w' c.pb (c.cells σ')) (ha : σ'.at_ ≤ c.ts.length) : PP c σ' w' :=
 ⟨p.blk, h.toks.mono (fun _ h => h) (fun b _ _ _ hb h => Row.fr h p.fr (fun e => hb.2 e)), h.map.fr p.fr (fun e => h.rne e), h.pbB, h.rB, h.rne, Nat.le_trans h.B p.fr.size, ha, h.len, h.tok, h.num, h.errs.fr p.fr (fun e => by have := h.gl; have e' : 3 = c.pb := e; omega), h.gl⟩
section
variable {P : Program} {n : Nat} {ops : Array Oper} {Q : Exit → Act → World → Prop} {rest : List Oper} {l : Sl} {w : World} {tab : Tab} {ty : TypeId} {pos : String} {after : Array Edge}
theorem lw_pp {c : PC} {σ σ' : PS} {x y : Operand} {t sz o : Nat} {s : Sk} {v : Value} (T : TabOk P tab) (ht : lookT tab t = some (s, sz)) (hsz : sz = 1) (hx : ev l x = some (.pointer (some ⟨c.pb, o, none⟩))) (hy : ev l y = some v) (hv : v.cells = #[v]) (h1 : Value.one v = true) (hP : PP c σ w) (ho : Nat.ble (o + 1) 6 = true)
 (he : (c.cells σ).set o v = c.cells σ') (ha : σ'.at_ ≤ c.ts.length) (k : ∀ w1, PP c σ' w1 → Fr (· = c.pb) w w1 → LW P n ops Q rest l w1) : LW P n ops Q (⟨none, .store t x y, ty, pos, after, none⟩ :: rest) l w :=
 lw_store T ht hx hy (us := [v]) hv (by simp [hsz]) (by simp [h1]) hP.blk (by simpa using ho) (fun w1 p => by
  have e : setMany (c.cells σ) o [v] = c.cells σ' := by simp only [setMany]; exact he
  rw [e] at p
  exact k w1 (hP.put p ha) p.fr)
theorem lw_pp_at {c : PC} {σ : PS} {x y : Operand} {t sz : Nat} {s : Sk} (T : TabOk P tab) (ht : lookT tab t = some (s, sz)) (hsz : sz = 1) (hx : ev l x = some (.pointer (some ⟨c.pb, 1, none⟩))) (hy : ev l y = some (.int .i64 ((σ.at_ : Int) + 1))) (hP : PP c σ w) (ha : σ.at_ < c.ts.length)
 (k : ∀ w1, PP c (nextP σ) w1 → Fr (· = c.pb) w w1 → LW P n ops Q rest l w1) : LW P n ops Q (⟨none, .store t x y, ty, pos, after, none⟩ :: rest) l w :=
 lw_pp (σ' := nextP σ) T ht hsz hx hy rfl rfl hP rfl rfl ha k
theorem lw_pp_off {c : PC} {σ : PS} {x y : Operand} {t sz : Nat} {s : Sk} {v : Int} (T : TabOk P tab) (ht : lookT tab t = some (s, sz)) (hsz : sz = 1) (hx : ev l x = some (.pointer (some ⟨c.pb, 4, none⟩))) (hy : ev l y = some (.int .i64 v)) (hP : PP c σ w)
 (k : ∀ w1, PP c ⟨σ.at_, v, σ.err⟩ w1 → Fr (· = c.pb) w w1 → LW P n ops Q rest l w1) : LW P n ops Q (⟨none, .store t x y, ty, pos, after, none⟩ :: rest) l w :=
 lw_pp (σ' := ⟨σ.at_, v, σ.err⟩) T ht hsz hx hy rfl rfl hP rfl rfl hP.at_ k
theorem lw_pp_err {c : PC} {σ : PS} {x y : Operand} {t sz : Nat} {s : Sk} {v : Int} (T : TabOk P tab) (ht : lookT tab t = some (s, sz)) (hsz : sz = 1) (hx : ev l x = some (.pointer (some ⟨c.pb, 5, none⟩))) (hy : ev l y = some (.int .i64 v)) (hP : PP c σ w)
 (k : ∀ w1, PP c ⟨σ.at_, σ.off, v⟩ w1 → Fr (· = c.pb) w w1 → LW P n ops Q rest l w1) : LW P n ops Q (⟨none, .store t x y, ty, pos, after, none⟩ :: rest) l w :=
 lw_pp (σ' := ⟨σ.at_, σ.off, v⟩) T ht hsz hx hy rfl rfl hP rfl rfl hP.at_ k
end
theorem peek_off {ts : List Tok} {σ : PS} (h : σ.err ≠ 0 ∨ σ.at_ = ts.length) : peekP ts σ = Tok.zero := by unfold peekP; rw [if_pos h]
theorem peek_is {ts : List Tok} {σ : PS} (h : ¬ (σ.err ≠ 0 ∨ σ.at_ = ts.length)) (hl : σ.at_ < ts.length) : peekP ts σ = ts[σ.at_] := by unfold peekP; rw [if_neg h]; simp [hl]
set_option maxRecDepth 100000 in
set_option maxHeartbeats 1000000 in
theorem peek_c (c : PC) (σ : PS) (w : World) (hP : PP c σ w) :
 Calls Tryz.prog 55 #[.pointer (some ⟨c.pb, 0, none⟩)] w fun e w' => e = .returned (peekP c.ts σ).val ∧ Ext w w' := by
 have hat := hP.at_; have X := Ext.refl w
 by_cases h : σ.err ≠ 0 ∨ σ.at_ = c.ts.length
 · rw [peek_off h]
   by_cases he : σ.err = 0
   · have ha : σ.at_ = c.ts.length := h.resolve_left (fun e => e he)
     refine calls_in Tryz.func55 Tryz.ntmps55 rfl rfl ?_
     focus
      refine cS ?_; (refine lw_alloc' [_, _, _] zOk rfl rfl ?_; intro b1 w2 n3); have h5 := n3.blk; have x6 := n3.ext; have p7 := n3.pos; have z8 := n3.size; clear n3; replace hP := hP.ext x6; replace X := X.ext x6; clear x6; refine cT (cw_seq (cw_seq ?_)); (refine cw_tdraw (fun wz => Ext w2 wz) 15 (.pure 0 (.pure 1 (.pure 2 (.pure 3 (.pure 4 (.pure 5 (.pure 6 (.pure 7 (.pure 8 (.pure 9 (.pure 10 (.pure 11 (.pure 12 (.pure 13 (.pure 14 .tail))))))))))))))) mixed (by kernel_rfl) (panicOk_then (panicOk_then panicOk_body)) ?_; intro w9 x10 _); have qs11 : (fun wz => Ext w2 wz) w9 := x10; simp only at qs11; have d_h5 := h5; have d_hP := hP; have z12 := x10.size; replace h5 := h5.ext x10; replace hP := hP.ext x10; replace X := X.ext x10; clear x10; refine ⟨qs11, ?_⟩; refine Tq rfl Mv (Tq rfl Pn (Tq rfl Pf (Tq rfl (pur_load tabOk rfl rfl rfl (fun wz hz => Blk.cell (Blk.ext (PP.blk d_hP) hz) rfl)) (Tq rfl V2 (Tq rfl Mv ?_))))); refine tw_on rfl rfl rfl rfl (gd_ff (by omega)) (pur_move rfl) rfl ?_; refine tw_on rfl rfl rfl rfl (gd_ff (by omega)) (pur_nilCheck rfl) rfl ?_; refine tw_on rfl rfl rfl rfl (gd_ff (by omega)) (pur_fieldAddr tabOk rfl rfl rfl) rfl ?_; refine tw_on rfl rfl rfl rfl (gd_ff (by omega)) (pur_load tabOk rfl rfl rfl (fun wz hz => Blk.cell (Blk.ext (PP.blk d_hP) hz) rfl)) rfl ?_; refine tw_on rfl rfl rfl rfl (gd_ff (by omega)) (pur_move rfl) rfl ?_; refine tw_on rfl rfl rfl rfl (gd_ff (by omega)) (pur_nilCheck rfl) rfl ?_; refine tw_on rfl rfl rfl rfl (gd_ff (by omega)) (pur_fieldAddr0 tabOk rfl rfl rfl) rfl ?_
      refine tw_on rfl rfl rfl rfl (gd_ff (by omega)) (pur_load tabOk rfl rfl rfl (fun wz hz => Blk.cell (Blk.ext (PP.blk d_hP) hz) rfl)) rfl ?_; refine tw_on rfl rfl rfl rfl (gd_ff (by omega)) (pur_len_slice tabOk rfl rfl) rfl ?_; clear qs11 d_h5 d_hP; refine tw_tail rfl (Gno (C1 V1 (C1 Qno (cT (Wyo (cS (C1 (pur_build' [_, _, _] tabOk zOk rfl rfl rfl rfl) ?_))))))); (refine lw_store' [_, _, _] [_, _, _] tabOk rfl rfl rfl rfl rfl rfl h5 rfl rfl ?_; intro w13 n14); have h17 := n14.blk; have f15 := n14.fr; have z16 := n14.size; clear n14 h5 hP; replace X := X.fr f15 (by omega); clear f15; refine cT (cw_ret (qw_then_ret (qw_retc rfl tabOk rfl rfl rfl h17 rfl ?_))); rotate_left 1
     exact ⟨rfl, X⟩
   · refine calls_in Tryz.func55 Tryz.ntmps55 rfl rfl ?_
     focus
      refine cS ?_; (refine lw_alloc' [_, _, _] zOk rfl rfl ?_; intro ba1 wa2 na3); have ha5 := na3.blk; have xa6 := na3.ext; have pa7 := na3.pos; have za8 := na3.size; clear na3; replace hP := hP.ext xa6; replace X := X.ext xa6; clear xa6; refine cT (cw_seq (cw_seq ?_)); (refine cw_tdraw (fun wz => Ext wa2 wz) 15 (.pure 0 (.pure 1 (.pure 2 (.pure 3 (.pure 4 (.pure 5 (.pure 6 (.pure 7 (.pure 8 (.pure 9 (.pure 10 (.pure 11 (.pure 12 (.pure 13 (.pure 14 .tail))))))))))))))) mixed (by kernel_rfl) (panicOk_then (panicOk_then panicOk_body)) ?_; intro wa9 xa10 _); have qsa11 : (fun wz => Ext wa2 wz) wa9 := xa10; simp only at qsa11; have d_ha5 := ha5; have d_hP := hP; have za12 := xa10.size; replace ha5 := ha5.ext xa10; replace hP := hP.ext xa10; replace X := X.ext xa10; clear xa10; refine ⟨qsa11, ?_⟩; refine Tq rfl Mv (Tq rfl Pn (Tq rfl Pf (Tq rfl (pur_load tabOk rfl rfl rfl (fun wz hz => Blk.cell (Blk.ext (PP.blk d_hP) hz) rfl)) (Tq rfl V2 (Tq rfl Mv ?_))))); refine tw_off rfl rfl rfl rfl (gd_ft (by assumption)) rfl ?_; refine tw_off rfl rfl rfl rfl (gd_ft (by assumption)) rfl ?_; refine tw_off rfl rfl rfl rfl (gd_ft (by assumption)) rfl ?_; refine tw_off rfl rfl rfl rfl (gd_ft (by assumption)) rfl ?_; refine tw_off rfl rfl rfl rfl (gd_ft (by assumption)) rfl ?_; refine tw_off rfl rfl rfl rfl (gd_ft (by assumption)) rfl ?_; refine tw_off rfl rfl rfl rfl (gd_ft (by assumption)) rfl ?_; refine tw_off rfl rfl rfl rfl (gd_ft (by assumption)) rfl ?_; refine tw_off rfl rfl rfl rfl (gd_ft (by assumption)) rfl ?_
      clear qsa11 d_ha5 d_hP; refine tw_tail rfl (Oya (C1 Qya (cT (cw_cond_t rfl (cS (C1 (pur_build' [_, _, _] tabOk zOk rfl rfl rfl rfl) ?_)))))); (refine lw_store' [_, _, _] [_, _, _] tabOk rfl rfl rfl rfl rfl rfl ha5 rfl rfl ?_; intro wa13 na14); have ha17 := na14.blk; have fa15 := na14.fr; have za16 := na14.size; clear na14 ha5 hP; replace X := X.fr fa15 (by omega); clear fa15; refine cT (cw_ret (qw_then_ret (qw_retc rfl tabOk rfl rfl rfl ha17 rfl ?_))); rotate_left 1
     exact ⟨rfl, X⟩
 · have he : σ.err = 0 := Decidable.byContradiction fun e => h (Or.inl e)
   have hlt : σ.at_ < c.ts.length := by have : σ.at_ ≠ c.ts.length := fun e => h (Or.inr e); omega
   rw [peek_is h hlt]; obtain ⟨tb, tof, hta, -, hrow⟩ := hP.toks.get (by omega); have hr : Row w ⟨tb, tof + σ.at_ * 3, none⟩ c.ts[σ.at_].cells := hrow σ.at_ _ (List.getElem?_eq_getElem hlt); clear hrow; refine calls_in Tryz.func55 Tryz.ntmps55 rfl rfl ?_
   focus
    refine cS ?_; (refine lw_alloc' [_, _, _] zOk rfl rfl ?_; intro bb1 wb2 nb3); have hb5 := nb3.blk; have xb6 := nb3.ext; have pb7 := nb3.pos; have zb8 := nb3.size; clear nb3; replace hP := hP.ext xb6; replace X := X.ext xb6; replace hr := hr.ext xb6; clear xb6; refine cT (cw_seq (cw_seq ?_)); (refine cw_tdraw (fun wz => Ext wb2 wz) 15 (.pure 0 (.pure 1 (.pure 2 (.pure 3 (.pure 4 (.pure 5 (.pure 6 (.pure 7 (.pure 8 (.pure 9 (.pure 10 (.pure 11 (.pure 12 (.pure 13 (.pure 14 .tail))))))))))))))) mixed (by kernel_rfl) (panicOk_then (panicOk_then panicOk_body)) ?_; intro wb9 xb10 _); have qsb11 : (fun wz => Ext wb2 wz) wb9 := xb10; simp only at qsb11; have d_hb5 := hb5; have d_hP := hP; have d_hr := hr; have zb12 := xb10.size; replace hb5 := hb5.ext xb10; replace hP := hP.ext xb10; replace X := X.ext xb10; replace hr := hr.ext xb10; clear xb10; refine ⟨qsb11, ?_⟩; refine Tq rfl Mv (Tq rfl Pn (Tq rfl Pf (Tq rfl (pur_load tabOk rfl rfl rfl (fun wz hz => Blk.cell (Blk.ext (PP.blk d_hP) hz) rfl)) (Tq rfl V2 (Tq rfl Mv ?_))))); refine tw_on rfl rfl rfl rfl (gd_ff (by omega)) (pur_move rfl) rfl ?_; refine tw_on rfl rfl rfl rfl (gd_ff (by omega)) (pur_nilCheck rfl) rfl ?_; refine tw_on rfl rfl rfl rfl (gd_ff (by omega)) (pur_fieldAddr tabOk rfl rfl rfl) rfl ?_; refine tw_on rfl rfl rfl rfl (gd_ff (by omega)) (pur_load tabOk rfl rfl rfl (fun wz hz => Blk.cell (Blk.ext (PP.blk d_hP) hz) rfl)) rfl ?_; refine tw_on rfl rfl rfl rfl (gd_ff (by omega)) (pur_move rfl) rfl ?_; refine tw_on rfl rfl rfl rfl (gd_ff (by omega)) (pur_nilCheck rfl) rfl ?_
    refine tw_on rfl rfl rfl rfl (gd_ff (by omega)) (pur_fieldAddr0 tabOk rfl rfl rfl) rfl ?_; refine tw_on rfl rfl rfl rfl (gd_ff (by omega)) (pur_load tabOk rfl rfl rfl (fun wz hz => Blk.cell (Blk.ext (PP.blk d_hP) hz) rfl)) rfl ?_; refine tw_on rfl rfl rfl rfl (gd_ff (by omega)) (pur_len_slice tabOk rfl rfl) rfl ?_; clear qsb11 d_hb5 d_hP d_hr; refine tw_tail rfl (Gno (C1 V1 (C1 Qno (cT (Wno (cw_skip (qw_then (cw_seq ?_)))))))); (refine cw_tdraw (fun wz => Ext wb9 wz) 8 (.pure 0 (.pure 1 (.pure 2 (.pure 3 (.pure 4 (.pure 5 (.pure 6 (.pure 7 .tail)))))))) mixed (by kernel_rfl) (panicOk_then panicOk_body) ?_; intro wb13 xb14 _); have qsb15 : (fun wz => Ext wb9 wz) wb13 := xb14; simp only at qsb15; have d_hb5 := hb5; have d_hP := hP; have d_hr := hr; have zb16 := xb14.size; replace hb5 := hb5.ext xb14; replace hP := hP.ext xb14; replace X := X.ext xb14; replace hr := hr.ext xb14; clear xb14; refine ⟨qsb15, ?_⟩; refine Tq rfl Mv (Tq rfl Pn (Tq rfl Pg (Tq rfl (pur_load tabOk rfl rfl rfl (fun wz hz => Blk.cell (Blk.ext (PP.blk d_hP) hz) rfl)) (Tq rfl Mv (Tq rfl Pn (Tq rfl Pf (Tq rfl (pur_load tabOk rfl rfl rfl (fun wz hz => Blk.cell (Blk.ext (PP.blk d_hP) hz) rfl)) ?_))))))); clear qsb15 d_hb5 d_hP d_hr; refine tw_tail rfl ?_; refine C1 (pur_indexAddr_eq tabOk rfl rfl rfl (by assumption) rfl (by omega) (by omega)) ?_; refine C1 (Pws hr) ?_; (refine lw_store' [_, _, _] [_, _, _] tabOk rfl rfl rfl rfl rfl rfl hb5 rfl rfl ?_; intro wb17 nb18); have hb21 := nb18.blk; have fb19 := nb18.fr
    have zb20 := nb18.size; clear nb18 hb5 hP; replace X := X.fr fb19 (by omega); clear hr fb19; refine cT (cw_ret (qw_retc rfl tabOk rfl rfl rfl hb21 rfl ?_)); rotate_left 1
   exact ⟨rfl, X⟩
set_option maxRecDepth 100000 in
set_option maxHeartbeats 1000000 in
theorem fail_c (c : PC) (σ : PS) (off e : Int) (w : World) (hP : PP c σ w) :
 Calls Tryz.prog 95 #[.pointer (some ⟨c.pb, 0, none⟩), .int .i64 off, .int .i64 e] w fun r w' => r = .returned (.tuple #[]) ∧ PP c (failP σ off e) w' ∧ Fr (· = c.pb) w w' := by
 have X := Fr.refl (· = c.pb) w
 by_cases he : σ.err = 0
 · rw [show failP σ off e = ⟨σ.at_, off, e⟩ from by simp [failP, he]]
   refine calls_in Tryz.func95 Tryz.ntmps95 rfl rfl ?_
   focus
    refine cS (C1 Mv (C1 Pn (C1 Pf (lw_load_b tabOk rfl rfl rfl (PP.blk hP) rfl rfl (C1 V1 (cT (Wya (cw_region (C1 Mv (C1 Mv (C1 Mv ?_))))))))))); refine C1 Mv (C1 Pn (C1 Pf (lw_pp_off tabOk rfl rfl rfl rfl hP ?_))); rintro w1 h2 f3; have z4 := f3.size; clear hP; replace X := X.fr f3 (by omega); clear f3; refine C1 Pn (C1 Pf ?_); refine lw_pp_err tabOk rfl rfl rfl rfl (by assumption) ?_; rintro w5 h6 f7; have z8 := f7.size; clear h2; replace X := X.fr f7 (by omega); clear f7; refine lw_nil (qw_end0 rfl ?_); rotate_left 1
   exact ⟨rfl, by assumption, X⟩
 · rw [show failP σ off e = σ from by simp [failP, he]]
   refine calls_in Tryz.func95 Tryz.ntmps95 rfl rfl ?_
   focus
    refine cS (C1 Mv (C1 Pn (C1 Pf (lw_load_b tabOk rfl rfl rfl (PP.blk hP) rfl rfl (C1 V1 (cT (Wna (cw_skip (qw_end0 rfl ?_))))))))); rotate_left 1
   exact ⟨rfl, hP, X⟩
set_option maxRecDepth 100000 in
set_option maxHeartbeats 1000000 in
theorem unexpected_c (c : PC) (σ : PS) (w : World) (hP : PP c σ w) :
 Calls Tryz.prog 63 #[.pointer (some ⟨c.pb, 0, none⟩)] w fun r w' => r = .returned (.tuple #[]) ∧ PP c (unexpP c.ts c.n σ) w' ∧ Fr (· = c.pb) w w' := by
 have X := Fr.refl (· = c.pb) w
 by_cases hlt : σ.at_ < c.ts.length
 · rw [show unexpP c.ts c.n σ = failP σ (c.ts[σ.at_]).pos 3 from by simp [unexpP, hlt]]
   obtain ⟨tb, tof, hta, -, hrow⟩ := hP.toks.get (by omega); have hr : Row w ⟨tb, tof + σ.at_ * 3, none⟩ c.ts[σ.at_].cells := hrow σ.at_ _ (List.getElem?_eq_getElem hlt); clear hrow; refine calls_in Tryz.func63 Tryz.ntmps63 rfl rfl ?_
   focus
    refine cw_seq ?_; (refine cw_tdraw (fun wz => Ext w wz) 9 (.pure 0 (.pure 1 (.pure 2 (.pure 3 (.pure 4 (.pure 5 (.pure 6 (.pure 7 (.pure 8 .tail))))))))) mixed (by kernel_rfl) (panicOk_then panicOk_body) ?_; intro w1 x2 _); have qs3 : (fun wz => Ext w wz) w1 := x2; simp only at qs3; have d_hP := hP; have d_hr := hr; have z4 := x2.size; replace hP := hP.ext x2; replace X := X.ext x2; replace hr := hr.ext x2; clear x2; refine ⟨qs3, ?_⟩; refine Tq rfl Mv (Tq rfl Pn (Tq rfl Pf (Tq rfl (pur_load tabOk rfl rfl rfl (fun wz hz => Blk.cell (Blk.ext (PP.blk d_hP) hz) rfl)) (Tq rfl Mv (Tq rfl Pn (Tq rfl Pg (Tq rfl (pur_load tabOk rfl rfl rfl (fun wz hz => Blk.cell (Blk.ext (PP.blk d_hP) hz) rfl)) (Tq rfl Pz ?_)))))))); clear qs3 d_hP d_hr; refine tw_tail rfl (C1 V3 (cT (Wyo ?_))); (refine cw_tdraw (fun wz => Ext w1 wz) 12 (.pure 0 (.pure 1 (.pure 2 (.pure 3 (.pure 4 (.pure 5 (.pure 6 (.pure 7 (.pure 8 (.pure 9 (.pure 10 (.pure 11 .tail)))))))))))) mixed (by kernel_rfl) panicOk_body ?_; intro w5 x6 _); have qs7 : (fun wz => Ext w1 wz) w5 := x6; simp only at qs7; have d_hP := hP; have d_hr := hr; have z8 := x6.size; replace hP := hP.ext x6; replace X := X.ext x6; replace hr := hr.ext x6; clear x6; refine ⟨qs7, ?_⟩; refine Tq rfl Mv (Tq rfl Mv (Tq rfl Pn (Tq rfl Pg (Tq rfl (pur_load tabOk rfl rfl rfl (fun wz hz => Blk.cell (Blk.ext (PP.blk d_hP) hz) rfl)) (Tq rfl Mv (Tq rfl Pn (Tq rfl Pf (Tq rfl (pur_load tabOk rfl rfl rfl (fun wz hz => Blk.cell (Blk.ext (PP.blk d_hP) hz) rfl)) ?_))))))))
    refine Tq rfl (pur_indexAddr_eq tabOk rfl rfl rfl (by assumption) rfl (by omega) (by omega)) ?_; refine Tq rfl Pf (Tq rfl (Dr d_hr) ?_); clear qs7 d_hP d_hr; refine tw_tail rfl ?_; refine cC rfl (fail_c _ _ _ _ _ (by assumption)) ?_; rintro _ w11 ⟨⟨⟩, ⟨h9, f10⟩⟩; have z12 := f10.size; clear hP; replace X := X.fr f10 (by omega); clear hr f10; refine lw_nil (qw_end0 rfl ?_); rotate_left 1
   exact ⟨rfl, by assumption, X⟩
 · rw [show unexpP c.ts c.n σ = failP σ c.n 4 from by simp [unexpP, hlt]]
   refine calls_in Tryz.func63 Tryz.ntmps63 rfl rfl ?_
   focus
    refine cw_seq ?_; (refine cw_tdraw (fun wz => Ext w wz) 9 (.pure 0 (.pure 1 (.pure 2 (.pure 3 (.pure 4 (.pure 5 (.pure 6 (.pure 7 (.pure 8 .tail))))))))) mixed (by kernel_rfl) (panicOk_then panicOk_body) ?_; intro wa1 xa2 _); have qsa3 : (fun wz => Ext w wz) wa1 := xa2; simp only at qsa3; have d_hP := hP; have za4 := xa2.size; replace hP := hP.ext xa2; replace X := X.ext xa2; clear xa2; refine ⟨qsa3, ?_⟩; refine Tq rfl Mv (Tq rfl Pn (Tq rfl Pf (Tq rfl (pur_load tabOk rfl rfl rfl (fun wz hz => Blk.cell (Blk.ext (PP.blk d_hP) hz) rfl)) (Tq rfl Mv (Tq rfl Pn (Tq rfl Pg (Tq rfl (pur_load tabOk rfl rfl rfl (fun wz hz => Blk.cell (Blk.ext (PP.blk d_hP) hz) rfl)) (Tq rfl Pz ?_)))))))); clear qsa3 d_hP; refine tw_tail rfl (C1 V3 (cT (Wno (cw_region (C1 Mv (C1 Mv (C1 Pn (C1 Pf (lw_load_b tabOk rfl rfl rfl (PP.blk hP) rfl rfl ?_))))))))); refine cC rfl (fail_c _ _ _ _ _ (by assumption)) ?_; rintro _ wa7 ⟨⟨⟩, ⟨ha5, fa6⟩⟩; have za8 := fa6.size; clear hP; replace X := X.fr fa6 (by omega); clear fa6; refine lw_nil (qw_end0 rfl ?_); rotate_left 1
   exact ⟨rfl, by assumption, X⟩
set_option maxRecDepth 100000 in
set_option maxHeartbeats 1000000 in
theorem accept_c (c : PC) (σ : PS) (t : List UInt8) (w : World) (hP : PP c σ w) (ht : t ≠ []) :
 Calls Tryz.prog 62 #[.pointer (some ⟨c.pb, 0, none⟩), str t] w fun r w' => r = .returned (.bool (hasP c.ts σ t)) ∧ PP c (acceptP c.ts σ t) w' ∧ Fr (· = c.pb) w w' := by
 have X := Fr.refl (· = c.pb) w; have hl := hP.len
 by_cases h : (peekP c.ts σ).text = t
 · have h1 : hasP c.ts σ t = true := by simp [hasP, h]
   rw [show acceptP c.ts σ t = nextP σ from by simp [acceptP, h1], h1]; obtain ⟨h2, h3⟩ := has_in hP.at_ h1 ht; refine calls_in Tryz.func62 Tryz.ntmps62 rfl rfl ?_
   focus
    refine cS (C1 Pa (cT (cw_seq (cS (C1 Mv ?_))))); refine cC rfl (peek_c _ _ _ (by assumption)) ?_; rintro _ w2 ⟨⟨⟩, x1⟩; have z3 := x1.size; replace hP := hP.ext x1; replace X := X.ext x1; clear x1; refine C1 (pur_field tabOk rfl rfl rfl rfl rfl rfl) (C1 Mv (C1 V9 (cT ?_))); refine cw_no rfl (not_not_intro (by assumption)) ?_; refine cw_skip (qw_then (cS (C1 Mv (C1 Pn (C1 Pf (lw_load_b tabOk rfl rfl rfl (PP.blk hP) rfl rfl (C1 V7 (C1 Pn (C1 Pf ?_))))))))); refine lw_pp_at tabOk rfl rfl rfl rfl (by assumption) h3 ?_; rintro w4 h5 f6; have z7 := f6.size; clear hP; replace X := X.fr f6 (by omega); clear f6; refine cN (C1 Pa (cT (cw_ret (qw_ret1 rfl rfl ?_)))); rotate_left 1
   exact ⟨rfl, by assumption, X⟩
 · have h1 : hasP c.ts σ t = false := by simp [hasP, h]
   rw [show acceptP c.ts σ t = σ from by simp [acceptP, h1], h1]; refine calls_in Tryz.func62 Tryz.ntmps62 rfl rfl ?_
   focus
    refine cS (C1 Pa (cT (cw_seq (cS (C1 Mv ?_))))); refine cC rfl (peek_c _ _ _ (by assumption)) ?_; rintro _ wa2 ⟨⟨⟩, xa1⟩; have za3 := xa1.size; replace hP := hP.ext xa1; replace X := X.ext xa1; clear xa1; refine C1 (pur_field tabOk rfl rfl rfl rfl rfl rfl) (C1 Mv (C1 V9 (cT (Wya (cS (C1 Pa (cT (cw_ret (qw_then_ret (qw_ret1 rfl rfl ?_)))))))))); rotate_left 1
   exact ⟨rfl, by assumption, X⟩
theorem accept_t (c : PC) (σ : PS) (t : List UInt8) (w : World) (hP : PP c σ w) (ht : t ≠ []) (h : hasP c.ts σ t = true) :
 Calls Tryz.prog 62 #[.pointer (some ⟨c.pb, 0, none⟩), str t] w fun r w' => r = .returned (.bool true) ∧ PP c (nextP σ) w' ∧ Fr (· = c.pb) w w' := by
 have := accept_c c σ t w hP ht; rw [show acceptP c.ts σ t = nextP σ from by simp [acceptP, h], h] at this
 exact this
theorem accept_f (c : PC) (σ : PS) (t : List UInt8) (w : World) (hP : PP c σ w) (ht : t ≠ []) (h : hasP c.ts σ t = false) :
 Calls Tryz.prog 62 #[.pointer (some ⟨c.pb, 0, none⟩), str t] w fun r w' => r = .returned (.bool false) ∧ PP c σ w' ∧ Fr (· = c.pb) w w' := by
 have := accept_c c σ t w hP ht; rw [show acceptP c.ts σ t = σ from by simp [acceptP, h], h] at this
 exact this
set_option maxRecDepth 100000 in
set_option maxHeartbeats 1000000 in
theorem expect_c (c : PC) (σ : PS) (t : List UInt8) (w : World) (hP : PP c σ w) (ht : t ≠ []) :
 Calls Tryz.prog 31 #[.pointer (some ⟨c.pb, 0, none⟩), str t] w fun r w' => r = .returned (.tuple #[]) ∧ PP c (expectP c.ts c.n σ t) w' ∧ Fr (· = c.pb) w w' := by
 have X := Fr.refl (· = c.pb) w
 cases h : hasP c.ts σ t
 · have e1 : acceptP c.ts σ t = σ := by simp [acceptP, h]
   have e2 : expectP c.ts c.n σ t = unexpP c.ts c.n σ := by simp [expectP, h]
   rw [e2]; refine calls_in Tryz.func31 Tryz.ntmps31 rfl rfl ?_
   focus
    refine cS (C1 Mv (C1 Mv ?_)); refine cC rfl (accept_c _ _ _ _ (by assumption) (by assumption)) ?_; rintro _ w3 ⟨⟨⟩, ⟨h1, f2⟩⟩; have z4 := f2.size; clear hP; replace X := X.fr f2 (by omega); clear f2; refine C1 Pt (cT ?_); refine cw_nt rfl (by assumption) ?_; refine cw_region (C1 Mv ?_); refine cC rfl (unexpected_c _ _ _ (by assumption)) ?_; rintro _ w7 ⟨⟨⟩, ⟨h5, f6⟩⟩; have z8 := f6.size; clear h1; replace X := X.fr f6 (by omega); clear f6; refine lw_nil (qw_end0 rfl ?_); rotate_left 1
   exact ⟨rfl, by rw [e1] at *; assumption, X⟩
 · have e1 : acceptP c.ts σ t = nextP σ := by simp [acceptP, h]
   have e2 : expectP c.ts c.n σ t = nextP σ := by simp [expectP, h]
   rw [e2]; refine calls_in Tryz.func31 Tryz.ntmps31 rfl rfl ?_
   focus
    refine cS (C1 Mv (C1 Mv ?_)); refine cC rfl (accept_c _ _ _ _ (by assumption) (by assumption)) ?_; rintro _ wa3 ⟨⟨⟩, ⟨ha1, fa2⟩⟩; have za4 := fa2.size; clear hP; replace X := X.fr fa2 (by omega); clear fa2; refine C1 Pt (cT ?_); refine cw_nf rfl (by assumption) ?_; refine cw_skip (qw_end0 rfl ?_); rotate_left 1
   exact ⟨rfl, by rw [e1] at *; assumption, X⟩
end Bk
namespace Bk
open Go Go.RowKit Go.Proofs
attribute [local irreducible] Go.Calls
theorem peek_len {c : PC} {σ : PS} {w : World} (hP : PP c σ w) : (peekP c.ts σ).text.length ≤ 1000000 := by
 by_cases h : σ.err ≠ 0 ∨ σ.at_ = c.ts.length
 · rw [peek_off h]; simp [Tok.zero]
 · have hlt : σ.at_ < c.ts.length := by have : σ.at_ ≠ c.ts.length := fun e => h (Or.inr e); have := hP.at_; omega
   rw [peek_is h hlt]
   exact hP.tok _ (List.getElem_mem hlt)
def TreeR (c : PC) (w : World) (r : Nd × PS) : Ending → World → Prop := fun e w' => ∃ a k, e = .returned (r.1.val a k) ∧ r.1.sits (fun b => w.heap.size ≤ b ∧ b < w'.heap.size) w' a ∧ PP c r.2 w' ∧ Fr (· = c.pb) w w'
theorem tree_ret {c : PC} {w w' : World} {r : Nd × PS} {a : Option Addr} {k : Nat} (hs : r.1.sits (w.heap.size ≤ ·) w' a) (hP : PP c r.2 w') (X : Fr (· = c.pb) w w') : TreeR c w r (.returned (r.1.val a k)) w' :=
 ⟨a, k, rfl, sits_lt2 _ _ hs, hP, X⟩
theorem TreeR.ret {c : PC} {w : World} {r : Nd × PS} {e : Ending} {w' : World} (h : TreeR c w r e w') : ∃ v, e = .returned v := by
 obtain ⟨_, _, h, -⟩ := h
 exact ⟨_, h⟩
set_option maxRecDepth 100000 in
set_option maxHeartbeats 1000000 in
theorem name_c (c : PC) (σ : PS) (w : World) (hP : PP c σ w) :
 Calls Tryz.prog 93 #[.pointer (some ⟨c.pb, 0, none⟩)] w fun r w' => r = .returned (str (nameP c.ts c.n σ).1) ∧ PP c (nameP c.ts c.n σ).2 w' ∧ Fr (· = c.pb) w w' := by
 have X := Fr.refl (· = c.pb) w; have hl := hP.len; have hpl := peek_len hP; have hpb := hP.pbB; have hB := hP.B
 cases h : isName (peekP c.ts σ).text
 · rw [show nameP c.ts c.n σ = ([], unexpP c.ts c.n σ) from by simp [nameP, h]]
   refine calls_in Tryz.func93 Tryz.ntmps93 rfl rfl ?_
   focus
    refine cS (C1 Pa (cN (C1 Mv ?_))); refine cC rfl (peek_c _ _ _ (by assumption)) ?_; rintro _ w2 ⟨⟨⟩, x1⟩; have z3 := x1.size; replace hP := hP.ext x1; replace X := X.ext x1; clear x1; (refine lw_alloc' [_, _, _] zOk rfl rfl ?_; intro b4 w5 n6); (refine lw_init' [_, _, _] tabOk rfl rfl rfl rfl rfl rfl n6 rfl ?_; clear n6; clear w5; intro w7 n6); have h8 := n6.blk; have x9 := n6.ext; have p10 := n6.pos; have z11 := n6.size; clear n6; replace hP := hP.ext x9; replace X := X.ext x9; clear x9; refine cT (cw_seq (cS (C1 Pf (C1 (Pl h8) ?_)))); refine cC rfl (Name_c _ _ (by omega)) ?_; rintro _ w13 ⟨⟨⟩, x12⟩; have z14 := x12.size; replace h8 := h8.ext x12; replace hP := hP.ext x12; replace X := X.ext x12; clear x12; refine C1 Pt (cT ?_); refine cw_nt rfl (by assumption) ?_; refine cS (C1 Mv ?_); refine cC rfl (unexpected_c _ _ _ (by assumption)) ?_; rintro _ w17 ⟨⟨⟩, ⟨h15, f16⟩⟩; have z18 := f16.size; replace h8 := h8.fr f16 (by omega); clear hP; replace X := X.fr f16 (by omega); clear f16; refine cN (C1 Pa (cT (cw_ret (qw_then_ret (qw_ret1 rfl rfl ?_))))); rotate_left 1
   exact ⟨rfl, by assumption, X⟩
 · rw [show nameP c.ts c.n σ = ((peekP c.ts σ).text, nextP σ) from by simp [nameP, h]]
   obtain ⟨h2, h3⟩ := peek_in hP.at_ (Or.inl (isName_ne h)); refine calls_in Tryz.func93 Tryz.ntmps93 rfl rfl ?_
   focus
    refine cS (C1 Pa (cN (C1 Mv ?_))); refine cC rfl (peek_c _ _ _ (by assumption)) ?_; rintro _ wa2 ⟨⟨⟩, xa1⟩; have za3 := xa1.size; replace hP := hP.ext xa1; replace X := X.ext xa1; clear xa1; (refine lw_alloc' [_, _, _] zOk rfl rfl ?_; intro ba4 wa5 na6); (refine lw_init' [_, _, _] tabOk rfl rfl rfl rfl rfl rfl na6 rfl ?_; clear na6; clear wa5; intro wa7 na6); have ha8 := na6.blk; have xa9 := na6.ext; have pa10 := na6.pos; have za11 := na6.size; clear na6; replace hP := hP.ext xa9; replace X := X.ext xa9; clear xa9; refine cT (cw_seq (cS (C1 Pf (C1 (Pl ha8) ?_)))); refine cC rfl (Name_c _ _ (by omega)) ?_; rintro _ wa13 ⟨⟨⟩, xa12⟩; have za14 := xa12.size; replace ha8 := ha8.ext xa12; replace hP := hP.ext xa12; replace X := X.ext xa12; clear xa12; refine C1 Pt (cT ?_); refine cw_nf rfl (by assumption) ?_; refine cw_skip (qw_then (cS (C1 Mv (C1 Pn (C1 Pf (lw_load_b tabOk rfl rfl rfl (PP.blk hP) rfl rfl (C1 V7 (C1 Pn (C1 Pf ?_))))))))); refine lw_pp_at tabOk rfl rfl rfl rfl (by assumption) h3 ?_; rintro wa15 ha16 fa17; have za18 := fa17.size; replace ha8 := ha8.fr fa17 (by omega); clear hP; replace X := X.fr fa17 (by omega); clear fa17; refine cN (C1 Pf (C1 (Pl ha8) (C1 Pa (cT (cw_ret (qw_ret1 rfl rfl ?_)))))); rotate_left 1
   exact ⟨rfl, by assumption, X⟩
set_option maxRecDepth 100000 in
set_option maxHeartbeats 1000000 in
theorem argument_c (c : PC) (σ : PS) (w : World) (hP : PP c σ w) :
 Calls Tryz.prog 94 #[.pointer (some ⟨c.pb, 0, none⟩)] w (TreeR c w (argP c.ts c.n σ)) := by
 have X := Fr.refl (· = c.pb) w; have hpb := hP.pbB; have hB := hP.B; refine calls_in Tryz.func94 Tryz.ntmps94 rfl rfl ?_
 focus
  refine cS ?_; (refine lw_alloc' [_, _, _, _] zOk rfl rfl ?_; intro b1 w2 n3); have h5 := n3.blk; have x6 := n3.ext; have p7 := n3.pos; have z8 := n3.size; clear n3; replace hP := hP.ext x6; replace X := X.ext x6; clear x6; refine cN (C1 Mv ?_); refine cC rfl (name_c _ _ _ (by assumption)) ?_; rintro _ w11 ⟨⟨⟩, ⟨h9, f10⟩⟩; have z12 := f10.size; replace h5 := h5.fr f10 (by omega); clear hP; replace X := X.fr f10 (by omega); clear f10; refine C1 (pur_build' [_, _, _, _] tabOk zOk rfl rfl rfl rfl) ?_; (refine lw_store' [_, _, _, _] [_, _, _, _] tabOk rfl rfl rfl rfl rfl rfl h5 rfl rfl ?_; intro w13 n14); have h17 := n14.blk; have f15 := n14.fr; have z16 := n14.size; clear n14 h5; replace h9 := h9.fr f15 (by omega); replace X := X.fr f15 (by omega); clear f15; refine cT (cw_ret (qw_retc rfl tabOk rfl rfl rfl h17 rfl ?_)); rotate_left 1
 exact tree_ret sits_nil (by assumption) X
set_option maxRecDepth 100000 in
set_option maxHeartbeats 1000000 in
theorem stackExpr_c (c : PC) (σ : PS) (kind : Int) (w : World) (hP : PP c σ w) :
 Calls Tryz.prog 117 #[.pointer (some ⟨c.pb, 0, none⟩), .int .u8 kind] w (TreeR c w (.mk kind 0 (nameP c.ts c.n (expectP c.ts c.n σ [40])).1 [], expectP c.ts c.n (nameP c.ts c.n (expectP c.ts c.n σ [40])).2 [41])) := by
 have X := Fr.refl (· = c.pb) w; have hpb := hP.pbB; have hB := hP.B; refine calls_in Tryz.func117 Tryz.ntmps117 rfl rfl ?_
 focus
  refine cS ?_; (refine lw_alloc' [_, _, _, _] zOk rfl rfl ?_; intro b1 w2 n3); have h5 := n3.blk; have x6 := n3.ext; have p7 := n3.pos; have z8 := n3.size; clear n3; replace hP := hP.ext x6; replace X := X.ext x6; clear x6; refine cN (C1 Mv ?_); refine cC rfl (expect_c _ _ _ _ (by assumption) (by decide)) ?_; rintro _ w11 ⟨⟨⟩, ⟨h9, f10⟩⟩; have z12 := f10.size; replace h5 := h5.fr f10 (by omega); clear hP; replace X := X.fr f10 (by omega); clear f10; refine cN (C1 Mv (C1 Mv ?_)); refine cC rfl (name_c _ _ _ (by assumption)) ?_; rintro _ w15 ⟨⟨⟩, ⟨h13, f14⟩⟩; have z16 := f14.size; clear h9; replace h5 := h5.fr f14 (by omega); replace X := X.fr f14 (by omega); clear f14; refine C1 (pur_build' [_, _, _, _] tabOk zOk rfl rfl rfl rfl) ?_; (refine lw_alloc' [_, _, _, _] zOk rfl rfl ?_; intro b17 w18 n19); (refine lw_init' [_, _, _, _] tabOk rfl rfl rfl rfl rfl rfl n19 rfl ?_; clear n19; clear w18; intro w20 n19); have h21 := n19.blk; have x22 := n19.ext; have p23 := n19.pos; have z24 := n19.size; clear n19; replace h13 := h13.ext x22; replace h5 := h5.ext x22; replace X := X.ext x22; clear x22; refine cN (C1 Mv ?_); refine cC rfl (expect_c _ _ _ _ (by assumption) (by decide)) ?_; rintro _ w27 ⟨⟨⟩, ⟨h25, f26⟩⟩; have z28 := f26.size; replace h21 := h21.fr f26 (by omega); clear h13; replace h5 := h5.fr f26 (by omega); replace X := X.fr f26 (by omega); clear f26; refine cN (lw_loads_b' [_, _, _, _] tabOk rfl rfl rfl h21 rfl rfl rfl ?_); (refine lw_store' [_, _, _, _] [_, _, _, _] tabOk rfl rfl rfl rfl rfl rfl h5 rfl rfl ?_; intro w29 n30)
  have h33 := n30.blk; have f31 := n30.fr; have z32 := n30.size; clear n30 h5; replace h25 := h25.fr f31 (by omega); replace h21 := h21.fr f31 (by omega); replace X := X.fr f31 (by omega); clear f31; refine cT (cw_ret (qw_retc rfl tabOk rfl rfl rfl h33 rfl ?_)); rotate_left 1
 exact tree_ret sits_nil (by assumption) X
end Bk
namespace Bk
def digitsFrom (a : Nat) (s : List UInt8) : Nat := s.foldl (fun a c => a * 10 + (c.toNat - 48)) a
theorem digitsFrom_le (s : List UInt8) : ∀ a, a ≤ digitsFrom a s := by
 induction s with
 | nil => intro a; exact Nat.le_refl _
 | cons c r ih => intro a; have := ih (a * 10 + (c.toNat - 48)); simp only [digitsFrom, List.foldl_cons] at this ⊢; omega
end Bk
namespace Bk
open Go Go.RowKit Go.Proofs
attribute [local irreducible] Go.Calls
theorem parseUint_digits : ∀ (s : List UInt8) (a : Nat), a < 18446744073709551616 → (∀ c ∈ s, digit c = true) →
 (Lib.parseUint10 a s = .ok (digitsFrom a s) ∧ digitsFrom a s < 18446744073709551616) ∨ (Lib.parseUint10 a s = .range ∧ 18446744073709551616 ≤ digitsFrom a s)
 | [], a, ha, _ => Or.inl ⟨rfl, ha⟩
 | c :: r, a, ha, hd => by
  have hc := hd c List.mem_cons_self; simp only [digit, Bool.and_eq_true, decide_eq_true_eq] at hc
  have hr : ∀ x ∈ r, digit x = true := fun x hx => hd x (List.mem_cons_of_mem _ hx)
  have hle := digitsFrom_le r (a * 10 + (c.toNat - 48)); have he : digitsFrom a (c :: r) = digitsFrom (a * 10 + (c.toNat - 48)) r := rfl; rw [he]; simp only [Lib.parseUint10, hc, and_self, if_true]
  by_cases h1 : 1844674407370955162 ≤ a
  · rw [if_pos h1]; exact Or.inr ⟨rfl, by omega⟩
  · rw [if_neg h1]
    by_cases h2 : 18446744073709551616 ≤ a * 10 + (c.toNat - 48)
    · rw [if_pos h2]; exact Or.inr ⟨rfl, by omega⟩
    · rw [if_neg h2]
      exact parseUint_digits r _ (by omega) hr
theorem atoi_digits (s : List UInt8) (hs : s ≠ []) (hd : ∀ c ∈ s, digit c = true) :
 Lib.atoiAll s = if (digitsVal s : Int) ≤ 9223372036854775807 then .ok (digitsVal s) else .range := by
 cases s with
 | nil => exact absurd rfl hs
 | cons c r =>
  have hc := hd c List.mem_cons_self; simp only [digit, Bool.and_eq_true, decide_eq_true_eq] at hc
  have n45 : ¬ c.toNat = 45 := by omega
  have n43 : ¬ c.toNat = 43 := by omega
  have e : digitsVal (c :: r) = digitsFrom 0 (c :: r) := rfl; rw [e]
  have hm : Lib.parseMag (c :: r) = Lib.parseUint10 0 (c :: r) := by simp [Lib.parseMag]
  unfold Lib.atoiAll
  simp only [n45, n43, or_self, if_false, hm, not_false_eq_true, true_and, false_and]
  rcases parseUint_digits (c :: r) 0 (by omega) hd with ⟨h1, h2⟩ | ⟨h1, h2⟩
  · rw [h1]
    simp only
    by_cases h : 9223372036854775808 ≤ digitsFrom 0 (c :: r)
    · rw [if_pos h, if_neg (by omega)]
    · rw [if_neg h, if_pos (by omega)]
  · rw [h1, if_neg (by omega)]
theorem Ext.bytes (w : World) (e : TypeId) (s : ByteArray) : Ext w (Lib.bytesWorld w e s) := Lib.bytesWorld_below w e s
theorem Atoi_ok (s : List UInt8) (w : World) (hs : s ≠ []) (hd : ∀ c ∈ s, digit c = true) (hl : s.length ≤ 1000000) (h : (digitsVal s : Int) ≤ 9223372036854775807) :
 Calls Tryz.prog 120 #[str s] w fun e w' => e = .returned (.tuple #[.int .i64 (digitsVal s), .nilIface]) ∧ Ext w w' := by
 have ha := atoi_digits s hs hd; rw [if_pos h] at ha; refine (Tryz.strconv_Atoi_ok ⟨s.toArray⟩ (by rw [ba_size]; omega) (digitsVal s) (by simpa using ha) w).mono ?_; rintro e w' ⟨rfl, rfl | ⟨t, rfl⟩⟩
 · exact ⟨rfl, Ext.refl _⟩
 · exact ⟨rfl, Ext.bytes _ _ _⟩
theorem Atoi_range (s : List UInt8) (w : World) (hs : s ≠ []) (hd : ∀ c ∈ s, digit c = true) (hl : s.length ≤ 1000000) (h : ¬ (digitsVal s : Int) ≤ 9223372036854775807) (he : Errs w) :
 Calls Tryz.prog 120 #[str s] w fun e w' => ∃ te pe, e = .returned (.tuple #[.int .i64 9223372036854775807, .iface te pe]) ∧ Ext w w' := by
 have ha := atoi_digits s hs hd; rw [if_neg h] at ha; obtain ⟨te, pe, hv⟩ := he.ex; refine (Tryz.strconv_Atoi_range ⟨s.toArray⟩ (by rw [ba_size]; omega) (by simpa using ha) (.iface te pe) w hv (Or.inr ⟨te, pe, rfl⟩)).mono ?_; rintro e w' ⟨N, rfl, -, -, hb⟩
 have : Lib.atoiSat (⟨s.toArray⟩ : ByteArray).data.toList = 9223372036854775807 := by
  cases s with
  | nil => exact absurd rfl hs
  | cons c r =>
   have hc := hd c List.mem_cons_self; simp only [digit, Bool.and_eq_true, decide_eq_true_eq] at hc
   simp [Lib.atoiSat]; omega
 rw [this]
 exact ⟨_, _, rfl, hb⟩
theorem peek_tok {c : PC} {σ : PS} {w : World} (hP : PP c σ w) (h : (peekP c.ts σ).kind = 2) : (peekP c.ts σ).text ≠ [] ∧ ∀ x ∈ (peekP c.ts σ).text, digit x = true := by
 by_cases h' : σ.err ≠ 0 ∨ σ.at_ = c.ts.length
 · rw [peek_off h'] at h; simp [Tok.zero] at h
 · have hlt : σ.at_ < c.ts.length := by have : σ.at_ ≠ c.ts.length := fun e => h' (Or.inr e); have := hP.at_; omega
   rw [peek_is h' hlt] at h ⊢
   exact hP.num _ (List.getElem_mem hlt) h
set_option maxRecDepth 100000 in
set_option maxHeartbeats 1000000 in
theorem number_c (c : PC) (σ : PS) (least most : Int) (w : World) (hP : PP c σ w) (h0 : -1 ≤ least) :
 Calls Tryz.prog 116 #[.pointer (some ⟨c.pb, 0, none⟩), .int .i64 least, .int .i64 most] w fun r w' => r = .returned (.int .i64 (numberP c.ts c.n least most σ).1) ∧ PP c (numberP c.ts c.n least most σ).2 w' ∧ Fr (· = c.pb) w w' := by
 have X := Fr.refl (· = c.pb) w; have hl := hP.len; have hpl := peek_len hP; have hpb := hP.pbB; have hB := hP.B
 by_cases hk : (peekP c.ts σ).kind = 2
 · obtain ⟨h2, h3⟩ := peek_in hP.at_ (Or.inr (show (peekP c.ts σ).kind ≠ 0 by omega))
   obtain ⟨d1, d2⟩ := peek_tok hP hk
   by_cases hr : (digitsVal (peekP c.ts σ).text : Int) ≤ 9223372036854775807
   · by_cases hr2 : least ≤ (digitsVal (peekP c.ts σ).text : Int) ∧ (digitsVal (peekP c.ts σ).text : Int) ≤ most
     · obtain ⟨r1, r2⟩ := hr2
       rw [show numberP c.ts c.n least most σ = ((digitsVal (peekP c.ts σ).text : Int), nextP σ) from by simp [numberP, hk, hr, r1, r2]]; refine calls_in Tryz.func116 Tryz.ntmps116 rfl rfl ?_
       focus
        refine cS (C1 Pa (cN (C1 Mv ?_))); refine cC rfl (peek_c _ _ _ (by assumption)) ?_; rintro _ w2 ⟨⟨⟩, x1⟩; have z3 := x1.size; replace hP := hP.ext x1; replace X := X.ext x1; clear x1; (refine lw_alloc' [_, _, _] zOk rfl rfl ?_; intro b4 w5 n6); (refine lw_init' [_, _, _] tabOk rfl rfl rfl rfl rfl rfl n6 rfl ?_; clear n6; clear w5; intro w7 n6); have h8 := n6.blk; have x9 := n6.ext; have p10 := n6.pos; have z11 := n6.size; clear n6; replace hP := hP.ext x9; replace X := X.ext x9; clear x9; refine cT (cw_seq (cS (C1 Pg (C1 (Pl h8) (C1 V2 (cT (Wno (cw_skip (qw_then (cS (C1 Mv ?_))))))))))); refine C1 Pn (C1 Pf (lw_load_b tabOk rfl rfl rfl (PP.blk hP) rfl rfl (C1 V7 (C1 Pn (C1 Pf ?_))))); refine lw_pp_at tabOk rfl rfl rfl rfl (by assumption) h3 ?_; rintro w12 h13 f14; have z15 := f14.size; replace h8 := h8.fr f14 (by omega); clear hP; replace X := X.fr f14 (by omega); clear f14; refine cN (C1 Pf (C1 (Pl h8) (cC rfl (Atoi_ok _ _ d1 d2 hpl hr) ?_))); rintro _ w17 ⟨⟨⟩, x16⟩; have z18 := x16.size; replace h13 := h13.ext x16; replace h8 := h8.ext x16; replace X := X.ext x16; clear x16; refine C1 Mv (C1 Px (C1 Px (C1 Pa (C1 Pa (cT (cw_seq (cS (C1 Mv (C1 (pur_ifn0 tabOk rfl rfl) (C1 Mv (lw_on rfl rfl rfl (rfl) ?_))))))))))); refine C1 Mv (lw_on rfl rfl rfl (rfl) (C1 Mv (lw_on rfl rfl rfl (rfl) (C1 V3 (C1 (pur_pick_f rfl rfl rfl) (C1 Mv (Gno (C1 Mv (Gno (C1 Mv (Gno ?_))))))))))); refine C1 V5 (C1 Qno (cT (Wno (cw_skip (qw_then (cS (C1 Mv (C1 Pa (cT (cw_ret (qw_ret1 rfl rfl ?_)))))))))))
        rotate_left 1
       exact ⟨rfl, by assumption, X⟩
     · rw [show numberP c.ts c.n least most σ = (0, failP (nextP σ) (peekP c.ts σ).pos 2) from by simp [numberP, hk, hr, hr2]]
       by_cases r1 : least ≤ (digitsVal (peekP c.ts σ).text : Int)
       · have r2 : most < (digitsVal (peekP c.ts σ).text : Int) := by omega
         refine calls_in Tryz.func116 Tryz.ntmps116 rfl rfl ?_
         focus
          refine cS (C1 Pa (cN (C1 Mv ?_))); refine cC rfl (peek_c _ _ _ (by assumption)) ?_; rintro _ wa2 ⟨⟨⟩, xa1⟩; have za3 := xa1.size; replace hP := hP.ext xa1; replace X := X.ext xa1; clear xa1; (refine lw_alloc' [_, _, _] zOk rfl rfl ?_; intro ba4 wa5 na6); (refine lw_init' [_, _, _] tabOk rfl rfl rfl rfl rfl rfl na6 rfl ?_; clear na6; clear wa5; intro wa7 na6); have ha8 := na6.blk; have xa9 := na6.ext; have pa10 := na6.pos; have za11 := na6.size; clear na6; replace hP := hP.ext xa9; replace X := X.ext xa9; clear xa9; refine cT (cw_seq (cS (C1 Pg (C1 (Pl ha8) (C1 V2 (cT (Wno (cw_skip (qw_then (cS (C1 Mv ?_))))))))))); refine C1 Pn (C1 Pf (lw_load_b tabOk rfl rfl rfl (PP.blk hP) rfl rfl (C1 V7 (C1 Pn (C1 Pf ?_))))); refine lw_pp_at tabOk rfl rfl rfl rfl (by assumption) h3 ?_; rintro wa12 ha13 fa14; have za15 := fa14.size; replace ha8 := ha8.fr fa14 (by omega); clear hP; replace X := X.fr fa14 (by omega); clear fa14; refine cN (C1 Pf (C1 (Pl ha8) (cC rfl (Atoi_ok _ _ d1 d2 hpl hr) ?_))); rintro _ wa17 ⟨⟨⟩, xa16⟩; have za18 := xa16.size; replace ha13 := ha13.ext xa16; replace ha8 := ha8.ext xa16; replace X := X.ext xa16; clear xa16; refine C1 Mv (C1 Px (C1 Px (C1 Pa (C1 Pa (cT (cw_seq (cS (C1 Mv (C1 (pur_ifn0 tabOk rfl rfl) (C1 Mv (lw_on rfl rfl rfl (rfl) ?_))))))))))); refine C1 Mv (lw_on rfl rfl rfl (rfl) (C1 Mv (lw_on rfl rfl rfl (rfl) (C1 V3 (C1 (pur_pick_f rfl rfl rfl) (C1 Mv (Gno (C1 Mv (Gno (C1 Mv (Gno ?_))))))))))); refine C1 V5 (C1 Qno (cT (Wya (cS (C1 Mv (C1 Pf (C1 (Pl ha8) ?_)))))))
          refine cC rfl (fail_c _ _ _ _ _ (by assumption)) ?_; rintro _ wa21 ⟨⟨⟩, ⟨ha19, fa20⟩⟩; have za22 := fa20.size; clear ha13; replace ha8 := ha8.fr fa20 (by omega); replace X := X.fr fa20 (by omega); clear fa20; refine cN (C1 Pa (cT (cw_ret (qw_then_ret (qw_ret1 rfl rfl ?_))))); rotate_left 1
         exact ⟨rfl, by assumption, X⟩
       · refine calls_in Tryz.func116 Tryz.ntmps116 rfl rfl ?_
         focus
          refine cS (C1 Pa (cN (C1 Mv ?_))); refine cC rfl (peek_c _ _ _ (by assumption)) ?_; rintro _ wb2 ⟨⟨⟩, xb1⟩; have zb3 := xb1.size; replace hP := hP.ext xb1; replace X := X.ext xb1; clear xb1; (refine lw_alloc' [_, _, _] zOk rfl rfl ?_; intro bb4 wb5 nb6); (refine lw_init' [_, _, _] tabOk rfl rfl rfl rfl rfl rfl nb6 rfl ?_; clear nb6; clear wb5; intro wb7 nb6); have hb8 := nb6.blk; have xb9 := nb6.ext; have pb10 := nb6.pos; have zb11 := nb6.size; clear nb6; replace hP := hP.ext xb9; replace X := X.ext xb9; clear xb9; refine cT (cw_seq (cS (C1 Pg (C1 (Pl hb8) (C1 V2 (cT (Wno (cw_skip (qw_then (cS (C1 Mv ?_))))))))))); refine C1 Pn (C1 Pf (lw_load_b tabOk rfl rfl rfl (PP.blk hP) rfl rfl (C1 V7 (C1 Pn (C1 Pf ?_))))); refine lw_pp_at tabOk rfl rfl rfl rfl (by assumption) h3 ?_; rintro wb12 hb13 fb14; have zb15 := fb14.size; replace hb8 := hb8.fr fb14 (by omega); clear hP; replace X := X.fr fb14 (by omega); clear fb14; refine cN (C1 Pf (C1 (Pl hb8) (cC rfl (Atoi_ok _ _ d1 d2 hpl hr) ?_))); rintro _ wb17 ⟨⟨⟩, xb16⟩; have zb18 := xb16.size; replace hb13 := hb13.ext xb16; replace hb8 := hb8.ext xb16; replace X := X.ext xb16; clear xb16; refine C1 Mv (C1 Px (C1 Px (C1 Pa (C1 Pa (cT (cw_seq (cS (C1 Mv (C1 (pur_ifn0 tabOk rfl rfl) (C1 Mv (lw_on rfl rfl rfl (rfl) ?_))))))))))); refine C1 Mv (lw_on rfl rfl rfl (rfl) (C1 Mv (lw_on rfl rfl rfl (rfl) (C1 V3 (C1 (pur_pick_f rfl rfl rfl) (C1 Mv (Oyo (Oyo (Oyo (C1 Qyo (cT ?_))))))))))); refine cw_cond_t rfl (cS (C1 Mv (C1 Pf (C1 (Pl hb8) ?_))))
          refine cC rfl (fail_c _ _ _ _ _ (by assumption)) ?_; rintro _ wb21 ⟨⟨⟩, ⟨hb19, fb20⟩⟩; have zb22 := fb20.size; clear hb13; replace hb8 := hb8.fr fb20 (by omega); replace X := X.fr fb20 (by omega); clear fb20; refine cN (C1 Pa (cT (cw_ret (qw_then_ret (qw_ret1 rfl rfl ?_))))); rotate_left 1
         exact ⟨rfl, by assumption, X⟩
   · rw [show numberP c.ts c.n least most σ = (0, failP (nextP σ) (peekP c.ts σ).pos 2) from by simp [numberP, hk, hr]]
     refine calls_in Tryz.func116 Tryz.ntmps116 rfl rfl ?_
     focus
      refine cS (C1 Pa (cN (C1 Mv ?_))); refine cC rfl (peek_c _ _ _ (by assumption)) ?_; rintro _ wc2 ⟨⟨⟩, xc1⟩; have zc3 := xc1.size; replace hP := hP.ext xc1; replace X := X.ext xc1; clear xc1; (refine lw_alloc' [_, _, _] zOk rfl rfl ?_; intro bc4 wc5 nc6); (refine lw_init' [_, _, _] tabOk rfl rfl rfl rfl rfl rfl nc6 rfl ?_; clear nc6; clear wc5; intro wc7 nc6); have hc8 := nc6.blk; have xc9 := nc6.ext; have pc10 := nc6.pos; have zc11 := nc6.size; clear nc6; replace hP := hP.ext xc9; replace X := X.ext xc9; clear xc9; refine cT (cw_seq (cS (C1 Pg (C1 (Pl hc8) (C1 V2 (cT (Wno (cw_skip (qw_then (cS (C1 Mv ?_))))))))))); refine C1 Pn (C1 Pf (lw_load_b tabOk rfl rfl rfl (PP.blk hP) rfl rfl (C1 V7 (C1 Pn (C1 Pf ?_))))); refine lw_pp_at tabOk rfl rfl rfl rfl (by assumption) h3 ?_; rintro wc12 hc13 fc14; have zc15 := fc14.size; replace hc8 := hc8.fr fc14 (by omega); clear hP; replace X := X.fr fc14 (by omega); clear fc14; refine cN (C1 Pf (C1 (Pl hc8) ?_)); refine lw_does (does_call (by kernel_rfl) rfl (Atoi_range _ _ d1 d2 hpl hr (PP.errs (by assumption))) (fun _ _ ⟨_, _, h⟩ => ⟨_, h.1⟩)) rfl ?_ (fun _ h => h); rintro _ wc19 ⟨tec16, ⟨pec17, ⟨⟨⟩, xc18⟩⟩⟩; have zc20 := xc18.size; replace hc13 := hc13.ext xc18; replace hc8 := hc8.ext xc18; replace X := X.ext xc18; clear xc18; refine C1 Mv (C1 Px (C1 Px (C1 Pa (C1 Pa (cT (cw_seq (cS (C1 Mv (C1 (pur_ifn1 tabOk rfl rfl) (C1 Mv (lw_off rfl rfl rfl (rfl) rfl ?_))))))))))); refine lw_off rfl rfl rfl (rfl) rfl (lw_off rfl rfl rfl (rfl) rfl (C1 (pur_pick_t rfl rfl rfl) (C1 Mv (lw_off rfl rfl rfl (rfl) rfl (lw_off rfl rfl rfl (rfl) rfl (lw_off rfl rfl rfl (rfl) rfl (C1 (pur_pick_t rfl rfl rfl) (cT (cw_cond_t rfl (cS (C1 Mv ?_)))))))))))
      refine C1 Pf (C1 (Pl hc8) ?_); refine cC rfl (fail_c _ _ _ _ _ (by assumption)) ?_; rintro _ wc23 ⟨⟨⟩, ⟨hc21, fc22⟩⟩; have zc24 := fc22.size; clear hc13; replace hc8 := hc8.fr fc22 (by omega); replace X := X.fr fc22 (by omega); clear fc22; refine cN (C1 Pa (cT (cw_ret (qw_then_ret (qw_ret1 rfl rfl ?_))))); rotate_left 1
     exact ⟨rfl, by assumption, X⟩
 · rw [show numberP c.ts c.n least most σ = (0, unexpP c.ts c.n σ) from by simp [numberP, hk]]
   refine calls_in Tryz.func116 Tryz.ntmps116 rfl rfl ?_
   focus
    refine cS (C1 Pa (cN (C1 Mv ?_))); refine cC rfl (peek_c _ _ _ (by assumption)) ?_; rintro _ wd2 ⟨⟨⟩, xd1⟩; have zd3 := xd1.size; replace hP := hP.ext xd1; replace X := X.ext xd1; clear xd1; (refine lw_alloc' [_, _, _] zOk rfl rfl ?_; intro bd4 wd5 nd6); (refine lw_init' [_, _, _] tabOk rfl rfl rfl rfl rfl rfl nd6 rfl ?_; clear nd6; clear wd5; intro wd7 nd6); have hd8 := nd6.blk; have xd9 := nd6.ext; have pd10 := nd6.pos; have zd11 := nd6.size; clear nd6; replace hP := hP.ext xd9; replace X := X.ext xd9; clear xd9; refine cT (cw_seq (cS (C1 Pg (C1 (Pl hd8) (C1 V2 (cT (Wya (cS (C1 Mv ?_))))))))); refine cC rfl (unexpected_c _ _ _ (by assumption)) ?_; rintro _ wd14 ⟨⟨⟩, ⟨hd12, fd13⟩⟩; have zd15 := fd13.size; replace hd8 := hd8.fr fd13 (by omega); clear hP; replace X := X.fr fd13 (by omega); clear fd13; refine cN (C1 Pa (cT (cw_ret (qw_then_ret (qw_ret1 rfl rfl ?_))))); rotate_left 1
   exact ⟨rfl, by assumption, X⟩
end Bk
