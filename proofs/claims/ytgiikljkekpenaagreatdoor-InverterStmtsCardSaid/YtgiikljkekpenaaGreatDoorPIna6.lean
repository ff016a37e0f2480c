/- Texts that the proofs of InverterStmts need. No condition. (Part 6 of 6.) -/
import Derived.Test.YtgiikljkekpenaaGreatDoorPIna5
set_option linter.unusedSimpArgs false
set_option linter.unusedVariables false
namespace Bk
open Go Go.RowKit Go.Proofs
attribute [local irreducible] Go.Calls
theorem pur_beql {P : Program} {n : Nat} {l : Sl} {S : World → Prop} {tab : Tab} {t t' ty sz : Nat} {x y : Operand} {p q : Bool} (T : TabOk P tab) (ht : lookT tab t = some (.bool, sz)) (hx : ev l x = some (.bool p)) (hy : ev l y = some (.bool q)) : Pur P n l S (.binOp .eql t x y t') ty (.bool (p == q)) := by
 unfold Pur
 intro _ w dst pos after g ha _
 have e1 : (eqGuard .eql t x y (.bool p) (.bool q)).run P w = .ok () w := by unfold eqGuard; simp
 have hu : P.underlying t = some .bool := (T _ _ _ ht).under
 have e2 : (Op.equal t (.bool p) (.bool q)).run P w = .ok (p == q) w := by
  show (Op.equalIn (9999 + 1) t (.bool p) (.bool q)).run P w = _
  unfold Op.equalIn
  simp [run_underlying hu, Result.andThen]
 simp [execOp, ha.ev hx, ha.ev hy, e1, e2, binOp]
theorem block_kind17 {t : Nd} (h : t.isBlock = true) : t.kind = 57 := by
 obtain ⟨k, n, s, l⟩ := t; simp only [Nd.isBlock, Bool.and_eq_true, beq_iff_eq] at h
 exact h.1.1
theorem great17_c (t : Nd) (hwf : t.wf) (S : Nat → Prop) (a : Option Addr) (c : Nat) (w : World) (hs : t.sits S w a) :
 Calls Tryz.prog 8 #[.agg #[.slice none 0 0, .slice none 0 0, .int .u8 t.kind, .int .i64 t.num, str t.name, .slice a t.kids.length c]] w fun e w' => ∃ q : Int, e = .returned (.int .i64 q) ∧ (q = 1 ∨ (q = 0 ∧ (t.small 24 200).1 = true)) ∧ Ext w w' := by
 refine (Great_s ⟨[], [], t⟩ S none 0 none 0 a c w ⟨by simp, by simp, by simp, by simp, hwf⟩ ⟨by simp [VDs, Arr], by simp [PDs, Arr], hs⟩).mono ?_; rintro e w' ⟨q, h, hq, x⟩
 exact ⟨q, h, hq.imp id (fun h => ⟨h.1, h.2.main⟩), x⟩
theorem zero17_e : zeroNd.eqb zeroNd = true := (eqb_iff _ _).2 rfl
theorem zero17_c (w : World) : Calls Tryz.prog 12 #[zeroNd.val none 0, zeroNd.val none 0] w fun e w' => e = .returned (.bool true) ∧ Ext w w' := by
 have := equalI_v zeroNd (by decide) zeroNd (fun _ => True) (fun _ => True) none none 0 0 w (by simp [zeroNd, Nd.sits, rowSits]) (by simp [zeroNd, Nd.sits, rowSits])
 rw [zero17_e] at this; exact this
theorem equalS_v (t : Nd) (hz : t.size ≤ 1000000) (S S' : Nat → Prop) (a a' : Option Addr) (c c' : Nat) (w : World) (hs : t.sits S w a) (hs' : t.sits S' w a') : Calls Tryz.prog 12 #[t.val a c, t.val a' c'] w fun e w' => e = .returned (.bool true) ∧ Ext w w' := by
 have := equalI_v t hz t S S' a a' c c' w hs hs'
 rw [(eqb_iff t t).2 rfl] at this; exact this
theorem rStmt_v {t : Nd} (hz : t.size ≤ 1000000) (hv : t.isStmt = true ∨ t.isBlock = true) (S : Nat → Prop) (a : Option Addr) (c : Nat) (w : World) (hs : t.sits S w a) : Calls Tryz.prog 14 #[t.val a c] w (ShareR S (t.inv false) w) := rStmt_c (t.size + 1) t S a c w (by omega) hz hv hs
set_option maxRecDepth 100000 in
set_option maxHeartbeats 4000000 in
theorem InverterStmts_c (t : Nd) (hwf : t.wf) (S : Nat → Prop) (a : Option Addr) (c : Nat) (w : World) (hs : t.sits S w a) (hS : Syms w) (hE : Errs w) :
 Calls Tryz.prog 3 #[t.val a c] w fun e w' => e = .returned (.bool true) ∧ Ext w w' := by
 have X := Ext.refl w; have HG := Lib.hid (great17_c t hwf); refine calls_in Tryz.func3 Tryz.ntmps3 rfl rfl ?_
 focus
  refine cS ?_; (refine lw_box' [_, _, _, _] rfl rfl rfl ?_; intro b1 w2 n3); have h4 := n3.blk; have x5 := n3.ext; have p6 := n3.pos; have z7 := n3.size; clear n3; replace hs := Nd.sits.ext hs x5; replace hS := hS.ext x5; replace hE := hE.ext x5; replace X := X.ext x5; clear x5; refine cA rfl rfl (cT (cw_seq (cS ?_))); refine cC (by kernel_rfl) rfl (awake17_c _ (by assumption) (by assumption)) rfl ?_; rintro _ w9 ⟨⟨⟩, x8⟩; have z10 := x8.size; replace h4 := h4.ext x8; replace hs := Nd.sits.ext hs x8; replace hS := hS.ext x8; replace hE := hE.ext x8; replace X := X.ext x8; clear x8; refine lw_pure (pur_not rfl) rfl (cT (cw_cond_f rfl (cw_skip (qw_then (cw_seq (cS (lw_loads_b' [_, _, _, _] tabOk rfl rfl rfl h4 rfl rfl rfl (lw_pure (pur_build' [_, _, _, _, _, _] tabOk zOk rfl rfl rfl rfl) rfl ?_)))))))); rotate_left 1
 refine lw_does (does_call (by kernel_rfl) rfl (HG.out S a c _ hs) (fun _ _ ⟨_, h, _⟩ => ⟨_, h⟩)) rfl ?_ (fun _ h => h); rintro _ w3 ⟨q, ⟨⟩, hq, x3⟩; replace h4 := h4.ext x3; replace hs := sits_ltA _ _ (hs.ext x3); replace hE := hE.ext x3; replace hS := hS.ext x3; replace X := X.trans x3; have z3 := x3.size; clear x3
 rcases hq with rfl | ⟨rfl, hg⟩
 · focus
    refine lw_pure (pur_eql rfl rfl) rfl (cT ?_); refine cw_yes rfl (by decide) ?_; refine cS (cA rfl rfl (cT (cw_ret (qw_then_ret (qw_ret1 rfl rfl ?_))))); rotate_left 1
   exact ⟨rfl, X⟩
 have hz : t.size ≤ 1000000 := by
  have y1 := small_size t 24 200 (by omega) hg; have y2 := small_le t 24 200 (by omega) hg
  omega
 clear hg HG
 by_cases hi : t.isStmt = true
 · have hb : t.isBlock = false := by
    have y1 := stmt_kind hi
    cases hb : t.isBlock
    · rfl
    have y2 := block_kind17 hb
    omega
   have HS := Lib.hid (isStmt_v hwf hi); have HB := Lib.hid (isBlockI_v hwf hb); have HI := Lib.hid (iStmt_v hwf hz (Or.inl hi)); have HR := Lib.hid (rStmt_v hz (Or.inl hi)); have HP := Lib.hid (palin_n hwf hb); have ho := (inv_ok false (t.size + 1) t (by omega) (Or.inl hi)).size; have HE := Lib.hid (equalS_v (t.inv false) (by omega)); clear hwf hi hb ho
   generalize t.inv false = u at *
   focus
    refine lw_pure (pur_eql rfl rfl) rfl (cT ?_); refine cw_no rfl (by decide) ?_; refine cw_skip (qw_then (cS (lw_loads_b' [_, _, _, _] tabOk rfl rfl rfl h4 rfl rfl rfl ?_))); refine cR (by kernel_rfl) rfl (HI.out _ _ _ _ (by assumption)) (fun _ _ h => h.ret) rfl ?_; rintro _ wb5 ⟨ab1, ⟨cb2, ⟨⟨⟩, ⟨hb3, xb4⟩⟩⟩⟩; have zb6 := xb4.size; replace h4 := h4.ext xb4; replace hs := Nd.sits.ext hs xb4; replace hE := hE.ext xb4; replace hS := hS.ext xb4; replace X := X.ext xb4; clear xb4; refine cM rfl rfl (lw_pure (pur_extract rfl rfl) rfl (lw_pure (pur_extract rfl rfl) rfl ?_)); (refine lw_alloc' [_, _, _, _] zOk rfl rfl ?_; intro bb7 wb8 nb9); (refine lw_init' [_, _, _, _] tabOk rfl rfl rfl rfl rfl rfl nb9 rfl ?_; clear nb9; clear wb8; intro wb10 nb9); have hb11 := nb9.blk; have xb12 := nb9.ext; have pb13 := nb9.pos; have zb14 := nb9.size; clear nb9; replace hb3 := Nd.sits.ext hb3 xb12; replace h4 := h4.ext xb12; replace hs := Nd.sits.ext hs xb12; replace hE := hE.ext xb12; replace hS := hS.ext xb12; replace X := X.ext xb12; clear xb12; refine cA rfl rfl (cT (cw_seq (cS (lw_loads_b' [_, _, _, _] tabOk rfl rfl rfl h4 rfl rfl rfl ?_)))); refine cC (by kernel_rfl) rfl (HS.out _ _ _ _ (by assumption)) rfl ?_; rintro _ wb16 ⟨⟨⟩, xb15⟩; have zb17 := xb15.size; replace hb11 := hb11.ext xb15; replace hb3 := Nd.sits.ext hb3 xb15; replace h4 := h4.ext xb15; replace hs := Nd.sits.ext hs xb15; replace hE := hE.ext xb15; replace hS := hS.ext xb15; replace X := X.ext xb15; clear xb15; refine lw_pure (pur_not rfl) rfl (cM rfl rfl (lw_off rfl rfl rfl (rfl) rfl (lw_off rfl rfl rfl (rfl) rfl (lw_off rfl rfl rfl (rfl) rfl (lw_pure (pur_pick_f rfl rfl rfl) rfl (cT (cw_cond_f rfl (cw_skip (qw_then (cS (lw_loads_b' [_, _, _, _] tabOk rfl rfl rfl h4 rfl rfl rfl ?_)))))))))))
    refine cR (by kernel_rfl) rfl (HR.out _ _ _ _ (by assumption)) (fun _ _ h => h.ret) rfl ?_; rintro _ wb22 ⟨ab18, ⟨cb19, ⟨⟨⟩, ⟨hb20, xb21⟩⟩⟩⟩; have zb23 := xb21.size; replace hb11 := hb11.ext xb21; replace hb3 := Nd.sits.ext hb3 xb21; replace h4 := h4.ext xb21; replace hs := Nd.sits.ext hs xb21; replace hE := hE.ext xb21; replace hS := hS.ext xb21; replace X := X.ext xb21; clear xb21; (refine lw_alloc' [_, _, _, _] zOk rfl rfl ?_; intro bb24 wb25 nb26); (refine lw_init' [_, _, _, _] tabOk rfl rfl rfl rfl rfl rfl nb26 rfl ?_; clear nb26; clear wb25; intro wb27 nb26); have hb28 := nb26.blk; have xb29 := nb26.ext; have pb30 := nb26.pos; have zb31 := nb26.size; clear nb26; replace hb20 := Nd.sits.ext hb20 xb29; replace hb11 := hb11.ext xb29; replace hb3 := Nd.sits.ext hb3 xb29; replace h4 := h4.ext xb29; replace hs := Nd.sits.ext hs xb29; replace hE := hE.ext xb29; replace hS := hS.ext xb29; replace X := X.ext xb29; clear xb29; refine cT (cw_seq ?_); (refine cw_tdraw (fun wz => Ext wb27 wz) 15 (.pure 0 (.pure 1 (.pure 2 (.pure 3 (.pure 4 (.fork 5 (.pure 6 (.pure 7 (.pure 8 (.pure 10 (.fork 9 (.fork 11 (.pure 12 (.pure 13 (.pure 14 .tail))) .none) .none))))) .none)))))) mixed (by kernel_rfl) (panicOk_then panicOk_body) ?_; intro wb32 xb33 _); have qsb34 : (fun wz => Ext wb27 wz) wb32 := xb33; simp only at qsb34; have d_hb28 := hb28; have d_hb20 := hb20; have d_hb11 := hb11; have d_hb3 := hb3; have d_h4 := h4; have d_hs := hs; have d_hE := hE; have d_hS := hS; have zb35 := xb33.size
    replace hb28 := hb28.ext xb33; replace hb20 := Nd.sits.ext hb20 xb33; replace hb11 := hb11.ext xb33; replace hb3 := Nd.sits.ext hb3 xb33; replace h4 := h4.ext xb33; replace hs := Nd.sits.ext hs xb33; replace hE := hE.ext xb33; replace hS := hS.ext xb33; replace X := X.ext xb33; clear xb33; refine ⟨qsb34, ?_⟩; refine tw_pure rfl (pur_move rfl) rfl (tw_pure rfl (pur_eql rfl rfl) rfl (tw_pure rfl (pur_move rfl) rfl ?_)); refine tw_on rfl rfl rfl rfl (gd_tt (by decide)) (pur_loads_blk' [_, _, _, _] tabOk rfl rfl rfl (fun wz hz => (Blk.ext d_hb11 hz)) rfl rfl) rfl ?_; refine tw_on rfl rfl rfl rfl (gd_tt (by decide)) (pur_loads_blk' [_, _, _, _] tabOk rfl rfl rfl (fun wz hz => (Blk.ext d_hb28 hz)) rfl rfl) rfl ?_; refine tw_does_on rfl rfl rfl rfl (gd_tt (by decide)) (does_call (by kernel_rfl) rfl (HE.out _ _ _ _ _ _ _ (by assumption) (by assumption)) (fun _ _ h => ⟨_, h.1⟩)) rfl ?_ (fun _ h => h) tw_none; rintro _ wb38 ⟨⟨⟩, xb37⟩; have zb39 := xb37.size; replace qsb34 := qsb34.ext xb37; replace hb28 := hb28.ext xb37; replace hb20 := Nd.sits.ext hb20 xb37; replace hb11 := hb11.ext xb37; replace hb3 := Nd.sits.ext hb3 xb37; replace h4 := h4.ext xb37; replace hs := Nd.sits.ext hs xb37; replace hE := hE.ext xb37; replace hS := hS.ext xb37; replace X := X.ext xb37; clear xb37; refine ⟨qsb34, ?_⟩; refine tw_pure rfl (pur_pick_yes rfl rfl (by decide)) rfl ?_; refine tw_pure rfl (pur_move rfl) rfl (tw_on rfl rfl rfl rfl (rfl) (pur_loads_blk' [_, _, _, _] tabOk rfl rfl rfl (fun wz hz => (Blk.ext d_h4 hz)) rfl rfl) rfl (tw_on rfl rfl rfl rfl (rfl) (pur_loads_blk' [_, _, _, _] tabOk rfl rfl rfl (fun wz hz => (Blk.ext d_h4 hz)) rfl rfl) rfl ?_))
    refine tw_does_on rfl rfl rfl rfl (rfl) (does_call (by kernel_rfl) rfl (HP.out _ _ _ _ (by assumption)) (fun _ _ h => ⟨_, h.1⟩)) rfl ?_ (fun _ h => h) tw_none; rintro _ wb42 ⟨⟨⟩, xb41⟩; have zb43 := xb41.size; replace qsb34 := qsb34.ext xb41; replace hb28 := hb28.ext xb41; replace hb20 := Nd.sits.ext hb20 xb41; replace hb11 := hb11.ext xb41; replace hb3 := Nd.sits.ext hb3 xb41; replace h4 := h4.ext xb41; replace hs := Nd.sits.ext hs xb41; replace hE := hE.ext xb41; replace hS := hS.ext xb41; replace X := X.ext xb41; clear xb41; refine ⟨qsb34, ?_⟩; refine tw_does_on rfl rfl rfl rfl (rfl) (does_call (by kernel_rfl) rfl (HB.out _ _ _ _ (by assumption)) (fun _ _ h => ⟨_, h.1⟩)) rfl ?_ (fun _ h => h) tw_none; rintro _ wb46 ⟨⟨⟩, xb45⟩; have zb47 := xb45.size; replace qsb34 := qsb34.ext xb45; replace hb28 := hb28.ext xb45; replace hb20 := Nd.sits.ext hb20 xb45; replace hb11 := hb11.ext xb45; replace hb3 := Nd.sits.ext hb3 xb45; replace h4 := h4.ext xb45; replace hs := Nd.sits.ext hs xb45; replace hE := hE.ext xb45; replace hS := hS.ext xb45; replace X := X.ext xb45; clear xb45; refine ⟨qsb34, ?_⟩; refine tw_on rfl rfl rfl rfl (rfl) (pur_move rfl) rfl (tw_off rfl rfl rfl rfl (rfl) rfl (tw_off rfl rfl rfl rfl (rfl) rfl ?_)); clear d_hb28 d_hb20 d_hb11 d_hb3 d_h4 d_hs d_hE d_hS qsb34; refine tw_tail rfl (lw_off rfl rfl rfl (rfl) rfl (lw_on rfl rfl rfl (rfl) (lw_pure (pur_pick_f rfl rfl rfl) rfl (lw_on rfl rfl rfl (rfl) (lw_pure (pur_beql tabOk rfl rfl rfl) rfl (lw_pure (pur_pick_t rfl rfl rfl) rfl (cA rfl rfl (cT (cw_ret (qw_ret1 rfl rfl ?_))))))))))
    rotate_left 1
   exact ⟨rfl, X⟩
 have hi : t.isStmt = false := by simpa using hi
 have HS := Lib.hid (isStmt_v hwf hi)
 by_cases hb : t.isBlock = true
 · have HB := Lib.hid (isBlockI_v hwf hb)
   have HI := Lib.hid (iStmt_v hwf hz (Or.inr hb)); have HR := Lib.hid (rStmt_v hz (Or.inr hb)); have HP := Lib.hid (palin_v hwf hz hb); have ho := (inv_ok false (t.size + 1) t (by omega) (Or.inr hb)).size; have HE := Lib.hid (equalS_v (t.inv false) (by omega)); have HE2 := Lib.hid (equalI_v t hz (t.inv false)); clear hwf hi hb ho
   generalize t.inv false = u at *
   generalize t.eqb u = q at *
   focus
    refine lw_pure (pur_eql rfl rfl) rfl (cT ?_); refine cw_no rfl (by decide) ?_; refine cw_skip (qw_then (cS (lw_loads_b' [_, _, _, _] tabOk rfl rfl rfl h4 rfl rfl rfl ?_))); refine cR (by kernel_rfl) rfl (HI.out _ _ _ _ (by assumption)) (fun _ _ h => h.ret) rfl ?_; rintro _ wc5 ⟨ac1, ⟨cc2, ⟨⟨⟩, ⟨hc3, xc4⟩⟩⟩⟩; have zc6 := xc4.size; replace h4 := h4.ext xc4; replace hs := Nd.sits.ext hs xc4; replace hE := hE.ext xc4; replace hS := hS.ext xc4; replace X := X.ext xc4; clear xc4; refine cM rfl rfl (lw_pure (pur_extract rfl rfl) rfl (lw_pure (pur_extract rfl rfl) rfl ?_)); (refine lw_alloc' [_, _, _, _] zOk rfl rfl ?_; intro bc7 wc8 nc9); (refine lw_init' [_, _, _, _] tabOk rfl rfl rfl rfl rfl rfl nc9 rfl ?_; clear nc9; clear wc8; intro wc10 nc9); have hc11 := nc9.blk; have xc12 := nc9.ext; have pc13 := nc9.pos; have zc14 := nc9.size; clear nc9; replace hc3 := Nd.sits.ext hc3 xc12; replace h4 := h4.ext xc12; replace hs := Nd.sits.ext hs xc12; replace hE := hE.ext xc12; replace hS := hS.ext xc12; replace X := X.ext xc12; clear xc12; refine cA rfl rfl (cT (cw_seq (cS (lw_loads_b' [_, _, _, _] tabOk rfl rfl rfl h4 rfl rfl rfl ?_)))); refine cC (by kernel_rfl) rfl (HS.out _ _ _ _ (by assumption)) rfl ?_; rintro _ wc16 ⟨⟨⟩, xc15⟩; have zc17 := xc15.size; replace hc11 := hc11.ext xc15; replace hc3 := Nd.sits.ext hc3 xc15; replace h4 := h4.ext xc15; replace hs := Nd.sits.ext hs xc15; replace hE := hE.ext xc15; replace hS := hS.ext xc15; replace X := X.ext xc15; clear xc15; refine lw_pure (pur_not rfl) rfl (cM rfl rfl (lw_on rfl rfl rfl (rfl) (lw_loads_b' [_, _, _, _] tabOk rfl rfl rfl h4 rfl rfl rfl (lw_on rfl rfl rfl (rfl) ?_))))
    refine cC (by kernel_rfl) rfl (HB.out _ _ _ _ (by assumption)) rfl ?_; rintro _ wc19 ⟨⟨⟩, xc18⟩; have zc20 := xc18.size; replace hc11 := hc11.ext xc18; replace hc3 := Nd.sits.ext hc3 xc18; replace h4 := h4.ext xc18; replace hs := Nd.sits.ext hs xc18; replace hE := hE.ext xc18; replace hS := hS.ext xc18; replace X := X.ext xc18; clear xc18; refine lw_on rfl rfl rfl (rfl) (lw_pure (pur_not rfl) rfl (lw_pure (pur_pick_t rfl rfl rfl) rfl (cT (cw_cond_f rfl (cw_skip (qw_then (cS (lw_loads_b' [_, _, _, _] tabOk rfl rfl rfl h4 rfl rfl rfl ?_)))))))); refine cR (by kernel_rfl) rfl (HR.out _ _ _ _ (by assumption)) (fun _ _ h => h.ret) rfl ?_; rintro _ wc25 ⟨ac21, ⟨cc22, ⟨⟨⟩, ⟨hc23, xc24⟩⟩⟩⟩; have zc26 := xc24.size; replace hc11 := hc11.ext xc24; replace hc3 := Nd.sits.ext hc3 xc24; replace h4 := h4.ext xc24; replace hs := Nd.sits.ext hs xc24; replace hE := hE.ext xc24; replace hS := hS.ext xc24; replace X := X.ext xc24; clear xc24; (refine lw_alloc' [_, _, _, _] zOk rfl rfl ?_; intro bc27 wc28 nc29); (refine lw_init' [_, _, _, _] tabOk rfl rfl rfl rfl rfl rfl nc29 rfl ?_; clear nc29; clear wc28; intro wc30 nc29); have hc31 := nc29.blk; have xc32 := nc29.ext; have pc33 := nc29.pos; have zc34 := nc29.size; clear nc29; replace hc23 := Nd.sits.ext hc23 xc32; replace hc11 := hc11.ext xc32; replace hc3 := Nd.sits.ext hc3 xc32; replace h4 := h4.ext xc32; replace hs := Nd.sits.ext hs xc32; replace hE := hE.ext xc32; replace hS := hS.ext xc32; replace X := X.ext xc32; clear xc32; refine cT (cw_seq ?_)
    (refine cw_tdraw (fun wz => Ext wc30 wz) 15 (.pure 0 (.pure 1 (.pure 2 (.pure 3 (.pure 4 (.fork 5 (.pure 6 (.pure 7 (.pure 8 (.pure 10 (.fork 9 (.fork 11 (.pure 12 (.pure 13 (.pure 14 .tail))) .none) .none))))) .none)))))) mixed (by kernel_rfl) (panicOk_then panicOk_body) ?_; intro wc35 xc36 _); have qsc37 : (fun wz => Ext wc30 wz) wc35 := xc36; simp only at qsc37; have d_hc31 := hc31; have d_hc23 := hc23; have d_hc11 := hc11; have d_hc3 := hc3; have d_h4 := h4; have d_hs := hs; have d_hE := hE; have d_hS := hS; have zc38 := xc36.size; replace hc31 := hc31.ext xc36; replace hc23 := Nd.sits.ext hc23 xc36; replace hc11 := hc11.ext xc36; replace hc3 := Nd.sits.ext hc3 xc36; replace h4 := h4.ext xc36; replace hs := Nd.sits.ext hs xc36; replace hE := hE.ext xc36; replace hS := hS.ext xc36; replace X := X.ext xc36; clear xc36; refine ⟨qsc37, ?_⟩; refine tw_pure rfl (pur_move rfl) rfl (tw_pure rfl (pur_eql rfl rfl) rfl (tw_pure rfl (pur_move rfl) rfl ?_)); refine tw_on rfl rfl rfl rfl (gd_tt (by decide)) (pur_loads_blk' [_, _, _, _] tabOk rfl rfl rfl (fun wz hz => (Blk.ext d_hc11 hz)) rfl rfl) rfl ?_; refine tw_on rfl rfl rfl rfl (gd_tt (by decide)) (pur_loads_blk' [_, _, _, _] tabOk rfl rfl rfl (fun wz hz => (Blk.ext d_hc31 hz)) rfl rfl) rfl ?_; refine tw_does_on rfl rfl rfl rfl (gd_tt (by decide)) (does_call (by kernel_rfl) rfl (HE.out _ _ _ _ _ _ _ (by assumption) (by assumption)) (fun _ _ h => ⟨_, h.1⟩)) rfl ?_ (fun _ h => h) tw_none; rintro _ wc41 ⟨⟨⟩, xc40⟩; have zc42 := xc40.size
    replace qsc37 := qsc37.ext xc40; replace hc31 := hc31.ext xc40; replace hc23 := Nd.sits.ext hc23 xc40; replace hc11 := hc11.ext xc40; replace hc3 := Nd.sits.ext hc3 xc40; replace h4 := h4.ext xc40; replace hs := Nd.sits.ext hs xc40; replace hE := hE.ext xc40; replace hS := hS.ext xc40; replace X := X.ext xc40; clear xc40; refine ⟨qsc37, ?_⟩; refine tw_pure rfl (pur_pick_yes rfl rfl (by decide)) rfl ?_; refine tw_pure rfl (pur_move rfl) rfl (tw_on rfl rfl rfl rfl (rfl) (pur_loads_blk' [_, _, _, _] tabOk rfl rfl rfl (fun wz hz => (Blk.ext d_h4 hz)) rfl rfl) rfl (tw_on rfl rfl rfl rfl (rfl) (pur_loads_blk' [_, _, _, _] tabOk rfl rfl rfl (fun wz hz => (Blk.ext d_h4 hz)) rfl rfl) rfl ?_)); refine tw_does_on rfl rfl rfl rfl (rfl) (does_call (by kernel_rfl) rfl (HP.out _ _ _ _ (by assumption)) (fun _ _ h => ⟨_, h.1⟩)) rfl ?_ (fun _ h => h) tw_none; rintro _ wc45 ⟨⟨⟩, xc44⟩; have zc46 := xc44.size; replace qsc37 := qsc37.ext xc44; replace hc31 := hc31.ext xc44; replace hc23 := Nd.sits.ext hc23 xc44; replace hc11 := hc11.ext xc44; replace hc3 := Nd.sits.ext hc3 xc44; replace h4 := h4.ext xc44; replace hs := Nd.sits.ext hs xc44; replace hE := hE.ext xc44; replace hS := hS.ext xc44; replace X := X.ext xc44; clear xc44; refine ⟨qsc37, ?_⟩; refine tw_does_on rfl rfl rfl rfl (rfl) (does_call (by kernel_rfl) rfl (HB.out _ _ _ _ (by assumption)) (fun _ _ h => ⟨_, h.1⟩)) rfl ?_ (fun _ h => h) tw_none; rintro _ wc49 ⟨⟨⟩, xc48⟩; have zc50 := xc48.size; replace qsc37 := qsc37.ext xc48; replace hc31 := hc31.ext xc48
    replace hc23 := Nd.sits.ext hc23 xc48; replace hc11 := hc11.ext xc48; replace hc3 := Nd.sits.ext hc3 xc48; replace h4 := h4.ext xc48; replace hs := Nd.sits.ext hs xc48; replace hE := hE.ext xc48; replace hS := hS.ext xc48; replace X := X.ext xc48; clear xc48; refine ⟨qsc37, ?_⟩; refine tw_on rfl rfl rfl rfl (rfl) (pur_move rfl) rfl (tw_on rfl rfl rfl rfl (rfl) (pur_loads_blk' [_, _, _, _] tabOk rfl rfl rfl (fun wz hz => (Blk.ext d_h4 hz)) rfl rfl) rfl (tw_on rfl rfl rfl rfl (rfl) (pur_loads_blk' [_, _, _, _] tabOk rfl rfl rfl (fun wz hz => (Blk.ext d_hc31 hz)) rfl rfl) rfl ?_)); clear d_hc31 d_hc23 d_hc11 d_hc3 d_h4 d_hs d_hE d_hS qsc37; refine tw_tail rfl (lw_on rfl rfl rfl (rfl) ?_); refine cC (by kernel_rfl) rfl (HE2.out _ _ _ _ _ _ _ (by assumption) (by assumption)) rfl ?_; rintro _ wc52 ⟨⟨⟩, xc51⟩; have zc53 := xc51.size; replace hc31 := hc31.ext xc51; replace hc23 := Nd.sits.ext hc23 xc51; replace hc11 := hc11.ext xc51; replace hc3 := Nd.sits.ext hc3 xc51; replace h4 := h4.ext xc51; replace hs := Nd.sits.ext hs xc51; replace hE := hE.ext xc51; replace hS := hS.ext xc51; replace X := X.ext xc51; clear xc51; refine lw_on rfl rfl rfl (rfl) (lw_pure (pur_pick_t rfl rfl rfl) rfl (lw_on rfl rfl rfl (rfl) (lw_pure (pur_beql tabOk rfl rfl rfl) rfl (lw_pure (pur_pick_t rfl rfl rfl) rfl (cA rfl rfl (cT (cw_ret (qw_ret1 rfl rfl ?_)))))))); rotate_left 1
   exact ⟨by simp, X⟩
 have hb : t.isBlock = false := by simpa using hb
 have HB := Lib.hid (isBlockI_v hwf hb); have HI := Lib.hid (iStmt_n hwf hi hb); have HP := Lib.hid (palin_n hwf hb); clear hwf hi hb
 focus
  refine lw_pure (pur_eql rfl rfl) rfl (cT ?_); refine cw_no rfl (by decide) ?_; refine cw_skip (qw_then (cS (lw_loads_b' [_, _, _, _] tabOk rfl rfl rfl h4 rfl rfl rfl ?_))); refine cC (by kernel_rfl) rfl (HI.out _ _ _ _ (by assumption)) rfl ?_; rintro _ wd2 ⟨⟨⟩, xd1⟩; have zd3 := xd1.size; replace h4 := h4.ext xd1; replace hs := Nd.sits.ext hs xd1; replace hE := hE.ext xd1; replace hS := hS.ext xd1; replace X := X.ext xd1; clear xd1; refine cM rfl rfl (lw_pure (pur_extract rfl rfl) rfl (lw_pure (pur_extract rfl rfl) rfl ?_)); (refine lw_alloc' [_, _, _, _] zOk rfl rfl ?_; intro bd4 wd5 nd6); (refine lw_init' [_, _, _, _] tabOk rfl rfl rfl rfl rfl rfl nd6 rfl ?_; clear nd6; clear wd5; intro wd7 nd6); have hd8 := nd6.blk; have xd9 := nd6.ext; have pd10 := nd6.pos; have zd11 := nd6.size; clear nd6; replace h4 := h4.ext xd9; replace hs := Nd.sits.ext hs xd9; replace hE := hE.ext xd9; replace hS := hS.ext xd9; replace X := X.ext xd9; clear xd9; refine cA rfl rfl (cT (cw_seq (cS (lw_loads_b' [_, _, _, _] tabOk rfl rfl rfl h4 rfl rfl rfl ?_)))); refine cC (by kernel_rfl) rfl (HS.out _ _ _ _ (by assumption)) rfl ?_; rintro _ wd13 ⟨⟨⟩, xd12⟩; have zd14 := xd12.size; replace hd8 := hd8.ext xd12; replace h4 := h4.ext xd12; replace hs := Nd.sits.ext hs xd12; replace hE := hE.ext xd12; replace hS := hS.ext xd12; replace X := X.ext xd12; clear xd12; refine lw_pure (pur_not rfl) rfl (cM rfl rfl (lw_on rfl rfl rfl (rfl) (lw_loads_b' [_, _, _, _] tabOk rfl rfl rfl h4 rfl rfl rfl (lw_on rfl rfl rfl (rfl) ?_))))
  refine cC (by kernel_rfl) rfl (HB.out _ _ _ _ (by assumption)) rfl ?_; rintro _ wd16 ⟨⟨⟩, xd15⟩; have zd17 := xd15.size; replace hd8 := hd8.ext xd15; replace h4 := h4.ext xd15; replace hs := Nd.sits.ext hs xd15; replace hE := hE.ext xd15; replace hS := hS.ext xd15; replace X := X.ext xd15; clear xd15; refine lw_on rfl rfl rfl (rfl) (lw_pure (pur_not rfl) rfl (lw_pure (pur_pick_t rfl rfl rfl) rfl (cT (cw_cond_t rfl (cS (cM rfl rfl (lw_pure (pur_eql rfl rfl) rfl (cM rfl rfl ?_)))))))); refine lw_on rfl rfl rfl (gd_tt (by decide)) ?_; refine lw_loads_b' [_, _, _, _] tabOk rfl rfl rfl hd8 rfl rfl rfl ?_; refine lw_on rfl rfl rfl (gd_tt (by decide)) ?_; refine lw_pure (pur_build' [_, _, _, _] tabOk zOk rfl rfl rfl rfl) rfl ?_; refine lw_on rfl rfl rfl (gd_tt (by decide)) ?_; refine cC (by kernel_rfl) rfl (zero17_c _) rfl ?_; rintro _ wd19 ⟨⟨⟩, xd18⟩; have zd20 := xd18.size; replace hd8 := hd8.ext xd18; replace h4 := h4.ext xd18; replace hs := Nd.sits.ext hs xd18; replace hE := hE.ext xd18; replace hS := hS.ext xd18; replace X := X.ext xd18; clear xd18; refine lw_pure (pur_pick_yes rfl rfl (by decide)) rfl ?_; refine cM rfl rfl (lw_on rfl rfl rfl (rfl) (lw_loads_b' [_, _, _, _] tabOk rfl rfl rfl h4 rfl rfl rfl (lw_on rfl rfl rfl (rfl) ?_))); refine cC (by kernel_rfl) rfl (HP.out _ _ _ _ (by assumption)) rfl ?_; rintro _ wd22 ⟨⟨⟩, xd21⟩; have zd23 := xd21.size; replace hd8 := hd8.ext xd21; replace h4 := h4.ext xd21; replace hs := Nd.sits.ext hs xd21; replace hE := hE.ext xd21; replace hS := hS.ext xd21
  replace X := X.ext xd21; clear xd21; refine lw_on rfl rfl rfl (rfl) (lw_pure (pur_not rfl) rfl (lw_pure (pur_pick_t rfl rfl rfl) rfl (cA rfl rfl (cT (cw_ret (qw_then_ret (qw_ret1 rfl rfl ?_))))))); rotate_left 1
 exact ⟨rfl, X⟩
end Bk
namespace Bk
open Go Go.RowKit Go.Proofs
def AllB : Nat → Prop := fun _ => True
theorem row_build (W : World) (b o : Nat) : ∀ (len i0 : Nat), (∀ i, i < len → ∃ (t : Nd) (a' : Option Addr) (c' : Nat), t.wf ∧ W.cell? ⟨b, o + (i0 + i) * 4, none⟩ = some (.int .u8 t.kind) ∧ W.cell? ⟨b, o + (i0 + i) * 4 + 1, none⟩ = some (.int .i64 t.num) ∧ W.cell? ⟨b, o + (i0 + i) * 4 + 2, none⟩ = some (str t.name) ∧ W.cell? ⟨b, o + (i0 + i) * 4 + 3, none⟩ = some (.slice a' t.kids.length c') ∧ t.sits AllB W a') →
 ∃ l : List Nd, l.length = len ∧ rowWf l ∧ rowSits AllB W l (some ⟨b, o + i0 * 4, none⟩)
 | 0, _, _ => ⟨[], rfl, by simp [rowWf], by simp [rowSits]⟩
 | len + 1, i0, h => by
  obtain ⟨l, hl, hw, hs⟩ := row_build W b o len (i0 + 1) (fun i hi => by
   have := h (i + 1) (by omega)
   rwa [show i0 + (i + 1) = i0 + 1 + i from by omega] at this)
  obtain ⟨t, a', c', hwf, h0, h1, h2, h3, hsk⟩ := h 0 (by omega); rw [Nat.add_zero] at h0 h1 h2 h3; refine ⟨t :: l, by simp [hl], by simp [rowWf, hwf, hw], ?_⟩; simp only [rowSits]; refine ⟨b, o + i0 * 4, a', c', rfl, trivial, h0, h1, h2, h3, hsk, ?_⟩
  rwa [show o + i0 * 4 + 4 = o + (i0 + 1) * 4 from by omega]
theorem cells4 {W : World} {a : Addr} {cs : List Value} (h : W.cells? 0 a 4 = some cs) : ∃ c0 c1 c2 c3, cs = [c0, c1, c2, c3] ∧ W.cell? (a.add 0) = some c0 ∧ W.cell? (a.add 1) = some c1 ∧ W.cell? (a.add 2) = some c2 ∧ W.cell? (a.add 3) = some c3 := by
 unfold World.cells? at h
 rw [if_pos (Nat.zero_le _)] at h; rw [show List.range 4 = [0, 1, 2, 3] from rfl] at h
 cases e0 : W.cell? (a.add 0) <;> simp [e0] at h
 cases e1 : W.cell? (a.add 1) <;> simp [e1] at h
 cases e2 : W.cell? (a.add 2) <;> simp [e2] at h
 cases e3 : W.cell? (a.add 3) <;> simp [e3] at h
 exact ⟨_, _, _, _, h.symm, rfl, rfl, rfl, rfl⟩
theorem addr_add2 (b o n m : Nat) : ((⟨b, o, none⟩ : Addr).add n).add m = ⟨b, o + n + m, none⟩ := by
 unfold Addr.add
 by_cases hn : n = 0 <;> by_cases hm : m = 0 <;> simp [hn, hm]
theorem cellsNode : Tryz.prog.cellsOf 24 = 4 := by kernel_rfl
theorem cells5 : Tryz.prog.cellsOf 5 = 1 := by kernel_rfl
theorem cells3 : Tryz.prog.cellsOf 3 = 1 := by kernel_rfl
theorem cells9 : Tryz.prog.cellsOf 9 = 1 := by kernel_rfl
theorem cells22 : Tryz.prog.cellsOf 22 = 1 := by kernel_rfl
theorem node_of_trod {H : Type} (enc : TypeId × Value → H) (W : World) (sp : Nat → Bool) (N : Nat) : ∀ (fuel : Nat), fuel < N → ∀ (cs : List Value) (x : DataW H × List MemPlace), DataW.trod enc Tryz.prog W 0 sp true fuel 24 cs = some x →
 ∃ (t : Nd) (a : Option Addr) (c : Nat), cs = [.int .u8 t.kind, .int .i64 t.num, str t.name, .slice a t.kids.length c] ∧ t.wf ∧ t.sits AllB W a := by
 induction N with
 | zero => intro fuel h; omega
 | succ N ih =>
  intro fuel hN cs x h; obtain ⟨xs, n, rfl, -, hl, hlen, hf⟩ := DataW.trod_struct Tryz.underlying24 h; rw [cellsNode] at hl
  obtain ⟨c0, c1, c2, c3, rfl⟩ : ∃ c0 c1 c2 c3, cs = [c0, c1, c2, c3] := by
   rcases cs with _ | ⟨c0, _ | ⟨c1, _ | ⟨c2, _ | ⟨c3, _ | ⟨c4, cs⟩⟩⟩⟩⟩
   · simp at hl
   · simp at hl
   · simp at hl
   · simp at hl
   · exact ⟨_, _, _, _, rfl⟩
   · simp at hl
  obtain ⟨y0, y1, y2, y3, rfl⟩ : ∃ y0 y1 y2 y3, xs = [y0, y1, y2, y3] := by
   have hlen' : xs.length = 4 := hlen
   rcases xs with _ | ⟨c0, _ | ⟨c1, _ | ⟨c2, _ | ⟨c3, _ | ⟨c4, cs⟩⟩⟩⟩⟩
   · simp at hlen'
   · simp at hlen'
   · simp at hlen'
   · simp at hlen'
   · exact ⟨_, _, _, _, rfl⟩
   · simp at hlen'
  · have f0 : DataW.trod enc Tryz.prog W 0 sp true n 5 (([c0, c1, c2, c3].drop 0).take (Tryz.prog.cellsOf 5)) = some y0 := hf 0 _ rfl
    have f1 : DataW.trod enc Tryz.prog W 0 sp true n 3 (([c0, c1, c2, c3].drop 1).take (Tryz.prog.cellsOf 3)) = some y1 := hf 1 _ rfl; have f2 : DataW.trod enc Tryz.prog W 0 sp true n 9 (([c0, c1, c2, c3].drop 2).take (Tryz.prog.cellsOf 9)) = some y2 := hf 2 _ rfl; have f3 : DataW.trod enc Tryz.prog W 0 sp true n 22 (([c0, c1, c2, c3].drop 3).take (Tryz.prog.cellsOf 22)) = some y3 := hf 3 _ rfl; simp only [cells5, cells3, cells9, cells22, List.drop_zero, List.drop_succ_cons, List.take_succ_cons, List.take_zero] at f0 f1 f2 f3; obtain ⟨k, hk, -, wk⟩ := DataW.trod_int (show Tryz.prog.underlying 5 = some (.int .u8) by kernel_rfl) f0; obtain ⟨m, hm, -, wm⟩ := DataW.trod_int Tryz.underlying3 f1; obtain ⟨s, hs, -, ws⟩ := DataW.trod_string (show Tryz.prog.underlying 9 = some .string by kernel_rfl) f2; simp only [List.cons.injEq, and_true] at hk hm hs; subst hk hm hs
    have wk' : 0 ≤ k ∧ k ≤ 255 := by simpa [Lit.wf, IntKind.min, IntKind.max, IntKind.signed, IntKind.bits] using wk
    have wm' : -9223372036854775808 ≤ m ∧ m ≤ 9223372036854775807 := by simpa [Lit.wf, IntKind.min, IntKind.max, IntKind.signed, IntKind.bits] using wm
    have ws' : s.data.toList.length ≤ 9223372036854775807 := by
     have : s.data.toList.length = s.size := by rw [Array.length_toList]; rfl
     unfold maxLen at ws; omega
    rcases DataW.trod_slice Tryz.underlying22 f3 with ⟨hc, -⟩ | ⟨a, len, cap, elems, rest, n', hn', hc, -, -, hle, hcm, hel, hE, -⟩
    · simp only [List.cons.injEq, and_true] at hc
      subst hc
      exact ⟨.mk k m s.data.toList [], none, 0, rfl, ⟨wk'.1, wk'.2, wm'.1, wm'.2, ws', by simp, by simp [rowWf]⟩, by simp [Nd.sits, rowSits]⟩
    · simp only [List.cons.injEq, and_true] at hc
      subst hc; rw [cellsNode] at hE
      rcases Nat.eq_zero_or_pos len with h0 | hpos
      · subst h0
        exact ⟨.mk k m s.data.toList [], some a, cap, rfl, ⟨wk'.1, wk'.2, wm'.1, wm'.2, ws', by simp, by simp [rowWf]⟩, by simp [Nd.sits, rowSits]⟩
      · have step : ∀ i, i < len → ∃ (t : Nd) (a' : Option Addr) (c' : Nat), t.wf ∧ W.cell? ((a.add (i * 4)).add 0) = some (.int .u8 t.kind) ∧ W.cell? ((a.add (i * 4)).add 1) = some (.int .i64 t.num) ∧ W.cell? ((a.add (i * 4)).add 2) = some (str t.name) ∧ W.cell? ((a.add (i * 4)).add 3) = some (.slice a' t.kids.length c') ∧ t.sits AllB W a' := by
         intro i hi; have hEi := hE i hi
         cases hc4 : W.cells? 0 (a.add (i * 4)) 4 with
         | none =>
          rw [hc4] at hEi; have hh : elems[i]? = some elems[i] := List.getElem?_eq_getElem (by omega); rw [hh] at hEi
          simp at hEi
         | some cs4 =>
          rw [hc4, List.getElem?_eq_getElem (by omega)] at hEi; obtain ⟨d0, d1, d2, d3, rfl, e0, e1, e2, e3⟩ := cells4 hc4; obtain ⟨t, a', c', hcs, hw, hs⟩ := ih n' (by omega) _ _ hEi; simp only [List.cons.injEq, and_true] at hcs; obtain ⟨rfl, rfl, rfl, rfl⟩ := hcs
          exact ⟨t, a', c', hw, e0, e1, e2, e3, hs⟩
        obtain ⟨b, o, spot⟩ := a
        have hspot : spot = none := by
         obtain ⟨t, a', c', -, e0, -⟩ := step 0 hpos; simp only [Nat.zero_mul, Addr.add, if_true] at e0
         unfold World.cell? at e0
         cases spot with
         | none => rfl
         | some q => simp at e0; split at e0 <;> simp at e0
        subst hspot
        obtain ⟨l, hl', hw', hs'⟩ := row_build W b o len 0 (fun i hi => by
         obtain ⟨t, a', c', hw, e0, e1, e2, e3, hs⟩ := step i hi; rw [addr_add2] at e0 e1 e2 e3; rw [Nat.zero_add]
         exact ⟨t, a', c', hw, e0, e1, e2, e3, hs⟩)
        subst hl'; refine ⟨.mk k m s.data.toList l, some ⟨b, o, none⟩, cap, rfl, ⟨wk'.1, wk'.2, wm'.1, wm'.2, ws', by unfold maxLen at hcm; omega, hw'⟩, ?_⟩
        simpa [Nd.sits] using hs'
end Bk
namespace Bk
open Go Go.RowKit Go.Proofs
theorem InverterStmts_d (t : Nd) (a : Option Addr) (c : Nat) (w : World) (hwf : t.wf) (hs : t.sits AllB w a) (hS : Syms w) (hE : Errs w) :
 Calls Tryz.prog 3 #[t.val a c] w fun e w' => e = .returned (.bool true) ∧ Ext w w' := InverterStmts_c t hwf AllB a c w hs hS hE
end Bk
namespace Bk
open Go Go.RowKit Go.Proofs Go.Lib
theorem cells_of_strs {H : Type} {enc : TypeId × Value → H} {P : Program} {w : World} {base : Nat} {sp : Nat → Bool} {held : Bool} {fuel : Nat} {t e : TypeId} {n : Nat} {cs : List Value} {zs : List (List UInt8)} {p : List MemPlace}
 (ht : P.underlying t = some (.array n e)) (he : P.underlying e = some .string) (hce : P.cellsOf e = 1) (hct : P.cellsOf t = n)
 (h : DataW.trod enc P w base sp held fuel t cs = some (.agg (zs.map fun z => .lit (.string z)), p)) : cs = zs.map str := by
 cases fuel with
 | zero => simp [DataW.trod] at h
 | succ fuel =>
  simp only [DataW.trod, ht, hce, hct, Nat.mul_one] at h
  split at h
  · rename_i hl
    obtain ⟨xs, hm, hx⟩ := Option.map_eq_some_iff.1 h
    have hxs : xs.map (·.1) = zs.map fun z => (DataW.lit (.string z) : DataW H) := by
     have := congrArg Prod.fst hx
     simpa using this
    have hxl : xs.length = n := by simpa using mapM_length hm
    have hzl : zs.length = n := by
     have := congrArg List.length hxs
     simp at this
     omega
    apply List.ext_getElem?
    intro i
    by_cases hi : i < n
    · obtain ⟨b, hb, hf⟩ := mapM_at hm i i (by simp [hi])
      obtain ⟨z, hc, rfl, _⟩ := DataW.trod_string he hf
      have h1 : cs[i]? = some (.string z) := by
       have := congrArg (·[0]?) hc
       simpa [List.getElem?_take, List.getElem?_drop] using this
      have h2 : (xs.map (·.1))[i]? = some (DataW.lit (.string z.data.toList) : DataW H) := by simp [hb]
      rw [hxs] at h2; simp only [List.getElem?_map, Option.map_eq_some_iff, DataW.lit.injEq, Lit.string.injEq] at h2; obtain ⟨z', hz', rfl⟩ := h2
      simp [h1, hz']
    · rw [List.getElem?_eq_none (by omega), List.getElem?_eq_none (by simp; omega)]
  · cases h
end Bk
namespace Bk
open Go Go.RowKit Go.Proofs Go.Lib
theorem gSym4 : Tryz.prog.globalNamed "backstep/arith.symbols" = some 0 := by kernel_rfl
theorem gSymT4 : (Tryz.prog.globals[0]?).map (·.type) = some 92 := by kernel_rfl
theorem uSymT4 : Tryz.prog.underlying 92 = some (.array 43 9) := by kernel_rfl
theorem cSymT4 : Tryz.prog.cellsOf 92 = 43 := by kernel_rfl
theorem uStr4 : Tryz.prog.underlying 9 = some .string := by kernel_rfl
theorem cStr4 : Tryz.prog.cellsOf 9 = 1 := by kernel_rfl
theorem gErr4 : Tryz.prog.globalNamed "strconv.ErrRange" = some 3 := by kernel_rfl
theorem gErrT4 : (Tryz.prog.globals[3]?).map (·.type) = some 103 := by kernel_rfl
theorem uErr4 : ∃ ms, Tryz.prog.underlying 103 = some (.interface ms) := ⟨_, Tryz.underlying103⟩
theorem symData4 : (YtgiikljkekpenaaGreatDoor.Rows.laid_backstep_arith_symbols : DataW Unit) = .agg (symbols.map fun z => .lit (.string z)) := rfl
abbrev laid4 : List (String × DataW Unit) := [("backstep/arith.symbols", YtgiikljkekpenaaGreatDoor.Rows.laid_backstep_arith_symbols), ("math/bits.deBruijn32tab", YtgiikljkekpenaaGreatDoor.Rows.laid_math_bits_deBruijn32tab), ("math/bits.deBruijn64tab", YtgiikljkekpenaaGreatDoor.Rows.laid_math_bits_deBruijn64tab), ("internal/strconv.uint64pow10", YtgiikljkekpenaaGreatDoor.Rows.laid_internal_strconv_uint64pow10), ("strconv.ErrRange", YtgiikljkekpenaaGreatDoor.Rows.laid_strconv_ErrRange), ("strconv.ErrSyntax", YtgiikljkekpenaaGreatDoor.Rows.laid_strconv_ErrSyntax)]
theorem syms_of_laid {W : World} (h : laidMetH Tryz.prog laid4 W) : Syms W ∧ Errs W := by
 have h' : laidMet Tryz.prog laid4 W := h; obtain ⟨ps, ⟨g1, t1, cs1, f1, p1, q1, hg1, ht1, hv1, hd1, ⟨g2, t2, cs2, f2, p2, q2, hg2, ht2, hv2, hd2, ⟨g3, t3, cs3, f3, p3, q3, hg3, ht3, hv3, hd3, ⟨g4, t4, cs4, f4, p4, q4, hg4, ht4, hv4, hd4, ⟨g5, t5, cs5, f5, p5, q5, hg5, ht5, hv5, hd5, -, -⟩, -⟩, -⟩, -⟩, -⟩, -⟩ := h'; obtain rfl := Option.some.inj (gSym4.symm.trans hg1); obtain rfl := Option.some.inj (gSymT4.symm.trans ht1); obtain rfl := Option.some.inj (gErr4.symm.trans hg5); obtain rfl := Option.some.inj (gErrT4.symm.trans ht5); rw [symData4] at hd1; have e1 := cells_of_strs uSymT4 uStr4 cStr4 cSymT4 hd1; refine ⟨⟨fun i hi => ?_⟩, ?_⟩
 · rw [World.var?_cell gSym4 hv1 i, ← Array.getElem?_toList, e1, List.getElem?_map]
   have : symbols[i]? = some (symbols.getD i []) := by
    rw [List.getD_eq_getElem?_getD, List.getElem?_eq_getElem (show i < symbols.length from hi)]; rfl
   rw [this]; rfl
 · obtain ⟨ms, hu⟩ := uErr4
   obtain ⟨f, u, v, hc, -, -⟩ := iface_of_trod hu hd5; refine ⟨⟨u, v, ?_⟩⟩; rw [World.var?_cell gErr4 hv5 0, ← Array.getElem?_toList, hc]
   rfl
end Bk
