/- Texts that the proofs of FuntextParse need. No condition. (Part 7 of 8.) -/
import Derived.Test.YthfjhbdgdaebnaaGreatDoorPFpa6
set_option linter.unusedSimpArgs false
set_option linter.unusedVariables false
namespace Bk
open Go Go.RowKit Go.Proofs
attribute [local irreducible] Go.Calls
theorem found_on' {t : List UInt8} {lv q : Int} (h : binOf t = some (8 + q)) (hl : level (8 + q) = lv) : foundI t lv 16 = q := by
 rw [found_on h hl]; omega
set_option maxRecDepth 100000 in
set_option maxHeartbeats 8000000 in
theorem expr_gw (c : RC) (k : Nat) (IH : ∀ j, j ≤ k → ExprsG c j) (lv : Int) (σ : PS) (w : World) (hP : RP c σ w) (hl0 : 1 ≤ lv) (hl1 : lv ≤ 9) (hk : (12 * mS c.ts σ : Int) + 12 ≤ (k + 1 : Nat) + lv) : Calls Tryz.prog 65 #[.pointer (some ⟨c.pb, 0, none⟩), .int .i64 lv] w (RTreeR c w (exprS c.ts c.n (k + 1) lv σ)) := by
 have X := Fr.refl (· = c.pb) w; have hpb := hP.pbB; have hB := hP.B; have hlen := hP.len
 by_cases h9 : 8 < lv
 · rw [show exprS c.ts c.n (k + 1) lv σ = primS c.ts c.n k σ from by rw [exprS]; simp [h9]]
   refine calls_in Tryz.func65 Tryz.ntmps65 rfl rfl ?_
   focus
    refine cS ?_; (refine lw_alloc' [_, _, _, _] zOk rfl rfl ?_; intro b1 w2 n3); have h5 := n3.blk; have x6 := n3.ext; have p7 := n3.pos; have z8 := n3.size; clear n3; replace hP := hP.ext x6; replace X := X.ext x6; clear x6; refine cT (cw_seq (cS (C1 Mv (C1 V5 (cT (Wya (cS (C1 Mv ?_)))))))); refine cR (by kernel_rfl) rfl ((IH k (Nat.le_refl _)).p _ _ (by assumption) (by omega)) (fun _ _ h => h.ret) rfl ?_; rintro _ w14 ⟨a9, ⟨k10, ⟨⟨⟩, ⟨h11, ⟨h12, f13⟩⟩⟩⟩⟩; have z15 := f13.size; replace h5 := h5.fr f13 (by omega); clear hP; replace X := X.fr f13 (by omega); clear f13; (refine lw_store' [_, _, _, _] [_, _, _, _] tabOk rfl rfl rfl rfl rfl rfl h5 rfl rfl ?_; intro w16 n17); have h20 := n17.blk; have f18 := n17.fr; have z19 := n17.size; clear n17 h5; replace h11 := Nd.sits.fr h11 f18 (by omega); replace h12 := h12.fr f18 (by omega); replace X := X.fr f18 (by omega); clear f18; refine cT (cw_ret (qw_then_ret (qw_retc rfl tabOk rfl rfl rfl h20 rfl ?_))); rotate_left 1
   exact rtree_ret (Nd.sits.wide (by assumption) (fun b h => by omega)) (by assumption) X
 rw [show exprS c.ts c.n (k + 1) lv σ = loopS c.ts c.n k lv (exprS c.ts c.n k (lv + 1) σ).1 (exprS c.ts c.n k (lv + 1) σ).2 from by rw [exprS]; simp [h9]]; have hu := exprS_le (n := c.n) (k := k) (lv := lv + 1) hP.at_; have hum := mS_le hu; refine calls_in Tryz.func65 Tryz.ntmps65 rfl rfl ?_
 focus
  refine cS ?_; (refine lw_alloc' [_, _, _, _] zOk rfl rfl ?_; intro ba1 wa2 na3); have ha5 := na3.blk; have xa6 := na3.ext; have pa7 := na3.pos; have za8 := na3.size; clear na3; replace hP := hP.ext xa6; replace X := X.ext xa6; clear xa6; refine cT (cw_seq (cS (C1 Mv (C1 V5 (cT (Wna (cw_skip (qw_then (cS (C1 Mv (C1 Mv ?_))))))))))); refine C1 V7 ?_; refine cR (by kernel_rfl) rfl ((IH k (Nat.le_refl _)).e _ _ _ (by assumption) (by omega) (by omega) (by omega)) (fun _ _ h => h.ret) rfl ?_; rintro _ wa14 ⟨aa9, ⟨ka10, ⟨⟨⟩, ⟨ha11, ⟨ha12, fa13⟩⟩⟩⟩⟩; have za15 := fa13.size; replace ha5 := ha5.fr fa13 (by omega); clear hP; replace X := X.fr fa13 (by omega); clear fa13; (refine lw_alloc' [_, _, _, _] zOk rfl rfl ?_; intro ba16 wa17 na18); (refine lw_init' [_, _, _, _] tabOk rfl rfl rfl rfl rfl rfl na18 rfl ?_; clear na18; clear wa17; intro wa19 na18); have ha20 := na18.blk; have xa21 := na18.ext; have pa22 := na18.pos; have za23 := na18.size; clear na18; replace ha11 := Nd.sits.ext ha11 xa21; replace ha12 := ha12.ext xa21; replace ha5 := ha5.ext xa21; replace X := X.ext xa21; clear xa21; refine cT (cw_seq (cw_block ?_)); rotate_left 1
 refine cw_loop (ι := Nat × Nd × Option Addr × Nat × PS) (fun _ => [(0, .pointer (some ⟨c.pb, 0, none⟩)), (1, .int .i64 lv), (4, .pointer (some ⟨ba1, 0, none⟩)), (5, .pointer (some ⟨ba16, 0, none⟩))])
  (fun x w' => RP c x.2.2.2.2 w' ∧ Blk w' ba16 (x.2.1.cells x.2.2.1 x.2.2.2.1) ∧ x.2.1.sits (fun b => w.heap.size ≤ b ∧ b ≠ ba1 ∧ b ≠ ba16) w' x.2.2.1 ∧ Blk w' ba1 [.int .u8 0, .int .i64 0, .string ⟨#[]⟩, .slice none 0 0] ∧ Fr (· = c.pb) w w' ∧ wa19.heap.size ≤ w'.heap.size ∧
   loopS c.ts c.n k lv (exprS c.ts c.n k (lv + 1) σ).1 (exprS c.ts c.n k (lv + 1) σ).2 = loopS c.ts c.n x.1 lv x.2.1 x.2.2.2.2 ∧ 12 * mS c.ts x.2.2.2.2 + 1 ≤ x.1 ∧ x.1 ≤ k) (fun x => x.1) (k, (exprS c.ts c.n k (lv + 1) σ).1, aa9, ka10, (exprS c.ts c.n k (lv + 1) σ).2) (by (refine sub_cons rfl ?_; refine sub_cons rfl ?_; refine sub_cons rfl ?_; refine sub_cons rfl ?_; exact sub_nil))
  ⟨by assumption, by assumption, Nd.sits.wide (by assumption) (fun b h => ⟨by omega, by omega, by omega⟩), by assumption, X, Nat.le_refl _, rfl, by simp only; omega, Nat.le_refl _⟩ ?_
 clear X; rintro ⟨j, x, xa, xc, σ'⟩ w1 ⟨hP, h5, hs, h4, X, hz, he, hfj, hjk⟩; simp only at hP h5 hs he hfj hjk; rw [he]; clear he hu hum; obtain ⟨j, rfl⟩ : ∃ i, j = i + 1 := ⟨j - 1, by omega⟩
 by_cases h0 : σ'.err = 0
 case neg =>
  rw [show loopS c.ts c.n (j + 1) lv x σ' = (x, σ') from by rw [loopS]; simp [h0]]
  focus
   refine cw_seq (cS (C1 Mv (C1 Pn (C1 Pf (lw_load_b tabOk rfl rfl rfl (RP.blk hP) rfl rfl (C1 V1 (cT (Wna (cw_exit (qw_then_exit (qw_then_exit ?_))))))))))); refine qw_block_exit (qw_then (cS (lw_loads_b' [_, _, _, _] tabOk rfl rfl rfl h5 rfl rfl rfl ?_))); (refine lw_store' [_, _, _, _] [_, _, _, _] tabOk rfl rfl rfl rfl rfl rfl h4 rfl rfl ?_; intro wb1 nb2); have hb5 := nb2.blk; have fb3 := nb2.fr; have zb4 := nb2.size; clear nb2 h4; replace hP := hP.fr fb3 (by omega); replace h5 := h5.fr fb3 (by omega); replace hs := Nd.sits.fr hs fb3 (by omega); replace X := X.fr fb3 (by omega); clear fb3; refine cT (cw_ret (qw_retc rfl tabOk rfl rfl rfl hb5 rfl ?_)); rotate_left 1
  exact rtree_ret (Nd.sits.wide hs (fun b h => h.1)) (by assumption) X
 focus
  refine cw_seq (cS (C1 Mv (C1 Pn (C1 Pf (lw_load_b tabOk rfl rfl rfl (RP.blk hP) rfl rfl (C1 V1 (cT (Wya (cw_skip (qw_then (cw_block ?_))))))))))); refine cS (C1 Pa (cT (cw_seq (cS (C1 Pa (cT (cw_block ?_))))))); rotate_left 1
 refine cw_loop (ι := Nat) (fun i => [(0, .pointer (some ⟨c.pb, 0, none⟩)), (1, .int .i64 lv), (4, .pointer (some ⟨ba1, 0, none⟩)), (5, .pointer (some ⟨ba16, 0, none⟩)), (6, .int .i64 (foundI (peekP c.ts σ').text lv i)), (7, .int .i64 i)])
  (fun i w' => RP c σ' w' ∧ Blk w' ba16 (x.cells xa xc) ∧ x.sits (fun b => w.heap.size ≤ b ∧ b ≠ ba1 ∧ b ≠ ba16) w' xa ∧ Blk w' ba1 [.int .u8 0, .int .i64 0, .string ⟨#[]⟩, .slice none 0 0] ∧ Fr (· = c.pb) w w' ∧ wa19.heap.size ≤ w'.heap.size ∧ i ≤ 16) (fun i => 16 - i) 0 (by rw [found_zero]; (refine sub_cons rfl ?_; refine sub_cons rfl ?_; refine sub_cons rfl ?_; refine sub_cons rfl ?_; refine sub_cons rfl ?_; refine sub_cons rfl ?_; exact sub_nil))
  ⟨hP, h5, hs, h4, X, hz, by omega⟩ ?_
 clear hP h5 hs h4 X hz; rintro i w2 ⟨hP, h5, hs, h4, X, hz, hi⟩; have hpl := rpeek_len hP
 by_cases hi16 : i < 16
 · have HS := Lib.hid (fun w => gSymbols_j hi16 w)
   have HL := Lib.hid (fun w => gLevels_j hi16 w)
   by_cases hx : symbol (8 + (i : Int)) = (peekP c.ts σ').text
   · by_cases hl : level (8 + (i : Int)) = lv
     · have HY := Lib.hid (found_yes hi16 hx hl)
       focus
        refine cw_seq (cS (C1 Mv (C1 V3 (cT (Wyo (cw_skip (qw_then (cw_seq (cw_block (cw_seq ?_)))))))))); (refine cw_tdraw (fun wz => Ext w2 wz) 13 (.pure 1 (.pure 4 (.fork 0 (.pure 2 (.fork 3 (.fork 5 (.pure 6 (.pure 7 (.pure 9 (.pure 12 (.fork 8 (.pure 10 (.fork 11 .tail .none)) .none))))) .none) (.fork 5 (.fork 3 (.pure 6 (.pure 7 (.pure 9 (.pure 12 (.fork 8 (.pure 10 (.fork 11 .tail .none)) .none))))) .none) .none))) .none))) mixed (by kernel_rfl) (panicOk_then (panicOk_block (panicOk_then (panicOk_then (panicOk_block (panicOk_then (panicOk_block (panicOk_then (panicOk_block (panicOk_then panicOk_body)))))))))) ?_; intro wd1 xd2 _); have qsd3 : (fun wz => Ext w2 wz) wd1 := xd2; simp only at qsd3; have d_hP := hP; have d_h5 := h5; have d_hs := hs; have d_h4 := h4; have zd4 := xd2.size; replace hP := hP.ext xd2; replace h5 := h5.ext xd2; replace hs := Nd.sits.ext hs xd2; replace h4 := h4.ext xd2; replace X := X.ext xd2; clear xd2; refine ⟨qsd3, ?_⟩; refine Tq rfl Mv (Tq rfl Mv ?_); refine tw_does rfl (does_call (by kernel_rfl) rfl (HS.out _) (fun _ _ ⟨_, h⟩ => ⟨_, h.1⟩)) rfl ?_ (fun _ h => h) tw_none; rintro _ wd9 ⟨bd6, ⟨⟨⟩, ⟨hd7, xd8⟩⟩⟩; have zd10 := xd8.size; replace qsd3 := qsd3.ext xd8; replace hP := hP.ext xd8; replace h5 := h5.ext xd8; replace hs := Nd.sits.ext hs xd8; replace h4 := h4.ext xd8; replace X := X.ext xd8; clear xd8; refine ⟨qsd3, ?_⟩; refine Tq rfl Pi ?_; (refine tw_does rfl (does_pur (pur_load tabOk rfl rfl rfl (fun wz hz => by subst hz; exact Row.at0 hd7 rfl))) rfl ?_ (fun _ h => h) ?krd11; rintro _ _ ⟨rfl, rfl⟩)
        refine ⟨qsd3, ?_⟩; refine tw_does rfl (does_call (by kernel_rfl) rfl (gpeek_c _ _ _ (by assumption)) (fun _ _ h => ⟨_, h.1⟩)) rfl ?_ (fun _ h => h) tw_none; rintro _ wd14 ⟨⟨⟩, xd13⟩; have zd15 := xd13.size; replace hd7 := hd7.ext xd13; replace qsd3 := qsd3.ext xd13; replace hP := hP.ext xd13; replace h5 := h5.ext xd13; replace hs := Nd.sits.ext hs xd13; replace h4 := h4.ext xd13; replace X := X.ext xd13; clear xd13; refine ⟨qsd3, ?_⟩; refine Tq rfl V8 (Tq rfl Mv ?_); refine tw_on rfl rfl rfl rfl (gd_tt (by assumption)) (pur_move rfl) rfl ?_; refine tw_on rfl rfl rfl rfl (gd_tt (by assumption)) (pur_move rfl) rfl ?_; refine tw_does_on rfl rfl rfl rfl (gd_tt (by assumption)) (does_call (by kernel_rfl) rfl (HL.out _) (fun _ _ ⟨_, h⟩ => ⟨_, h.1⟩)) rfl ?_ (fun _ h => h) tw_none; rintro _ wd20 ⟨bd17, ⟨⟨⟩, ⟨hd18, xd19⟩⟩⟩; have zd21 := xd19.size; replace hd7 := hd7.ext xd19; replace qsd3 := qsd3.ext xd19; replace hP := hP.ext xd19; replace h5 := h5.ext xd19; replace hs := Nd.sits.ext hs xd19; replace h4 := h4.ext xd19; replace X := X.ext xd19; clear xd19; refine ⟨qsd3, ?_⟩; refine tw_on rfl rfl rfl rfl (gd_tt (by assumption)) (pur_indexAddr tabOk rfl rfl rfl rfl (by omega) (by omega)) rfl ?_; (refine tw_does_on rfl rfl rfl rfl (gd_tt (by assumption)) (does_pur (pur_load tabOk rfl rfl rfl (fun wz hz => by subst hz; exact Row.at0 hd18 rfl))) rfl ?_ (fun _ h => h) tw_none; rintro _ _ ⟨rfl, rfl⟩); refine ⟨qsd3, ?_⟩; clear d_hP d_h5 d_hs d_h4 qsd3; refine tw_tail rfl (Gya (C1 V1 (C1 Qya (cT (Wya (cw_region (C1 Mv (C1 Pa (lw_nil (qw_block_norm (qw_then ?_)))))))))))
        refine cw_region (C1 Mv (C1 V7 (C1 Pa (lw_nil ?_)))); rotate_left 1; refine tw_does rfl (does_call (by kernel_rfl) rfl (gpeek_c _ _ _ (by assumption)) (fun _ _ h => ⟨_, h.1⟩)) rfl ?_ (fun _ h => h) tw_none; rintro _ wd25 ⟨⟨⟩, xd24⟩; have zd26 := xd24.size; replace hd7 := hd7.ext xd24; replace qsd3 := qsd3.ext xd24; replace hP := hP.ext xd24; replace h5 := h5.ext xd24; replace hs := Nd.sits.ext hs xd24; replace h4 := h4.ext xd24; replace X := X.ext xd24; clear xd24; refine ⟨qsd3, ?_⟩; (refine tw_does rfl (does_pur (pur_load tabOk rfl rfl rfl (fun wz hz => by subst hz; exact Row.at0 hd7 rfl))) rfl ?_ (fun _ h => h) tw_none; rintro _ _ ⟨rfl, rfl⟩); refine ⟨qsd3, ?_⟩; refine Tq rfl V8 (Tq rfl Mv ?_); refine tw_on rfl rfl rfl rfl (gd_tt (by assumption)) (pur_move rfl) rfl ?_; refine tw_on rfl rfl rfl rfl (gd_tt (by assumption)) (pur_move rfl) rfl ?_; refine tw_does_on rfl rfl rfl rfl (gd_tt (by assumption)) (does_call (by kernel_rfl) rfl (HL.out _) (fun _ _ ⟨_, h⟩ => ⟨_, h.1⟩)) rfl ?_ (fun _ h => h) tw_none; rintro _ wd32 ⟨bd29, ⟨⟨⟩, ⟨hd30, xd31⟩⟩⟩; have zd33 := xd31.size; replace hd7 := hd7.ext xd31; replace qsd3 := qsd3.ext xd31; replace hP := hP.ext xd31; replace h5 := h5.ext xd31; replace hs := Nd.sits.ext hs xd31; replace h4 := h4.ext xd31; replace X := X.ext xd31; clear xd31; refine ⟨qsd3, ?_⟩; refine tw_on rfl rfl rfl rfl (gd_tt (by assumption)) (pur_indexAddr tabOk rfl rfl rfl rfl (by omega) (by omega)) rfl ?_; (refine tw_does_on rfl rfl rfl rfl (gd_tt (by assumption)) (does_pur (pur_load tabOk rfl rfl rfl (fun wz hz => by subst hz; exact Row.at0 hd30 rfl))) rfl ?_ (fun _ h => h) tw_none; rintro _ _ ⟨rfl, rfl⟩)
        refine ⟨qsd3, ?_⟩; clear d_hP d_h5 d_hs d_h4 qsd3; refine tw_tail rfl (Gya (C1 V1 (C1 Qya (cT (Wya (cw_region (C1 Mv (C1 Pa (lw_nil (qw_block_norm (qw_then ?_))))))))))); refine cw_region (C1 Mv (C1 V7 (C1 Pa (lw_nil ?_)))); rotate_left 1
       all_goals exact qw_round (i + 1) (by rw [HY.out]; exact sub_cons rfl (sub_cons rfl (sub_cons rfl (sub_cons rfl (sub_cons rfl (sub_cons rfl sub_nil)))))) ⟨by assumption, by assumption, by assumption, by assumption, X, by omega, by omega⟩ (by omega)
     · have HY := Lib.hid (found_lev hi16 hx hl)
       focus
        refine cw_seq (cS (C1 Mv (C1 V3 (cT (Wyo (cw_skip (qw_then (cw_seq (cw_block (cw_seq ?_)))))))))); (refine cw_tdraw (fun wz => Ext w2 wz) 13 (.pure 1 (.pure 4 (.fork 0 (.pure 2 (.fork 3 (.fork 5 (.pure 6 (.pure 7 (.pure 9 (.pure 12 (.fork 8 (.pure 10 (.fork 11 .tail .none)) .none))))) .none) (.fork 5 (.fork 3 (.pure 6 (.pure 7 (.pure 9 (.pure 12 (.fork 8 (.pure 10 (.fork 11 .tail .none)) .none))))) .none) .none))) .none))) mixed (by kernel_rfl) (panicOk_then (panicOk_block (panicOk_then (panicOk_then (panicOk_block (panicOk_then (panicOk_block (panicOk_then (panicOk_block (panicOk_then panicOk_body)))))))))) ?_; intro we1 xe2 _); have qse3 : (fun wz => Ext w2 wz) we1 := xe2; simp only at qse3; have d_hP := hP; have d_h5 := h5; have d_hs := hs; have d_h4 := h4; have ze4 := xe2.size; replace hP := hP.ext xe2; replace h5 := h5.ext xe2; replace hs := Nd.sits.ext hs xe2; replace h4 := h4.ext xe2; replace X := X.ext xe2; clear xe2; refine ⟨qse3, ?_⟩; refine Tq rfl Mv (Tq rfl Mv ?_); refine tw_does rfl (does_call (by kernel_rfl) rfl (HS.out _) (fun _ _ ⟨_, h⟩ => ⟨_, h.1⟩)) rfl ?_ (fun _ h => h) tw_none; rintro _ we9 ⟨be6, ⟨⟨⟩, ⟨he7, xe8⟩⟩⟩; have ze10 := xe8.size; replace qse3 := qse3.ext xe8; replace hP := hP.ext xe8; replace h5 := h5.ext xe8; replace hs := Nd.sits.ext hs xe8; replace h4 := h4.ext xe8; replace X := X.ext xe8; clear xe8; refine ⟨qse3, ?_⟩; refine Tq rfl Pi ?_; (refine tw_does rfl (does_pur (pur_load tabOk rfl rfl rfl (fun wz hz => by subst hz; exact Row.at0 he7 rfl))) rfl ?_ (fun _ h => h) ?kre11; rintro _ _ ⟨rfl, rfl⟩)
        refine ⟨qse3, ?_⟩; refine tw_does rfl (does_call (by kernel_rfl) rfl (gpeek_c _ _ _ (by assumption)) (fun _ _ h => ⟨_, h.1⟩)) rfl ?_ (fun _ h => h) tw_none; rintro _ we14 ⟨⟨⟩, xe13⟩; have ze15 := xe13.size; replace he7 := he7.ext xe13; replace qse3 := qse3.ext xe13; replace hP := hP.ext xe13; replace h5 := h5.ext xe13; replace hs := Nd.sits.ext hs xe13; replace h4 := h4.ext xe13; replace X := X.ext xe13; clear xe13; refine ⟨qse3, ?_⟩; refine Tq rfl V8 (Tq rfl Mv ?_); refine tw_on rfl rfl rfl rfl (gd_tt (by assumption)) (pur_move rfl) rfl ?_; refine tw_on rfl rfl rfl rfl (gd_tt (by assumption)) (pur_move rfl) rfl ?_; refine tw_does_on rfl rfl rfl rfl (gd_tt (by assumption)) (does_call (by kernel_rfl) rfl (HL.out _) (fun _ _ ⟨_, h⟩ => ⟨_, h.1⟩)) rfl ?_ (fun _ h => h) tw_none; rintro _ we20 ⟨be17, ⟨⟨⟩, ⟨he18, xe19⟩⟩⟩; have ze21 := xe19.size; replace he7 := he7.ext xe19; replace qse3 := qse3.ext xe19; replace hP := hP.ext xe19; replace h5 := h5.ext xe19; replace hs := Nd.sits.ext hs xe19; replace h4 := h4.ext xe19; replace X := X.ext xe19; clear xe19; refine ⟨qse3, ?_⟩; refine tw_on rfl rfl rfl rfl (gd_tt (by assumption)) (pur_indexAddr tabOk rfl rfl rfl rfl (by omega) (by omega)) rfl ?_; (refine tw_does_on rfl rfl rfl rfl (gd_tt (by assumption)) (does_pur (pur_load tabOk rfl rfl rfl (fun wz hz => by subst hz; exact Row.at0 he18 rfl))) rfl ?_ (fun _ h => h) tw_none; rintro _ _ ⟨rfl, rfl⟩); refine ⟨qse3, ?_⟩; clear d_hP d_h5 d_hs d_h4 qse3; refine tw_tail rfl (Gya (C1 V1 (C1 Qya (cT (Wna (cw_skip (qw_block_norm (qw_then (cw_region (C1 Mv (C1 V7 ?_)))))))))))
        refine C1 Pa (lw_nil ?_); rotate_left 1; refine tw_does rfl (does_call (by kernel_rfl) rfl (gpeek_c _ _ _ (by assumption)) (fun _ _ h => ⟨_, h.1⟩)) rfl ?_ (fun _ h => h) tw_none; rintro _ we25 ⟨⟨⟩, xe24⟩; have ze26 := xe24.size; replace he7 := he7.ext xe24; replace qse3 := qse3.ext xe24; replace hP := hP.ext xe24; replace h5 := h5.ext xe24; replace hs := Nd.sits.ext hs xe24; replace h4 := h4.ext xe24; replace X := X.ext xe24; clear xe24; refine ⟨qse3, ?_⟩; (refine tw_does rfl (does_pur (pur_load tabOk rfl rfl rfl (fun wz hz => by subst hz; exact Row.at0 he7 rfl))) rfl ?_ (fun _ h => h) tw_none; rintro _ _ ⟨rfl, rfl⟩); refine ⟨qse3, ?_⟩; refine Tq rfl V8 (Tq rfl Mv ?_); refine tw_on rfl rfl rfl rfl (gd_tt (by assumption)) (pur_move rfl) rfl ?_; refine tw_on rfl rfl rfl rfl (gd_tt (by assumption)) (pur_move rfl) rfl ?_; refine tw_does_on rfl rfl rfl rfl (gd_tt (by assumption)) (does_call (by kernel_rfl) rfl (HL.out _) (fun _ _ ⟨_, h⟩ => ⟨_, h.1⟩)) rfl ?_ (fun _ h => h) tw_none; rintro _ we32 ⟨be29, ⟨⟨⟩, ⟨he30, xe31⟩⟩⟩; have ze33 := xe31.size; replace he7 := he7.ext xe31; replace qse3 := qse3.ext xe31; replace hP := hP.ext xe31; replace h5 := h5.ext xe31; replace hs := Nd.sits.ext hs xe31; replace h4 := h4.ext xe31; replace X := X.ext xe31; clear xe31; refine ⟨qse3, ?_⟩; refine tw_on rfl rfl rfl rfl (gd_tt (by assumption)) (pur_indexAddr tabOk rfl rfl rfl rfl (by omega) (by omega)) rfl ?_; (refine tw_does_on rfl rfl rfl rfl (gd_tt (by assumption)) (does_pur (pur_load tabOk rfl rfl rfl (fun wz hz => by subst hz; exact Row.at0 he30 rfl))) rfl ?_ (fun _ h => h) tw_none; rintro _ _ ⟨rfl, rfl⟩)
        refine ⟨qse3, ?_⟩; clear d_hP d_h5 d_hs d_h4 qse3; refine tw_tail rfl (Gya (C1 V1 (C1 Qya (cT (Wna (cw_skip (qw_block_norm (qw_then (cw_region (C1 Mv (C1 V7 ?_))))))))))); refine C1 Pa (lw_nil ?_); rotate_left 1
       all_goals exact qw_round (i + 1) (by rw [HY.out]; exact sub_cons rfl (sub_cons rfl (sub_cons rfl (sub_cons rfl (sub_cons rfl (sub_cons rfl sub_nil)))))) ⟨by assumption, by assumption, by assumption, by assumption, X, by omega, by omega⟩ (by omega)
   · have HY := Lib.hid (found_sym (lv := lv) hi16 hx)
     focus
      refine cw_seq (cS (C1 Mv (C1 V3 (cT (Wyo (cw_skip (qw_then (cw_seq (cw_block (cw_seq ?_)))))))))); (refine cw_tdraw (fun wz => Ext w2 wz) 13 (.pure 1 (.pure 4 (.fork 0 (.pure 2 (.fork 3 (.fork 5 (.pure 6 (.pure 7 (.pure 8 (.pure 9 (.pure 10 (.pure 11 (.pure 12 .tail))))))) .none) (.fork 5 (.fork 3 (.pure 6 (.pure 7 (.pure 8 (.pure 9 (.pure 10 (.pure 11 (.pure 12 .tail))))))) .none) .none))) .none))) mixed (by kernel_rfl) (panicOk_then (panicOk_block (panicOk_then (panicOk_then (panicOk_block (panicOk_then (panicOk_block (panicOk_then (panicOk_block (panicOk_then panicOk_body)))))))))) ?_; intro wf1 xf2 _); have qsf3 : (fun wz => Ext w2 wz) wf1 := xf2; simp only at qsf3; have d_hP := hP; have d_h5 := h5; have d_hs := hs; have d_h4 := h4; have zf4 := xf2.size; replace hP := hP.ext xf2; replace h5 := h5.ext xf2; replace hs := Nd.sits.ext hs xf2; replace h4 := h4.ext xf2; replace X := X.ext xf2; clear xf2; refine ⟨qsf3, ?_⟩; refine Tq rfl Mv (Tq rfl Mv ?_); refine tw_does rfl (does_call (by kernel_rfl) rfl (HS.out _) (fun _ _ ⟨_, h⟩ => ⟨_, h.1⟩)) rfl ?_ (fun _ h => h) tw_none; rintro _ wf9 ⟨bf6, ⟨⟨⟩, ⟨hf7, xf8⟩⟩⟩; have zf10 := xf8.size; replace qsf3 := qsf3.ext xf8; replace hP := hP.ext xf8; replace h5 := h5.ext xf8; replace hs := Nd.sits.ext hs xf8; replace h4 := h4.ext xf8; replace X := X.ext xf8; clear xf8; refine ⟨qsf3, ?_⟩; refine Tq rfl Pi ?_; (refine tw_does rfl (does_pur (pur_load tabOk rfl rfl rfl (fun wz hz => by subst hz; exact Row.at0 hf7 rfl))) rfl ?_ (fun _ h => h) ?krf11; rintro _ _ ⟨rfl, rfl⟩)
      refine ⟨qsf3, ?_⟩; refine tw_does rfl (does_call (by kernel_rfl) rfl (gpeek_c _ _ _ (by assumption)) (fun _ _ h => ⟨_, h.1⟩)) rfl ?_ (fun _ h => h) tw_none; rintro _ wf14 ⟨⟨⟩, xf13⟩; have zf15 := xf13.size; replace hf7 := hf7.ext xf13; replace qsf3 := qsf3.ext xf13; replace hP := hP.ext xf13; replace h5 := h5.ext xf13; replace hs := Nd.sits.ext hs xf13; replace h4 := h4.ext xf13; replace X := X.ext xf13; clear xf13; refine ⟨qsf3, ?_⟩; refine Tq rfl V8 (Tq rfl Mv ?_); refine tw_off rfl rfl rfl rfl (gd_tf (by assumption)) rfl ?_; refine tw_off rfl rfl rfl rfl (gd_tf (by assumption)) rfl ?_; refine tw_off rfl rfl rfl rfl (gd_tf (by assumption)) rfl ?_; refine tw_off rfl rfl rfl rfl (gd_tf (by assumption)) rfl ?_; refine tw_off rfl rfl rfl rfl (gd_tf (by assumption)) rfl ?_; clear d_hP d_h5 d_hs d_h4 qsf3; refine tw_tail rfl (Ona (C1 Qna (cT (cw_cond_f rfl (cw_skip (qw_block_norm (qw_then (cw_region (C1 Mv (C1 V7 (C1 Pa ?_))))))))))); refine lw_nil ?_; rotate_left 1; refine tw_does rfl (does_call (by kernel_rfl) rfl (gpeek_c _ _ _ (by assumption)) (fun _ _ h => ⟨_, h.1⟩)) rfl ?_ (fun _ h => h) tw_none; rintro _ wf18 ⟨⟨⟩, xf17⟩; have zf19 := xf17.size; replace hf7 := hf7.ext xf17; replace qsf3 := qsf3.ext xf17; replace hP := hP.ext xf17; replace h5 := h5.ext xf17; replace hs := Nd.sits.ext hs xf17; replace h4 := h4.ext xf17; replace X := X.ext xf17; clear xf17; refine ⟨qsf3, ?_⟩; (refine tw_does rfl (does_pur (pur_load tabOk rfl rfl rfl (fun wz hz => by subst hz; exact Row.at0 hf7 rfl))) rfl ?_ (fun _ h => h) tw_none; rintro _ _ ⟨rfl, rfl⟩)
      refine ⟨qsf3, ?_⟩; refine Tq rfl V8 (Tq rfl Mv ?_); refine tw_off rfl rfl rfl rfl (gd_tf (by assumption)) rfl ?_; refine tw_off rfl rfl rfl rfl (gd_tf (by assumption)) rfl ?_; refine tw_off rfl rfl rfl rfl (gd_tf (by assumption)) rfl ?_; refine tw_off rfl rfl rfl rfl (gd_tf (by assumption)) rfl ?_; refine tw_off rfl rfl rfl rfl (gd_tf (by assumption)) rfl ?_; clear d_hP d_h5 d_hs d_h4 qsf3; refine tw_tail rfl (Ona (C1 Qna (cT (cw_cond_f rfl (cw_skip (qw_block_norm (qw_then (cw_region (C1 Mv (C1 V7 (C1 Pa ?_))))))))))); refine lw_nil ?_; rotate_left 1
     all_goals exact qw_round (i + 1) (by rw [HY.out]; exact sub_cons rfl (sub_cons rfl (sub_cons rfl (sub_cons rfl (sub_cons rfl (sub_cons rfl sub_nil)))))) ⟨by assumption, by assumption, by assumption, by assumption, X, by omega, by omega⟩ (by omega)
 have hie : i = 16 := by omega
 subst hie
 cases hb : binOf (peekP c.ts σ').text with
 | none =>
  rw [show loopS c.ts c.n (j + 1) lv x σ' = (x, σ') from by rw [loopS]; simp [h0, hb]]; rw [found_none hb]
  focus
   refine cw_seq (cS (C1 Mv (C1 V3 (cT (Wnd (cw_exit (qw_then_exit (qw_then_exit (qw_block_exit (qw_then (cw_seq ?_))))))))))); refine cS (C1 Mv (C1 V3 (cT (Wyd (cw_exit (qw_then_exit (qw_block_pass rfl (qw_then_exit (qw_block_exit (qw_then (cS ?_))))))))))); refine lw_loads_b' [_, _, _, _] tabOk rfl rfl rfl h5 rfl rfl rfl ?_; (refine lw_store' [_, _, _, _] [_, _, _, _] tabOk rfl rfl rfl rfl rfl rfl h4 rfl rfl ?_; intro wg1 ng2); have hg5 := ng2.blk; have fg3 := ng2.fr; have zg4 := ng2.size; clear ng2 h4; replace hP := hP.fr fg3 (by omega); replace h5 := h5.fr fg3 (by omega); replace hs := Nd.sits.fr hs fg3 (by omega); replace X := X.fr fg3 (by omega); clear fg3; refine cT (cw_ret (qw_retc rfl tabOk rfl rfl rfl hg5 rfl ?_)); rotate_left 1
  exact rtree_ret (Nd.sits.wide hs (fun b h => h.1)) (by assumption) X
 | some op =>
  obtain ⟨hne, o1, o2, -⟩ := binOf_ne hb; obtain ⟨hin, hin2⟩ := peek_in hP.at_ (Or.inl hne); have hm := mS_next (ts := c.ts) (σ := σ') ⟨hin, hin2⟩; obtain ⟨q, rfl⟩ : ∃ q, op = 8 + q := ⟨op - 8, by omega⟩
  by_cases hl : level (8 + q) = lv
  · rw [show loopS c.ts c.n (j + 1) lv x σ' = loopS c.ts c.n j lv (.mk 82 (8 + q) [] [x, (exprS c.ts c.n j (lv + 1) (nextP σ')).1]) (exprS c.ts c.n j (lv + 1) (nextP σ')).2 from by rw [loopS]; simp [h0, hb, hl]]
    rw [found_on' hb hl]; have hle := exprS_le (n := c.n) (k := j) (lv := lv + 1) (σ := nextP σ') hin2; have hml := mS_le hle; clear hb hle
    focus
     refine cw_seq (cS (C1 Mv (C1 V3 (cT (Wnd (cw_exit (qw_then_exit (qw_then_exit (qw_block_exit (qw_then (cw_seq ?_))))))))))); refine cS (C1 Mv (C1 V3 (cT (Wno (cw_skip (qw_then (cS (C1 Mv (C1 Mv (C1 Pn (C1 Pf ?_))))))))))); refine lw_load_b tabOk rfl rfl rfl (RP.blk hP) rfl rfl (C1 V7 (C1 Pn (C1 Pf ?_))); refine lw_rp_at tabOk rfl rfl rfl rfl (by assumption) hin2 ?_; rintro wh1 hh2 fh3; have zh4 := fh3.size; clear hP; replace h5 := h5.fr fh3 (by omega); replace hs := Nd.sits.fr hs fh3 (by omega); replace h4 := h4.fr fh3 (by omega); replace X := X.fr fh3 (by omega); clear fh3; refine cN (C1 Mv (C1 Mv (C1 V7 ?_))); refine cR (by kernel_rfl) rfl ((IH j (by omega)).e _ _ _ (by assumption) (by omega) (by omega) (by omega)) (fun _ _ h => h.ret) rfl ?_; rintro _ wh10 ⟨ah5, ⟨kh6, ⟨⟨⟩, ⟨hh7, ⟨hh8, fh9⟩⟩⟩⟩⟩; have zh11 := fh9.size; clear hh2; replace h5 := h5.fr fh9 (by omega); replace hs := Nd.sits.fr hs fh9 (by omega); replace h4 := h4.fr fh9 (by omega); replace X := X.fr fh9 (by omega); clear fh9; (refine lw_alloc' [_, _, _, _] zOk rfl rfl ?_; intro bh12 wh13 nh14); (refine lw_init' [_, _, _, _] tabOk rfl rfl rfl rfl rfl rfl nh14 rfl ?_; clear nh14; clear wh13; intro wh15 nh14); have hh16 := nh14.blk; have xh17 := nh14.ext; have ph18 := nh14.pos; have zh19 := nh14.size; clear nh14; replace hh7 := Nd.sits.ext hh7 xh17; replace hh8 := hh8.ext xh17; replace h5 := h5.ext xh17; replace hs := Nd.sits.ext hs xh17; replace h4 := h4.ext xh17; replace X := X.ext xh17; clear xh17; refine cT (cw_region (C1 Mv (C1 V7 (lw_loads_b' [_, _, _, _] tabOk rfl rfl rfl h5 rfl rfl rfl (lw_loads_b' [_, _, _, _] tabOk rfl rfl rfl hh16 rfl rfl rfl ?_)))))
     (refine lw_does (does_slice' [_, _, _, _, _, _, _, _] tabOk zOk rfl rfl rfl rfl rfl rfl rfl rfl rfl) rfl ?_ (fun _ h => h); rintro _ wh21 ⟨bh20, rfl, nh22, th23⟩); clear th23; have hh24 := nh22.blk; have xh25 := nh22.ext; have ph26 := nh22.pos; have zh27 := nh22.size; clear nh22; replace hh16 := hh16.ext xh25; replace hh7 := Nd.sits.ext hh7 xh25; replace hh8 := hh8.ext xh25; replace h5 := h5.ext xh25; replace hs := Nd.sits.ext hs xh25; replace h4 := h4.ext xh25; replace X := X.ext xh25; clear xh25; refine C1 (pur_build' [_, _, _, _] tabOk zOk rfl rfl rfl rfl) ?_; (refine lw_store' [_, _, _, _] [_, _, _, _] tabOk rfl rfl rfl rfl rfl rfl h5 rfl rfl ?_; intro wh28 nh29); have hh32 := nh29.blk; have fh30 := nh29.fr; have zh31 := nh29.size; clear nh29 h5; replace hh24 := hh24.fr fh30 (by omega); replace hh16 := hh16.fr fh30 (by omega); replace hh7 := Nd.sits.fr hh7 fh30 (by omega); replace hh8 := hh8.fr fh30 (by omega); replace hs := Nd.sits.fr hs fh30 (by omega); replace h4 := h4.fr fh30 (by omega); replace X := X.fr fh30 (by omega); clear fh30; refine lw_nil (qw_block_norm ?_); rotate_left 1
    refine qw_round (j, .mk 82 (8 + q) [] [x, (exprS c.ts c.n j (lv + 1) (nextP σ')).1], some ⟨_, 0, none⟩, 2, (exprS c.ts c.n j (lv + 1) (nextP σ')).2) (by (refine sub_cons rfl ?_; refine sub_cons rfl ?_; refine sub_cons rfl ?_; refine sub_cons rfl ?_; exact sub_nil)) ⟨by assumption, by assumption, sits_2 (by assumption) ⟨by omega, by omega, by omega⟩ (by assumption) (fun b h => h) (by assumption) (fun b h => ⟨by omega, by omega, by omega⟩), by assumption, X, by omega, rfl, by simp only; omega, by simp only; omega⟩ (by simp)
  · rw [show loopS c.ts c.n (j + 1) lv x σ' = (x, σ') from by rw [loopS]; simp [h0, hb, hl]]
    rw [found_off hb hl]; clear hb
    focus
     refine cw_seq (cS (C1 Mv (C1 V3 (cT (Wnd (cw_exit (qw_then_exit (qw_then_exit (qw_block_exit (qw_then (cw_seq ?_))))))))))); refine cS (C1 Mv (C1 V3 (cT (Wyd (cw_exit (qw_then_exit (qw_block_pass rfl (qw_then_exit (qw_block_exit (qw_then (cS ?_))))))))))); refine lw_loads_b' [_, _, _, _] tabOk rfl rfl rfl h5 rfl rfl rfl ?_; (refine lw_store' [_, _, _, _] [_, _, _, _] tabOk rfl rfl rfl rfl rfl rfl h4 rfl rfl ?_; intro wi1 ni2); have hi5 := ni2.blk; have fi3 := ni2.fr; have zi4 := ni2.size; clear ni2 h4; replace hP := hP.fr fi3 (by omega); replace h5 := h5.fr fi3 (by omega); replace hs := Nd.sits.fr hs fi3 (by omega); replace X := X.fr fi3 (by omega); clear fi3; refine cT (cw_ret (qw_retc rfl tabOk rfl rfl rfl hi5 rfl ?_)); rotate_left 1
    exact rtree_ret (Nd.sits.wide hs (fun b h => h.1)) (by assumption) X
theorem exprs_gc (c : RC) (k : Nat) : ExprsG c k := by
 induction k using Nat.strongRecOn with
 | _ k ih =>
  cases k with
  | zero => exact ⟨fun _ _ _ _ _ _ h => by omega, fun _ _ _ h => by omega, fun _ _ _ _ _ h => by omega, fun _ _ _ h => by omega⟩
  | succ k =>
   have IH : ∀ j, j ≤ k → ExprsG c j := fun j hj => ih j (by omega)
   exact ⟨expr_gw c k IH, primary_gw c k IH, args_gw c k IH, braces_gw c k IH⟩
end Bk
namespace Bk
open Go Go.RowKit Go.Proofs
attribute [local irreducible] Go.Calls
set_option maxRecDepth 100000 in
set_option maxHeartbeats 1000000 in
theorem gKeywords_c (w : World) : Calls Tryz.prog 75 #[] w fun e w' => ∃ b, e = .returned (.slice (some ⟨b, 0, none⟩) 23 23) ∧ Row w' ⟨b, 0, none⟩ (keywords.map str) ∧ Ext w w' := by
 have X := Ext.refl w; refine calls_in (args := []) Tryz.func75 Tryz.ntmps75 rfl rfl ?_
 focus
  refine cS (C1 Pa (cN ?_)); (refine lw_does (does_slice' [_, _, _, _, _, _, _, _, _, _, _, _, _, _, _, _, _, _, _, _, _, _, _] tabOk zOk rfl rfl rfl rfl rfl rfl rfl rfl rfl) rfl ?_ (fun _ h => h); rintro _ w2 ⟨b1, rfl, n3, t4⟩); clear t4; have h5 := n3.blk; have x6 := n3.ext; have p7 := n3.pos; have z8 := n3.size; clear n3; replace X := X.ext x6; clear x6; refine C1 Pa (cT (cw_ret (qw_ret1 rfl rfl ?_))); rotate_left 1
 exact ⟨_, rfl, Blk.row (by assumption), X⟩
theorem Row.nthG {w : World} {b j : Nat} {l : List (List UInt8)} (h : Row w ⟨b, 0, none⟩ (l.map str)) (hj : j < l.length) : Row w ⟨b, 0 + j * 1, none⟩ [str l[j]] := by
 have h1 := h.sub j 1
 have e : ((l.map str).drop j).take 1 = [str l[j]] := by
  rw [List.drop_eq_getElem_cons (by simpa using hj)]; simp
 rw [e] at h1
 rw [Nat.mul_one]; exact h1
theorem keyword_iffG (s : List UInt8) : keyword s = true ↔ s ∈ keywords := by simp [keyword]
theorem funName_bad {s : List UInt8} (h : s = [108, 99, 111, 112, 121] ∨ s = [108, 115, 112, 105, 108, 108] ∨ s = [111, 117, 116] ∨ s = [103]) : funName s = false := by
 rcases h with rfl | rfl | rfl | rfl <;> decide
theorem funName_good {s : List UInt8} (h1 : ¬ s.length < 1) (h2 : ¬ 12 < s.length) (b1 : s ≠ [108, 99, 111, 112, 121]) (b2 : s ≠ [108, 115, 112, 105, 108, 108]) (b3 : s ≠ [111, 117, 116]) (b4 : s ≠ [103]) : funName s = (!keyword s && s.all letter) := by
 have e1 : s.isEmpty = false := by cases s with | nil => simp at h1 | cons _ _ => rfl
 have e2 : decide (s.length ≤ 12) = true := decide_eq_true (by omega)
 have e3 : ([[108, 99, 111, 112, 121], [108, 115, 112, 105, 108, 108], [111, 117, 116], [103]] : List (List UInt8)).contains s = false := by simp [b1, b2, b3, b4]
 unfold funName
 rw [e1, e2, e3]
 simp
set_option maxRecDepth 100000 in
set_option maxHeartbeats 4000000 in
theorem gName_c (s : List UInt8) (w : World) (hs : s.length ≤ 9223372036854775807) : Calls Tryz.prog 43 #[str s] w fun e w' => e = .returned (.bool (funName s)) ∧ Ext w w' := by
 have X := Ext.refl w
 by_cases h1 : s.length < 1
 · rw [funName_f (Or.inl h1)]
   refine calls_in Tryz.func43 Tryz.ntmps43 rfl rfl ?_
   focus
    refine cS (C1 Pa (cT (cw_seq (cS (C1 Mv (C1 Py (C1 V3 (C1 Mv (Oyo (Oyo (Oyo ?_))))))))))); refine C1 Qyo (C1 Mv (lw_off rfl rfl rfl (rfl) rfl (lw_off rfl rfl rfl (rfl) rfl (C1 (pur_pick_t rfl rfl rfl) (C1 Mv (lw_off rfl rfl rfl (rfl) rfl (lw_off rfl rfl rfl (rfl) rfl (C1 (pur_pick_t rfl rfl rfl) (C1 Mv (lw_off rfl rfl rfl (rfl) rfl (lw_off rfl rfl rfl (rfl) rfl ?_))))))))))); refine C1 (pur_pick_t rfl rfl rfl) (C1 Mv (lw_off rfl rfl rfl (rfl) rfl (lw_off rfl rfl rfl (rfl) rfl (C1 (pur_pick_t rfl rfl rfl) (cT (cw_cond_t rfl (cS (C1 Pa (cT (cw_ret (qw_then_ret ?_))))))))))); refine qw_ret1 rfl rfl ?_; rotate_left 1
   exact ⟨rfl, X⟩
 by_cases h2 : 12 < s.length
 · rw [funName_f (Or.inr (Or.inl h2))]
   refine calls_in Tryz.func43 Tryz.ntmps43 rfl rfl ?_
   focus
    refine cS (C1 Pa (cT (cw_seq (cS (C1 Mv (C1 Py (C1 V3 (C1 Mv (Gno (C1 Mv (Gno ?_))))))))))); refine C1 Py (Gno (C1 V5 (C1 Qno (C1 Mv (Oyo (Oyo (C1 Qyo (C1 Mv (lw_off rfl rfl rfl (rfl) rfl (lw_off rfl rfl rfl (rfl) rfl (C1 (pur_pick_t rfl rfl rfl) ?_))))))))))); refine C1 Mv (lw_off rfl rfl rfl (rfl) rfl (lw_off rfl rfl rfl (rfl) rfl (C1 (pur_pick_t rfl rfl rfl) (C1 Mv (lw_off rfl rfl rfl (rfl) rfl (lw_off rfl rfl rfl (rfl) rfl (C1 (pur_pick_t rfl rfl rfl) (cT (cw_cond_t rfl (cS (C1 Pa ?_))))))))))); refine cT (cw_ret (qw_then_ret (qw_ret1 rfl rfl ?_))); rotate_left 1
   exact ⟨rfl, X⟩
 by_cases b1 : s = [108, 99, 111, 112, 121]
 · rw [funName_bad (Or.inl b1)]
   refine calls_in Tryz.func43 Tryz.ntmps43 rfl rfl ?_
   focus
    refine cS (C1 Pa (cT (cw_seq (cS (C1 Mv (C1 Py (C1 V3 (C1 Mv (Gno (C1 Mv (Gno ?_))))))))))); refine C1 Py (Gno (C1 V5 (C1 Qno (C1 Mv (Gno (C1 Mv (Gno (C1 V8 (C1 Qno (C1 Mv (Oya ?_))))))))))); refine Oya (C1 Qya (C1 Mv (lw_off rfl rfl rfl (rfl) rfl (lw_off rfl rfl rfl (rfl) rfl (C1 (pur_pick_t rfl rfl rfl) (C1 Mv (lw_off rfl rfl rfl (rfl) rfl (lw_off rfl rfl rfl (rfl) rfl (C1 (pur_pick_t rfl rfl rfl) (cT (cw_cond_t rfl ?_))))))))))); refine cS (C1 Pa (cT (cw_ret (qw_then_ret (qw_ret1 rfl rfl ?_))))); rotate_left 1
   exact ⟨rfl, X⟩
 by_cases b2 : s = [108, 115, 112, 105, 108, 108]
 · rw [funName_bad (Or.inr (Or.inl b2))]
   refine calls_in Tryz.func43 Tryz.ntmps43 rfl rfl ?_
   focus
    refine cS (C1 Pa (cT (cw_seq (cS (C1 Mv (C1 Py (C1 V3 (C1 Mv (Gno (C1 Mv (Gno ?_))))))))))); refine C1 Py (Gno (C1 V5 (C1 Qno (C1 Mv (Gno (C1 Mv (Gno (C1 V8 (C1 Qno (C1 Mv (Gna ?_))))))))))); refine C1 Mv (Gna (C1 V8 (C1 Qna (C1 Mv (Oya (Oya (C1 Qya (C1 Mv (lw_off rfl rfl rfl (rfl) rfl (lw_off rfl rfl rfl (rfl) rfl (C1 (pur_pick_t rfl rfl rfl) ?_))))))))))); refine cT (cw_cond_t rfl (cS (C1 Pa (cT (cw_ret (qw_then_ret (qw_ret1 rfl rfl ?_))))))); rotate_left 1
   exact ⟨rfl, X⟩
 by_cases b3 : s = [111, 117, 116]
 · rw [funName_bad (Or.inr (Or.inr (Or.inl b3)))]
   refine calls_in Tryz.func43 Tryz.ntmps43 rfl rfl ?_
   focus
    refine cS (C1 Pa (cT (cw_seq (cS (C1 Mv (C1 Py (C1 V3 (C1 Mv (Gno (C1 Mv (Gno ?_))))))))))); refine C1 Py (Gno (C1 V5 (C1 Qno (C1 Mv (Gno (C1 Mv (Gno (C1 V8 (C1 Qno (C1 Mv (Gna ?_))))))))))); refine C1 Mv (Gna (C1 V8 (C1 Qna (C1 Mv (Gna (C1 Mv (Gna (C1 V8 (C1 Qna (C1 Mv (Oya ?_))))))))))); refine Oya (C1 Qya (cT (cw_cond_t rfl (cS (C1 Pa (cT (cw_ret (qw_then_ret (qw_ret1 rfl rfl ?_))))))))); rotate_left 1
   exact ⟨rfl, X⟩
 by_cases b4 : s = [103]
 · rw [funName_bad (Or.inr (Or.inr (Or.inr b4)))]
   refine calls_in Tryz.func43 Tryz.ntmps43 rfl rfl ?_
   focus
    refine cS (C1 Pa (cT (cw_seq (cS (C1 Mv (C1 Py (C1 V3 (C1 Mv (Gno (C1 Mv (Gno ?_))))))))))); refine C1 Py (Gno (C1 V5 (C1 Qno (C1 Mv (Gno (C1 Mv (Gno (C1 V8 (C1 Qno (C1 Mv (Gna ?_))))))))))); refine C1 Mv (Gna (C1 V8 (C1 Qna (C1 Mv (Gna (C1 Mv (Gna (C1 V8 (C1 Qna (C1 Mv (Gna ?_))))))))))); refine C1 Mv (Gna (C1 V8 (C1 Qna (cT (Wya (cS (C1 Pa (cT (cw_ret (qw_then_ret (qw_ret1 rfl rfl ?_))))))))))); rotate_left 1
   exact ⟨rfl, X⟩
 have HG := Lib.hid (funName_good h1 h2 b1 b2 b3 b4); have HK := Lib.hid (keyword_iffG s); refine calls_in Tryz.func43 Tryz.ntmps43 rfl rfl ?_
 focus
  refine cS (C1 Pa (cT (cw_seq (cS (C1 Mv (C1 Py (C1 V3 (C1 Mv (Gno (C1 Mv (Gno ?_))))))))))); refine C1 Py (Gno (C1 V5 (C1 Qno (C1 Mv (Gno (C1 Mv (Gno (C1 V8 (C1 Qno (C1 Mv (Gna ?_))))))))))); refine C1 Mv (Gna (C1 V8 (C1 Qna (C1 Mv (Gna (C1 Mv (Gna (C1 V8 (C1 Qna (C1 Mv (Gna ?_))))))))))); refine C1 Mv (Gna (C1 V8 (C1 Qna (cT (Wna (cw_skip (qw_then (cS ?_)))))))); refine lw_does (does_call (by kernel_rfl) rfl (gKeywords_c _) (fun _ _ ⟨_, h⟩ => ⟨_, h.1⟩)) rfl ?_ (fun _ h => h); rintro _ wf4 ⟨bf1, ⟨⟨⟩, ⟨hf2, xf3⟩⟩⟩; have zf5 := xf3.size; replace X := X.ext xf3; clear xf3; refine C1 Pa (cT (cw_seq (cS (C1 Pa (cT (cw_block ?_)))))); rotate_left 1
 have hkl : keywords.length = 23 := rfl; refine cw_loop (ι := Nat) (fun j => [(0, str s), (3, .slice (some ⟨bf1, 0, none⟩) 23 23), (4, .int .i64 j)]) (fun j w' => wf4 = w' ∧ j ≤ 23 ∧ ∀ i (hi : i < keywords.length), i < j → keywords[i] ≠ s) (fun j => 23 - j) 0 (by (refine sub_cons rfl ?_; refine sub_cons rfl ?_; refine sub_cons rfl ?_; exact sub_nil)) ⟨rfl, Nat.zero_le _, fun i _ h => by omega⟩ ?_; rintro j _ ⟨rfl, hj, hall⟩
 have HA := Lib.hid hall; clear hall
 by_cases hlt2 : j < 23
 · have hrj := Row.nthG hf2 (j := j) (by rw [hkl]; exact hlt2)
   have HR := Lib.hid hf2; clear hf2
   by_cases hx : keywords[j] = s
   · have hk : keyword s = true := HK.out.2 (by rw [← hx]; exact List.getElem_mem _)
     have hq := Lib.hid (show funName s = false by rw [HG.out, hk]; rfl); clear HG HK hk
     focus
      refine cw_seq (cS (C1 Mv (C1 Mv (C1 Pz (C1 V3 (cT (Wyo (cw_skip (qw_then (cw_seq (cw_block ?_))))))))))); refine cS (C1 Mv (C1 Mv (C1 Pi (C1 (Pw0 hrj) (C1 Mv (C1 V8 (cT (Wya (cS (C1 Pa (cT ?_))))))))))); refine cw_ret (qw_block_ret (qw_then_ret (qw_then_ret (qw_block_ret (qw_then_ret (qw_ret1 rfl rfl ?_)))))); rotate_left 1
     exact ⟨by rw [hq.out], X⟩
   · have hnx := Lib.hid (fun (i : Nat) (hi : i < keywords.length) (h : i < j + 1) => if h2 : i < j then HA.out i hi h2 else (by
      obtain rfl : i = j := by omega
      exact hx : keywords[i] ≠ s))
     clear HG HK
     focus
      refine cw_seq (cS (C1 Mv (C1 Mv (C1 Pz (C1 V3 (cT (Wyo (cw_skip (qw_then (cw_seq (cw_block ?_))))))))))); refine cS (C1 Mv (C1 Mv (C1 Pi (C1 (Pw0 hrj) (C1 Mv (C1 V8 (cT (Wna (cw_skip (qw_block_norm (qw_then ?_))))))))))); refine cw_region (C1 Mv (C1 V7 (C1 Pa (lw_nil ?_)))); rotate_left 1
     exact qw_round (j + 1) (by (refine sub_cons rfl ?_; refine sub_cons rfl ?_; refine sub_cons rfl ?_; exact sub_nil)) ⟨rfl, by omega, hnx.out⟩ (by omega)
 · have hk : keyword s = false := by
    cases hh : keyword s
    · rfl
    · obtain ⟨i, hi, he⟩ := List.mem_iff_getElem.1 (HK.out.1 hh)
      exact absurd he (HA.out i hi (by omega))
   have HG2 := Lib.hid (show funName s = s.all letter by rw [HG.out, hk]; rfl); clear HG HK hk HA hf2
   focus
    refine cw_seq (cS (C1 Mv (C1 Mv (C1 Pz (C1 V3 (cT (Wno (cw_exit (qw_then_exit (qw_then_exit (qw_block_exit ?_))))))))))); refine qw_then (cw_seq (cS (C1 Pa (cT (cw_block ?_))))); rotate_left 1
   refine cw_loop (ι := Nat) (fun j => [(0, str s), (5, .int .i64 j)]) (fun j w' => wf4 = w' ∧ j ≤ s.length ∧ (s.take j).all letter = true) (fun j => s.length - j) 0 (by (refine sub_cons rfl ?_; refine sub_cons rfl ?_; exact sub_nil)) ⟨rfl, Nat.zero_le _, by simp⟩ ?_; rintro i _ ⟨rfl, hi, hn⟩; have HN := Lib.hid hn; clear hn
   by_cases hlt : i < s.length
   · have hix : s[i]? = some s[i] := List.getElem?_eq_getElem hlt
     have hnx := Lib.hid (letters_snoc hlt HN.out); have hnt := Lib.hid (letters_not hlt); clear HN
     generalize s[i] = x at *
     have hx8 := x.toNat_lt
     by_cases hx : 97 ≤ x.toNat ∧ x.toNat ≤ 122
     · obtain ⟨x1, x2⟩ := hx
       have hq := Lib.hid (hnx.out (by simp [letter, x1, x2])); clear hnx hnt HG2
       focus
        refine cw_seq (cS (C1 Mv (C1 Mv (C1 Py (C1 V3 (cT (Wyo (cw_skip (qw_then (cw_seq (cw_block ?_))))))))))); refine cS (C1 Mv (C1 Mv ?_)); refine C1 (pur_sindex tabOk rfl rfl rfl (by omega) (by assumption)) ?_; refine C1 V3 (C1 Mv (Gno (C1 Mv (Gno (C1 Mv (Gno ?_)))))); refine C1 (pur_sindex tabOk rfl rfl rfl (by omega) (by assumption)) ?_; refine Gno (C1 V5 (C1 Qno (cT (Wno (cw_skip (qw_block_norm (qw_then (cw_region (C1 Mv (C1 V7 (C1 Pa ?_))))))))))); refine lw_nil ?_; rotate_left 1
       exact qw_round (i + 1) (by (refine sub_cons rfl ?_; refine sub_cons rfl ?_; exact sub_nil)) ⟨rfl, by omega, hq.out⟩ (by omega)
     · have hq := Lib.hid (show funName s = false by rw [HG2.out]; exact hnt.out (by simp only [letter, Bool.and_eq_false_iff, decide_eq_false_iff_not]; omega))
       clear hnx hnt HG2
       focus
        refine cw_seq (cS (C1 Mv (C1 Mv (C1 Py (C1 V3 (cT (Wyo (cw_skip (qw_then (cw_seq (cw_block ?_))))))))))); refine cS (C1 Mv (C1 Mv ?_)); refine C1 (pur_sindex tabOk rfl rfl rfl (by omega) (by assumption)) ?_; refine C1 V3 (C1 Mv ?_); refine lw_dec rfl rfl rfl (fun ck1 => ?_) (fun ck1 => ?_); refine Oya (Oya (Oya (Oya (C1 Qya (cT (cw_cond_t rfl (cS (C1 Pa (cT (cw_ret (qw_block_ret ?_))))))))))); refine qw_then_ret (qw_then_ret (qw_block_ret (qw_then_ret (qw_ret1 rfl rfl ?_)))); rotate_left 1; refine Gna (C1 Mv (Gna (C1 Mv (Gna ?_)))); refine C1 (pur_sindex tabOk rfl rfl rfl (by omega) (by assumption)) ?_; refine Gna (C1 V5 (C1 Qna (cT (Wyo (cS (C1 Pa (cT (cw_ret (qw_block_ret (qw_then_ret (qw_then_ret ?_))))))))))); refine qw_block_ret (qw_then_ret (qw_ret1 rfl rfl ?_)); rotate_left 1
       all_goals exact ⟨by rw [hq.out], X⟩
   · have hje : i = s.length := by omega
     subst hje; have hn := HN.out; rw [List.take_length] at hn; have hq := Lib.hid (show funName s = true by rw [HG2.out, hn]); clear hn HN HG2
     focus
      refine cw_seq (cS (C1 Mv (C1 Mv (C1 Py (C1 V3 (cT (Wno (cw_exit (qw_then_exit (qw_then_exit (qw_block_exit ?_))))))))))); refine qw_then (cS (C1 Pa (cT (cw_ret (qw_ret1 rfl rfl ?_))))); rotate_left 1
     exact ⟨by rw [hq.out], X⟩
end Bk
namespace Bk
open Go Go.RowKit Go.Proofs
attribute [local irreducible] Go.Calls
def kidsI (k : Int) : Int := if k = 80 ∨ k = 81 ∨ k = 86 then 0 else if k = 88 ∨ k = 89 ∨ k = 90 then 1 else if k = 82 ∨ k = 84 ∨ k = 87 then 2 else if k = 83 then 3 else if k = 85 then -1 else -2
set_option maxRecDepth 100000 in
set_option maxHeartbeats 4000000 in
theorem gKids_c (k : Int) (w : World) : Calls Tryz.prog 102 #[.int .u8 k] w fun e w' => e = .returned (.int .i64 (kidsI k)) ∧ Ext w w' := by
 have X := Ext.refl w; refine calls_in Tryz.func102 Tryz.ntmps102 rfl rfl ?_
 focus
  refine cS (C1 Pa (cT (cw_seq (cS (C1 Mv (cT (cw_block (cw_seq (cS (C1 V1 (C1 Pa ?_))))))))))); refine cT ?_; refine cw_dec rfl (fun c1 => ?_) (fun c1 => ?_); refine cw_skip (qw_then (Wya (cS (C1 Pa (cT (cw_ret (qw_block_ret (qw_then_ret (qw_ret1 rfl rfl ?_))))))))); rotate_left 1; refine cS (C1 V1 (C1 Pa (cT ?_))); refine cw_dec rfl (fun c2 => ?_) (fun c2 => ?_); refine cw_skip (qw_then (Wya (cS (C1 Pa (cT (cw_ret (qw_block_ret (qw_then_ret (qw_ret1 rfl rfl ?_))))))))); rotate_left 1; refine cw_region (C1 V1 (C1 Pa (cT ?_))); refine cw_dec rfl (fun c3 => ?_) (fun c3 => ?_); refine cS (C1 Pa (cT (cw_ret (qw_block_ret (qw_then_ret (qw_ret1 rfl rfl ?_)))))); rotate_left 1; refine cw_seq (cS (C1 V1 (C1 Pa (cT ?_)))); refine cw_dec rfl (fun c4 => ?_) (fun c4 => ?_); refine cw_skip (qw_then (Wya (cS (C1 Pa (cT (cw_ret (qw_block_ret (qw_then_ret (qw_ret1 rfl rfl ?_))))))))); rotate_left 1; refine cS (C1 V1 (C1 Pa (cT ?_))); refine cw_dec rfl (fun c5 => ?_) (fun c5 => ?_); refine cw_skip (qw_then (Wya (cS (C1 Pa (cT (cw_ret (qw_block_ret (qw_then_ret (qw_ret1 rfl rfl ?_))))))))); rotate_left 1; refine cw_region (C1 V1 (C1 Pa (cT ?_))); refine cw_dec rfl (fun c6 => ?_) (fun c6 => ?_); refine cS (C1 Pa (cT (cw_ret (qw_block_ret (qw_then_ret (qw_ret1 rfl rfl ?_)))))); rotate_left 1; refine cw_seq (cS (C1 V1 (C1 Pa (cT ?_)))); refine cw_dec rfl (fun c7 => ?_) (fun c7 => ?_); refine cw_skip (qw_then (Wya (cS (C1 Pa (cT (cw_ret (qw_block_ret (qw_then_ret (qw_ret1 rfl rfl ?_))))))))); rotate_left 1
  refine cS (C1 V1 (C1 Pa (cT ?_))); refine cw_dec rfl (fun c8 => ?_) (fun c8 => ?_); refine cw_skip (qw_then (Wya (cS (C1 Pa (cT (cw_ret (qw_block_ret (qw_then_ret (qw_ret1 rfl rfl ?_))))))))); rotate_left 1; refine cw_region (C1 V1 (C1 Pa (cT ?_))); refine cw_dec rfl (fun c9 => ?_) (fun c9 => ?_); refine cS (C1 Pa (cT (cw_ret (qw_block_ret (qw_then_ret (qw_ret1 rfl rfl ?_)))))); rotate_left 1; refine cS (C1 V1 (C1 Pa (cT ?_))); refine cw_dec rfl (fun c10 => ?_) (fun c10 => ?_); refine cS (C1 Pa (cT (cw_ret (qw_block_ret (qw_then_ret (qw_ret1 rfl rfl ?_)))))); rotate_left 1; refine cS (C1 V1 (C1 Pa (cT ?_))); refine cw_dec rfl (fun c11 => ?_) (fun c11 => ?_); refine cS (C1 Pa (cT (cw_ret (qw_block_ret (qw_then_ret (qw_ret1 rfl rfl ?_)))))); rotate_left 1; refine cw_skip (qw_block_norm (qw_then (cS (C1 Pa (cT (cw_ret (qw_ret1 rfl rfl ?_))))))); rotate_left 1
 all_goals (refine ⟨?_, X⟩; unfold kidsI; simp [*])
def badN (k : Int) (m : Nat) : Prop := kidsI k = -2 ∨ 0 ≤ kidsI k ∧ (m : Int) ≠ kidsI k
instance (k : Int) (m : Nat) : Decidable (badN k m) := by unfold badN; infer_instance
theorem formN_bad {k n : Int} {s : List UInt8} {m : Nat} (h : badN k m) : formN k n s m = false := by
 unfold badN kidsI at h
 unfold formN
 repeat' split at h
 all_goals (repeat' split)
 all_goals first | omega | rfl | (simp; done) | (simp; omega)
def formK (k n : Int) (s : List UInt8) : Bool :=
 if k = 80 then decide (0 ≤ n) && s.isEmpty else if k = 82 then decide (8 ≤ n) && decide (n ≤ 23) && s.isEmpty else if k = 84 then n == 0 && funName s else if k = 81 then n == 0 else if k = 85 then n == 0 else n == 0 && s.isEmpty
theorem formN_ok {k n : Int} {s : List UInt8} {m : Nat} (h : ¬ badN k m) : formN k n s m = formK k n s := by
 unfold badN kidsI at h
 unfold formN formK
 repeat' split at h
 all_goals (repeat' split)
 all_goals first | omega | rfl | (simp; done) | (simp; omega)
theorem nil_len {s : List UInt8} : s.isEmpty = decide (s = []) := by cases s <;> rfl
set_option maxRecDepth 100000 in
set_option maxHeartbeats 8000000 in
theorem gNode_c (k n : Int) (s : List UInt8) (a : Option Addr) (m c : Nat) (w : World) (hs : s.length ≤ 9223372036854775807) (hm : m ≤ 9223372036854775807) :
 Calls Tryz.prog 76 #[.agg #[.int .u8 k, .int .i64 n, str s, .slice a m c]] w fun e w' => e = .returned (.bool (formN k n s m)) ∧ Ext w w' := by
 have X := Ext.refl w; refine calls_in Tryz.func76 Tryz.ntmps76 rfl rfl ?_
 focus
  refine cS ?_; (refine lw_box' [_, _, _, _] rfl rfl rfl ?_; intro b1 w2 n3); have h4 := n3.blk; have x5 := n3.ext; have p6 := n3.pos; have z7 := n3.size; clear n3; replace X := X.ext x5; clear x5; refine C1 Pa (cN (C1 Pg (C1 (Pl h4) (cC rfl (gKids_c _ _) ?_)))); rintro _ w9 ⟨⟨⟩, x8⟩; have z10 := x8.size; replace h4 := h4.ext x8; replace X := X.ext x8; clear x8; refine C1 Pa (cT (cw_seq ?_)); rotate_left 1
 refine cw_meet (ι := Unit) (fun _ => [(1, .pointer (some ⟨b1, 0, none⟩)), (19, .bool (decide (badN k m)))]) (fun _ w' => Blk w' b1 [.int .u8 k, .int .i64 n, str s, .slice a m c] ∧ Ext w w') ?_ ?_
 · by_cases h1 : kidsI k = -2
   · focus
      refine cw_region (C1 Mv (C1 V1 (C1 Mv (Oya (Oya (Oya (lw_off_u rfl rfl rfl rfl (lw_off_u rfl rfl rfl rfl (lw_off_u rfl rfl rfl rfl (lw_off_u rfl rfl rfl rfl (lw_off_u rfl rfl rfl rfl ?_))))))))))); refine Oya (C1 Qya (lw_nil ?_)); rotate_left 1
     exact qw_meet () (sub_cons rfl (sub_cons' rfl (by simp [badN, h1]) sub_nil)) ⟨by assumption, X⟩
   · by_cases h2 : 0 ≤ kidsI k
     · by_cases h3 : (m : Int) = kidsI k
       · focus
          refine cw_region (C1 Mv (C1 V1 (C1 Mv (Gna (C1 Mv (Gna (C1 V6 (Gna (C1 Mv (Gya (C1 Pf ?_))))))))))); refine Gya (C1 (Pl h4) (Gya (C1 Pz (Gya (C1 Mv (Gya (C1 V2 (Gna (C1 Qya (C1 Qna (lw_nil ?_))))))))))); rotate_left 1
         exact qw_meet () (sub_cons rfl (sub_cons' rfl (by simp [badN, h1, h2, h3]) sub_nil)) ⟨by assumption, X⟩
       · focus
          refine cw_region (C1 Mv (C1 V1 (C1 Mv (Gna (C1 Mv (Gna (C1 V6 (Gna (C1 Mv (Gya (C1 Pf ?_))))))))))); refine Gya (C1 (Pl h4) (Gya (C1 Pz (Gya (C1 Mv (Gya (C1 V2 (Gna (C1 Qya (C1 Qna (lw_nil ?_))))))))))); rotate_left 1
         exact qw_meet () (sub_cons rfl (sub_cons' rfl (by simp [badN, h1, h2, h3]) sub_nil)) ⟨by assumption, X⟩
     · focus
        refine cw_region (C1 Mv (C1 V1 (C1 Mv (Gna (C1 Mv (Gna (C1 V6 (Gna (C1 Mv (Ona (Ona ?_))))))))))); refine Ona (Ona (Ona (Gna (C1 Qna (C1 Qna (lw_nil ?_)))))); rotate_left 1
       exact qw_meet () (sub_cons rfl (sub_cons' rfl (by simp [badN, h1, h2]) sub_nil)) ⟨by assumption, X⟩
 clear X; rintro _ w1 ⟨hb, X⟩
 by_cases hbad : badN k m
 · rw [formN_bad hbad]
   focus
    refine Wya (cS (C1 Pa (cT (cw_ret (qw_then_ret (qw_ret1 rfl rfl ?_)))))); rotate_left 1
   exact ⟨rfl, X⟩
 · rw [formN_ok hbad]
   focus
    refine Wna (cw_skip (qw_then (cw_seq (cS (C1 Pg (C1 (Pl hb) (cT (cw_block (cS (C1 V1 (C1 Pa ?_))))))))))); refine cT ?_; refine cw_dec rfl (fun cf1 => ?_) (fun cf1 => ?_); refine cS (C1 Pf (C1 (Pl hb) (C1 V6 (C1 Mv ?_)))); refine lw_dec rfl rfl rfl (fun cf2 => ?_) (fun cf2 => ?_); refine Gya (C1 Pf (Gya (C1 (Pl hb) (Gya (C1 V8 (C1 Qya (C1 Pa (cT (cw_ret (qw_block_ret (qw_then_ret ?_))))))))))); refine qw_ret1 rfl rfl ?_; rotate_left 1; refine Ona (Ona (Ona (C1 Qna (C1 Pa (cT (cw_ret (qw_block_ret (qw_then_ret (qw_ret1 rfl rfl ?_))))))))); rotate_left 1; refine cS (C1 V1 (C1 Pa (cT ?_))); refine cw_dec rfl (fun cf3 => ?_) (fun cf3 => ?_); refine cS (C1 Pf (C1 (Pl hb) (C1 V6 (C1 Mv ?_)))); refine lw_dec rfl rfl rfl (fun cf4 => ?_) (fun cf4 => ?_); refine Gya (C1 Pf (Gya (C1 (Pl hb) (Gya (C1 V4 (C1 Qya (C1 Mv ?_))))))); refine lw_dec rfl rfl rfl (fun cf5 => ?_) (fun cf5 => ?_); refine Gya (C1 Pf (Gya (C1 (Pl hb) (Gya (C1 V8 (C1 Qya (C1 Pa (cT (cw_ret (qw_block_ret (qw_then_ret ?_))))))))))); refine qw_ret1 rfl rfl ?_; rotate_left 1; refine Ona (Ona (Ona (C1 Qna (C1 Pa (cT (cw_ret (qw_block_ret (qw_then_ret (qw_ret1 rfl rfl ?_))))))))); rotate_left 1; refine Ona (Ona (Ona (C1 Qna (C1 Mv (lw_off rfl rfl rfl (rfl) rfl (lw_off rfl rfl rfl (rfl) rfl (lw_off rfl rfl rfl (rfl) rfl (C1 (pur_pick_f rfl rfl rfl) (C1 Pa (cT (cw_ret ?_))))))))))); refine qw_block_ret (qw_then_ret (qw_ret1 rfl rfl ?_)); rotate_left 1; refine cS (C1 V1 (C1 Pa (cT ?_))); refine cw_dec rfl (fun cf6 => ?_) (fun cf6 => ?_)
    refine cS (C1 Pf (C1 (Pl hb) (C1 V1 (C1 Mv ?_)))); refine lw_dec rfl rfl rfl (fun cf7 => ?_) (fun cf7 => ?_); refine Gya (C1 Pf (Gya (C1 (Pl hb) (Gya ?_)))); refine cC rfl (gName_c _ _ (by omega)) ?_; rintro _ wf9 ⟨⟨⟩, xf8⟩; have zf10 := xf8.size; replace hb := hb.ext xf8; replace X := X.ext xf8; clear xf8; refine C1 Qya (C1 Pa (cT (cw_ret (qw_block_ret (qw_then_ret (qw_ret1 rfl rfl ?_)))))); rotate_left 1; refine Ona (Ona (Ona (C1 Qna (C1 Pa (cT (cw_ret (qw_block_ret (qw_then_ret (qw_ret1 rfl rfl ?_))))))))); rotate_left 1; refine cw_seq (cS (C1 V1 (C1 Pa (cT ?_)))); refine cw_dec rfl (fun cf11 => ?_) (fun cf11 => ?_); refine cw_skip (qw_then (Wya (cS (C1 Pf (C1 (Pl hb) (C1 V1 (C1 Pa (cT (cw_ret (qw_block_ret (qw_then_ret ?_))))))))))); refine qw_ret1 rfl rfl ?_; rotate_left 1; refine cw_region (C1 V1 (C1 Pa (cT ?_))); refine cw_dec rfl (fun cf12 => ?_) (fun cf12 => ?_); refine cS (C1 Pf (C1 (Pl hb) (C1 V1 (C1 Pa (cT (cw_ret (qw_block_ret (qw_then_ret (qw_ret1 rfl rfl ?_))))))))); rotate_left 1; refine cw_skip (qw_block_norm (qw_then (cS (C1 Pf (C1 (Pl hb) (C1 V1 (C1 Mv ?_))))))); refine lw_dec rfl rfl rfl (fun cf13 => ?_) (fun cf13 => ?_); refine Gya (C1 Pf (Gya (C1 (Pl hb) (Gya (C1 V8 (C1 Qya (C1 Pa (cT (cw_ret (qw_ret1 rfl rfl ?_)))))))))); rotate_left 1; refine Ona (Ona (Ona (C1 Qna (C1 Pa (cT (cw_ret (qw_ret1 rfl rfl ?_))))))); rotate_left 1
   all_goals (refine retb ?_ X; unfold formK; rw [nil_len]; simp [*] <;> first | omega | (rw [Bool.eq_iff_iff]; simp; done) | (rw [Bool.eq_iff_iff]; simp; omega))
theorem gRes_c (a b : Bool) (w : World) : Calls Tryz.prog 78 #[.bool a, .bool b] w fun e w' => e = .returned (.tuple #[.bool (if b then a else false), .int .i64 (if b then 0 else 7)]) ∧ Ext w w' := by
 have X := Ext.refl w
 cases b
 · refine calls_in Tryz.func78 Tryz.ntmps78 rfl rfl ?_
   focus
    refine cS (C1 Pa (C1 Pa (cT (cw_seq (cS (C1 Mv (C1 Pt (cT (cw_cond_t rfl (cS (C1 Pa ?_))))))))))); refine C1 Pa (cT (cw_ret (qw_then_ret (qw_ret2 rfl rfl rfl ?_)))); rotate_left 1
   exact ⟨rfl, X⟩
 · refine calls_in Tryz.func78 Tryz.ntmps78 rfl rfl ?_
   focus
    refine cS (C1 Pa (C1 Pa (cT (cw_seq (cS (C1 Mv (C1 Pt (cT (cw_cond_f rfl (cw_skip (qw_then ?_))))))))))); refine cS (C1 Mv (C1 Pa (C1 Pa (cT (cw_ret (qw_ret2 rfl rfl rfl ?_)))))); rotate_left 1
   exact ⟨rfl, X⟩
set_option maxRecDepth 100000 in
set_option maxHeartbeats 4000000 in
theorem gForm_c (N : Nat) : ∀ (t : Nd) (S : Nat → Prop) (a : Option Addr) (c : Nat) (w : World), t.size < N → t.size ≤ 1000000000 → t.wf → t.sits S w a →
 Calls Tryz.prog 45 #[t.val a c] w fun e w' => e = .returned (.bool t.formed) ∧ Ext w w' := by
 induction N with
 | zero => intro t S a c w h; omega
 | succ N ih =>
  rintro ⟨k, n, s, l⟩ S a c w hN hM hwf hs
  have IH := Lib.hid ih; clear ih
  simp only [Nd.sits] at hs; simp only [Nd.size] at hN hM; have hwfl := hwf; simp only [Nd.wf] at hwfl; obtain ⟨-, -, -, -, q1, q2, q3⟩ := hwfl; have HW := Lib.hid (rowWf_iffF.1 q3); clear q3 hwf; have X := Ext.refl w; have hl := length_rowSize l; have HFm := Lib.hid (fun (w : World) => gNode_c k n s a l.length c w q1 q2)
  by_cases hf : formN k n s l.length = true
  · rw [hf] at HFm
    rw [show (Nd.mk k n s l).formed = rowFormed l from by simp [Nd.formed, hf]]; clear hf; refine calls_in Tryz.func45 Tryz.ntmps45 rfl rfl ?_
    focus
     refine cS ?_; (refine lw_box' [_, _, _, _] rfl rfl rfl ?_; intro b1 w2 n3); have h4 := n3.blk; have x5 := n3.ext; have p6 := n3.pos; have z7 := n3.size; clear n3; replace hs := Bk.rowSits.ext hs x5; replace X := X.ext x5; clear x5; refine C1 Pa (cT (cw_seq (cS (lw_loads_b' [_, _, _, _] tabOk rfl rfl rfl h4 rfl rfl rfl (cC rfl (HFm.out _) ?_))))); rintro _ w9 ⟨⟨⟩, x8⟩; have z10 := x8.size; replace h4 := h4.ext x8; replace hs := Bk.rowSits.ext hs x8; replace X := X.ext x8; clear x8; refine C1 Pt (cT (cw_cond_f rfl (cw_skip (qw_then (cw_seq (cS (C1 Pa (cT (cw_block ?_))))))))); rotate_left 1
    refine cw_loop (ι := Nat) (fun j => [(1, .pointer (some ⟨b1, 0, none⟩)), (3, .int .i64 j)]) (fun j w' => rowSits S w' l a ∧ Blk w' b1 [.int .u8 k, .int .i64 n, str s, .slice a l.length c] ∧ Ext w w' ∧ j ≤ l.length ∧ rowFormed (l.take j) = true) (fun j => l.length - j) 0 (by (refine sub_cons rfl ?_; refine sub_cons rfl ?_; exact sub_nil)) ⟨hs, h4, X, Nat.zero_le _, by simp [rowFormed]⟩ ?_; clear hs X h4; rintro j w1 ⟨hs, hb, X, hj, hn⟩; have HN := Lib.hid hn; clear hn
    by_cases hlt : j < l.length
    · obtain ⟨kb, ko, rfl, hkS, hkid⟩ := kidRows hs (by intro e; subst e; simp at hlt)
      obtain ⟨xa, xc, rx, sx⟩ := hkid j l[j] (List.getElem?_eq_getElem hlt); have hsz := size_mem (List.getElem_mem hlt); have hxw := HW.out _ (List.getElem_mem hlt); have hnx := Lib.hid (rowFormed_take hlt HN.out); have hnt := Lib.hid (rowFormed_not (List.getElem_mem hlt)); clear hkid HN
      generalize l[j] = x at *
      have HX := Lib.hid (fun (S : Nat → Prop) (a : Option Addr) (c : Nat) (w : World) (hs : x.sits S w a) => IH.out x S a c w (by omega) (by omega) hxw hs); clear hxw
      by_cases hx : x.formed = true
      · rw [hx] at HX
        have hq := Lib.hid (hnx.out hx); clear hnx hnt hx
        focus
         refine cw_seq (cS (C1 Mv (C1 Pf (C1 (Pl hb) (C1 Pz (C1 V3 (cT (Wyo (cw_skip (qw_then (cw_seq ?_))))))))))); refine cw_block (cS (C1 Pf (C1 (Pl hb) (C1 Mv (C1 Pi (C1 (Pws rx) ?_)))))); refine cC rfl (HX.out _ _ _ _ (by assumption)) ?_; rintro _ wa2 ⟨⟨⟩, xa1⟩; have za3 := xa1.size; replace X := X.ext xa1; replace hs := Bk.rowSits.ext hs xa1; replace hb := hb.ext xa1; replace rx := rx.ext xa1; replace sx := Nd.sits.ext sx xa1; clear xa1; refine C1 Pt (cT (cw_cond_f rfl (cw_skip (qw_block_norm (qw_then (cw_region (C1 Mv (C1 V7 (C1 Pa (lw_nil ?_)))))))))); rotate_left 1
        exact qw_round (j + 1) (by (refine sub_cons rfl ?_; refine sub_cons rfl ?_; exact sub_nil)) ⟨hs, hb, X, by omega, hq.out⟩ (by omega)
      · have hx : x.formed = false := by simpa using hx
        rw [hx] at HX; have hq := Lib.hid (hnt.out hx); clear hnx hnt hx
        focus
         refine cw_seq (cS (C1 Mv (C1 Pf (C1 (Pl hb) (C1 Pz (C1 V3 (cT (Wyo (cw_skip (qw_then (cw_seq ?_))))))))))); refine cw_block (cS (C1 Pf (C1 (Pl hb) (C1 Mv (C1 Pi (C1 (Pws rx) ?_)))))); refine cC rfl (HX.out _ _ _ _ (by assumption)) ?_; rintro _ wb2 ⟨⟨⟩, xb1⟩; have zb3 := xb1.size; replace X := X.ext xb1; replace hs := Bk.rowSits.ext hs xb1; replace hb := hb.ext xb1; replace rx := rx.ext xb1; replace sx := Nd.sits.ext sx xb1; clear xb1; refine C1 Pt (cT (cw_cond_t rfl (cS (C1 Pa (cT (cw_ret (qw_block_ret (qw_then_ret (qw_then_ret (qw_block_ret (qw_then_ret ?_))))))))))); refine qw_ret1 rfl rfl ?_; rotate_left 1
        exact retb hq.out.symm X
    · have hje : j = l.length := by omega
      subst hje; have hn := HN.out; rw [List.take_length] at hn; have hq := Lib.hid hn; clear hn HN
      focus
       refine cw_seq (cS (C1 Mv (C1 Pf (C1 (Pl hb) (C1 Pz (C1 V3 (cT (Wno (cw_exit (qw_then_exit (qw_then_exit ?_))))))))))); refine qw_block_exit (qw_then (cS (C1 Pa (cT (cw_ret (qw_ret1 rfl rfl ?_)))))); rotate_left 1
      exact retb hq.out.symm X
  · have hf : formN k n s l.length = false := by simpa using hf
    rw [hf] at HFm; rw [show (Nd.mk k n s l).formed = false from by simp [Nd.formed, hf]]; clear hf; refine calls_in Tryz.func45 Tryz.ntmps45 rfl rfl ?_
    focus
     refine cS ?_; (refine lw_box' [_, _, _, _] rfl rfl rfl ?_; intro bd1 wd2 nd3); have hd4 := nd3.blk; have xd5 := nd3.ext; have pd6 := nd3.pos; have zd7 := nd3.size; clear nd3; replace hs := Bk.rowSits.ext hs xd5; replace X := X.ext xd5; clear xd5; refine C1 Pa (cT (cw_seq (cS (lw_loads_b' [_, _, _, _] tabOk rfl rfl rfl hd4 rfl rfl rfl (cC rfl (HFm.out _) ?_))))); rintro _ wd9 ⟨⟨⟩, xd8⟩; have zd10 := xd8.size; replace hd4 := hd4.ext xd8; replace hs := Bk.rowSits.ext hs xd8; replace X := X.ext xd8; clear xd8; refine C1 Pt (cT (cw_cond_t rfl (cS (C1 Pa (cT (cw_ret (qw_then_ret (qw_ret1 rfl rfl ?_)))))))); rotate_left 1
    exact ⟨rfl, X⟩
set_option maxRecDepth 100000 in
set_option maxHeartbeats 1000000 in
theorem gDepth_c (N : Nat) : ∀ (t : Nd) (S : Nat → Prop) (a : Option Addr) (c : Nat) (w : World), t.size < N → t.size ≤ 1000000000 → t.sits S w a →
 Calls Tryz.prog 46 #[t.val a c] w fun e w' => e = .returned (.int .i64 t.depth) ∧ Ext w w' := by
 induction N with
 | zero => intro t S a c w h; omega
 | succ N ih =>
  rintro ⟨k, n, s, l⟩ S a c w hN hM hs
  have IH := Lib.hid ih; clear ih
  simp only [Nd.sits] at hs; simp only [Nd.size] at hN hM; have X := Ext.refl w; have hl := length_rowSize l; rw [show (Nd.mk k n s l).depth = rowDepth l + 1 from by simp only [Nd.depth]]; refine calls_in Tryz.func46 Tryz.ntmps46 rfl rfl ?_
  focus
   refine cS ?_; (refine lw_box' [_, _, _, _] rfl rfl rfl ?_; intro b1 w2 n3); have h4 := n3.blk; have x5 := n3.ext; have p6 := n3.pos; have z7 := n3.size; clear n3; replace hs := Bk.rowSits.ext hs x5; replace X := X.ext x5; clear x5; refine C1 Pa (cN (C1 Pa (cT (cw_seq (cS (C1 Pa (cT (cw_block ?_)))))))); rotate_left 1
  refine cw_loop (ι := Nat) (fun j => [(1, .pointer (some ⟨b1, 0, none⟩)), (4, .int .i64 j), (3, .int .i64 (rowDepth (l.take j)))]) (fun j w' => rowSits S w' l a ∧ Blk w' b1 [.int .u8 k, .int .i64 n, str s, .slice a l.length c] ∧ Ext w w' ∧ j ≤ l.length) (fun j => l.length - j) 0 (by (refine sub_cons rfl ?_; refine sub_cons rfl ?_; refine sub_cons rfl ?_; exact sub_nil)) ⟨hs, h4, X, Nat.zero_le _⟩ ?_; clear hs h4 X; rintro j w1 ⟨hs, hb, X, hj⟩
  by_cases hlt : j < l.length
  · obtain ⟨kb, ko, rfl, hkS, hkid⟩ := kidRows hs (by intro e; subst e; simp at hlt)
    obtain ⟨xa, xc, rx, sx⟩ := hkid j l[j] (List.getElem?_eq_getElem hlt); have hsz := size_mem (List.getElem_mem hlt)
    have ht : l.take (j + 1) = l.take j ++ [l[j]] := by rw [List.take_add_one, List.getElem?_eq_getElem hlt]; rfl
    have hb0 := rowDepth_le (l.take j); have hb1 := rowSize_take l j; have hb2 := rowSize_take l (j + 1); have hb3 := depth_le l[j]; rw [ht, rowSize_snoc] at hb2; clear hkid
    generalize l[j] = x at *
    have hq : max (rowDepth (l.take j)) x.depth = rowDepth (l.take (j + 1)) := by rw [ht, rowDepth_snoc]
    focus
     refine cw_seq (cS (C1 Mv (C1 Pf (C1 (Pl hb) (C1 Pz (C1 V3 (cT (Wyo (cw_skip (qw_then (cw_seq ?_))))))))))); refine cw_block (cw_region (C1 Mv (C1 Pf (C1 (Pl hb) (C1 Mv (C1 Pi (C1 (Pws rx) ?_))))))); refine cC rfl (IH.out _ S _ _ _ (by omega) (by omega) (by assumption)) ?_; rintro _ wa2 ⟨⟨⟩, xa1⟩; have za3 := xa1.size; replace X := X.ext xa1; replace hs := Bk.rowSits.ext hs xa1; replace hb := hb.ext xa1; replace rx := rx.ext xa1; replace sx := Nd.sits.ext sx xa1; clear xa1; refine C1 (pur_max rfl rfl rfl) (C1 Pa (lw_nil (qw_block_norm (qw_then (cw_region (C1 Mv (C1 V7 (C1 Pa (lw_nil ?_))))))))); rotate_left 1
    refine qw_round (j + 1) ?_ ⟨hs, hb, X, by omega⟩ (by omega); rw [← hq]; (refine sub_cons rfl ?_; refine sub_cons rfl ?_; refine sub_cons rfl ?_; exact sub_nil)
  · have : j = l.length := by omega
    subst this; have hb0 := rowDepth_le l; rw [List.take_length]
    focus
     refine cw_seq (cS (C1 Mv (C1 Pf (C1 (Pl hb) (C1 Pz (C1 V3 (cT (Wno (cw_exit (qw_then_exit (qw_then_exit ?_))))))))))); refine qw_block_exit (qw_then (cS (C1 Mv (C1 V7 (C1 Pa (cT (cw_ret (qw_ret1 rfl rfl ?_)))))))); rotate_left 1
    exact ⟨rfl, X⟩
set_option maxRecDepth 100000 in
set_option maxHeartbeats 1000000 in
theorem gSize_c (N : Nat) : ∀ (t : Nd) (S : Nat → Prop) (a : Option Addr) (c : Nat) (w : World), t.size < N → t.size ≤ 1000000000 → t.sits S w a →
 Calls Tryz.prog 47 #[t.val a c] w fun e w' => e = .returned (.int .i64 (t.size : Int)) ∧ Ext w w' := by
 induction N with
 | zero => intro t S a c w h; omega
 | succ N ih =>
  rintro ⟨k, n, s, l⟩ S a c w hN hM hs
  have IH := Lib.hid ih; clear ih
  simp only [Nd.sits] at hs; simp only [Nd.size] at hN hM; have X := Ext.refl w; have hl := length_rowSize l; rw [show ((Nd.mk k n s l).size : Int) = 1 + ((rowSize l : Nat) : Int) from by simp only [Nd.size]; omega]; refine calls_in Tryz.func47 Tryz.ntmps47 rfl rfl ?_
  focus
   refine cS ?_; (refine lw_box' [_, _, _, _] rfl rfl rfl ?_; intro b1 w2 n3); have h4 := n3.blk; have x5 := n3.ext; have p6 := n3.pos; have z7 := n3.size; clear n3; replace hs := Bk.rowSits.ext hs x5; replace X := X.ext x5; clear x5; refine C1 Pa (cN (C1 Pa (cT (cw_seq (cS (C1 Pa (cT (cw_block ?_)))))))); rotate_left 1
  refine cw_loop (ι := Nat) (fun j => [(1, .pointer (some ⟨b1, 0, none⟩)), (4, .int .i64 j), (3, .int .i64 (1 + ((rowSize (l.take j) : Nat) : Int)))]) (fun j w' => rowSits S w' l a ∧ Blk w' b1 [.int .u8 k, .int .i64 n, str s, .slice a l.length c] ∧ Ext w w' ∧ j ≤ l.length) (fun j => l.length - j) 0 (by (refine sub_cons rfl ?_; refine sub_cons rfl ?_; refine sub_cons rfl ?_; exact sub_nil)) ⟨hs, h4, X, Nat.zero_le _⟩ ?_; clear hs h4 X; rintro j w1 ⟨hs, hb, X, hj⟩
  by_cases hlt : j < l.length
  · obtain ⟨kb, ko, rfl, hkS, hkid⟩ := kidRows hs (by intro e; subst e; simp at hlt)
    obtain ⟨xa, xc, rx, sx⟩ := hkid j l[j] (List.getElem?_eq_getElem hlt); have hsz := size_mem (List.getElem_mem hlt)
    have ht : l.take (j + 1) = l.take j ++ [l[j]] := by rw [List.take_add_one, List.getElem?_eq_getElem hlt]; rfl
    have hb2 := rowSize_take l (j + 1); rw [ht, rowSize_snoc] at hb2; clear hkid
    generalize l[j] = x at *
    have hq : 1 + ((rowSize (l.take j) : Nat) : Int) + (x.size : Int) = 1 + ((rowSize (l.take (j + 1)) : Nat) : Int) := by rw [ht, rowSize_snoc]; omega
    focus
     refine cw_seq (cS (C1 Mv (C1 Pf (C1 (Pl hb) (C1 Pz (C1 V3 (cT (Wyo (cw_skip (qw_then (cw_seq ?_))))))))))); refine cw_block (cw_region (C1 Mv (C1 Pf (C1 (Pl hb) (C1 Mv (C1 Pi (C1 (Pws rx) ?_))))))); refine cC rfl (IH.out _ S _ _ _ (by omega) (by omega) (by assumption)) ?_; rintro _ wa2 ⟨⟨⟩, xa1⟩; have za3 := xa1.size; replace X := X.ext xa1; replace hs := Bk.rowSits.ext hs xa1; replace hb := hb.ext xa1; replace rx := rx.ext xa1; replace sx := Nd.sits.ext sx xa1; clear xa1; refine C1 V7 (C1 Pa (lw_nil (qw_block_norm (qw_then (cw_region (C1 Mv (C1 V7 (C1 Pa (lw_nil ?_))))))))); rotate_left 1
    refine qw_round (j + 1) ?_ ⟨hs, hb, X, by omega⟩ (by omega); rw [← hq]; (refine sub_cons rfl ?_; refine sub_cons rfl ?_; refine sub_cons rfl ?_; exact sub_nil)
  · have : j = l.length := by omega
    subst this; rw [List.take_length]
    focus
     refine cw_seq (cS (C1 Mv (C1 Pf (C1 (Pl hb) (C1 Pz (C1 V3 (cT (Wno (cw_exit (qw_then_exit (qw_then_exit ?_))))))))))); refine qw_block_exit (qw_then (cS (C1 Mv (C1 Pa (cT (cw_ret (qw_ret1 rfl rfl ?_))))))); rotate_left 1
    exact ⟨rfl, X⟩
set_option maxRecDepth 100000 in
set_option maxHeartbeats 4000000 in
theorem gFind_c (lib : List FD) (s : List UInt8) (S : Nat → Prop) (a : Option Addr) (c : Nat) (w : World) (hL : lib.length ≤ 1000000) (hs : FDs S w lib a) :
 Calls Tryz.prog 44 #[.slice a lib.length c, str s] w fun e w' => e = .returned (.int .i64 (findI lib s)) ∧ Ext w w' := by
 have X := Ext.refl w; replace hs := hs.ltA; refine calls_in Tryz.func44 Tryz.ntmps44 rfl rfl ?_
 focus
  refine cS (C1 Pa (cT (cw_seq (cS (C1 Pa (cT (cw_block ?_))))))); rotate_left 1
 refine cw_loop (ι := Nat) (fun j => [(0, .slice a lib.length c), (1, str s), (5, .int .i64 j)]) (fun j w' => FDs (· < w.heap.size) w' lib a ∧ Ext w w' ∧ j ≤ lib.length ∧ ∀ x ∈ lib.take j, x.name ≠ s) (fun j => lib.length - j) 0 (by (refine sub_cons rfl ?_; refine sub_cons rfl ?_; refine sub_cons rfl ?_; exact sub_nil)) ⟨hs, X, Nat.zero_le _, by simp⟩ ?_; clear hs X; rintro j w1 ⟨hs, X, hj, hn⟩; have HN := Lib.hid hn; clear hn
 by_cases hlt : j < lib.length
 · have hs2 := hs
   obtain ⟨kb, ko, ⟨⟩, -, hk⟩ := Arr.get hs2 (by omega); obtain ⟨pa, pc, ba, bc, hr, h1, h2⟩ := hk j lib[j] (List.getElem?_eq_getElem hlt); clear hk hs2; have hnx := Lib.hid (not_snoc hlt HN.out); have hnt := Lib.hid (findF_at hlt HN.out); clear HN; have hsz := X.size
   generalize lib[j] = x at *
   simp only [FD.cells] at hr
   by_cases hx : x.name = s
   · have hq := Lib.hid (hnt.out hx)
     clear hnx hnt
     focus
      refine cw_seq (cS (C1 Mv (C1 Mv (C1 Pz (C1 V3 (cT (Wyo (cw_skip (qw_then (cw_seq (cw_block ?_))))))))))); refine cS (C1 Mv (C1 Mv (C1 Pi (C1 Pg (C1 (Pw0 hr) (C1 Mv (C1 V8 (cT (Wya (cS (C1 Mv ?_))))))))))); refine C1 Pa (cT (cw_ret (qw_block_ret (qw_then_ret (qw_then_ret (qw_block_ret (qw_then_ret (qw_ret1 rfl rfl ?_)))))))); rotate_left 1
     exact ⟨by simp [findI, hq.out], X⟩
   · have hq := Lib.hid (hnx.out hx)
     clear hnx hnt
     focus
      refine cw_seq (cS (C1 Mv (C1 Mv (C1 Pz (C1 V3 (cT (Wyo (cw_skip (qw_then (cw_seq (cw_block ?_))))))))))); refine cS (C1 Mv (C1 Mv (C1 Pi (C1 Pg (C1 (Pw0 hr) (C1 Mv (C1 V8 (cT (Wna (cw_skip (qw_block_norm ?_))))))))))); refine qw_then (cw_region (C1 Mv (C1 V7 (C1 Pa (lw_nil ?_))))); rotate_left 1
     exact qw_round (j + 1) (by (refine sub_cons rfl ?_; refine sub_cons rfl ?_; refine sub_cons rfl ?_; exact sub_nil)) ⟨hs, X, by omega, hq.out⟩ (by omega)
 · have hje : j = lib.length := by omega
   subst hje; have hn := HN.out; rw [List.take_length] at hn; have hq := Lib.hid (findF_no hn); clear hn HN
   focus
    refine cw_seq (cS (C1 Mv (C1 Mv (C1 Pz (C1 V3 (cT (Wno (cw_exit (qw_then_exit (qw_then_exit (qw_block_exit ?_))))))))))); refine qw_then (cS (C1 Pa (cT (cw_ret (qw_ret1 rfl rfl ?_))))); rotate_left 1
   exact ⟨by simp [findI, hq.out], X⟩
def visR (l : List FP) : Vis := (l.map fun p => (p.name, p.list)).reverse
theorem visR_snoc (l : List FP) (p : FP) : visR (l ++ [p]) = (p.name, p.list) :: visR l := by simp [visR]
theorem seen_cons (p : List UInt8 × Bool) (v : Vis) (s : List UInt8) : seen (p :: v) s = if p.1 = s then some p.2 else seen v s := by
 unfold seen
 by_cases h : p.1 = s
 · simp [h]
 · simp [h]
def seenB (v : Vis) (s : List UInt8) : Bool × Bool := match seen v s with
 | some b => (b, true)
 | none => (false, false)
set_option maxRecDepth 100000 in
set_option maxHeartbeats 4000000 in
theorem gVis_c (l : List FP) (s : List UInt8) (S : Nat → Prop) (a : Option Addr) (c : Nat) (w : World) (hL : l.length ≤ 100000000) (hs : FPs S w l a) :
 Calls Tryz.prog 77 #[.slice a l.length c, str s] w fun e w' => e = .returned (.tuple #[.bool (seenB (visR l) s).1, .bool (seenB (visR l) s).2]) ∧ Ext w w' := by
 have X := Ext.refl w; replace hs := hs.ltA; refine calls_in Tryz.func77 Tryz.ntmps77 rfl rfl ?_
 focus
  refine cS (C1 Pa (C1 Pa (cT (cw_seq (cS (C1 Mv (C1 Pz ?_))))))); refine C1 (pur_sub rfl rfl (IntWalk.i64_in _ (by omega))) ?_; refine C1 Pa (cT (cw_block ?_)); rotate_left 1
 refine cw_loop (ι := Nat) (fun j => [(0, .slice a l.length c), (1, str s), (6, .int .i64 ((j : Int) - 1))]) (fun j w' => FPs (· < w.heap.size) w' l a ∧ Ext w w' ∧ j ≤ l.length ∧ seenB (visR l) s = seenB (visR (l.take j)) s) (fun j => j) l.length (by (refine sub_cons rfl ?_; refine sub_cons rfl ?_; refine sub_cons rfl ?_; exact sub_nil)) ⟨hs, X, Nat.le_refl _, by rw [List.take_length]⟩ ?_; clear hs X; rintro j w1 ⟨hs, X, hj, hn⟩; have HN := Lib.hid hn; clear hn
 cases j with
 | zero =>
  have hq := Lib.hid (show seenB (visR l) s = (false, false) by rw [HN.out]; rfl); clear HN
  focus
   refine cw_seq (cS (C1 Mv (C1 V6 (cT (Wnd (cw_exit (qw_then_exit (qw_then_exit (qw_block_exit (qw_then (cS ?_))))))))))); refine C1 Pa (C1 Pa (cT (cw_ret (qw_ret2 rfl rfl rfl ?_)))); rotate_left 1
  exact ⟨by rw [hq.out], X⟩
 | succ j =>
  have hlt : j < l.length := by omega
  have hs2 := hs; obtain ⟨kb, ko, ⟨⟩, -, hk⟩ := Arr.get hs2 (by omega); have hr : Row w1 ⟨kb, ko + j * 2, none⟩ l[j].cells := hk j l[j] (List.getElem?_eq_getElem hlt)
  have hq := Lib.hid (show seenB (visR l) s = if l[j].name = s then (l[j].list, true) else seenB (visR (l.take j)) s by
   rw [HN.out, List.take_succ_eq_append_getElem hlt, visR_snoc]
   unfold seenB
   rw [seen_cons]
   by_cases h : l[j].name = s
   · simp [h]
   · simp [h])
  clear hk hs2 HN
  generalize l[j] = x at *
  have hji : ((j + 1 : Nat) : Int) - 1 = (j : Int) := by omega
  refine CW.sub (m := [(0, .slice (some ⟨kb, ko, none⟩) l.length c), (1, str s), (6, .int .i64 (j : Int))]) ?_ (by refine sub_cons rfl (sub_cons rfl (sub_cons' rfl (by rw [hji]) ?_)); (exact sub_nil))
  by_cases hx : x.name = s
  · have hq2 := Lib.hid (show seenB (visR l) s = (x.list, true) by rw [hq.out, if_pos hx])
    clear hq
    focus
     refine cw_seq (cS (C1 Mv (C1 V6 (cT (Wyo (cw_skip (qw_then (cw_seq (cw_block (cS (C1 Mv ?_))))))))))); refine C1 Mv (C1 Pi (C1 Pg (C1 (Pw0 hr) (C1 Mv (C1 V8 (cT (Wya (cS (C1 Mv (C1 Mv (C1 Pi ?_))))))))))); refine C1 Pf (C1 (Pw hr) (C1 Pa (C1 Pa (cT (cw_ret (qw_block_ret (qw_then_ret (qw_then_ret (qw_block_ret (qw_then_ret (qw_ret2 rfl rfl rfl ?_))))))))))); rotate_left 1
    exact ⟨by rw [hq2.out], X⟩
  · have hq2 := Lib.hid (show seenB (visR l) s = seenB (visR (l.take j)) s by rw [hq.out, if_neg hx])
    clear hq
    focus
     refine cw_seq (cS (C1 Mv (C1 V6 (cT (Wyo (cw_skip (qw_then (cw_seq (cw_block (cS (C1 Mv ?_))))))))))); refine C1 Mv (C1 Pi (C1 Pg (C1 (Pw0 hr) (C1 Mv (C1 V8 (cT (Wna (cw_skip (qw_block_norm (qw_then (cw_region ?_))))))))))); refine C1 Mv ?_; refine C1 (pur_sub rfl rfl (IntWalk.i64_in _ (by omega))) ?_; refine C1 Pa (lw_nil ?_); rotate_left 1
    exact qw_round j (by (refine sub_cons rfl ?_; refine sub_cons rfl ?_; refine sub_cons rfl ?_; exact sub_nil)) ⟨hs, X, by omega, hq2.out⟩ (by omega)
end Bk
namespace Bk
open Go Go.RowKit Go.Proofs
attribute [local irreducible] Go.Calls
theorem cw_meetG {P : Program} {n : Nat} {l : Sl} {w : World} {Q : Exit → Act → World → Prop} {x y : Code} {ι : Type} (L : ι → Sl) (I : ι → World → Prop) (h : CW P n x (Exit.then (fun a w => ∃ i, Env n (L i) a ∧ I i w) Q) l w) (k : ∀ i w, I i w → CW P n y Q (L i) w) : CW P n x (Exit.then (Code.wp P y Q) Q) l w := by
 unfold CW at h k ⊢
 intro a ha; refine Code.wp_mono (fun e a w q => ?_) (h a ha)
 cases e with
 | normal =>
  obtain ⟨i, he, hi⟩ := q
  exact k i w hi a he
 | _ => exact q
theorem fps_rows {S : Nat → Prop} {w : World} {l : List FP} {a : Option Addr} (h : FPs S w l a) : Rows S w (l.flatMap FP.cells) a := by
 rcases h with rfl | ⟨b, o, h1, h2, h3⟩
 · exact Or.inl rfl
 · exact Or.inr ⟨b, o, h1, h2, rows_each (f := FP.cells) (sz := 2) (fun _ => rfl) l o h3⟩
theorem fps_of_row {S : Nat → Prop} {w : World} {l : List FP} {g : Nat} (h : Row w ⟨g, 0, none⟩ (l.flatMap FP.cells)) (hS : S g) : FPs S w l (some ⟨g, 0, none⟩) :=
 Or.inr ⟨g, 0, rfl, hS, fun i x hi => each_rows (f := FP.cells) (sz := 2) (fun _ => rfl) l 0 h i x hi⟩
theorem fps_flat_len (l : List FP) : (l.flatMap FP.cells).length = l.length * 2 := flatMap_len (f := FP.cells) (sz := 2) (fun _ => rfl) l
theorem fps_flat_one (l : List FP) : (l.flatMap FP.cells).all Value.one = true := flatMap_one (f := FP.cells) (fun _ => rfl) l
theorem inner_fps {B : Nat} {w : World} {g cap e : Nat} {vars : List FP} (h : OwnF e 2 B w g cap (0 + vars.length) ([] ++ vars.flatMap FP.cells)) : FPs (· = g) w vars (some ⟨g, 0, none⟩) := by
 have := h.row; rw [List.nil_append] at this
 exact fps_of_row this rfl
theorem inner_fps1 {B : Nat} {w : World} {g cap e m : Nat} {vars : List FP} {p : FP} (h : OwnF e 2 B w g cap m (([] ++ vars.flatMap FP.cells) ++ p.cells)) : FPs (· = g) w (vars ++ [p]) (some ⟨g, 0, none⟩) := by
 have := h.row; rw [List.nil_append] at this
 exact fps_of_row (by rw [List.flatMap_append]; simpa using this) rfl
theorem gl0 {α : Type} {l : List α} (h : l.length = 0) : l = [] := List.eq_nil_of_length_eq_zero h
theorem gl1 {α : Type} {l : List α} (h : l.length = 1) : ∃ x, l = [x] := by
 match l, h with
 | [x], _ => exact ⟨x, rfl⟩
theorem gl2 {α : Type} {l : List α} (h : l.length = 2) : ∃ x y, l = [x, y] := by
 match l, h with
 | [x, y], _ => exact ⟨x, y, rfl⟩
theorem gl3 {α : Type} {l : List α} (h : l.length = 3) : ∃ x y z, l = [x, y, z] := by
 match l, h with
 | [x, y, z], _ => exact ⟨x, y, z, rfl⟩
theorem formN_len {k n : Int} {s : List UInt8} {c : Nat} (h : formN k n s c = true) : (80 ≤ k ∧ k ≤ 90) ∧ (k = 80 ∨ k = 81 ∨ k = 86 → c = 0) ∧ (k = 88 ∨ k = 89 ∨ k = 90 → c = 1) ∧ (k = 82 ∨ k = 84 ∨ k = 87 → c = 2) ∧ (k = 83 → c = 3) := by
 unfold formN at h
 repeat' split at h
 all_goals simp at h
 all_goals omega
theorem pur_beqlG {P : Program} {n : Nat} {l : Sl} {S : World → Prop} {tab : Tab} {t t' ty sz : Nat} {x y : Operand} {p q : Bool} (T : TabOk P tab) (ht : lookT tab t = some (.bool, sz)) (hx : ev l x = some (.bool p)) (hy : ev l y = some (.bool q)) : Pur P n l S (.binOp .eql t x y t') ty (.bool (p == q)) := by
 unfold Pur
 intro _ w dst pos after g ha _
 have e1 : (eqGuard .eql t x y (.bool p) (.bool q)).run P w = .ok () w := by unfold eqGuard; simp
 have hu : P.underlying t = some .bool := (T _ _ _ ht).under
 have e2 : (Op.equal t (.bool p) (.bool q)).run P w = .ok (p == q) w := by
  show (Op.equalIn (9999 + 1) t (.bool p) (.bool q)).run P w = _
  unfold Op.equalIn
  simp [run_underlying hu, Result.andThen]
 simp [execOp, ha.ev hx, ha.ev hy, e1, e2, binOp]
def CheckR (w : World) (q : Bool × Int) (e : Ending) (w' : World) : Prop := e = .returned (.tuple #[.bool q.1, .int .i64 q.2]) ∧ Ext w w'
theorem chkR_err {w w' : World} {r' : List Bool × Int} {acc : List Bool} {qe : Int} {z : Bool × Int} (h : r' = (acc, qe)) (hq : ¬ qe = 0) (X : Ext w w') : CheckR w (if r'.2 ≠ 0 then (false, r'.2) else z) (.returned (.tuple #[.bool false, .int .i64 qe])) w' := by
 subst h; rw [if_pos hq]
 exact ⟨rfl, X⟩
theorem chkR_ok {w w' : World} {r' : List Bool × Int} {acc : List Bool} {b : Bool} {e : Int} {z : List Bool → Bool × Int} (h : r' = (acc, 0)) (hz : z acc = (b, e)) (X : Ext w w') : CheckR w (if r'.2 ≠ 0 then (false, r'.2) else z r'.1) (.returned (.tuple #[.bool b, .int .i64 e])) w' := by
 subst h; rw [if_neg (by simp), hz]
 exact ⟨rfl, X⟩
theorem seenB_none {v : Vis} {s : List UInt8} (h : seen v s = none) : seenB v s = (false, false) := by unfold seenB; rw [h]
theorem seenB_some {v : Vis} {s : List UInt8} {b : Bool} (h : seen v s = some b) : seenB v s = (b, true) := by unfold seenB; rw [h]
theorem gVis_v {l : List FP} {s : List UInt8} {q q' : Bool} (h : seenB (visR l) s = (q, q')) (S : Nat → Prop) (a : Option Addr) (c : Nat) (w : World) (hL : l.length ≤ 100000000) (hs : FPs S w l a) :
 Calls Tryz.prog 77 #[.slice a l.length c, str s] w fun e w' => e = .returned (.tuple #[.bool q, .bool q']) ∧ Ext w w' := by
 have := gVis_c l s S a c w hL hs
 rw [h] at this; exact this
theorem gFind_v {lib : List FD} {s : List UInt8} {q : Int} (h : findI lib s = q) (S : Nat → Prop) (a : Option Addr) (c : Nat) (w : World) (hL : lib.length ≤ 1000000) (hs : FDs S w lib a) :
 Calls Tryz.prog 44 #[.slice a lib.length c, str s] w fun e w' => e = .returned (.int .i64 q) ∧ Ext w w' := by
 have := gFind_c lib s S a c w hL hs
 rw [h] at this; exact this
def ChkG (lib : List FD) (N : Nat) : Prop := ∀ (t : Nd) (vars : List FP) (SL SV S : Nat → Prop) (la va a : Option Addr) (lc vc c : Nat) (w : World), t.size < N → t.size ≤ 1000000 → vars.length + t.size ≤ 4000000 → t.wf → t.formed = true → FDs SL w lib la → FPs SV w vars va → t.sits S w a →
 Calls Tryz.prog 48 #[.slice la lib.length lc, .slice va vars.length vc, t.val a c] w (CheckR w (t.chk lib (visR vars)))
set_option maxRecDepth 100000 in
set_option maxHeartbeats 8000000 in
theorem gCheck_c (lib : List FD) (hL : lib.length ≤ 1000000) (hps : ∀ f ∈ lib, f.params.length ≤ 1000000) (N : Nat) : ChkG lib N := by
 induction N with
 | zero => intro t vars SL SV S la va a lc vc c w h; omega
 | succ N ih =>
  rintro ⟨k, n, s, l⟩ vars SL SV S la va a lc vc c w hN hM hVl hwf hfo hd hv hs
  have IH := Lib.hid ih; clear ih
  simp only [Nd.sits] at hs; simp only [Nd.size] at hN hM hVl; simp only [Nd.wf] at hwf; obtain ⟨-, -, -, -, n1, n2, n3⟩ := hwf; have HW := Lib.hid (rowWf_iffF.1 n3); clear n3; simp only [Nd.formed, Bool.and_eq_true] at hfo; have HK := Lib.hid (fun x hx => rowFormed_mem (x := x) hfo.2 hx); have HFo := Lib.hid hfo.1; clear hfo; have X := Ext.refl w; have hl := length_rowSize l; replace hd := hd.ltA; replace hv := hv.ltA; replace hs : rowSits (· < w.heap.size) w l a := rowSits_lt l a hs; have HP := Lib.hid hps; clear hps; rw [show (Nd.mk k n s l).val a c = .agg #[.int .u8 k, .int .i64 n, str s, .slice a l.length c] from rfl]
  by_cases hr : reachF lib (visR vars) k s l.length = 0
  case neg =>
   have hchk : (Nd.mk k n s l).chk lib (visR vars) = (false, reachF lib (visR vars) k s l.length) := by rw [Nd.chk, if_pos hr]
   rw [hchk]; clear hchk HK HW IH
   by_cases k1 : k = 81
   · subst k1
     cases hsn : seen (visR vars) s with
     | some b => exact absurd (by simp [reachF, hsn]) hr
     | none =>
      rw [show reachF lib (visR vars) 81 s l.length = 6 from by simp [reachF, hsn]]; have HV := Lib.hid (gVis_v (seenB_none hsn)); clear hsn hr; refine calls_in Tryz.func48 Tryz.ntmps48 rfl rfl ?_
      focus
       refine cS ?_; (refine lw_box' [_, _, _, _] rfl rfl rfl ?_; intro b1 w2 n3); have h4 := n3.blk; have x5 := n3.ext; have p6 := n3.pos; have z7 := n3.size; clear n3; replace X := X.ext x5; replace hd := hd.ext x5; replace hv := hv.ext x5; replace hs := Bk.rowSits.ext hs x5; clear x5; refine C1 Pa (C1 Pa (cN (C1 Pa (cN (C1 Pa (cT (cw_seq (cS (C1 Pg (C1 (Pl h4) (cT ?_))))))))))); refine cw_block (cS (C1 V1 (C1 Pa (cT (Wyd (cS (C1 Mv (C1 Pf (C1 (Pl h4) ?_))))))))); refine cC rfl (HV.out _ _ _ _ (by omega) (by assumption)) ?_; rintro _ w9 ⟨⟨⟩, x8⟩; have z10 := x8.size; replace h4 := h4.ext x8; replace X := X.ext x8; replace hd := hd.ext x8; replace hv := hv.ext x8; replace hs := Bk.rowSits.ext hs x8; clear x8; refine C1 Mv (C1 Px (C1 Px (C1 Pa (C1 Pa (cT (cw_seq (cS (C1 Mv (C1 Pt (cT (cw_cond_t rfl ?_))))))))))); refine cS (C1 Pa (C1 Pa (cT (cw_ret (qw_then_ret (qw_block_ret (qw_then_ret (qw_ret2 rfl rfl rfl ?_)))))))); rotate_left 1
      exact ⟨rfl, X⟩
   by_cases k5 : k = 85
   · subst k5
     cases hf : findF lib s with
     | none =>
      rw [show reachF lib (visR vars) 85 s l.length = 6 from by simp [reachF, hf]]; have HF := Lib.hid (gFind_v (findI_none hf)); clear hf hr; refine calls_in Tryz.func48 Tryz.ntmps48 rfl rfl ?_
      focus
       refine cS ?_; (refine lw_box' [_, _, _, _] rfl rfl rfl ?_; intro ba1 wa2 na3); have ha4 := na3.blk; have xa5 := na3.ext; have pa6 := na3.pos; have za7 := na3.size; clear na3; replace X := X.ext xa5; replace hd := hd.ext xa5; replace hv := hv.ext xa5; replace hs := Bk.rowSits.ext hs xa5; clear xa5; refine C1 Pa (C1 Pa (cN (C1 Pa (cN (C1 Pa (cT (cw_seq (cS (C1 Pg (C1 (Pl ha4) (cT ?_))))))))))); refine cw_block (cS (C1 V1 (C1 Pa (cT (Wna (cS (C1 V1 (C1 Pa (cT (Wyd (cS ?_))))))))))); refine C1 Mv (C1 Pf (C1 (Pl ha4) ?_)); refine cC rfl (HF.out _ _ _ _ (by omega) (by assumption)) ?_; rintro _ wa9 ⟨⟨⟩, xa8⟩; have za10 := xa8.size; replace ha4 := ha4.ext xa8; replace X := X.ext xa8; replace hd := hd.ext xa8; replace hv := hv.ext xa8; replace hs := Bk.rowSits.ext hs xa8; clear xa8; refine C1 Pa (cT (cw_seq (cS (C1 Mv (C1 V3 (cT (Wyd (cS (C1 Pa (C1 Pa (cT ?_))))))))))); refine cw_ret (qw_then_ret (qw_block_ret (qw_then_ret (qw_ret2 rfl rfl rfl ?_)))); rotate_left 1
      exact ⟨rfl, X⟩
     | some i =>
      have hil := findF_lt hf
      have hne : ¬ l.length = lib[i].params.length := fun e => hr (by simp [reachF, hf, List.getElem?_eq_getElem hil, e])
      rw [show reachF lib (visR vars) 85 s l.length = 7 from by simp [reachF, hf, List.getElem?_eq_getElem hil, hne]]; have HF := Lib.hid (gFind_v (findI_some hf)); have hd2 := hd; obtain ⟨kb, ko, rfl, -, hk⟩ := Arr.get hd2 (by omega); obtain ⟨pa, pc, ba, bc, hrw, -, -⟩ := hk i lib[i] (List.getElem?_eq_getElem hil); have hpl := HP.out _ (List.getElem_mem hil); clear hk hd2 hf hr
      generalize lib[i] = x at *
      simp only [FD.cells] at hrw; refine calls_in Tryz.func48 Tryz.ntmps48 rfl rfl ?_
      focus
       refine cS ?_; (refine lw_box' [_, _, _, _] rfl rfl rfl ?_; intro bb1 wb2 nb3); have hb4 := nb3.blk; have xb5 := nb3.ext; have pb6 := nb3.pos; have zb7 := nb3.size; clear nb3; replace X := X.ext xb5; replace hv := hv.ext xb5; replace hs := Bk.rowSits.ext hs xb5; replace hd := hd.ext xb5; replace hrw := hrw.ext xb5; clear xb5; refine C1 Pa (C1 Pa (cN (C1 Pa (cN (C1 Pa (cT (cw_seq (cS (C1 Pg (C1 (Pl hb4) (cT ?_))))))))))); refine cw_block (cS (C1 V1 (C1 Pa (cT (Wna (cS (C1 V1 (C1 Pa (cT (Wyd (cS ?_))))))))))); refine C1 Mv (C1 Pf (C1 (Pl hb4) ?_)); refine cC rfl (HF.out _ _ _ _ (by omega) (by assumption)) ?_; rintro _ wb9 ⟨⟨⟩, xb8⟩; have zb10 := xb8.size; replace hb4 := hb4.ext xb8; replace X := X.ext xb8; replace hv := hv.ext xb8; replace hs := Bk.rowSits.ext hs xb8; replace hd := hd.ext xb8; replace hrw := hrw.ext xb8; clear xb8; refine C1 Pa (cT (cw_seq (cS (C1 Mv (C1 V3 (cT (Wno (cw_skip (qw_then (cw_seq ?_)))))))))); (refine cw_tdraw (fun wz => Ext wb9 wz) 9 (.pure 0 (.pure 1 (.pure 2 (.pure 3 (.pure 4 (.pure 5 (.pure 6 (.pure 7 (.pure 8 .tail))))))))) mixed (by kernel_rfl) (panicOk_then (panicOk_block (panicOk_then panicOk_body))) ?_; intro wb11 xb12 _); have qsb13 : (fun wz => Ext wb9 wz) wb11 := xb12; simp only at qsb13; have d_hb4 := hb4; have d_hv := hv; have d_hs := hs; have d_hd := hd; have d_hrw := hrw; have zb14 := xb12.size; replace hb4 := hb4.ext xb12; replace X := X.ext xb12; replace hv := hv.ext xb12; replace hs := Bk.rowSits.ext hs xb12; replace hd := hd.ext xb12
       replace hrw := hrw.ext xb12; clear xb12; refine ⟨qsb13, ?_⟩; refine Tq rfl Pf (Tq rfl (Db d_hb4) (Tq rfl Pz (Tq rfl Mv (Tq rfl Mv (Tq rfl Pi (Tq rfl Pf (Tq rfl (Dr d_hrw) (Tq rfl Pz ?_)))))))); clear qsb13 d_hb4 d_hv d_hs d_hd d_hrw; refine tw_tail rfl (C1 V2 (cT (Wyo (cS (C1 Pa (C1 Pa (cT (cw_ret (qw_block_ret (qw_then_ret (qw_ret2 rfl rfl rfl ?_))))))))))); rotate_left 1
      exact ⟨rfl, X⟩
   by_cases k4 : k = 84
   · subst k4
     cases hsn : seen (visR vars) s with
     | none => exact absurd (by simp [reachF, hsn]) hr
     | some b =>
      rw [show reachF lib (visR vars) 84 s l.length = 22 from by simp [reachF, hsn]]; have HV := Lib.hid (gVis_v (seenB_some hsn)); clear hsn hr; refine calls_in Tryz.func48 Tryz.ntmps48 rfl rfl ?_
      focus
       refine cS ?_; (refine lw_box' [_, _, _, _] rfl rfl rfl ?_; intro bc1 wc2 nc3); have hc4 := nc3.blk; have xc5 := nc3.ext; have pc6 := nc3.pos; have zc7 := nc3.size; clear nc3; replace X := X.ext xc5; replace hd := hd.ext xc5; replace hv := hv.ext xc5; replace hs := Bk.rowSits.ext hs xc5; clear xc5; refine C1 Pa (C1 Pa (cN (C1 Pa (cN (C1 Pa (cT (cw_seq (cS (C1 Pg (C1 (Pl hc4) (cT ?_))))))))))); refine cw_block (cS (C1 V1 (C1 Pa (cT (Wna (cS (C1 V1 (C1 Pa (cT (Wna (cS ?_))))))))))); refine C1 V1 (C1 Pa (cT (Wyd (cS (C1 Mv (C1 Pf (C1 (Pl hc4) ?_))))))); refine cC rfl (HV.out _ _ _ _ (by omega) (by assumption)) ?_; rintro _ wc9 ⟨⟨⟩, xc8⟩; have zc10 := xc8.size; replace hc4 := hc4.ext xc8; replace X := X.ext xc8; replace hd := hd.ext xc8; replace hv := hv.ext xc8; replace hs := Bk.rowSits.ext hs xc8; clear xc8; refine C1 Mv (C1 Px (C1 Px (C1 Pa (C1 Pa (cN (C1 Mv (cT (cw_cond_t rfl (cS (C1 Pa (C1 Pa ?_))))))))))); refine cT (cw_ret (qw_block_ret (qw_then_ret (qw_ret2 rfl rfl rfl ?_)))); rotate_left 1
      exact ⟨rfl, X⟩
   · exact absurd (by simp [reachF, k1, k5, k4]) hr
  have hchk : (Nd.mk k n s l).chk lib (visR vars) = if (rowChk lib (visR vars) k s [] l).2 ≠ 0 then (false, (rowChk lib (visR vars) k s [] l).2) else if k = 81 then ((seen (visR vars) s).getD false, 0) else typeF lib k s (rowChk lib (visR vars) k s [] l).1 := by rw [Nd.chk, if_neg (by rw [hr]; simp)]
  rw [hchk]; clear hchk; have HZ := Lib.hid hr; clear hr; refine calls_in Tryz.func48 Tryz.ntmps48 rfl rfl ?_
  focus
   refine cS ?_; (refine lw_box' [_, _, _, _] rfl rfl rfl ?_; intro bd1 wd2 nd3); have hd4 := nd3.blk; have xd5 := nd3.ext; have pd6 := nd3.pos; have zd7 := nd3.size; clear nd3; replace X := X.ext xd5; replace hd := hd.ext xd5; replace hv := hv.ext xd5; replace hs := Bk.rowSits.ext hs xd5; clear xd5; refine C1 Pa (C1 Pa (cN (C1 Pa (cN (C1 Pa (cT (cw_seq (cS (C1 Pg (C1 (Pl hd4) (cT ?_))))))))))); rotate_left 1
  refine cw_meetG (ι := Int × Bool) (fun y => [(0, .slice la lib.length lc), (1, .slice va vars.length vc), (5, .pointer (some ⟨bd1, 0, none⟩)), (8, .int .i64 y.1), (9, .bool y.2)])
   (fun y w' => FDs (· < w.heap.size) w' lib la ∧ FPs (· < w.heap.size) w' vars va ∧ rowSits (· < w.heap.size) w' l a ∧ Blk w' bd1 [.int .u8 k, .int .i64 n, str s, .slice a l.length c] ∧ Ext w w' ∧ bd1 < w'.heap.size ∧ (k = 81 → seen (visR vars) s = some y.2) ∧ (k = 85 → ∃ i : Nat, y.1 = i ∧ findF lib s = some i ∧ ∃ h : i < lib.length, l.length = lib[i].params.length)) ?_ ?_
  · by_cases k1 : k = 81
    · subst k1
      obtain ⟨b, hb⟩ := reach_81 HZ.out; have HV := Lib.hid (gVis_v (seenB_some hb)); have HB := Lib.hid hb; clear hb
      focus
       refine cw_block (cS (C1 V1 (C1 Pa (cT (Wyd (cS (C1 Mv (C1 Pf (C1 (Pl hd4) ?_))))))))); refine cC rfl (HV.out _ _ _ _ (by omega) (by assumption)) ?_; rintro _ we2 ⟨⟨⟩, xe1⟩; have ze3 := xe1.size; replace X := X.ext xe1; replace hd := hd.ext xe1; replace hv := hv.ext xe1; replace hs := Bk.rowSits.ext hs xe1; replace hd4 := hd4.ext xe1; clear xe1; refine C1 Mv (C1 Px (C1 Px (C1 Pa (C1 Pa (cT (cw_seq (cS (C1 Mv (C1 Pt (cT (cw_cond_f rfl ?_))))))))))); refine cw_skip (qw_then (cw_region (C1 Mv (C1 Pa (lw_nil (qw_block_norm ?_)))))); rotate_left 1
      exact qw_meet (-1, b) (by (refine sub_cons rfl ?_; refine sub_cons rfl ?_; refine sub_cons rfl ?_; refine sub_cons rfl ?_; refine sub_cons rfl ?_; exact sub_nil)) ⟨hd, hv, hs, by assumption, X, by omega, fun _ => HB.out, fun h => absurd h (by decide)⟩
    by_cases k5 : k = 85
    · subst k5
      obtain ⟨i, hf⟩ := reach_85 HZ.out; have hil := findF_lt hf
      have hlen : l.length = lib[i].params.length := by
       have := HZ.out
       simp [reachF, hf, List.getElem?_eq_getElem hil] at this
       exact this
      have HF := Lib.hid (gFind_v (findI_some hf)); have HB := Lib.hid (show ∃ h : i < lib.length, l.length = lib[i].params.length from ⟨hil, hlen⟩); have HB2 := Lib.hid hf; have hd2 := hd; obtain ⟨kb, ko, rfl, -, hk⟩ := Arr.get hd2 (by omega); obtain ⟨pa, pc, ba, bc, hrw, -, -⟩ := hk i lib[i] (List.getElem?_eq_getElem hil); clear hk hd2 hf
      generalize lib[i] = x at *
      simp only [FD.cells] at hrw
      focus
       refine cw_block (cS (C1 V1 (C1 Pa (cT (Wna (cS (C1 V1 (C1 Pa (cT (Wyd (cS ?_))))))))))); refine C1 Mv (C1 Pf (C1 (Pl hd4) ?_)); refine cC rfl (HF.out _ _ _ _ (by omega) (by assumption)) ?_; rintro _ wf2 ⟨⟨⟩, xf1⟩; have zf3 := xf1.size; replace X := X.ext xf1; replace hv := hv.ext xf1; replace hs := Bk.rowSits.ext hs xf1; replace hd4 := hd4.ext xf1; replace hd := hd.ext xf1; replace hrw := hrw.ext xf1; clear xf1; refine C1 Pa (cT (cw_seq (cS (C1 Mv (C1 V3 (cT (Wno (cw_skip (qw_then (cw_seq ?_)))))))))); (refine cw_tdraw (fun wz => Ext wf2 wz) 9 (.pure 0 (.pure 1 (.pure 2 (.pure 3 (.pure 4 (.pure 5 (.pure 6 (.pure 7 (.pure 8 .tail))))))))) mixed (by kernel_rfl) (panicOk_then (panicOk_block (panicOk_then panicOk_body))) ?_; intro wf4 xf5 _); have qsf6 : (fun wz => Ext wf2 wz) wf4 := xf5; simp only at qsf6; have d_hv := hv; have d_hs := hs; have d_hd4 := hd4; have d_hd := hd; have d_hrw := hrw; have zf7 := xf5.size; replace X := X.ext xf5; replace hv := hv.ext xf5; replace hs := Bk.rowSits.ext hs xf5; replace hd4 := hd4.ext xf5; replace hd := hd.ext xf5; replace hrw := hrw.ext xf5; clear xf5; refine ⟨qsf6, ?_⟩; refine Tq rfl Pf (Tq rfl (Db d_hd4) (Tq rfl Pz (Tq rfl Mv (Tq rfl Mv (Tq rfl Pi (Tq rfl Pf (Tq rfl (Dr d_hrw) (Tq rfl Pz ?_)))))))); clear qsf6 d_hv d_hs d_hd4 d_hd d_hrw; refine tw_tail rfl (C1 V2 (cT (Wno (cw_skip (qw_block_norm ?_))))); rotate_left 1
      exact qw_meet ((i : Int), false) (by (refine sub_cons rfl ?_; refine sub_cons rfl ?_; refine sub_cons rfl ?_; refine sub_cons rfl ?_; refine sub_cons rfl ?_; exact sub_nil)) ⟨hd, hv, hs, by assumption, X, by omega, fun h => absurd h (by decide), fun _ => ⟨i, rfl, HB2.out, HB.out⟩⟩
    by_cases k4 : k = 84
    · subst k4
      have hsn := reach_84 HZ.out; have HV := Lib.hid (gVis_v (seenB_none hsn)); clear hsn
      focus
       refine cw_block (cS (C1 V1 (C1 Pa (cT (Wna (cS (C1 V1 (C1 Pa (cT (Wna (cS ?_))))))))))); refine C1 V1 (C1 Pa (cT (Wyd (cS (C1 Mv (C1 Pf (C1 (Pl hd4) ?_))))))); refine cC rfl (HV.out _ _ _ _ (by omega) (by assumption)) ?_; rintro _ wg2 ⟨⟨⟩, xg1⟩; have zg3 := xg1.size; replace X := X.ext xg1; replace hd := hd.ext xg1; replace hv := hv.ext xg1; replace hs := Bk.rowSits.ext hs xg1; replace hd4 := hd4.ext xg1; clear xg1; refine C1 Mv (C1 Px (C1 Px (C1 Pa (C1 Pa (cN (C1 Mv (cT (cw_cond_f rfl (cw_skip (qw_block_norm ?_)))))))))); rotate_left 1
      exact qw_meet (-1, false) (by (refine sub_cons rfl ?_; refine sub_cons rfl ?_; refine sub_cons rfl ?_; refine sub_cons rfl ?_; refine sub_cons rfl ?_; exact sub_nil)) ⟨hd, hv, hs, by assumption, X, by omega, fun h => absurd h (by decide), fun h => absurd h (by decide)⟩
    · focus
       refine cw_block (cS (C1 V1 (C1 Pa (cT (Wna (cS (C1 V1 (C1 Pa (cT (Wna (cS ?_))))))))))); refine C1 V1 (C1 Pa (cT (Wna (cw_skip (qw_block_norm ?_))))); rotate_left 1
      exact qw_meet (-1, false) (by (refine sub_cons rfl ?_; refine sub_cons rfl ?_; refine sub_cons rfl ?_; refine sub_cons rfl ?_; refine sub_cons rfl ?_; exact sub_nil)) ⟨hd, hv, hs, by assumption, X, by omega, fun h => absurd h k1, fun h => absurd h k5⟩
  · clear hd4 hd hv hs X zd7
    rintro ⟨f, own⟩ w1 ⟨hd, hv, hs, hb1, X, hz, h81, h85⟩; simp only at h81 h85; have HA := Lib.hid h81; have HB := Lib.hid h85; clear h81 h85; refine CW.sub (m := [(0, .slice la lib.length lc), (1, .slice va vars.length vc), (5, .pointer (some ⟨bd1, 0, none⟩)), (8, .int .i64 f), (9, .bool own)]) ?_ (by (refine sub_cons rfl ?_; refine sub_cons rfl ?_; refine sub_cons rfl ?_; refine sub_cons rfl ?_; refine sub_cons rfl ?_; exact sub_nil))
    focus
     refine cS (C1 Pa (cT (cw_seq (cS (C1 Pa (cT (cw_block ?_))))))); rotate_left 1
    refine cw_loop (ι := List Bool × Option Addr × Nat) (fun y => [(0, .slice la lib.length lc), (1, .slice va vars.length vc), (5, .pointer (some ⟨bd1, 0, none⟩)), (8, .int .i64 f), (9, .bool own), (14, .slice y.2.1 y.1.length y.2.2), (15, .int .i64 y.1.length)])
     (fun y w' => FDs (· < w.heap.size) w' lib la ∧ FPs (· < w.heap.size) w' vars va ∧ rowSits (· < w.heap.size) w' l a ∧ Blk w' bd1 [.int .u8 k, .int .i64 n, str s, .slice a l.length c] ∧ OwnQ boolShape w' (fun _ => False) (bd1 + 1) 4 (.slice y.2.1 y.1.length y.2.2) y.1 ∧ Ext w w' ∧ bd1 < w'.heap.size ∧ y.1.length ≤ l.length ∧ rowChk lib (visR vars) k s [] l = rowChk lib (visR vars) k s y.1 (l.drop y.1.length)) (fun y => l.length - y.1.length) ([], none, 0) (by (refine sub_cons rfl ?_; refine sub_cons rfl ?_; refine sub_cons rfl ?_; refine sub_cons rfl ?_; refine sub_cons rfl ?_; refine sub_cons rfl ?_; refine sub_cons rfl ?_; exact sub_nil))
     ⟨hd, hv, hs, hb1, OwnQ.nil, X, hz, Nat.zero_le _, rfl⟩ ?_
    clear hd hv hs hb1 X hz; rintro ⟨acc, oa, oc⟩ w2 ⟨hd, hv, hs, hb1, hown, X, hz, hj, he⟩; simp only at hown hj he; have HE := Lib.hid he; clear he
    have hob : ∀ g, (Value.slice oa acc.length oc).ownBlock = some g → bd1 + 1 ≤ g ∧ g < w2.heap.size := fun g h => ⟨hown.ge h, hown.lt h⟩
    refine CW.sub (m := [(0, .slice la lib.length lc), (1, .slice va vars.length vc), (5, .pointer (some ⟨bd1, 0, none⟩)), (8, .int .i64 f), (9, .bool own), (14, .slice oa acc.length oc), (15, .int .i64 acc.length)]) ?_ (by (refine sub_cons rfl ?_; refine sub_cons rfl ?_; refine sub_cons rfl ?_; refine sub_cons rfl ?_; refine sub_cons rfl ?_; refine sub_cons rfl ?_; refine sub_cons rfl ?_; exact sub_nil))
    by_cases hlt : acc.length < l.length
    · have hs2 := hs
      obtain ⟨kb, ko, rfl, hkS, hkid⟩ := kidRows hs2 (by intro e; subst e; simp at hlt); obtain ⟨xa, xc, rx, sx⟩ := hkid acc.length l[acc.length] (List.getElem?_eq_getElem hlt); have hsz := size_mem (List.getElem_mem hlt); have hxw := HW.out _ (List.getElem_mem hlt); have hxf := HK.out _ (List.getElem_mem hlt); have he := HE.out; rw [List.drop_eq_getElem_cons hlt, rowChk_cons] at he; clear hkid HE hs2
      generalize l[acc.length] = x at *
      have hvr := fps_rows hv; have hfl := fps_flat_len vars; have hfo := fps_flat_one vars
      by_cases hb : k = 84 ∧ acc.length = 1
      · obtain ⟨hk, hj1⟩ := hb
        rw [if_pos (show k = 84 ∧ acc.length = 1 from ⟨hk, hj1⟩)] at he
        obtain ⟨b0, rfl⟩ : ∃ b0, acc = [b0] := by
         match acc, hj1 with
         | [b0], _ => exact ⟨b0, rfl⟩
         | [], h => simp at h
         | _ :: _ :: _, h => simp at h
        simp only [List.getD_cons_zero] at he; have HX := Lib.hid (fun (SL SV S : Nat → Prop) (la va a : Option Addr) (lc vc c : Nat) (w : World) h1 h2 h3 => Calls.mono (IH.out x (vars ++ [(⟨s, b0⟩ : FP)]) SL SV S la va a lc vc c w (by omega) (by omega) (by simp only [List.length_append, List.length_cons, List.length_nil]; omega) hxw hxf h1 h2 h3) (fun e w' h => (h : e = .returned (.tuple #[.bool (x.chk lib (visR (vars ++ [(⟨s, b0⟩ : FP)]))).1, .int .i64 (x.chk lib (visR (vars ++ [(⟨s, b0⟩ : FP)]))).2]) ∧ Ext w w'))); rw [visR_snoc] at HX
        generalize x.chk lib ((s, b0) :: visR vars) = q at *
        obtain ⟨qb, qe⟩ := q; dsimp only at he HX; clear hxw hxf; have hels := hown.els (S := fun b => bd1 + 1 ≤ b ∧ b < w2.heap.size) (fun _ h h' => ⟨h, h'⟩); obtain ⟨gb, go, rfl, ⟨hg1, hg2⟩, hgk⟩ := Arr.get hels (by simp); have rg := hgk 0 b0 rfl; clear hels hgk
        focus
         refine cw_seq (cS (C1 Mv (C1 Pf (C1 (Pl hb1) (C1 Pz (C1 V3 (cT (Wyo (cw_skip (qw_then (cw_seq ?_))))))))))); refine cw_block (cS ?_); refine lw_does (does_slice0F (B := w2.heap.size) tabOk rfl rfl (by omega)) rfl ?_ (fun _ h => h); rintro _ wj6 ⟨gj1, ⟨rfl, ⟨hj2, ⟨hj3, ⟨hj4, xj5⟩⟩⟩⟩⟩; have zj7 := xj5.size; replace hd := hd.ext xj5; replace hv := hv.ext xj5; replace X := X.ext xj5; replace hs := Bk.rowSits.ext hs xj5; replace hb1 := hb1.ext xj5; replace sx := Nd.sits.ext sx xj5; replace hvr := hvr.ext xj5; replace rx := rx.ext xj5; replace hown := hown.ext xj5; replace rg := rg.ext xj5; clear xj5; refine C1 Mv ?_; refine lw_does (does_appendF tabOk zOk rfl rfl rfl rfl (by kernel_rfl) rfl rfl rfl (by assumption) hvr hfl hfo (by omega)) rfl ?_ (fun _ h => h); rintro _ wj14 ⟨g'j8, ⟨cap'j9, ⟨rfl, ⟨hj10, ⟨hj11, ⟨hj12, fj13⟩⟩⟩⟩⟩⟩; have zj15 := fj13.size; clear hj2; replace hd := hd.fr fj13 (by omega); replace hv := hv.fr fj13 (by omega); replace X := X.fr fj13 (by omega); replace hs := Bk.rowSits.fr hs fj13 (by omega); replace hb1 := hb1.fr fj13 (by omega); replace sx := Nd.sits.fr sx fj13 (by omega); replace hvr := hvr.fr fj13 (by omega); replace rx := Row.fr rx fj13 (by simp only; omega); replace hown := OwnQ.fr hown fj13 (fun k hk => ⟨fun h => h.elim, fun e => by have := hob _ e; (try dsimp only at hk); omega⟩); replace rg := Row.fr rg fj13 (by simp only; omega); clear fj13; refine C1 Pa (cT (cw_seq (cS (C1 Pg (C1 (Pl hb1) (C1 V1 (C1 Mv (Gya (C1 Mv (Gya (C1 V1 ?_)))))))))))
         refine C1 Qya (cT (Wyo ?_)); (refine cw_tdraw (fun wz => Ext wj14 wz) 8 (.pure 0 (.pure 1 (.pure 2 (.pure 3 (.pure 4 (.pure 5 (.pure 6 (.fork 7 .tail .none)))))))) mixed (by kernel_rfl) (panicOk_then (panicOk_block (panicOk_then (panicOk_then (panicOk_block (panicOk_then panicOk_body)))))) ?_; intro wj16 xj17 _); have qsj18 : (fun wz => Ext wj14 wz) wj16 := xj17; simp only at qsj18; have d_hj10 := hj10; have d_hd := hd; have d_hv := hv; have d_hs := hs; have d_hb1 := hb1; have d_sx := sx; have d_hvr := hvr; have d_rx := rx; have d_hown := hown; have d_rg := rg; have zj19 := xj17.size; replace hj10 := hj10.ext xj17; replace hd := hd.ext xj17; replace hv := hv.ext xj17; replace X := X.ext xj17; replace hs := Bk.rowSits.ext hs xj17; replace hb1 := hb1.ext xj17; replace sx := Nd.sits.ext sx xj17; replace hvr := hvr.ext xj17; replace rx := rx.ext xj17; replace hown := hown.ext xj17; replace rg := rg.ext xj17; clear xj17; refine ⟨qsj18, ?_⟩; refine Tq rfl Mv (Tq rfl Pf (Tq rfl (Db d_hb1) (Tq rfl Mv (Tq rfl Pi (Tq rfl (Dr d_rg) (Tq rfl (pur_build' [_, _] tabOk zOk rfl rfl rfl rfl) ?_)))))); (refine tw_does rfl (does_slice' [_, _] tabOk zOk rfl rfl rfl rfl rfl rfl rfl rfl rfl) rfl ?_ (fun _ h => h) tw_none; rintro _ wj22 ⟨bj21, rfl, nj23, tj24⟩); clear tj24; have hj25 := nj23.blk; have xj26 := nj23.ext; have pj27 := nj23.pos; have zj28 := nj23.size; clear nj23; replace qsj18 := qsj18.ext xj26; replace hj10 := hj10.ext xj26; replace hd := hd.ext xj26; replace hv := hv.ext xj26
         replace X := X.ext xj26; replace hs := Bk.rowSits.ext hs xj26; replace hb1 := hb1.ext xj26; replace sx := Nd.sits.ext sx xj26; replace hvr := hvr.ext xj26; replace rx := rx.ext xj26; replace hown := hown.ext xj26; replace rg := rg.ext xj26; clear xj26; refine ⟨qsj18, ?_⟩; clear d_hj10 d_hd d_hv d_hs d_hb1 d_sx d_hvr d_rx d_hown d_rg qsj18; refine tw_tail rfl ?_; rotate_left 1
        have hr1 : Rows (· = bj21) wj22 (FP.cells ⟨s, b0⟩) (some ⟨bj21, 0, none⟩) := Or.inr ⟨bj21, 0, rfl, rfl, hj25.row⟩; clear hvr hj25
        focus
         refine lw_does (does_appendF (ds := FP.cells ⟨s, b0⟩) tabOk zOk rfl rfl rfl rfl (by kernel_rfl) rfl rfl rfl (by assumption) hr1 rfl rfl (by omega)) rfl ?_ (fun _ h => h); rintro _ wk7 ⟨g'k1, ⟨cap'k2, ⟨rfl, ⟨hk3, ⟨hk4, ⟨hk5, fk6⟩⟩⟩⟩⟩⟩; have zk8 := fk6.size; clear hj10; replace hd := hd.fr fk6 (by omega); replace hv := hv.fr fk6 (by omega); replace X := X.fr fk6 (by omega); replace hs := Bk.rowSits.fr hs fk6 (by omega); replace hb1 := hb1.fr fk6 (by omega); replace sx := Nd.sits.fr sx fk6 (by omega); replace rx := Row.fr rx fk6 (by simp only; omega); replace hown := OwnQ.fr hown fk6 (fun k hk => ⟨fun h => h.elim, fun e => by have := hob _ e; (try dsimp only at hk); omega⟩); replace rg := Row.fr rg fk6 (by simp only; omega); replace hr1 := hr1.fr fk6 (by omega); clear fk6; refine C1 Pa (cT ?_); rotate_left 1
        have hin := inner_fps1 hk3; refine CW.sub (m := [(0, .slice la lib.length lc), (1, .slice va vars.length vc), (5, .pointer (some ⟨bd1, 0, none⟩)), (8, .int .i64 f), (9, .bool own), (14, .slice (some ⟨gb, go, none⟩) [b0].length oc), (15, .int .i64 [b0].length), (16, .slice (some ⟨g'k1, 0, none⟩) (vars ++ [(⟨s, b0⟩ : FP)]).length cap'k2)]) ?_ (by refine sub_cons rfl (sub_cons rfl (sub_cons rfl (sub_cons rfl (sub_cons rfl (sub_cons rfl (sub_cons rfl (sub_cons' rfl (by rw [Nat.zero_add, List.length_append]; rfl) ?_))))))); (exact sub_nil)); clear hr1 rg
        by_cases hqe : qe = 0
        · subst hqe
          rw [if_neg (by simp)] at he; have HE := Lib.hid he; clear he
          focus
           refine cS (C1 Mv (C1 Mv (C1 Pf (C1 (Pl hb1) (C1 Mv (C1 Pi (C1 (Pws rx) ?_))))))); refine cC rfl (HX.out _ _ _ _ _ _ _ _ _ _ (by assumption) hin (by assumption)) ?_; rintro _ wl2 ⟨⟨⟩, xl1⟩; have zl3 := xl1.size; replace hk3 := hk3.ext xl1; replace hd := hd.ext xl1; replace hv := hv.ext xl1; replace X := X.ext xl1; replace hs := Bk.rowSits.ext hs xl1; replace hb1 := hb1.ext xl1; replace sx := Nd.sits.ext sx xl1; replace rx := rx.ext xl1; replace hown := hown.ext xl1; replace hin := hin.ext xl1; clear xl1; refine C1 Mv (C1 Px (C1 Px (C1 Pa (C1 Pa (cT (cw_seq (cS (C1 Mv (C1 V2 (cT (Wno ?_))))))))))); refine cw_skip (qw_then (cw_region (C1 Mv (C1 Mv ?_)))); (refine lw_does (does_slice' [_] tabOk zOk rfl rfl rfl rfl rfl rfl rfl rfl rfl) rfl ?_ (fun _ h => h); rintro _ wl5 ⟨bl4, rfl, nl6, tl7⟩); clear tl7; have hl8 := nl6.blk; dsimp only at hl8; have xl9 := nl6.ext; have pl10 := nl6.pos; have zl11 := nl6.size; clear nl6; replace hk3 := hk3.ext xl9; replace hd := hd.ext xl9; replace hv := hv.ext xl9; replace X := X.ext xl9; replace hs := Bk.rowSits.ext hs xl9; replace hb1 := hb1.ext xl9; replace sx := Nd.sits.ext sx xl9; replace rx := rx.ext xl9; replace hown := hown.ext xl9; replace hin := hin.ext xl9; clear xl9; refine lw_appendQ (R := fun _ => False) (sh := boolShape) (z := qb) tabOk zOk rfl rfl rfl rfl (by kernel_rfl) rfl rfl rfl (by assumption) (fun _ h => by exact h) (Blk.row (by assumption)) rfl (by omega) (by omega) rfl ?_; rintro gl12 cap'l13 wl14 hl15 hl16 hl17 fl18
           have zl19 := fl18.size; replace hl8 := Blk.fr hl8 fl18 (fun e => by have := hob _ e; omega); replace hk3 := OwnF.fr hk3 fl18 (fun k hk => by have := hob _ hk; omega); replace hd := FDs.fr hd fl18 (fun b hb hT => by have := hob _ hT; (try dsimp only at hb); omega); replace hv := FPs.fr hv fl18 (fun b hb hT => by have := hob _ hT; (try dsimp only at hb); omega); replace X := Ext.fr X fl18 (fun k hk => by have := hob _ hk; omega); replace hs := Bk.rowSits.fr hs fl18 (fun b hb hT => by have := hob _ hT; (try dsimp only at hb); omega); replace hb1 := Blk.fr hb1 fl18 (fun e => by have := hob _ e; omega); replace sx := Nd.sits.fr sx fl18 (fun b hb hT => by have := hob _ hT; (try dsimp only at hb); omega); replace rx := Row.fr rx fl18 (fun e => by simp only [Go.Value.ownBlock, Option.some.injEq] at e; omega); clear hown; replace hin := FPs.fr hin fl18 (fun b hb hT => by have := hob _ hT; (try dsimp only at hb); omega); clear fl18; refine C1 Pa (lw_nil (qw_block_norm (qw_then (cw_region (C1 Mv (C1 V7 (C1 Pa (lw_nil ?_)))))))); rotate_left 1
          refine qw_round ([b0] ++ [qb], some ⟨_, 0, none⟩, _) (by refine sub_cons rfl (sub_cons rfl (sub_cons rfl (sub_cons rfl (sub_cons rfl (sub_cons rfl (sub_cons' rfl (by simp) ?_)))))); (exact sub_nil)) ⟨hd, hv, hs, hb1, by assumption, X, by omega, by simp only [List.length_append, List.length_cons, List.length_nil]; omega, by simp only [List.length_append, List.length_cons, List.length_nil]; exact HE.out⟩ (by simp only [List.length_append, List.length_cons, List.length_nil]; omega)
        · rw [if_pos hqe] at he
          have HE := Lib.hid he; clear he
          focus
           refine cS (C1 Mv (C1 Mv (C1 Pf (C1 (Pl hb1) (C1 Mv (C1 Pi (C1 (Pws rx) ?_))))))); refine cC rfl (HX.out _ _ _ _ _ _ _ _ _ _ (by assumption) hin (by assumption)) ?_; rintro _ wm2 ⟨⟨⟩, xm1⟩; have zm3 := xm1.size; replace hk3 := hk3.ext xm1; replace hd := hd.ext xm1; replace hv := hv.ext xm1; replace X := X.ext xm1; replace hs := Bk.rowSits.ext hs xm1; replace hb1 := hb1.ext xm1; replace sx := Nd.sits.ext sx xm1; replace rx := rx.ext xm1; replace hown := hown.ext xm1; replace hin := hin.ext xm1; clear xm1; refine C1 Mv (C1 Px (C1 Px (C1 Pa (C1 Pa (cT (cw_seq (cS (C1 Mv (C1 V2 (cT (Wya ?_))))))))))); refine cS (C1 Mv (C1 Pa (C1 Pa (cT (cw_ret (qw_then_ret (qw_block_ret (qw_then_ret (qw_then_ret (qw_block_ret (qw_then_ret ?_))))))))))); refine qw_ret2 rfl rfl rfl ?_; rotate_left 1
          exact chkR_err HE.out hqe X
      · rw [if_neg hb] at he
        have HX := Lib.hid (fun (SL SV S : Nat → Prop) (la va a : Option Addr) (lc vc c : Nat) (w : World) h1 h2 h3 => Calls.mono (IH.out x vars SL SV S la va a lc vc c w (by omega) (by omega) (by omega) hxw hxf h1 h2 h3) (fun e w' h => (h : e = .returned (.tuple #[.bool (x.chk lib (visR vars)).1, .int .i64 (x.chk lib (visR vars)).2]) ∧ Ext w w')))
        generalize x.chk lib (visR vars) = q at *
        obtain ⟨qb, qe⟩ := q; dsimp only at he HX
        have hb' : k = 84 → ¬ acc.length = 1 := fun h1 h2 => hb ⟨h1, h2⟩
        clear hb hxw hxf
        by_cases hk : k = 84
        · have hj1 := hb' hk
          clear hb'
          focus
           refine cw_seq (cS (C1 Mv (C1 Pf (C1 (Pl hb1) (C1 Pz (C1 V3 (cT (Wyo (cw_skip (qw_then (cw_seq ?_))))))))))); refine cw_block (cS ?_); refine lw_does (does_slice0F (B := w2.heap.size) tabOk rfl rfl (by omega)) rfl ?_ (fun _ h => h); rintro _ wn6 ⟨gn1, ⟨rfl, ⟨hn2, ⟨hn3, ⟨hn4, xn5⟩⟩⟩⟩⟩; have zn7 := xn5.size; replace hd := hd.ext xn5; replace hv := hv.ext xn5; replace hown := hown.ext xn5; replace X := X.ext xn5; replace hs := Bk.rowSits.ext hs xn5; replace hb1 := hb1.ext xn5; replace rx := rx.ext xn5; replace sx := Nd.sits.ext sx xn5; replace hvr := hvr.ext xn5; clear xn5; refine C1 Mv ?_; refine lw_does (does_appendF tabOk zOk rfl rfl rfl rfl (by kernel_rfl) rfl rfl rfl (by assumption) hvr hfl hfo (by omega)) rfl ?_ (fun _ h => h); rintro _ wn14 ⟨g'n8, ⟨cap'n9, ⟨rfl, ⟨hn10, ⟨hn11, ⟨hn12, fn13⟩⟩⟩⟩⟩⟩; have zn15 := fn13.size; clear hn2; replace hd := hd.fr fn13 (by omega); replace hv := hv.fr fn13 (by omega); replace hown := OwnQ.fr hown fn13 (fun k hk => ⟨fun h => h.elim, fun e => by have := hob _ e; (try dsimp only at hk); omega⟩); replace X := X.fr fn13 (by omega); replace hs := Bk.rowSits.fr hs fn13 (by omega); replace hb1 := hb1.fr fn13 (by omega); replace rx := Row.fr rx fn13 (by simp only; omega); replace sx := Nd.sits.fr sx fn13 (by omega); replace hvr := hvr.fr fn13 (by omega); clear fn13; refine C1 Pa (cT (cw_seq (cS (C1 Pg (C1 (Pl hb1) (C1 V1 (C1 Mv (Gya (C1 Mv (Gya (C1 V1 ?_))))))))))); refine C1 Qya (cT (Wno (cw_skip (qw_then ?_)))); rotate_left 1
          have hin := inner_fps hn10; refine CW.sub (m := [(0, .slice la lib.length lc), (1, .slice va vars.length vc), (5, .pointer (some ⟨bd1, 0, none⟩)), (8, .int .i64 f), (9, .bool own), (14, .slice oa acc.length oc), (15, .int .i64 acc.length), (16, .slice (some ⟨g'n8, 0, none⟩) vars.length cap'n9)]) ?_ (by refine sub_cons rfl (sub_cons rfl (sub_cons rfl (sub_cons rfl (sub_cons rfl (sub_cons rfl (sub_cons rfl (sub_cons' rfl (by rw [Nat.zero_add]) ?_))))))); (exact sub_nil)); clear hvr
          by_cases hqe : qe = 0
          · subst hqe
            rw [if_neg (by simp)] at he; have HE := Lib.hid he; clear he
            focus
             refine cS (C1 Mv (C1 Mv (C1 Pf (C1 (Pl hb1) (C1 Mv (C1 Pi (C1 (Pws rx) ?_))))))); refine cC rfl (HX.out _ _ _ _ _ _ _ _ _ _ (by assumption) (by assumption) (by assumption)) ?_; rintro _ wo2 ⟨⟨⟩, xo1⟩; have zo3 := xo1.size; replace hn10 := hn10.ext xo1; replace hd := hd.ext xo1; replace hv := hv.ext xo1; replace hown := hown.ext xo1; replace X := X.ext xo1; replace hs := Bk.rowSits.ext hs xo1; replace hb1 := hb1.ext xo1; replace rx := rx.ext xo1; replace sx := Nd.sits.ext sx xo1; replace hin := hin.ext xo1; clear xo1; refine C1 Mv (C1 Px (C1 Px (C1 Pa (C1 Pa (cT (cw_seq (cS (C1 Mv (C1 V2 (cT (Wno ?_))))))))))); refine cw_skip (qw_then (cw_region (C1 Mv (C1 Mv ?_)))); (refine lw_does (does_slice' [_] tabOk zOk rfl rfl rfl rfl rfl rfl rfl rfl rfl) rfl ?_ (fun _ h => h); rintro _ wo5 ⟨bo4, rfl, no6, to7⟩); clear to7; have ho8 := no6.blk; dsimp only at ho8; have xo9 := no6.ext; have po10 := no6.pos; have zo11 := no6.size; clear no6; replace hn10 := hn10.ext xo9; replace hd := hd.ext xo9; replace hv := hv.ext xo9; replace hown := hown.ext xo9; replace X := X.ext xo9; replace hs := Bk.rowSits.ext hs xo9; replace hb1 := hb1.ext xo9; replace rx := rx.ext xo9; replace sx := Nd.sits.ext sx xo9; replace hin := hin.ext xo9; clear xo9; refine lw_appendQ (R := fun _ => False) (sh := boolShape) (z := qb) tabOk zOk rfl rfl rfl rfl (by kernel_rfl) rfl rfl rfl (by assumption) (fun _ h => by exact h) (Blk.row (by assumption)) rfl (by omega) (by omega) rfl ?_; rintro go12 cap'o13 wo14 ho15 ho16 ho17 fo18
             have zo19 := fo18.size; replace ho8 := Blk.fr ho8 fo18 (fun e => by have := hob _ e; omega); replace hn10 := OwnF.fr hn10 fo18 (fun k hk => by have := hob _ hk; omega); replace hd := FDs.fr hd fo18 (fun b hb hT => by have := hob _ hT; (try dsimp only at hb); omega); replace hv := FPs.fr hv fo18 (fun b hb hT => by have := hob _ hT; (try dsimp only at hb); omega); clear hown; replace X := Ext.fr X fo18 (fun k hk => by have := hob _ hk; omega); replace hs := Bk.rowSits.fr hs fo18 (fun b hb hT => by have := hob _ hT; (try dsimp only at hb); omega); replace hb1 := Blk.fr hb1 fo18 (fun e => by have := hob _ e; omega); clear rx; replace sx := Nd.sits.fr sx fo18 (fun b hb hT => by have := hob _ hT; (try dsimp only at hb); omega); replace hin := FPs.fr hin fo18 (fun b hb hT => by have := hob _ hT; (try dsimp only at hb); omega); clear fo18; refine C1 Pa (lw_nil (qw_block_norm (qw_then (cw_region (C1 Mv (C1 V7 (C1 Pa (lw_nil ?_)))))))); rotate_left 1
            refine qw_round (acc ++ [qb], some ⟨_, 0, none⟩, _) (by refine sub_cons rfl (sub_cons rfl (sub_cons rfl (sub_cons rfl (sub_cons rfl (sub_cons rfl (sub_cons' rfl (by simp) ?_)))))); (exact sub_nil)) ⟨hd, hv, hs, hb1, by assumption, X, by omega, by simp only [List.length_append, List.length_cons, List.length_nil]; omega, by simp only [List.length_append, List.length_cons, List.length_nil]; exact HE.out⟩ (by simp only [List.length_append, List.length_cons, List.length_nil]; omega)
          · rw [if_pos hqe] at he
            have HE := Lib.hid he; clear he
            focus
             refine cS (C1 Mv (C1 Mv (C1 Pf (C1 (Pl hb1) (C1 Mv (C1 Pi (C1 (Pws rx) ?_))))))); refine cC rfl (HX.out _ _ _ _ _ _ _ _ _ _ (by assumption) (by assumption) (by assumption)) ?_; rintro _ wp2 ⟨⟨⟩, xp1⟩; have zp3 := xp1.size; replace hn10 := hn10.ext xp1; replace hd := hd.ext xp1; replace hv := hv.ext xp1; replace hown := hown.ext xp1; replace X := X.ext xp1; replace hs := Bk.rowSits.ext hs xp1; replace hb1 := hb1.ext xp1; replace rx := rx.ext xp1; replace sx := Nd.sits.ext sx xp1; replace hin := hin.ext xp1; clear xp1; refine C1 Mv (C1 Px (C1 Px (C1 Pa (C1 Pa (cT (cw_seq (cS (C1 Mv (C1 V2 (cT (Wya ?_))))))))))); refine cS (C1 Mv (C1 Pa (C1 Pa (cT (cw_ret (qw_then_ret (qw_block_ret (qw_then_ret (qw_then_ret (qw_block_ret (qw_then_ret ?_))))))))))); refine qw_ret2 rfl rfl rfl ?_; rotate_left 1
            exact chkR_err HE.out hqe X
        · clear hb'
          focus
           refine cw_seq (cS (C1 Mv (C1 Pf (C1 (Pl hb1) (C1 Pz (C1 V3 (cT (Wyo (cw_skip (qw_then (cw_seq ?_))))))))))); refine cw_block (cS ?_); refine lw_does (does_slice0F (B := w2.heap.size) tabOk rfl rfl (by omega)) rfl ?_ (fun _ h => h); rintro _ wq6 ⟨gq1, ⟨rfl, ⟨hq2, ⟨hq3, ⟨hq4, xq5⟩⟩⟩⟩⟩; have zq7 := xq5.size; replace hd := hd.ext xq5; replace hv := hv.ext xq5; replace hown := hown.ext xq5; replace X := X.ext xq5; replace hs := Bk.rowSits.ext hs xq5; replace hb1 := hb1.ext xq5; replace rx := rx.ext xq5; replace sx := Nd.sits.ext sx xq5; replace hvr := hvr.ext xq5; clear xq5; refine C1 Mv ?_; refine lw_does (does_appendF tabOk zOk rfl rfl rfl rfl (by kernel_rfl) rfl rfl rfl (by assumption) hvr hfl hfo (by omega)) rfl ?_ (fun _ h => h); rintro _ wq14 ⟨g'q8, ⟨cap'q9, ⟨rfl, ⟨hq10, ⟨hq11, ⟨hq12, fq13⟩⟩⟩⟩⟩⟩; have zq15 := fq13.size; clear hq2; replace hd := hd.fr fq13 (by omega); replace hv := hv.fr fq13 (by omega); replace hown := OwnQ.fr hown fq13 (fun k hk => ⟨fun h => h.elim, fun e => by have := hob _ e; (try dsimp only at hk); omega⟩); replace X := X.fr fq13 (by omega); replace hs := Bk.rowSits.fr hs fq13 (by omega); replace hb1 := hb1.fr fq13 (by omega); replace rx := Row.fr rx fq13 (by simp only; omega); replace sx := Nd.sits.fr sx fq13 (by omega); replace hvr := hvr.fr fq13 (by omega); clear fq13; refine C1 Pa (cT (cw_seq (cS (C1 Pg (C1 (Pl hb1) (C1 V1 (C1 Mv (Ona (Ona (C1 Qna (cT ?_))))))))))); refine cw_cond_f rfl (cw_skip (qw_then ?_)); rotate_left 1
          have hin := inner_fps hq10; refine CW.sub (m := [(0, .slice la lib.length lc), (1, .slice va vars.length vc), (5, .pointer (some ⟨bd1, 0, none⟩)), (8, .int .i64 f), (9, .bool own), (14, .slice oa acc.length oc), (15, .int .i64 acc.length), (16, .slice (some ⟨g'q8, 0, none⟩) vars.length cap'q9)]) ?_ (by refine sub_cons rfl (sub_cons rfl (sub_cons rfl (sub_cons rfl (sub_cons rfl (sub_cons rfl (sub_cons rfl (sub_cons' rfl (by rw [Nat.zero_add]) ?_))))))); (exact sub_nil)); clear hvr
          by_cases hqe : qe = 0
          · subst hqe
            rw [if_neg (by simp)] at he; have HE := Lib.hid he; clear he
            focus
             refine cS (C1 Mv (C1 Mv (C1 Pf (C1 (Pl hb1) (C1 Mv (C1 Pi (C1 (Pws rx) ?_))))))); refine cC rfl (HX.out _ _ _ _ _ _ _ _ _ _ (by assumption) (by assumption) (by assumption)) ?_; rintro _ wr2 ⟨⟨⟩, xr1⟩; have zr3 := xr1.size; replace hq10 := hq10.ext xr1; replace hd := hd.ext xr1; replace hv := hv.ext xr1; replace hown := hown.ext xr1; replace X := X.ext xr1; replace hs := Bk.rowSits.ext hs xr1; replace hb1 := hb1.ext xr1; replace rx := rx.ext xr1; replace sx := Nd.sits.ext sx xr1; replace hin := hin.ext xr1; clear xr1; refine C1 Mv (C1 Px (C1 Px (C1 Pa (C1 Pa (cT (cw_seq (cS (C1 Mv (C1 V2 (cT (Wno ?_))))))))))); refine cw_skip (qw_then (cw_region (C1 Mv (C1 Mv ?_)))); (refine lw_does (does_slice' [_] tabOk zOk rfl rfl rfl rfl rfl rfl rfl rfl rfl) rfl ?_ (fun _ h => h); rintro _ wr5 ⟨br4, rfl, nr6, tr7⟩); clear tr7; have hr8 := nr6.blk; dsimp only at hr8; have xr9 := nr6.ext; have pr10 := nr6.pos; have zr11 := nr6.size; clear nr6; replace hq10 := hq10.ext xr9; replace hd := hd.ext xr9; replace hv := hv.ext xr9; replace hown := hown.ext xr9; replace X := X.ext xr9; replace hs := Bk.rowSits.ext hs xr9; replace hb1 := hb1.ext xr9; replace rx := rx.ext xr9; replace sx := Nd.sits.ext sx xr9; replace hin := hin.ext xr9; clear xr9; refine lw_appendQ (R := fun _ => False) (sh := boolShape) (z := qb) tabOk zOk rfl rfl rfl rfl (by kernel_rfl) rfl rfl rfl (by assumption) (fun _ h => by exact h) (Blk.row (by assumption)) rfl (by omega) (by omega) rfl ?_; rintro gr12 cap'r13 wr14 hr15 hr16 hr17 fr18
             have zr19 := fr18.size; replace hr8 := Blk.fr hr8 fr18 (fun e => by have := hob _ e; omega); replace hq10 := OwnF.fr hq10 fr18 (fun k hk => by have := hob _ hk; omega); replace hd := FDs.fr hd fr18 (fun b hb hT => by have := hob _ hT; (try dsimp only at hb); omega); replace hv := FPs.fr hv fr18 (fun b hb hT => by have := hob _ hT; (try dsimp only at hb); omega); clear hown; replace X := Ext.fr X fr18 (fun k hk => by have := hob _ hk; omega); replace hs := Bk.rowSits.fr hs fr18 (fun b hb hT => by have := hob _ hT; (try dsimp only at hb); omega); replace hb1 := Blk.fr hb1 fr18 (fun e => by have := hob _ e; omega); clear rx; replace sx := Nd.sits.fr sx fr18 (fun b hb hT => by have := hob _ hT; (try dsimp only at hb); omega); replace hin := FPs.fr hin fr18 (fun b hb hT => by have := hob _ hT; (try dsimp only at hb); omega); clear fr18; refine C1 Pa (lw_nil (qw_block_norm (qw_then (cw_region (C1 Mv (C1 V7 (C1 Pa (lw_nil ?_)))))))); rotate_left 1
            refine qw_round (acc ++ [qb], some ⟨_, 0, none⟩, _) (by refine sub_cons rfl (sub_cons rfl (sub_cons rfl (sub_cons rfl (sub_cons rfl (sub_cons rfl (sub_cons' rfl (by simp) ?_)))))); (exact sub_nil)) ⟨hd, hv, hs, hb1, by assumption, X, by omega, by simp only [List.length_append, List.length_cons, List.length_nil]; omega, by simp only [List.length_append, List.length_cons, List.length_nil]; exact HE.out⟩ (by simp only [List.length_append, List.length_cons, List.length_nil]; omega)
          · rw [if_pos hqe] at he
            have HE := Lib.hid he; clear he
            focus
             refine cS (C1 Mv (C1 Mv (C1 Pf (C1 (Pl hb1) (C1 Mv (C1 Pi (C1 (Pws rx) ?_))))))); refine cC rfl (HX.out _ _ _ _ _ _ _ _ _ _ (by assumption) (by assumption) (by assumption)) ?_; rintro _ ws2 ⟨⟨⟩, xs1⟩; have zs3 := xs1.size; replace hq10 := hq10.ext xs1; replace hd := hd.ext xs1; replace hv := hv.ext xs1; replace hown := hown.ext xs1; replace X := X.ext xs1; replace hs := Bk.rowSits.ext hs xs1; replace hb1 := hb1.ext xs1; replace rx := rx.ext xs1; replace sx := Nd.sits.ext sx xs1; replace hin := hin.ext xs1; clear xs1; refine C1 Mv (C1 Px (C1 Px (C1 Pa (C1 Pa (cT (cw_seq (cS (C1 Mv (C1 V2 (cT (Wya ?_))))))))))); refine cS (C1 Mv (C1 Pa (C1 Pa (cT (cw_ret (qw_then_ret (qw_block_ret (qw_then_ret (qw_then_ret (qw_block_ret (qw_then_ret ?_))))))))))); refine qw_ret2 rfl rfl rfl ?_; rotate_left 1
            exact chkR_err HE.out hqe X
    · have hje : acc.length = l.length := by omega
      have he := HE.out; rw [hje, List.drop_length, rowChk] at he; have HE := Lib.hid he; obtain ⟨hk80, f0, f1, f2, f3⟩ := formN_len HFo.out; rw [← hje] at f0 f1 f2 f3; have hels := hown.els (S := fun b => b < w2.heap.size) (fun _ _ h => h); clear he HK HW IH hown hob HZ HFo
      focus
       refine cw_seq (cS (C1 Mv (C1 Pf (C1 (Pl hb1) (C1 Pz (C1 V3 (cT (Wno (cw_exit (qw_then_exit (qw_then_exit ?_))))))))))); refine qw_block_exit (qw_then (cw_seq (cS (C1 Pg (C1 (Pl hb1) (cT ?_)))))); rotate_left 1
      by_cases k1 : k = 81
      · subst k1
        have hsn := HA.out rfl
        focus
         refine cw_block (cS (C1 V1 (C1 Pa (cT (Wnd (cS (C1 V1 (C1 Pa (cT (Wyd (cS ?_))))))))))); refine C1 Mv (C1 Pa (C1 Pa (cT (cw_ret (qw_block_ret (qw_then_ret (qw_ret2 rfl rfl rfl ?_))))))); rotate_left 1
        exact chkR_ok (z := fun ty => if (81 : Int) = 81 then ((seen (visR vars) s).getD false, 0) else typeF lib 81 s ty) HE.out (by rw [if_pos rfl, hsn]; rfl) X
      by_cases k0 : k = 80
      · subst k0
        obtain rfl := gl0 (f0 (by omega))
        focus
         refine cw_block (cS (C1 V1 (C1 Pa (cT (Wyd (cS (C1 Pa (C1 Pa (cT (cw_ret (qw_block_ret ?_))))))))))); refine qw_then_ret (qw_ret2 rfl rfl rfl ?_); rotate_left 1
        exact chkR_ok (z := fun ty => if (80 : Int) = 81 then ((seen (visR vars) s).getD false, 0) else typeF lib 80 s ty) HE.out (by simp [typeF]) X
      by_cases k6 : k = 86
      · subst k6
        obtain rfl := gl0 (f0 (by omega))
        focus
         refine cw_block (cS (C1 V1 (C1 Pa (cT (Wna (cS (C1 V1 (C1 Pa (cT (Wna (cS ?_))))))))))); refine C1 V1 (C1 Pa (cT (Wyd (cS (C1 Pa (C1 Pa (cT (cw_ret (qw_block_ret (qw_then_ret (qw_ret2 rfl rfl rfl ?_))))))))))); rotate_left 1
        exact chkR_ok (z := fun ty => if (86 : Int) = 81 then ((seen (visR vars) s).getD false, 0) else typeF lib 86 s ty) HE.out (by simp [typeF]) X
      by_cases k82 : k = 82
      · subst k82
        obtain ⟨t0, t1, rfl⟩ := gl2 (f2 (by omega)); obtain ⟨gb, go, rfl, -, hgk⟩ := Arr.get hels (by simp); have rg0 := hgk 0 t0 rfl; have rg1 := hgk 1 t1 rfl; clear hels hgk f0 f1 f2 f3 hk80 k1 k0 k6; have hl2 : l.length = 2 := hje.symm
        cases t0 with
        | false =>
         cases t1 with
         | false =>
          focus
           refine cw_block (cS (C1 V1 (C1 Pa (cT (Wnd (cS (C1 V1 (C1 Pa (cT (Wnd (cS ?_))))))))))); refine C1 V1 (C1 Pa (cT (Wnd (cS (C1 V1 (C1 Pa (cT (Wyd (cS (C1 Mv (C1 Pi ?_))))))))))); refine C1 (Pw rg0) (C1 Pt (C1 Mv (lw_on rfl rfl rfl (rfl) (C1 Mv (lw_on rfl rfl rfl (rfl) (C1 Pi (lw_on rfl rfl rfl (rfl) (C1 (Pw0 rg1) (lw_on rfl rfl rfl (rfl) (C1 Pt (C1 (pur_pick_t rfl rfl rfl) ?_))))))))))); refine cC rfl (gRes_c _ _ _) ?_; rintro _ wx2 ⟨⟨⟩, xx1⟩; have zx3 := xx1.size; replace hd := hd.ext xx1; replace hv := hv.ext xx1; replace hs := Bk.rowSits.ext hs xx1; replace X := X.ext xx1; replace hb1 := hb1.ext xx1; replace rg0 := rg0.ext xx1; replace rg1 := rg1.ext xx1; clear xx1; refine C1 Px (C1 Px (C1 Pa (C1 Pa (cT (cw_ret (qw_block_ret (qw_then_ret (qw_ret2 rfl rfl rfl ?_)))))))); rotate_left 1
          exact chkR_ok (z := fun ty => if (82 : Int) = 81 then ((seen (visR vars) s).getD false, 0) else typeF lib 82 s ty) HE.out (by rfl) X
         | true =>
          focus
           refine cw_block (cS (C1 V1 (C1 Pa (cT (Wnd (cS (C1 V1 (C1 Pa (cT (Wnd (cS ?_))))))))))); refine C1 V1 (C1 Pa (cT (Wnd (cS (C1 V1 (C1 Pa (cT (Wyd (cS (C1 Mv (C1 Pi ?_))))))))))); refine C1 (Pw rg0) (C1 Pt (C1 Mv (lw_on rfl rfl rfl (rfl) (C1 Mv (lw_on rfl rfl rfl (rfl) (C1 Pi (lw_on rfl rfl rfl (rfl) (C1 (Pw0 rg1) (lw_on rfl rfl rfl (rfl) (C1 Pt (C1 (pur_pick_t rfl rfl rfl) ?_))))))))))); refine cC rfl (gRes_c _ _ _) ?_; rintro _ wy2 ⟨⟨⟩, xy1⟩; have zy3 := xy1.size; replace hd := hd.ext xy1; replace hv := hv.ext xy1; replace hs := Bk.rowSits.ext hs xy1; replace X := X.ext xy1; replace hb1 := hb1.ext xy1; replace rg0 := rg0.ext xy1; replace rg1 := rg1.ext xy1; clear xy1; refine C1 Px (C1 Px (C1 Pa (C1 Pa (cT (cw_ret (qw_block_ret (qw_then_ret (qw_ret2 rfl rfl rfl ?_)))))))); rotate_left 1
          exact chkR_ok (z := fun ty => if (82 : Int) = 81 then ((seen (visR vars) s).getD false, 0) else typeF lib 82 s ty) HE.out (by rfl) X
        | true =>
         focus
          refine cw_block (cS (C1 V1 (C1 Pa (cT (Wnd (cS (C1 V1 (C1 Pa (cT (Wnd (cS ?_))))))))))); refine C1 V1 (C1 Pa (cT (Wnd (cS (C1 V1 (C1 Pa (cT (Wyd (cS (C1 Mv (C1 Pi ?_))))))))))); refine C1 (Pw rg0) (C1 Pt (C1 Mv (lw_off rfl rfl rfl (rfl) rfl (lw_off rfl rfl rfl (rfl) rfl (lw_off rfl rfl rfl (rfl) rfl (lw_off rfl rfl rfl (rfl) rfl (C1 (pur_pick_f rfl rfl rfl) (cC rfl (gRes_c _ _ _) ?_)))))))); rintro _ wz2 ⟨⟨⟩, xz1⟩; have zz3 := xz1.size; replace hd := hd.ext xz1; replace hv := hv.ext xz1; replace hs := Bk.rowSits.ext hs xz1; replace X := X.ext xz1; replace hb1 := hb1.ext xz1; replace rg1 := rg1.ext xz1; replace rg0 := rg0.ext xz1; clear xz1; refine C1 Px (C1 Px (C1 Pa (C1 Pa (cT (cw_ret (qw_block_ret (qw_then_ret (qw_ret2 rfl rfl rfl ?_)))))))); rotate_left 1
         exact chkR_ok (z := fun ty => if (82 : Int) = 81 then ((seen (visR vars) s).getD false, 0) else typeF lib 82 s ty) HE.out (by cases t1 <;> rfl) X
      by_cases k84 : k = 84
      · subst k84
        obtain ⟨t0, t1, rfl⟩ := gl2 (f2 (by omega)); obtain ⟨gb, go, rfl, -, hgk⟩ := Arr.get hels (by simp); have rg0 := hgk 0 t0 rfl; have rg1 := hgk 1 t1 rfl; clear hels hgk f0 f1 f2 f3 hk80 k1 k0 k6; have hl2 : l.length = 2 := hje.symm
        focus
         refine cw_block (cS (C1 V1 (C1 Pa (cT (Wnd (cS (C1 V1 (C1 Pa (cT (Wnd (cS ?_))))))))))); refine C1 V1 (C1 Pa (cT (Wnd (cS (C1 V1 (C1 Pa (cT (Wna (cS (C1 V1 (C1 Pa ?_))))))))))); refine cT (Wnd (cS (C1 V1 (C1 Pa (cT (Wyd (cS (C1 Mv (C1 Pi (C1 (Pw0 rg1) (C1 Pa ?_))))))))))); refine C1 Pa (cT (cw_ret (qw_block_ret (qw_then_ret (qw_ret2 rfl rfl rfl ?_))))); rotate_left 1
        exact chkR_ok (z := fun ty => if (84 : Int) = 81 then ((seen (visR vars) s).getD false, 0) else typeF lib 84 s ty) HE.out (by cases t0 <;> cases t1 <;> rfl) X
      by_cases k87 : k = 87
      · subst k87
        obtain ⟨t0, t1, rfl⟩ := gl2 (f2 (by omega)); obtain ⟨gb, go, rfl, -, hgk⟩ := Arr.get hels (by simp); have rg0 := hgk 0 t0 rfl; have rg1 := hgk 1 t1 rfl; clear hels hgk f0 f1 f2 f3 hk80 k1 k0 k6; have hl2 : l.length = 2 := hje.symm
        cases t0 with
        | false =>
         cases t1 with
         | false =>
          focus
           refine cw_block (cS (C1 V1 (C1 Pa (cT (Wnd (cS (C1 V1 (C1 Pa (cT (Wnd (cS ?_))))))))))); refine C1 V1 (C1 Pa (cT (Wnd (cS (C1 V1 (C1 Pa (cT (Wna (cS (C1 V1 (C1 Pa ?_))))))))))); refine cT (Wnd (cS (C1 V1 (C1 Pa (cT (Wna (cS (C1 V1 (C1 Pa (cT (Wyd ?_))))))))))); refine cS (C1 Mv (C1 Pi (C1 (Pw rg0) (C1 Pt (C1 Mv (lw_on rfl rfl rfl (rfl) (C1 Mv (lw_on rfl rfl rfl (rfl) (C1 Pi (lw_on rfl rfl rfl (rfl) (C1 (Pw0 rg1) ?_))))))))))); refine C1 (pur_pick_t rfl rfl rfl) (cC rfl (gRes_c _ _ _) ?_); rintro _ wyb2 ⟨⟨⟩, xyb1⟩; have zyb3 := xyb1.size; replace hd := hd.ext xyb1; replace hv := hv.ext xyb1; replace hs := Bk.rowSits.ext hs xyb1; replace X := X.ext xyb1; replace hb1 := hb1.ext xyb1; replace rg0 := rg0.ext xyb1; replace rg1 := rg1.ext xyb1; clear xyb1; refine C1 Px (C1 Px (C1 Pa (C1 Pa (cT (cw_ret (qw_block_ret (qw_then_ret (qw_ret2 rfl rfl rfl ?_)))))))); rotate_left 1
          exact chkR_ok (z := fun ty => if (87 : Int) = 81 then ((seen (visR vars) s).getD false, 0) else typeF lib 87 s ty) HE.out (by rfl) X
         | true =>
          focus
           refine cw_block (cS (C1 V1 (C1 Pa (cT (Wnd (cS (C1 V1 (C1 Pa (cT (Wnd (cS ?_))))))))))); refine C1 V1 (C1 Pa (cT (Wnd (cS (C1 V1 (C1 Pa (cT (Wna (cS (C1 V1 (C1 Pa ?_))))))))))); refine cT (Wnd (cS (C1 V1 (C1 Pa (cT (Wna (cS (C1 V1 (C1 Pa (cT (Wyd ?_))))))))))); refine cS (C1 Mv (C1 Pi (C1 (Pw rg0) (C1 Pt (C1 Mv (lw_on rfl rfl rfl (rfl) (C1 Mv (lw_on rfl rfl rfl (rfl) (C1 Pi (lw_on rfl rfl rfl (rfl) (C1 (Pw0 rg1) ?_))))))))))); refine C1 (pur_pick_t rfl rfl rfl) (cC rfl (gRes_c _ _ _) ?_); rintro _ wyc2 ⟨⟨⟩, xyc1⟩; have zyc3 := xyc1.size; replace hd := hd.ext xyc1; replace hv := hv.ext xyc1; replace hs := Bk.rowSits.ext hs xyc1; replace X := X.ext xyc1; replace hb1 := hb1.ext xyc1; replace rg0 := rg0.ext xyc1; replace rg1 := rg1.ext xyc1; clear xyc1; refine C1 Px (C1 Px (C1 Pa (C1 Pa (cT (cw_ret (qw_block_ret (qw_then_ret (qw_ret2 rfl rfl rfl ?_)))))))); rotate_left 1
          exact chkR_ok (z := fun ty => if (87 : Int) = 81 then ((seen (visR vars) s).getD false, 0) else typeF lib 87 s ty) HE.out (by rfl) X
        | true =>
         focus
          refine cw_block (cS (C1 V1 (C1 Pa (cT (Wnd (cS (C1 V1 (C1 Pa (cT (Wnd (cS ?_))))))))))); refine C1 V1 (C1 Pa (cT (Wnd (cS (C1 V1 (C1 Pa (cT (Wna (cS (C1 V1 (C1 Pa ?_))))))))))); refine cT (Wnd (cS (C1 V1 (C1 Pa (cT (Wna (cS (C1 V1 (C1 Pa (cT (Wyd ?_))))))))))); refine cS (C1 Mv (C1 Pi (C1 (Pw rg0) (C1 Pt (C1 Mv (lw_off rfl rfl rfl (rfl) rfl (lw_off rfl rfl rfl (rfl) rfl (lw_off rfl rfl rfl (rfl) rfl (C1 (pur_pick_f rfl rfl rfl) (cC rfl (gRes_c _ _ _) ?_)))))))))); rintro _ wyd2 ⟨⟨⟩, xyd1⟩; have zyd3 := xyd1.size; replace hd := hd.ext xyd1; replace hv := hv.ext xyd1; replace hs := Bk.rowSits.ext hs xyd1; replace X := X.ext xyd1; replace hb1 := hb1.ext xyd1; replace rg1 := rg1.ext xyd1; replace rg0 := rg0.ext xyd1; clear xyd1; refine C1 Px (C1 Px (C1 Pa (C1 Pa (cT (cw_ret (qw_block_ret (qw_then_ret (qw_ret2 rfl rfl rfl ?_)))))))); rotate_left 1
         exact chkR_ok (z := fun ty => if (87 : Int) = 81 then ((seen (visR vars) s).getD false, 0) else typeF lib 87 s ty) HE.out (by cases t1 <;> rfl) X
      by_cases k83 : k = 83
      · subst k83
        obtain ⟨t0, t1, t2, rfl⟩ := gl3 (f3 (by omega)); obtain ⟨gb, go, rfl, -, hgk⟩ := Arr.get hels (by simp); have rg0 := hgk 0 t0 rfl; have rg1 := hgk 1 t1 rfl; have rg2 := hgk 2 t2 rfl; clear hels hgk f0 f1 f2 f3 hk80 k1 k0 k6; have hl2 : l.length = 3 := hje.symm
        cases t0 with
        | false =>
         cases t1 with
         | false =>
          cases t2 with
          | false =>
           focus
            refine cw_block (cS (C1 V1 (C1 Pa (cT (Wnd (cS (C1 V1 (C1 Pa (cT (Wnd (cS ?_))))))))))); refine C1 V1 (C1 Pa (cT (Wnd (cS (C1 V1 (C1 Pa (cT (Wna (cS (C1 V1 (C1 Pa ?_))))))))))); refine cT (Wyd (cw_seq ?_)); (refine cw_tdraw (fun wz => Ext w2 wz) 19 (.pure 0 (.pure 1 (.pure 2 (.pure 3 (.pure 4 (.pure 5 (.pure 6 (.pure 7 (.pure 8 (.pure 9 (.pure 10 (.pure 11 (.pure 12 (.pure 13 (.pure 14 (.pure 15 (.fork 16 (.pure 17 (.pure 18 .tail)) .none))))))))))))))))) mixed (by kernel_rfl) (panicOk_then (panicOk_block (panicOk_then panicOk_body))) ?_; intro wye1 xye2 _); have qsye3 : (fun wz => Ext w2 wz) wye1 := xye2; simp only at qsye3; have d_hd := hd; have d_hv := hv; have d_hs := hs; have d_hb1 := hb1; have d_rg0 := rg0; have d_rg1 := rg1; have d_rg2 := rg2; have zye4 := xye2.size; replace hd := hd.ext xye2; replace hv := hv.ext xye2; replace hs := Bk.rowSits.ext hs xye2; replace X := X.ext xye2; replace hb1 := hb1.ext xye2; replace rg0 := rg0.ext xye2; replace rg1 := rg1.ext xye2; replace rg2 := rg2.ext xye2; clear xye2; refine ⟨qsye3, ?_⟩; refine Tq rfl Mv (Tq rfl Pi (Tq rfl (pur_load tabOk rfl rfl rfl (fun wz hz => Row.at0 (Row.ext d_rg1 hz) rfl)) (Tq rfl Mv (Tq rfl Pi (Tq rfl (Dr d_rg0) (Tq rfl Pt (Tq rfl Mv (tw_on rfl rfl rfl rfl (rfl) (pur_move rfl) rfl ?_)))))))); refine tw_on rfl rfl rfl rfl (rfl) (pur_indexAddr tabOk rfl rfl rfl rfl (by omega) (by omega)) rfl ?_; refine tw_on rfl rfl rfl rfl (rfl) (pur_load tabOk rfl rfl rfl (fun wz hz => Row.at0 (Row.ext d_rg1 hz) rfl)) rfl (tw_on rfl rfl rfl rfl (rfl) (pur_move rfl) rfl ?_)
            refine tw_on rfl rfl rfl rfl (rfl) (pur_indexAddr tabOk rfl rfl rfl rfl (by omega) (by omega)) rfl ?_; refine tw_on rfl rfl rfl rfl (rfl) (pur_load tabOk rfl rfl rfl (fun wz hz => Row.at0 (Row.ext d_rg2 hz) rfl)) rfl (tw_on rfl rfl rfl rfl (rfl) (pur_beqlG tabOk rfl rfl rfl) rfl (Tq rfl (pur_pick_t rfl rfl rfl) ?_)); refine tw_does rfl (does_call (by kernel_rfl) rfl (gRes_c _ _ _) (fun _ _ h => ⟨_, h.1⟩)) rfl ?_ (fun _ h => h) tw_none; rintro _ wye7 ⟨⟨⟩, xye6⟩; have zye8 := xye6.size; replace qsye3 := qsye3.ext xye6; replace hd := hd.ext xye6; replace hv := hv.ext xye6; replace hs := Bk.rowSits.ext hs xye6; replace X := X.ext xye6; replace hb1 := hb1.ext xye6; replace rg0 := rg0.ext xye6; replace rg1 := rg1.ext xye6; replace rg2 := rg2.ext xye6; clear xye6; refine ⟨qsye3, ?_⟩; refine Tq rfl Px (Tq rfl Px ?_); clear d_hd d_hv d_hs d_hb1 d_rg0 d_rg1 d_rg2 qsye3; refine tw_tail rfl (C1 Pa (C1 Pa (cT (cw_ret (qw_block_ret (qw_then_ret (qw_ret2 rfl rfl rfl ?_))))))); rotate_left 1
           exact chkR_ok (z := fun ty => if (83 : Int) = 81 then ((seen (visR vars) s).getD false, 0) else typeF lib 83 s ty) HE.out (by rfl) X
          | true =>
           focus
            refine cw_block (cS (C1 V1 (C1 Pa (cT (Wnd (cS (C1 V1 (C1 Pa (cT (Wnd (cS ?_))))))))))); refine C1 V1 (C1 Pa (cT (Wnd (cS (C1 V1 (C1 Pa (cT (Wna (cS (C1 V1 (C1 Pa ?_))))))))))); refine cT (Wyd (cw_seq ?_)); (refine cw_tdraw (fun wz => Ext w2 wz) 19 (.pure 0 (.pure 1 (.pure 2 (.pure 3 (.pure 4 (.pure 5 (.pure 6 (.pure 7 (.pure 8 (.pure 9 (.pure 10 (.pure 11 (.pure 12 (.pure 13 (.pure 14 (.pure 15 (.fork 16 (.pure 17 (.pure 18 .tail)) .none))))))))))))))))) mixed (by kernel_rfl) (panicOk_then (panicOk_block (panicOk_then panicOk_body))) ?_; intro wyf1 xyf2 _); have qsyf3 : (fun wz => Ext w2 wz) wyf1 := xyf2; simp only at qsyf3; have d_hd := hd; have d_hv := hv; have d_hs := hs; have d_hb1 := hb1; have d_rg0 := rg0; have d_rg1 := rg1; have d_rg2 := rg2; have zyf4 := xyf2.size; replace hd := hd.ext xyf2; replace hv := hv.ext xyf2; replace hs := Bk.rowSits.ext hs xyf2; replace X := X.ext xyf2; replace hb1 := hb1.ext xyf2; replace rg0 := rg0.ext xyf2; replace rg1 := rg1.ext xyf2; replace rg2 := rg2.ext xyf2; clear xyf2; refine ⟨qsyf3, ?_⟩; refine Tq rfl Mv (Tq rfl Pi (Tq rfl (pur_load tabOk rfl rfl rfl (fun wz hz => Row.at0 (Row.ext d_rg1 hz) rfl)) (Tq rfl Mv (Tq rfl Pi (Tq rfl (Dr d_rg0) (Tq rfl Pt (Tq rfl Mv (tw_on rfl rfl rfl rfl (rfl) (pur_move rfl) rfl ?_)))))))); refine tw_on rfl rfl rfl rfl (rfl) (pur_indexAddr tabOk rfl rfl rfl rfl (by omega) (by omega)) rfl ?_; refine tw_on rfl rfl rfl rfl (rfl) (pur_load tabOk rfl rfl rfl (fun wz hz => Row.at0 (Row.ext d_rg1 hz) rfl)) rfl (tw_on rfl rfl rfl rfl (rfl) (pur_move rfl) rfl ?_)
            refine tw_on rfl rfl rfl rfl (rfl) (pur_indexAddr tabOk rfl rfl rfl rfl (by omega) (by omega)) rfl ?_; refine tw_on rfl rfl rfl rfl (rfl) (pur_load tabOk rfl rfl rfl (fun wz hz => Row.at0 (Row.ext d_rg2 hz) rfl)) rfl (tw_on rfl rfl rfl rfl (rfl) (pur_beqlG tabOk rfl rfl rfl) rfl (Tq rfl (pur_pick_t rfl rfl rfl) ?_)); refine tw_does rfl (does_call (by kernel_rfl) rfl (gRes_c _ _ _) (fun _ _ h => ⟨_, h.1⟩)) rfl ?_ (fun _ h => h) tw_none; rintro _ wyf7 ⟨⟨⟩, xyf6⟩; have zyf8 := xyf6.size; replace qsyf3 := qsyf3.ext xyf6; replace hd := hd.ext xyf6; replace hv := hv.ext xyf6; replace hs := Bk.rowSits.ext hs xyf6; replace X := X.ext xyf6; replace hb1 := hb1.ext xyf6; replace rg0 := rg0.ext xyf6; replace rg1 := rg1.ext xyf6; replace rg2 := rg2.ext xyf6; clear xyf6; refine ⟨qsyf3, ?_⟩; refine Tq rfl Px (Tq rfl Px ?_); clear d_hd d_hv d_hs d_hb1 d_rg0 d_rg1 d_rg2 qsyf3; refine tw_tail rfl (C1 Pa (C1 Pa (cT (cw_ret (qw_block_ret (qw_then_ret (qw_ret2 rfl rfl rfl ?_))))))); rotate_left 1
           exact chkR_ok (z := fun ty => if (83 : Int) = 81 then ((seen (visR vars) s).getD false, 0) else typeF lib 83 s ty) HE.out (by rfl) X
         | true =>
          cases t2 with
          | false =>
           focus
            refine cw_block (cS (C1 V1 (C1 Pa (cT (Wnd (cS (C1 V1 (C1 Pa (cT (Wnd (cS ?_))))))))))); refine C1 V1 (C1 Pa (cT (Wnd (cS (C1 V1 (C1 Pa (cT (Wna (cS (C1 V1 (C1 Pa ?_))))))))))); refine cT (Wyd (cw_seq ?_)); (refine cw_tdraw (fun wz => Ext w2 wz) 19 (.pure 0 (.pure 1 (.pure 2 (.pure 3 (.pure 4 (.pure 5 (.pure 6 (.pure 7 (.pure 8 (.pure 9 (.pure 10 (.pure 11 (.pure 12 (.pure 13 (.pure 14 (.pure 15 (.fork 16 (.pure 17 (.pure 18 .tail)) .none))))))))))))))))) mixed (by kernel_rfl) (panicOk_then (panicOk_block (panicOk_then panicOk_body))) ?_; intro wyg1 xyg2 _); have qsyg3 : (fun wz => Ext w2 wz) wyg1 := xyg2; simp only at qsyg3; have d_hd := hd; have d_hv := hv; have d_hs := hs; have d_hb1 := hb1; have d_rg0 := rg0; have d_rg1 := rg1; have d_rg2 := rg2; have zyg4 := xyg2.size; replace hd := hd.ext xyg2; replace hv := hv.ext xyg2; replace hs := Bk.rowSits.ext hs xyg2; replace X := X.ext xyg2; replace hb1 := hb1.ext xyg2; replace rg0 := rg0.ext xyg2; replace rg1 := rg1.ext xyg2; replace rg2 := rg2.ext xyg2; clear xyg2; refine ⟨qsyg3, ?_⟩; refine Tq rfl Mv (Tq rfl Pi (Tq rfl (pur_load tabOk rfl rfl rfl (fun wz hz => Row.at0 (Row.ext d_rg1 hz) rfl)) (Tq rfl Mv (Tq rfl Pi (Tq rfl (Dr d_rg0) (Tq rfl Pt (Tq rfl Mv (tw_on rfl rfl rfl rfl (rfl) (pur_move rfl) rfl ?_)))))))); refine tw_on rfl rfl rfl rfl (rfl) (pur_indexAddr tabOk rfl rfl rfl rfl (by omega) (by omega)) rfl ?_; refine tw_on rfl rfl rfl rfl (rfl) (pur_load tabOk rfl rfl rfl (fun wz hz => Row.at0 (Row.ext d_rg1 hz) rfl)) rfl (tw_on rfl rfl rfl rfl (rfl) (pur_move rfl) rfl ?_)
            refine tw_on rfl rfl rfl rfl (rfl) (pur_indexAddr tabOk rfl rfl rfl rfl (by omega) (by omega)) rfl ?_; refine tw_on rfl rfl rfl rfl (rfl) (pur_load tabOk rfl rfl rfl (fun wz hz => Row.at0 (Row.ext d_rg2 hz) rfl)) rfl (tw_on rfl rfl rfl rfl (rfl) (pur_beqlG tabOk rfl rfl rfl) rfl (Tq rfl (pur_pick_t rfl rfl rfl) ?_)); refine tw_does rfl (does_call (by kernel_rfl) rfl (gRes_c _ _ _) (fun _ _ h => ⟨_, h.1⟩)) rfl ?_ (fun _ h => h) tw_none; rintro _ wyg7 ⟨⟨⟩, xyg6⟩; have zyg8 := xyg6.size; replace qsyg3 := qsyg3.ext xyg6; replace hd := hd.ext xyg6; replace hv := hv.ext xyg6; replace hs := Bk.rowSits.ext hs xyg6; replace X := X.ext xyg6; replace hb1 := hb1.ext xyg6; replace rg0 := rg0.ext xyg6; replace rg1 := rg1.ext xyg6; replace rg2 := rg2.ext xyg6; clear xyg6; refine ⟨qsyg3, ?_⟩; refine Tq rfl Px (Tq rfl Px ?_); clear d_hd d_hv d_hs d_hb1 d_rg0 d_rg1 d_rg2 qsyg3; refine tw_tail rfl (C1 Pa (C1 Pa (cT (cw_ret (qw_block_ret (qw_then_ret (qw_ret2 rfl rfl rfl ?_))))))); rotate_left 1
           exact chkR_ok (z := fun ty => if (83 : Int) = 81 then ((seen (visR vars) s).getD false, 0) else typeF lib 83 s ty) HE.out (by rfl) X
          | true =>
           focus
            refine cw_block (cS (C1 V1 (C1 Pa (cT (Wnd (cS (C1 V1 (C1 Pa (cT (Wnd (cS ?_))))))))))); refine C1 V1 (C1 Pa (cT (Wnd (cS (C1 V1 (C1 Pa (cT (Wna (cS (C1 V1 (C1 Pa ?_))))))))))); refine cT (Wyd (cw_seq ?_)); (refine cw_tdraw (fun wz => Ext w2 wz) 19 (.pure 0 (.pure 1 (.pure 2 (.pure 3 (.pure 4 (.pure 5 (.pure 6 (.pure 7 (.pure 8 (.pure 9 (.pure 10 (.pure 11 (.pure 12 (.pure 13 (.pure 14 (.pure 15 (.fork 16 (.pure 17 (.pure 18 .tail)) .none))))))))))))))))) mixed (by kernel_rfl) (panicOk_then (panicOk_block (panicOk_then panicOk_body))) ?_; intro wyh1 xyh2 _); have qsyh3 : (fun wz => Ext w2 wz) wyh1 := xyh2; simp only at qsyh3; have d_hd := hd; have d_hv := hv; have d_hs := hs; have d_hb1 := hb1; have d_rg0 := rg0; have d_rg1 := rg1; have d_rg2 := rg2; have zyh4 := xyh2.size; replace hd := hd.ext xyh2; replace hv := hv.ext xyh2; replace hs := Bk.rowSits.ext hs xyh2; replace X := X.ext xyh2; replace hb1 := hb1.ext xyh2; replace rg0 := rg0.ext xyh2; replace rg1 := rg1.ext xyh2; replace rg2 := rg2.ext xyh2; clear xyh2; refine ⟨qsyh3, ?_⟩; refine Tq rfl Mv (Tq rfl Pi (Tq rfl (pur_load tabOk rfl rfl rfl (fun wz hz => Row.at0 (Row.ext d_rg1 hz) rfl)) (Tq rfl Mv (Tq rfl Pi (Tq rfl (Dr d_rg0) (Tq rfl Pt (Tq rfl Mv (tw_on rfl rfl rfl rfl (rfl) (pur_move rfl) rfl ?_)))))))); refine tw_on rfl rfl rfl rfl (rfl) (pur_indexAddr tabOk rfl rfl rfl rfl (by omega) (by omega)) rfl ?_; refine tw_on rfl rfl rfl rfl (rfl) (pur_load tabOk rfl rfl rfl (fun wz hz => Row.at0 (Row.ext d_rg1 hz) rfl)) rfl (tw_on rfl rfl rfl rfl (rfl) (pur_move rfl) rfl ?_)
            refine tw_on rfl rfl rfl rfl (rfl) (pur_indexAddr tabOk rfl rfl rfl rfl (by omega) (by omega)) rfl ?_; refine tw_on rfl rfl rfl rfl (rfl) (pur_load tabOk rfl rfl rfl (fun wz hz => Row.at0 (Row.ext d_rg2 hz) rfl)) rfl (tw_on rfl rfl rfl rfl (rfl) (pur_beqlG tabOk rfl rfl rfl) rfl (Tq rfl (pur_pick_t rfl rfl rfl) ?_)); refine tw_does rfl (does_call (by kernel_rfl) rfl (gRes_c _ _ _) (fun _ _ h => ⟨_, h.1⟩)) rfl ?_ (fun _ h => h) tw_none; rintro _ wyh7 ⟨⟨⟩, xyh6⟩; have zyh8 := xyh6.size; replace qsyh3 := qsyh3.ext xyh6; replace hd := hd.ext xyh6; replace hv := hv.ext xyh6; replace hs := Bk.rowSits.ext hs xyh6; replace X := X.ext xyh6; replace hb1 := hb1.ext xyh6; replace rg0 := rg0.ext xyh6; replace rg1 := rg1.ext xyh6; replace rg2 := rg2.ext xyh6; clear xyh6; refine ⟨qsyh3, ?_⟩; refine Tq rfl Px (Tq rfl Px ?_); clear d_hd d_hv d_hs d_hb1 d_rg0 d_rg1 d_rg2 qsyh3; refine tw_tail rfl (C1 Pa (C1 Pa (cT (cw_ret (qw_block_ret (qw_then_ret (qw_ret2 rfl rfl rfl ?_))))))); rotate_left 1
           exact chkR_ok (z := fun ty => if (83 : Int) = 81 then ((seen (visR vars) s).getD false, 0) else typeF lib 83 s ty) HE.out (by rfl) X
        | true =>
         focus
          refine cw_block (cS (C1 V1 (C1 Pa (cT (Wnd (cS (C1 V1 (C1 Pa (cT (Wnd (cS ?_))))))))))); refine C1 V1 (C1 Pa (cT (Wnd (cS (C1 V1 (C1 Pa (cT (Wna (cS (C1 V1 (C1 Pa ?_))))))))))); refine cT (Wyd (cw_seq ?_)); (refine cw_tdraw (fun wz => Ext w2 wz) 19 (.pure 0 (.pure 1 (.pure 2 (.pure 3 (.pure 4 (.pure 5 (.pure 6 (.pure 7 (.pure 8 (.pure 9 (.pure 10 (.pure 11 (.pure 12 (.pure 13 (.pure 14 (.pure 15 (.fork 16 (.pure 17 (.pure 18 .tail)) .none))))))))))))))))) mixed (by kernel_rfl) (panicOk_then (panicOk_block (panicOk_then panicOk_body))) ?_; intro wyi1 xyi2 _); have qsyi3 : (fun wz => Ext w2 wz) wyi1 := xyi2; simp only at qsyi3; have d_hd := hd; have d_hv := hv; have d_hs := hs; have d_hb1 := hb1; have d_rg1 := rg1; have d_rg2 := rg2; have d_rg0 := rg0; have zyi4 := xyi2.size; replace hd := hd.ext xyi2; replace hv := hv.ext xyi2; replace hs := Bk.rowSits.ext hs xyi2; replace X := X.ext xyi2; replace hb1 := hb1.ext xyi2; replace rg1 := rg1.ext xyi2; replace rg2 := rg2.ext xyi2; replace rg0 := rg0.ext xyi2; clear xyi2; refine ⟨qsyi3, ?_⟩; refine Tq rfl Mv (Tq rfl Pi (Tq rfl (pur_load tabOk rfl rfl rfl (fun wz hz => Row.at0 (Row.ext d_rg1 hz) rfl)) (Tq rfl Mv (Tq rfl Pi (Tq rfl (Dr d_rg0) (Tq rfl Pt (Tq rfl Mv (tw_off rfl rfl rfl rfl (rfl) rfl (tw_off rfl rfl rfl rfl (rfl) rfl (tw_off rfl rfl rfl rfl (rfl) rfl (tw_off rfl rfl rfl rfl (rfl) rfl ?_))))))))))); refine tw_off rfl rfl rfl rfl (rfl) rfl (tw_off rfl rfl rfl rfl (rfl) rfl (tw_off rfl rfl rfl rfl (rfl) rfl (Tq rfl (pur_pick_f rfl rfl rfl) ?_)))
          refine tw_does rfl (does_call (by kernel_rfl) rfl (gRes_c _ _ _) (fun _ _ h => ⟨_, h.1⟩)) rfl ?_ (fun _ h => h) tw_none; rintro _ wyi7 ⟨⟨⟩, xyi6⟩; have zyi8 := xyi6.size; replace qsyi3 := qsyi3.ext xyi6; replace hd := hd.ext xyi6; replace hv := hv.ext xyi6; replace hs := Bk.rowSits.ext hs xyi6; replace X := X.ext xyi6; replace hb1 := hb1.ext xyi6; replace rg1 := rg1.ext xyi6; replace rg2 := rg2.ext xyi6; replace rg0 := rg0.ext xyi6; clear xyi6; refine ⟨qsyi3, ?_⟩; refine Tq rfl Px (Tq rfl Px ?_); clear d_hd d_hv d_hs d_hb1 d_rg1 d_rg2 d_rg0 qsyi3; refine tw_tail rfl (C1 Pa (C1 Pa (cT (cw_ret (qw_block_ret (qw_then_ret (qw_ret2 rfl rfl rfl ?_))))))); rotate_left 1
         exact chkR_ok (z := fun ty => if (83 : Int) = 81 then ((seen (visR vars) s).getD false, 0) else typeF lib 83 s ty) HE.out (by cases t1 <;> cases t2 <;> rfl) X
      by_cases k88 : k = 88
      · subst k88
        obtain ⟨t0, rfl⟩ := gl1 (f1 (by omega)); obtain ⟨gb, go, rfl, -, hgk⟩ := Arr.get hels (by simp); have rg0 := hgk 0 t0 rfl; clear hels hgk f0 f1 f2 f3 hk80 k1 k0 k6; have hl2 : l.length = 1 := hje.symm
        focus
         refine cw_block (cS (C1 V1 (C1 Pa (cT (Wnd (cS (C1 V1 (C1 Pa (cT (Wnd (cS ?_))))))))))); refine C1 V1 (C1 Pa (cT (Wnd (cS (C1 V1 (C1 Pa (cT (Wna (cS (C1 V1 (C1 Pa ?_))))))))))); refine cT (Wna (cS (C1 V1 (C1 Pa (cT (Wna (cS (C1 V1 (C1 Pa (cT (Wna ?_))))))))))); refine cw_seq (cS (C1 V1 (C1 Pa (cT (Wyd (cw_skip (qw_then (Wyd (cS (C1 Mv (C1 Pi ?_))))))))))); refine C1 (Pw rg0) (cC rfl (gRes_c _ _ _) ?_); rintro _ wyj2 ⟨⟨⟩, xyj1⟩; have zyj3 := xyj1.size; replace hd := hd.ext xyj1; replace hv := hv.ext xyj1; replace hs := Bk.rowSits.ext hs xyj1; replace X := X.ext xyj1; replace hb1 := hb1.ext xyj1; replace rg0 := rg0.ext xyj1; clear xyj1; refine C1 Px (C1 Px (C1 Pa (C1 Pa (cT (cw_ret (qw_block_ret (qw_then_ret (qw_ret2 rfl rfl rfl ?_)))))))); rotate_left 1
        exact chkR_ok (z := fun ty => if (88 : Int) = 81 then ((seen (visR vars) s).getD false, 0) else typeF lib 88 s ty) HE.out (by cases t0 <;> rfl) X
      by_cases k89 : k = 89
      · subst k89
        obtain ⟨t0, rfl⟩ := gl1 (f1 (by omega)); obtain ⟨gb, go, rfl, -, hgk⟩ := Arr.get hels (by simp); have rg0 := hgk 0 t0 rfl; clear hels hgk f0 f1 f2 f3 hk80 k1 k0 k6; have hl2 : l.length = 1 := hje.symm
        focus
         refine cw_block (cS (C1 V1 (C1 Pa (cT (Wnd (cS (C1 V1 (C1 Pa (cT (Wnd (cS ?_))))))))))); refine C1 V1 (C1 Pa (cT (Wnd (cS (C1 V1 (C1 Pa (cT (Wna (cS (C1 V1 (C1 Pa ?_))))))))))); refine cT (Wna (cS (C1 V1 (C1 Pa (cT (Wna (cS (C1 V1 (C1 Pa (cT (Wna ?_))))))))))); refine cw_seq (cS (C1 V1 (C1 Pa (cT (Wna (cw_region (C1 V1 (C1 Pa (cT (Wnd (cS ?_))))))))))); refine C1 V1 (C1 Pa (cT (Wyd (cS (C1 Mv (C1 Pi (C1 (Pw rg0) (cC rfl (gRes_c _ _ _) ?_)))))))); rintro _ wyk2 ⟨⟨⟩, xyk1⟩; have zyk3 := xyk1.size; replace hd := hd.ext xyk1; replace hv := hv.ext xyk1; replace hs := Bk.rowSits.ext hs xyk1; replace X := X.ext xyk1; replace hb1 := hb1.ext xyk1; replace rg0 := rg0.ext xyk1; clear xyk1; refine C1 Px (C1 Px (C1 Pa (C1 Pa (cT (cw_ret (qw_block_ret (qw_then_ret (qw_ret2 rfl rfl rfl ?_)))))))); rotate_left 1
        exact chkR_ok (z := fun ty => if (89 : Int) = 81 then ((seen (visR vars) s).getD false, 0) else typeF lib 89 s ty) HE.out (by cases t0 <;> rfl) X
      by_cases k90 : k = 90
      · subst k90
        obtain ⟨t0, rfl⟩ := gl1 (f1 (by omega)); obtain ⟨gb, go, rfl, -, hgk⟩ := Arr.get hels (by simp); have rg0 := hgk 0 t0 rfl; clear hels hgk f0 f1 f2 f3 hk80 k1 k0 k6; have hl2 : l.length = 1 := hje.symm
        focus
         refine cw_block (cS (C1 V1 (C1 Pa (cT (Wnd (cS (C1 V1 (C1 Pa (cT (Wnd (cS ?_))))))))))); refine C1 V1 (C1 Pa (cT (Wnd (cS (C1 V1 (C1 Pa (cT (Wna (cS (C1 V1 (C1 Pa ?_))))))))))); refine cT (Wna (cS (C1 V1 (C1 Pa (cT (Wna (cS (C1 V1 (C1 Pa (cT (Wna ?_))))))))))); refine cw_seq (cS (C1 V1 (C1 Pa (cT (Wna (cw_region (C1 V1 (C1 Pa (cT (Wyd (cS ?_))))))))))); refine C1 Mv (C1 Pi (C1 (Pw rg0) (cC rfl (gRes_c _ _ _) ?_))); rintro _ wyl2 ⟨⟨⟩, xyl1⟩; have zyl3 := xyl1.size; replace hd := hd.ext xyl1; replace hv := hv.ext xyl1; replace hs := Bk.rowSits.ext hs xyl1; replace X := X.ext xyl1; replace hb1 := hb1.ext xyl1; replace rg0 := rg0.ext xyl1; clear xyl1; refine C1 Px (C1 Px (C1 Pa (C1 Pa (cT (cw_ret (qw_block_ret (qw_then_ret (qw_ret2 rfl rfl rfl ?_)))))))); rotate_left 1
        exact chkR_ok (z := fun ty => if (90 : Int) = 81 then ((seen (visR vars) s).getD false, 0) else typeF lib 90 s ty) HE.out (by cases t0 <;> rfl) X
      · have k85 : k = 85 := by omega
        subst k85; clear k1 k0 k6 k82 k84 k87 k83 k88 k89 k90 f0 f1 f2 f3 hk80; obtain ⟨i, rfl, hfi, hil, hlen⟩ := HB.out rfl; have hd2 := hd; obtain ⟨kb2, ko2, rfl, -, hk⟩ := Arr.get hd2 (by omega); obtain ⟨pa, pc, ba, bc, hrw, hps, -⟩ := hk i lib[i] (List.getElem?_eq_getElem hil)
        have hty : typeF lib 85 s acc = if acc = lib[i].params.map FP.list then (lib[i].list, 0) else (false, 7) := by simp [typeF, hfi, List.getElem?_eq_getElem hil]
        have HT := Lib.hid hty; clear hk hd2 hty hfi HA HB
        generalize lib[i] = x at *
        simp only [FD.cells] at hrw
        have hpl : x.params.length = acc.length := by omega
        focus
         refine cw_block (cS (C1 V1 (C1 Pa (cT (Wnd (cS (C1 V1 (C1 Pa (cT (Wnd (cS ?_))))))))))); refine C1 V1 (C1 Pa (cT (Wnd (cS (C1 V1 (C1 Pa (cT (Wnd (cS (C1 V1 (C1 Pa ?_))))))))))); refine cT (Wnd (cS (C1 V1 (C1 Pa (cT (Wnd (cS (C1 V1 (C1 Pa (cT (Wnd ?_))))))))))); refine cw_seq (cS (C1 V1 (C1 Pa (cT (Wnd (cw_region (C1 V1 (C1 Pa (cT (Wnd (cS ?_))))))))))); refine C1 V1 (C1 Pa (cT (Wnd (cw_skip (qw_block_norm (qw_then (cw_seq (cS (C1 Pa (cT (cw_block ?_))))))))))); rotate_left 1
        refine cw_loop (ι := Nat) (fun j => [(0, .slice (some ⟨kb2, ko2, none⟩) lib.length lc), (8, .int .i64 i), (14, .slice oa acc.length oc), (19, .int .i64 j)]) (fun j w' => Row w' ⟨kb2, ko2 + i * 7, none⟩ [str x.name, .slice pa x.params.length pc, .bool x.list, .int .u8 x.body.kind, .int .i64 x.body.num, str x.body.name, .slice ba x.body.kids.length bc] ∧ FPs (· < w.heap.size) w' x.params pa ∧ Els boolV (fun b => b < w2.heap.size) w' acc oa ∧ Ext w w' ∧ j ≤ acc.length ∧ acc.take j = (x.params.map FP.list).take j) (fun j => acc.length - j) 0 (by (refine sub_cons rfl ?_; refine sub_cons rfl ?_; refine sub_cons rfl ?_; refine sub_cons rfl ?_; exact sub_nil)) ⟨hrw, hps, hels, X, Nat.zero_le _, by simp⟩ ?_; clear hrw hps hels X hd hv hs hb1; rintro j w3 ⟨hrw, hps, hels, X, hj2, hn⟩; have HN := Lib.hid hn; clear hn
        by_cases hlt2 : j < acc.length
        · have hps2 := hps
          have hels2 := hels; obtain ⟨gb, go, rfl, -, hgk⟩ := Arr.get hels2 (by omega); obtain ⟨ub, uo, rfl, -, huk⟩ := Arr.get hps2 (by omega); have r1 : Row w3 ⟨gb, go + j * 1, none⟩ [boolV acc[j]] := hgk j _ (List.getElem?_eq_getElem hlt2)
          have hjp : j < x.params.length := by omega
          have r2 : Row w3 ⟨ub, uo + j * 2, none⟩ x.params[j].cells := huk j _ (List.getElem?_eq_getElem hjp)
          have hjm : j < (x.params.map FP.list).length := by rw [List.length_map]; exact hjp
          have hnx := Lib.hid (take_eq_succ hlt2 hjm HN.out); have hnt := Lib.hid (ne_at hlt2 hjm)
          have hmj : (x.params.map FP.list)[j] = x.params[j].list := by simp
          rw [hmj] at hnx hnt; clear hgk huk hps2 hels2 HN hmj
          generalize acc[j] = tj at *
          generalize x.params[j] = pj at *
          by_cases hx : tj = pj.list
          · have hq := Lib.hid (hnx.out hx)
            clear hnx hnt
            focus
             refine cw_seq (cS (C1 Mv (C1 Mv (C1 Pz (C1 V3 (cT (Wyo (cw_skip (qw_then (cw_seq (cw_block ?_))))))))))); refine cw_seq ?_; (refine cw_tdraw (fun wz => Ext w3 wz) 13 (.pure 0 (.pure 1 (.pure 2 (.pure 3 (.pure 4 (.pure 5 (.pure 6 (.pure 7 (.pure 8 (.pure 9 (.pure 10 (.pure 11 (.pure 12 .tail))))))))))))) mixed (by kernel_rfl) (panicOk_then (panicOk_block (panicOk_then (panicOk_then (panicOk_block (panicOk_then panicOk_body)))))) ?_; intro wyn1 xyn2 _); have qsyn3 : (fun wz => Ext w3 wz) wyn1 := xyn2; simp only at qsyn3; have d_hels := hels; have d_hrw := hrw; have d_hps := hps; have d_r1 := r1; have d_r2 := r2; have zyn4 := xyn2.size; replace X := X.ext xyn2; replace hels := hels.ext xyn2; replace hrw := hrw.ext xyn2; replace hps := hps.ext xyn2; replace r1 := r1.ext xyn2; replace r2 := r2.ext xyn2; clear xyn2; refine ⟨qsyn3, ?_⟩; refine Tq rfl Mv (Tq rfl Mv (Tq rfl Pi (Tq rfl (pur_load tabOk rfl rfl rfl (fun wz hz => Row.at0 (Row.ext d_r1 hz) rfl)) (Tq rfl Mv (Tq rfl Mv (Tq rfl Pi (Tq rfl Pf (Tq rfl (Dr d_hrw) (Tq rfl Mv (Tq rfl Pi (Tq rfl Pf ?_))))))))))); refine Tq rfl (Dr d_r2) ?_; clear qsyn3 d_hels d_hrw d_hps d_r1 d_r2; refine tw_tail rfl (C1 (pur_bneqF tabOk rfl rfl rfl) (cT ?_)); refine cw_no rfl (not_not_intro (by assumption)) ?_; refine cw_skip (qw_block_norm (qw_then (cw_region (C1 Mv (C1 V7 (C1 Pa (lw_nil ?_))))))); rotate_left 1
            exact qw_round (j + 1) (by (refine sub_cons rfl ?_; refine sub_cons rfl ?_; refine sub_cons rfl ?_; refine sub_cons rfl ?_; exact sub_nil)) ⟨hrw, hps, hels, X, by omega, hq.out⟩ (by omega)
          · have hq := Lib.hid (hnt.out hx)
            clear hnx hnt
            focus
             refine cw_seq (cS (C1 Mv (C1 Mv (C1 Pz (C1 V3 (cT (Wyo (cw_skip (qw_then (cw_seq (cw_block ?_))))))))))); refine cw_seq ?_; (refine cw_tdraw (fun wz => Ext w3 wz) 13 (.pure 0 (.pure 1 (.pure 2 (.pure 3 (.pure 4 (.pure 5 (.pure 6 (.pure 7 (.pure 8 (.pure 9 (.pure 10 (.pure 11 (.pure 12 .tail))))))))))))) mixed (by kernel_rfl) (panicOk_then (panicOk_block (panicOk_then (panicOk_then (panicOk_block (panicOk_then panicOk_body)))))) ?_; intro wyo1 xyo2 _); have qsyo3 : (fun wz => Ext w3 wz) wyo1 := xyo2; simp only at qsyo3; have d_hels := hels; have d_hrw := hrw; have d_hps := hps; have d_r1 := r1; have d_r2 := r2; have zyo4 := xyo2.size; replace X := X.ext xyo2; replace hels := hels.ext xyo2; replace hrw := hrw.ext xyo2; replace hps := hps.ext xyo2; replace r1 := r1.ext xyo2; replace r2 := r2.ext xyo2; clear xyo2; refine ⟨qsyo3, ?_⟩; refine Tq rfl Mv (Tq rfl Mv (Tq rfl Pi (Tq rfl (pur_load tabOk rfl rfl rfl (fun wz hz => Row.at0 (Row.ext d_r1 hz) rfl)) (Tq rfl Mv (Tq rfl Mv (Tq rfl Pi (Tq rfl Pf (Tq rfl (Dr d_hrw) (Tq rfl Mv (Tq rfl Pi (Tq rfl Pf ?_))))))))))); refine Tq rfl (Dr d_r2) ?_; clear qsyo3 d_hels d_hrw d_hps d_r1 d_r2; refine tw_tail rfl (C1 (pur_bneqF tabOk rfl rfl rfl) (cT (Wya (cS (C1 Pa (C1 Pa (cT (cw_ret (qw_block_ret (qw_then_ret (qw_then_ret ?_))))))))))); refine qw_block_ret (qw_then_ret (qw_ret2 rfl rfl rfl ?_)); rotate_left 1
            exact chkR_ok (z := fun ty => if (85 : Int) = 81 then ((seen (visR vars) s).getD false, 0) else typeF lib 85 s ty) HE.out (by rw [if_neg (by decide), HT.out, if_neg hq.out]) X
        · have hje2 : j = acc.length := by omega
          subst hje2; have hn := HN.out; rw [List.take_length, List.take_of_length_le (by rw [List.length_map]; omega)] at hn; have hq := Lib.hid hn; clear hn HN
          focus
           refine cw_seq (cS (C1 Mv (C1 Mv (C1 Pz (C1 V3 (cT (Wno (cw_exit (qw_then_exit (qw_then_exit (qw_block_exit ?_))))))))))); refine qw_then (cS (C1 Mv (C1 Mv (C1 Pi (C1 Pf (C1 (Pw hrw) (C1 Pa (C1 Pa (cT (cw_ret (qw_ret2 rfl rfl rfl ?_))))))))))); rotate_left 1
          exact chkR_ok (z := fun ty => if (85 : Int) = 81 then ((seen (visR vars) s).getD false, 0) else typeF lib 85 s ty) HE.out (by rw [if_neg (by decide), HT.out, if_pos hq.out]) X
end Bk
namespace Bk
open Go Go.RowKit Go.Proofs
attribute [local irreducible] Go.Calls
mutual
theorem chk_congr {lib : List FD} : ∀ (t : Nd) (v v' : Vis), (∀ s, seen v s = seen v' s) → t.chk lib v = t.chk lib v'
 | .mk k n s l, v, v', h => by
  rw [Nd.chk, Nd.chk]
  have hr : reachF lib v k s l.length = reachF lib v' k s l.length := by unfold reachF; rw [h s]
  rw [hr, row_congr l v v' k s [] h, h s]
theorem row_congr {lib : List FD} : ∀ (l : List Nd) (v v' : Vis) (k : Int) (s : List UInt8) (acc : List Bool), (∀ s, seen v s = seen v' s) → rowChk lib v k s acc l = rowChk lib v' k s acc l
 | [], _, _, _, _, _, _ => by rw [rowChk, rowChk]
 | t :: r, v, v', k, s, acc, h => by
  rw [rowChk, rowChk]
  have hv : ∀ s', seen (if k = 84 ∧ acc.length = 1 then (s, acc.getD 0 false) :: v else v) s' = seen (if k = 84 ∧ acc.length = 1 then (s, acc.getD 0 false) :: v' else v') s' := fun s' => by
   by_cases hk : k = 84 ∧ acc.length = 1
   · rw [if_pos hk, if_pos hk, seen_cons, seen_cons, h s']
   · rw [if_neg hk, if_neg hk, h s']
  rw [chk_congr t _ _ hv]; simp only [row_congr r v v' k s _ h]
end
theorem seen_nil (s : List UInt8) : seen [] s = none := rfl
theorem seen_not {v : Vis} {s : List UInt8} (h : s ∉ v.map Prod.fst) : seen v s = none := by
 induction v with
 | nil => rfl
 | cons p r ih =>
  simp only [List.map_cons, List.mem_cons, not_or] at h; rw [seen_cons, if_neg (fun e => h.1 e.symm), ih h.2]
theorem seen_app (a : Vis) (p : List UInt8 × Bool) (s : List UInt8) : seen (a ++ [p]) s = match seen a s with | some b => some b | none => if p.1 = s then some p.2 else none := by
 induction a with
 | nil => rw [List.nil_append, seen_cons, seen_nil]
 | cons q r ih =>
  rw [List.cons_append, seen_cons, seen_cons, ih]
  by_cases h : q.1 = s
  · simp [h]
  · simp [h]
theorem seen_visR (l : List FP) (h : (l.map FP.name).Nodup) (s : List UInt8) : seen (visR l) s = seen (l.map fun p => (p.name, p.list)) s := by
 induction l with
 | nil => rfl
 | cons p r ih =>
  rw [List.map_cons, List.nodup_cons] at h
  have e : visR (p :: r) = visR r ++ [(p.name, p.list)] := by simp [visR]
  rw [e, seen_app, ih h.2, List.map_cons, seen_cons]
  by_cases hp : p.name = s
  · subst hp
    rw [seen_not (v := r.map fun p => (p.name, p.list)) (by rw [List.map_map]; exact h.1)]
  · simp only [if_neg hp]
    cases seen (r.map fun p => (p.name, p.list)) s <;> rfl
theorem chk_visR {lib : List FD} (t : Nd) (l : List FP) (h : (l.map FP.name).Nodup) : t.chk lib (visR l) = t.chk lib (l.map fun p => (p.name, p.list)) := chk_congr t _ _ (seen_visR l h)
theorem gName_v {s : List UInt8} {q : Bool} (h : funName s = q) (w : World) (hs : s.length ≤ 9223372036854775807) : Calls Tryz.prog 43 #[str s] w fun e w' => e = .returned (.bool q) ∧ Ext w w' := by
 have := gName_c s w hs
 rw [h] at this; exact this
theorem gForm_v {t : Nd} {q : Bool} (h : t.formed = q) (ht : t.size ≤ 1000000) (hw : t.wf) (S : Nat → Prop) (a : Option Addr) (c : Nat) (w : World) (hs : t.sits S w a) :
 Calls Tryz.prog 45 #[t.val a c] w fun e w' => e = .returned (.bool q) ∧ Ext w w' := by
 have := gForm_c (t.size + 1) t S a c w (by omega) (by omega) hw hs
 rw [h] at this; exact this
theorem paramErr_3 {l : List FP} {j : Nat} (h8 : ¬ 8 < l.length) (hj : j < l.length) (h : funName l[j].name = false) : paramErr l = 3 := by
 unfold paramErr
 rw [if_neg h8, if_neg]; intro e; have := List.all_eq_true.1 e l[j] (List.getElem_mem hj)
 rw [h] at this; cases this
theorem paramErr_all {l : List FP} (h8 : ¬ 8 < l.length) (h : ∀ i (hi : i < l.length), funName l[i].name = true) : paramErr l = if (l.map FP.name).Nodup then 0 else 22 := by
 unfold paramErr
 rw [if_neg h8, if_pos]; rw [List.all_eq_true]; intro p hp; obtain ⟨i, hi, rfl⟩ := List.mem_iff_getElem.1 hp
 exact h i hi
theorem nodup_take {l : List FP} {k : Nat} (hk : k < l.length) (h : ((l.take k).map FP.name).Nodup) (h2 : ∀ i (hi : i < l.length), i < k → l[i].name ≠ l[k].name) : ((l.take (k + 1)).map FP.name).Nodup := by
 rw [List.take_succ_eq_append_getElem hk, List.map_append, List.nodup_append]; refine ⟨h, by simp, ?_⟩; intro a ha b hb e; obtain rfl := List.mem_singleton.1 hb; obtain ⟨p, hp, rfl⟩ := List.mem_map.1 ha; obtain ⟨i, hi, rfl⟩ := List.mem_iff_getElem.1 hp
 have hi2 : i < l.length ∧ i < k := by simp only [List.length_take] at hi; omega
 rw [List.getElem_take] at e
 exact h2 i hi2.1 hi2.2 e
theorem nodup_not {l : List FP} {i k : Nat} (hk : k < l.length) (hik : i < k) (e : (l[i]'(by omega)).name = l[k].name) : ¬ (l.map FP.name).Nodup := by
 intro h; have := List.pairwise_iff_getElem.1 h i k (by simp; omega) (by simp; omega) hik; simp only [List.getElem_map] at this
 exact this e
set_option maxRecDepth 100000 in
set_option maxHeartbeats 8000000 in
theorem gOne_c (lib : List FD) (i : Nat) (S : Nat → Prop) (a : Option Addr) (c : Nat) (w : World) (hl : LibFew lib) (hi : i < lib.length) (hs : FDs S w lib a) :
 Calls Tryz.prog 20 #[.slice a lib.length c, .int .i64 i] w (IntR w (fnErr lib i lib[i])) := by
 have X := Ext.refl w; replace hs := hs.ltA; have hL := hl.len; obtain ⟨m1, m2, m3, m4, m5⟩ := hl.all _ (List.getElem_mem hi); obtain ⟨fq, hfq, hqi⟩ := findF_mem hi; have hps := Lib.hid (fun f hf => (hl.all f hf).2.1); clear hl; have hs2 := hs; obtain ⟨kb, ko, ⟨⟩, hkS, hk⟩ := Arr.get hs2 (by omega); obtain ⟨pa, pc, ba, bc, hr, h1, h2⟩ := hk i lib[i] (List.getElem?_eq_getElem hi); clear hk hs2
 generalize lib[i] = f at *
 simp only [FD.cells] at hr
 have hdef : fnErr lib i f = if 30 ≤ i then 5 else if !funName f.name then 3 else if fq < i then 22
  else if paramErr f.params ≠ 0 then paramErr f.params
  else if !f.body.formed then 3 else if 80 < f.body.depth then 19 else if 2000 < f.body.size then 5
  else if (f.body.chk lib (f.params.map fun p => (p.name, p.list))).2 ≠ 0 then (f.body.chk lib (f.params.map fun p => (p.name, p.list))).2
  else if (f.body.chk lib (f.params.map fun p => (p.name, p.list))).1 ≠ f.list then 7 else 0 := by
  rw [fnErr, hfq]; rfl
 rw [hdef]; clear hdef; have HF := Lib.hid (gFind_v (findI_some hfq)); clear hfq
 by_cases c1 : 30 ≤ i
 · rw [if_pos c1]
   refine calls_in Tryz.func20 Tryz.ntmps20 rfl rfl ?_
   focus
    refine cS (C1 Pa (cN (C1 Mv (C1 Mv (C1 Pi (C1 (Pws hr) ?_)))))); (refine lw_alloc' [_, _, _, _, _, _, _] zOk rfl rfl ?_; intro b1 w2 n3); (refine lw_init' [_, _, _, _, _, _, _] tabOk rfl rfl rfl rfl rfl rfl n3 rfl ?_; clear n3; clear w2; intro w4 n3); have h5 := n3.blk; have x6 := n3.ext; have p7 := n3.pos; have z8 := n3.size; clear n3; replace X := X.ext x6; replace hs := hs.ext x6; replace hr := hr.ext x6; replace h1 := h1.ext x6; replace h2 := Nd.sits.ext h2 x6; clear x6; refine cT (cw_seq (cS (C1 Mv (C1 V6 (cT (Wyo (cS (C1 Pa (cT (cw_ret (qw_then_ret ?_))))))))))); refine qw_ret1 rfl rfl ?_; rotate_left 1
   exact intR rfl X
 rw [if_neg c1]
 cases hn : funName f.name
 · have HN := Lib.hid (gName_v hn)
   clear hn; simp only [Bool.not_false, if_true]; refine calls_in Tryz.func20 Tryz.ntmps20 rfl rfl ?_
   focus
    refine cS (C1 Pa (cN (C1 Mv (C1 Mv (C1 Pi (C1 (Pws hr) ?_)))))); (refine lw_alloc' [_, _, _, _, _, _, _] zOk rfl rfl ?_; intro ba1 wa2 na3); (refine lw_init' [_, _, _, _, _, _, _] tabOk rfl rfl rfl rfl rfl rfl na3 rfl ?_; clear na3; clear wa2; intro wa4 na3); have ha5 := na3.blk; have xa6 := na3.ext; have pa7 := na3.pos; have za8 := na3.size; clear na3; replace X := X.ext xa6; replace hs := hs.ext xa6; replace hr := hr.ext xa6; replace h1 := h1.ext xa6; replace h2 := Nd.sits.ext h2 xa6; clear xa6; refine cT (cw_seq (cS (C1 Mv (C1 V6 (cT (Wno (cw_skip (qw_then (cw_seq (cS (C1 Pg ?_))))))))))); refine C1 (Pl ha5) ?_; refine cC rfl (HN.out _ (by omega)) ?_; rintro _ wa10 ⟨⟨⟩, xa9⟩; have za11 := xa9.size; replace ha5 := ha5.ext xa9; replace X := X.ext xa9; replace hs := hs.ext xa9; replace hr := hr.ext xa9; replace h1 := h1.ext xa9; replace h2 := Nd.sits.ext h2 xa9; clear xa9; refine C1 Pt (cT (cw_cond_t rfl (cS (C1 Pa (cT (cw_ret (qw_then_ret (qw_ret1 rfl rfl ?_)))))))); rotate_left 1
   exact intR rfl X
 have HN := Lib.hid (gName_v hn); clear hn; simp only [Bool.not_true, Bool.false_eq_true, if_false]
 by_cases c3 : fq < i
 · rw [if_pos c3]
   refine calls_in Tryz.func20 Tryz.ntmps20 rfl rfl ?_
   focus
    refine cS (C1 Pa (cN (C1 Mv (C1 Mv (C1 Pi (C1 (Pws hr) ?_)))))); (refine lw_alloc' [_, _, _, _, _, _, _] zOk rfl rfl ?_; intro bb1 wb2 nb3); (refine lw_init' [_, _, _, _, _, _, _] tabOk rfl rfl rfl rfl rfl rfl nb3 rfl ?_; clear nb3; clear wb2; intro wb4 nb3); have hb5 := nb3.blk; have xb6 := nb3.ext; have pb7 := nb3.pos; have zb8 := nb3.size; clear nb3; replace X := X.ext xb6; replace hs := hs.ext xb6; replace hr := hr.ext xb6; replace h1 := h1.ext xb6; replace h2 := Nd.sits.ext h2 xb6; clear xb6; refine cT (cw_seq (cS (C1 Mv (C1 V6 (cT (Wno (cw_skip (qw_then (cw_seq (cS (C1 Pg ?_))))))))))); refine C1 (Pl hb5) ?_; refine cC rfl (HN.out _ (by omega)) ?_; rintro _ wb10 ⟨⟨⟩, xb9⟩; have zb11 := xb9.size; replace hb5 := hb5.ext xb9; replace X := X.ext xb9; replace hs := hs.ext xb9; replace hr := hr.ext xb9; replace h1 := h1.ext xb9; replace h2 := Nd.sits.ext h2 xb9; clear xb9; refine C1 Pt (cT (cw_cond_f rfl (cw_skip (qw_then (cw_seq (cS (C1 Mv (C1 Pg (C1 (Pl hb5) ?_))))))))); refine cC rfl (HF.out _ _ _ _ (by omega) (by assumption)) ?_; rintro _ wb13 ⟨⟨⟩, xb12⟩; have zb14 := xb12.size; replace hb5 := hb5.ext xb12; replace X := X.ext xb12; replace hs := hs.ext xb12; replace hr := hr.ext xb12; replace h1 := h1.ext xb12; replace h2 := Nd.sits.ext h2 xb12; clear xb12; refine C1 Mv (C1 V2 (cT (Wyo (cS (C1 Pa (cT (cw_ret (qw_then_ret (qw_ret1 rfl rfl ?_))))))))); rotate_left 1
   exact intR rfl X
 rw [if_neg c3]
 have hfi : fq = i := by omega
 subst hfi; have HM := Lib.hid m3
 by_cases c8 : 8 < f.params.length
 · rw [show paramErr f.params = 5 from if_pos c8, if_pos (by decide)]
   refine calls_in Tryz.func20 Tryz.ntmps20 rfl rfl ?_
   focus
    refine cS (C1 Pa (cN (C1 Mv (C1 Mv (C1 Pi (C1 (Pws hr) ?_)))))); (refine lw_alloc' [_, _, _, _, _, _, _] zOk rfl rfl ?_; intro bc1 wc2 nc3); (refine lw_init' [_, _, _, _, _, _, _] tabOk rfl rfl rfl rfl rfl rfl nc3 rfl ?_; clear nc3; clear wc2; intro wc4 nc3); have hc5 := nc3.blk; have xc6 := nc3.ext; have pc7 := nc3.pos; have zc8 := nc3.size; clear nc3; replace X := X.ext xc6; replace hs := hs.ext xc6; replace h1 := h1.ext xc6; replace h2 := Nd.sits.ext h2 xc6; replace hr := hr.ext xc6; clear xc6; refine cT (cw_seq (cS (C1 Mv (C1 V6 (cT (Wno (cw_skip (qw_then (cw_seq (cS (C1 Pg ?_))))))))))); refine C1 (Pl hc5) ?_; refine cC rfl (HN.out _ (by omega)) ?_; rintro _ wc10 ⟨⟨⟩, xc9⟩; have zc11 := xc9.size; replace hc5 := hc5.ext xc9; replace X := X.ext xc9; replace hs := hs.ext xc9; replace h1 := h1.ext xc9; replace h2 := Nd.sits.ext h2 xc9; replace hr := hr.ext xc9; clear xc9; refine C1 Pt (cT (cw_cond_f rfl (cw_skip (qw_then (cw_seq (cS (C1 Mv (C1 Pg (C1 (Pl hc5) ?_))))))))); refine cC rfl (HF.out _ _ _ _ (by omega) (by assumption)) ?_; rintro _ wc13 ⟨⟨⟩, xc12⟩; have zc14 := xc12.size; replace hc5 := hc5.ext xc12; replace X := X.ext xc12; replace hs := hs.ext xc12; replace h1 := h1.ext xc12; replace h2 := Nd.sits.ext h2 xc12; replace hr := hr.ext xc12; clear xc12; refine C1 Mv (C1 V2 (cT (Wno (cw_skip (qw_then (cw_seq (cS (C1 Pf (C1 (Pl hc5) (C1 Pz (C1 V5 ?_))))))))))); refine cT (Wyo (cS (C1 Pa (cT (cw_ret (qw_then_ret (qw_ret1 rfl rfl ?_))))))); rotate_left 1
   exact intR rfl X
 refine calls_in Tryz.func20 Tryz.ntmps20 rfl rfl ?_
 focus
  refine cS (C1 Pa (cN (C1 Mv (C1 Mv (C1 Pi (C1 (Pws hr) ?_)))))); (refine lw_alloc' [_, _, _, _, _, _, _] zOk rfl rfl ?_; intro bd1 wd2 nd3); (refine lw_init' [_, _, _, _, _, _, _] tabOk rfl rfl rfl rfl rfl rfl nd3 rfl ?_; clear nd3; clear wd2; intro wd4 nd3); have hd5 := nd3.blk; have xd6 := nd3.ext; have pd7 := nd3.pos; have zd8 := nd3.size; clear nd3; replace X := X.ext xd6; replace hs := hs.ext xd6; replace h1 := h1.ext xd6; replace h2 := Nd.sits.ext h2 xd6; replace hr := hr.ext xd6; clear xd6; refine cT (cw_seq (cS (C1 Mv (C1 V6 (cT (Wno (cw_skip (qw_then (cw_seq (cS (C1 Pg ?_))))))))))); refine C1 (Pl hd5) ?_; refine cC rfl (HN.out _ (by omega)) ?_; rintro _ wd10 ⟨⟨⟩, xd9⟩; have zd11 := xd9.size; replace hd5 := hd5.ext xd9; replace X := X.ext xd9; replace hs := hs.ext xd9; replace h1 := h1.ext xd9; replace h2 := Nd.sits.ext h2 xd9; replace hr := hr.ext xd9; clear xd9; refine C1 Pt (cT (cw_cond_f rfl (cw_skip (qw_then (cw_seq (cS (C1 Mv (C1 Pg (C1 (Pl hd5) ?_))))))))); refine cC rfl (HF.out _ _ _ _ (by omega) (by assumption)) ?_; rintro _ wd13 ⟨⟨⟩, xd12⟩; have zd14 := xd12.size; replace hd5 := hd5.ext xd12; replace X := X.ext xd12; replace hs := hs.ext xd12; replace h1 := h1.ext xd12; replace h2 := Nd.sits.ext h2 xd12; replace hr := hr.ext xd12; clear xd12; refine C1 Mv (C1 V2 (cT (Wno (cw_skip (qw_then (cw_seq (cS (C1 Pf (C1 (Pl hd5) (C1 Pz (C1 V5 ?_))))))))))); refine cT (Wno (cw_skip (qw_then (cw_seq (cS (C1 Pa (cT (cw_block ?_)))))))); rotate_left 1
 clear hr HN HF; refine cw_loop (ι := Nat) (fun j => [(0, .slice (some ⟨kb, ko, none⟩) lib.length c), (1, .int .i64 fq), (5, .pointer (some ⟨bd1, 0, none⟩)), (6, .int .i64 j)]) (fun j w' => Blk w' bd1 [str f.name, .slice pa f.params.length pc, .bool f.list, .int .u8 f.body.kind, .int .i64 f.body.num, str f.body.name, .slice ba f.body.kids.length bc] ∧ Ext w w' ∧ FDs (· < w.heap.size) w' lib (some ⟨kb, ko, none⟩) ∧ FPs (· < w.heap.size) w' f.params pa ∧ f.body.sits (· < w.heap.size) w' ba ∧ bd1 < w'.heap.size ∧ j ≤ f.params.length ∧ ∀ i (hi : i < f.params.length), i < j → funName f.params[i].name = true) (fun j => f.params.length - j) 0 (by (refine sub_cons rfl ?_; refine sub_cons rfl ?_; refine sub_cons rfl ?_; refine sub_cons rfl ?_; exact sub_nil)) ⟨hd5, X, hs, h1, h2, by omega, Nat.zero_le _, fun i _ h => by omega⟩ ?_; clear hd5 X hs h1 h2; rintro j w1 ⟨hb, X, hs, h1, h2, hz, hj, hall⟩; have HA := Lib.hid hall; clear hall
 by_cases hlt : j < f.params.length
 · have h12 := h1
   obtain ⟨ub, uo, hpa, -, huk⟩ := Arr.get h12 (by omega); subst hpa; have r1 : Row w1 ⟨ub, uo + j * 2, none⟩ f.params[j].cells := huk j _ (List.getElem?_eq_getElem hlt); have hnl := m3 _ (List.getElem_mem hlt); have HE3 := Lib.hid (paramErr_3 c8 hlt)
   have HNX := Lib.hid (fun (h : funName f.params[j].name = true) (i : Nat) (hi : i < f.params.length) (h2 : i < j + 1) => if h3 : i < j then HA.out i hi h3 else (by
    obtain rfl : i = j := by omega
    exact h : funName f.params[i].name = true))
   clear huk h12 HA
   generalize f.params[j] = y at *
   cases hn : funName y.name
   · have HN := Lib.hid (gName_v hn)
     have HQ := Lib.hid (HE3.out hn); clear hn HE3 HNX
     focus
      refine cw_seq (cS (C1 Mv (C1 Pf (C1 (Pl hb) (C1 Pz (C1 V3 (cT (Wyo (cw_skip (qw_then (cw_seq ?_))))))))))); refine cw_block (cS (C1 Pf (C1 (Pl hb) (C1 Mv (C1 Pi (C1 Pg (C1 (Pw0 r1) ?_))))))); refine cC rfl (HN.out _ (by omega)) ?_; rintro _ we2 ⟨⟨⟩, xe1⟩; have ze3 := xe1.size; replace X := X.ext xe1; replace hs := hs.ext xe1; replace h2 := Nd.sits.ext h2 xe1; replace hb := hb.ext xe1; replace h1 := h1.ext xe1; replace r1 := r1.ext xe1; clear xe1; refine C1 Pt (cT (cw_cond_t rfl (cS (C1 Pa (cT (cw_ret (qw_block_ret (qw_then_ret (qw_then_ret (qw_block_ret (qw_then_ret ?_))))))))))); refine qw_ret1 rfl rfl ?_; rotate_left 1
     exact intR (by rw [HQ.out]; rfl) X
   · have HN := Lib.hid (gName_v hn)
     have HQ := Lib.hid (HNX.out hn); clear hn HE3 HNX
     focus
      refine cw_seq (cS (C1 Mv (C1 Pf (C1 (Pl hb) (C1 Pz (C1 V3 (cT (Wyo (cw_skip (qw_then (cw_seq ?_))))))))))); refine cw_block (cS (C1 Pf (C1 (Pl hb) (C1 Mv (C1 Pi (C1 Pg (C1 (Pw0 r1) ?_))))))); refine cC rfl (HN.out _ (by omega)) ?_; rintro _ wf2 ⟨⟨⟩, xf1⟩; have zf3 := xf1.size; replace X := X.ext xf1; replace hs := hs.ext xf1; replace h2 := Nd.sits.ext h2 xf1; replace hb := hb.ext xf1; replace h1 := h1.ext xf1; replace r1 := r1.ext xf1; clear xf1; refine C1 Pt (cT (cw_cond_f rfl (cw_skip (qw_block_norm (qw_then (cw_region (C1 Mv (C1 V7 (C1 Pa (lw_nil ?_)))))))))); rotate_left 1
     exact qw_round (j + 1) (by (refine sub_cons rfl ?_; refine sub_cons rfl ?_; refine sub_cons rfl ?_; refine sub_cons rfl ?_; exact sub_nil)) ⟨hb, X, hs, h1, h2, by omega, by omega, HQ.out⟩ (by omega)
 have hje : j = f.params.length := by omega
 subst hje; have HPA := Lib.hid (paramErr_all c8 (fun i hi => HA.out i hi hi)); clear HA
 focus
  refine cw_seq (cS (C1 Mv (C1 Pf (C1 (Pl hb) (C1 Pz (C1 V3 (cT (Wno (cw_exit (qw_then_exit (qw_then_exit ?_))))))))))); refine qw_block_exit (qw_then (cw_seq (cS (C1 Pa (cT (cw_block ?_)))))); rotate_left 1
 refine cw_loop (ι := Nat) (fun k => [(0, .slice (some ⟨kb, ko, none⟩) lib.length c), (1, .int .i64 fq), (5, .pointer (some ⟨bd1, 0, none⟩)), (7, .int .i64 k)]) (fun k w' => Blk w' bd1 [str f.name, .slice pa f.params.length pc, .bool f.list, .int .u8 f.body.kind, .int .i64 f.body.num, str f.body.name, .slice ba f.body.kids.length bc] ∧ Ext w w' ∧ FDs (· < w.heap.size) w' lib (some ⟨kb, ko, none⟩) ∧ FPs (· < w.heap.size) w' f.params pa ∧ f.body.sits (· < w.heap.size) w' ba ∧ bd1 < w'.heap.size ∧ k ≤ f.params.length ∧ ((f.params.take k).map FP.name).Nodup) (fun k => f.params.length - k) 0 (by (refine sub_cons rfl ?_; refine sub_cons rfl ?_; refine sub_cons rfl ?_; refine sub_cons rfl ?_; exact sub_nil)) ⟨hb, X, hs, h1, h2, hz, Nat.zero_le _, by simp⟩ ?_; clear hb X hs h1 h2 hz; rintro k w2 ⟨hb, X, hs, h1, h2, hz, hk, hnd⟩; have HD := Lib.hid hnd; clear hnd
 by_cases hlt2 : k < f.params.length
 · focus
    refine cw_seq (cS (C1 Mv (C1 Pf (C1 (Pl hb) (C1 Pz (C1 V3 (cT (Wyo (cw_skip (qw_then (cw_seq ?_))))))))))); refine cw_block (cS (C1 Pa (cT (cw_block ?_)))); rotate_left 1
   refine cw_loop (ι := Nat) (fun j => [(0, .slice (some ⟨kb, ko, none⟩) lib.length c), (1, .int .i64 fq), (5, .pointer (some ⟨bd1, 0, none⟩)), (7, .int .i64 k), (8, .int .i64 j)]) (fun j w' => Blk w' bd1 [str f.name, .slice pa f.params.length pc, .bool f.list, .int .u8 f.body.kind, .int .i64 f.body.num, str f.body.name, .slice ba f.body.kids.length bc] ∧ Ext w w' ∧ FDs (· < w.heap.size) w' lib (some ⟨kb, ko, none⟩) ∧ FPs (· < w.heap.size) w' f.params pa ∧ f.body.sits (· < w.heap.size) w' ba ∧ bd1 < w'.heap.size ∧ j ≤ k ∧ ∀ i (hi : i < f.params.length), i < j → f.params[i].name ≠ f.params[k].name) (fun j => k - j) 0 (by (refine sub_cons rfl ?_; refine sub_cons rfl ?_; refine sub_cons rfl ?_; refine sub_cons rfl ?_; refine sub_cons rfl ?_; exact sub_nil)) ⟨hb, X, hs, h1, h2, hz, Nat.zero_le _, fun i _ h => by omega⟩ ?_; clear hb X hs h1 h2 hz; rintro j w3 ⟨hb, X, hs, h1, h2, hz, hj, hall⟩; have HA := Lib.hid hall; clear hall
   by_cases hlt3 : j < k
   · have h12 := h1
     obtain ⟨ub, uo, hpa, -, huk⟩ := Arr.get h12 (by omega); subst hpa
     have hjp : j < f.params.length := by omega
     have r1 : Row w3 ⟨ub, uo + j * 2, none⟩ f.params[j].cells := huk j _ (List.getElem?_eq_getElem hjp); have r2 : Row w3 ⟨ub, uo + k * 2, none⟩ f.params[k].cells := huk k _ (List.getElem?_eq_getElem hlt2)
     have HNX := Lib.hid (fun (h : f.params[j].name ≠ f.params[k].name) (i : Nat) (hi : i < f.params.length) (h2 : i < j + 1) => if h3 : i < j then HA.out i hi h3 else (by
      obtain rfl : i = j := by omega
      exact h : f.params[i].name ≠ f.params[k].name))
     have HNN := Lib.hid (fun h => nodup_not hlt2 hlt3 h); clear huk h12 HA
     generalize f.params[j] = y at *
     generalize f.params[k] = z at *
     by_cases hyz : y.name = z.name
     · have HQ := Lib.hid (HNN.out hyz)
       clear HNX HNN
       focus
        refine cw_seq (cS (C1 Mv (C1 Mv (C1 V3 (cT (Wyo (cw_skip (qw_then (cw_seq (cw_block (cw_seq ?_))))))))))); (refine cw_tdraw (fun wz => Ext w3 wz) 12 (.pure 0 (.pure 1 (.pure 2 (.pure 3 (.pure 4 (.pure 5 (.pure 6 (.pure 7 (.pure 8 (.pure 9 (.pure 10 (.pure 11 .tail)))))))))))) mixed (by kernel_rfl) (panicOk_then (panicOk_block (panicOk_then (panicOk_then (panicOk_block (panicOk_block (panicOk_then (panicOk_then (panicOk_block (panicOk_then panicOk_body)))))))))) ?_; intro wi1 xi2 _); have qsi3 : (fun wz => Ext w3 wz) wi1 := xi2; simp only at qsi3; have d_hs := hs; have d_h2 := h2; have d_hb := hb; have d_h1 := h1; have d_r1 := r1; have d_r2 := r2; have zi4 := xi2.size; replace X := X.ext xi2; replace hs := hs.ext xi2; replace h2 := Nd.sits.ext h2 xi2; replace hb := hb.ext xi2; replace h1 := h1.ext xi2; replace r1 := r1.ext xi2; replace r2 := r2.ext xi2; clear xi2; refine ⟨qsi3, ?_⟩; refine Tq rfl Pf (Tq rfl (Db d_hb) (Tq rfl Mv (Tq rfl Pi (Tq rfl Pg (Tq rfl (pur_load tabOk rfl rfl rfl (fun wz hz => Row.at0 (Row.ext d_r1 hz) rfl)) (Tq rfl Pf (Tq rfl (Db d_hb) (Tq rfl Mv (Tq rfl Pi (Tq rfl Pg (Tq rfl (pur_load tabOk rfl rfl rfl (fun wz hz => Row.at0 (Row.ext d_r2 hz) rfl)) ?_))))))))))); clear qsi3 d_hs d_h2 d_hb d_h1 d_r1 d_r2; refine tw_tail rfl (C1 V8 (cT (Wya (cS (C1 Pa (cT (cw_ret (qw_block_ret (qw_then_ret (qw_then_ret (qw_block_ret ?_))))))))))); refine qw_block_ret (qw_then_ret (qw_then_ret (qw_block_ret (qw_then_ret (qw_ret1 rfl rfl ?_))))); rotate_left 1
       exact intR (by rw [HPA.out, if_neg HQ.out]; rfl) X
     · have HQ := Lib.hid (HNX.out hyz)
       clear HNX HNN
       focus
        refine cw_seq (cS (C1 Mv (C1 Mv (C1 V3 (cT (Wyo (cw_skip (qw_then (cw_seq (cw_block (cw_seq ?_))))))))))); (refine cw_tdraw (fun wz => Ext w3 wz) 12 (.pure 0 (.pure 1 (.pure 2 (.pure 3 (.pure 4 (.pure 5 (.pure 6 (.pure 7 (.pure 8 (.pure 9 (.pure 10 (.pure 11 .tail)))))))))))) mixed (by kernel_rfl) (panicOk_then (panicOk_block (panicOk_then (panicOk_then (panicOk_block (panicOk_block (panicOk_then (panicOk_then (panicOk_block (panicOk_then panicOk_body)))))))))) ?_; intro wj1 xj2 _); have qsj3 : (fun wz => Ext w3 wz) wj1 := xj2; simp only at qsj3; have d_hs := hs; have d_h2 := h2; have d_hb := hb; have d_h1 := h1; have d_r1 := r1; have d_r2 := r2; have zj4 := xj2.size; replace X := X.ext xj2; replace hs := hs.ext xj2; replace h2 := Nd.sits.ext h2 xj2; replace hb := hb.ext xj2; replace h1 := h1.ext xj2; replace r1 := r1.ext xj2; replace r2 := r2.ext xj2; clear xj2; refine ⟨qsj3, ?_⟩; refine Tq rfl Pf (Tq rfl (Db d_hb) (Tq rfl Mv (Tq rfl Pi (Tq rfl Pg (Tq rfl (pur_load tabOk rfl rfl rfl (fun wz hz => Row.at0 (Row.ext d_r1 hz) rfl)) (Tq rfl Pf (Tq rfl (Db d_hb) (Tq rfl Mv (Tq rfl Pi (Tq rfl Pg (Tq rfl (pur_load tabOk rfl rfl rfl (fun wz hz => Row.at0 (Row.ext d_r2 hz) rfl)) ?_))))))))))); clear qsj3 d_hs d_h2 d_hb d_h1 d_r1 d_r2; refine tw_tail rfl (C1 V8 (cT (Wna (cw_skip (qw_block_norm (qw_then (cw_region (C1 Mv (C1 V7 (C1 Pa (lw_nil ?_))))))))))); rotate_left 1
       exact qw_round (j + 1) (by (refine sub_cons rfl ?_; refine sub_cons rfl ?_; refine sub_cons rfl ?_; refine sub_cons rfl ?_; refine sub_cons rfl ?_; exact sub_nil)) ⟨hb, X, hs, h1, h2, by omega, by omega, HQ.out⟩ (by omega)
   · have hje : j = k := by omega
     subst hje; have HQ := Lib.hid (nodup_take hlt2 HD.out HA.out); clear HA HD
     focus
      refine cw_seq (cS (C1 Mv (C1 Mv (C1 V3 (cT (Wno (cw_exit (qw_then_exit (qw_then_exit (qw_block_exit (qw_block_norm ?_))))))))))); refine qw_then (cw_region (C1 Mv (C1 V7 (C1 Pa (lw_nil ?_))))); rotate_left 1
     exact qw_round (j + 1) (by (refine sub_cons rfl ?_; refine sub_cons rfl ?_; refine sub_cons rfl ?_; refine sub_cons rfl ?_; exact sub_nil)) ⟨hb, X, hs, h1, h2, by omega, by omega, HQ.out⟩ (by omega)
 have hke : k = f.params.length := by omega
 subst hke; have hnd := HD.out; rw [List.take_length] at hnd; have HPZ := Lib.hid (show paramErr f.params = 0 by rw [HPA.out, if_pos hnd]); have HCV := Lib.hid (chk_visR (lib := lib) f.body f.params hnd); have HW := Lib.hid m5; clear HD HPA hnd m5 m3
 cases hf : f.body.formed
 · have HG := Lib.hid (gForm_v hf)
   clear hf
   focus
    refine cw_seq (cS (C1 Mv (C1 Pf (C1 (Pl hb) (C1 Pz (C1 V3 (cT (Wno (cw_exit (qw_then_exit (qw_then_exit ?_))))))))))); refine qw_block_exit (qw_then (cw_seq (cS (C1 Pf (lw_loads_b' [_, _, _, _] tabOk rfl rfl rfl hb rfl rfl rfl ?_))))); refine cC rfl (HG.out (by omega) HW.out _ _ _ _ (by assumption)) ?_; rintro _ wl2 ⟨⟨⟩, xl1⟩; have zl3 := xl1.size; replace hb := hb.ext xl1; replace X := X.ext xl1; replace hs := hs.ext xl1; replace h1 := h1.ext xl1; replace h2 := Nd.sits.ext h2 xl1; clear xl1; refine C1 Pt (cT (cw_cond_t rfl (cS (C1 Pa (cT (cw_ret (qw_then_ret (qw_ret1 rfl rfl ?_)))))))); rotate_left 1
   exact intR (by rw [HPZ.out]; rfl) X
 · have HG := Lib.hid (gForm_v hf)
   have HC := Lib.hid (fun SL SV S la va a lc vc c w h1 h2 h3 => Calls.mono (gCheck_c lib hL hps.out (f.body.size + 1) f.body f.params SL SV S la va a lc vc c w (by omega) (by omega) (by omega) HW.out hf h1 h2 h3) (fun e w' h => (h : e = .returned (.tuple #[.bool (f.body.chk lib (visR f.params)).1, .int .i64 (f.body.chk lib (visR f.params)).2]) ∧ Ext w w'))); rw [HCV.out] at HC; have HDp := Lib.hid (fun (S : Nat → Prop) (a : Option Addr) (c : Nat) (w : World) (hs : f.body.sits S w a) => gDepth_c (f.body.size + 1) f.body S a c w (by omega) (by omega) hs); have HSz := Lib.hid (fun (S : Nat → Prop) (a : Option Addr) (c : Nat) (w : World) (hs : f.body.sits S w a) => gSize_c (f.body.size + 1) f.body S a c w (by omega) (by omega) hs); clear hf HCV
   generalize f.body.chk lib (f.params.map fun p => (p.name, p.list)) = q at *
   obtain ⟨qb, qe⟩ := q; (try dsimp only at HC)
   focus
    refine cw_seq (cS (C1 Mv (C1 Pf (C1 (Pl hb) (C1 Pz (C1 V3 (cT (Wno (cw_exit (qw_then_exit (qw_then_exit ?_))))))))))); refine qw_block_exit (qw_then (cw_seq (cS (C1 Pf (lw_loads_b' [_, _, _, _] tabOk rfl rfl rfl hb rfl rfl rfl ?_))))); refine cC rfl (HG.out (by omega) HW.out _ _ _ _ (by assumption)) ?_; rintro _ wm2 ⟨⟨⟩, xm1⟩; have zm3 := xm1.size; replace hb := hb.ext xm1; replace X := X.ext xm1; replace hs := hs.ext xm1; replace h1 := h1.ext xm1; replace h2 := Nd.sits.ext h2 xm1; clear xm1; refine C1 Pt (cT (cw_cond_f rfl (cw_skip (qw_then (cw_seq (cS (C1 Pf (lw_loads_b' [_, _, _, _] tabOk rfl rfl rfl hb rfl rfl rfl ?_)))))))); refine cC rfl (HDp.out _ _ _ _ (by assumption)) ?_; rintro _ wm5 ⟨⟨⟩, xm4⟩; have zm6 := xm4.size; replace hb := hb.ext xm4; replace X := X.ext xm4; replace hs := hs.ext xm4; replace h1 := h1.ext xm4; replace h2 := Nd.sits.ext h2 xm4; clear xm4; refine C1 V5 (cT ?_); refine cw_dec rfl (fun cm7 => ?_) (fun cm7 => ?_); refine cS (C1 Pa (cT (cw_ret (qw_then_ret (qw_ret1 rfl rfl ?_))))); rotate_left 1; refine cw_skip (qw_then (cw_seq (cS (C1 Pf (lw_loads_b' [_, _, _, _] tabOk rfl rfl rfl hb rfl rfl rfl ?_))))); refine cC rfl (HSz.out _ _ _ _ (by assumption)) ?_; rintro _ wm9 ⟨⟨⟩, xm8⟩; have zm10 := xm8.size; replace hb := hb.ext xm8; replace X := X.ext xm8; replace hs := hs.ext xm8; replace h1 := h1.ext xm8; replace h2 := Nd.sits.ext h2 xm8; clear xm8; refine C1 V5 (cT ?_); refine cw_dec rfl (fun cm11 => ?_) (fun cm11 => ?_); refine cS (C1 Pa (cT (cw_ret (qw_then_ret (qw_ret1 rfl rfl ?_)))))
    rotate_left 1; refine cw_skip (qw_then (cS (C1 Mv (C1 Pf (C1 (Pl hb) (C1 Pf (lw_loads_b' [_, _, _, _] tabOk rfl rfl rfl hb rfl rfl rfl ?_))))))); refine cC rfl (HC.out _ _ _ _ _ _ _ _ _ _ (by assumption) (by assumption) (by assumption)) ?_; rintro _ wm13 ⟨⟨⟩, xm12⟩; have zm14 := xm12.size; replace hb := hb.ext xm12; replace X := X.ext xm12; replace hs := hs.ext xm12; replace h1 := h1.ext xm12; replace h2 := Nd.sits.ext h2 xm12; clear xm12; refine C1 Mv (C1 Px (C1 Px (C1 Pa (C1 Pa (cT (cw_seq (cS (C1 Mv (C1 V2 (cT ?_)))))))))); refine cw_decn rfl (fun cm15 => ?_) (fun cm15 => ?_); refine cS (C1 Mv (C1 Pa (cT (cw_ret (qw_then_ret (qw_ret1 rfl rfl ?_)))))); rotate_left 1; refine cw_skip (qw_then (cw_seq (cS (C1 Mv (C1 Pf (C1 (Pl hb) (C1 (pur_bneqF tabOk rfl rfl rfl) (cT ?_)))))))); refine cw_decn rfl (fun cm16 => ?_) (fun cm16 => ?_); refine cS (C1 Pa (cT (cw_ret (qw_then_ret (qw_ret1 rfl rfl ?_))))); rotate_left 1; refine cw_skip (qw_then (cS (C1 Pa (cT (cw_ret (qw_ret1 rfl rfl ?_)))))); rotate_left 1
   all_goals exact intR (by rw [HPZ.out]; (try dsimp only); (repeat' split); all_goals first | rfl | (exfalso; omega) | contradiction | (simp_all; done)) X
end Bk
