/- Texts that the proofs of ParserLimits need. No condition. (Part 4 of 5.) -/
import Derived.Test.YtihgojmblldifaaDoorPLim3
set_option linter.unusedSimpArgs false
set_option linter.unusedVariables false
namespace Bk
open Go Go.RowKit Go.Proofs
attribute [local irreducible] Go.Calls
set_option maxRecDepth 100000 in
set_option maxHeartbeats 1000000 in
theorem limit_c (c : PC) (σ : PS) (t : Nd) (S : Nat → Prop) (a : Option Addr) (k : Nat) (off : Int) (w : World) (hP : PP c σ w) (hz : t.size ≤ 1000000000) (hs : t.sits S w a) :
 Calls Tryd.prog 45 #[.pointer (some ⟨c.pb, 0, none⟩), t.val a k, .int .i64 off] w fun r w' => r = .returned (.tuple #[]) ∧ PP c (limitP t off σ) w' ∧ Fr (· = c.pb) w w' := by
 have X := Fr.refl (· = c.pb) w; have hpb := hP.pbB; have hB := hP.B
 by_cases h0 : σ.err = 0
 · by_cases hd : 80 < t.depth
   · rw [show limitP t off σ = failP σ off 19 from by simp [limitP, h0, hd]]
     refine calls_in Tryd.func45 Tryd.ntmps45 rfl rfl ?_
     focus
      refine cS ?_; (refine lw_box' [_, _, _, _] rfl rfl rfl ?_; intro b1 w2 n3); have h4 := n3.blk; have x5 := n3.ext; have p6 := n3.pos; have z7 := n3.size; clear n3; replace hP := hP.ext x5; replace hs := Nd.sits.ext hs x5; replace X := X.ext x5; clear x5; refine cT (cw_block (cS (cM rfl rfl (lw_pure (pur_nilCheck rfl) rfl (lw_pure (pur_fieldAddr tabOk rfl rfl rfl) rfl (lw_load_b tabOk rfl rfl rfl (PP.blk hP) rfl rfl (lw_pure (pur_neq rfl rfl) rfl (cA rfl rfl (cT ?_))))))))); refine cw_no rfl (by omega) ?_; refine cS (lw_loads_b' [_, _, _, _] tabOk rfl rfl rfl h4 rfl rfl rfl ?_); refine cC (by kernel_rfl) rfl (Depth_c _ _ _ _ _ _ (Nat.lt_succ_self _) (by omega) (by assumption)) rfl ?_; rintro _ w9 ⟨⟨⟩, x8⟩; have z10 := x8.size; replace h4 := h4.ext x8; replace hP := hP.ext x8; replace hs := Nd.sits.ext hs x8; replace X := X.ext x8; clear x8; refine lw_pure (pur_gtr rfl rfl) rfl (cA rfl rfl (cT ?_)); refine cw_yes rfl (by assumption) ?_; refine cw_region (cM rfl rfl (cM rfl rfl ?_)); refine cC (by kernel_rfl) rfl (fail_c _ _ _ _ _ (by assumption)) rfl ?_; rintro _ w13 ⟨⟨⟩, ⟨h11, f12⟩⟩; have z14 := f12.size; replace h4 := h4.fr f12 (by omega); clear hP hs; replace X := X.fr f12 (by omega); clear f12; refine lw_nil (qw_block_norm (qw_end0 rfl ?_)); rotate_left 1
     exact ⟨rfl, by assumption, X⟩
   · by_cases h2 : 2000 < t.size
     · rw [show limitP t off σ = failP σ off 5 from by simp [limitP, h0, hd, h2]]
       refine calls_in Tryd.func45 Tryd.ntmps45 rfl rfl ?_
       focus
        refine cS ?_; (refine lw_box' [_, _, _, _] rfl rfl rfl ?_; intro ba1 wa2 na3); have ha4 := na3.blk; have xa5 := na3.ext; have pa6 := na3.pos; have za7 := na3.size; clear na3; replace hP := hP.ext xa5; replace hs := Nd.sits.ext hs xa5; replace X := X.ext xa5; clear xa5; refine cT (cw_block (cS (cM rfl rfl (lw_pure (pur_nilCheck rfl) rfl (lw_pure (pur_fieldAddr tabOk rfl rfl rfl) rfl (lw_load_b tabOk rfl rfl rfl (PP.blk hP) rfl rfl (lw_pure (pur_neq rfl rfl) rfl (cA rfl rfl (cT ?_))))))))); refine cw_no rfl (by omega) ?_; refine cS (lw_loads_b' [_, _, _, _] tabOk rfl rfl rfl ha4 rfl rfl rfl ?_); refine cC (by kernel_rfl) rfl (Depth_c _ _ _ _ _ _ (Nat.lt_succ_self _) (by omega) (by assumption)) rfl ?_; rintro _ wa9 ⟨⟨⟩, xa8⟩; have za10 := xa8.size; replace ha4 := ha4.ext xa8; replace hP := hP.ext xa8; replace hs := Nd.sits.ext hs xa8; replace X := X.ext xa8; clear xa8; refine lw_pure (pur_gtr rfl rfl) rfl (cA rfl rfl (cT ?_)); refine cw_no rfl (by assumption) ?_; refine cS (lw_loads_b' [_, _, _, _] tabOk rfl rfl rfl ha4 rfl rfl rfl ?_); refine cC (by kernel_rfl) rfl (Size_c _ _ _ _ _ _ (Nat.lt_succ_self _) (by omega) (by assumption)) rfl ?_; rintro _ wa12 ⟨⟨⟩, xa11⟩; have za13 := xa11.size; replace ha4 := ha4.ext xa11; replace hP := hP.ext xa11; replace hs := Nd.sits.ext hs xa11; replace X := X.ext xa11; clear xa11; refine lw_pure (pur_gtr rfl rfl) rfl (cA rfl rfl (cT ?_)); refine cw_yes rfl (by omega) ?_; refine cw_region (cM rfl rfl (cM rfl rfl ?_)); refine cC (by kernel_rfl) rfl (fail_c _ _ _ _ _ (by assumption)) rfl ?_
        rintro _ wa16 ⟨⟨⟩, ⟨ha14, fa15⟩⟩; have za17 := fa15.size; replace ha4 := ha4.fr fa15 (by omega); clear hP hs; replace X := X.fr fa15 (by omega); clear fa15; refine lw_nil (qw_block_norm (qw_end0 rfl ?_)); rotate_left 1
       exact ⟨rfl, by assumption, X⟩
     · rw [show limitP t off σ = σ from by simp [limitP, h0, hd, h2]]
       refine calls_in Tryd.func45 Tryd.ntmps45 rfl rfl ?_
       focus
        refine cS ?_; (refine lw_box' [_, _, _, _] rfl rfl rfl ?_; intro bb1 wb2 nb3); have hb4 := nb3.blk; have xb5 := nb3.ext; have pb6 := nb3.pos; have zb7 := nb3.size; clear nb3; replace hP := hP.ext xb5; replace hs := Nd.sits.ext hs xb5; replace X := X.ext xb5; clear xb5; refine cT (cw_block (cS (cM rfl rfl (lw_pure (pur_nilCheck rfl) rfl (lw_pure (pur_fieldAddr tabOk rfl rfl rfl) rfl (lw_load_b tabOk rfl rfl rfl (PP.blk hP) rfl rfl (lw_pure (pur_neq rfl rfl) rfl (cA rfl rfl (cT ?_))))))))); refine cw_no rfl (by omega) ?_; refine cS (lw_loads_b' [_, _, _, _] tabOk rfl rfl rfl hb4 rfl rfl rfl ?_); refine cC (by kernel_rfl) rfl (Depth_c _ _ _ _ _ _ (Nat.lt_succ_self _) (by omega) (by assumption)) rfl ?_; rintro _ wb9 ⟨⟨⟩, xb8⟩; have zb10 := xb8.size; replace hb4 := hb4.ext xb8; replace hP := hP.ext xb8; replace hs := Nd.sits.ext hs xb8; replace X := X.ext xb8; clear xb8; refine lw_pure (pur_gtr rfl rfl) rfl (cA rfl rfl (cT ?_)); refine cw_no rfl (by assumption) ?_; refine cS (lw_loads_b' [_, _, _, _] tabOk rfl rfl rfl hb4 rfl rfl rfl ?_); refine cC (by kernel_rfl) rfl (Size_c _ _ _ _ _ _ (Nat.lt_succ_self _) (by omega) (by assumption)) rfl ?_; rintro _ wb12 ⟨⟨⟩, xb11⟩; have zb13 := xb11.size; replace hb4 := hb4.ext xb11; replace hP := hP.ext xb11; replace hs := Nd.sits.ext hs xb11; replace X := X.ext xb11; clear xb11; refine lw_pure (pur_gtr rfl rfl) rfl (cA rfl rfl (cT ?_)); refine cw_no rfl (by omega) ?_; refine cw_skip (qw_block_norm (qw_end0 rfl ?_)); rotate_left 1
       exact ⟨rfl, by assumption, X⟩
 · rw [show limitP t off σ = σ from by simp [limitP, h0]]
   refine calls_in Tryd.func45 Tryd.ntmps45 rfl rfl ?_
   focus
    refine cS ?_; (refine lw_box' [_, _, _, _] rfl rfl rfl ?_; intro bc1 wc2 nc3); have hc4 := nc3.blk; have xc5 := nc3.ext; have pc6 := nc3.pos; have zc7 := nc3.size; clear nc3; replace hP := hP.ext xc5; replace hs := Nd.sits.ext hs xc5; replace X := X.ext xc5; clear xc5; refine cT (cw_block (cS (cM rfl rfl (lw_pure (pur_nilCheck rfl) rfl (lw_pure (pur_fieldAddr tabOk rfl rfl rfl) rfl (lw_load_b tabOk rfl rfl rfl (PP.blk hP) rfl rfl (lw_pure (pur_neq rfl rfl) rfl (cA rfl rfl (cT ?_))))))))); refine cw_yes rfl (by assumption) ?_; refine cw_skip (qw_block_norm (qw_end0 rfl ?_)); rotate_left 1
   exact ⟨rfl, by assumption, X⟩
set_option maxRecDepth 100000 in
set_option maxHeartbeats 1000000 in
theorem body_c (c : PC) (k : Nat) (σ : PS) (w : World) (hP : PP c σ w) (hk : 4 * mS c.ts σ + 8 ≤ k) :
 Calls Tryd.prog 35 #[.pointer (some ⟨c.pb, 0, none⟩)] w (TreeR c w (bodyP c.ts c.n k σ)) := by
 have X := Fr.refl (· = c.pb) w; have hpb := hP.pbB; have hB := hP.B; have hlen := hP.len; have hbs := block_size (n := c.n) (k := k) hP.at_
 unfold bodyP
 refine calls_in Tryd.func35 Tryd.ntmps35 rfl rfl ?_
 focus
  refine cS ?_; (refine lw_alloc' [_, _, _, _] zOk rfl rfl ?_; intro b1 w2 n3); have h5 := n3.blk; have x6 := n3.ext; have p7 := n3.pos; have z8 := n3.size; clear n3; replace hP := hP.ext x6; replace X := X.ext x6; clear x6; refine cN (cM rfl rfl ?_); refine cC (by kernel_rfl) rfl (peek_c _ _ _ (by assumption)) rfl ?_; rintro _ w10 ⟨⟨⟩, x9⟩; have z11 := x9.size; replace h5 := h5.ext x9; replace hP := hP.ext x9; replace X := X.ext x9; clear x9; refine lw_pure (pur_field tabOk rfl rfl rfl rfl rfl rfl) rfl (cA rfl rfl (cN (cM rfl rfl ?_))); refine cR (by kernel_rfl) rfl ((stmts_c c k).block _ _ (by assumption) hk) (fun _ _ h => h.ret) rfl ?_; rintro _ w17 ⟨a12, ⟨k13, ⟨⟨⟩, ⟨h14, ⟨h15, f16⟩⟩⟩⟩⟩; have z18 := f16.size; replace h5 := h5.fr f16 (by omega); clear hP; replace X := X.fr f16 (by omega); clear f16; (refine lw_alloc' [_, _, _, _] zOk rfl rfl ?_; intro b19 w20 n21); (refine lw_init' [_, _, _, _] tabOk rfl rfl rfl rfl rfl rfl n21 rfl ?_; clear n21; clear w20; intro w22 n21); have h23 := n21.blk; have x24 := n21.ext; have p25 := n21.pos; have z26 := n21.size; clear n21; replace h14 := Nd.sits.ext h14 x24; replace h15 := h15.ext x24; replace h5 := h5.ext x24; replace X := X.ext x24; clear x24; refine cN (cM rfl rfl (lw_loads_b' [_, _, _, _] tabOk rfl rfl rfl h23 rfl rfl rfl (cM rfl rfl ?_))); refine cC (by kernel_rfl) rfl (limit_c _ _ _ _ _ _ _ _ (by assumption) (by omega) (by assumption)) rfl ?_; rintro _ w29 ⟨⟨⟩, ⟨h27, f28⟩⟩; have z30 := f28.size; replace h23 := h23.fr f28 (by omega)
  replace h14 := Nd.sits.fr h14 f28 (by omega); clear h15; replace h5 := h5.fr f28 (by omega); replace X := X.fr f28 (by omega); clear f28; refine cN (lw_loads_b' [_, _, _, _] tabOk rfl rfl rfl h23 rfl rfl rfl ?_); (refine lw_store' [_, _, _, _] [_, _, _, _] tabOk rfl rfl rfl rfl rfl rfl h5 rfl rfl ?_; intro w31 n32); have h35 := n32.blk; have f33 := n32.fr; have z34 := n32.size; clear n32 h5; replace h27 := h27.fr f33 (by omega); replace h23 := h23.fr f33 (by omega); replace h14 := Nd.sits.fr h14 f33 (by omega); replace X := X.fr f33 (by omega); clear f33; refine cT (cw_ret (qw_retc rfl tabOk rfl rfl rfl h35 rfl ?_)); rotate_left 1
 exact tree_ret (Nd.sits.wide (by assumption) (fun b h => by omega)) (by assumption) X
set_option maxRecDepth 100000 in
set_option maxHeartbeats 1000000 in
theorem atDecl_c (c : PC) (σ : PS) (w : World) (hP : PP c σ w) :
 Calls Tryd.prog 29 #[.pointer (some ⟨c.pb, 0, none⟩)] w fun r w' => r = .returned (.bool (atDeclP c.ts σ)) ∧ Ext w w' := by
 have X := Ext.refl w
 by_cases h1 : (peekP c.ts σ).text = [105, 110, 116]
 · rw [show atDeclP c.ts σ = true from by simp [atDeclP, hasP, h1]]
   refine calls_in Tryd.func29 Tryd.ntmps29 rfl rfl ?_
   focus
    refine cS (cA rfl rfl (cT (cw_seq (cS (cM rfl rfl ?_))))); refine cC (by kernel_rfl) rfl (peek_c _ _ _ (by assumption)) rfl ?_; rintro _ w2 ⟨⟨⟩, x1⟩; have z3 := x1.size; replace hP := hP.ext x1; replace X := X.ext x1; clear x1; refine lw_pure (pur_field tabOk rfl rfl rfl rfl rfl rfl) rfl (cT (cw_block (cw_seq (cS (lw_pure (pur_seql rfl rfl) rfl (cA rfl rfl (cT ?_))))))); refine cw_yes rfl (by assumption) ?_; refine cw_skip (qw_then ?_); refine cw_yes rfl (by assumption) ?_; refine cS (cA rfl rfl (cT (cw_ret (qw_block_ret (qw_then_ret (qw_ret1 rfl rfl ?_)))))); rotate_left 1
   exact ⟨rfl, X⟩
 by_cases h2 : (peekP c.ts σ).text = [97, 114, 114, 97, 121]
 · rw [show atDeclP c.ts σ = true from by simp [atDeclP, hasP, h2]]
   refine calls_in Tryd.func29 Tryd.ntmps29 rfl rfl ?_
   focus
    refine cS (cA rfl rfl (cT (cw_seq (cS (cM rfl rfl ?_))))); refine cC (by kernel_rfl) rfl (peek_c _ _ _ (by assumption)) rfl ?_; rintro _ wa2 ⟨⟨⟩, xa1⟩; have za3 := xa1.size; replace hP := hP.ext xa1; replace X := X.ext xa1; clear xa1; refine lw_pure (pur_field tabOk rfl rfl rfl rfl rfl rfl) rfl (cT (cw_block (cw_seq (cS (lw_pure (pur_seql rfl rfl) rfl (cA rfl rfl (cT ?_))))))); refine cw_no rfl (by assumption) ?_; refine cS (lw_pure (pur_seql rfl rfl) rfl (cA rfl rfl (cT ?_))); refine cw_yes rfl (by assumption) ?_; refine cw_skip (qw_then ?_); refine cw_yes rfl (by assumption) ?_; refine cS (cA rfl rfl (cT (cw_ret (qw_block_ret (qw_then_ret (qw_ret1 rfl rfl ?_)))))); rotate_left 1
   exact ⟨rfl, X⟩
 by_cases h3 : (peekP c.ts σ).text = [115, 116, 97, 99, 107]
 · rw [show atDeclP c.ts σ = true from by simp [atDeclP, hasP, h3]]
   refine calls_in Tryd.func29 Tryd.ntmps29 rfl rfl ?_
   focus
    refine cS (cA rfl rfl (cT (cw_seq (cS (cM rfl rfl ?_))))); refine cC (by kernel_rfl) rfl (peek_c _ _ _ (by assumption)) rfl ?_; rintro _ wb2 ⟨⟨⟩, xb1⟩; have zb3 := xb1.size; replace hP := hP.ext xb1; replace X := X.ext xb1; clear xb1; refine lw_pure (pur_field tabOk rfl rfl rfl rfl rfl rfl) rfl (cT (cw_block (cw_seq (cS (lw_pure (pur_seql rfl rfl) rfl (cA rfl rfl (cT ?_))))))); refine cw_no rfl (by assumption) ?_; refine cS (lw_pure (pur_seql rfl rfl) rfl (cA rfl rfl (cT ?_))); refine cw_no rfl (by assumption) ?_; refine cw_region (lw_pure (pur_seql rfl rfl) rfl (cA rfl rfl (cT ?_))); refine cw_yes rfl (by assumption) ?_; refine cS (cA rfl rfl (cT (cw_ret (qw_block_ret (qw_then_ret (qw_ret1 rfl rfl ?_)))))); rotate_left 1
   exact ⟨rfl, X⟩
 · rw [show atDeclP c.ts σ = false from by simp [atDeclP, hasP, h1, h2, h3]]
   refine calls_in Tryd.func29 Tryd.ntmps29 rfl rfl ?_
   focus
    refine cS (cA rfl rfl (cT (cw_seq (cS (cM rfl rfl ?_))))); refine cC (by kernel_rfl) rfl (peek_c _ _ _ (by assumption)) rfl ?_; rintro _ wc2 ⟨⟨⟩, xc1⟩; have zc3 := xc1.size; replace hP := hP.ext xc1; replace X := X.ext xc1; clear xc1; refine lw_pure (pur_field tabOk rfl rfl rfl rfl rfl rfl) rfl (cT (cw_block (cw_seq (cS (lw_pure (pur_seql rfl rfl) rfl (cA rfl rfl (cT ?_))))))); refine cw_no rfl (by assumption) ?_; refine cS (lw_pure (pur_seql rfl rfl) rfl (cA rfl rfl (cT ?_))); refine cw_no rfl (by assumption) ?_; refine cw_region (lw_pure (pur_seql rfl rfl) rfl (cA rfl rfl (cT ?_))); refine cw_no rfl (by assumption) ?_; refine cw_skip (qw_block_norm (qw_then (cS (cA rfl rfl (cT (cw_ret (qw_ret1 rfl rfl ?_))))))); rotate_left 1
   exact ⟨rfl, X⟩
set_option maxRecDepth 100000 in
set_option maxHeartbeats 1000000 in
theorem decl_p (c : PC) (σ : PS) (w : World) (hP : PP c σ w) :
 Calls Tryd.prog 32 #[.pointer (some ⟨c.pb, 0, none⟩)] w fun r w' => r = .returned (declP c.ts c.n σ).1.val ∧ PP c (declP c.ts c.n σ).2 w' ∧ Fr (· = c.pb) w w' := by
 have X := Fr.refl (· = c.pb) w; have hpb := hP.pbB; have hB := hP.B
 unfold declP
 cases h1 : hasP c.ts σ [105, 110, 116]
 case true =>
  simp only [if_true]; refine calls_in Tryd.func32 Tryd.ntmps32 rfl rfl ?_
  focus
   refine cS ?_; (refine lw_alloc' [_, _, _] zOk rfl rfl ?_; intro b1 w2 n3); have h5 := n3.blk; have x6 := n3.ext; have p7 := n3.pos; have z8 := n3.size; clear n3; replace hP := hP.ext x6; replace X := X.ext x6; clear x6; refine cT (cw_seq (cw_block (cS (cM rfl rfl ?_)))); refine cC (by kernel_rfl) rfl (accept_t _ _ _ _ (by assumption) (by decide) (by assumption)) rfl ?_; rintro _ w11 ⟨⟨⟩, ⟨h9, f10⟩⟩; have z12 := f10.size; replace h5 := h5.fr f10 (by omega); clear hP; replace X := X.fr f10 (by omega); clear f10; refine cA rfl rfl (cT (cw_cond_t rfl (cS (cM rfl rfl ?_)))); refine cC (by kernel_rfl) rfl (name_c _ _ _ (by assumption)) rfl ?_; rintro _ w15 ⟨⟨⟩, ⟨h13, f14⟩⟩; have z16 := f14.size; clear h9; replace h5 := h5.fr f14 (by omega); replace X := X.fr f14 (by omega); clear f14; refine lw_pure (pur_build' [_, _, _] tabOk zOk rfl rfl rfl rfl) rfl ?_; (refine lw_store' [_, _, _] [_, _, _] tabOk rfl rfl rfl rfl rfl rfl h5 rfl rfl ?_; intro w17 n18); have h21 := n18.blk; have f19 := n18.fr; have z20 := n18.size; clear n18 h5; replace h13 := h13.fr f19 (by omega); replace X := X.fr f19 (by omega); clear f19; refine cT (cw_ret (qw_block_ret (qw_then_ret (qw_retc rfl tabOk rfl rfl rfl h21 rfl ?_)))); rotate_left 1
  exact ⟨rfl, by assumption, X⟩
 simp only [Bool.false_eq_true, if_false]
 cases h2 : hasP c.ts σ [115, 116, 97, 99, 107]
 case true =>
  simp only [if_true]; refine calls_in Tryd.func32 Tryd.ntmps32 rfl rfl ?_
  focus
   refine cS ?_; (refine lw_alloc' [_, _, _] zOk rfl rfl ?_; intro ba1 wa2 na3); have ha5 := na3.blk; have xa6 := na3.ext; have pa7 := na3.pos; have za8 := na3.size; clear na3; replace hP := hP.ext xa6; replace X := X.ext xa6; clear xa6; refine cT (cw_seq (cw_block (cS (cM rfl rfl ?_)))); refine cC (by kernel_rfl) rfl (accept_f _ _ _ _ (by assumption) (by decide) (by assumption)) rfl ?_; rintro _ wa11 ⟨⟨⟩, ⟨ha9, fa10⟩⟩; have za12 := fa10.size; replace ha5 := ha5.fr fa10 (by omega); clear hP; replace X := X.fr fa10 (by omega); clear fa10; refine cA rfl rfl (cT (cw_cond_f rfl (cS (cM rfl rfl ?_)))); refine cC (by kernel_rfl) rfl (accept_t _ _ _ _ (by assumption) (by decide) (by assumption)) rfl ?_; rintro _ wa15 ⟨⟨⟩, ⟨ha13, fa14⟩⟩; have za16 := fa14.size; clear ha9; replace ha5 := ha5.fr fa14 (by omega); replace X := X.fr fa14 (by omega); clear fa14; refine cA rfl rfl (cT (cw_cond_t rfl (cS (cM rfl rfl ?_)))); refine cC (by kernel_rfl) rfl (name_c _ _ _ (by assumption)) rfl ?_; rintro _ wa19 ⟨⟨⟩, ⟨ha17, fa18⟩⟩; have za20 := fa18.size; clear ha13; replace ha5 := ha5.fr fa18 (by omega); replace X := X.fr fa18 (by omega); clear fa18; refine lw_pure (pur_build' [_, _, _] tabOk zOk rfl rfl rfl rfl) rfl ?_; (refine lw_store' [_, _, _] [_, _, _] tabOk rfl rfl rfl rfl rfl rfl ha5 rfl rfl ?_; intro wa21 na22); have ha25 := na22.blk; have fa23 := na22.fr; have za24 := na22.size; clear na22 ha5; replace ha17 := ha17.fr fa23 (by omega); replace X := X.fr fa23 (by omega); clear fa23; refine cT (cw_ret (qw_block_ret (qw_then_ret (qw_retc rfl tabOk rfl rfl rfl ha25 rfl ?_))))
   rotate_left 1
  exact ⟨rfl, by assumption, X⟩
 simp only [Bool.false_eq_true, if_false]
 cases h3 : hasP c.ts σ [97, 114, 114, 97, 121]
 case true =>
  simp only [if_true]; refine calls_in Tryd.func32 Tryd.ntmps32 rfl rfl ?_
  focus
   refine cS ?_; (refine lw_alloc' [_, _, _] zOk rfl rfl ?_; intro bb1 wb2 nb3); have hb5 := nb3.blk; have xb6 := nb3.ext; have pb7 := nb3.pos; have zb8 := nb3.size; clear nb3; replace hP := hP.ext xb6; replace X := X.ext xb6; clear xb6; refine cT (cw_seq (cw_block (cS (cM rfl rfl ?_)))); refine cC (by kernel_rfl) rfl (accept_f _ _ _ _ (by assumption) (by decide) (by assumption)) rfl ?_; rintro _ wb11 ⟨⟨⟩, ⟨hb9, fb10⟩⟩; have zb12 := fb10.size; replace hb5 := hb5.fr fb10 (by omega); clear hP; replace X := X.fr fb10 (by omega); clear fb10; refine cA rfl rfl (cT (cw_cond_f rfl (cS (cM rfl rfl ?_)))); refine cC (by kernel_rfl) rfl (accept_f _ _ _ _ (by assumption) (by decide) (by assumption)) rfl ?_; rintro _ wb15 ⟨⟨⟩, ⟨hb13, fb14⟩⟩; have zb16 := fb14.size; clear hb9; replace hb5 := hb5.fr fb14 (by omega); replace X := X.fr fb14 (by omega); clear fb14; refine cA rfl rfl (cT (cw_cond_f rfl (cS (cM rfl rfl ?_)))); refine cC (by kernel_rfl) rfl (accept_t _ _ _ _ (by assumption) (by decide) (by assumption)) rfl ?_; rintro _ wb19 ⟨⟨⟩, ⟨hb17, fb18⟩⟩; have zb20 := fb18.size; clear hb13; replace hb5 := hb5.fr fb18 (by omega); replace X := X.fr fb18 (by omega); clear fb18; refine cA rfl rfl (cT (cw_cond_t rfl (cS (cM rfl rfl ?_)))); refine cC (by kernel_rfl) rfl (name_c _ _ _ (by assumption)) rfl ?_; rintro _ wb23 ⟨⟨⟩, ⟨hb21, fb22⟩⟩; have zb24 := fb22.size; clear hb17; replace hb5 := hb5.fr fb22 (by omega); replace X := X.fr fb22 (by omega); clear fb22; refine lw_pure (pur_build' [_, _, _] tabOk zOk rfl rfl rfl rfl) rfl ?_
   (refine lw_alloc' [_, _, _] zOk rfl rfl ?_; intro bb25 wb26 nb27); (refine lw_init' [_, _, _] tabOk rfl rfl rfl rfl rfl rfl nb27 rfl ?_; clear nb27; clear wb26; intro wb28 nb27); have hb29 := nb27.blk; have xb30 := nb27.ext; have pb31 := nb27.pos; have zb32 := nb27.size; clear nb27; replace hb21 := hb21.ext xb30; replace hb5 := hb5.ext xb30; replace X := X.ext xb30; clear xb30; refine cN (cM rfl rfl ?_); refine cC (by kernel_rfl) rfl (expect_c _ _ _ _ (by assumption) (by decide)) rfl ?_; rintro _ wb35 ⟨⟨⟩, ⟨hb33, fb34⟩⟩; have zb36 := fb34.size; replace hb29 := hb29.fr fb34 (by omega); clear hb21; replace hb5 := hb5.fr fb34 (by omega); replace X := X.fr fb34 (by omega); clear fb34; refine cN (cM rfl rfl ?_); refine cC (by kernel_rfl) rfl (number_c _ _ _ _ _ (by assumption) (by decide)) rfl ?_; rintro _ wb39 ⟨⟨⟩, ⟨hb37, fb38⟩⟩; have zb40 := fb38.size; clear hb33; replace hb29 := hb29.fr fb38 (by omega); replace hb5 := hb5.fr fb38 (by omega); replace X := X.fr fb38 (by omega); clear fb38; refine lw_pure (pur_fieldAddr tabOk rfl rfl rfl) rfl ?_; (refine lw_store' [_] [_, _, _] tabOk rfl rfl rfl rfl rfl rfl hb29 rfl rfl ?_; intro wb41 nb42); have hb45 := nb42.blk; have fb43 := nb42.fr; have zb44 := nb42.size; clear nb42 hb29; replace hb37 := hb37.fr fb43 (by omega); replace hb5 := hb5.fr fb43 (by omega); replace X := X.fr fb43 (by omega); clear fb43; refine cN (cM rfl rfl ?_); refine cC (by kernel_rfl) rfl (expect_c _ _ _ _ (by assumption) (by decide)) rfl ?_; rintro _ wb48 ⟨⟨⟩, ⟨hb46, fb47⟩⟩
   have zb49 := fb47.size; replace hb45 := hb45.fr fb47 (by omega); clear hb37; replace hb5 := hb5.fr fb47 (by omega); replace X := X.fr fb47 (by omega); clear fb47; refine cN (lw_loads_b' [_, _, _] tabOk rfl rfl rfl hb45 rfl rfl rfl ?_); (refine lw_store' [_, _, _] [_, _, _] tabOk rfl rfl rfl rfl rfl rfl hb5 rfl rfl ?_; intro wb50 nb51); have hb54 := nb51.blk; have fb52 := nb51.fr; have zb53 := nb51.size; clear nb51 hb5; replace hb46 := hb46.fr fb52 (by omega); replace hb45 := hb45.fr fb52 (by omega); replace X := X.fr fb52 (by omega); clear fb52; refine cT (cw_ret (qw_block_ret (qw_then_ret (qw_retc rfl tabOk rfl rfl rfl hb54 rfl ?_)))); rotate_left 1
  exact ⟨rfl, by assumption, X⟩
 simp only [Bool.false_eq_true, if_false]; refine calls_in Tryd.func32 Tryd.ntmps32 rfl rfl ?_
 focus
  refine cS ?_; (refine lw_alloc' [_, _, _] zOk rfl rfl ?_; intro bc1 wc2 nc3); have hc5 := nc3.blk; have xc6 := nc3.ext; have pc7 := nc3.pos; have zc8 := nc3.size; clear nc3; replace hP := hP.ext xc6; replace X := X.ext xc6; clear xc6; refine cT (cw_seq (cw_block (cS (cM rfl rfl ?_)))); refine cC (by kernel_rfl) rfl (accept_f _ _ _ _ (by assumption) (by decide) (by assumption)) rfl ?_; rintro _ wc11 ⟨⟨⟩, ⟨hc9, fc10⟩⟩; have zc12 := fc10.size; replace hc5 := hc5.fr fc10 (by omega); clear hP; replace X := X.fr fc10 (by omega); clear fc10; refine cA rfl rfl (cT (cw_cond_f rfl (cS (cM rfl rfl ?_)))); refine cC (by kernel_rfl) rfl (accept_f _ _ _ _ (by assumption) (by decide) (by assumption)) rfl ?_; rintro _ wc15 ⟨⟨⟩, ⟨hc13, fc14⟩⟩; have zc16 := fc14.size; clear hc9; replace hc5 := hc5.fr fc14 (by omega); replace X := X.fr fc14 (by omega); clear fc14; refine cA rfl rfl (cT (cw_cond_f rfl (cS (cM rfl rfl ?_)))); refine cC (by kernel_rfl) rfl (accept_f _ _ _ _ (by assumption) (by decide) (by assumption)) rfl ?_; rintro _ wc19 ⟨⟨⟩, ⟨hc17, fc18⟩⟩; have zc20 := fc18.size; clear hc13; replace hc5 := hc5.fr fc18 (by omega); replace X := X.fr fc18 (by omega); clear fc18; refine cA rfl rfl (cT (cw_cond_f rfl (cw_skip (qw_block_norm (qw_then (cS (cM rfl rfl ?_))))))); refine cC (by kernel_rfl) rfl (unexpected_c _ _ _ (by assumption)) rfl ?_; rintro _ wc23 ⟨⟨⟩, ⟨hc21, fc22⟩⟩; have zc24 := fc22.size; clear hc17; replace hc5 := hc5.fr fc22 (by omega); replace X := X.fr fc22 (by omega); clear fc22
  refine cN (lw_pure (pur_build' [_, _, _] tabOk zOk rfl rfl rfl rfl) rfl ?_); (refine lw_store' [_, _, _] [_, _, _] tabOk rfl rfl rfl rfl rfl rfl hc5 rfl rfl ?_; intro wc25 nc26); have hc29 := nc26.blk; have fc27 := nc26.fr; have zc28 := nc26.size; clear nc26 hc5; replace hc21 := hc21.fr fc27 (by omega); replace X := X.fr fc27 (by omega); clear fc27; refine cT (cw_ret (qw_retc rfl tabOk rfl rfl rfl hc29 rfl ?_)); rotate_left 1
 exact ⟨rfl, by assumption, X⟩
end Bk
namespace Bk
open Go
section
variable {ts : List Tok} {n : Int}
theorem block_le {k : Nat} {σ : PS} (h : σ.at_ ≤ ts.length) : Le ts σ (blockP ts n k σ).2 := (stmt_inv k).2.2.2.1 σ h
end
end Bk
namespace Bk
open Go
section
variable {ts : List Tok} {n : Int}
end
end Bk
namespace Bk
open Go
section
variable (ts : List Tok) (n : Int)
def posR (σ : PS) : Int := if ts.length ≤ σ.at_ then n else (ts.getD σ.at_ Tok.zero).pos
def declKind (t : List UInt8) : Int := if t = [105, 110, 116] then 1 else if t = [97, 114, 114, 97, 121] then 2 else 3
def declR (many most : Nat) (σ : PS) : VD × PS :=
 if atDeclP ts σ = false then (⟨[], 0, 0⟩, unexpP ts n σ)
 else if many = most then (⟨[], 0, 0⟩, failP σ (posR ts n σ) 5)
 else
  let m := nameP ts n (nextP σ)
  if declKind (peekP ts σ).text = 2 then
   let σ1 := expectP ts n m.2 [91]
   let r := numberR ts n σ1
   let σ2 := if r.2.err = 0 ∧ (r.1 < 1 ∨ 16 < r.1) then failP r.2 (posR ts n σ1) 2 else r.2
   (⟨m.1, 2, r.1⟩, expectP ts n σ2 [93])
  else (⟨m.1, declKind (peekP ts σ).text, 0⟩, m.2)
end
section
variable {ts : List Tok} {n : Int}
theorem decl_le {σ : PS} (h : σ.at_ ≤ ts.length) : Le ts σ (declP ts n σ).2 := by
 unfold declP
 split
 · rename_i hh
   have h1 := next_le (has_in h hh (by decide))
   exact h1.trans (name_le h1.wf)
 · split
   · rename_i hh
     have h1 := next_le (has_in h hh (by decide))
     exact h1.trans (name_le h1.wf)
   · split
     · rename_i hh
       have h1 := next_le (has_in h hh (by decide)); have h2 := h1.trans (name_le (n := n) h1.wf); have h3 := h2.trans (expect_le (n := n) (t := [91]) h2.wf (by decide)); have h4 := h3.trans (number_le (n := n) (a := 1) (b := 16) h3.wf)
       exact h4.trans (expect_le h4.wf (by decide))
     · exact unexp_le h
end
section
variable (ts : List Tok) (n : Int)
def paramsR : Nat → List VD → PS → List VD × PS
 | 0, acc, σ => (acc, σ)
 | k + 1, acc, σ =>
  if hasP ts (declR ts n acc.length 8 σ).2 [44] then paramsR k (acc ++ [(declR ts n acc.length 8 σ).1]) (nextP (declR ts n acc.length 8 σ).2)
  else (acc ++ [(declR ts n acc.length 8 σ).1], (declR ts n acc.length 8 σ).2)
end
section
variable {ts : List Tok} {n : Int}
theorem params_le (k : Nat) : ∀ acc σ, σ.at_ ≤ ts.length → Le ts σ (paramsP ts n k acc σ).2 := by
 induction k with
 | zero => intro acc σ h; rw [paramsP]; exact Le.refl h
 | succ k ih =>
  intro acc σ h; rw [paramsP]
  split
  · rename_i hh
    have h1 := next_le (has_in h hh (by decide)); simp only
    have h2 : Le ts σ (if acc.length = 8 ∧ atDeclP ts (nextP σ) = true then failP (nextP σ) (peekP ts (nextP σ)).pos 5 else nextP σ) := by
     split
     · exact h1.trans (fail_le h1.wf _ _)
     · exact h1
    generalize (if acc.length = 8 ∧ atDeclP ts (nextP σ) = true then failP (nextP σ) (peekP ts (nextP σ)).pos 5 else nextP σ) = τ at *
    have h3 := h2.trans (decl_le (n := n) h2.wf)
    exact h3.trans (ih _ _ h3.wf)
  · exact Le.refl h
end
section
variable (ts : List Tok) (n : Int)
def wholeR (k : Nat) (σ : PS) : Nd × PS := ((bodyR ts n k σ).1, limitP (bodyR ts n k σ).1 (posR ts n σ) (bodyR ts n k σ).2)
end
section
variable {ts : List Tok} {n : Int}
theorem limit_le {x : Nd} {off : Int} {σ : PS} (h : σ.at_ ≤ ts.length) : Le ts σ (limitP x off σ) := by
 unfold limitP
 split
 · exact Le.refl h
 · split
   · exact fail_le h _ _
   · split
     · exact fail_le h _ _
     · exact Le.refl h
end
section
variable (ts : List Tok) (n : Int)
def procR (k : Nat) (σ : PS) : PD × PS :=
 let m := nameP ts n (nextP σ)
 let σ1 := expectP ts n m.2 [40]
 let q := if σ1.err = 0 ∧ hasP ts σ1 [41] = false then paramsR ts n k [] σ1 else ([], σ1)
 let b := wholeR ts n k (expectP ts n q.2 [41])
 (⟨m.1, q.1, b.1⟩, b.2)
def varsR : Nat → List VD → PS → List VD × PS
 | 0, acc, σ => (acc, σ)
 | k + 1, acc, σ => if σ.err = 0 ∧ atDeclP ts σ = true then varsR k (acc ++ [(declR ts n acc.length 32 σ).1]) (declR ts n acc.length 32 σ).2 else (acc, σ)
def procsR : Nat → List PD → PS → List PD × PS
 | 0, acc, σ => (acc, σ)
 | k + 1, acc, σ =>
  if σ.err = 0 ∧ hasP ts σ [112, 114, 111, 99] = true then
   if acc.length = 64 then (acc, failP σ (posR ts n σ) 5)
   else procsR k (acc ++ [(procR ts n k σ).1]) (procR ts n k σ).2
  else (acc, σ)
def programR (k : Nat) (σ : PS) : PG × PS :=
 let v := varsR ts n k [] σ
 let p := procsR ts n k [] v.2
 let b := wholeR ts n k (expectP ts n p.2 [109, 97, 105, 110])
 (⟨v.1, p.1, b.1⟩, b.2)
end
section
variable {ts : List Tok} {n : Int}
theorem bodyP_le {k : Nat} {σ : PS} (h : σ.at_ ≤ ts.length) : Le ts σ (bodyP ts n k σ).2 := by
 unfold bodyP
 have h1 := block_le (n := n) (k := k) h
 exact h1.trans (limit_le h1.wf)
theorem decl_lt {σ : PS} (h : σ.at_ ≤ ts.length) : Lt σ (declP ts n σ).2 := by
 unfold declP
 split
 · rename_i hh
   have h1 := next_le (has_in h hh (by decide))
   exact Lt.of_le (ts := ts) h1 name_lt
 · split
   · rename_i hh
     have h1 := next_le (has_in h hh (by decide))
     exact Lt.of_le (ts := ts) h1 name_lt
   · split
     · rename_i hh
       have h1 := next_le (has_in h hh (by decide)); have h2 := h1.trans (name_le (n := n) h1.wf); have h3 := h2.trans (expect_le (n := n) (t := [91]) h2.wf (by decide)); have h4 := h3.trans (number_le (n := n) (a := 1) (b := 16) h3.wf)
       exact Lt.of_le (ts := ts) h4 expect_lt
     · exact unexp_lt
end
end Bk
namespace Bk
open Go
section
variable {ts : List Tok} {n : Int}
def procQ (ts : List Tok) (n : Int) (k : Nat) (σ : PS) : List VD × PS :=
 if hasP ts σ [41] then ([], nextP σ) else ((paramsP ts n k [(declP ts n σ).1] (declP ts n σ).2).1, expectP ts n (paramsP ts n k [(declP ts n σ).1] (declP ts n σ).2).2 [41])
def procQR (ts : List Tok) (n : Int) (k : Nat) (σ : PS) : List VD × PS :=
 ((if σ.err = 0 ∧ hasP ts σ [41] = false then paramsR ts n k [] σ else ([], σ)).1, expectP ts n (if σ.err = 0 ∧ hasP ts σ [41] = false then paramsR ts n k [] σ else ([], σ)).2 [41])
theorem procQ_le {k : Nat} {σ : PS} (h : σ.at_ ≤ ts.length) : Le ts σ (procQ ts n k σ).2 := by
 unfold procQ
 split
 · rename_i hh
   exact next_le (has_in h hh (by decide))
 · have h1 := decl_le (n := n) h
   have h2 := h1.trans (params_le (n := n) k [(declP ts n σ).1] _ h1.wf)
   exact h2.trans (expect_le h2.wf (by decide))
theorem procP_at {k : Nat} {σ : PS} : procP ts n k σ = (⟨(nameP ts n (expectP ts n σ [112, 114, 111, 99])).1, (procQ ts n k (expectP ts n (nameP ts n (expectP ts n σ [112, 114, 111, 99])).2 [40])).1, (bodyP ts n k (procQ ts n k (expectP ts n (nameP ts n (expectP ts n σ [112, 114, 111, 99])).2 [40])).2).1⟩, (bodyP ts n k (procQ ts n k (expectP ts n (nameP ts n (expectP ts n σ [112, 114, 111, 99])).2 [40])).2).2) := by
 simp only [procP, procQ]
theorem procP_le {k : Nat} {σ : PS} (h : σ.at_ ≤ ts.length) : Le ts σ (procP ts n k σ).2 := by
 rw [procP_at]; have h1 := expect_le (n := n) (t := [112, 114, 111, 99]) h (by decide); have h2 := h1.trans (name_le (n := n) h1.wf); have h3 := h2.trans (expect_le (n := n) (t := [40]) h2.wf (by decide)); have h4 := h3.trans (procQ_le (n := n) (k := k) h3.wf)
 exact h4.trans (bodyP_le h4.wf)
theorem procP_lt {k : Nat} {σ : PS} (h : σ.at_ ≤ ts.length) : Lt σ (procP ts n k σ).2 := by
 rw [procP_at]; have h1 := expect_le (n := n) (t := [112, 114, 111, 99]) h (by decide); have h2 := name_le (n := n) h1.wf; have h3 := h2.trans (expect_le (n := n) (t := [40]) h2.wf (by decide)); have h4 := h3.trans (procQ_le (n := n) (k := k) h3.wf)
 exact Lt.of_lt (expect_lt (ts := ts) (n := n)) (h4.trans (bodyP_le h4.wf))
end
end Bk
namespace Bk
open Go Go.RowKit Go.Proofs
attribute [local irreducible] Go.Calls
def VdsR (c : PC) (w : World) (r : List VD × PS) : Ending → World → Prop := fun e w' => ∃ a k, e = .returned (.slice a r.1.length k) ∧ VDs (fun b => w.heap.size ≤ b ∧ b < w'.heap.size) w' r.1 a ∧ PP c r.2 w' ∧ Fr (· = c.pb) w w'
theorem VdsR.ret {c : PC} {w : World} {r : List VD × PS} {e : Ending} {w' : World} (h : VdsR c w r e w') : ∃ v, e = .returned v := by
 obtain ⟨_, _, h, -⟩ := h
 exact ⟨_, h⟩
set_option maxRecDepth 100000 in
set_option maxHeartbeats 2000000 in
theorem params_c (c : PC) (k : Nat) (σ : PS) (w : World) (hP : PP c σ w) (hk : mS c.ts σ + 1 ≤ k) :
 Calls Tryd.prog 49 #[.pointer (some ⟨c.pb, 0, none⟩)] w (VdsR c w (paramsP c.ts c.n k [(declP c.ts c.n σ).1] (declP c.ts c.n σ).2)) := by
 have X := Fr.refl (· = c.pb) w; have hpb := hP.pbB; have hB := hP.B; have hlen := hP.len; have hd := mS_le (decl_le (n := c.n) hP.at_)
 have hmt : mS c.ts σ ≤ c.ts.length := by unfold mS; split <;> omega
 refine calls_in Tryd.func49 Tryd.ntmps49 rfl rfl ?_
 focus
  refine cS (cA rfl rfl (cN (cM rfl rfl ?_))); refine cC (by kernel_rfl) rfl (decl_p _ _ _ (by assumption)) rfl ?_; rintro _ w3 ⟨⟨⟩, ⟨h1, f2⟩⟩; have z4 := f2.size; clear hP; replace X := X.fr f2 (by omega); clear f2; (refine lw_does (does_slice' [_, _, _] tabOk zOk rfl rfl rfl rfl rfl rfl rfl rfl rfl) rfl ?_ (fun _ h => h); rintro _ w6 ⟨b5, rfl, n7, t8⟩); have t9 : TB _ _ _ _ := t8; clear t8; have x10 := n7.ext; have p11 := n7.pos; have z12 := n7.size; clear n7; replace h1 := h1.ext x10; replace X := X.ext x10; clear x10; refine cA rfl rfl (cT (cw_seq (cw_block ?_))); rotate_left 1
 have hown := OwnL.lit (sh := vdShape) (B := w.heap.size) (x := (declP c.ts c.n σ).1) (by assumption) (by omega) rfl
 generalize declP c.ts c.n σ = D at *
 refine cw_loop (ι := Nat × List VD × Nat × Nat × PS) (fun x => [(0, .pointer (some ⟨c.pb, 0, none⟩)), (3, .slice (some ⟨x.2.2.1, 0, none⟩) x.2.1.length x.2.2.2.1)])
  (fun x w' => PP c x.2.2.2.2 w' ∧ OwnL vdShape w' w.heap.size 77 (.slice (some ⟨x.2.2.1, 0, none⟩) x.2.1.length x.2.2.2.1) x.2.1 ∧ Fr (· = c.pb) w w' ∧ w6.heap.size ≤ w'.heap.size ∧
   paramsP c.ts c.n k [D.1] D.2 = paramsP c.ts c.n x.1 x.2.1 x.2.2.2.2 ∧ mS c.ts x.2.2.2.2 + 1 ≤ x.1 ∧ x.2.1.length + mS c.ts x.2.2.2.2 ≤ 1000001) (fun x => x.1) (k, [D.1], b5, 1, D.2) (by (refine sub_cons rfl ?_; refine sub_cons rfl ?_; exact sub_nil))
  ⟨h1, hown, X, Nat.le_refl _, rfl, by simp only; omega, by simp only [List.length_cons, List.length_nil]; omega⟩ ?_
 rintro ⟨j, acc, g, cap, σ'⟩ w1 ⟨hP, hown, X, hz, he, hfj, hacc⟩; simp only at hP hown he hfj hacc; clear t9 h1; rw [he]; refine CW.sub (m := [(0, .pointer (some ⟨c.pb, 0, none⟩)), (3, .slice (some ⟨g, 0, none⟩) acc.length cap)]) ?_ (by (refine sub_cons rfl ?_; refine sub_cons rfl ?_; exact sub_nil)); obtain ⟨j, rfl⟩ : ∃ i, j = i + 1 := ⟨j - 1, by omega⟩
 cases hc : hasP c.ts σ' [44]
 case false =>
  rw [show paramsP c.ts c.n (j + 1) acc σ' = (acc, σ') from by rw [paramsP]; simp [hc]]
  focus
   refine cw_seq (cS (cM rfl rfl ?_)); refine cC (by kernel_rfl) rfl (accept_f _ _ _ _ (by assumption) (by decide) (by assumption)) rfl ?_; rintro _ wa3 ⟨⟨⟩, ⟨ha1, fa2⟩⟩; have za4 := fa2.size; clear hP; replace hown := hown.fr fa2 (by omega); replace X := X.fr fa2 (by omega); clear fa2; refine cT (cw_cond_f rfl (cw_exit (qw_then_exit (qw_then_exit (qw_block_exit (qw_then (cS (cM rfl rfl (cA rfl rfl (cT (cw_ret ?_))))))))))); refine qw_ret1 rfl rfl ?_; rotate_left 1
  exact ⟨_, _, rfl, VDs.lt2 (S := (w.heap.size ≤ ·)) (OwnL.vds (by assumption) (fun b h => h)), by assumption, X⟩
 have hin := has_in hP.at_ hc (by decide); have hmn := mS_next hin
 by_cases h8 : acc.length = 8
 · cases hnm : atDeclP c.ts (nextP σ')
   · have hml := mS_le (decl_le (n := c.n) (show (nextP σ').at_ ≤ c.ts.length from hin.2))
     rw [show paramsP c.ts c.n (j + 1) acc σ' = paramsP c.ts c.n j (acc ++ [(declP c.ts c.n (nextP σ')).1]) (declP c.ts c.n (nextP σ')).2 from by rw [paramsP]; simp [hc, h8, hnm]]
     focus
      refine cw_seq (cS (cM rfl rfl ?_)); refine cC (by kernel_rfl) rfl (accept_t _ _ _ _ (by assumption) (by decide) (by assumption)) rfl ?_; rintro _ wb3 ⟨⟨⟩, ⟨hb1, fb2⟩⟩; have zb4 := fb2.size; clear hP; replace hown := hown.fr fb2 (by omega); replace X := X.fr fb2 (by omega); clear fb2; refine cT (cw_cond_t rfl (cw_skip (qw_then (cw_block (cw_seq (cS (cM rfl rfl (lw_pure (pur_len_slice tabOk rfl rfl) rfl (lw_pure (pur_eql rfl rfl) rfl (cM rfl rfl ?_)))))))))); refine lw_on rfl rfl rfl (gd_tt (by omega)) ?_; refine cM rfl rfl ?_; refine lw_on rfl rfl rfl (gd_tt (by omega)) ?_; refine cC (by kernel_rfl) rfl (atDecl_c _ _ _ (by assumption)) rfl ?_; rintro _ wb6 ⟨⟨⟩, xb5⟩; have zb7 := xb5.size; replace hb1 := hb1.ext xb5; replace hown := hown.ext xb5; replace X := X.ext xb5; clear xb5; refine lw_pure (pur_pick_yes rfl rfl (by omega)) rfl ?_; refine cT ?_; refine cw_bf rfl (by assumption) ?_; refine cw_skip (qw_then (cw_region (cM rfl rfl (cM rfl rfl ?_)))); refine cC (by kernel_rfl) rfl (decl_p _ _ _ (by assumption)) rfl ?_; rintro _ wb10 ⟨⟨⟩, ⟨hb8, fb9⟩⟩; have zb11 := fb9.size; clear hb1; replace hown := hown.fr fb9 (by omega); replace X := X.fr fb9 (by omega); clear fb9; (refine lw_does (does_slice' [_, _, _] tabOk zOk rfl rfl rfl rfl rfl rfl rfl rfl rfl) rfl ?_ (fun _ h => h); rintro _ wb13 ⟨bb12, rfl, nb14, tb15⟩); clear tb15; have hb16 := nb14.blk; have xb17 := nb14.ext; have pb18 := nb14.pos; have zb19 := nb14.size; clear nb14; replace hb8 := hb8.ext xb17; replace hown := hown.ext xb17
      replace X := X.ext xb17; clear xb17; refine lw_appendL (sh := vdShape) tabOk zOk rfl rfl rfl rfl (by kernel_rfl) rfl rfl rfl hown (Blk.row (by assumption)) rfl (by omega) (by omega) rfl ?_; rintro gb20 cap'b21 wb22 hb23 fb24; have zb25 := fb24.size; clear hb16; replace hb8 := hb8.fr fb24 (by omega); clear hown; replace X := X.fr fb24 (by omega); clear fb24; refine cA rfl rfl (lw_nil (qw_block_norm ?_)); rotate_left 1
     refine qw_round (j, acc ++ [(declP c.ts c.n (nextP σ')).1], _, _, (declP c.ts c.n (nextP σ')).2) (by (refine sub_cons rfl ?_; refine sub_cons rfl ?_; exact sub_nil)) ⟨by assumption, by assumption, X, by omega, rfl, by simp only; omega, by simp only [List.length_append, List.length_cons, List.length_nil]; omega⟩ (by simp)
   · have hfl := fail_le (show (nextP σ').at_ ≤ c.ts.length from hin.2) (peekP c.ts (nextP σ')).pos 5
     have hml := mS_le (hfl.trans (decl_le (n := c.n) hfl.wf)); rw [show paramsP c.ts c.n (j + 1) acc σ' = paramsP c.ts c.n j (acc ++ [(declP c.ts c.n (failP (nextP σ') (peekP c.ts (nextP σ')).pos 5)).1]) (declP c.ts c.n (failP (nextP σ') (peekP c.ts (nextP σ')).pos 5)).2 from by rw [paramsP]; simp [hc, h8, hnm]]
     focus
      refine cw_seq (cS (cM rfl rfl ?_)); refine cC (by kernel_rfl) rfl (accept_t _ _ _ _ (by assumption) (by decide) (by assumption)) rfl ?_; rintro _ wc3 ⟨⟨⟩, ⟨hc1, fc2⟩⟩; have zc4 := fc2.size; clear hP; replace hown := hown.fr fc2 (by omega); replace X := X.fr fc2 (by omega); clear fc2; refine cT (cw_cond_t rfl (cw_skip (qw_then (cw_block (cw_seq (cS (cM rfl rfl (lw_pure (pur_len_slice tabOk rfl rfl) rfl (lw_pure (pur_eql rfl rfl) rfl (cM rfl rfl ?_)))))))))); refine lw_on rfl rfl rfl (gd_tt (by omega)) ?_; refine cM rfl rfl ?_; refine lw_on rfl rfl rfl (gd_tt (by omega)) ?_; refine cC (by kernel_rfl) rfl (atDecl_c _ _ _ (by assumption)) rfl ?_; rintro _ wc6 ⟨⟨⟩, xc5⟩; have zc7 := xc5.size; replace hc1 := hc1.ext xc5; replace hown := hown.ext xc5; replace X := X.ext xc5; clear xc5; refine lw_pure (pur_pick_yes rfl rfl (by omega)) rfl ?_; refine cT ?_; refine cw_bt rfl (by assumption) ?_; refine cw_region (cM rfl rfl (cM rfl rfl ?_)); refine cC (by kernel_rfl) rfl (peek_c _ _ _ (by assumption)) rfl ?_; rintro _ wc9 ⟨⟨⟩, xc8⟩; have zc10 := xc8.size; replace hc1 := hc1.ext xc8; replace hown := hown.ext xc8; replace X := X.ext xc8; clear xc8; refine lw_pure (pur_field tabOk rfl rfl rfl rfl rfl rfl) rfl ?_; refine cC (by kernel_rfl) rfl (fail_c _ _ _ _ _ (by assumption)) rfl ?_; rintro _ wc13 ⟨⟨⟩, ⟨hc11, fc12⟩⟩; have zc14 := fc12.size; clear hc1; replace hown := hown.fr fc12 (by omega); replace X := X.fr fc12 (by omega); clear fc12; refine cT (cw_region (cM rfl rfl (cM rfl rfl ?_)))
      refine cC (by kernel_rfl) rfl (decl_p _ _ _ (by assumption)) rfl ?_; rintro _ wc17 ⟨⟨⟩, ⟨hc15, fc16⟩⟩; have zc18 := fc16.size; clear hc11; replace hown := hown.fr fc16 (by omega); replace X := X.fr fc16 (by omega); clear fc16; (refine lw_does (does_slice' [_, _, _] tabOk zOk rfl rfl rfl rfl rfl rfl rfl rfl rfl) rfl ?_ (fun _ h => h); rintro _ wc20 ⟨bc19, rfl, nc21, tc22⟩); clear tc22; have hc23 := nc21.blk; have xc24 := nc21.ext; have pc25 := nc21.pos; have zc26 := nc21.size; clear nc21; replace hc15 := hc15.ext xc24; replace hown := hown.ext xc24; replace X := X.ext xc24; clear xc24; refine lw_appendL (sh := vdShape) tabOk zOk rfl rfl rfl rfl (by kernel_rfl) rfl rfl rfl hown (Blk.row (by assumption)) rfl (by omega) (by omega) rfl ?_; rintro gc27 cap'c28 wc29 hc30 fc31; have zc32 := fc31.size; clear hc23; replace hc15 := hc15.fr fc31 (by omega); clear hown; replace X := X.fr fc31 (by omega); clear fc31; refine cA rfl rfl (lw_nil (qw_block_norm ?_)); rotate_left 1
     refine qw_round (j, acc ++ [(declP c.ts c.n (failP (nextP σ') (peekP c.ts (nextP σ')).pos 5)).1], _, _, (declP c.ts c.n (failP (nextP σ') (peekP c.ts (nextP σ')).pos 5)).2) (by (refine sub_cons rfl ?_; refine sub_cons rfl ?_; exact sub_nil)) ⟨by assumption, by assumption, X, by omega, rfl, by simp only; omega, by simp only [List.length_append, List.length_cons, List.length_nil]; omega⟩ (by simp)
 · have hml := mS_le (decl_le (n := c.n) (show (nextP σ').at_ ≤ c.ts.length from hin.2))
   rw [show paramsP c.ts c.n (j + 1) acc σ' = paramsP c.ts c.n j (acc ++ [(declP c.ts c.n (nextP σ')).1]) (declP c.ts c.n (nextP σ')).2 from by rw [paramsP]; simp [hc, h8]]
   focus
    refine cw_seq (cS (cM rfl rfl ?_)); refine cC (by kernel_rfl) rfl (accept_t _ _ _ _ (by assumption) (by decide) (by assumption)) rfl ?_; rintro _ wd3 ⟨⟨⟩, ⟨hd1, fd2⟩⟩; have zd4 := fd2.size; clear hP; replace hown := hown.fr fd2 (by omega); replace X := X.fr fd2 (by omega); clear fd2; refine cT (cw_cond_t rfl (cw_skip (qw_then (cw_block (cw_seq (cS (cM rfl rfl (lw_pure (pur_len_slice tabOk rfl rfl) rfl (lw_pure (pur_eql rfl rfl) rfl (cM rfl rfl ?_)))))))))); refine lw_off rfl rfl rfl (gd_tf (by omega)) rfl ?_; refine lw_off rfl rfl rfl (gd_tf (by omega)) rfl ?_; refine lw_pure (pur_pick_no rfl rfl (by omega)) rfl ?_; refine cT (cw_cond_f rfl (cw_skip (qw_then (cw_region (cM rfl rfl (cM rfl rfl ?_)))))); refine cC (by kernel_rfl) rfl (decl_p _ _ _ (by assumption)) rfl ?_; rintro _ wd7 ⟨⟨⟩, ⟨hd5, fd6⟩⟩; have zd8 := fd6.size; clear hd1; replace hown := hown.fr fd6 (by omega); replace X := X.fr fd6 (by omega); clear fd6; (refine lw_does (does_slice' [_, _, _] tabOk zOk rfl rfl rfl rfl rfl rfl rfl rfl rfl) rfl ?_ (fun _ h => h); rintro _ wd10 ⟨bd9, rfl, nd11, td12⟩); clear td12; have hd13 := nd11.blk; have xd14 := nd11.ext; have pd15 := nd11.pos; have zd16 := nd11.size; clear nd11; replace hd5 := hd5.ext xd14; replace hown := hown.ext xd14; replace X := X.ext xd14; clear xd14; refine lw_appendL (sh := vdShape) tabOk zOk rfl rfl rfl rfl (by kernel_rfl) rfl rfl rfl hown (Blk.row (by assumption)) rfl (by omega) (by omega) rfl ?_; rintro gd17 cap'd18 wd19 hd20 fd21; have zd22 := fd21.size
    clear hd13; replace hd5 := hd5.fr fd21 (by omega); clear hown; replace X := X.fr fd21 (by omega); clear fd21; refine cA rfl rfl (lw_nil (qw_block_norm ?_)); rotate_left 1
   refine qw_round (j, acc ++ [(declP c.ts c.n (nextP σ')).1], _, _, (declP c.ts c.n (nextP σ')).2) (by (refine sub_cons rfl ?_; refine sub_cons rfl ?_; exact sub_nil)) ⟨by assumption, by assumption, X, by omega, rfl, by simp only; omega, by simp only [List.length_append, List.length_cons, List.length_nil]; omega⟩ (by simp)
def PdR (c : PC) (w : World) (r : PD × PS) : Ending → World → Prop := fun e w' => ∃ pa pc ba bc, e = .returned (.agg (r.1.cells pa pc ba bc).toArray) ∧ VDs (fun b => w.heap.size ≤ b ∧ b < w'.heap.size) w' r.1.params pa ∧ r.1.body.sits (fun b => w.heap.size ≤ b ∧ b < w'.heap.size) w' ba ∧ PP c r.2 w' ∧ Fr (· = c.pb) w w'
theorem PdR.ret {c : PC} {w : World} {r : PD × PS} {e : Ending} {w' : World} (h : PdR c w r e w') : ∃ v, e = .returned v := by
 obtain ⟨_, _, _, _, h, -⟩ := h
 exact ⟨_, h⟩
set_option maxRecDepth 100000 in
set_option maxHeartbeats 2000000 in
theorem proc_c (c : PC) (k : Nat) (σ : PS) (w : World) (hP : PP c σ w) (hk : 4 * mS c.ts σ + 8 ≤ k) :
 Calls Tryd.prog 33 #[.pointer (some ⟨c.pb, 0, none⟩)] w (PdR c w (procP c.ts c.n k σ)) := by
 have X := Fr.refl (· = c.pb) w; have hpb := hP.pbB; have hB := hP.B; have hlen := hP.len; have l1 := expect_le (n := c.n) (t := [112, 114, 111, 99]) hP.at_ (by decide); have l2 := l1.trans (name_le (n := c.n) l1.wf); have l3 := l2.trans (expect_le (n := c.n) (t := [40]) l2.wf (by decide)); have l4 := l3.trans (procQ_le (n := c.n) (k := k) l3.wf); have m3 := mS_le l3; have m4 := mS_le l4; rw [procP_at]
 generalize hM : nameP c.ts c.n (expectP c.ts c.n σ [112, 114, 111, 99]) = M at *
 have hname : ∀ {w' : World}, PP c (expectP c.ts c.n σ [112, 114, 111, 99]) w' → Calls Tryd.prog 47 #[.pointer (some ⟨c.pb, 0, none⟩)] w' fun r w'' => r = .returned (str M.1) ∧ PP c M.2 w'' ∧ Fr (· = c.pb) w' w'' := fun h => hM ▸ name_c c _ _ h
 clear l1 l2 l3 l4 hM
 cases hh : hasP c.ts (expectP c.ts c.n M.2 [40]) [41]
 case true =>
  rw [show procQ c.ts c.n k (expectP c.ts c.n M.2 [40]) = ([], nextP (expectP c.ts c.n M.2 [40])) from by simp [procQ, hh]] at m4 ⊢; simp only at m4 ⊢; refine calls_in Tryd.func33 Tryd.ntmps33 rfl rfl ?_
  focus
   refine cS ?_; (refine lw_alloc' [_, _, _, _, _, _] zOk rfl rfl ?_; intro b1 w2 n3); have h5 := n3.blk; have x6 := n3.ext; have p7 := n3.pos; have z8 := n3.size; clear n3; replace hP := hP.ext x6; replace X := X.ext x6; clear x6; refine cN (cM rfl rfl ?_); refine cC (by kernel_rfl) rfl (expect_c _ _ _ _ (by assumption) (by decide)) rfl ?_; rintro _ w11 ⟨⟨⟩, ⟨h9, f10⟩⟩; have z12 := f10.size; replace h5 := h5.fr f10 (by omega); clear hP; replace X := X.fr f10 (by omega); clear f10; refine cN (cM rfl rfl ?_); refine cC (by kernel_rfl) rfl (hname (by assumption)) rfl ?_; rintro _ w15 ⟨⟨⟩, ⟨h13, f14⟩⟩; have z16 := f14.size; clear h9; replace h5 := h5.fr f14 (by omega); replace X := X.fr f14 (by omega); clear f14; refine lw_pure (pur_build' [_, _, _, _, _, _] tabOk zOk rfl rfl rfl rfl) rfl ?_; (refine lw_alloc' [_, _, _, _, _, _] zOk rfl rfl ?_; intro b17 w18 n19); (refine lw_init' [_, _, _, _, _, _] tabOk rfl rfl rfl rfl rfl rfl n19 rfl ?_; clear n19; clear w18; intro w20 n19); have h21 := n19.blk; have x22 := n19.ext; have p23 := n19.pos; have z24 := n19.size; clear n19; replace h13 := h13.ext x22; replace h5 := h5.ext x22; replace X := X.ext x22; clear x22; refine cN (cM rfl rfl ?_); refine cC (by kernel_rfl) rfl (expect_c _ _ _ _ (by assumption) (by decide)) rfl ?_; rintro _ w27 ⟨⟨⟩, ⟨h25, f26⟩⟩; have z28 := f26.size; replace h21 := h21.fr f26 (by omega); clear h13; replace h5 := h5.fr f26 (by omega); replace X := X.fr f26 (by omega); clear f26; refine cT (cw_seq (cS (cM rfl rfl ?_)))
   refine cC (by kernel_rfl) rfl (accept_t _ _ _ _ (by assumption) (by decide) (by assumption)) rfl ?_; rintro _ w31 ⟨⟨⟩, ⟨h29, f30⟩⟩; have z32 := f30.size; clear h25; replace h21 := h21.fr f30 (by omega); replace h5 := h5.fr f30 (by omega); replace X := X.fr f30 (by omega); clear f30; refine lw_pure (pur_not rfl) rfl (cT (cw_cond_f rfl (cw_skip (qw_then (cS (cM rfl rfl ?_)))))); refine cR (by kernel_rfl) rfl (body_c c k _ _ (by assumption) (by omega)) (fun _ _ h => h.ret) rfl ?_; rintro _ w38 ⟨a33, ⟨k34, ⟨⟨⟩, ⟨h35, ⟨h36, f37⟩⟩⟩⟩⟩; have z39 := f37.size; clear h29; replace h21 := h21.fr f37 (by omega); replace h5 := h5.fr f37 (by omega); replace X := X.fr f37 (by omega); clear f37; refine lw_pure (pur_fieldAddr tabOk rfl rfl rfl) rfl ?_; (refine lw_store' [_, _, _, _] [_, _, _, _, _, _] tabOk rfl rfl rfl rfl rfl rfl h21 rfl rfl ?_; intro w40 n41); have h44 := n41.blk; have f42 := n41.fr; have z43 := n41.size; clear n41 h21; replace h35 := Nd.sits.fr h35 f42 (by omega); replace h36 := h36.fr f42 (by omega); replace h5 := h5.fr f42 (by omega); replace X := X.fr f42 (by omega); clear f42; refine cN (lw_loads_b' [_, _, _, _, _, _] tabOk rfl rfl rfl h44 rfl rfl rfl ?_); (refine lw_store' [_, _, _, _, _, _] [_, _, _, _, _, _] tabOk rfl rfl rfl rfl rfl rfl h5 rfl rfl ?_; intro w45 n46); have h49 := n46.blk; have f47 := n46.fr; have z48 := n46.size; clear n46 h5; replace h44 := h44.fr f47 (by omega); replace h35 := Nd.sits.fr h35 f47 (by omega); replace h36 := h36.fr f47 (by omega); replace X := X.fr f47 (by omega)
   clear f47; refine cT (cw_ret (qw_retc rfl tabOk rfl rfl rfl h49 rfl ?_)); rotate_left 1
  exact ⟨_, _, _, _, rfl, Or.inl rfl, Nd.sits.wide (by assumption) (fun b h => by omega), by assumption, X⟩
 rw [show procQ c.ts c.n k (expectP c.ts c.n M.2 [40]) = ((paramsP c.ts c.n k [(declP c.ts c.n (expectP c.ts c.n M.2 [40])).1] (declP c.ts c.n (expectP c.ts c.n M.2 [40])).2).1, expectP c.ts c.n (paramsP c.ts c.n k [(declP c.ts c.n (expectP c.ts c.n M.2 [40])).1] (declP c.ts c.n (expectP c.ts c.n M.2 [40])).2).2 [41]) from by simp [procQ, hh]] at m4 ⊢; simp only at m4 ⊢; refine calls_in Tryd.func33 Tryd.ntmps33 rfl rfl ?_
 focus
  refine cS ?_; (refine lw_alloc' [_, _, _, _, _, _] zOk rfl rfl ?_; intro ba1 wa2 na3); have ha5 := na3.blk; have xa6 := na3.ext; have pa7 := na3.pos; have za8 := na3.size; clear na3; replace hP := hP.ext xa6; replace X := X.ext xa6; clear xa6; refine cN (cM rfl rfl ?_); refine cC (by kernel_rfl) rfl (expect_c _ _ _ _ (by assumption) (by decide)) rfl ?_; rintro _ wa11 ⟨⟨⟩, ⟨ha9, fa10⟩⟩; have za12 := fa10.size; replace ha5 := ha5.fr fa10 (by omega); clear hP; replace X := X.fr fa10 (by omega); clear fa10; refine cN (cM rfl rfl ?_); refine cC (by kernel_rfl) rfl (hname (by assumption)) rfl ?_; rintro _ wa15 ⟨⟨⟩, ⟨ha13, fa14⟩⟩; have za16 := fa14.size; clear ha9; replace ha5 := ha5.fr fa14 (by omega); replace X := X.fr fa14 (by omega); clear fa14; refine lw_pure (pur_build' [_, _, _, _, _, _] tabOk zOk rfl rfl rfl rfl) rfl ?_; (refine lw_alloc' [_, _, _, _, _, _] zOk rfl rfl ?_; intro ba17 wa18 na19); (refine lw_init' [_, _, _, _, _, _] tabOk rfl rfl rfl rfl rfl rfl na19 rfl ?_; clear na19; clear wa18; intro wa20 na19); have ha21 := na19.blk; have xa22 := na19.ext; have pa23 := na19.pos; have za24 := na19.size; clear na19; replace ha13 := ha13.ext xa22; replace ha5 := ha5.ext xa22; replace X := X.ext xa22; clear xa22; refine cN (cM rfl rfl ?_); refine cC (by kernel_rfl) rfl (expect_c _ _ _ _ (by assumption) (by decide)) rfl ?_; rintro _ wa27 ⟨⟨⟩, ⟨ha25, fa26⟩⟩; have za28 := fa26.size; replace ha21 := ha21.fr fa26 (by omega); clear ha13; replace ha5 := ha5.fr fa26 (by omega); replace X := X.fr fa26 (by omega)
  clear fa26; refine cT (cw_seq (cS (cM rfl rfl ?_))); refine cC (by kernel_rfl) rfl (accept_f _ _ _ _ (by assumption) (by decide) (by assumption)) rfl ?_; rintro _ wa31 ⟨⟨⟩, ⟨ha29, fa30⟩⟩; have za32 := fa30.size; clear ha25; replace ha21 := ha21.fr fa30 (by omega); replace ha5 := ha5.fr fa30 (by omega); replace X := X.fr fa30 (by omega); clear fa30; refine lw_pure (pur_not rfl) rfl (cT (cw_cond_t rfl (cS (cM rfl rfl ?_)))); refine cR (by kernel_rfl) rfl (params_c c k _ _ (by assumption) (by omega)) (fun _ _ h => h.ret) rfl ?_; rintro _ wa38 ⟨aa33, ⟨ka34, ⟨⟨⟩, ⟨ha35, ⟨ha36, fa37⟩⟩⟩⟩⟩; have za39 := fa37.size; clear ha29; replace ha21 := ha21.fr fa37 (by omega); replace ha5 := ha5.fr fa37 (by omega); replace X := X.fr fa37 (by omega); clear fa37; refine lw_pure (pur_fieldAddr tabOk rfl rfl rfl) rfl ?_; (refine lw_store' [_] [_, _, _, _, _, _] tabOk rfl rfl rfl rfl rfl rfl ha21 rfl rfl ?_; intro wa40 na41); have ha44 := na41.blk; have fa42 := na41.fr; have za43 := na41.size; clear na41 ha21; replace ha35 := ha35.fr fa42 (by omega); replace ha36 := ha36.fr fa42 (by omega); replace ha5 := ha5.fr fa42 (by omega); replace X := X.fr fa42 (by omega); clear fa42; refine cT (cw_region (cM rfl rfl ?_)); refine cC (by kernel_rfl) rfl (expect_c _ _ _ _ (by assumption) (by decide)) rfl ?_; rintro _ wa47 ⟨⟨⟩, ⟨ha45, fa46⟩⟩; have za48 := fa46.size; replace ha44 := ha44.fr fa46 (by omega); replace ha35 := ha35.fr fa46 (by omega); clear ha36; replace ha5 := ha5.fr fa46 (by omega); replace X := X.fr fa46 (by omega)
  clear fa46; refine cN (cM rfl rfl ?_); refine cR (by kernel_rfl) rfl (body_c c k _ _ (by assumption) (by omega)) (fun _ _ h => h.ret) rfl ?_; rintro _ wa54 ⟨aa49, ⟨ka50, ⟨⟨⟩, ⟨ha51, ⟨ha52, fa53⟩⟩⟩⟩⟩; have za55 := fa53.size; clear ha45; replace ha44 := ha44.fr fa53 (by omega); replace ha35 := ha35.fr fa53 (by omega); replace ha5 := ha5.fr fa53 (by omega); replace X := X.fr fa53 (by omega); clear fa53; refine lw_pure (pur_fieldAddr tabOk rfl rfl rfl) rfl ?_; (refine lw_store' [_, _, _, _] [_, _, _, _, _, _] tabOk rfl rfl rfl rfl rfl rfl ha44 rfl rfl ?_; intro wa56 na57); have ha60 := na57.blk; have fa58 := na57.fr; have za59 := na57.size; clear na57 ha44; replace ha51 := Nd.sits.fr ha51 fa58 (by omega); replace ha52 := ha52.fr fa58 (by omega); replace ha35 := ha35.fr fa58 (by omega); replace ha5 := ha5.fr fa58 (by omega); replace X := X.fr fa58 (by omega); clear fa58; refine cN (lw_loads_b' [_, _, _, _, _, _] tabOk rfl rfl rfl ha60 rfl rfl rfl ?_); (refine lw_store' [_, _, _, _, _, _] [_, _, _, _, _, _] tabOk rfl rfl rfl rfl rfl rfl ha5 rfl rfl ?_; intro wa61 na62); have ha65 := na62.blk; have fa63 := na62.fr; have za64 := na62.size; clear na62 ha5; replace ha60 := ha60.fr fa63 (by omega); replace ha51 := Nd.sits.fr ha51 fa63 (by omega); replace ha52 := ha52.fr fa63 (by omega); replace ha35 := ha35.fr fa63 (by omega); replace X := X.fr fa63 (by omega); clear fa63; refine cT (cw_ret (qw_retc rfl tabOk rfl rfl rfl ha65 rfl ?_)); rotate_left 1
 exact ⟨_, _, _, _, rfl, VDs.wide (by assumption) (fun b h => by omega), Nd.sits.wide (by assumption) (fun b h => by omega), by assumption, X⟩
end Bk
namespace Bk
open Go Go.RowKit Go.Proofs
attribute [local irreducible] Go.Calls
def PgR (c : PC) (w : World) (r : PG × PS) : Ending → World → Prop := fun e w' => ∃ va vc pa pc ma mc, e = .returned (.agg (r.1.cells va vc pa pc ma mc).toArray) ∧ r.1.sits (w.heap.size ≤ ·) w' va pa ma ∧ PP c r.2 w' ∧ Fr (· = c.pb) w w'
theorem PgR.ret {c : PC} {w : World} {r : PG × PS} {e : Ending} {w' : World} (h : PgR c w r e w') : ∃ v, e = .returned v := by
 obtain ⟨_, _, _, _, _, _, h, -⟩ := h
 exact ⟨_, h⟩
theorem PDs.wide {S S' : Nat → Prop} {w : World} {l : List PD} {a : Option Addr} (h : PDs S w l a) (hs : ∀ b, S b → S' b) : PDs S' w l a :=
 h.mono hs (fun _ _ _ _ _ ⟨pa, pc, ba, bc, h1, h2, h3⟩ => ⟨pa, pc, ba, bc, h1, h2.wide hs, h3.wide hs⟩)
set_option maxRecDepth 100000 in
set_option maxHeartbeats 4000000 in
theorem program_c (c : PC) (k : Nat) (σ : PS) (w : World) (hP : PP c σ w) (hk : 4 * mS c.ts σ + 9 ≤ k) :
 Calls Tryd.prog 23 #[.pointer (some ⟨c.pb, 0, none⟩)] w (PgR c w (programP c.ts c.n k σ)) := by
 have X := Fr.refl (· = c.pb) w; have hpb := hP.pbB; have hB := hP.B; have hlen := hP.len; have hat := hP.at_
 have hmt : mS c.ts σ ≤ c.ts.length := by unfold mS; split <;> omega
 unfold programP
 (try dsimp only); refine calls_in Tryd.func23 Tryd.ntmps23 rfl rfl ?_
 focus
  refine cS ?_; (refine lw_alloc' [_, _, _, _, _, _] zOk rfl rfl ?_; intro b1 w2 n3); have h5 := n3.blk; have x6 := n3.ext; have p7 := n3.pos; have z8 := n3.size; clear n3; replace hP := hP.ext x6; replace X := X.ext x6; clear x6; refine cN ?_; (refine lw_alloc' [_, _, _, _, _, _] zOk rfl rfl ?_; intro b9 w10 n11); have h13 := n11.blk; have x14 := n11.ext; have p15 := n11.pos; have z16 := n11.size; clear n11; replace h5 := h5.ext x14; replace hP := hP.ext x14; replace X := X.ext x14; clear x14; refine cT (cw_seq (cw_block ?_)); rotate_left 1
 refine cw_loop (ι := Nat × List VD × Option Addr × Nat × PS) (fun _ => [(0, .pointer (some ⟨c.pb, 0, none⟩)), (2, .pointer (some ⟨b1, 0, none⟩)), (3, .pointer (some ⟨b9, 0, none⟩))])
  (fun x w' => PP c x.2.2.2.2 w' ∧ Blk w' b9 [.slice x.2.2.1 x.2.1.length x.2.2.2.1, .slice none 0 0, .int .u8 0, .int .i64 0, .string ⟨#[]⟩, .slice none 0 0] ∧ OwnL vdShape w' (b9 + 1) 77 (.slice x.2.2.1 x.2.1.length x.2.2.2.1) x.2.1 ∧
   Blk w' b1 [.slice none 0 0, .slice none 0 0, .int .u8 0, .int .i64 0, .string ⟨#[]⟩, .slice none 0 0] ∧ Fr (· = c.pb) w w' ∧ w10.heap.size ≤ w'.heap.size ∧ Le c.ts σ x.2.2.2.2 ∧
   varsP c.ts c.n k [] σ = varsP c.ts c.n x.1 x.2.1 x.2.2.2.2 ∧ (x.2.2.2.2.err = 0 → mS c.ts x.2.2.2.2 + 1 ≤ x.1) ∧ 1 ≤ x.1 ∧ (x.2.2.2.2.err = 0 → x.2.1.length + mS c.ts x.2.2.2.2 ≤ 1000001)) (fun x => x.1) (k, [], none, 0, σ) (by (refine sub_cons rfl ?_; refine sub_cons rfl ?_; refine sub_cons rfl ?_; exact sub_nil))
  ⟨hP, h13, OwnL.nil, h5, X, Nat.le_refl _, Le.refl hat, rfl, fun _ => by simp only; omega, by simp only; omega, fun _ => by simp only [List.length_nil]; omega⟩ ?_
 rintro ⟨j, acc, a, cap, σ'⟩ w1 ⟨hP, hbn, hown, hbr, X, hz, hle, he, hfj, hj1, hacc⟩; simp only at hP hbn hown hle he hfj hj1 hacc; clear h13 h5; rw [he]; obtain ⟨j, rfl⟩ : ∃ i, j = i + 1 := ⟨j - 1, by omega⟩
 cases hc : atDeclP c.ts σ'
 case true =>
  have hin : In c.ts σ' := by
   simp only [atDeclP, Bool.or_eq_true] at hc
   rcases hc with (h | h) | h <;> exact has_in hP.at_ h (by decide)
  have h0 := hin.1; have hf0 := hfj h0; have ha0 := hacc h0; have hm1 := mS_pos hin
  by_cases h8 : acc.length = 32
  · rw [show varsP c.ts c.n (j + 1) acc σ' = varsP c.ts c.n j (acc ++ [(declP c.ts c.n (failP σ' (peekP c.ts σ').pos 5)).1]) (declP c.ts c.n (failP σ' (peekP c.ts σ').pos 5)).2 from by rw [varsP]; simp [hc, h8]]
    have hfl := fail_le (show σ'.at_ ≤ c.ts.length from hP.at_) (peekP c.ts σ').pos 5; have hdl := hfl.trans (decl_le (n := c.n) hfl.wf); have hdt : Lt σ' (declP c.ts c.n (failP σ' (peekP c.ts σ').pos 5)).2 := Lt.of_le hfl (decl_lt hfl.wf); have hdr := mS_drop hdl hdt; have hle2 := hle.trans hdl
    focus
     refine cw_seq (cS (cM rfl rfl ?_)); refine cC (by kernel_rfl) rfl (atDecl_c _ _ _ (by assumption)) rfl ?_; rintro _ wa2 ⟨⟨⟩, xa1⟩; have za3 := xa1.size; replace hP := hP.ext xa1; replace hbn := hbn.ext xa1; replace hown := hown.ext xa1; replace hbr := hbr.ext xa1; replace X := X.ext xa1; clear xa1; refine cT ?_; refine cw_bt rfl (by assumption) ?_; refine cw_skip (qw_then (cw_block (cw_seq (cS (lw_pure (pur_fieldAddr0 tabOk rfl rfl rfl) rfl (lw_load_b tabOk rfl rfl rfl hbn rfl rfl (lw_pure (pur_len_slice tabOk rfl rfl) rfl (lw_pure (pur_eql rfl rfl) rfl (cT ?_))))))))); refine cw_yes rfl (by omega) ?_; refine cw_region (cM rfl rfl (cM rfl rfl ?_)); refine cC (by kernel_rfl) rfl (peek_c _ _ _ (by assumption)) rfl ?_; rintro _ wa5 ⟨⟨⟩, xa4⟩; have za6 := xa4.size; replace hP := hP.ext xa4; replace hbn := hbn.ext xa4; replace hown := hown.ext xa4; replace hbr := hbr.ext xa4; replace X := X.ext xa4; clear xa4; refine lw_pure (pur_field tabOk rfl rfl rfl rfl rfl rfl) rfl ?_; refine cC (by kernel_rfl) rfl (fail_c _ _ _ _ _ (by assumption)) rfl ?_; rintro _ wa9 ⟨⟨⟩, ⟨ha7, fa8⟩⟩; have za10 := fa8.size; clear hP; replace hbn := hbn.fr fa8 (by omega); replace hown := hown.fr fa8 (by omega); replace hbr := hbr.fr fa8 (by omega); replace X := X.fr fa8 (by omega); clear fa8; refine cT ?_; (refine cw_tdraw (fun wz => Fr (· = c.pb) wa9 wz) 5 (.pure 0 (.pure 1 (.pure 2 (.fork 3 (.fork 4 .tail .none) .none)))) mixed (by kernel_rfl) (panicOk_block (panicOk_then (panicOk_block (panicOk_then panicOk_body)))) ?_; intro wa11 xa12 _)
     have qsa13 : (fun wz => Fr (· = c.pb) wa9 wz) wa11 := Fr.of_ext xa12; simp only at qsa13; have d_ha7 := ha7; have d_hbn := hbn; have d_hown := hown; have d_hbr := hbr; have za14 := xa12.size; replace ha7 := ha7.ext xa12; replace hbn := hbn.ext xa12; replace hown := hown.ext xa12; replace hbr := hbr.ext xa12; replace X := X.ext xa12; clear xa12; refine ⟨qsa13, ?_⟩; refine tw_pure rfl (pur_fieldAddr0 tabOk rfl rfl rfl) rfl ?_; refine tw_pure rfl (pur_load tabOk rfl rfl rfl (fun wz hz => Blk.cell (Blk.fr d_hbn hz (by omega)) rfl)) rfl ?_; refine tw_pure rfl (pur_move rfl) rfl ?_; refine tw_does rfl (does_call (by kernel_rfl) rfl (decl_p _ _ _ (by assumption)) (fun _ _ h => ⟨_, h.1⟩)) rfl ?_ (fun _ h => h) tw_none; rintro _ wa17 ⟨⟨⟩, ⟨ha15, fa16⟩⟩; have za18 := fa16.size; replace qsa13 := qsa13.fr fa16 (by omega); clear ha7; replace hbn := hbn.fr fa16 (by omega); replace hown := hown.fr fa16 (by omega); replace hbr := hbr.fr fa16 (by omega); replace X := X.fr fa16 (by omega); clear fa16; refine ⟨qsa13, ?_⟩; (refine tw_does rfl (does_slice' [_, _, _] tabOk zOk rfl rfl rfl rfl rfl rfl rfl rfl rfl) rfl ?_ (fun _ h => h) tw_none; rintro _ wa20 ⟨ba19, rfl, na21, ta22⟩); clear ta22; have ha23 := na21.blk; have xa24 := na21.ext; have pa25 := na21.pos; have za26 := na21.size; clear na21; replace ha15 := ha15.ext xa24; replace qsa13 := qsa13.ext xa24; replace hbn := hbn.ext xa24; replace hown := hown.ext xa24; replace hbr := hbr.ext xa24; replace X := X.ext xa24; clear xa24; refine ⟨qsa13, ?_⟩
     clear d_ha7 d_hbn d_hown d_hbr qsa13; refine tw_tail rfl ?_; refine lw_appendL (sh := vdShape) tabOk zOk rfl rfl rfl rfl (by kernel_rfl) rfl rfl rfl hown (Blk.row (by assumption)) rfl (by omega) (by omega) rfl ?_; rintro ga27 cap'a28 wa29 ha30 fa31; have za32 := fa31.size; clear ha23; replace ha15 := ha15.fr fa31 (by omega); replace hbn := hbn.fr fa31 (by omega); clear hown; replace hbr := hbr.fr fa31 (by omega); replace X := X.fr fa31 (by omega); clear fa31; refine lw_pure (pur_fieldAddr0 tabOk rfl rfl rfl) rfl ?_; (refine lw_store' [_] [_, _, _, _, _, _] tabOk rfl rfl rfl rfl rfl rfl hbn rfl rfl ?_; intro wa33 na34); have ha37 := na34.blk; have fa35 := na34.fr; have za36 := na34.size; clear na34 hbn; replace ha30 := ha30.fr fa35 (by omega); replace ha15 := ha15.fr fa35 (by omega); replace hbr := hbr.fr fa35 (by omega); replace X := X.fr fa35 (by omega); clear fa35; refine lw_nil (qw_block_norm ?_); rotate_left 1
    refine qw_round (j, acc ++ [(declP c.ts c.n (failP σ' (peekP c.ts σ').pos 5)).1], some ⟨_, 0, none⟩, _, (declP c.ts c.n (failP σ' (peekP c.ts σ').pos 5)).2) (by (refine sub_cons rfl ?_; refine sub_cons rfl ?_; refine sub_cons rfl ?_; exact sub_nil)) ⟨by assumption, by assumption, by assumption, by assumption, X, by omega, hle2, rfl, fun e => by have := hdr e; simp only; omega, by simp only; omega, fun e => by have := hdr e; simp only [List.length_append, List.length_cons, List.length_nil]; omega⟩ (by simp)
  · rw [show varsP c.ts c.n (j + 1) acc σ' = varsP c.ts c.n j (acc ++ [(declP c.ts c.n σ').1]) (declP c.ts c.n σ').2 from by rw [varsP]; simp [hc, h8]]
    have hdl := decl_le (n := c.n) hP.at_; have hdr := mS_drop hdl (decl_lt hP.at_); have hle2 := hle.trans hdl
    focus
     refine cw_seq (cS (cM rfl rfl ?_)); refine cC (by kernel_rfl) rfl (atDecl_c _ _ _ (by assumption)) rfl ?_; rintro _ wb2 ⟨⟨⟩, xb1⟩; have zb3 := xb1.size; replace hP := hP.ext xb1; replace hbn := hbn.ext xb1; replace hown := hown.ext xb1; replace hbr := hbr.ext xb1; replace X := X.ext xb1; clear xb1; refine cT ?_; refine cw_bt rfl (by assumption) ?_; refine cw_skip (qw_then (cw_block (cw_seq (cS (lw_pure (pur_fieldAddr0 tabOk rfl rfl rfl) rfl (lw_load_b tabOk rfl rfl rfl hbn rfl rfl (lw_pure (pur_len_slice tabOk rfl rfl) rfl (lw_pure (pur_eql rfl rfl) rfl (cT ?_))))))))); refine cw_no rfl (by omega) ?_; refine cw_skip (qw_then ?_); (refine cw_tdraw (fun wz => Fr (· = c.pb) wb2 wz) 5 (.pure 0 (.pure 1 (.pure 2 (.fork 3 (.fork 4 .tail .none) .none)))) mixed (by kernel_rfl) (panicOk_block (panicOk_then (panicOk_block (panicOk_then panicOk_body)))) ?_; intro wb4 xb5 _); have qsb6 : (fun wz => Fr (· = c.pb) wb2 wz) wb4 := Fr.of_ext xb5; simp only at qsb6; have d_hP := hP; have d_hbn := hbn; have d_hown := hown; have d_hbr := hbr; have zb7 := xb5.size; replace hP := hP.ext xb5; replace hbn := hbn.ext xb5; replace hown := hown.ext xb5; replace hbr := hbr.ext xb5; replace X := X.ext xb5; clear xb5; refine ⟨qsb6, ?_⟩; refine tw_pure rfl (pur_fieldAddr0 tabOk rfl rfl rfl) rfl ?_; refine tw_pure rfl (pur_load tabOk rfl rfl rfl (fun wz hz => Blk.cell (Blk.fr d_hbn hz (by omega)) rfl)) rfl ?_; refine tw_pure rfl (pur_move rfl) rfl ?_; refine tw_does rfl (does_call (by kernel_rfl) rfl (decl_p _ _ _ (by assumption)) (fun _ _ h => ⟨_, h.1⟩)) rfl ?_ (fun _ h => h) tw_none
     rintro _ wb10 ⟨⟨⟩, ⟨hb8, fb9⟩⟩; have zb11 := fb9.size; replace qsb6 := qsb6.fr fb9 (by omega); clear hP; replace hbn := hbn.fr fb9 (by omega); replace hown := hown.fr fb9 (by omega); replace hbr := hbr.fr fb9 (by omega); replace X := X.fr fb9 (by omega); clear fb9; refine ⟨qsb6, ?_⟩; (refine tw_does rfl (does_slice' [_, _, _] tabOk zOk rfl rfl rfl rfl rfl rfl rfl rfl rfl) rfl ?_ (fun _ h => h) tw_none; rintro _ wb13 ⟨bb12, rfl, nb14, tb15⟩); clear tb15; have hb16 := nb14.blk; have xb17 := nb14.ext; have pb18 := nb14.pos; have zb19 := nb14.size; clear nb14; replace hb8 := hb8.ext xb17; replace qsb6 := qsb6.ext xb17; replace hbn := hbn.ext xb17; replace hown := hown.ext xb17; replace hbr := hbr.ext xb17; replace X := X.ext xb17; clear xb17; refine ⟨qsb6, ?_⟩; clear d_hP d_hbn d_hown d_hbr qsb6; refine tw_tail rfl ?_; refine lw_appendL (sh := vdShape) tabOk zOk rfl rfl rfl rfl (by kernel_rfl) rfl rfl rfl hown (Blk.row (by assumption)) rfl (by omega) (by omega) rfl ?_; rintro gb20 cap'b21 wb22 hb23 fb24; have zb25 := fb24.size; clear hb16; replace hb8 := hb8.fr fb24 (by omega); replace hbn := hbn.fr fb24 (by omega); clear hown; replace hbr := hbr.fr fb24 (by omega); replace X := X.fr fb24 (by omega); clear fb24; refine lw_pure (pur_fieldAddr0 tabOk rfl rfl rfl) rfl ?_; (refine lw_store' [_] [_, _, _, _, _, _] tabOk rfl rfl rfl rfl rfl rfl hbn rfl rfl ?_; intro wb26 nb27); have hb30 := nb27.blk; have fb28 := nb27.fr; have zb29 := nb27.size; clear nb27 hbn; replace hb23 := hb23.fr fb28 (by omega)
     replace hb8 := hb8.fr fb28 (by omega); replace hbr := hbr.fr fb28 (by omega); replace X := X.fr fb28 (by omega); clear fb28; refine lw_nil (qw_block_norm ?_); rotate_left 1
    refine qw_round (j, acc ++ [(declP c.ts c.n σ').1], some ⟨_, 0, none⟩, _, (declP c.ts c.n σ').2) (by (refine sub_cons rfl ?_; refine sub_cons rfl ?_; refine sub_cons rfl ?_; exact sub_nil)) ⟨by assumption, by assumption, by assumption, by assumption, X, by omega, hle2, rfl, fun e => by have := hdr e; simp only; omega, by simp only; omega, fun e => by have := hdr e; simp only [List.length_append, List.length_cons, List.length_nil]; omega⟩ (by simp)
 rw [show varsP c.ts c.n (j + 1) acc σ' = (acc, σ') from by rw [varsP]; simp [hc]]; simp only; have hm' := mS_le hle; have hat' := hP.at_
 focus
  refine cw_seq (cS (cM rfl rfl ?_)); refine cC (by kernel_rfl) rfl (atDecl_c _ _ _ (by assumption)) rfl ?_; rintro _ wc2 ⟨⟨⟩, xc1⟩; have zc3 := xc1.size; replace hP := hP.ext xc1; replace hbn := hbn.ext xc1; replace hown := hown.ext xc1; replace hbr := hbr.ext xc1; replace X := X.ext xc1; clear xc1; refine cT ?_; refine cw_bf rfl (by assumption) ?_; refine cw_exit (qw_then_exit (qw_then_exit (qw_block_exit (qw_then (cw_seq (cw_block ?_)))))); rotate_left 1
 have hvs : VDs (fun b => b9 < b ∧ b < wc2.heap.size) wc2 acc a := (OwnL.vds (S := (b9 < ·)) hown (fun b h => h)).lt2; clear hown; refine cw_loop (ι := Nat × List PD × Option Addr × Nat × PS) (fun _ => [(0, .pointer (some ⟨c.pb, 0, none⟩)), (2, .pointer (some ⟨b1, 0, none⟩)), (3, .pointer (some ⟨b9, 0, none⟩))])
  (fun x w' => PP c x.2.2.2.2 w' ∧ Blk w' b9 [.slice a acc.length cap, .slice x.2.2.1 x.2.1.length x.2.2.2.1, .int .u8 0, .int .i64 0, .string ⟨#[]⟩, .slice none 0 0] ∧ OwnL pdShape w' wc2.heap.size 59 (.slice x.2.2.1 x.2.1.length x.2.2.2.1) x.2.1 ∧ VDs (fun b => b9 < b ∧ b < wc2.heap.size) w' acc a ∧
   Blk w' b1 [.slice none 0 0, .slice none 0 0, .int .u8 0, .int .i64 0, .string ⟨#[]⟩, .slice none 0 0] ∧ Fr (· = c.pb) w w' ∧ wc2.heap.size ≤ w'.heap.size ∧ Le c.ts σ' x.2.2.2.2 ∧
   procsP c.ts c.n k [] σ' = procsP c.ts c.n x.1 x.2.1 x.2.2.2.2 ∧ (x.2.2.2.2.err = 0 → 4 * mS c.ts x.2.2.2.2 + 9 ≤ x.1) ∧ 1 ≤ x.1 ∧ x.1 ≤ k ∧ (x.2.2.2.2.err = 0 → x.2.1.length + mS c.ts x.2.2.2.2 ≤ 1000001)) (fun x => x.1) (k, [], none, 0, σ') (by (refine sub_cons rfl ?_; refine sub_cons rfl ?_; refine sub_cons rfl ?_; exact sub_nil))
  ⟨hP, hbn, OwnL.nil, hvs, hbr, X, Nat.le_refl _, Le.refl hat', rfl, fun _ => by simp only; omega, by simp only; omega, Nat.le_refl _, fun _ => by simp only [List.length_nil]; omega⟩ ?_
 rintro ⟨i, pacc, pa, pcap, ρ'⟩ w5 ⟨hP, hbn, hown2, hvs, hbr, X, hz5, hle5, he5, hfi, hi1, hik, hpacc⟩; simp only at hP hbn hown2 hle5 he5 hfi hi1 hik hpacc; rw [he5]; clear he hfj hacc he5; obtain ⟨i, rfl⟩ : ∃ m, i = m + 1 := ⟨i - 1, by omega⟩
 have hob : ∀ g, (Value.slice pa pacc.length pcap).ownBlock = some g → g < w5.heap.size := fun g h => hown2.lt h
 by_cases hp : (peekP c.ts ρ').text = [112, 114, 111, 99]
 · have hc2 : hasP c.ts ρ' [112, 114, 111, 99] = true := by simp [hasP, hp]
   have hin := has_in hP.at_ hc2 (by decide); have h0 := hin.1; have hf0 := hfi h0; have ha0 := hpacc h0; have hm1 := mS_pos hin
   by_cases h8 : pacc.length = 64
   · rw [show procsP c.ts c.n (i + 1) pacc ρ' = procsP c.ts c.n i (pacc ++ [(procP c.ts c.n i (failP ρ' (peekP c.ts ρ').pos 5)).1]) (procP c.ts c.n i (failP ρ' (peekP c.ts ρ').pos 5)).2 from by rw [procsP]; simp [hc2, h8]]
     have hfl := fail_le (show ρ'.at_ ≤ c.ts.length from hP.at_) (peekP c.ts ρ').pos 5; have hfm := mS_le hfl; have hdl := hfl.trans (procP_le (n := c.n) (k := i) hfl.wf); have hdr := mS_drop hdl (Lt.of_le hfl (procP_lt (n := c.n) (k := i) hfl.wf)); have hle2 := hle5.trans hdl
     focus
      refine cw_seq (cS (cM rfl rfl ?_)); refine cC (by kernel_rfl) rfl (peek_c _ _ _ (by assumption)) rfl ?_; rintro _ wd2 ⟨⟨⟩, xd1⟩; have zd3 := xd1.size; replace hP := hP.ext xd1; replace hbn := hbn.ext xd1; replace hown2 := hown2.ext xd1; replace hvs := hvs.ext xd1; replace hbr := hbr.ext xd1; replace X := X.ext xd1; clear xd1; refine lw_pure (pur_field tabOk rfl rfl rfl rfl rfl rfl) rfl (lw_pure (pur_seql rfl rfl) rfl (cT ?_)); refine cw_yes rfl (by assumption) ?_; refine cw_skip (qw_then (cw_block (cw_seq (cS (lw_pure (pur_fieldAddr tabOk rfl rfl rfl) rfl (lw_load_b tabOk rfl rfl rfl hbn rfl rfl (lw_pure (pur_len_slice tabOk rfl rfl) rfl (lw_pure (pur_eql rfl rfl) rfl (cT ?_))))))))); refine cw_yes rfl (by omega) ?_; refine cw_region (cM rfl rfl (cM rfl rfl ?_)); refine cC (by kernel_rfl) rfl (peek_c _ _ _ (by assumption)) rfl ?_; rintro _ wd5 ⟨⟨⟩, xd4⟩; have zd6 := xd4.size; replace hP := hP.ext xd4; replace hbn := hbn.ext xd4; replace hown2 := hown2.ext xd4; replace hvs := hvs.ext xd4; replace hbr := hbr.ext xd4; replace X := X.ext xd4; clear xd4; refine lw_pure (pur_field tabOk rfl rfl rfl rfl rfl rfl) rfl ?_; refine cC (by kernel_rfl) rfl (fail_c _ _ _ _ _ (by assumption)) rfl ?_; rintro _ wd9 ⟨⟨⟩, ⟨hd7, fd8⟩⟩; have zd10 := fd8.size; clear hP; replace hbn := hbn.fr fd8 (by omega); replace hown2 := hown2.fr fd8 (by omega); replace hvs := hvs.fr fd8 (by omega); replace hbr := hbr.fr fd8 (by omega); replace X := X.fr fd8 (by omega); clear fd8; refine cT ?_; (refine cw_tdraw (fun wz => Fr (· = c.pb) wd9 wz) 5 (.pure 0 (.pure 1 (.pure 2 (.fork 3 (.fork 4 .tail .none) .none)))) mixed (by kernel_rfl) (panicOk_block (panicOk_then (panicOk_block (panicOk_then panicOk_body)))) ?_; intro wd11 xd12 _)
      have qsd13 : (fun wz => Fr (· = c.pb) wd9 wz) wd11 := Fr.of_ext xd12; simp only at qsd13; have d_hd7 := hd7; have d_hbn := hbn; have d_hown2 := hown2; have d_hvs := hvs; have d_hbr := hbr; have zd14 := xd12.size; replace hd7 := hd7.ext xd12; replace hbn := hbn.ext xd12; replace hown2 := hown2.ext xd12; replace hvs := hvs.ext xd12; replace hbr := hbr.ext xd12; replace X := X.ext xd12; clear xd12; refine ⟨qsd13, ?_⟩; refine tw_pure rfl (pur_fieldAddr tabOk rfl rfl rfl) rfl ?_; refine tw_pure rfl (pur_load tabOk rfl rfl rfl (fun wz hz => Blk.cell (Blk.fr d_hbn hz (by omega)) rfl)) rfl ?_; refine tw_pure rfl (pur_move rfl) rfl ?_; refine tw_does rfl (does_call (by kernel_rfl) rfl (proc_c c i _ _ (by assumption) (by omega)) (fun _ _ h => h.ret)) rfl ?_ (fun _ h => h) tw_none; rintro _ wd23 ⟨pad15, ⟨pcd16, ⟨bad17, ⟨bcd18, ⟨⟨⟩, ⟨hd19, ⟨hd20, ⟨hd21, fd22⟩⟩⟩⟩⟩⟩⟩⟩; have zd24 := fd22.size; replace qsd13 := qsd13.fr fd22 (by omega); clear hd7; replace hbn := hbn.fr fd22 (by omega); replace hown2 := hown2.fr fd22 (by omega); replace hvs := hvs.fr fd22 (by omega); replace hbr := hbr.fr fd22 (by omega); replace X := X.fr fd22 (by omega); clear fd22; refine ⟨qsd13, ?_⟩; (refine tw_does rfl (does_slice' [_, _, _, _, _, _] tabOk zOk rfl rfl rfl rfl rfl rfl rfl rfl rfl) rfl ?_ (fun _ h => h) tw_none; rintro _ wd26 ⟨bd25, rfl, nd27, td28⟩); clear td28; have hd29 := nd27.blk; have xd30 := nd27.ext; have pd31 := nd27.pos; have zd32 := nd27.size; clear nd27; replace hd19 := hd19.ext xd30; replace hd20 := Nd.sits.ext hd20 xd30
      replace hd21 := hd21.ext xd30; replace qsd13 := qsd13.ext xd30; replace hbn := hbn.ext xd30; replace hown2 := hown2.ext xd30; replace hvs := hvs.ext xd30; replace hbr := hbr.ext xd30; replace X := X.ext xd30; clear xd30; refine ⟨qsd13, ?_⟩; clear d_hd7 d_hbn d_hown2 d_hvs d_hbr qsd13; refine tw_tail rfl ?_; refine lw_appendL (sh := pdShape) tabOk zOk rfl rfl rfl rfl (by kernel_rfl) rfl rfl rfl hown2 (Blk.row (by assumption)) ⟨_, _, _, _, rfl, VDs.wide (by assumption) (fun b h => ⟨by omega, fun e => by have := hob _ e; omega⟩), Nd.sits.wide (by assumption) (fun b h => ⟨by omega, fun e => by have := hob _ e; omega⟩)⟩ (by omega) (by omega) rfl ?_; rintro gd33 cap'd34 wd35 hd36 fd37; have zd38 := fd37.size; clear hd29 hd19 hd20; replace hd21 := hd21.fr fd37 (by omega); replace hbn := hbn.fr fd37 (by omega); clear hown2; replace hvs := hvs.fr fd37 (by omega); replace hbr := hbr.fr fd37 (by omega); replace X := X.fr fd37 (by omega); clear fd37; refine lw_pure (pur_fieldAddr tabOk rfl rfl rfl) rfl ?_; (refine lw_store' [_] [_, _, _, _, _, _] tabOk rfl rfl rfl rfl rfl rfl hbn rfl rfl ?_; intro wd39 nd40); have hd43 := nd40.blk; have fd41 := nd40.fr; have zd42 := nd40.size; clear nd40 hbn; replace hd36 := hd36.fr fd41 (by omega); replace hd21 := hd21.fr fd41 (by omega); replace hvs := hvs.fr fd41 (by omega); replace hbr := hbr.fr fd41 (by omega); replace X := X.fr fd41 (by omega); clear fd41; refine lw_nil (qw_block_norm ?_); rotate_left 1
     refine qw_round (i, pacc ++ [(procP c.ts c.n i (failP ρ' (peekP c.ts ρ').pos 5)).1], some ⟨_, 0, none⟩, _, (procP c.ts c.n i (failP ρ' (peekP c.ts ρ').pos 5)).2) (by (refine sub_cons rfl ?_; refine sub_cons rfl ?_; refine sub_cons rfl ?_; exact sub_nil)) ⟨by assumption, by assumption, by assumption, by assumption, by assumption, X, by omega, hle2, rfl, fun e => by have := hdr e; simp only; omega, by simp only; omega, by simp only; omega, fun e => by have := hdr e; simp only [List.length_append, List.length_cons, List.length_nil]; omega⟩ (by simp)
   · rw [show procsP c.ts c.n (i + 1) pacc ρ' = procsP c.ts c.n i (pacc ++ [(procP c.ts c.n i ρ').1]) (procP c.ts c.n i ρ').2 from by rw [procsP]; simp [hc2, h8]]
     have hdl := procP_le (n := c.n) (k := i) hP.at_; have hdr := mS_drop hdl (procP_lt (n := c.n) (k := i) hP.at_); have hle2 := hle5.trans hdl
     focus
      refine cw_seq (cS (cM rfl rfl ?_)); refine cC (by kernel_rfl) rfl (peek_c _ _ _ (by assumption)) rfl ?_; rintro _ we2 ⟨⟨⟩, xe1⟩; have ze3 := xe1.size; replace hP := hP.ext xe1; replace hbn := hbn.ext xe1; replace hown2 := hown2.ext xe1; replace hvs := hvs.ext xe1; replace hbr := hbr.ext xe1; replace X := X.ext xe1; clear xe1; refine lw_pure (pur_field tabOk rfl rfl rfl rfl rfl rfl) rfl (lw_pure (pur_seql rfl rfl) rfl (cT ?_)); refine cw_yes rfl (by assumption) ?_; refine cw_skip (qw_then (cw_block (cw_seq (cS (lw_pure (pur_fieldAddr tabOk rfl rfl rfl) rfl (lw_load_b tabOk rfl rfl rfl hbn rfl rfl (lw_pure (pur_len_slice tabOk rfl rfl) rfl (lw_pure (pur_eql rfl rfl) rfl (cT ?_))))))))); refine cw_no rfl (by omega) ?_; refine cw_skip (qw_then ?_); (refine cw_tdraw (fun wz => Fr (· = c.pb) we2 wz) 5 (.pure 0 (.pure 1 (.pure 2 (.fork 3 (.fork 4 .tail .none) .none)))) mixed (by kernel_rfl) (panicOk_block (panicOk_then (panicOk_block (panicOk_then panicOk_body)))) ?_; intro we4 xe5 _); have qse6 : (fun wz => Fr (· = c.pb) we2 wz) we4 := Fr.of_ext xe5; simp only at qse6; have d_hP := hP; have d_hbn := hbn; have d_hown2 := hown2; have d_hvs := hvs; have d_hbr := hbr; have ze7 := xe5.size; replace hP := hP.ext xe5; replace hbn := hbn.ext xe5; replace hown2 := hown2.ext xe5; replace hvs := hvs.ext xe5; replace hbr := hbr.ext xe5; replace X := X.ext xe5; clear xe5; refine ⟨qse6, ?_⟩; refine tw_pure rfl (pur_fieldAddr tabOk rfl rfl rfl) rfl ?_; refine tw_pure rfl (pur_load tabOk rfl rfl rfl (fun wz hz => Blk.cell (Blk.fr d_hbn hz (by omega)) rfl)) rfl ?_
      refine tw_pure rfl (pur_move rfl) rfl ?_; refine tw_does rfl (does_call (by kernel_rfl) rfl (proc_c c i _ _ (by assumption) (by omega)) (fun _ _ h => h.ret)) rfl ?_ (fun _ h => h) tw_none; rintro _ we16 ⟨pae8, ⟨pce9, ⟨bae10, ⟨bce11, ⟨⟨⟩, ⟨he12, ⟨he13, ⟨he14, fe15⟩⟩⟩⟩⟩⟩⟩⟩; have ze17 := fe15.size; replace qse6 := qse6.fr fe15 (by omega); clear hP; replace hbn := hbn.fr fe15 (by omega); replace hown2 := hown2.fr fe15 (by omega); replace hvs := hvs.fr fe15 (by omega); replace hbr := hbr.fr fe15 (by omega); replace X := X.fr fe15 (by omega); clear fe15; refine ⟨qse6, ?_⟩; (refine tw_does rfl (does_slice' [_, _, _, _, _, _] tabOk zOk rfl rfl rfl rfl rfl rfl rfl rfl rfl) rfl ?_ (fun _ h => h) tw_none; rintro _ we19 ⟨be18, rfl, ne20, te21⟩); clear te21; have he22 := ne20.blk; have xe23 := ne20.ext; have pe24 := ne20.pos; have ze25 := ne20.size; clear ne20; replace he12 := he12.ext xe23; replace he13 := Nd.sits.ext he13 xe23; replace he14 := he14.ext xe23; replace qse6 := qse6.ext xe23; replace hbn := hbn.ext xe23; replace hown2 := hown2.ext xe23; replace hvs := hvs.ext xe23; replace hbr := hbr.ext xe23; replace X := X.ext xe23; clear xe23; refine ⟨qse6, ?_⟩; clear d_hP d_hbn d_hown2 d_hvs d_hbr qse6; refine tw_tail rfl ?_; refine lw_appendL (sh := pdShape) tabOk zOk rfl rfl rfl rfl (by kernel_rfl) rfl rfl rfl hown2 (Blk.row (by assumption)) ⟨_, _, _, _, rfl, VDs.wide (by assumption) (fun b h => ⟨by omega, fun e => by have := hob _ e; omega⟩), Nd.sits.wide (by assumption) (fun b h => ⟨by omega, fun e => by have := hob _ e; omega⟩)⟩ (by omega) (by omega) rfl ?_
      rintro ge26 cap'e27 we28 he29 fe30; have ze31 := fe30.size; clear he22 he12 he13; replace he14 := he14.fr fe30 (by omega); replace hbn := hbn.fr fe30 (by omega); clear hown2; replace hvs := hvs.fr fe30 (by omega); replace hbr := hbr.fr fe30 (by omega); replace X := X.fr fe30 (by omega); clear fe30; refine lw_pure (pur_fieldAddr tabOk rfl rfl rfl) rfl ?_; (refine lw_store' [_] [_, _, _, _, _, _] tabOk rfl rfl rfl rfl rfl rfl hbn rfl rfl ?_; intro we32 ne33); have he36 := ne33.blk; have fe34 := ne33.fr; have ze35 := ne33.size; clear ne33 hbn; replace he29 := he29.fr fe34 (by omega); replace he14 := he14.fr fe34 (by omega); replace hvs := hvs.fr fe34 (by omega); replace hbr := hbr.fr fe34 (by omega); replace X := X.fr fe34 (by omega); clear fe34; refine lw_nil (qw_block_norm ?_); rotate_left 1
     refine qw_round (i, pacc ++ [(procP c.ts c.n i ρ').1], some ⟨_, 0, none⟩, _, (procP c.ts c.n i ρ').2) (by (refine sub_cons rfl ?_; refine sub_cons rfl ?_; refine sub_cons rfl ?_; exact sub_nil)) ⟨by assumption, by assumption, by assumption, by assumption, by assumption, X, by omega, hle2, rfl, fun e => by have := hdr e; simp only; omega, by simp only; omega, by simp only; omega, fun e => by have := hdr e; simp only [List.length_append, List.length_cons, List.length_nil]; omega⟩ (by simp)
 · have hc2 : hasP c.ts ρ' [112, 114, 111, 99] = false := by simp [hasP, hp]
   rw [show procsP c.ts c.n (i + 1) pacc ρ' = (pacc, ρ') from by rw [procsP]; simp [hc2]]; simp only; have hle6 := expect_le (n := c.n) (t := [109, 97, 105, 110]) hle5.wf (by decide); have hm6 := mS_le hle6; have hm5 := mS_le hle5
   focus
    refine cw_seq (cS (cM rfl rfl ?_)); refine cC (by kernel_rfl) rfl (peek_c _ _ _ (by assumption)) rfl ?_; rintro _ wf2 ⟨⟨⟩, xf1⟩; have zf3 := xf1.size; replace hP := hP.ext xf1; replace hbn := hbn.ext xf1; replace hown2 := hown2.ext xf1; replace hvs := hvs.ext xf1; replace hbr := hbr.ext xf1; replace X := X.ext xf1; clear xf1; refine lw_pure (pur_field tabOk rfl rfl rfl rfl rfl rfl) rfl (lw_pure (pur_seql rfl rfl) rfl (cT ?_)); refine cw_no rfl (by assumption) ?_; refine cw_exit (qw_then_exit (qw_then_exit (qw_block_exit (qw_then (cS (cM rfl rfl ?_)))))); refine cC (by kernel_rfl) rfl (expect_c _ _ _ _ (by assumption) (by decide)) rfl ?_; rintro _ wf6 ⟨⟨⟩, ⟨hf4, ff5⟩⟩; have zf7 := ff5.size; clear hP; replace hbn := hbn.fr ff5 (by omega); replace hown2 := hown2.fr ff5 (by omega); replace hvs := hvs.fr ff5 (by omega); replace hbr := hbr.fr ff5 (by omega); replace X := X.fr ff5 (by omega); clear ff5; refine cN (cM rfl rfl ?_); refine cR (by kernel_rfl) rfl (body_c c k _ _ (by assumption) (by omega)) (fun _ _ h => h.ret) rfl ?_; rintro _ wf13 ⟨af8, ⟨kf9, ⟨⟨⟩, ⟨hf10, ⟨hf11, ff12⟩⟩⟩⟩⟩; have zf14 := ff12.size; clear hf4; replace hbn := hbn.fr ff12 (by omega); replace hown2 := hown2.fr ff12 (by omega); replace hvs := hvs.fr ff12 (by omega); replace hbr := hbr.fr ff12 (by omega); replace X := X.fr ff12 (by omega); clear ff12; refine lw_pure (pur_fieldAddr tabOk rfl rfl rfl) rfl ?_; (refine lw_store' [_, _, _, _] [_, _, _, _, _, _] tabOk rfl rfl rfl rfl rfl rfl hbn rfl rfl ?_; intro wf15 nf16)
    have hf19 := nf16.blk; have ff17 := nf16.fr; have zf18 := nf16.size; clear nf16 hbn; replace hf10 := Nd.sits.fr hf10 ff17 (by omega); replace hf11 := hf11.fr ff17 (by omega); replace hown2 := hown2.fr ff17 (by omega); replace hvs := hvs.fr ff17 (by omega); replace hbr := hbr.fr ff17 (by omega); replace X := X.fr ff17 (by omega); clear ff17; refine cN (lw_loads_b' [_, _, _, _, _, _] tabOk rfl rfl rfl hf19 rfl rfl rfl ?_); (refine lw_store' [_, _, _, _, _, _] [_, _, _, _, _, _] tabOk rfl rfl rfl rfl rfl rfl hbr rfl rfl ?_; intro wf20 nf21); have hf24 := nf21.blk; have ff22 := nf21.fr; have zf23 := nf21.size; clear nf21 hbr; replace hf19 := hf19.fr ff22 (by omega); replace hf10 := Nd.sits.fr hf10 ff22 (by omega); replace hf11 := hf11.fr ff22 (by omega); replace hown2 := hown2.fr ff22 (by omega); replace hvs := hvs.fr ff22 (by omega); replace X := X.fr ff22 (by omega); clear ff22; refine cT (cw_ret (qw_retc rfl tabOk rfl rfl rfl hf24 rfl ?_)); rotate_left 1
   refine ⟨_, _, _, _, _, _, rfl, ⟨VDs.wide (by assumption) (fun b h => by omega), OwnL.pds hown2 (fun b h => by omega), Nd.sits.wide (by assumption) (fun b h => by omega)⟩, by assumption, X⟩
end Bk
namespace Bk
open Go
theorem takeWhile_len {α : Type} (p : α → Bool) (l : List α) : (l.takeWhile p).length ≤ l.length := by
 induction l with
 | nil => simp
 | cons x r ih => simp only [List.takeWhile_cons]; split <;> simp; exact ih
theorem signLen_le (s : List UInt8) : signLen s ≤ s.length := by
 unfold signLen
 split
 · rename_i h
   rw [List.isPrefixOf_iff_prefix] at h
   exact h.length_le
 · split
   · rename_i h
     rcases s with _ | ⟨a, _ | ⟨b, r⟩⟩
     · exact absurd h (by decide)
     · exfalso
       simp [pairs] at h
     · simp
   · split
     · rename_i h
       cases s with
       | nil => simp at h
       | cons a r => simp
     · omega
theorem firstTok_le (s : List UInt8) : (firstTok s).2 ≤ s.length := by
 cases s with
 | nil => simp [firstTok]
 | cons c r =>
  simp only [firstTok, span]
  split
  · exact takeWhile_len _ _
  · split
    · exact takeWhile_len _ _
    · split
      · exact takeWhile_len _ _
      · split
        · exact takeWhile_len _ _
        · exact signLen_le _
theorem take_takeWhile {α : Type} (p : α → Bool) (l : List α) : l.take (l.takeWhile p).length = l.takeWhile p := by
 induction l with
 | nil => simp
 | cons x r ih => simp only [List.takeWhile_cons]; split <;> simp [ih]
theorem mem_takeWhile {α : Type} (p : α → Bool) (l : List α) : ∀ x ∈ l.takeWhile p, p x = true := by
 induction l with
 | nil => simp
 | cons y r ih =>
  simp only [List.takeWhile_cons]
  split
  · rename_i h
    intro x hx
    rcases List.mem_cons.1 hx with rfl | hx
    · exact h
    · exact ih x hx
  · simp
theorem letter_digit (c : UInt8) (h : letter c = true) : digit c = false := by
 simp only [letter, digit, Bool.and_eq_true, decide_eq_true_eq, Bool.and_eq_false_iff, decide_eq_false_iff_not] at h ⊢
 omega
theorem firstTok_num (s : List UInt8) (h : (firstTok s).1 = 2) : s.take (firstTok s).2 ≠ [] ∧ ∀ x ∈ s.take (firstTok s).2, digit x = true := by
 cases s with
 | nil => simp [firstTok] at h
 | cons c r =>
  simp only [firstTok] at h ⊢
  by_cases h1 : letter c = true
  · simp [h1] at h
  · by_cases h2 : digit c = true
    · simp only [h1, h2, if_true, Bool.false_eq_true, if_false, span]
      rw [take_takeWhile]; refine ⟨by simp [List.takeWhile_cons, h2], mem_takeWhile _ _⟩
    · exfalso
      simp only [h1, h2, Bool.false_eq_true, if_false] at h
      by_cases h3 : blank c = true
      · simp [h3] at h
      · by_cases h4 : c = 35
        · subst h4; simp [h3] at h
        · simp [h3, h4] at h
theorem firstTok_kind (s : List UInt8) (hs : s ≠ []) (h0 : (firstTok s).2 ≠ 0) : (firstTok s).1 = 2 ↔ startsDigit (s.take (firstTok s).2) = true := by
 cases s with
 | nil => exact absurd rfl hs
 | cons c r =>
  obtain ⟨m, hm⟩ : ∃ m, (firstTok (c :: r)).2 = m + 1 := ⟨(firstTok (c :: r)).2 - 1, by omega⟩; rw [hm]; simp only [List.take_succ_cons, startsDigit, firstTok]
  by_cases h1 : letter c = true
  · simp [h1, letter_digit c h1]
  · by_cases h2 : digit c = true
    · simp [h1, h2]
    · simp only [h1, h2, Bool.false_eq_true, if_false, iff_false]
      by_cases h3 : blank c = true
      · simp [h3]
      · by_cases h4 : c = 35
        · subst h4; simp [h3]
        · simp [h3, h4]
structure TokOk (n : Nat) (t : Tok) : Prop where
 len : t.text.length ≤ n
 num : t.kind = 2 → t.text ≠ [] ∧ ∀ x ∈ t.text, digit x = true
 dig : t.kind = 2 ↔ startsDigit t.text = true
 pos : 0 ≤ t.pos ∧ t.pos ≤ n
theorem lexGo_ok (s : List UInt8) : ∀ (k p : Nat) (acc : List Tok), (∀ t ∈ acc, TokOk s.length t) → ∀ t ∈ (lexGo k s p acc).1, TokOk s.length t
 | 0, p, acc, h => by rw [lexGo]; exact h
 | k + 1, p, acc, h => by
  rw [lexGo]
  split
  · rename_i hp
    split
    · simp
    · rename_i h0
      refine lexGo_ok s k _ _ ?_; intro t ht
      rcases List.mem_append.1 ht with ht | ht
      · exact h t ht
      · simp only [List.mem_singleton] at ht
        subst ht
        have hne : s.drop p ≠ [] := by
         intro e; have := congrArg List.length e
         simp at this; omega
        refine ⟨?_, ?_, ?_, ?_⟩
        · simp only [List.length_take, List.length_drop]; omega
        · intro hk
          have hk' : (firstTok (s.drop p)).1 = 2 := by simp only at hk; omega
          exact firstTok_num _ hk'
        · have := firstTok_kind (s.drop p) hne h0
          simp only; rw [← this]
          omega
        · simp only; omega
  · exact h
theorem lexT_ok (s : List UInt8) : ∀ t ∈ (lexT s).1, TokOk s.length t := by
 unfold lexT
 split
 · simp
 · have := lexGo_ok s (s.length + 1) 0 [] (by simp)
   split
   · rename_i l h; rw [h] at this; exact this
   · simp
theorem solid_ok (s : List UInt8) : ∀ t ∈ (startP s).1, TokOk s.length t := fun t ht => lexT_ok s t (List.mem_filter.1 ht).1
theorem lexGo_len (s : List UInt8) : ∀ (k p : Nat) (acc : List Tok), acc.length ≤ p → p ≤ s.length → (lexGo k s p acc).1.length ≤ s.length
 | 0, p, acc, h, hp => by rw [lexGo]; simp; omega
 | k + 1, p, acc, h, hp => by
  rw [lexGo]
  split
  · split
    · simp
    · rename_i h0
      have := firstTok_le (s.drop p); rw [List.length_drop] at this
      exact lexGo_len s k _ _ (by simp; omega) (by omega)
  · simp only; omega
theorem lexT_len (s : List UInt8) : (lexT s).1.length ≤ s.length := by
 unfold lexT
 split
 · simp
 · have := lexGo_len s (s.length + 1) 0 [] (by simp) (by omega)
   split
   · rename_i l h; rw [h] at this; exact this
   · simp
theorem start_len (s : List UInt8) : (startP s).1.length ≤ s.length := Nat.le_trans (List.length_filter_le _ _) (lexT_len s)
end Bk
namespace Bk
open Go Go.RowKit Go.Proofs
attribute [local irreducible] Go.Calls
def Toks (S : Nat → Prop) (w : World) (l : List Tok) (a : Option Addr) : Prop := Arr S 3 TokAt w l a
theorem Toks.ext {S : Nat → Prop} {w w' : World} {l : List Tok} {a : Option Addr} (h : Toks S w l a) (x : Ext w w') : Toks S w' l a := h.mono (fun _ h => h) (fun _ _ _ _ _ h => Row.ext h x)
theorem Toks.fr {S T : Nat → Prop} {w w' : World} {l : List Tok} {a : Option Addr} (h : Toks S w l a) (x : Fr T w w') (hs : ∀ b, S b → ¬ T b) : Toks S w' l a := h.mono (fun _ h => h) (fun b _ _ _ hb h => Row.fr h x (hs b hb))
theorem Toks.wide {S S' : Nat → Prop} {w : World} {l : List Tok} {a : Option Addr} (h : Toks S w l a) (hs : ∀ b, S b → S' b) : Toks S' w l a := h.mono hs (fun _ _ _ _ _ h => h)
theorem Toks.lt2 {S : Nat → Prop} {w : World} {l : List Tok} {a : Option Addr} (h : Toks S w l a) : Toks (fun b => S b ∧ b < w.heap.size) w l a := by
 rcases h with h | ⟨b, o, h1, h2, h3⟩
 · exact Or.inl h
 · cases l with
   | nil => exact Or.inl rfl
   | cons v r => exact Or.inr ⟨b, o, h1, ⟨h2, cell_lt (Row.at0 (h3 0 v rfl) rfl)⟩, h3⟩
def tokShape : Shape Tok where
 sz := 3
 rep := fun _ _ v cs => cs = v.cells
 len := fun h => by rw [h]; rfl
 one := fun h => by rw [h]; rfl
 mono := fun h _ _ => h
 lt := fun h => h
theorem OwnL.toks {w : World} {B e : Nat} {a : Option Addr} {len cap : Nat} {xs : List Tok} {S : Nat → Prop} (h : OwnL tokShape w B e (.slice a len cap) xs) (hS : ∀ b, B ≤ b → S b) : Toks S w xs a := by
 by_cases hx : xs = []
 · exact Or.inl hx
 · obtain ⟨g, cap', hv, hg, hall⟩ := h.rows hx
   simp only [Value.slice.injEq] at hv; obtain ⟨rfl, -, -⟩ := hv; refine Or.inr ⟨g, 0, rfl, hS g hg, fun i x hi => ?_⟩; obtain ⟨cs, hr, rfl⟩ := hall i x hi
   simpa [tokShape, TokAt] using hr
theorem first_s (t : List UInt8) (w : World) (ht : t ≠ []) (hl : t.length ≤ 9223372036854775807) : Calls Tryd.prog 26 #[str t] w fun e w' => e = .returned (.tuple #[.int .u8 (firstTok t).1, .int .i64 (firstTok t).2]) ∧ w = w' := by
 cases t with
 | nil => exact absurd rfl ht
 | cons c r => exact first_c c r w hl
def LexR (w : World) (r : List Tok × Int × Int) : Ending → World → Prop := fun e w' => ∃ a k, e = .returned (.tuple #[.slice a r.1.length k, .int .i64 r.2.1, .int .i64 r.2.2]) ∧ Toks (fun b => w.heap.size ≤ b ∧ b < w'.heap.size) w' r.1 a ∧ Ext w w'
theorem LexR.ret {w : World} {r : List Tok × Int × Int} {e : Ending} {w' : World} (h : LexR w r e w') : ∃ v, e = .returned v := by
 obtain ⟨_, _, h, -⟩ := h
 exact ⟨_, h⟩
set_option maxRecDepth 100000 in
set_option maxHeartbeats 2000000 in
theorem Lex_c (s : List UInt8) (w : World) (hs : s.length ≤ 1000000) : Calls Tryd.prog 14 #[str s] w (LexR w (lexT s)) := by
 have X := Ext.refl w
 by_cases h0 : 65536 < s.length
 · rw [show lexT s = ([], 0, 5) from by simp [lexT, h0]]
   refine calls_in Tryd.func14 Tryd.ntmps14 rfl rfl ?_
   focus
    refine cS (cA rfl rfl (cA rfl rfl (cA rfl rfl (cT (cw_seq (cS (cM rfl rfl (lw_pure (pur_len_s tabOk rfl rfl) rfl (lw_pure (pur_gtr rfl rfl) rfl (cT ?_)))))))))); refine cw_yes rfl (by omega) ?_; refine cS (cA rfl rfl (cA rfl rfl (cA rfl rfl (cT (cw_ret (qw_then_ret (qw_ret3 rfl rfl rfl rfl ?_))))))); rotate_left 1
   exact ⟨_, _, rfl, Or.inl rfl, X⟩
 have hun : ∀ r, lexGo (s.length + 1) s 0 [] = r → lexT s = match r with | (l, none) => (l, 0, 0) | (_, some p) => ([], (p : Int), 3) := fun r hr => by
  obtain ⟨l, o⟩ := r
  cases o <;> simp [lexT, h0, hr]
 have HU := Lib.hid hun; clear hun
 refine calls_in Tryd.func14 Tryd.ntmps14 rfl rfl ?_
 focus
  refine cS (cA rfl rfl (cA rfl rfl (cA rfl rfl (cT (cw_seq (cS (cM rfl rfl (lw_pure (pur_len_s tabOk rfl rfl) rfl (lw_pure (pur_gtr rfl rfl) rfl (cT ?_)))))))))); refine cw_no rfl (by omega) ?_; refine cw_skip (qw_then (cS (cA rfl rfl (cT (cw_seq (cS (cA rfl rfl (cT (cw_block ?_))))))))); rotate_left 1
 refine cw_loop (ι := Nat × Nat × List Tok × Option Addr × Nat) (fun x => [(0, str s), (5, .slice x.2.2.2.1 x.2.2.1.length x.2.2.2.2), (6, .int .i64 x.2.1)])
  (fun x w' => OwnL tokShape w' w.heap.size 28 (.slice x.2.2.2.1 x.2.2.1.length x.2.2.2.2) x.2.2.1 ∧ Ext w w' ∧ x.2.1 ≤ s.length ∧ x.2.2.1.length ≤ x.2.1 ∧ s.length + 1 ≤ x.1 + x.2.1 ∧
   lexGo (s.length + 1) s 0 [] = lexGo x.1 s x.2.1 x.2.2.1) (fun x => x.1) (s.length + 1, 0, [], none, 0) (by (refine sub_cons rfl ?_; refine sub_cons rfl ?_; refine sub_cons rfl ?_; exact sub_nil)) ⟨OwnL.nil, X, Nat.zero_le _, Nat.le_refl _, Nat.le_refl _, rfl⟩ ?_
 rintro ⟨j, p, acc, a, cap⟩ w1 ⟨hown, X, hp, hacc, hj, he⟩; simp only at hown hp hacc hj he; refine CW.sub (m := [(0, str s), (5, .slice a acc.length cap), (6, .int .i64 p)]) ?_ (by (refine sub_cons rfl ?_; refine sub_cons rfl ?_; refine sub_cons rfl ?_; exact sub_nil)); obtain ⟨j, rfl⟩ : ∃ i, j = i + 1 := ⟨j - 1, by omega⟩
 by_cases hlt : p < s.length
 · have hne : s.drop p ≠ [] := by
    intro e; have := congrArg List.length e
    simp at this; omega
   have hdl : (s.drop p).length = s.length - p := List.length_drop; have hfl := firstTok_le (s.drop p); rw [hdl] at hfl
   by_cases hz : (firstTok (s.drop p)).2 = 0
   · rw [HU.out ([], some p) (by rw [he, lexGo]; simp [hlt, hz])]
     focus
      refine cw_seq (cS (cM rfl rfl (cM rfl rfl (lw_pure (pur_len_s tabOk rfl rfl) rfl (lw_pure (pur_lss rfl rfl) rfl (cT ?_)))))); refine cw_yes rfl (by omega) ?_; refine cw_skip (qw_then (cw_block (cS (cM rfl rfl (cM rfl rfl ?_))))); refine lw_pure (pur_sfromN tabOk rfl rfl rfl (by omega)) rfl ?_; refine cC (by kernel_rfl) rfl (first_s _ _ hne (by omega)) rfl ?_; rintro _ wb1 ⟨⟨⟩, rfl⟩; refine cM rfl rfl (lw_pure (pur_extract rfl rfl) rfl (lw_pure (pur_extract rfl rfl) rfl (cA rfl rfl (cA rfl rfl (cT (cw_seq (cS (cM rfl rfl (lw_pure (pur_eql rfl rfl) rfl (cT ?_)))))))))); refine cw_yes rfl (by omega) ?_; refine cS (cM rfl rfl (cA rfl rfl (cA rfl rfl (cA rfl rfl (cT (cw_ret (qw_then_ret (qw_block_ret (qw_then_ret (qw_block_ret (qw_then_ret ?_))))))))))); refine qw_ret3 rfl rfl rfl rfl ?_; rotate_left 1
     exact ⟨_, _, rfl, Or.inl rfl, X⟩
   · have he2 : lexGo (s.length + 1) s 0 [] = lexGo j s (p + (firstTok (s.drop p)).2) (acc ++ [⟨((firstTok (s.drop p)).1 : Nat), (s.drop p).take (firstTok (s.drop p)).2, (p : Int)⟩]) := by rw [he, lexGo]; simp [hlt, hz]
     focus
      refine cw_seq (cS (cM rfl rfl (cM rfl rfl (lw_pure (pur_len_s tabOk rfl rfl) rfl (lw_pure (pur_lss rfl rfl) rfl (cT ?_)))))); refine cw_yes rfl (by omega) ?_; refine cw_skip (qw_then (cw_block (cS (cM rfl rfl (cM rfl rfl ?_))))); refine lw_pure (pur_sfromN tabOk rfl rfl rfl (by omega)) rfl ?_; refine cC (by kernel_rfl) rfl (first_s _ _ hne (by omega)) rfl ?_; rintro _ wc1 ⟨⟨⟩, rfl⟩; refine cM rfl rfl (lw_pure (pur_extract rfl rfl) rfl (lw_pure (pur_extract rfl rfl) rfl (cA rfl rfl (cA rfl rfl (cT (cw_seq (cS (cM rfl rfl (lw_pure (pur_eql rfl rfl) rfl (cT ?_)))))))))); refine cw_no rfl (by omega) ?_; refine cw_skip (qw_then (cS (cM rfl rfl (cM rfl rfl (cM rfl rfl (cM rfl rfl (cM rfl rfl (cM rfl rfl ?_)))))))); refine lw_pure (pur_add rfl rfl (IntWalk.i64_in _ (by omega))) rfl ?_; refine lw_pure (pur_spartN tabOk rfl rfl rfl rfl (by omega)) rfl ?_; refine cM rfl rfl (lw_pure (pur_build' [_, _, _] tabOk zOk rfl rfl rfl rfl) rfl ?_); (refine lw_does (does_slice' [_, _, _] tabOk zOk rfl rfl rfl rfl rfl rfl rfl rfl rfl) rfl ?_ (fun _ h => h); rintro _ wc3 ⟨bc2, rfl, nc4, tc5⟩); clear tc5; have hc6 := nc4.blk; have xc7 := nc4.ext; have pc8 := nc4.pos; have zc9 := nc4.size; clear nc4; replace hown := hown.ext xc7; replace X := X.ext xc7; clear xc7; refine lw_appendL (sh := tokShape) (z := ⟨((firstTok (s.drop p)).1 : Nat), (s.drop p).take (firstTok (s.drop p)).2, (p : Int)⟩) tabOk zOk rfl rfl rfl rfl (by kernel_rfl) rfl rfl rfl hown (Blk.row (by assumption)) rfl (by omega) (by have := Ext.size X; omega) rfl ?_
      rintro gc10 cap'c11 wc12 hc13 fc14; have zc15 := fc14.size; clear hc6 hown; replace X := X.fr fc14 (by omega); clear fc14; refine cA rfl rfl (cT (cw_region (cM rfl rfl (cM rfl rfl ?_)))); refine lw_pure (pur_add rfl rfl (IntWalk.i64_in _ (by omega))) rfl ?_; refine cA rfl rfl (lw_nil (qw_block_norm ?_)); rotate_left 1
     refine qw_round (j, p + (firstTok (s.drop p)).2, acc ++ [⟨((firstTok (s.drop p)).1 : Nat), (s.drop p).take (firstTok (s.drop p)).2, (p : Int)⟩], some ⟨_, 0, none⟩, _) (by (refine sub_cons rfl ?_; refine sub_cons rfl ?_; refine sub_cons rfl ?_; exact sub_nil)) ⟨by assumption, X, by simp only; omega, by simp only [List.length_append, List.length_cons, List.length_nil]; omega, by simp only; omega, he2⟩ (by simp)
 · rw [HU.out (acc, none) (by rw [he, lexGo]; simp [hlt])]
   focus
    refine cw_seq (cS (cM rfl rfl (cM rfl rfl (lw_pure (pur_len_s tabOk rfl rfl) rfl (lw_pure (pur_lss rfl rfl) rfl (cT ?_)))))); refine cw_no rfl (by omega) ?_; refine cw_exit (qw_then_exit (qw_then_exit (qw_block_exit (qw_then (cS (cM rfl rfl (cA rfl rfl (cA rfl rfl (cA rfl rfl (cT (cw_ret ?_))))))))))); refine qw_ret3 rfl rfl rfl rfl ?_; rotate_left 1
   exact ⟨_, _, rfl, Toks.lt2 (S := (w.heap.size ≤ ·)) (OwnL.toks hown (fun b h => h)), X⟩
theorem solid_snoc (l : List Tok) (t : Tok) : solidT (l ++ [t]) = solidT l ++ (if t.kind ≠ 4 ∧ t.kind ≠ 5 then [t] else []) := by
 unfold solidT
 rw [List.filter_append]
 congr 1
 by_cases h4 : t.kind = 4 <;> by_cases h5 : t.kind = 5 <;> simp [h4, h5]
def SolidR (w : World) (r : List Tok) : Ending → World → Prop := fun e w' => ∃ a k, e = .returned (.slice a r.length k) ∧ Toks (fun b => w.heap.size ≤ b ∧ b < w'.heap.size) w' r a ∧ Ext w w'
theorem SolidR.ret {w : World} {r : List Tok} {e : Ending} {w' : World} (h : SolidR w r e w') : ∃ v, e = .returned v := by
 obtain ⟨_, _, h, -⟩ := h
 exact ⟨_, h⟩
set_option maxRecDepth 100000 in
set_option maxHeartbeats 2000000 in
theorem Solid_c (ts : List Tok) (S : Nat → Prop) (b0 : Option Addr) (k0 : Nat) (w : World) (hl : ts.length ≤ 1000000) (hT : Toks S w ts b0) (hS : ∀ b, S b → b < w.heap.size) : Calls Tryd.prog 21 #[.slice b0 ts.length k0] w (SolidR w (solidT ts)) := by
 have X := Ext.refl w; refine calls_in Tryd.func21 Tryd.ntmps21 rfl rfl ?_
 focus
  refine cS (cA rfl rfl (cN (cA rfl rfl (cT (cw_seq (cS (cM rfl rfl (lw_pure (pur_len_slice tabOk rfl rfl) rfl (cM rfl rfl (cT (cw_block ?_))))))))))); rotate_left 1
 refine cw_loop (ι := Nat × Option Addr × Nat) (fun x => [(3, .slice x.2.1 (solidT (ts.take x.1)).length x.2.2), (6, .slice b0 ts.length k0), (7, .int .i64 ts.length), (8, .int .i64 x.1)])
  (fun x w' => OwnL tokShape w' w.heap.size 28 (.slice x.2.1 (solidT (ts.take x.1)).length x.2.2) (solidT (ts.take x.1)) ∧ Ext w w' ∧ x.1 ≤ ts.length ∧ Toks S w' ts b0) (fun x => ts.length - x.1) (0, none, 0) (by (refine sub_cons rfl ?_; refine sub_cons rfl ?_; refine sub_cons rfl ?_; refine sub_cons rfl ?_; exact sub_nil)) ⟨OwnL.nil, X, Nat.zero_le _, hT⟩ ?_
 rintro ⟨j, a, cap⟩ w1 ⟨hown, X, hj, hT⟩; simp only at hown hj hT; have hsz := X.size; refine CW.sub (m := [(3, .slice a (solidT (ts.take j)).length cap), (6, .slice b0 ts.length k0), (7, .int .i64 ts.length), (8, .int .i64 j)]) ?_ (by (refine sub_cons rfl ?_; refine sub_cons rfl ?_; refine sub_cons rfl ?_; refine sub_cons rfl ?_; exact sub_nil))
 by_cases hlt : j < ts.length
 · have htk : ts.take (j + 1) = ts.take j ++ [ts[j]] := by rw [List.take_add_one, List.getElem?_eq_getElem hlt]; rfl
   have hsn : solidT (ts.take (j + 1)) = solidT (ts.take j) ++ (if ts[j].kind ≠ 4 ∧ ts[j].kind ≠ 5 then [ts[j]] else []) := by rw [htk, solid_snoc]
   have hbd : (solidT (ts.take j)).length ≤ 1000000 := Nat.le_trans (List.length_filter_le _ _) (by rw [List.length_take]; omega); obtain ⟨tb, to, rfl, hkS, hrow⟩ := hT.get (by omega); have hr : Row w1 ⟨tb, to + j * 3, none⟩ ts[j].cells := hrow j _ (List.getElem?_eq_getElem hlt); have htb := hS tb hkS; clear hrow htk
   generalize ts[j] = t at *
   by_cases h4 : t.kind = 4
   · rw [show (if t.kind ≠ 4 ∧ t.kind ≠ 5 then [t] else []) = [] from by simp [h4], List.append_nil] at hsn
     focus
      refine cS (lw_pure (pur_lss rfl rfl) rfl (cT (cw_seq ?_))); refine cw_yes rfl (by omega) ?_; refine cw_skip (qw_then (cw_seq (cw_block (cS ?_)))); refine lw_pure (pur_indexAddr tabOk rfl rfl rfl rfl (by omega) (by omega)) rfl ?_; refine lw_loads_r0 tabOk rfl rfl rfl hr rfl rfl ?_; (refine lw_alloc' [_, _, _] zOk rfl rfl ?_; intro ba1 wa2 na3); (refine lw_init' [_, _, _] tabOk rfl rfl rfl rfl rfl rfl na3 rfl ?_; clear na3; clear wa2; intro wa4 na3); have ha5 := na3.blk; have xa6 := na3.ext; have pa7 := na3.pos; have za8 := na3.size; clear na3; replace hown := hown.ext xa6; replace X := X.ext xa6; replace hT := hT.ext xa6; replace hr := hr.ext xa6; clear xa6; refine cN (lw_pure (pur_fieldAddr0 tabOk rfl rfl rfl) rfl (lw_load_b tabOk rfl rfl rfl ha5 rfl rfl (lw_pure (pur_neq rfl rfl) rfl (cM rfl rfl ?_)))); refine lw_off rfl rfl rfl (gd_tf (by omega)) rfl ?_; refine lw_off rfl rfl rfl (gd_tf (by omega)) rfl ?_; refine lw_off rfl rfl rfl (gd_tf (by omega)) rfl ?_; refine lw_pure (pur_pick_no rfl rfl (by omega)) rfl ?_; refine cT (cw_cond_f rfl (cw_skip (qw_block_norm (qw_then (cw_region ?_))))); refine lw_pure (pur_add rfl rfl (IntWalk.i64_in _ (by omega))) rfl ?_; refine cM rfl rfl (lw_nil ?_); rotate_left 1
     refine qw_round (j + 1, a, cap) ?_ ⟨by rw [hsn]; exact hown, X, by simp only; omega, hT⟩ (by simp only; omega); refine sub_cons' rfl (by rw [hsn]) (sub_cons rfl (sub_cons rfl (sub_cons rfl sub_nil)))
   by_cases h5 : t.kind = 5
   · rw [show (if t.kind ≠ 4 ∧ t.kind ≠ 5 then [t] else []) = [] from by simp [h5], List.append_nil] at hsn
     focus
      refine cS (lw_pure (pur_lss rfl rfl) rfl (cT (cw_seq ?_))); refine cw_yes rfl (by omega) ?_; refine cw_skip (qw_then (cw_seq (cw_block (cS ?_)))); refine lw_pure (pur_indexAddr tabOk rfl rfl rfl rfl (by omega) (by omega)) rfl ?_; refine lw_loads_r0 tabOk rfl rfl rfl hr rfl rfl ?_; (refine lw_alloc' [_, _, _] zOk rfl rfl ?_; intro bb1 wb2 nb3); (refine lw_init' [_, _, _] tabOk rfl rfl rfl rfl rfl rfl nb3 rfl ?_; clear nb3; clear wb2; intro wb4 nb3); have hb5 := nb3.blk; have xb6 := nb3.ext; have pb7 := nb3.pos; have zb8 := nb3.size; clear nb3; replace hown := hown.ext xb6; replace X := X.ext xb6; replace hT := hT.ext xb6; replace hr := hr.ext xb6; clear xb6; refine cN (lw_pure (pur_fieldAddr0 tabOk rfl rfl rfl) rfl (lw_load_b tabOk rfl rfl rfl hb5 rfl rfl (lw_pure (pur_neq rfl rfl) rfl (cM rfl rfl ?_)))); refine lw_on rfl rfl rfl (gd_tt (by assumption)) ?_; refine lw_pure (pur_fieldAddr0 tabOk rfl rfl rfl) rfl ?_; refine lw_on rfl rfl rfl (gd_tt (by assumption)) ?_; refine lw_load_b tabOk rfl rfl rfl hb5 rfl rfl ?_; refine lw_on rfl rfl rfl (gd_tt (by assumption)) ?_; refine lw_pure (pur_neq rfl rfl) rfl ?_; refine lw_pure (pur_pick_yes rfl rfl (by assumption)) rfl ?_; refine cT ?_; refine cw_no rfl (by omega) ?_; refine cw_skip (qw_block_norm (qw_then (cw_region ?_))); refine lw_pure (pur_add rfl rfl (IntWalk.i64_in _ (by omega))) rfl ?_; refine cM rfl rfl (lw_nil ?_); rotate_left 1
     refine qw_round (j + 1, a, cap) ?_ ⟨by rw [hsn]; exact hown, X, by simp only; omega, hT⟩ (by simp only; omega); refine sub_cons' rfl (by rw [hsn]) (sub_cons rfl (sub_cons rfl (sub_cons rfl sub_nil)))
   · rw [show (if t.kind ≠ 4 ∧ t.kind ≠ 5 then [t] else []) = [t] from by simp [h4, h5]] at hsn
     focus
      refine cS (lw_pure (pur_lss rfl rfl) rfl (cT (cw_seq ?_))); refine cw_yes rfl (by omega) ?_; refine cw_skip (qw_then (cw_seq (cw_block (cS ?_)))); refine lw_pure (pur_indexAddr tabOk rfl rfl rfl rfl (by omega) (by omega)) rfl ?_; refine lw_loads_r0 tabOk rfl rfl rfl hr rfl rfl ?_; (refine lw_alloc' [_, _, _] zOk rfl rfl ?_; intro bc1 wc2 nc3); (refine lw_init' [_, _, _] tabOk rfl rfl rfl rfl rfl rfl nc3 rfl ?_; clear nc3; clear wc2; intro wc4 nc3); have hc5 := nc3.blk; have xc6 := nc3.ext; have pc7 := nc3.pos; have zc8 := nc3.size; clear nc3; replace hown := hown.ext xc6; replace X := X.ext xc6; replace hT := hT.ext xc6; replace hr := hr.ext xc6; clear xc6; refine cN (lw_pure (pur_fieldAddr0 tabOk rfl rfl rfl) rfl (lw_load_b tabOk rfl rfl rfl hc5 rfl rfl (lw_pure (pur_neq rfl rfl) rfl (cM rfl rfl ?_)))); refine lw_on rfl rfl rfl (gd_tt (by assumption)) ?_; refine lw_pure (pur_fieldAddr0 tabOk rfl rfl rfl) rfl ?_; refine lw_on rfl rfl rfl (gd_tt (by assumption)) ?_; refine lw_load_b tabOk rfl rfl rfl hc5 rfl rfl ?_; refine lw_on rfl rfl rfl (gd_tt (by assumption)) ?_; refine lw_pure (pur_neq rfl rfl) rfl ?_; refine lw_pure (pur_pick_yes rfl rfl (by assumption)) rfl ?_; refine cT ?_; refine cw_yes rfl (by assumption) ?_; refine cw_region (cM rfl rfl (lw_loads_b' [_, _, _] tabOk rfl rfl rfl hc5 rfl rfl rfl ?_)); (refine lw_does (does_slice' [_, _, _] tabOk zOk rfl rfl rfl rfl rfl rfl rfl rfl rfl) rfl ?_ (fun _ h => h); rintro _ wc10 ⟨bc9, rfl, nc11, tc12⟩); clear tc12; have hc13 := nc11.blk
      have xc14 := nc11.ext; have pc15 := nc11.pos; have zc16 := nc11.size; clear nc11; replace hc5 := hc5.ext xc14; replace hown := hown.ext xc14; replace X := X.ext xc14; replace hT := hT.ext xc14; replace hr := hr.ext xc14; clear xc14; refine lw_appendL (sh := tokShape) (z := t) tabOk zOk rfl rfl rfl rfl (by kernel_rfl) rfl rfl rfl hown (Blk.row (by assumption)) rfl (by omega) (by omega) rfl ?_; rintro gc17 cap'c18 wc19 hc20 fc21; have zc22 := fc21.size; clear hc13 hc5 hown; replace X := X.fr fc21 (by omega); replace hT := Toks.fr hT fc21 (fun k hk e => by have := hS k hk; omega); replace hr := Row.fr hr fc21 (by simp only; omega); clear fc21; refine cA rfl rfl (lw_nil (qw_block_norm (qw_then (cw_region ?_)))); refine lw_pure (pur_add rfl rfl (IntWalk.i64_in _ (by omega))) rfl ?_; refine cM rfl rfl (lw_nil ?_); rotate_left 1
     refine qw_round (j + 1, some ⟨_, 0, none⟩, _) ?_ ⟨by rw [hsn]; assumption, X, by simp only; omega, hT⟩ (by simp only; omega); refine sub_cons' rfl (by rw [hsn]) (sub_cons rfl (sub_cons rfl (sub_cons rfl sub_nil)))
 · have : j = ts.length := by omega
   subst this; rw [List.take_length] at hown
   focus
    refine cS (lw_pure (pur_lss rfl rfl) rfl (cT (cw_seq ?_))); refine cw_no rfl (by omega) ?_; refine cw_exit (qw_then_exit (qw_then_exit (qw_block_exit (qw_then (cS (cM rfl rfl (cA rfl rfl (cT (cw_ret (qw_ret1 rfl rfl ?_)))))))))); rotate_left 1
   rw [List.take_length]
   exact ⟨_, _, rfl, Toks.lt2 (S := (w.heap.size ≤ ·)) (OwnL.toks hown (fun b h => h)), X⟩
end Bk
namespace Bk
open Go Go.RowKit Go.Proofs
attribute [local irreducible] Go.Calls
section
variable {P : Program} {n : Nat} {ops : Array Oper} {Q : Exit → Act → World → Prop} {rest : List Oper} {l : Sl} {w : World} {tab : Tab} {ty : TypeId} {pos : String} {after : Array Edge}
theorem lw_mapput {x y z : Operand} {t kt e sz1 sz2 r : Nat} {k : List UInt8} {v : Value} {kvs : List (List UInt8 × Value)} (T : TabOk P tab) (ht : lookT tab t = some (.map kt e, sz1)) (hkt : lookT tab kt = some (.str, sz2)) (hx : ev l x = some (.map (some r))) (hy : ev l y = some (str k)) (hz : ev l z = some v) (hm : MapIs w r kvs)
 (kk : ∀ w1, MapIs w1 r (setS kvs k v) → Fr (· = r) w w1 → LW P n ops Q rest l w1) : LW P n ops Q (⟨none, .mapUpdate t x y z, ty, pos, after, none⟩ :: rest) l w := by
 refine lw_does0 (K := MapPut w r (setS kvs k v)) ?_ (fun v w1 h => by cases v with | none => exact kk w1 h.1 h.2.1 | some _ => exact h.elim)
 unfold Does
 intro a dst pos after g next Q ha _ hn; obtain ⟨w1, h1, h2, h3, h4⟩ := run_mapUpdate (P := P) (k := k) (v := v) T ht hkt hm
 have e1 : (execOp a.eval ⟨dst, .mapUpdate t x y z, ty, pos, after, g⟩).run P w = .ok .skip w1 := by
  simp only [execOp, ha.ev hx, ha.ev hy, ha.ev hz, Sem.run_bind, h1, Result.andThen, Sem.run_pure]
 unfold Oper.wp
 rw [e1]
 exact hn w1 ⟨h2, h3, h4⟩
theorem lw_makeMap {t d : Nat} (hd : Nat.blt d n = true) (k : ∀ r w1, r = w.heap.size → MapIs w1 r [] → Ext w w1 → w1.heap.size = r + 1 → LW P n ops Q rest ((d, .map (some r)) :: l) w1) : LW P n ops Q (⟨some d, .makeMap t none, ty, pos, after, none⟩ :: rest) l w :=
 lw_does does_makeMap hd (fun v w1 ⟨r, h1, h2, h3, h4, h5⟩ => by subst h1; exact k r w1 h2 h3 h4 h5) (fun _ h => h)
end
def u8Shape : Shape Int where
 sz := 1
 rep := fun _ _ v cs => cs = [.int .u8 v]
 len := fun h => by rw [h]; rfl
 one := fun h => by rw [h]; rfl
 mono := fun h _ _ => h
 lt := fun h => h
def ops8 (j : Nat) : List Int := (List.range j).map fun (i : Nat) => (8 : Int) + (i : Int)
theorem ops8_snoc (j : Nat) : ops8 (j + 1) = ops8 j ++ [8 + (j : Int)] := by simp [ops8, List.range_succ]
theorem ops8_len (j : Nat) : (ops8 j).length = j := by simp [ops8]
def OpsR (w : World) : Ending → World → Prop := fun e w' => ∃ b k, e = .returned (.slice (some ⟨b, 0, none⟩) 16 k) ∧ w.heap.size ≤ b ∧ b < w'.heap.size ∧ Row w' ⟨b, 0, none⟩ ((ops8 16).map (.int .u8 ·)) ∧ Ext w w'
theorem OpsR.ret {w : World} {e : Ending} {w' : World} (h : OpsR w e w') : ∃ v, e = .returned v := by
 obtain ⟨_, _, h, -⟩ := h
 exact ⟨_, h⟩
set_option maxRecDepth 100000 in
set_option maxHeartbeats 2000000 in
theorem Operators_c (w : World) : Calls Tryd.prog 17 #[] w (OpsR w) := by
 have X := Ext.refl w; refine calls_in (args := []) Tryd.func17 Tryd.ntmps17 rfl rfl ?_
 focus
  refine cS (cA rfl rfl (cN (cA rfl rfl (cT (cw_seq (cS (cA rfl rfl (cT (cw_block ?_))))))))); rotate_left 1
 refine cw_loop (ι := Nat × Option Addr × Nat) (fun x => [(1, .slice x.2.1 (ops8 x.1).length x.2.2), (2, .int .u8 (8 + (x.1 : Int)))])
  (fun x w' => OwnL u8Shape w' w.heap.size 5 (.slice x.2.1 (ops8 x.1).length x.2.2) (ops8 x.1) ∧ Ext w w' ∧ x.1 ≤ 16) (fun x => 16 - x.1) (0, none, 0) (by (refine sub_cons rfl ?_; refine sub_cons rfl ?_; exact sub_nil)) ⟨OwnL.nil, X, Nat.zero_le _⟩ ?_
 rintro ⟨j, a, cap⟩ w1 ⟨hown, X, hj⟩; simp only at hown hj; have hsz := X.size; have hl := ops8_len j; refine CW.sub (m := [(1, .slice a (ops8 j).length cap), (2, .int .u8 (8 + (j : Int)))]) ?_ (by (refine sub_cons rfl ?_; refine sub_cons rfl ?_; exact sub_nil))
 by_cases hlt : j < 16
 · have hsn := ops8_snoc j
   focus
    refine cw_seq (cS (cM rfl rfl (lw_pure (pur_leq rfl rfl) rfl (cT ?_)))); refine cw_yes rfl (by omega) ?_; refine cw_skip (qw_then (cw_seq (cw_block (cw_region (cM rfl rfl (cM rfl rfl ?_)))))); (refine lw_does (does_slice' [_] tabOk zOk rfl rfl rfl rfl rfl rfl rfl rfl rfl) rfl ?_ (fun _ h => h); rintro _ wa2 ⟨ba1, rfl, na3, ta4⟩); clear ta4; have ha5 := na3.blk; have xa6 := na3.ext; have pa7 := na3.pos; have za8 := na3.size; clear na3; replace hown := hown.ext xa6; replace X := X.ext xa6; clear xa6; refine lw_appendL (sh := u8Shape) (z := 8 + (j : Int)) tabOk zOk rfl rfl rfl rfl (by kernel_rfl) rfl rfl rfl hown (Blk.row (by assumption)) rfl (by omega) (by omega) rfl ?_; rintro ga9 cap'a10 wa11 ha12 fa13; have za14 := fa13.size; clear ha5 hown; replace X := X.fr fa13 (by omega); clear fa13; refine cA rfl rfl (lw_nil (qw_block_norm (qw_then (cw_region (cM rfl rfl ?_))))); refine lw_pure (pur_add rfl rfl (u8_wrap _ (by omega) (by omega))) rfl ?_; refine cA rfl rfl (lw_nil ?_); rotate_left 1
   refine qw_round (j + 1, some ⟨_, 0, none⟩, _) ?_ ⟨by rw [hsn]; assumption, X, by simp only; omega⟩ (by simp only; omega); refine sub_cons' rfl (by rw [hsn]) (sub_cons' rfl ?_ sub_nil)
   simp only [Value.int.injEq, true_and]; omega
 · have : j = 16 := by omega
   subst this
   focus
    refine cw_seq (cS (cM rfl rfl (lw_pure (pur_leq rfl rfl) rfl (cT ?_)))); refine cw_no rfl (by decide) ?_; refine cw_exit (qw_then_exit (qw_then_exit (qw_block_exit (qw_then (cS (cM rfl rfl (cA rfl rfl (cT (cw_ret (qw_ret1 rfl rfl ?_)))))))))); rotate_left 1
   obtain ⟨g, cap', hv, hg, hall⟩ := hown.rows (by decide); simp only [Value.slice.injEq] at hv; obtain ⟨rfl, -, -⟩ := hv
   have hrow : Row w1 ⟨g, 0, none⟩ ((ops8 16).map (.int .u8 ·)) := fun i v hi => by
    rw [List.getElem?_map, Option.map_eq_some_iff] at hi; obtain ⟨x, hx, rfl⟩ := hi; obtain ⟨cs, hr, rfl⟩ := hall i x hx; have := hr.at0 rfl
    have e : (⟨g, 0, none⟩ : Addr).add i = ⟨g, i * u8Shape.sz, none⟩ := by
     have : u8Shape.sz = 1 := rfl
     unfold Addr.add; by_cases h0 : i = 0 <;> simp [h0, this]
    rw [e]; exact this
   exact ⟨g, cap, by rw [ops8_len], hg, hown.lt rfl, hrow, X⟩
set_option maxRecDepth 100000 in
set_option maxHeartbeats 1000000 in
theorem finish_c (c : PC) (σ : PS) (w : World) (hP : PP c σ w) :
 Calls Tryd.prog 24 #[.pointer (some ⟨c.pb, 0, none⟩)] w fun r w' => r = .returned (.tuple #[]) ∧ PP c (finishP c.ts c.n σ) w' ∧ Fr (· = c.pb) w w' := by
 have X := Fr.refl (· = c.pb) w; have hpb := hP.pbB; have hB := hP.B
 by_cases h : σ.at_ < c.ts.length
 · rw [show finishP c.ts c.n σ = unexpP c.ts c.n σ from by simp [finishP, h]]
   refine calls_in Tryd.func24 Tryd.ntmps24 rfl rfl ?_
   focus
    refine cw_seq ?_; (refine cw_tdraw (fun wz => Ext w wz) 9 (.pure 0 (.pure 1 (.pure 2 (.pure 3 (.pure 4 (.pure 5 (.pure 6 (.pure 7 (.pure 8 .tail))))))))) mixed (by kernel_rfl) (panicOk_then panicOk_body) ?_; intro w1 x2 _); have qs3 : (fun wz => Ext w wz) w1 := x2; simp only at qs3; have d_hP := hP; have z4 := x2.size; replace hP := hP.ext x2; replace X := X.ext x2; clear x2; refine ⟨qs3, ?_⟩; refine tw_pure rfl (pur_move rfl) rfl (tw_pure rfl (pur_nilCheck rfl) rfl (tw_pure rfl (pur_fieldAddr tabOk rfl rfl rfl) rfl (tw_pure rfl (pur_load tabOk rfl rfl rfl (fun wz hz => Blk.cell (Blk.ext (PP.blk d_hP) hz) rfl)) rfl (tw_pure rfl (pur_move rfl) rfl (tw_pure rfl (pur_nilCheck rfl) rfl (tw_pure rfl (pur_fieldAddr0 tabOk rfl rfl rfl) rfl (tw_pure rfl (pur_load tabOk rfl rfl rfl (fun wz hz => Blk.cell (Blk.ext (PP.blk d_hP) hz) rfl)) rfl (tw_pure rfl (pur_len_slice tabOk rfl rfl) rfl ?_)))))))); clear qs3 d_hP; refine tw_tail rfl (lw_pure (pur_lss rfl rfl) rfl (cT ?_)); refine cw_yes rfl (by omega) ?_; refine cw_region (cM rfl rfl ?_); refine cC (by kernel_rfl) rfl (unexpected_c _ _ _ (by assumption)) rfl ?_; rintro _ w7 ⟨⟨⟩, ⟨h5, f6⟩⟩; have z8 := f6.size; clear hP; replace X := X.fr f6 (by omega); clear f6; refine lw_nil (qw_end0 rfl ?_); rotate_left 1
   exact ⟨rfl, by assumption, X⟩
 · rw [show finishP c.ts c.n σ = σ from by simp [finishP, h]]
   refine calls_in Tryd.func24 Tryd.ntmps24 rfl rfl ?_
   focus
    refine cw_seq ?_; (refine cw_tdraw (fun wz => Ext w wz) 9 (.pure 0 (.pure 1 (.pure 2 (.pure 3 (.pure 4 (.pure 5 (.pure 6 (.pure 7 (.pure 8 .tail))))))))) mixed (by kernel_rfl) (panicOk_then panicOk_body) ?_; intro wa1 xa2 _); have qsa3 : (fun wz => Ext w wz) wa1 := xa2; simp only at qsa3; have d_hP := hP; have za4 := xa2.size; replace hP := hP.ext xa2; replace X := X.ext xa2; clear xa2; refine ⟨qsa3, ?_⟩; refine tw_pure rfl (pur_move rfl) rfl (tw_pure rfl (pur_nilCheck rfl) rfl (tw_pure rfl (pur_fieldAddr tabOk rfl rfl rfl) rfl (tw_pure rfl (pur_load tabOk rfl rfl rfl (fun wz hz => Blk.cell (Blk.ext (PP.blk d_hP) hz) rfl)) rfl (tw_pure rfl (pur_move rfl) rfl (tw_pure rfl (pur_nilCheck rfl) rfl (tw_pure rfl (pur_fieldAddr0 tabOk rfl rfl rfl) rfl (tw_pure rfl (pur_load tabOk rfl rfl rfl (fun wz hz => Blk.cell (Blk.ext (PP.blk d_hP) hz) rfl)) rfl (tw_pure rfl (pur_len_slice tabOk rfl rfl) rfl ?_)))))))); clear qsa3 d_hP; refine tw_tail rfl (lw_pure (pur_lss rfl rfl) rfl (cT ?_)); refine cw_no rfl (by omega) ?_; refine cw_skip (qw_end0 rfl ?_); rotate_left 1
   exact ⟨rfl, by assumption, X⟩
def wholeT (t : Nd) (σ : PS) : Nd × Int × Int := if σ.err ≠ 0 then (zeroNd, σ.off, σ.err) else (t, 0, 0)
def WholeR (w : World) (pb : Nat) (S : Nat → Prop) (r : Nd × Int × Int) : Ending → World → Prop := fun e w' => ∃ a k, e = .returned (.tuple #[r.1.val a k, .int .i64 r.2.1, .int .i64 r.2.2]) ∧ r.1.sits S w' a ∧ Fr (· = pb) w w'
theorem WholeR.ret {w : World} {pb : Nat} {S : Nat → Prop} {r : Nd × Int × Int} {e : Ending} {w' : World} (h : WholeR w pb S r e w') : ∃ v, e = .returned v := by
 obtain ⟨_, _, h, -⟩ := h
 exact ⟨_, h⟩
set_option maxRecDepth 100000 in
set_option maxHeartbeats 1000000 in
theorem whole_c (c : PC) (σ : PS) (t : Nd) (S : Nat → Prop) (a : Option Addr) (k : Nat) (w : World) (hP : PP c σ w) (hz : t.size ≤ 1000000000) (hs : t.sits S w a) (hS : ∀ b, S b → b ≠ c.pb ∧ b < w.heap.size) :
 Calls Tryd.prog 28 #[.pointer (some ⟨c.pb, 0, none⟩), t.val a k] w (WholeR w c.pb S (wholeT t (limitP t 0 σ))) := by
 have X := Fr.refl (· = c.pb) w; have hpb := hP.pbB; have hB := hP.B
 by_cases h : (limitP t 0 σ).err = 0
 · rw [show wholeT t (limitP t 0 σ) = (t, 0, 0) from by simp [wholeT, h]]
   refine calls_in Tryd.func28 Tryd.ntmps28 rfl rfl ?_
   focus
    refine cS ?_; (refine lw_box' [_, _, _, _] rfl rfl rfl ?_; intro b1 w2 n3); have h4 := n3.blk; have x5 := n3.ext; have p6 := n3.pos; have z7 := n3.size; clear n3; replace hP := hP.ext x5; replace hs := Nd.sits.ext hs x5; replace X := X.ext x5; clear x5; (refine lw_alloc' [_, _, _, _] zOk rfl rfl ?_; intro b8 w9 n10); have h12 := n10.blk; have x13 := n10.ext; have p14 := n10.pos; have z15 := n10.size; clear n10; replace h4 := h4.ext x13; replace hP := hP.ext x13; replace hs := Nd.sits.ext hs x13; replace X := X.ext x13; clear x13; refine cA rfl rfl (cA rfl rfl (cN (cM rfl rfl (lw_loads_b' [_, _, _, _] tabOk rfl rfl rfl h4 rfl rfl rfl ?_)))); refine cC (by kernel_rfl) rfl (limit_c _ _ _ _ _ _ _ _ (by assumption) (by omega) (by assumption)) rfl ?_; rintro _ w18 ⟨⟨⟩, ⟨h16, f17⟩⟩; have z19 := f17.size; replace h12 := h12.fr f17 (by omega); replace h4 := h4.fr f17 (by omega); clear hP; replace hs := Nd.sits.fr hs f17 (fun k hk e => by have := hS k hk; omega); replace X := X.fr f17 (by omega); clear f17; refine cT (cw_seq (cS (cM rfl rfl (lw_pure (pur_nilCheck rfl) rfl (lw_pure (pur_fieldAddr tabOk rfl rfl rfl) rfl (lw_load_b tabOk rfl rfl rfl (PP.blk h16) rfl rfl (lw_pure (pur_neq rfl rfl) rfl (cT ?_)))))))); refine cw_no rfl (by omega) ?_; refine cw_skip (qw_then (cS (lw_loads_b' [_, _, _, _] tabOk rfl rfl rfl h4 rfl rfl rfl ?_))); (refine lw_store' [_, _, _, _] [_, _, _, _] tabOk rfl rfl rfl rfl rfl rfl h12 rfl rfl ?_; intro w20 n21); have h24 := n21.blk; have f22 := n21.fr; have z23 := n21.size
    clear n21 h12; replace h16 := h16.fr f22 (by omega); replace h4 := h4.fr f22 (by omega); replace hs := Nd.sits.fr hs f22 (fun k hk e => by have := hS k hk; omega); replace X := X.fr f22 (by omega); clear f22; refine cA rfl rfl (cA rfl rfl (cT (cw_ret (qw_retc3 rfl tabOk rfl rfl rfl h24 rfl rfl rfl ?_)))); rotate_left 1
   exact ⟨_, _, rfl, by assumption, X⟩
 · rw [show wholeT t (limitP t 0 σ) = (zeroNd, (limitP t 0 σ).off, (limitP t 0 σ).err) from by simp [wholeT, h]]
   refine calls_in Tryd.func28 Tryd.ntmps28 rfl rfl ?_
   focus
    refine cS ?_; (refine lw_box' [_, _, _, _] rfl rfl rfl ?_; intro ba1 wa2 na3); have ha4 := na3.blk; have xa5 := na3.ext; have pa6 := na3.pos; have za7 := na3.size; clear na3; replace hP := hP.ext xa5; replace hs := Nd.sits.ext hs xa5; replace X := X.ext xa5; clear xa5; (refine lw_alloc' [_, _, _, _] zOk rfl rfl ?_; intro ba8 wa9 na10); have ha12 := na10.blk; have xa13 := na10.ext; have pa14 := na10.pos; have za15 := na10.size; clear na10; replace ha4 := ha4.ext xa13; replace hP := hP.ext xa13; replace hs := Nd.sits.ext hs xa13; replace X := X.ext xa13; clear xa13; refine cA rfl rfl (cA rfl rfl (cN (cM rfl rfl (lw_loads_b' [_, _, _, _] tabOk rfl rfl rfl ha4 rfl rfl rfl ?_)))); refine cC (by kernel_rfl) rfl (limit_c _ _ _ _ _ _ _ _ (by assumption) (by omega) (by assumption)) rfl ?_; rintro _ wa18 ⟨⟨⟩, ⟨ha16, fa17⟩⟩; have za19 := fa17.size; replace ha12 := ha12.fr fa17 (by omega); replace ha4 := ha4.fr fa17 (by omega); clear hP; replace hs := Nd.sits.fr hs fa17 (fun k hk e => by have := hS k hk; omega); replace X := X.fr fa17 (by omega); clear fa17; refine cT (cw_seq (cS (cM rfl rfl (lw_pure (pur_nilCheck rfl) rfl (lw_pure (pur_fieldAddr tabOk rfl rfl rfl) rfl (lw_load_b tabOk rfl rfl rfl (PP.blk ha16) rfl rfl (lw_pure (pur_neq rfl rfl) rfl (cT ?_)))))))); refine cw_yes rfl (by assumption) ?_; refine cw_seq ?_; (refine cw_tdraw (fun wz => Fr (fun x => x = ba8) wa18 wz) 11 (.pure 0 (.pure 1 (.pure 2 (.pure 3 (.pure 4 (.pure 5 (.pure 6 (.pure 7 (.pure 8 (.fork 9 (.pure 10 .tail) .none)))))))))) mixed (by kernel_rfl) (panicOk_then (panicOk_then panicOk_body)) ?_; intro wa20 xa21 _)
    have qsa22 : (fun wz => Fr (fun x => x = ba8) wa18 wz) wa20 := Fr.of_ext xa21; simp only at qsa22; have d_ha16 := ha16; have d_ha12 := ha12; have d_ha4 := ha4; have d_hs := hs; have za23 := xa21.size; replace ha16 := ha16.ext xa21; replace ha12 := ha12.ext xa21; replace ha4 := ha4.ext xa21; replace hs := Nd.sits.ext hs xa21; replace X := X.ext xa21; clear xa21; refine ⟨qsa22, ?_⟩; refine tw_pure rfl (pur_build' [_, _, _, _] tabOk zOk rfl rfl rfl rfl) rfl (tw_pure rfl (pur_move rfl) rfl (tw_pure rfl (pur_nilCheck rfl) rfl (tw_pure rfl (pur_fieldAddr tabOk rfl rfl rfl) rfl ?_))); refine tw_pure rfl (pur_load tabOk rfl rfl rfl (fun wz hz => Blk.cell (Blk.fr (PP.blk d_ha16) hz (by omega)) rfl)) rfl ?_; refine tw_pure rfl (pur_move rfl) rfl (tw_pure rfl (pur_nilCheck rfl) rfl (tw_pure rfl (pur_fieldAddr tabOk rfl rfl rfl) rfl ?_)); refine tw_pure rfl (pur_load tabOk rfl rfl rfl (fun wz hz => Blk.cell (Blk.fr (PP.blk d_ha16) hz (by omega)) rfl)) rfl ?_; (refine tw_store [_, _, _, _] [_, _, _, _] rfl tabOk rfl rfl rfl rfl rfl rfl ha12 rfl rfl ?_ tw_none; intro wa24 na25); have ha28 := na25.blk; have fa26 := na25.fr; have za27 := na25.size; clear na25 ha12; replace qsa22 := qsa22.fr fa26 (by omega); replace ha16 := ha16.fr fa26 (by omega); replace ha4 := ha4.fr fa26 (by omega); replace hs := Nd.sits.fr hs fa26 (fun k hk e => by have := hS k hk; omega); replace X := X.fr fa26 (by omega); clear fa26; refine ⟨qsa22, ?_⟩; refine tw_pure rfl (pur_assign rfl) rfl ?_; clear d_ha16 d_ha12 d_ha4 d_hs qsa22
    refine tw_tail rfl (cA rfl rfl (cT (cw_ret (qw_then_ret (qw_retc3 rfl tabOk rfl rfl rfl ha28 rfl rfl rfl ?_))))); rotate_left 1
   exact ⟨_, _, rfl, sits_nil, X⟩
end Bk
namespace Bk
open Go Go.RowKit Go.Proofs
attribute [local irreducible] Go.Calls
theorem setS_bin (j : Nat) (h : j < 16) : setS (binMap.take j) (symbol (8 + (j : Int))) (.int .u8 (8 + (j : Int))) = binMap.take (j + 1) := by
 have : j = 0 ∨ j = 1 ∨ j = 2 ∨ j = 3 ∨ j = 4 ∨ j = 5 ∨ j = 6 ∨ j = 7 ∨ j = 8 ∨ j = 9 ∨ j = 10 ∨ j = 11 ∨ j = 12 ∨ j = 13 ∨ j = 14 ∨ j = 15 := by omega
 rcases this with rfl | rfl | rfl | rfl | rfl | rfl | rfl | rfl | rfl | rfl | rfl | rfl | rfl | rfl | rfl | rfl <;> rfl
def StartR (s : List UInt8) (w : World) : Ending → World → Prop := fun e w' => ∃ c : PC, e = .returned (.pointer (some ⟨c.pb, 0, none⟩)) ∧ (c.ts = (startP s).1 ∧ c.n = s.length ∧ w.heap.size ≤ c.pb) ∧ PP c (startP s).2 w' ∧ Ext w w' ∧ c.B ≤ w'.heap.size
theorem StartR.ret {s : List UInt8} {w : World} {e : Ending} {w' : World} (h : StartR s w e w') : ∃ v, e = .returned v := by
 obtain ⟨_, h, -⟩ := h
 exact ⟨_, h⟩
theorem Syms.lt {w : World} (h : Syms w) : 0 < w.heap.size := cell_lt (h.sym 0 (by omega))
theorem Errs.lt {w : World} (h : Errs w) : 3 < w.heap.size := by
 obtain ⟨te, pe, h⟩ := h.ex
 exact cell_lt h
set_option maxRecDepth 100000 in
set_option maxHeartbeats 4000000 in
theorem start_c (s : List UInt8) (w : World) (hs : s.length ≤ 1000000) (hS : Syms w) (hE : Errs w) : Calls Tryd.prog 22 #[str s] w (StartR s w) := by
 have X := Ext.refl w; have hg1 := hS.lt; have hg2 := hE.lt; have hl1 := lexT_len s; refine calls_in Tryd.func22 Tryd.ntmps22 rfl rfl ?_
 focus
  refine cS (cA rfl rfl (cN (cM rfl rfl ?_))); refine cR (by kernel_rfl) rfl (Lex_c _ _ (by omega)) (fun _ _ h => h.ret) rfl ?_; rintro _ w5 ⟨a1, ⟨k2, ⟨⟨⟩, ⟨h3, x4⟩⟩⟩⟩; have z6 := x4.size; replace hS := hS.ext x4; replace hE := hE.ext x4; replace X := X.ext x4; clear x4; refine cM rfl rfl (lw_pure (pur_extract rfl rfl) rfl (lw_pure (pur_extract rfl rfl) rfl (lw_pure (pur_extract rfl rfl) rfl (cA rfl rfl (cA rfl rfl (cA rfl rfl (cN (cM rfl rfl ?_)))))))); refine cR (by kernel_rfl) rfl (Solid_c _ _ _ _ _ (by omega) (by assumption) (by intro b h; exact h.2)) (fun _ _ h => h.ret) rfl ?_; rintro _ w11 ⟨a7, ⟨k8, ⟨⟨⟩, ⟨h9, x10⟩⟩⟩⟩; have z12 := x10.size; replace h3 := h3.ext x10; replace hS := hS.ext x10; replace hE := hE.ext x10; replace X := X.ext x10; clear x10; refine cM rfl rfl (lw_pure (pur_len_s tabOk rfl rfl) rfl (lw_makeMap rfl ?_)); rintro r13 w14 rfl h15 x16 h17; have z18 := x16.size; replace h9 := h9.ext x16; replace h3 := h3.ext x16; replace hS := hS.ext x16; replace hE := hE.ext x16; replace X := X.ext x16; clear x16; refine cM rfl rfl (cM rfl rfl (lw_pure (pur_build' [_, _, _, _, _, _] tabOk zOk rfl rfl rfl rfl) rfl ?_)); (refine lw_box' [_, _, _, _, _, _] rfl rfl rfl ?_; intro b19 w20 n21); have h22 := n21.blk; have x23 := n21.ext; have p24 := n21.pos; have z25 := n21.size; clear n21; replace h15 := h15.ext x23; replace h9 := h9.ext x23; replace h3 := h3.ext x23; replace hS := hS.ext x23; replace hE := hE.ext x23; replace X := X.ext x23; clear x23; refine cA rfl rfl (cT (cw_seq (cS ?_)))
  refine cR (by kernel_rfl) rfl (Operators_c _) (fun _ _ h => h.ret) rfl ?_; rintro _ w32 ⟨b26, ⟨k27, ⟨⟨⟩, ⟨h28, ⟨h29, ⟨h30, x31⟩⟩⟩⟩⟩⟩; have z33 := x31.size; replace h22 := h22.ext x31; replace h15 := h15.ext x31; replace h9 := h9.ext x31; replace h3 := h3.ext x31; replace hS := hS.ext x31; replace hE := hE.ext x31; replace X := X.ext x31; clear x31; refine lw_pure (pur_len_slice tabOk rfl rfl) rfl (cM rfl rfl (cT (cw_block ?_))); rotate_left 1
 generalize hr : w11.heap.size = r at *
 refine cw_loop (ι := Nat) (fun j => [(6, .pointer (some ⟨b19, 0, none⟩)), (24, .slice (some ⟨b26, 0, none⟩) 16 k27), (25, .int .i64 16), (26, .int .i64 j)])
  (fun j w' => j ≤ 16 ∧ MapIs w' r (binMap.take j) ∧ Row w' ⟨b26, 0, none⟩ ((ops8 16).map (.int .u8 ·)) ∧ Blk w' b19 [.slice a7 (solidT (lexT s).1).length k8, .int .i64 0, .int .i64 s.length, .map (some r), .int .i64 (lexT s).2.1, .int .i64 (lexT s).2.2] ∧
   Toks (fun b => w5.heap.size ≤ b ∧ b < r) w' (solidT (lexT s).1) a7 ∧ Syms w' ∧ Errs w' ∧ Ext w w' ∧ w32.heap.size ≤ w'.heap.size) (fun j => 16 - j) 0 (by (refine sub_cons rfl ?_; refine sub_cons rfl ?_; refine sub_cons rfl ?_; refine sub_cons rfl ?_; exact sub_nil)) ⟨Nat.zero_le _, h15, h30, h22, h9, hS, hE, X, Nat.le_refl _⟩ ?_
 rintro j w1 ⟨hj, hM, hrow, hb, hT, hS, hE, X, hz⟩; clear h15 h30 h22 h9 h3
 by_cases hlt : j < 16
 · have hr1 : Row w1 ⟨b26, 0 + j * 1, none⟩ [.int .u8 (8 + (j : Int))] := by
    have h1 := hrow.sub j 1
    have e : (((ops8 16).map (.int .u8 ·)).drop j).take 1 = [Value.int .u8 (8 + (j : Int))] := by
     have : j = 0 ∨ j = 1 ∨ j = 2 ∨ j = 3 ∨ j = 4 ∨ j = 5 ∨ j = 6 ∨ j = 7 ∨ j = 8 ∨ j = 9 ∨ j = 10 ∨ j = 11 ∨ j = 12 ∨ j = 13 ∨ j = 14 ∨ j = 15 := by omega
     rcases this with rfl | rfl | rfl | rfl | rfl | rfl | rfl | rfl | rfl | rfl | rfl | rfl | rfl | rfl | rfl | rfl <;> rfl
    rw [e] at h1
    rw [Nat.mul_one]; exact h1
   have hset := setS_bin j hlt
   focus
    refine cS (lw_pure (pur_lss rfl rfl) rfl (cT (cw_seq ?_))); refine cw_yes rfl (by omega) ?_; refine cw_skip (qw_then (cw_seq (cw_block (cS ?_)))); refine lw_pure (pur_indexAddr tabOk rfl rfl rfl rfl (by omega) (by omega)) rfl ?_; refine lw_load_r0 tabOk rfl rfl rfl hr1 rfl rfl (cA rfl rfl (cT ?_)); (refine cw_tdraw (fun wz => Ext w1 wz) 7 (.pure 0 (.pure 1 (.pure 2 (.pure 3 (.pure 4 (.pure 6 (.fork 5 .tail .none))))))) mixed (by kernel_rfl) (panicOk_block (panicOk_then (panicOk_then (panicOk_block (panicOk_then panicOk_body))))) ?_; intro wa1 xa2 _); have qsa3 : (fun wz => Ext w1 wz) wa1 := xa2; simp only at qsa3; have d_hM := hM; have d_hrow := hrow; have d_hb := hb; have d_hT := hT; have d_hS := hS; have d_hE := hE; have d_hr1 := hr1; have za4 := xa2.size; replace hM := hM.ext xa2; replace hrow := hrow.ext xa2; replace hb := hb.ext xa2; replace hT := hT.ext xa2; replace hS := hS.ext xa2; replace hE := hE.ext xa2; replace X := X.ext xa2; replace hr1 := hr1.ext xa2; clear xa2; refine ⟨qsa3, ?_⟩; refine tw_pure rfl (pur_move rfl) rfl (tw_pure rfl (pur_nilCheck rfl) rfl (tw_pure rfl (pur_fieldAddr tabOk rfl rfl rfl) rfl (tw_pure rfl (pur_load tabOk rfl rfl rfl (fun wz hz => Blk.cell (Blk.ext d_hb hz) rfl)) rfl (tw_pure rfl (pur_move rfl) rfl (tw_pure rfl (pur_move rfl) rfl ?_))))); refine tw_does rfl (does_call (by kernel_rfl) rfl (arith_Symbol_s _ _ (by omega) (by omega) (by assumption)) (fun _ _ h => ⟨_, h.1⟩)) rfl ?_ (fun _ h => h) tw_none; rintro _ wa5 ⟨⟨⟩, rfl⟩; refine ⟨qsa3, ?_⟩
    clear qsa3 d_hM d_hrow d_hb d_hT d_hS d_hE d_hr1; refine tw_tail rfl (lw_mapput tabOk rfl rfl rfl rfl rfl hM ?_); rintro wa6 ha7 fa8; have za9 := fa8.size; clear hM; replace hrow := Row.fr hrow fa8 (by simp only; omega); replace hb := hb.fr fa8 (by omega); replace hT := hT.fr fa8 (by omega); replace hS := hS.fr fa8 (by omega); replace hE := hE.fr fa8 (by omega); replace X := X.fr fa8 (by omega); replace hr1 := Row.fr hr1 fa8 (by simp only; omega); clear fa8; refine lw_nil (qw_block_norm (qw_then (cw_region ?_))); refine lw_pure (pur_add rfl rfl (IntWalk.i64_in _ (by omega))) rfl ?_; refine cM rfl rfl (lw_nil ?_); rotate_left 1
   refine qw_round (j + 1) (by (refine sub_cons rfl ?_; refine sub_cons rfl ?_; refine sub_cons rfl ?_; refine sub_cons rfl ?_; exact sub_nil)) ⟨by omega, by rw [← hset]; assumption, hrow, hb, hT, hS, hE, X, by omega⟩ (by omega)
 · have : j = 16 := by omega
   subst this
   focus
    refine cS (lw_pure (pur_lss rfl rfl) rfl (cT (cw_seq ?_))); refine cw_no rfl (by decide) ?_; refine cw_exit (qw_then_exit (qw_then_exit (qw_block_exit (qw_then (cS (cM rfl rfl (cA rfl rfl (cT (cw_ret (qw_ret1 rfl rfl ?_)))))))))); rotate_left 1
   have hsz := X.size; refine ⟨⟨b19, w1.heap.size, solidT (lexT s).1, s.length, a7, k8, r⟩, rfl, ⟨rfl, rfl, by simp only; omega⟩, ?_, X, Nat.le_refl _⟩; refine ⟨hb, hT.wide (fun b h => ⟨by simp only; omega, by simp only; omega⟩), hM, by simp only; omega, by simp only; omega, by simp only; omega, Nat.le_refl _, Nat.zero_le _, ?_, fun t ht => ?_, fun t ht => (solid_ok s t ht).num, hE, by simp only; omega⟩
   · exact Nat.le_trans (start_len s) hs
   · exact Nat.le_trans (solid_ok s t ht).len hs
end Bk
namespace Bk
open Go Go.RowKit Go.Proofs
attribute [local irreducible] Go.Calls
theorem fuel_ok {c : PC} {s : List UInt8} (h : c.ts = (startP s).1) (σ : PS) : 4 * mS c.ts σ + 20 ≤ fuelP s := by
 have h1 := start_len s
 have h2 : mS c.ts σ ≤ c.ts.length := by unfold mS; split <;> omega
 rw [h] at h2
 unfold fuelP
 rw [h]
 omega
def ParseR (w : World) (r : Nd × Int × Int) : Ending → World → Prop := fun e w' => ∃ a k, e = .returned (.tuple #[r.1.val a k, .int .i64 r.2.1, .int .i64 r.2.2]) ∧ r.1.sits (w.heap.size ≤ ·) w' a ∧ Ext w w'
theorem ParseR.ret {w : World} {r : Nd × Int × Int} {e : Ending} {w' : World} (h : ParseR w r e w') : ∃ v, e = .returned v := by
 obtain ⟨_, _, h, -⟩ := h
 exact ⟨_, h⟩
def ParsePR (w : World) (r : PG × Int × Int) : Ending → World → Prop := fun e w' => ∃ va vc pa pc ma mc, e = .returned (.tuple #[.agg (r.1.cells va vc pa pc ma mc).toArray, .int .i64 r.2.1, .int .i64 r.2.2]) ∧ r.1.sits (w.heap.size ≤ ·) w' va pa ma ∧ Ext w w'
theorem ParsePR.ret {w : World} {r : PG × Int × Int} {e : Ending} {w' : World} (h : ParsePR w r e w') : ∃ v, e = .returned v := by
 obtain ⟨_, _, _, _, _, _, h, -⟩ := h
 exact ⟨_, h⟩
theorem PG.sits.wide {S S' : Nat → Prop} {w : World} {g : PG} {va pa ma : Option Addr} (h : g.sits S w va pa ma) (hs : ∀ b, S b → S' b) : g.sits S' w va pa ma := ⟨h.vars.wide hs, h.procs.wide hs, h.main.wide hs⟩
theorem parseExpr_whole (s : List UInt8) (c : PC) (h1 : c.ts = (startP s).1) (h2 : c.n = s.length) : parseExpr s = wholeT (exprP c.ts c.n (fuelP s) 1 (startP s).2).1 (limitP (exprP c.ts c.n (fuelP s) 1 (startP s).2).1 0 (finishP c.ts c.n (exprP c.ts c.n (fuelP s) 1 (startP s).2).2)) := by
 unfold parseExpr wholeT
 rw [h1, h2]
set_option maxRecDepth 100000 in
set_option maxHeartbeats 4000000 in
theorem Expr_p (s : List UInt8) (w : World) (hs : s.length ≤ 1000000) (hS : Syms w) (hE : Errs w) : Calls Tryd.prog 15 #[str s] w (ParseR w (parseExpr s)) := by
 have X := Ext.refl w; refine calls_in Tryd.func15 Tryd.ntmps15 rfl rfl ?_
 focus
  refine cS ?_; (refine lw_alloc' [_, _, _, _] zOk rfl rfl ?_; intro b1 w2 n3); have h5 := n3.blk; have x6 := n3.ext; have p7 := n3.pos; have z8 := n3.size; clear n3; replace hS := hS.ext x6; replace hE := hE.ext x6; replace X := X.ext x6; clear x6; refine cA rfl rfl (cA rfl rfl (cN (cM rfl rfl ?_))); refine cR (by kernel_rfl) rfl (start_c s _ hs (by assumption) (by assumption)) (fun _ _ h => h.ret) rfl ?_; rintro _ w16 ⟨c9, ⟨⟨⟩, ⟨⟨h10, ⟨h11, h12⟩⟩, ⟨h13, ⟨x14, h15⟩⟩⟩⟩⟩; have z17 := x14.size; replace h5 := h5.ext x14; replace hS := hS.ext x14; replace hE := hE.ext x14; replace X := X.ext x14; clear x14; refine cA rfl rfl (cN (cM rfl rfl ?_)); rotate_left 1
 have hf := fuel_ok h10 (startP s).2; have hat := h13.at_; have hlen := h13.len; have hpb := h13.pbB; have hB := h13.B; rw [parseExpr_whole s c9 h10 h11]; have hle := expr_le (n := c9.n) (k := fuelP s) (lv := 1) hat; have hsz := exprs_size (n := c9.n) (k := fuelP s) (lv := 1) hat; have hwf := hle.wf
 have hsz2 : (exprP c9.ts c9.n (fuelP s) 1 (startP s).2).1.size ≤ 1000000000 := by omega
 focus
  refine cR (by kernel_rfl) rfl ((exprs_c c9 (fuelP s)).expr _ _ _ (by assumption) (by omega) (by decide) (by decide)) (fun _ _ h => h.ret) rfl ?_; rintro _ wa6 ⟨aa1, ⟨ka2, ⟨⟨⟩, ⟨ha3, ⟨ha4, fa5⟩⟩⟩⟩⟩; have za7 := fa5.size; clear h13; replace h5 := h5.fr fa5 (by omega); replace hS := hS.fr fa5 (by omega); clear hE; replace X := X.fr fa5 (by omega); clear fa5; (refine lw_alloc' [_, _, _, _] zOk rfl rfl ?_; intro ba8 wa9 na10); (refine lw_init' [_, _, _, _] tabOk rfl rfl rfl rfl rfl rfl na10 rfl ?_; clear na10; clear wa9; intro wa11 na10); have ha12 := na10.blk; have xa13 := na10.ext; have pa14 := na10.pos; have za15 := na10.size; clear na10; replace ha3 := Nd.sits.ext ha3 xa13; replace ha4 := ha4.ext xa13; replace h5 := h5.ext xa13; replace hS := hS.ext xa13; replace X := X.ext xa13; clear xa13; refine cN (cM rfl rfl ?_); refine cC (by kernel_rfl) rfl (finish_c _ _ _ (by assumption)) rfl ?_; rintro _ wa18 ⟨⟨⟩, ⟨ha16, fa17⟩⟩; have za19 := fa17.size; replace ha12 := ha12.fr fa17 (by omega); replace ha3 := Nd.sits.fr ha3 fa17 (by omega); clear ha4; replace h5 := h5.fr fa17 (by omega); replace hS := hS.fr fa17 (by omega); replace X := X.fr fa17 (by omega); clear fa17; refine cN (cM rfl rfl (lw_loads_b' [_, _, _, _] tabOk rfl rfl rfl ha12 rfl rfl rfl ?_)); refine cR (by kernel_rfl) rfl (whole_c _ _ _ _ _ _ _ (by assumption) (by assumption) (by assumption) (by intro b h; exact ⟨by omega, by omega⟩)) (fun _ _ h => h.ret) rfl ?_; rintro _ wa24 ⟨aa20, ⟨ka21, ⟨⟨⟩, ⟨ha22, fa23⟩⟩⟩⟩; have za25 := fa23.size
  clear ha16; replace ha12 := ha12.fr fa23 (by omega); replace ha3 := Nd.sits.fr ha3 fa23 (by omega); replace h5 := h5.fr fa23 (by omega); replace hS := hS.fr fa23 (by omega); replace X := X.fr fa23 (by omega); clear fa23; refine lw_pure (pur_extract rfl rfl) rfl (lw_pure (pur_extract rfl rfl) rfl (lw_pure (pur_extract rfl rfl) rfl ?_)); (refine lw_store' [_, _, _, _] [_, _, _, _] tabOk rfl rfl rfl rfl rfl rfl h5 rfl rfl ?_; intro wa26 na27); have ha30 := na27.blk; have fa28 := na27.fr; have za29 := na27.size; clear na27 h5; replace ha22 := Nd.sits.fr ha22 fa28 (by omega); replace ha12 := ha12.fr fa28 (by omega); replace ha3 := Nd.sits.fr ha3 fa28 (by omega); clear hS; replace X := X.fr fa28 (by omega); clear fa28; refine cA rfl rfl (cA rfl rfl (cT (cw_ret (qw_retc3 rfl tabOk rfl rfl rfl ha30 rfl rfl rfl ?_)))); rotate_left 1
 exact ⟨_, _, rfl, Nd.sits.wide (by assumption) (fun b h => by omega), X⟩
section
variable {ts : List Tok} {n : Int}
end
set_option maxRecDepth 100000 in
set_option maxHeartbeats 4000000 in
theorem Program_p (s : List UInt8) (w : World) (hs : s.length ≤ 1000000) (hS : Syms w) (hE : Errs w) : Calls Tryd.prog 12 #[str s] w (ParsePR w (parseProgram s)) := by
 have X := Ext.refl w; refine calls_in Tryd.func12 Tryd.ntmps12 rfl rfl ?_
 focus
  refine cS ?_; (refine lw_alloc' [_, _, _, _, _, _] zOk rfl rfl ?_; intro b1 w2 n3); have h5 := n3.blk; have x6 := n3.ext; have p7 := n3.pos; have z8 := n3.size; clear n3; replace hS := hS.ext x6; replace hE := hE.ext x6; replace X := X.ext x6; clear x6; refine cA rfl rfl (cA rfl rfl (cN (cM rfl rfl ?_))); refine cR (by kernel_rfl) rfl (start_c s _ hs (by assumption) (by assumption)) (fun _ _ h => h.ret) rfl ?_; rintro _ w16 ⟨c9, ⟨⟨⟩, ⟨⟨h10, ⟨h11, h12⟩⟩, ⟨h13, ⟨x14, h15⟩⟩⟩⟩⟩; have z17 := x14.size; replace h5 := h5.ext x14; replace hS := hS.ext x14; replace hE := hE.ext x14; replace X := X.ext x14; clear x14; refine cA rfl rfl (cN (cM rfl rfl ?_)); rotate_left 1
 have hf := fuel_ok h10 (startP s).2; have hat := h13.at_; have hlen := h13.len; have hpb := h13.pbB; have hB := h13.B
 have hpe : parseProgram s = if (finishP c9.ts c9.n (programP c9.ts c9.n (fuelP s) (startP s).2).2).err ≠ 0 then (⟨[], [], zeroNd⟩, (finishP c9.ts c9.n (programP c9.ts c9.n (fuelP s) (startP s).2).2).off, (finishP c9.ts c9.n (programP c9.ts c9.n (fuelP s) (startP s).2).2).err) else ((programP c9.ts c9.n (fuelP s) (startP s).2).1, 0, 0) := by
  unfold parseProgram
  rw [h10, h11]
 rw [hpe]
 by_cases he : (finishP c9.ts c9.n (programP c9.ts c9.n (fuelP s) (startP s).2).2).err = 0
 · rw [if_neg (fun h => h he)]
   focus
    refine cR (by kernel_rfl) rfl (program_c c9 (fuelP s) _ _ (by assumption) (by omega)) (fun _ _ h => h.ret) rfl ?_; rintro _ wa10 ⟨vaa1, ⟨vca2, ⟨paa3, ⟨pca4, ⟨maa5, ⟨mca6, ⟨⟨⟩, ⟨ha7, ⟨ha8, fa9⟩⟩⟩⟩⟩⟩⟩⟩⟩; have za11 := fa9.size; clear h13; replace h5 := h5.fr fa9 (by omega); replace hS := hS.fr fa9 (by omega); clear hE; replace X := X.fr fa9 (by omega); clear fa9; (refine lw_alloc' [_, _, _, _, _, _] zOk rfl rfl ?_; intro ba12 wa13 na14); (refine lw_init' [_, _, _, _, _, _] tabOk rfl rfl rfl rfl rfl rfl na14 rfl ?_; clear na14; clear wa13; intro wa15 na14); have ha16 := na14.blk; have xa17 := na14.ext; have pa18 := na14.pos; have za19 := na14.size; clear na14; replace ha7 := PG.sits.ext ha7 xa17; replace ha8 := ha8.ext xa17; replace h5 := h5.ext xa17; replace hS := hS.ext xa17; replace X := X.ext xa17; clear xa17; refine cN (cM rfl rfl ?_); refine cC (by kernel_rfl) rfl (finish_c _ _ _ (by assumption)) rfl ?_; rintro _ wa22 ⟨⟨⟩, ⟨ha20, fa21⟩⟩; have za23 := fa21.size; replace ha16 := ha16.fr fa21 (by omega); replace ha7 := PG.sits.fr ha7 fa21 (by omega); clear ha8; replace h5 := h5.fr fa21 (by omega); replace hS := hS.fr fa21 (by omega); replace X := X.fr fa21 (by omega); clear fa21; refine cT (cw_seq (cS (cM rfl rfl (lw_pure (pur_nilCheck rfl) rfl (lw_pure (pur_fieldAddr tabOk rfl rfl rfl) rfl (lw_load_b tabOk rfl rfl rfl (PP.blk ha20) rfl rfl (lw_pure (pur_neq rfl rfl) rfl (cT ?_)))))))); refine cw_no rfl (by omega) ?_; refine cw_skip (qw_then (cS (lw_loads_b' [_, _, _, _, _, _] tabOk rfl rfl rfl ha16 rfl rfl rfl ?_)))
    (refine lw_store' [_, _, _, _, _, _] [_, _, _, _, _, _] tabOk rfl rfl rfl rfl rfl rfl h5 rfl rfl ?_; intro wa24 na25); have ha28 := na25.blk; have fa26 := na25.fr; have za27 := na25.size; clear na25 h5 ha20; replace ha16 := ha16.fr fa26 (by omega); replace ha7 := PG.sits.fr ha7 fa26 (by omega); clear hS; replace X := X.fr fa26 (by omega); clear fa26; refine cA rfl rfl (cA rfl rfl (cT (cw_ret (qw_retc3 rfl tabOk rfl rfl rfl ha28 rfl rfl rfl ?_)))); rotate_left 1
   exact ⟨_, _, _, _, _, _, rfl, PG.sits.wide (by assumption) (fun b h => by omega), X⟩
 · rw [if_pos he]
   focus
    refine cR (by kernel_rfl) rfl (program_c c9 (fuelP s) _ _ (by assumption) (by omega)) (fun _ _ h => h.ret) rfl ?_; rintro _ wb10 ⟨vab1, ⟨vcb2, ⟨pab3, ⟨pcb4, ⟨mab5, ⟨mcb6, ⟨⟨⟩, ⟨hb7, ⟨hb8, fb9⟩⟩⟩⟩⟩⟩⟩⟩⟩; have zb11 := fb9.size; clear h13; replace h5 := h5.fr fb9 (by omega); replace hS := hS.fr fb9 (by omega); clear hE; replace X := X.fr fb9 (by omega); clear fb9; (refine lw_alloc' [_, _, _, _, _, _] zOk rfl rfl ?_; intro bb12 wb13 nb14); (refine lw_init' [_, _, _, _, _, _] tabOk rfl rfl rfl rfl rfl rfl nb14 rfl ?_; clear nb14; clear wb13; intro wb15 nb14); have hb16 := nb14.blk; have xb17 := nb14.ext; have pb18 := nb14.pos; have zb19 := nb14.size; clear nb14; replace hb7 := PG.sits.ext hb7 xb17; replace hb8 := hb8.ext xb17; replace h5 := h5.ext xb17; replace hS := hS.ext xb17; replace X := X.ext xb17; clear xb17; refine cN (cM rfl rfl ?_); refine cC (by kernel_rfl) rfl (finish_c _ _ _ (by assumption)) rfl ?_; rintro _ wb22 ⟨⟨⟩, ⟨hb20, fb21⟩⟩; have zb23 := fb21.size; replace hb16 := hb16.fr fb21 (by omega); replace hb7 := PG.sits.fr hb7 fb21 (by omega); clear hb8; replace h5 := h5.fr fb21 (by omega); replace hS := hS.fr fb21 (by omega); replace X := X.fr fb21 (by omega); clear fb21; refine cT (cw_seq (cS (cM rfl rfl (lw_pure (pur_nilCheck rfl) rfl (lw_pure (pur_fieldAddr tabOk rfl rfl rfl) rfl (lw_load_b tabOk rfl rfl rfl (PP.blk hb20) rfl rfl (lw_pure (pur_neq rfl rfl) rfl (cT ?_)))))))); refine cw_yes rfl (by assumption) ?_; refine cw_seq ?_; (refine cw_tdraw (fun wz => Fr (fun x => x = b1) wb22 wz) 11 (.pure 0 (.pure 1 (.pure 2 (.pure 3 (.pure 4 (.pure 5 (.pure 6 (.pure 7 (.pure 8 (.fork 9 (.pure 10 .tail) .none)))))))))) mixed (by kernel_rfl) (panicOk_then (panicOk_then panicOk_body)) ?_; intro wb24 xb25 _)
    have qsb26 : (fun wz => Fr (fun x => x = b1) wb22 wz) wb24 := Fr.of_ext xb25; simp only at qsb26; have d_hb20 := hb20; have d_hb16 := hb16; have d_hb7 := hb7; have d_h5 := h5; have d_hS := hS; have zb27 := xb25.size; replace hb20 := hb20.ext xb25; replace hb16 := hb16.ext xb25; replace hb7 := PG.sits.ext hb7 xb25; replace h5 := h5.ext xb25; replace hS := hS.ext xb25; replace X := X.ext xb25; clear xb25; refine ⟨qsb26, ?_⟩; refine tw_pure rfl (pur_build' [_, _, _, _, _, _] tabOk zOk rfl rfl rfl rfl) rfl (tw_pure rfl (pur_move rfl) rfl (tw_pure rfl (pur_nilCheck rfl) rfl (tw_pure rfl (pur_fieldAddr tabOk rfl rfl rfl) rfl ?_))); refine tw_pure rfl (pur_load tabOk rfl rfl rfl (fun wz hz => Blk.cell (Blk.fr (PP.blk d_hb20) hz (by omega)) rfl)) rfl ?_; refine tw_pure rfl (pur_move rfl) rfl (tw_pure rfl (pur_nilCheck rfl) rfl (tw_pure rfl (pur_fieldAddr tabOk rfl rfl rfl) rfl ?_)); refine tw_pure rfl (pur_load tabOk rfl rfl rfl (fun wz hz => Blk.cell (Blk.fr (PP.blk d_hb20) hz (by omega)) rfl)) rfl ?_; (refine tw_store [_, _, _, _, _, _] [_, _, _, _, _, _] rfl tabOk rfl rfl rfl rfl rfl rfl h5 rfl rfl ?_ tw_none; intro wb28 nb29); have hb32 := nb29.blk; have fb30 := nb29.fr; have zb31 := nb29.size; clear nb29 h5; replace qsb26 := qsb26.fr fb30 (by omega); clear hb20; replace hb16 := hb16.fr fb30 (by omega); replace hb7 := PG.sits.fr hb7 fb30 (by omega); clear hS; replace X := X.fr fb30 (by omega); clear fb30; refine ⟨qsb26, ?_⟩; refine tw_pure rfl (pur_assign rfl) rfl ?_; clear d_hb20 d_hb16 d_hb7 d_h5 d_hS qsb26
    refine tw_tail rfl (cA rfl rfl (cT (cw_ret (qw_then_ret (qw_retc3 rfl tabOk rfl rfl rfl hb32 rfl rfl rfl ?_))))); rotate_left 1
   exact ⟨_, _, _, _, _, _, rfl, ⟨Or.inl rfl, Or.inl rfl, sits_nil⟩, X⟩
end Bk
namespace Bk
open Go Go.RowKit Go.Proofs
attribute [local irreducible] Go.Calls
def Two (w : World) (k x y : Int) : Ending → World → Prop := fun e w' => ∃ kb ko c x1 x2 x3 y1 y2 y3, e = .returned (.tuple #[.agg #[.int .u8 k, .int .i64 0, str [], .slice (some ⟨kb, ko, none⟩) 2 c], .int .i64 0, .int .i64 0]) ∧ Row w' ⟨kb, ko + 0 * 4, none⟩ [.int .u8 x, x1, x2, x3] ∧ Row w' ⟨kb, ko + 1 * 4, none⟩ [.int .u8 y, y1, y2, y3] ∧ Ext w w'
theorem Two.ret {w : World} {k x y : Int} {e : Ending} {w' : World} (h : Two w k x y e w') : ∃ v, e = .returned v := by
 obtain ⟨_, _, _, _, _, _, _, _, _, h, -⟩ := h
 exact ⟨_, h⟩
theorem aw1_p (w : World) (hS : Syms w) (hE : Errs w) : Calls Tryd.prog 15 #[str [49, 32, 45, 32, 50, 32, 45, 32, 51, 32, 42, 32, 120]] w (Two w 9 9 10) := by
 have := Expr_p [49, 32, 45, 32, 50, 32, 45, 32, 51, 32, 42, 32, 120] w (by decide) hS hE; rw [aw1] at this; refine this.mono ?_; rintro e w' ⟨a, k, rfl, hs, x⟩; simp only [Nd.sits] at hs; obtain ⟨b, o, rfl, -, hk⟩ := kidRows hs (by simp); obtain ⟨a0, c0, r0, -⟩ := hk 0 _ rfl; obtain ⟨a1, c1, r1, -⟩ := hk 1 _ rfl
 exact ⟨b, o, k, _, _, _, _, _, _, rfl, r0, r1, x⟩
theorem aw2_p (w : World) (hS : Syms w) (hE : Errs w) : Calls Tryd.prog 15 #[str [49, 32, 43]] w (ParseR w (zeroNd, 3, 4)) := by
 have := Expr_p [49, 32, 43] w (by decide) hS hE
 rw [aw2] at this; exact this
theorem aw3_p (w : World) (hS : Syms w) (hE : Errs w) : Calls Tryd.prog 15 #[str [49, 32, 50]] w (ParseR w (zeroNd, 2, 3)) := by
 have := Expr_p [49, 32, 50] w (by decide) hS hE
 rw [aw3] at this; exact this
def OneS (w : World) (x : Int) : Ending → World → Prop := fun e w' => ∃ va vc pa pc kb ko c x1 x2 x3, e = .returned (.tuple #[.agg #[.slice va 0 vc, .slice pa 0 pc, .int .u8 57, .int .i64 0, str [], .slice (some ⟨kb, ko, none⟩) 1 c], .int .i64 0, .int .i64 0]) ∧ Row w' ⟨kb, ko + 0 * 4, none⟩ [.int .u8 x, x1, x2, x3] ∧ Ext w w'
theorem OneS.ret {w : World} {x : Int} {e : Ending} {w' : World} (h : OneS w x e w') : ∃ v, e = .returned v := by
 obtain ⟨_, _, _, _, _, _, _, _, _, _, h, -⟩ := h
 exact ⟨_, h⟩
theorem aw4_p (w : World) (hS : Syms w) (hE : Errs w) : Calls Tryd.prog 12 #[str [109, 97, 105, 110, 32, 123, 32, 120, 32, 43, 61, 32, 49, 59, 32, 125]] w (OneS w 40) := by
 have := Program_p [109, 97, 105, 110, 32, 123, 32, 120, 32, 43, 61, 32, 49, 59, 32, 125] w (by decide) hS hE; rw [aw4] at this; refine this.mono ?_; rintro e w' ⟨va, vc, pa, pc, ma, mc, rfl, hs, x⟩; have hm := hs.main; simp only [Nd.sits] at hm; obtain ⟨b, o, rfl, -, hk⟩ := kidRows hm (by simp); obtain ⟨a0, c0, r0, -⟩ := hk 0 _ rfl
 exact ⟨va, vc, pa, pc, b, o, mc, _, _, _, rfl, r0, x⟩
theorem aw5_p (w : World) (hS : Syms w) (hE : Errs w) : Calls Tryd.prog 12 #[str [109, 97, 105, 110, 32, 123, 32, 120, 32, 43, 61, 32, 49, 32, 125]] w (ParsePR w (⟨[], [], zeroNd⟩, 14, 3)) := by
 have := Program_p [109, 97, 105, 110, 32, 123, 32, 120, 32, 43, 61, 32, 49, 32, 125] w (by decide) hS hE
 rw [aw5] at this; exact this
set_option maxRecDepth 100000 in
set_option maxHeartbeats 4000000 in
theorem awake4_c (w : World) (hS : Syms w) (hE : Errs w) : Calls Tryd.prog 11 #[] w fun e w' => e = .returned (.bool true) ∧ Ext w w' := by
 have X := Ext.refl w; refine calls_in (args := []) Tryd.func11 Tryd.ntmps11 rfl rfl ?_
 focus
  refine cS (cA rfl rfl (cN ?_)); refine cR (by kernel_rfl) rfl (aw1_p _ (by assumption) (by assumption)) (fun _ _ h => h.ret) rfl ?_; rintro _ w13 ⟨kb1, ⟨ko2, ⟨c3, ⟨x14, ⟨x25, ⟨x36, ⟨y17, ⟨y28, ⟨y39, ⟨⟨⟩, ⟨h10, ⟨h11, x12⟩⟩⟩⟩⟩⟩⟩⟩⟩⟩⟩⟩; have z14 := x12.size; replace hS := hS.ext x12; replace hE := hE.ext x12; replace X := X.ext x12; clear x12; refine cM rfl rfl (lw_pure (pur_extract rfl rfl) rfl (lw_pure (pur_extract rfl rfl) rfl (lw_pure (pur_extract rfl rfl) rfl ?_))); (refine lw_alloc' [_, _, _, _] zOk rfl rfl ?_; intro b15 w16 n17); (refine lw_init' [_, _, _, _] tabOk rfl rfl rfl rfl rfl rfl n17 rfl ?_; clear n17; clear w16; intro w18 n17); have h19 := n17.blk; have x20 := n17.ext; have p21 := n17.pos; have z22 := n17.size; clear n17; replace h10 := h10.ext x20; replace h11 := h11.ext x20; replace hS := hS.ext x20; replace hE := hE.ext x20; replace X := X.ext x20; clear x20; refine cA rfl rfl (cA rfl rfl (cN ?_)); refine cR (by kernel_rfl) rfl (aw2_p _ (by assumption) (by assumption)) (fun _ _ h => h.ret) rfl ?_; rintro _ w27 ⟨a23, ⟨k24, ⟨⟨⟩, ⟨h25, x26⟩⟩⟩⟩; have z28 := x26.size; replace h19 := h19.ext x26; replace h10 := h10.ext x26; replace h11 := h11.ext x26; replace hS := hS.ext x26; replace hE := hE.ext x26; replace X := X.ext x26; clear x26; refine cM rfl rfl (lw_pure (pur_extract rfl rfl) rfl (lw_pure (pur_extract rfl rfl) rfl (lw_pure (pur_extract rfl rfl) rfl ?_))); (refine lw_alloc' [_, _, _, _] zOk rfl rfl ?_; intro b29 w30 n31); (refine lw_init' [_, _, _, _] tabOk rfl rfl rfl rfl rfl rfl n31 rfl ?_; clear n31; clear w30; intro w32 n31)
  have h33 := n31.blk; dsimp only at h33; have x34 := n31.ext; have p35 := n31.pos; have z36 := n31.size; clear n31; replace h25 := Nd.sits.ext h25 x34; replace h19 := h19.ext x34; replace h10 := h10.ext x34; replace h11 := h11.ext x34; replace hS := hS.ext x34; replace hE := hE.ext x34; replace X := X.ext x34; clear x34; refine cA rfl rfl (cA rfl rfl (cN ?_)); refine cR (by kernel_rfl) rfl (aw3_p _ (by assumption) (by assumption)) (fun _ _ h => h.ret) rfl ?_; rintro _ w41 ⟨a37, ⟨k38, ⟨⟨⟩, ⟨h39, x40⟩⟩⟩⟩; have z42 := x40.size; replace h33 := h33.ext x40; replace h25 := Nd.sits.ext h25 x40; replace h19 := h19.ext x40; replace h10 := h10.ext x40; replace h11 := h11.ext x40; replace hS := hS.ext x40; replace hE := hE.ext x40; replace X := X.ext x40; clear x40; refine cM rfl rfl (lw_pure (pur_extract rfl rfl) rfl (lw_pure (pur_extract rfl rfl) rfl (lw_pure (pur_extract rfl rfl) rfl ?_))); (refine lw_alloc' [_, _, _, _] zOk rfl rfl ?_; intro b43 w44 n45); (refine lw_init' [_, _, _, _] tabOk rfl rfl rfl rfl rfl rfl n45 rfl ?_; clear n45; clear w44; intro w46 n45); have h47 := n45.blk; dsimp only at h47; have x48 := n45.ext; have p49 := n45.pos; have z50 := n45.size; clear n45; replace h39 := Nd.sits.ext h39 x48; replace h33 := h33.ext x48; replace h25 := Nd.sits.ext h25 x48; replace h19 := h19.ext x48; replace h10 := h10.ext x48; replace h11 := h11.ext x48; replace hS := hS.ext x48; replace hE := hE.ext x48; replace X := X.ext x48; clear x48; refine cA rfl rfl (cA rfl rfl (cN ?_)); refine cR (by kernel_rfl) rfl (aw4_p _ (by assumption) (by assumption)) (fun _ _ h => h.ret) rfl ?_
  rintro _ w63 ⟨va51, ⟨vc52, ⟨pa53, ⟨pc54, ⟨kb55, ⟨ko56, ⟨c57, ⟨x158, ⟨x259, ⟨x360, ⟨⟨⟩, ⟨h61, x62⟩⟩⟩⟩⟩⟩⟩⟩⟩⟩⟩⟩; have z64 := x62.size; replace h47 := h47.ext x62; replace h39 := Nd.sits.ext h39 x62; replace h33 := h33.ext x62; replace h25 := Nd.sits.ext h25 x62; replace h19 := h19.ext x62; replace h10 := h10.ext x62; replace h11 := h11.ext x62; replace hS := hS.ext x62; replace hE := hE.ext x62; replace X := X.ext x62; clear x62; refine cM rfl rfl (lw_pure (pur_extract rfl rfl) rfl (lw_pure (pur_extract rfl rfl) rfl (lw_pure (pur_extract rfl rfl) rfl ?_))); (refine lw_alloc' [_, _, _, _, _, _] zOk rfl rfl ?_; intro b65 w66 n67); (refine lw_init' [_, _, _, _, _, _] tabOk rfl rfl rfl rfl rfl rfl n67 rfl ?_; clear n67; clear w66; intro w68 n67); have h69 := n67.blk; have x70 := n67.ext; have p71 := n67.pos; have z72 := n67.size; clear n67; replace h61 := h61.ext x70; replace h47 := h47.ext x70; replace h39 := Nd.sits.ext h39 x70; replace h33 := h33.ext x70; replace h25 := Nd.sits.ext h25 x70; replace h19 := h19.ext x70; replace h10 := h10.ext x70; replace h11 := h11.ext x70; replace hS := hS.ext x70; replace hE := hE.ext x70; replace X := X.ext x70; clear x70; refine cA rfl rfl (cA rfl rfl (cN ?_)); refine cR (by kernel_rfl) rfl (aw5_p _ (by assumption) (by assumption)) (fun _ _ h => h.ret) rfl ?_; rintro _ w81 ⟨va73, ⟨vc74, ⟨pa75, ⟨pc76, ⟨ma77, ⟨mc78, ⟨⟨⟩, ⟨h79, x80⟩⟩⟩⟩⟩⟩⟩⟩; have z82 := x80.size; replace h69 := h69.ext x80; replace h61 := h61.ext x80; replace h47 := h47.ext x80; replace h39 := Nd.sits.ext h39 x80
  replace h33 := h33.ext x80; replace h25 := Nd.sits.ext h25 x80; replace h19 := h19.ext x80; replace h10 := h10.ext x80; replace h11 := h11.ext x80; replace hS := hS.ext x80; replace hE := hE.ext x80; replace X := X.ext x80; clear x80; refine cM rfl rfl (lw_pure (pur_extract rfl rfl) rfl (lw_pure (pur_extract rfl rfl) rfl (lw_pure (pur_extract rfl rfl) rfl ?_))); (refine lw_alloc' [_, _, _, _, _, _] zOk rfl rfl ?_; intro b83 w84 n85); (refine lw_init' [_, _, _, _, _, _] tabOk rfl rfl rfl rfl rfl rfl n85 rfl ?_; clear n85; clear w84; intro w86 n85); have h87 := n85.blk; dsimp only at h87; have x88 := n85.ext; have p89 := n85.pos; have z90 := n85.size; clear n85; replace h79 := PG.sits.ext h79 x88; replace h69 := h69.ext x88; replace h61 := h61.ext x88; replace h47 := h47.ext x88; replace h39 := Nd.sits.ext h39 x88; replace h33 := h33.ext x88; replace h25 := Nd.sits.ext h25 x88; replace h19 := h19.ext x88; replace h10 := h10.ext x88; replace h11 := h11.ext x88; replace hS := hS.ext x88; replace hE := hE.ext x88; replace X := X.ext x88; clear x88; refine cA rfl rfl (cA rfl rfl (cN (cM rfl rfl (lw_pure (pur_eql rfl rfl) rfl (cM rfl rfl ?_))))); refine lw_on rfl rfl rfl (gd_tt (by decide)) ?_; refine lw_pure (pur_fieldAddr0 tabOk rfl rfl rfl) rfl ?_; refine lw_on rfl rfl rfl (gd_tt (by decide)) ?_; refine lw_load_b tabOk rfl rfl rfl h19 rfl rfl ?_; refine lw_on rfl rfl rfl (gd_tt (by decide)) ?_; refine lw_pure (pur_eql rfl rfl) rfl ?_; refine lw_pure (pur_pick_yes rfl rfl (by decide)) rfl ?_
  refine cM rfl rfl ?_; refine lw_on rfl rfl rfl (gd_tt (by decide)) ?_; refine lw_pure (pur_fieldAddr tabOk rfl rfl rfl) rfl ?_; refine lw_on rfl rfl rfl (gd_tt (by decide)) ?_; refine lw_load_b tabOk rfl rfl rfl h19 rfl rfl ?_; refine lw_on rfl rfl rfl (gd_tt (by decide)) ?_; refine lw_pure (pur_len_slice tabOk rfl rfl) rfl ?_; refine lw_on rfl rfl rfl (gd_tt (by decide)) ?_; refine lw_pure (pur_eql rfl rfl) rfl ?_; refine lw_pure (pur_pick_yes rfl rfl (by decide)) rfl ?_; refine cM rfl rfl ?_; refine lw_on rfl rfl rfl (gd_tt (by decide)) ?_; refine lw_pure (pur_fieldAddr tabOk rfl rfl rfl) rfl ?_; refine lw_on rfl rfl rfl (gd_tt (by decide)) ?_; refine lw_load_b tabOk rfl rfl rfl h19 rfl rfl ?_; refine lw_on rfl rfl rfl (gd_tt (by decide)) ?_; refine lw_pure (pur_indexAddr tabOk rfl rfl rfl rfl (by omega) (by omega)) rfl ?_; refine lw_on rfl rfl rfl (gd_tt (by decide)) ?_; refine lw_pure (pur_fieldAddr0 tabOk rfl rfl rfl) rfl ?_; refine lw_on rfl rfl rfl (gd_tt (by decide)) ?_; refine lw_load_r tabOk rfl rfl rfl h10 rfl rfl ?_; refine lw_on rfl rfl rfl (gd_tt (by decide)) ?_; refine lw_pure (pur_eql rfl rfl) rfl ?_; refine lw_pure (pur_pick_yes rfl rfl (by decide)) rfl ?_; refine cM rfl rfl ?_; refine lw_on rfl rfl rfl (gd_tt (by decide)) ?_; refine lw_pure (pur_fieldAddr tabOk rfl rfl rfl) rfl ?_; refine lw_on rfl rfl rfl (gd_tt (by decide)) ?_; refine lw_load_b tabOk rfl rfl rfl h19 rfl rfl ?_; refine lw_on rfl rfl rfl (gd_tt (by decide)) ?_; refine lw_pure (pur_indexAddr tabOk rfl rfl rfl rfl (by omega) (by omega)) rfl ?_
  refine lw_on rfl rfl rfl (gd_tt (by decide)) ?_; refine lw_pure (pur_fieldAddr0 tabOk rfl rfl rfl) rfl ?_; refine lw_on rfl rfl rfl (gd_tt (by decide)) ?_; refine lw_load_r0 tabOk rfl rfl rfl h11 rfl rfl ?_; refine lw_on rfl rfl rfl (gd_tt (by decide)) ?_; refine lw_pure (pur_eql rfl rfl) rfl ?_; refine lw_pure (pur_pick_yes rfl rfl (by decide)) rfl ?_; refine cM rfl rfl ?_; refine lw_on rfl rfl rfl (gd_tt (by decide)) ?_; refine cM rfl rfl ?_; refine lw_on rfl rfl rfl (gd_tt (by decide)) ?_; refine lw_pure (pur_eql rfl rfl) rfl ?_; refine lw_pure (pur_pick_yes rfl rfl (by decide)) rfl ?_; refine cM rfl rfl ?_; refine lw_on rfl rfl rfl (gd_tt (by decide)) ?_; refine cM rfl rfl ?_; refine lw_on rfl rfl rfl (gd_tt (by decide)) ?_; refine lw_pure (pur_eql rfl rfl) rfl ?_; refine lw_pure (pur_pick_yes rfl rfl (by decide)) rfl ?_; refine cM rfl rfl ?_; refine lw_on rfl rfl rfl (gd_tt (by decide)) ?_; refine cM rfl rfl ?_; refine lw_on rfl rfl rfl (gd_tt (by decide)) ?_; refine lw_pure (pur_eql rfl rfl) rfl ?_; refine lw_pure (pur_pick_yes rfl rfl (by decide)) rfl ?_; refine cM rfl rfl ?_; refine lw_on rfl rfl rfl (gd_tt (by decide)) ?_; refine cM rfl rfl ?_; refine lw_on rfl rfl rfl (gd_tt (by decide)) ?_; refine lw_pure (pur_eql rfl rfl) rfl ?_; refine lw_pure (pur_pick_yes rfl rfl (by decide)) rfl ?_; refine cM rfl rfl ?_; refine lw_on rfl rfl rfl (gd_tt (by decide)) ?_; refine cM rfl rfl ?_; refine lw_on rfl rfl rfl (gd_tt (by decide)) ?_; refine lw_pure (pur_eql rfl rfl) rfl ?_
  refine lw_pure (pur_pick_yes rfl rfl (by decide)) rfl ?_; refine cM rfl rfl ?_; refine lw_on rfl rfl rfl (gd_tt (by decide)) ?_; refine lw_pure (pur_fieldAddr tabOk rfl rfl rfl) rfl ?_; refine lw_on rfl rfl rfl (gd_tt (by decide)) ?_; refine lw_pure (pur_fieldAddr tabOk rfl rfl rfl) rfl ?_; refine lw_on rfl rfl rfl (gd_tt (by decide)) ?_; refine lw_load_b tabOk rfl rfl rfl h69 rfl rfl ?_; refine lw_on rfl rfl rfl (gd_tt (by decide)) ?_; refine lw_pure (pur_len_slice tabOk rfl rfl) rfl ?_; refine lw_on rfl rfl rfl (gd_tt (by decide)) ?_; refine lw_pure (pur_eql rfl rfl) rfl ?_; refine lw_pure (pur_pick_yes rfl rfl (by decide)) rfl ?_; refine cM rfl rfl ?_; refine lw_on rfl rfl rfl (gd_tt (by decide)) ?_; refine lw_pure (pur_fieldAddr tabOk rfl rfl rfl) rfl ?_; refine lw_on rfl rfl rfl (gd_tt (by decide)) ?_; refine lw_pure (pur_fieldAddr tabOk rfl rfl rfl) rfl ?_; refine lw_on rfl rfl rfl (gd_tt (by decide)) ?_; refine lw_load_b tabOk rfl rfl rfl h69 rfl rfl ?_; refine lw_on rfl rfl rfl (gd_tt (by decide)) ?_; refine lw_pure (pur_indexAddr tabOk rfl rfl rfl rfl (by omega) (by omega)) rfl ?_; refine lw_on rfl rfl rfl (gd_tt (by decide)) ?_; refine lw_pure (pur_fieldAddr0 tabOk rfl rfl rfl) rfl ?_; refine lw_on rfl rfl rfl (gd_tt (by decide)) ?_; refine lw_load_r tabOk rfl rfl rfl h61 rfl rfl ?_; refine lw_on rfl rfl rfl (gd_tt (by decide)) ?_; refine lw_pure (pur_eql rfl rfl) rfl ?_; refine lw_pure (pur_pick_yes rfl rfl (by decide)) rfl ?_; refine cM rfl rfl ?_; refine lw_on rfl rfl rfl (gd_tt (by decide)) ?_
  refine cM rfl rfl ?_; refine lw_on rfl rfl rfl (gd_tt (by decide)) ?_; refine lw_pure (pur_eql rfl rfl) rfl ?_; refine lw_pure (pur_pick_yes rfl rfl (by decide)) rfl ?_; refine cM rfl rfl ?_; refine lw_on rfl rfl rfl (gd_tt (by decide)) ?_; refine cM rfl rfl ?_; refine lw_on rfl rfl rfl (gd_tt (by decide)) ?_; refine lw_pure (pur_eql rfl rfl) rfl ?_; refine lw_pure (pur_pick_yes rfl rfl (by decide)) rfl ?_; refine cA rfl rfl (cT (cw_ret (qw_ret1 rfl rfl ?_))); rotate_left 1
 exact ⟨rfl, X⟩
end Bk
namespace Bk
open Go Go.RowKit Go.Proofs
attribute [local irreducible] Go.Calls
section
variable {P : Program} {n : Nat} {l : Sl} {S : World → Prop} {ty : TypeId} {tab : Tab} {t t' : Nat} {x : Operand} {sz : Nat}
theorem pur_rune {k : IntKind} {c : Int} (T : TabOk P tab) {sz' : Nat} (ht : lookT tab t = some (.int k, sz)) (ht' : lookT tab t' = some (.str, sz')) {k0 : IntKind} (hx : ev l x = some (.int k0 c)) (h0 : 0 ≤ c) (h1 : c < 128) : Pur P n l S (.convert t t' x) ty (str [UInt8.ofNat c.toNat]) := by
 unfold Pur
 intro b w dst pos after g ha _; have hu : P.underlying t = some (.int k) := (T _ _ _ ht).under; have hu' : P.underlying t' = some .string := (T _ _ _ ht').under
 have hv : Utf8.valid c = true := by
  unfold Utf8.valid
  simp only [Bool.or_eq_true, Bool.and_eq_true, decide_eq_true_eq]
  left; omega
 have he : Utf8.encode c = ⟨#[UInt8.ofNat c.toNat]⟩ := by
  unfold Utf8.encode
  simp only [hv, if_true]; rw [if_pos (by omega)]
 simp [execOp, ha.ev hx, convert, run_underlying hu, run_underlying hu', Result.andThen, Conv.intToString, he, str]
end
def dg (n : Nat) : UInt8 := UInt8.ofNat ((48 + (n : Int) % 10).toNat)
def dgT : Nat → Nat → List UInt8 → List UInt8
 | 0, _, acc => acc
 | k + 1, n, acc => if n / 10 = 0 then dg n :: acc else dgT k (n / 10) (dg n :: acc)
def decT (n : Nat) : List UInt8 := dgT 20 n []
set_option maxRecDepth 100000 in
set_option maxHeartbeats 2000000 in
theorem digits_c (n : Nat) (w : World) (hn : n < 18446744073709551616) : Calls Tryd.prog 20 #[.int .u64 (n : Int)] w fun e w' => e = .returned (str (decT n)) ∧ Ext w w' := by
 have X := Ext.refl w; refine calls_in Tryd.func20 Tryd.ntmps20 rfl rfl ?_
 focus
  refine cS (cA rfl rfl (cN (cA rfl rfl (cT (cw_block ?_))))); rotate_left 1
 refine cw_loop (ι := Nat × Nat × List UInt8) (fun x => [(0, .int .u64 (x.2.1 : Int)), (3, str x.2.2)])
  (fun x w' => dgT x.1 x.2.1 x.2.2 = decT n ∧ x.2.2.length + x.1 = 20 ∧ x.2.1 < 10 ^ x.1 ∧ 1 ≤ x.1 ∧ w = w' ∧ x.2.1 < 18446744073709551616) (fun x => x.1) (20, n, []) (by (refine sub_cons rfl ?_; refine sub_cons rfl ?_; exact sub_nil)) ⟨rfl, rfl, by simp only; omega, by simp only; omega, rfl, hn⟩ ?_
 rintro ⟨k, m, acc⟩ _ ⟨he, hl, hm, hk, rfl, hm2⟩; simp only at he hl hm hk hm2; refine CW.sub (m := [(0, .int .u64 (m : Int)), (3, str acc)]) ?_ (by (refine sub_cons rfl ?_; refine sub_cons rfl ?_; exact sub_nil)); obtain ⟨k, rfl⟩ : ∃ j, k = j + 1 := ⟨k - 1, by omega⟩; rw [dgT] at he
 by_cases hz : m / 10 = 0
 · rw [if_pos hz] at he
   have hz2 : (m : Int) / 10 = 0 := by omega
   focus
    refine cw_block (cS (cM rfl rfl ?_)); refine lw_pure (pur_rem rfl rfl (by omega) (rem_pos (by omega))) rfl ?_; refine lw_pure (pur_add rfl rfl (u64_wrap _ (by omega) (by omega))) rfl ?_; refine lw_pure (pur_conv tabOk rfl rfl rfl (i32_wrap _ (by omega) (by omega))) rfl ?_; refine lw_pure (pur_rune tabOk rfl rfl rfl (by omega) (by omega)) rfl ?_; refine cM rfl rfl ?_; refine lw_pure (pur_sadd rfl rfl (by simp only [List.length_cons, List.length_nil]; omega)) rfl ?_; refine cA rfl rfl (cN (cM rfl rfl ?_)); refine lw_pure (pur_quo rfl rfl (by omega) (quo_u64 (by omega) (by omega) (by omega))) rfl ?_; refine cA rfl rfl (cN (cM rfl rfl (lw_pure (pur_eql rfl rfl) rfl (cT ?_)))); refine cw_yes rfl (by assumption) ?_; refine cS (cM rfl rfl (cA rfl rfl (cT (cw_ret (qw_block_ret (qw_then_ret (qw_block_ret (qw_ret1 rfl rfl ?_)))))))); rotate_left 1
   exact ⟨by rw [← he]; rfl, X⟩
 · rw [if_neg hz] at he
   have hz2 : ¬ (m : Int) / 10 = 0 := by omega
   have hp : 10 ^ (k + 1) = 10 ^ k * 10 := Nat.pow_succ 10 k
   have hk1 : 1 ≤ k := by
    rcases k with _ | k
    · exfalso; simp at hm; omega
    · omega
   have hm3 : m / 10 < 10 ^ k := by rw [hp] at hm; omega
   clear hp hm
   focus
    refine cw_block (cS (cM rfl rfl ?_)); refine lw_pure (pur_rem rfl rfl (by omega) (rem_pos (by omega))) rfl ?_; refine lw_pure (pur_add rfl rfl (u64_wrap _ (by omega) (by omega))) rfl ?_; refine lw_pure (pur_conv tabOk rfl rfl rfl (i32_wrap _ (by omega) (by omega))) rfl ?_; refine lw_pure (pur_rune tabOk rfl rfl rfl (by omega) (by omega)) rfl ?_; refine cM rfl rfl ?_; refine lw_pure (pur_sadd rfl rfl (by simp only [List.length_cons, List.length_nil]; omega)) rfl ?_; refine cA rfl rfl (cN (cM rfl rfl ?_)); refine lw_pure (pur_quo rfl rfl (by omega) (quo_u64 (by omega) (by omega) (by omega))) rfl ?_; refine cA rfl rfl (cN (cM rfl rfl (lw_pure (pur_eql rfl rfl) rfl (cT ?_)))); refine cw_no rfl (by assumption) ?_; refine cw_skip (qw_block_norm ?_); rotate_left 1
   refine qw_round (k, m / 10, dg m :: acc) (by exact sub_cons' rfl (by simp) (sub_cons' rfl rfl sub_nil)) ⟨he, by simp only [List.length_cons]; omega, hm3, hk1, rfl, by simp only; omega⟩ (by simp only; omega)
theorem dgT_len : ∀ (k n : Nat) (acc : List UInt8), (dgT k n acc).length ≤ acc.length + k ∧ acc.length ≤ (dgT k n acc).length
 | 0, n, acc => by rw [dgT]; omega
 | k + 1, n, acc => by
  rw [dgT]
  split
  · simp only [List.length_cons]; omega
  · have := dgT_len k (n / 10) (dg n :: acc)
    simp only [List.length_cons] at this
    omega
def valOf (s : List UInt8) (a : Nat) : Nat := s.foldl (fun a c => a * 10 + (c.toNat - 48)) a
def zdT (z n : Nat) : List UInt8 := List.replicate z 48 ++ decT n
end Bk
namespace Bk
open Go
def limVars : Nat → List UInt8
 | 0 => []
 | i + 1 => limVars i ++ (([105, 110, 116, 32, 118] ++ decT i) ++ [32])
def limParams : Nat → List UInt8
 | 0 => [105, 110, 116, 32, 97]
 | i + 1 => limParams i ++ ([44, 32, 105, 110, 116, 32, 112] ++ decT i)
def limArgs : Nat → List UInt8
 | 0 => [97]
 | i + 1 => limArgs i ++ ([44, 32, 112] ++ decT i)
def limDeep : Nat → List UInt8
 | 0 => [120]
 | i + 1 => [45] ++ limDeep i
def limBody : List UInt8 := ((([123, 32, 99, 97, 108, 108, 32, 102, 40] ++ limArgs 7) ++ [41, 59, 32, 120, 32, 43, 61, 32]) ++ limDeep 77) ++ [59, 32, 125]
def limText : List UInt8 := ((((limVars 32 ++ [112, 114, 111, 99, 32, 102, 40]) ++ limParams 7) ++ [41, 32]) ++ limBody) ++ [32, 109, 97, 105, 110, 32, 123, 125]
theorem limText_eq : limText = ((((limVars 32 ++ [112, 114, 111, 99, 32, 102, 40]) ++ limParams 7) ++ [41, 32]) ++ (((([123, 32, 99, 97, 108, 108, 32, 102, 40] ++ limArgs 7) ++ [41, 59, 32, 120, 32, 43, 61, 32]) ++ limDeep 77) ++ [59, 32, 125])) ++ [32, 109, 97, 105, 110, 32, 123, 125] := by unfold limText limBody; rfl
def lim0 : List UInt8 := limVars 32 ++ [105, 110, 116, 32, 119, 32, 109, 97, 105, 110, 32, 123, 125]
def lim1 : List UInt8 := ([112, 114, 111, 99, 32, 102, 40] ++ limParams 7) ++ [44, 32, 105, 110, 116, 32, 119, 41, 32, 123, 125, 32, 109, 97, 105, 110, 32, 123, 125]
def lim2 : List UInt8 := ([109, 97, 105, 110, 32, 123, 32, 99, 97, 108, 108, 32, 102, 40] ++ limArgs 7) ++ [44, 32, 119, 41, 59, 32, 125]
def lim3 : List UInt8 := ([109, 97, 105, 110, 32, 123, 32, 120, 32, 43, 61, 32, 45] ++ limDeep 77) ++ [59, 32, 125]
theorem lim0_r : (parseProgram lim0).2 = (((limVars 32).length : Int), 5) := by kernel_rfl
theorem lim1_r : (parseProgram lim1).2 = (((([112, 114, 111, 99, 32, 102, 40] ++ limParams 7) ++ [44, 32]).length : Int), 5) := by kernel_rfl
theorem lim2_r : (parseProgram lim2).2 = (((([109, 97, 105, 110, 32, 123, 32, 99, 97, 108, 108, 32, 102, 40] ++ limArgs 7) ++ [44, 32]).length : Int), 5) := by kernel_rfl
theorem lim3_r : (parseProgram lim3).2 = (5, 19) := by kernel_rfl
def limSum (r : PG × Int × Int) : (Int × Int) × Nat × List (Nat × Nat) := (r.2, r.1.vars.length, r.1.procs.map (fun p => (p.params.length, p.body.kids.length)))
theorem limT_r : limSum (parseProgram limText) = ((0, 0), 32, [(8, 2)]) := by kernel_rfl
end Bk
namespace Bk
open Go Go.RowKit Go.Proofs
def LimR (w : World) : Ending → World → Prop := fun e w' => ∃ va vc pb po pc m0 m1 m2 m3 m4 m5 q0 pa2 pc2 b0 b1 b2 ba bc, e = .returned (.tuple #[.agg #[.slice va 32 vc, .slice (some ⟨pb, po, none⟩) 1 pc, .int .u8 m0, .int .i64 m1, str m2, .slice m3 m4 m5], .int .i64 0, .int .i64 0]) ∧
 Row w' ⟨pb, po + 0 * 6, none⟩ [q0, .slice pa2 8 pc2, b0, b1, b2, .slice ba 2 bc] ∧ Row w' ⟨pb, po + 0 * 6 + 2, none⟩ [b0, b1, b2, .slice ba 2 bc] ∧ w.heap.size ≤ pb ∧ Ext w w'
theorem LimR.ret {w : World} {e : Ending} {w' : World} (h : LimR w e w') : ∃ v, e = .returned v := by
 obtain ⟨_, _, _, _, _, _, _, _, _, _, _, _, _, _, _, _, _, _, _, h, -⟩ := h
 exact ⟨_, h⟩
theorem dec_len0 (n : Nat) : (decT n).length ≤ 20 := by have := (dgT_len 20 n []).1; simpa [decT] using this
attribute [local irreducible] limText limVars limParams limArgs limDeep
theorem lim_q {s : List UInt8} {off err : Int} (h : (parseProgram s).2 = (off, err)) (hl : s.length ≤ 100000) (w : World) (hS : Syms w) (hE : Errs w) : Calls Tryd.prog 12 #[str s] w (ParsePR w ((parseProgram s).1, off, err)) := by
 have := Program_p s w (by omega) hS hE; rw [show parseProgram s = ((parseProgram s).1, off, err) from Prod.ext rfl h] at this
 exact this
section
theorem limV_len (i : Nat) : (limVars i).length ≤ 50 * i := by
 induction i with
 | zero => unfold limVars; simp
 | succ i ih =>
  have := dec_len0 i
  unfold limVars
  simp only [List.length_append, List.length_cons, List.length_nil]; omega
theorem limP_len (i : Nat) : (limParams i).length ≤ 50 * i + 5 := by
 induction i with
 | zero => unfold limParams; simp
 | succ i ih =>
  have := dec_len0 i
  unfold limParams
  simp only [List.length_append, List.length_cons, List.length_nil]; omega
theorem limA_len (i : Nat) : (limArgs i).length ≤ 50 * i + 5 := by
 induction i with
 | zero => unfold limArgs; simp
 | succ i ih =>
  have := dec_len0 i
  unfold limArgs
  simp only [List.length_append, List.length_cons, List.length_nil]; omega
theorem limD_len (i : Nat) : (limDeep i).length ≤ i + 1 := by
 induction i with
 | zero => unfold limDeep; simp
 | succ i ih =>
  unfold limDeep
  simp only [List.length_append, List.length_cons, List.length_nil]; omega
end
theorem lim_p (w : World) (hS : Syms w) (hE : Errs w) : Calls Tryd.prog 12 #[str limText] w (LimR w) := by
 have hl : limText.length ≤ 100000 := by
  have := limV_len 32; have := limP_len 7; have := limA_len 7; have := limD_len 77; rw [limText_eq]
  simp only [List.length_append, List.length_cons, List.length_nil]; omega
 have := Program_p limText w (by omega) hS hE; have hr := limT_r
 generalize parseProgram limText = r at *
 obtain ⟨g, off, err⟩ := r; obtain ⟨vs, ps, mn⟩ := g; simp only [limSum, Prod.mk.injEq] at hr; obtain ⟨⟨rfl, rfl⟩, hv, hp⟩ := hr
 obtain ⟨p, rfl⟩ : ∃ p, ps = [p] := by
  rcases ps with _ | ⟨p, _ | ⟨q, r⟩⟩
  · simp at hp
  · exact ⟨p, rfl⟩
  · simp at hp
 simp only [List.map_cons, List.map_nil, List.cons.injEq, Prod.mk.injEq, and_true] at hp; refine this.mono ?_; rintro e w' ⟨va, vc, pa, pc, ma, mc, rfl, hs, x⟩; obtain ⟨b, o, rfl, hb, hk⟩ := hs.procs.get (by simp); obtain ⟨pa2, pc2, ba, bc, hrow, -, -⟩ := hk 0 p rfl; refine ⟨va, vc, b, o, pc, mn.kind, mn.num, mn.name, ma, mn.kids.length, mc, str p.name, pa2, pc2, .int .u8 p.body.kind, .int .i64 p.body.num, str p.body.name, ba, bc, ?_, ?_, ?_, hb, x⟩
 · simp only [PG.cells, hv]; rfl
 · have h2 := hrow
   unfold PD.cells at h2
   rw [hp.1, hp.2] at h2
   exact h2
 · have h2 := hrow.sub 2 4
   unfold PD.cells at h2
   rw [hp.1, hp.2] at h2
   exact h2
theorem l0_p (w : World) (hS : Syms w) (hE : Errs w) : Calls Tryd.prog 12 #[str (limVars 32 ++ [105, 110, 116, 32, 119, 32, 109, 97, 105, 110, 32, 123, 125])] w (ParsePR w ((parseProgram lim0).1, ((limVars 32).length : Int), 5)) := by
 have h1 := limV_len 32
 exact lim_q (s := lim0) lim0_r (by unfold lim0; simp only [List.length_append, List.length_cons, List.length_nil]; omega) w hS hE
theorem l1_p (w : World) (hS : Syms w) (hE : Errs w) : Calls Tryd.prog 12 #[str (([112, 114, 111, 99, 32, 102, 40] ++ limParams 7) ++ [44, 32, 105, 110, 116, 32, 119, 41, 32, 123, 125, 32, 109, 97, 105, 110, 32, 123, 125])] w (ParsePR w ((parseProgram lim1).1, ((([112, 114, 111, 99, 32, 102, 40] ++ limParams 7) ++ [44, 32]).length : Int), 5)) := by
 have h1 := limP_len 7
 exact lim_q (s := lim1) lim1_r (by unfold lim1; simp only [List.length_append, List.length_cons, List.length_nil]; omega) w hS hE
theorem l2_p (w : World) (hS : Syms w) (hE : Errs w) : Calls Tryd.prog 12 #[str (([109, 97, 105, 110, 32, 123, 32, 99, 97, 108, 108, 32, 102, 40] ++ limArgs 7) ++ [44, 32, 119, 41, 59, 32, 125])] w (ParsePR w ((parseProgram lim2).1, ((([109, 97, 105, 110, 32, 123, 32, 99, 97, 108, 108, 32, 102, 40] ++ limArgs 7) ++ [44, 32]).length : Int), 5)) := by
 have h1 := limA_len 7
 exact lim_q (s := lim2) lim2_r (by unfold lim2; simp only [List.length_append, List.length_cons, List.length_nil]; omega) w hS hE
theorem l3_p (w : World) (hS : Syms w) (hE : Errs w) : Calls Tryd.prog 12 #[str (([109, 97, 105, 110, 32, 123, 32, 120, 32, 43, 61, 32, 45] ++ limDeep 77) ++ [59, 32, 125])] w (ParsePR w ((parseProgram lim3).1, 5, 19)) := by
 have h1 := limD_len 77
 exact lim_q (s := lim3) lim3_r (by unfold lim3; simp only [List.length_append, List.length_cons, List.length_nil]; omega) w hS hE
theorem limV_next (i : Nat) : limVars (i + 1) = limVars i ++ (([105, 110, 116, 32, 118] ++ decT i) ++ [32]) := by conv => lhs; unfold limVars
theorem limP_next (i : Nat) : limParams (i + 1) = limParams i ++ ([44, 32, 105, 110, 116, 32, 112] ++ decT i) := by conv => lhs; unfold limParams
theorem limA_next (i : Nat) : limArgs (i + 1) = limArgs i ++ ([44, 32, 112] ++ decT i) := by conv => lhs; unfold limArgs
theorem limD_next (i : Nat) : limDeep (i + 1) = [45] ++ limDeep i := by conv => lhs; unfold limDeep
set_option maxRecDepth 100000 in
set_option maxHeartbeats 4000000 in
theorem ParserLimits_c (k : Int) (w : World) (hk0 : 0 ≤ k) (hk1 : k ≤ 255) (hS : Syms w) (hE : Errs w) : Calls Tryd.prog 9 #[.int .u8 k] w fun e w' => e = .returned (.bool true) ∧ Ext w w' := by
 have X := Ext.refl w; have H1 := Lib.hid lim_p; rw [limText_eq] at H1; have H20 := Lib.hid l0_p; have H21 := Lib.hid l1_p; have H22 := Lib.hid l2_p; have H23 := Lib.hid l3_p
 generalize (parseProgram lim0).1 = g0 at *
 generalize (parseProgram lim1).1 = g1 at *
 generalize (parseProgram lim2).1 = g2 at *
 generalize (parseProgram lim3).1 = g3 at *
 refine calls_in Tryd.func9 Tryd.ntmps9 rfl rfl ?_
 focus
  refine cS (cA rfl rfl (cT (cw_seq (cS ?_)))); refine cC (by kernel_rfl) rfl (awake4_c _ (by assumption) (by assumption)) rfl ?_; rintro _ w2 ⟨⟨⟩, x1⟩; have z3 := x1.size; replace hS := hS.ext x1; replace hE := hE.ext x1; replace X := X.ext x1; clear x1; refine lw_pure (pur_not rfl) rfl (cT (cw_cond_f rfl (cw_skip (qw_then (cS (cA rfl rfl (cA rfl rfl (cA rfl rfl (cT (cw_seq (cS ?_))))))))))); refine cM rfl rfl (cT (cw_block ?_)); rotate_left 1
 have e0 : limVars 0 = [] := by unfold limVars; rfl
 refine cw_loop (ι := Nat) (fun i => [(0, .int .u8 k), (3, str (limVars i)), (4, str [105, 110, 116, 32, 97]), (5, str [97]), (22, .int .i64 i)])
  (fun i w' => i ≤ 32 ∧ Syms w' ∧ Errs w' ∧ Ext w w') (fun i => 32 - i) 0 (by refine sub_cons rfl (sub_cons' rfl (by rw [e0]) ?_); (refine sub_cons rfl ?_; refine sub_cons rfl ?_; refine sub_cons rfl ?_; exact sub_nil)) ⟨Nat.zero_le _, hS, hE, X⟩ ?_
 clear hS hE X e0; rintro i w1 ⟨hi, hS, hE, X⟩; have hlv := limV_len i
 by_cases hlt : i < 32
 · have hd := dec_len0 i
   have hnx := limV_next i
   generalize hV1 : limVars (i + 1) = V1 at *
   generalize limVars i = V at *
   focus
    refine cS (lw_pure (pur_lss rfl rfl) rfl (cT (cw_seq ?_))); refine cw_yes rfl (by omega) ?_; refine cw_skip (qw_then (cw_seq (cw_block (cS (cM rfl rfl (cA rfl rfl (cT (cw_region (cM rfl rfl (cM rfl rfl ?_)))))))))); refine lw_pure (pur_conv tabOk rfl rfl rfl (u64_wrap _ (by omega) (by omega))) rfl ?_; refine cC (by kernel_rfl) rfl (digits_c i _ (by omega)) rfl ?_; rintro _ wa2 ⟨⟨⟩, xa1⟩; have za3 := xa1.size; replace hS := hS.ext xa1; replace hE := hE.ext xa1; replace X := X.ext xa1; clear xa1; refine lw_pure (pur_sadd rfl rfl (by simp only [List.length_cons, List.length_nil]; omega)) rfl ?_; refine lw_pure (pur_sadd rfl rfl (by simp only [List.length_append, List.length_cons, List.length_nil]; omega)) rfl ?_; refine lw_pure (pur_sadd rfl rfl (by simp only [List.length_append, List.length_cons, List.length_nil]; omega)) rfl ?_; refine cA rfl rfl (lw_nil (qw_block_norm (qw_then (cw_region ?_)))); refine lw_pure (pur_add rfl rfl (IntWalk.i64_in _ (by omega))) rfl ?_; refine cM rfl rfl (lw_nil ?_); rotate_left 1
   refine qw_round (i + 1) (by refine sub_cons rfl (sub_cons' rfl (by rw [hV1, hnx]) ?_); (refine sub_cons rfl ?_; refine sub_cons rfl ?_; refine sub_cons rfl ?_; exact sub_nil)) ⟨by omega, hS, hE, X⟩ (by omega)
 obtain rfl : i = 32 := by omega
 clear hlt hi
 generalize limVars 32 = V at *
 focus
  refine cS (lw_pure (pur_lss rfl rfl) rfl (cT (cw_seq ?_))); refine cw_no rfl (by decide) ?_; refine cw_exit (qw_then_exit (qw_then_exit (qw_block_exit (qw_then (cw_seq (cS (cM rfl rfl (cT (cw_block ?_))))))))); rotate_left 1
 have e0 : limParams 0 = [105, 110, 116, 32, 97] := by unfold limParams; rfl
 have e1 : limArgs 0 = [97] := by unfold limArgs; rfl
 refine cw_loop (ι := Nat) (fun i => [(0, .int .u8 k), (3, str V), (4, str (limParams i)), (5, str (limArgs i)), (33, .int .i64 i)])
  (fun i w' => i ≤ 7 ∧ Syms w' ∧ Errs w' ∧ Ext w w') (fun i => 7 - i) 0 (by refine sub_cons rfl (sub_cons rfl (sub_cons' rfl (by rw [e0]) (sub_cons' rfl (by rw [e1]) ?_))); (refine sub_cons rfl ?_; exact sub_nil)) ⟨Nat.zero_le _, hS, hE, X⟩ ?_
 clear hS hE X e0 e1; rintro i w2 ⟨hi, hS, hE, X⟩; have hlp := limP_len i; have hla := limA_len i
 by_cases hlt : i < 7
 · have hd := dec_len0 i
   have hnx := limP_next i; have hny := limA_next i
   generalize hV1 : limParams (i + 1) = P1 at *
   generalize limParams i = P0 at *
   generalize hV2 : limArgs (i + 1) = A1 at *
   generalize limArgs i = A0 at *
   focus
    refine cS (lw_pure (pur_lss rfl rfl) rfl (cT (cw_seq ?_))); refine cw_yes rfl (by omega) ?_; refine cw_skip (qw_then (cw_seq (cw_block (cS (cM rfl rfl (cA rfl rfl (cN (cM rfl rfl (cM rfl rfl ?_))))))))); refine lw_pure (pur_conv tabOk rfl rfl rfl (u64_wrap _ (by omega) (by omega))) rfl ?_; refine cC (by kernel_rfl) rfl (digits_c i _ (by omega)) rfl ?_; rintro _ wc2 ⟨⟨⟩, xc1⟩; have zc3 := xc1.size; replace hS := hS.ext xc1; replace hE := hE.ext xc1; replace X := X.ext xc1; clear xc1; refine lw_pure (pur_sadd rfl rfl (by simp only [List.length_cons, List.length_nil]; omega)) rfl ?_; refine lw_pure (pur_sadd rfl rfl (by simp only [List.length_append, List.length_cons, List.length_nil]; omega)) rfl ?_; refine cA rfl rfl (cT (cw_region (cM rfl rfl (cM rfl rfl ?_)))); refine lw_pure (pur_conv tabOk rfl rfl rfl (u64_wrap _ (by omega) (by omega))) rfl ?_; refine cC (by kernel_rfl) rfl (digits_c i _ (by omega)) rfl ?_; rintro _ wc5 ⟨⟨⟩, xc4⟩; have zc6 := xc4.size; replace hS := hS.ext xc4; replace hE := hE.ext xc4; replace X := X.ext xc4; clear xc4; refine lw_pure (pur_sadd rfl rfl (by simp only [List.length_cons, List.length_nil]; omega)) rfl ?_; refine lw_pure (pur_sadd rfl rfl (by simp only [List.length_append, List.length_cons, List.length_nil]; omega)) rfl ?_; refine cA rfl rfl (lw_nil (qw_block_norm (qw_then (cw_region ?_)))); refine lw_pure (pur_add rfl rfl (IntWalk.i64_in _ (by omega))) rfl ?_; refine cM rfl rfl (lw_nil ?_); rotate_left 1
   refine qw_round (i + 1) (by refine sub_cons rfl (sub_cons rfl (sub_cons' rfl (by rw [hV1, hnx]) (sub_cons' rfl (by rw [hV2, hny]) ?_))); (refine sub_cons rfl ?_; exact sub_nil)) ⟨by omega, hS, hE, X⟩ (by omega)
 obtain rfl : i = 7 := by omega
 clear hlt hi
 generalize limParams 7 = Pm at *
 generalize limArgs 7 = Ar at *
 focus
  refine cS (lw_pure (pur_lss rfl rfl) rfl (cT (cw_seq ?_))); refine cw_no rfl (by decide) ?_; refine cw_exit (qw_then_exit (qw_then_exit (qw_block_exit (qw_then (cS (cA rfl rfl (cT (cw_seq (cS (cM rfl rfl (cT ?_))))))))))); refine cw_block ?_; rotate_left 1
 have e0 : limDeep 0 = [120] := by unfold limDeep; rfl
 refine cw_loop (ι := Nat) (fun i => [(0, .int .u8 k), (3, str V), (4, str Pm), (5, str Ar), (8, str (limDeep i)), (49, .int .i64 i)])
  (fun i w' => i ≤ 77 ∧ w2 = w') (fun i => 77 - i) 0 (by refine sub_cons rfl (sub_cons rfl (sub_cons rfl (sub_cons rfl (sub_cons' rfl (by rw [e0]) ?_)))); (refine sub_cons rfl ?_; exact sub_nil)) ⟨Nat.zero_le _, rfl⟩ ?_
 clear e0; rintro i _ ⟨hi, rfl⟩; have hld := limD_len i
 by_cases hlt : i < 77
 · have hnx := limD_next i
   generalize hV1 : limDeep (i + 1) = D1 at *
   generalize limDeep i = D0 at *
   focus
    refine cS (lw_pure (pur_lss rfl rfl) rfl (cT (cw_seq ?_))); refine cw_yes rfl (by omega) ?_; refine cw_skip (qw_then (cw_seq (cw_block (cw_region (cM rfl rfl ?_))))); refine lw_pure (pur_sadd rfl rfl (by simp only [List.length_cons, List.length_nil]; omega)) rfl ?_; refine cA rfl rfl (lw_nil (qw_block_norm (qw_then (cw_region ?_)))); refine lw_pure (pur_add rfl rfl (IntWalk.i64_in _ (by omega))) rfl ?_; refine cM rfl rfl (lw_nil ?_); rotate_left 1
   refine qw_round (i + 1) (by refine sub_cons rfl (sub_cons rfl (sub_cons rfl (sub_cons rfl (sub_cons' rfl (by rw [hV1, hnx]) ?_)))); (refine sub_cons rfl ?_; exact sub_nil)) ⟨by omega, rfl⟩ (by omega)
 obtain rfl : i = 77 := by omega
 clear hlt hi
 generalize limDeep 77 = Dp at *
 have h4 : k % 4 = 0 ∨ k % 4 = 1 ∨ k % 4 = 2 ∨ k % 4 = 3 := by omega
 rcases h4 with hk4 | hk4 | hk4 | hk4
 · clear H21 H22 H23
   focus
    refine cS (lw_pure (pur_lss rfl rfl) rfl (cT (cw_seq ?_))); refine cw_no rfl (by decide) ?_; refine cw_exit (qw_then_exit (qw_then_exit (qw_block_exit (qw_then (cS (cM rfl rfl ?_)))))); refine lw_pure (pur_sadd rfl rfl (by simp only [List.length_cons, List.length_nil]; omega)) rfl ?_; refine lw_pure (pur_sadd rfl rfl (by simp only [List.length_append, List.length_cons, List.length_nil]; omega)) rfl ?_; refine cM rfl rfl ?_; refine lw_pure (pur_sadd rfl rfl (by simp only [List.length_append, List.length_cons, List.length_nil]; omega)) rfl ?_; refine lw_pure (pur_sadd rfl rfl (by simp only [List.length_append, List.length_cons, List.length_nil]; omega)) rfl ?_; refine cA rfl rfl (cN (cM rfl rfl ?_)); refine lw_pure (pur_sadd rfl rfl (by simp only [List.length_cons, List.length_nil]; omega)) rfl ?_; refine cM rfl rfl ?_; refine lw_pure (pur_sadd rfl rfl (by simp only [List.length_append, List.length_cons, List.length_nil]; omega)) rfl ?_; refine lw_pure (pur_sadd rfl rfl (by simp only [List.length_append, List.length_cons, List.length_nil]; omega)) rfl ?_; refine cM rfl rfl ?_; refine lw_pure (pur_sadd rfl rfl (by simp only [List.length_append, List.length_cons, List.length_nil]; omega)) rfl ?_; refine lw_pure (pur_sadd rfl rfl (by simp only [List.length_append, List.length_cons, List.length_nil]; omega)) rfl ?_; refine cA rfl rfl (cN (cM rfl rfl ?_)); refine cR (by kernel_rfl) rfl (H1.out _ (by assumption) (by assumption)) (fun _ _ h => h.ret) rfl ?_; rintro _ wf24 ⟨vaf1, ⟨vcf2, ⟨pbf3, ⟨pof4, ⟨pcf5, ⟨m0f6, ⟨m1f7, ⟨m2f8, ⟨m3f9, ⟨m4f10, ⟨m5f11, ⟨q0f12, ⟨pa2f13, ⟨pc2f14, ⟨b0f15, ⟨b1f16, ⟨b2f17, ⟨baf18, ⟨bcf19, ⟨⟨⟩, ⟨hf20, ⟨hf21, ⟨hf22, xf23⟩⟩⟩⟩⟩⟩⟩⟩⟩⟩⟩⟩⟩⟩⟩⟩⟩⟩⟩⟩⟩⟩⟩
    have zf25 := xf23.size; replace hS := hS.ext xf23; replace hE := hE.ext xf23; replace X := X.ext xf23; clear xf23; refine cM rfl rfl (lw_pure (pur_extract rfl rfl) rfl (lw_pure (pur_extract rfl rfl) rfl (lw_pure (pur_extract rfl rfl) rfl ?_))); (refine lw_alloc' [_, _, _, _, _, _] zOk rfl rfl ?_; intro bf26 wf27 nf28); (refine lw_init' [_, _, _, _, _, _] tabOk rfl rfl rfl rfl rfl rfl nf28 rfl ?_; clear nf28; clear wf27; intro wf29 nf28); have hf30 := nf28.blk; have xf31 := nf28.ext; have pf32 := nf28.pos; have zf33 := nf28.size; clear nf28; replace hf20 := hf20.ext xf31; replace hf21 := hf21.ext xf31; replace hS := hS.ext xf31; replace hE := hE.ext xf31; replace X := X.ext xf31; clear xf31; refine cA rfl rfl (cA rfl rfl (cT (cw_seq (cS (cM rfl rfl (lw_pure (pur_neq rfl rfl) rfl (cM rfl rfl ?_))))))); refine lw_on rfl rfl rfl (gd_ff (by decide)) ?_; refine lw_pure (pur_fieldAddr0 tabOk rfl rfl rfl) rfl ?_; refine lw_on rfl rfl rfl (gd_ff (by decide)) ?_; refine lw_load_b tabOk rfl rfl rfl hf30 rfl rfl ?_; refine lw_on rfl rfl rfl (gd_ff (by decide)) ?_; refine lw_pure (pur_len_slice tabOk rfl rfl) rfl ?_; refine lw_on rfl rfl rfl (gd_ff (by decide)) ?_; refine lw_pure (pur_neq rfl rfl) rfl ?_; refine lw_pure (pur_pick_no rfl rfl (by decide)) rfl ?_; refine cM rfl rfl ?_; refine lw_on rfl rfl rfl (gd_ff (by decide)) ?_; refine lw_pure (pur_fieldAddr tabOk rfl rfl rfl) rfl ?_; refine lw_on rfl rfl rfl (gd_ff (by decide)) ?_; refine lw_load_b tabOk rfl rfl rfl hf30 rfl rfl ?_
    refine lw_on rfl rfl rfl (gd_ff (by decide)) ?_; refine lw_pure (pur_len_slice tabOk rfl rfl) rfl ?_; refine lw_on rfl rfl rfl (gd_ff (by decide)) ?_; refine lw_pure (pur_neq rfl rfl) rfl ?_; refine lw_pure (pur_pick_no rfl rfl (by decide)) rfl ?_; refine cM rfl rfl ?_; refine lw_on rfl rfl rfl (gd_ff (by decide)) ?_; refine lw_pure (pur_fieldAddr tabOk rfl rfl rfl) rfl ?_; refine lw_on rfl rfl rfl (gd_ff (by decide)) ?_; refine lw_load_b tabOk rfl rfl rfl hf30 rfl rfl ?_; refine lw_on rfl rfl rfl (gd_ff (by decide)) ?_; refine lw_pure (pur_indexAddr tabOk rfl rfl rfl rfl (by omega) (by omega)) rfl ?_; refine lw_on rfl rfl rfl (gd_ff (by decide)) ?_; refine lw_pure (pur_fieldAddr tabOk rfl rfl rfl) rfl ?_; refine lw_on rfl rfl rfl (gd_ff (by decide)) ?_; refine lw_load_r tabOk rfl rfl rfl hf20 rfl rfl ?_; refine lw_on rfl rfl rfl (gd_ff (by decide)) ?_; refine lw_pure (pur_len_slice tabOk rfl rfl) rfl ?_; refine lw_on rfl rfl rfl (gd_ff (by decide)) ?_; refine lw_pure (pur_neq rfl rfl) rfl ?_; refine lw_pure (pur_pick_no rfl rfl (by decide)) rfl ?_; refine cM rfl rfl ?_; refine lw_on rfl rfl rfl (gd_ff (by decide)) ?_; refine lw_pure (pur_fieldAddr tabOk rfl rfl rfl) rfl ?_; refine lw_on rfl rfl rfl (gd_ff (by decide)) ?_; refine lw_load_b tabOk rfl rfl rfl hf30 rfl rfl ?_; refine lw_on rfl rfl rfl (gd_ff (by decide)) ?_; refine lw_pure (pur_indexAddr tabOk rfl rfl rfl rfl (by omega) (by omega)) rfl ?_; refine lw_on rfl rfl rfl (gd_ff (by decide)) ?_; refine lw_pure (pur_fieldAddr tabOk rfl rfl rfl) rfl ?_
    refine lw_on rfl rfl rfl (gd_ff (by decide)) ?_; refine lw_pure (pur_fieldAddr tabOk rfl rfl rfl) rfl ?_; refine lw_on rfl rfl rfl (gd_ff (by decide)) ?_; refine lw_load_r tabOk rfl rfl rfl hf21 rfl rfl ?_; refine lw_on rfl rfl rfl (gd_ff (by decide)) ?_; refine lw_pure (pur_len_slice tabOk rfl rfl) rfl ?_; refine lw_on rfl rfl rfl (gd_ff (by decide)) ?_; refine lw_pure (pur_neq rfl rfl) rfl ?_; refine lw_pure (pur_pick_no rfl rfl (by decide)) rfl ?_; refine cT ?_; refine cw_no rfl (by decide) ?_; refine cw_skip (qw_then (cS (cA rfl rfl (cA rfl rfl (cA rfl rfl (cT (cw_seq (cS (cM rfl rfl ?_))))))))); refine lw_pure (pur_rem rfl rfl (by omega) (rem_known (by assumption) (by omega))) rfl ?_; refine cT (cw_block (cS (lw_pure (pur_eql rfl rfl) rfl (cA rfl rfl (cT ?_))))); refine cw_yes rfl (by decide) ?_; refine cw_region (cM rfl rfl ?_); refine lw_pure (pur_sadd rfl rfl (by simp only [List.length_cons, List.length_nil]; omega)) rfl ?_; refine cM rfl rfl (lw_pure (pur_len_s tabOk rfl rfl) rfl (cA rfl rfl (cA rfl rfl (lw_nil (qw_block_norm (qw_then (cS (cM rfl rfl ?_)))))))); refine cR (by kernel_rfl) rfl (H20.out _ (by assumption) (by assumption)) (fun _ _ h => h.ret) rfl ?_; rintro _ wf42 ⟨vaf34, ⟨vcf35, ⟨paf36, ⟨pcf37, ⟨maf38, ⟨mcf39, ⟨⟨⟩, ⟨hf40, xf41⟩⟩⟩⟩⟩⟩⟩⟩; have zf43 := xf41.size; replace hf30 := hf30.ext xf41; replace hf20 := hf20.ext xf41; replace hf21 := hf21.ext xf41; replace hS := hS.ext xf41; replace hE := hE.ext xf41; replace X := X.ext xf41; clear xf41; refine cM rfl rfl (lw_pure (pur_extract rfl rfl) rfl (lw_pure (pur_extract rfl rfl) rfl (lw_pure (pur_extract rfl rfl) rfl ?_)))
    (refine lw_alloc' [_, _, _, _, _, _] zOk rfl rfl ?_; intro bf44 wf45 nf46); (refine lw_init' [_, _, _, _, _, _] tabOk rfl rfl rfl rfl rfl rfl nf46 rfl ?_; clear nf46; clear wf45; intro wf47 nf46); have hf48 := nf46.blk; dsimp only at hf48; have xf49 := nf46.ext; have pf50 := nf46.pos; have zf51 := nf46.size; clear nf46; replace hf40 := PG.sits.ext hf40 xf49; replace hf30 := hf30.ext xf49; replace hf20 := hf20.ext xf49; replace hf21 := hf21.ext xf49; replace hS := hS.ext xf49; replace hE := hE.ext xf49; replace X := X.ext xf49; clear xf49; refine cA rfl rfl (cA rfl rfl (cN (cM rfl rfl (cM rfl rfl (lw_pure (pur_eql rfl rfl) rfl (cM rfl rfl (lw_on rfl rfl rfl (gd_tt (rfl)) (cM rfl rfl (lw_on rfl rfl rfl (gd_tt (rfl)) (cM rfl rfl (lw_on rfl rfl rfl (gd_tt (rfl)) ?_))))))))))); refine lw_pure (pur_eql rfl rfl) rfl (lw_pure (pur_pick_yes rfl rfl (rfl)) rfl (cA rfl rfl (cT (cw_ret (qw_ret1 rfl rfl ?_))))); rotate_left 1
   exact ⟨by simp, X⟩
 · clear H20 H22 H23
   focus
    refine cS (lw_pure (pur_lss rfl rfl) rfl (cT (cw_seq ?_))); refine cw_no rfl (by decide) ?_; refine cw_exit (qw_then_exit (qw_then_exit (qw_block_exit (qw_then (cS (cM rfl rfl ?_)))))); refine lw_pure (pur_sadd rfl rfl (by simp only [List.length_cons, List.length_nil]; omega)) rfl ?_; refine lw_pure (pur_sadd rfl rfl (by simp only [List.length_append, List.length_cons, List.length_nil]; omega)) rfl ?_; refine cM rfl rfl ?_; refine lw_pure (pur_sadd rfl rfl (by simp only [List.length_append, List.length_cons, List.length_nil]; omega)) rfl ?_; refine lw_pure (pur_sadd rfl rfl (by simp only [List.length_append, List.length_cons, List.length_nil]; omega)) rfl ?_; refine cA rfl rfl (cN (cM rfl rfl ?_)); refine lw_pure (pur_sadd rfl rfl (by simp only [List.length_cons, List.length_nil]; omega)) rfl ?_; refine cM rfl rfl ?_; refine lw_pure (pur_sadd rfl rfl (by simp only [List.length_append, List.length_cons, List.length_nil]; omega)) rfl ?_; refine lw_pure (pur_sadd rfl rfl (by simp only [List.length_append, List.length_cons, List.length_nil]; omega)) rfl ?_; refine cM rfl rfl ?_; refine lw_pure (pur_sadd rfl rfl (by simp only [List.length_append, List.length_cons, List.length_nil]; omega)) rfl ?_; refine lw_pure (pur_sadd rfl rfl (by simp only [List.length_append, List.length_cons, List.length_nil]; omega)) rfl ?_; refine cA rfl rfl (cN (cM rfl rfl ?_)); refine cR (by kernel_rfl) rfl (H1.out _ (by assumption) (by assumption)) (fun _ _ h => h.ret) rfl ?_; rintro _ wg24 ⟨vag1, ⟨vcg2, ⟨pbg3, ⟨pog4, ⟨pcg5, ⟨m0g6, ⟨m1g7, ⟨m2g8, ⟨m3g9, ⟨m4g10, ⟨m5g11, ⟨q0g12, ⟨pa2g13, ⟨pc2g14, ⟨b0g15, ⟨b1g16, ⟨b2g17, ⟨bag18, ⟨bcg19, ⟨⟨⟩, ⟨hg20, ⟨hg21, ⟨hg22, xg23⟩⟩⟩⟩⟩⟩⟩⟩⟩⟩⟩⟩⟩⟩⟩⟩⟩⟩⟩⟩⟩⟩⟩
    have zg25 := xg23.size; replace hS := hS.ext xg23; replace hE := hE.ext xg23; replace X := X.ext xg23; clear xg23; refine cM rfl rfl (lw_pure (pur_extract rfl rfl) rfl (lw_pure (pur_extract rfl rfl) rfl (lw_pure (pur_extract rfl rfl) rfl ?_))); (refine lw_alloc' [_, _, _, _, _, _] zOk rfl rfl ?_; intro bg26 wg27 ng28); (refine lw_init' [_, _, _, _, _, _] tabOk rfl rfl rfl rfl rfl rfl ng28 rfl ?_; clear ng28; clear wg27; intro wg29 ng28); have hg30 := ng28.blk; have xg31 := ng28.ext; have pg32 := ng28.pos; have zg33 := ng28.size; clear ng28; replace hg20 := hg20.ext xg31; replace hg21 := hg21.ext xg31; replace hS := hS.ext xg31; replace hE := hE.ext xg31; replace X := X.ext xg31; clear xg31; refine cA rfl rfl (cA rfl rfl (cT (cw_seq (cS (cM rfl rfl (lw_pure (pur_neq rfl rfl) rfl (cM rfl rfl ?_))))))); refine lw_on rfl rfl rfl (gd_ff (by decide)) ?_; refine lw_pure (pur_fieldAddr0 tabOk rfl rfl rfl) rfl ?_; refine lw_on rfl rfl rfl (gd_ff (by decide)) ?_; refine lw_load_b tabOk rfl rfl rfl hg30 rfl rfl ?_; refine lw_on rfl rfl rfl (gd_ff (by decide)) ?_; refine lw_pure (pur_len_slice tabOk rfl rfl) rfl ?_; refine lw_on rfl rfl rfl (gd_ff (by decide)) ?_; refine lw_pure (pur_neq rfl rfl) rfl ?_; refine lw_pure (pur_pick_no rfl rfl (by decide)) rfl ?_; refine cM rfl rfl ?_; refine lw_on rfl rfl rfl (gd_ff (by decide)) ?_; refine lw_pure (pur_fieldAddr tabOk rfl rfl rfl) rfl ?_; refine lw_on rfl rfl rfl (gd_ff (by decide)) ?_; refine lw_load_b tabOk rfl rfl rfl hg30 rfl rfl ?_
    refine lw_on rfl rfl rfl (gd_ff (by decide)) ?_; refine lw_pure (pur_len_slice tabOk rfl rfl) rfl ?_; refine lw_on rfl rfl rfl (gd_ff (by decide)) ?_; refine lw_pure (pur_neq rfl rfl) rfl ?_; refine lw_pure (pur_pick_no rfl rfl (by decide)) rfl ?_; refine cM rfl rfl ?_; refine lw_on rfl rfl rfl (gd_ff (by decide)) ?_; refine lw_pure (pur_fieldAddr tabOk rfl rfl rfl) rfl ?_; refine lw_on rfl rfl rfl (gd_ff (by decide)) ?_; refine lw_load_b tabOk rfl rfl rfl hg30 rfl rfl ?_; refine lw_on rfl rfl rfl (gd_ff (by decide)) ?_; refine lw_pure (pur_indexAddr tabOk rfl rfl rfl rfl (by omega) (by omega)) rfl ?_; refine lw_on rfl rfl rfl (gd_ff (by decide)) ?_; refine lw_pure (pur_fieldAddr tabOk rfl rfl rfl) rfl ?_; refine lw_on rfl rfl rfl (gd_ff (by decide)) ?_; refine lw_load_r tabOk rfl rfl rfl hg20 rfl rfl ?_; refine lw_on rfl rfl rfl (gd_ff (by decide)) ?_; refine lw_pure (pur_len_slice tabOk rfl rfl) rfl ?_; refine lw_on rfl rfl rfl (gd_ff (by decide)) ?_; refine lw_pure (pur_neq rfl rfl) rfl ?_; refine lw_pure (pur_pick_no rfl rfl (by decide)) rfl ?_; refine cM rfl rfl ?_; refine lw_on rfl rfl rfl (gd_ff (by decide)) ?_; refine lw_pure (pur_fieldAddr tabOk rfl rfl rfl) rfl ?_; refine lw_on rfl rfl rfl (gd_ff (by decide)) ?_; refine lw_load_b tabOk rfl rfl rfl hg30 rfl rfl ?_; refine lw_on rfl rfl rfl (gd_ff (by decide)) ?_; refine lw_pure (pur_indexAddr tabOk rfl rfl rfl rfl (by omega) (by omega)) rfl ?_; refine lw_on rfl rfl rfl (gd_ff (by decide)) ?_; refine lw_pure (pur_fieldAddr tabOk rfl rfl rfl) rfl ?_
    refine lw_on rfl rfl rfl (gd_ff (by decide)) ?_; refine lw_pure (pur_fieldAddr tabOk rfl rfl rfl) rfl ?_; refine lw_on rfl rfl rfl (gd_ff (by decide)) ?_; refine lw_load_r tabOk rfl rfl rfl hg21 rfl rfl ?_; refine lw_on rfl rfl rfl (gd_ff (by decide)) ?_; refine lw_pure (pur_len_slice tabOk rfl rfl) rfl ?_; refine lw_on rfl rfl rfl (gd_ff (by decide)) ?_; refine lw_pure (pur_neq rfl rfl) rfl ?_; refine lw_pure (pur_pick_no rfl rfl (by decide)) rfl ?_; refine cT ?_; refine cw_no rfl (by decide) ?_; refine cw_skip (qw_then (cS (cA rfl rfl (cA rfl rfl (cA rfl rfl (cT (cw_seq (cS (cM rfl rfl ?_))))))))); refine lw_pure (pur_rem rfl rfl (by omega) (rem_known (by assumption) (by omega))) rfl ?_; refine cT (cw_block (cS (lw_pure (pur_eql rfl rfl) rfl (cA rfl rfl (cT ?_))))); refine cw_no rfl (by decide) ?_; refine cS (lw_pure (pur_eql rfl rfl) rfl (cA rfl rfl (cT ?_))); refine cw_yes rfl (by decide) ?_; refine cw_region (cM rfl rfl ?_); refine lw_pure (pur_sadd rfl rfl (by simp only [List.length_cons, List.length_nil]; omega)) rfl ?_; refine lw_pure (pur_sadd rfl rfl (by simp only [List.length_append, List.length_cons, List.length_nil]; omega)) rfl ?_; refine cM rfl rfl ?_; refine lw_pure (pur_sadd rfl rfl (by simp only [List.length_cons, List.length_nil]; omega)) rfl ?_; refine lw_pure (pur_sadd rfl rfl (by simp only [List.length_append, List.length_cons, List.length_nil]; omega)) rfl ?_; refine lw_pure (pur_len_s tabOk rfl rfl) rfl (cA rfl rfl (cA rfl rfl (lw_nil (qw_block_norm (qw_then (cS (cM rfl rfl ?_)))))))
    refine cR (by kernel_rfl) rfl (H21.out _ (by assumption) (by assumption)) (fun _ _ h => h.ret) rfl ?_; rintro _ wg42 ⟨vag34, ⟨vcg35, ⟨pag36, ⟨pcg37, ⟨mag38, ⟨mcg39, ⟨⟨⟩, ⟨hg40, xg41⟩⟩⟩⟩⟩⟩⟩⟩; have zg43 := xg41.size; replace hg30 := hg30.ext xg41; replace hg20 := hg20.ext xg41; replace hg21 := hg21.ext xg41; replace hS := hS.ext xg41; replace hE := hE.ext xg41; replace X := X.ext xg41; clear xg41; refine cM rfl rfl (lw_pure (pur_extract rfl rfl) rfl (lw_pure (pur_extract rfl rfl) rfl (lw_pure (pur_extract rfl rfl) rfl ?_))); (refine lw_alloc' [_, _, _, _, _, _] zOk rfl rfl ?_; intro bg44 wg45 ng46); (refine lw_init' [_, _, _, _, _, _] tabOk rfl rfl rfl rfl rfl rfl ng46 rfl ?_; clear ng46; clear wg45; intro wg47 ng46); have hg48 := ng46.blk; dsimp only at hg48; have xg49 := ng46.ext; have pg50 := ng46.pos; have zg51 := ng46.size; clear ng46; replace hg40 := PG.sits.ext hg40 xg49; replace hg30 := hg30.ext xg49; replace hg20 := hg20.ext xg49; replace hg21 := hg21.ext xg49; replace hS := hS.ext xg49; replace hE := hE.ext xg49; replace X := X.ext xg49; clear xg49; refine cA rfl rfl (cA rfl rfl (cN (cM rfl rfl (cM rfl rfl (lw_pure (pur_eql rfl rfl) rfl (cM rfl rfl (lw_on rfl rfl rfl (gd_tt (rfl)) (cM rfl rfl (lw_on rfl rfl rfl (gd_tt (rfl)) (cM rfl rfl (lw_on rfl rfl rfl (gd_tt (rfl)) ?_))))))))))); refine lw_pure (pur_eql rfl rfl) rfl (lw_pure (pur_pick_yes rfl rfl (rfl)) rfl (cA rfl rfl (cT (cw_ret (qw_ret1 rfl rfl ?_))))); rotate_left 1
   exact ⟨by simp, X⟩
 · clear H20 H21 H23
   focus
    refine cS (lw_pure (pur_lss rfl rfl) rfl (cT (cw_seq ?_))); refine cw_no rfl (by decide) ?_; refine cw_exit (qw_then_exit (qw_then_exit (qw_block_exit (qw_then (cS (cM rfl rfl ?_)))))); refine lw_pure (pur_sadd rfl rfl (by simp only [List.length_cons, List.length_nil]; omega)) rfl ?_; refine lw_pure (pur_sadd rfl rfl (by simp only [List.length_append, List.length_cons, List.length_nil]; omega)) rfl ?_; refine cM rfl rfl ?_; refine lw_pure (pur_sadd rfl rfl (by simp only [List.length_append, List.length_cons, List.length_nil]; omega)) rfl ?_; refine lw_pure (pur_sadd rfl rfl (by simp only [List.length_append, List.length_cons, List.length_nil]; omega)) rfl ?_; refine cA rfl rfl (cN (cM rfl rfl ?_)); refine lw_pure (pur_sadd rfl rfl (by simp only [List.length_cons, List.length_nil]; omega)) rfl ?_; refine cM rfl rfl ?_; refine lw_pure (pur_sadd rfl rfl (by simp only [List.length_append, List.length_cons, List.length_nil]; omega)) rfl ?_; refine lw_pure (pur_sadd rfl rfl (by simp only [List.length_append, List.length_cons, List.length_nil]; omega)) rfl ?_; refine cM rfl rfl ?_; refine lw_pure (pur_sadd rfl rfl (by simp only [List.length_append, List.length_cons, List.length_nil]; omega)) rfl ?_; refine lw_pure (pur_sadd rfl rfl (by simp only [List.length_append, List.length_cons, List.length_nil]; omega)) rfl ?_; refine cA rfl rfl (cN (cM rfl rfl ?_)); refine cR (by kernel_rfl) rfl (H1.out _ (by assumption) (by assumption)) (fun _ _ h => h.ret) rfl ?_; rintro _ wh24 ⟨vah1, ⟨vch2, ⟨pbh3, ⟨poh4, ⟨pch5, ⟨m0h6, ⟨m1h7, ⟨m2h8, ⟨m3h9, ⟨m4h10, ⟨m5h11, ⟨q0h12, ⟨pa2h13, ⟨pc2h14, ⟨b0h15, ⟨b1h16, ⟨b2h17, ⟨bah18, ⟨bch19, ⟨⟨⟩, ⟨hh20, ⟨hh21, ⟨hh22, xh23⟩⟩⟩⟩⟩⟩⟩⟩⟩⟩⟩⟩⟩⟩⟩⟩⟩⟩⟩⟩⟩⟩⟩
    have zh25 := xh23.size; replace hS := hS.ext xh23; replace hE := hE.ext xh23; replace X := X.ext xh23; clear xh23; refine cM rfl rfl (lw_pure (pur_extract rfl rfl) rfl (lw_pure (pur_extract rfl rfl) rfl (lw_pure (pur_extract rfl rfl) rfl ?_))); (refine lw_alloc' [_, _, _, _, _, _] zOk rfl rfl ?_; intro bh26 wh27 nh28); (refine lw_init' [_, _, _, _, _, _] tabOk rfl rfl rfl rfl rfl rfl nh28 rfl ?_; clear nh28; clear wh27; intro wh29 nh28); have hh30 := nh28.blk; have xh31 := nh28.ext; have ph32 := nh28.pos; have zh33 := nh28.size; clear nh28; replace hh20 := hh20.ext xh31; replace hh21 := hh21.ext xh31; replace hS := hS.ext xh31; replace hE := hE.ext xh31; replace X := X.ext xh31; clear xh31; refine cA rfl rfl (cA rfl rfl (cT (cw_seq (cS (cM rfl rfl (lw_pure (pur_neq rfl rfl) rfl (cM rfl rfl ?_))))))); refine lw_on rfl rfl rfl (gd_ff (by decide)) ?_; refine lw_pure (pur_fieldAddr0 tabOk rfl rfl rfl) rfl ?_; refine lw_on rfl rfl rfl (gd_ff (by decide)) ?_; refine lw_load_b tabOk rfl rfl rfl hh30 rfl rfl ?_; refine lw_on rfl rfl rfl (gd_ff (by decide)) ?_; refine lw_pure (pur_len_slice tabOk rfl rfl) rfl ?_; refine lw_on rfl rfl rfl (gd_ff (by decide)) ?_; refine lw_pure (pur_neq rfl rfl) rfl ?_; refine lw_pure (pur_pick_no rfl rfl (by decide)) rfl ?_; refine cM rfl rfl ?_; refine lw_on rfl rfl rfl (gd_ff (by decide)) ?_; refine lw_pure (pur_fieldAddr tabOk rfl rfl rfl) rfl ?_; refine lw_on rfl rfl rfl (gd_ff (by decide)) ?_; refine lw_load_b tabOk rfl rfl rfl hh30 rfl rfl ?_
    refine lw_on rfl rfl rfl (gd_ff (by decide)) ?_; refine lw_pure (pur_len_slice tabOk rfl rfl) rfl ?_; refine lw_on rfl rfl rfl (gd_ff (by decide)) ?_; refine lw_pure (pur_neq rfl rfl) rfl ?_; refine lw_pure (pur_pick_no rfl rfl (by decide)) rfl ?_; refine cM rfl rfl ?_; refine lw_on rfl rfl rfl (gd_ff (by decide)) ?_; refine lw_pure (pur_fieldAddr tabOk rfl rfl rfl) rfl ?_; refine lw_on rfl rfl rfl (gd_ff (by decide)) ?_; refine lw_load_b tabOk rfl rfl rfl hh30 rfl rfl ?_; refine lw_on rfl rfl rfl (gd_ff (by decide)) ?_; refine lw_pure (pur_indexAddr tabOk rfl rfl rfl rfl (by omega) (by omega)) rfl ?_; refine lw_on rfl rfl rfl (gd_ff (by decide)) ?_; refine lw_pure (pur_fieldAddr tabOk rfl rfl rfl) rfl ?_; refine lw_on rfl rfl rfl (gd_ff (by decide)) ?_; refine lw_load_r tabOk rfl rfl rfl hh20 rfl rfl ?_; refine lw_on rfl rfl rfl (gd_ff (by decide)) ?_; refine lw_pure (pur_len_slice tabOk rfl rfl) rfl ?_; refine lw_on rfl rfl rfl (gd_ff (by decide)) ?_; refine lw_pure (pur_neq rfl rfl) rfl ?_; refine lw_pure (pur_pick_no rfl rfl (by decide)) rfl ?_; refine cM rfl rfl ?_; refine lw_on rfl rfl rfl (gd_ff (by decide)) ?_; refine lw_pure (pur_fieldAddr tabOk rfl rfl rfl) rfl ?_; refine lw_on rfl rfl rfl (gd_ff (by decide)) ?_; refine lw_load_b tabOk rfl rfl rfl hh30 rfl rfl ?_; refine lw_on rfl rfl rfl (gd_ff (by decide)) ?_; refine lw_pure (pur_indexAddr tabOk rfl rfl rfl rfl (by omega) (by omega)) rfl ?_; refine lw_on rfl rfl rfl (gd_ff (by decide)) ?_; refine lw_pure (pur_fieldAddr tabOk rfl rfl rfl) rfl ?_
    refine lw_on rfl rfl rfl (gd_ff (by decide)) ?_; refine lw_pure (pur_fieldAddr tabOk rfl rfl rfl) rfl ?_; refine lw_on rfl rfl rfl (gd_ff (by decide)) ?_; refine lw_load_r tabOk rfl rfl rfl hh21 rfl rfl ?_; refine lw_on rfl rfl rfl (gd_ff (by decide)) ?_; refine lw_pure (pur_len_slice tabOk rfl rfl) rfl ?_; refine lw_on rfl rfl rfl (gd_ff (by decide)) ?_; refine lw_pure (pur_neq rfl rfl) rfl ?_; refine lw_pure (pur_pick_no rfl rfl (by decide)) rfl ?_; refine cT ?_; refine cw_no rfl (by decide) ?_; refine cw_skip (qw_then (cS (cA rfl rfl (cA rfl rfl (cA rfl rfl (cT (cw_seq (cS (cM rfl rfl ?_))))))))); refine lw_pure (pur_rem rfl rfl (by omega) (rem_known (by assumption) (by omega))) rfl ?_; refine cT (cw_block (cS (lw_pure (pur_eql rfl rfl) rfl (cA rfl rfl (cT ?_))))); refine cw_no rfl (by decide) ?_; refine cS (lw_pure (pur_eql rfl rfl) rfl (cA rfl rfl (cT ?_))); refine cw_no rfl (by decide) ?_; refine cS (lw_pure (pur_eql rfl rfl) rfl (cA rfl rfl (cT ?_))); refine cw_yes rfl (by decide) ?_; refine cw_region (cM rfl rfl ?_); refine lw_pure (pur_sadd rfl rfl (by simp only [List.length_cons, List.length_nil]; omega)) rfl ?_; refine lw_pure (pur_sadd rfl rfl (by simp only [List.length_append, List.length_cons, List.length_nil]; omega)) rfl ?_; refine cM rfl rfl ?_; refine lw_pure (pur_sadd rfl rfl (by simp only [List.length_cons, List.length_nil]; omega)) rfl ?_; refine lw_pure (pur_sadd rfl rfl (by simp only [List.length_append, List.length_cons, List.length_nil]; omega)) rfl ?_
    refine lw_pure (pur_len_s tabOk rfl rfl) rfl (cA rfl rfl (cA rfl rfl (lw_nil (qw_block_norm (qw_then (cS (cM rfl rfl ?_))))))); refine cR (by kernel_rfl) rfl (H22.out _ (by assumption) (by assumption)) (fun _ _ h => h.ret) rfl ?_; rintro _ wh42 ⟨vah34, ⟨vch35, ⟨pah36, ⟨pch37, ⟨mah38, ⟨mch39, ⟨⟨⟩, ⟨hh40, xh41⟩⟩⟩⟩⟩⟩⟩⟩; have zh43 := xh41.size; replace hh30 := hh30.ext xh41; replace hh20 := hh20.ext xh41; replace hh21 := hh21.ext xh41; replace hS := hS.ext xh41; replace hE := hE.ext xh41; replace X := X.ext xh41; clear xh41; refine cM rfl rfl (lw_pure (pur_extract rfl rfl) rfl (lw_pure (pur_extract rfl rfl) rfl (lw_pure (pur_extract rfl rfl) rfl ?_))); (refine lw_alloc' [_, _, _, _, _, _] zOk rfl rfl ?_; intro bh44 wh45 nh46); (refine lw_init' [_, _, _, _, _, _] tabOk rfl rfl rfl rfl rfl rfl nh46 rfl ?_; clear nh46; clear wh45; intro wh47 nh46); have hh48 := nh46.blk; dsimp only at hh48; have xh49 := nh46.ext; have ph50 := nh46.pos; have zh51 := nh46.size; clear nh46; replace hh40 := PG.sits.ext hh40 xh49; replace hh30 := hh30.ext xh49; replace hh20 := hh20.ext xh49; replace hh21 := hh21.ext xh49; replace hS := hS.ext xh49; replace hE := hE.ext xh49; replace X := X.ext xh49; clear xh49; refine cA rfl rfl (cA rfl rfl (cN (cM rfl rfl (cM rfl rfl (lw_pure (pur_eql rfl rfl) rfl (cM rfl rfl (lw_on rfl rfl rfl (gd_tt (rfl)) (cM rfl rfl (lw_on rfl rfl rfl (gd_tt (rfl)) (cM rfl rfl (lw_on rfl rfl rfl (gd_tt (rfl)) ?_))))))))))); refine lw_pure (pur_eql rfl rfl) rfl (lw_pure (pur_pick_yes rfl rfl (rfl)) rfl (cA rfl rfl (cT (cw_ret (qw_ret1 rfl rfl ?_)))))
    rotate_left 1
   exact ⟨by simp, X⟩
 · clear H20 H21 H22
   focus
    refine cS (lw_pure (pur_lss rfl rfl) rfl (cT (cw_seq ?_))); refine cw_no rfl (by decide) ?_; refine cw_exit (qw_then_exit (qw_then_exit (qw_block_exit (qw_then (cS (cM rfl rfl ?_)))))); refine lw_pure (pur_sadd rfl rfl (by simp only [List.length_cons, List.length_nil]; omega)) rfl ?_; refine lw_pure (pur_sadd rfl rfl (by simp only [List.length_append, List.length_cons, List.length_nil]; omega)) rfl ?_; refine cM rfl rfl ?_; refine lw_pure (pur_sadd rfl rfl (by simp only [List.length_append, List.length_cons, List.length_nil]; omega)) rfl ?_; refine lw_pure (pur_sadd rfl rfl (by simp only [List.length_append, List.length_cons, List.length_nil]; omega)) rfl ?_; refine cA rfl rfl (cN (cM rfl rfl ?_)); refine lw_pure (pur_sadd rfl rfl (by simp only [List.length_cons, List.length_nil]; omega)) rfl ?_; refine cM rfl rfl ?_; refine lw_pure (pur_sadd rfl rfl (by simp only [List.length_append, List.length_cons, List.length_nil]; omega)) rfl ?_; refine lw_pure (pur_sadd rfl rfl (by simp only [List.length_append, List.length_cons, List.length_nil]; omega)) rfl ?_; refine cM rfl rfl ?_; refine lw_pure (pur_sadd rfl rfl (by simp only [List.length_append, List.length_cons, List.length_nil]; omega)) rfl ?_; refine lw_pure (pur_sadd rfl rfl (by simp only [List.length_append, List.length_cons, List.length_nil]; omega)) rfl ?_; refine cA rfl rfl (cN (cM rfl rfl ?_)); refine cR (by kernel_rfl) rfl (H1.out _ (by assumption) (by assumption)) (fun _ _ h => h.ret) rfl ?_; rintro _ wi24 ⟨vai1, ⟨vci2, ⟨pbi3, ⟨poi4, ⟨pci5, ⟨m0i6, ⟨m1i7, ⟨m2i8, ⟨m3i9, ⟨m4i10, ⟨m5i11, ⟨q0i12, ⟨pa2i13, ⟨pc2i14, ⟨b0i15, ⟨b1i16, ⟨b2i17, ⟨bai18, ⟨bci19, ⟨⟨⟩, ⟨hi20, ⟨hi21, ⟨hi22, xi23⟩⟩⟩⟩⟩⟩⟩⟩⟩⟩⟩⟩⟩⟩⟩⟩⟩⟩⟩⟩⟩⟩⟩
    have zi25 := xi23.size; replace hS := hS.ext xi23; replace hE := hE.ext xi23; replace X := X.ext xi23; clear xi23; refine cM rfl rfl (lw_pure (pur_extract rfl rfl) rfl (lw_pure (pur_extract rfl rfl) rfl (lw_pure (pur_extract rfl rfl) rfl ?_))); (refine lw_alloc' [_, _, _, _, _, _] zOk rfl rfl ?_; intro bi26 wi27 ni28); (refine lw_init' [_, _, _, _, _, _] tabOk rfl rfl rfl rfl rfl rfl ni28 rfl ?_; clear ni28; clear wi27; intro wi29 ni28); have hi30 := ni28.blk; have xi31 := ni28.ext; have pi32 := ni28.pos; have zi33 := ni28.size; clear ni28; replace hi20 := hi20.ext xi31; replace hi21 := hi21.ext xi31; replace hS := hS.ext xi31; replace hE := hE.ext xi31; replace X := X.ext xi31; clear xi31; refine cA rfl rfl (cA rfl rfl (cT (cw_seq (cS (cM rfl rfl (lw_pure (pur_neq rfl rfl) rfl (cM rfl rfl ?_))))))); refine lw_on rfl rfl rfl (gd_ff (by decide)) ?_; refine lw_pure (pur_fieldAddr0 tabOk rfl rfl rfl) rfl ?_; refine lw_on rfl rfl rfl (gd_ff (by decide)) ?_; refine lw_load_b tabOk rfl rfl rfl hi30 rfl rfl ?_; refine lw_on rfl rfl rfl (gd_ff (by decide)) ?_; refine lw_pure (pur_len_slice tabOk rfl rfl) rfl ?_; refine lw_on rfl rfl rfl (gd_ff (by decide)) ?_; refine lw_pure (pur_neq rfl rfl) rfl ?_; refine lw_pure (pur_pick_no rfl rfl (by decide)) rfl ?_; refine cM rfl rfl ?_; refine lw_on rfl rfl rfl (gd_ff (by decide)) ?_; refine lw_pure (pur_fieldAddr tabOk rfl rfl rfl) rfl ?_; refine lw_on rfl rfl rfl (gd_ff (by decide)) ?_; refine lw_load_b tabOk rfl rfl rfl hi30 rfl rfl ?_
    refine lw_on rfl rfl rfl (gd_ff (by decide)) ?_; refine lw_pure (pur_len_slice tabOk rfl rfl) rfl ?_; refine lw_on rfl rfl rfl (gd_ff (by decide)) ?_; refine lw_pure (pur_neq rfl rfl) rfl ?_; refine lw_pure (pur_pick_no rfl rfl (by decide)) rfl ?_; refine cM rfl rfl ?_; refine lw_on rfl rfl rfl (gd_ff (by decide)) ?_; refine lw_pure (pur_fieldAddr tabOk rfl rfl rfl) rfl ?_; refine lw_on rfl rfl rfl (gd_ff (by decide)) ?_; refine lw_load_b tabOk rfl rfl rfl hi30 rfl rfl ?_; refine lw_on rfl rfl rfl (gd_ff (by decide)) ?_; refine lw_pure (pur_indexAddr tabOk rfl rfl rfl rfl (by omega) (by omega)) rfl ?_; refine lw_on rfl rfl rfl (gd_ff (by decide)) ?_; refine lw_pure (pur_fieldAddr tabOk rfl rfl rfl) rfl ?_; refine lw_on rfl rfl rfl (gd_ff (by decide)) ?_; refine lw_load_r tabOk rfl rfl rfl hi20 rfl rfl ?_; refine lw_on rfl rfl rfl (gd_ff (by decide)) ?_; refine lw_pure (pur_len_slice tabOk rfl rfl) rfl ?_; refine lw_on rfl rfl rfl (gd_ff (by decide)) ?_; refine lw_pure (pur_neq rfl rfl) rfl ?_; refine lw_pure (pur_pick_no rfl rfl (by decide)) rfl ?_; refine cM rfl rfl ?_; refine lw_on rfl rfl rfl (gd_ff (by decide)) ?_; refine lw_pure (pur_fieldAddr tabOk rfl rfl rfl) rfl ?_; refine lw_on rfl rfl rfl (gd_ff (by decide)) ?_; refine lw_load_b tabOk rfl rfl rfl hi30 rfl rfl ?_; refine lw_on rfl rfl rfl (gd_ff (by decide)) ?_; refine lw_pure (pur_indexAddr tabOk rfl rfl rfl rfl (by omega) (by omega)) rfl ?_; refine lw_on rfl rfl rfl (gd_ff (by decide)) ?_; refine lw_pure (pur_fieldAddr tabOk rfl rfl rfl) rfl ?_
    refine lw_on rfl rfl rfl (gd_ff (by decide)) ?_; refine lw_pure (pur_fieldAddr tabOk rfl rfl rfl) rfl ?_; refine lw_on rfl rfl rfl (gd_ff (by decide)) ?_; refine lw_load_r tabOk rfl rfl rfl hi21 rfl rfl ?_; refine lw_on rfl rfl rfl (gd_ff (by decide)) ?_; refine lw_pure (pur_len_slice tabOk rfl rfl) rfl ?_; refine lw_on rfl rfl rfl (gd_ff (by decide)) ?_; refine lw_pure (pur_neq rfl rfl) rfl ?_; refine lw_pure (pur_pick_no rfl rfl (by decide)) rfl ?_; refine cT ?_; refine cw_no rfl (by decide) ?_; refine cw_skip (qw_then (cS (cA rfl rfl (cA rfl rfl (cA rfl rfl (cT (cw_seq (cS (cM rfl rfl ?_))))))))); refine lw_pure (pur_rem rfl rfl (by omega) (rem_known (by assumption) (by omega))) rfl ?_; refine cT (cw_block (cS (lw_pure (pur_eql rfl rfl) rfl (cA rfl rfl (cT ?_))))); refine cw_no rfl (by decide) ?_; refine cS (lw_pure (pur_eql rfl rfl) rfl (cA rfl rfl (cT ?_))); refine cw_no rfl (by decide) ?_; refine cS (lw_pure (pur_eql rfl rfl) rfl (cA rfl rfl (cT ?_))); refine cw_no rfl (by decide) ?_; refine cS (lw_pure (pur_eql rfl rfl) rfl (cA rfl rfl (cT ?_))); refine cw_yes rfl (by decide) ?_; refine cw_region (cM rfl rfl ?_); refine lw_pure (pur_sadd rfl rfl (by simp only [List.length_cons, List.length_nil]; omega)) rfl ?_; refine lw_pure (pur_sadd rfl rfl (by simp only [List.length_append, List.length_cons, List.length_nil]; omega)) rfl ?_; refine cA rfl rfl (cA rfl rfl (cA rfl rfl (lw_nil (qw_block_norm (qw_then (cS (cM rfl rfl ?_))))))); refine cR (by kernel_rfl) rfl (H23.out _ (by assumption) (by assumption)) (fun _ _ h => h.ret) rfl ?_
    rintro _ wi42 ⟨vai34, ⟨vci35, ⟨pai36, ⟨pci37, ⟨mai38, ⟨mci39, ⟨⟨⟩, ⟨hi40, xi41⟩⟩⟩⟩⟩⟩⟩⟩; have zi43 := xi41.size; replace hi30 := hi30.ext xi41; replace hi20 := hi20.ext xi41; replace hi21 := hi21.ext xi41; replace hS := hS.ext xi41; replace hE := hE.ext xi41; replace X := X.ext xi41; clear xi41; refine cM rfl rfl (lw_pure (pur_extract rfl rfl) rfl (lw_pure (pur_extract rfl rfl) rfl (lw_pure (pur_extract rfl rfl) rfl ?_))); (refine lw_alloc' [_, _, _, _, _, _] zOk rfl rfl ?_; intro bi44 wi45 ni46); (refine lw_init' [_, _, _, _, _, _] tabOk rfl rfl rfl rfl rfl rfl ni46 rfl ?_; clear ni46; clear wi45; intro wi47 ni46); have hi48 := ni46.blk; dsimp only at hi48; have xi49 := ni46.ext; have pi50 := ni46.pos; have zi51 := ni46.size; clear ni46; replace hi40 := PG.sits.ext hi40 xi49; replace hi30 := hi30.ext xi49; replace hi20 := hi20.ext xi49; replace hi21 := hi21.ext xi49; replace hS := hS.ext xi49; replace hE := hE.ext xi49; replace X := X.ext xi49; clear xi49; refine cA rfl rfl (cA rfl rfl (cN (cM rfl rfl (cM rfl rfl (lw_pure (pur_eql rfl rfl) rfl (cM rfl rfl (lw_on rfl rfl rfl (gd_tt (rfl)) (cM rfl rfl (lw_on rfl rfl rfl (gd_tt (rfl)) (cM rfl rfl (lw_on rfl rfl rfl (gd_tt (rfl)) ?_))))))))))); refine lw_pure (pur_eql rfl rfl) rfl (lw_pure (pur_pick_yes rfl rfl (rfl)) rfl (cA rfl rfl (cT (cw_ret (qw_ret1 rfl rfl ?_))))); rotate_left 1
   exact ⟨by simp, X⟩
end Bk
