/- The statement ParserExpr holds: texts that its proof needs. No condition beyond the row's own. (Part 5 of 6.) -/
import Derived.Test.YtihgojmblldifaaGreatDoorPParserExpr4
set_option linter.unusedSimpArgs false
set_option linter.unusedVariables false
namespace Bk
open Go Go.RowKit Go.Proofs
attribute [local irreducible] Go.Calls
set_option maxRecDepth 100000 in
set_option maxHeartbeats 4000000 in
theorem rexpr_w (c : RC) (k : Nat) (IH : ∀ j, j ≤ k → RExprsC c j) (lv : Int) (σ : PS) (w : World) (hP : RP c σ w) (hl0 : 1 ≤ lv) (hl1 : lv ≤ 9) (hk : (12 * mS c.ts σ : Int) + 12 ≤ (k + 1 : Nat) + lv) : Calls Tryz.prog 41 #[.pointer (some ⟨c.pb, 0, none⟩), .int .i64 lv] w (RTreeR c w (exprR c.ts c.n (k + 1) lv σ)) := by
 have X := Fr.refl (· = c.pb) w
 have hpb := hP.pbB
 have hB := hP.B
 have hlen := hP.len
 by_cases h9 : 8 < lv
 · rw [show exprR c.ts c.n (k + 1) lv σ = unaryR c.ts c.n k σ from by rw [exprR]; simp [h9]]
   refine calls_in Tryz.func41 Tryz.ntmps41 rfl rfl ?_
   focus
    refine cS ?_
    (refine lw_alloc' [_, _, _, _] zOk rfl rfl ?_; intro b1 w2 n3)
    have h5 := New.blk n3
    have x6 := New.ext n3
    have p7 := New.pos n3
    have z8 := New.size n3
    clear n3
    replace hP := RP.ext hP x6
    replace X := Fr.ext X x6
    clear x6
    refine cT (cw_seq (cS (cM rfl rfl (lw_pure (pur_gtr rfl rfl) rfl (cT ?_)))))
    refine cw_yes rfl (by assumption) ?_
    refine cS (cM rfl rfl ?_)
    refine lw_does (does_call (by kernel_rfl) rfl ((IH k (Nat.le_refl _)).unary _ _ (by assumption) (by omega)) (fun _ _ h => h.ret)) rfl ?_ (fun _ h => h)
    rintro _ w14 ⟨a9, ⟨k10, ⟨⟨⟩, ⟨h11, ⟨h12, f13⟩⟩⟩⟩⟩
    have z15 := Fr.size f13
    replace h5 := Blk.fr h5 f13 (by omega)
    clear hP
    replace X := Fr.fr X f13 (by omega)
    clear f13
    (refine lw_store' [_, _, _, _] [_, _, _, _] tabOk rfl rfl rfl rfl rfl rfl h5 rfl rfl ?_; intro w16 n17)
    have h20 := Put.blk n17
    have f18 := Put.fr n17
    have z19 := Put.size n17
    clear n17 h5
    replace h11 := Nd.sits.fr h11 f18 (by omega)
    replace h12 := RP.fr h12 f18 (by omega)
    replace X := Fr.fr X f18 (by omega)
    clear f18
    refine cT (cw_ret (qw_then_ret (qw_retc rfl tabOk rfl rfl rfl h20 rfl ?_)))
    rotate_left 1
   exact rtree_ret (Nd.sits.wide (by assumption) (fun b h => by omega)) (by assumption) X
 rw [show exprR c.ts c.n (k + 1) lv σ = loopR c.ts c.n k lv (exprR c.ts c.n k (lv + 1) σ).1 (exprR c.ts c.n k (lv + 1) σ).2 from by rw [exprR]; simp [h9]]
 have hu := (exprR_inv (ts := c.ts) (n := c.n) k).1 (lv + 1) σ hP.at_
 have hum := mS_le hu
 refine calls_in Tryz.func41 Tryz.ntmps41 rfl rfl ?_
 focus
  refine cS ?_
  (refine lw_alloc' [_, _, _, _] zOk rfl rfl ?_; intro ba1 wa2 na3)
  have ha5 := New.blk na3
  have xa6 := New.ext na3
  have pa7 := New.pos na3
  have za8 := New.size na3
  clear na3
  replace hP := RP.ext hP xa6
  replace X := Fr.ext X xa6
  clear xa6
  refine cT (cw_seq (cS (cM rfl rfl (lw_pure (pur_gtr rfl rfl) rfl (cT ?_)))))
  refine cw_no rfl (by assumption) ?_
  refine cw_skip (qw_then (cS (cM rfl rfl (cM rfl rfl ?_))))
  refine lw_pure (pur_add rfl rfl (IntWalk.i64_in _ (by omega))) rfl ?_
  refine lw_does (does_call (by kernel_rfl) rfl ((IH k (Nat.le_refl _)).expr _ _ _ (by assumption) (by omega) (by omega) (by omega)) (fun _ _ h => h.ret)) rfl ?_ (fun _ h => h)
  rintro _ wa14 ⟨aa9, ⟨ka10, ⟨⟨⟩, ⟨ha11, ⟨ha12, fa13⟩⟩⟩⟩⟩
  have za15 := Fr.size fa13
  replace ha5 := Blk.fr ha5 fa13 (by omega)
  clear hP
  replace X := Fr.fr X fa13 (by omega)
  clear fa13
  (refine lw_alloc' [_, _, _, _] zOk rfl rfl ?_; intro ba16 wa17 na18)
  (refine lw_init' [_, _, _, _] tabOk rfl rfl rfl rfl rfl rfl na18 rfl ?_; clear na18; clear wa17; intro wa19 na18)
  have ha20 := New.blk na18
  have xa21 := New.ext na18
  have pa22 := New.pos na18
  have za23 := New.size na18
  clear na18
  replace ha11 := Nd.sits.ext ha11 xa21
  replace ha12 := RP.ext ha12 xa21
  replace ha5 := Blk.ext ha5 xa21
  replace X := Fr.ext X xa21
  clear xa21
  refine cT (cw_seq (cw_block ?_))
  rotate_left 1
 refine cw_loop (ι := Nat × Nd × Option Addr × Nat × PS) (fun _ => [(0, .pointer (some ⟨c.pb, 0, none⟩)), (1, .int .i64 lv), (4, .pointer (some ⟨ba1, 0, none⟩)), (5, .pointer (some ⟨ba16, 0, none⟩))])
  (fun x w' => RP c x.2.2.2.2 w' ∧ Blk w' ba16 (x.2.1.cells x.2.2.1 x.2.2.2.1) ∧ x.2.1.sits (fun b => w.heap.size ≤ b ∧ b ≠ ba1 ∧ b ≠ ba16) w' x.2.2.1 ∧ Blk w' ba1 [.int .u8 0, .int .i64 0, .string ⟨#[]⟩, .slice none 0 0] ∧ Fr (· = c.pb) w w' ∧ wa19.heap.size ≤ w'.heap.size ∧
   loopR c.ts c.n k lv (exprR c.ts c.n k (lv + 1) σ).1 (exprR c.ts c.n k (lv + 1) σ).2 = loopR c.ts c.n x.1 lv x.2.1 x.2.2.2.2 ∧ 12 * mS c.ts x.2.2.2.2 + 1 ≤ x.1 ∧ x.1 ≤ k) (fun x => x.1) (k, (exprR c.ts c.n k (lv + 1) σ).1, aa9, ka10, (exprR c.ts c.n k (lv + 1) σ).2) (by (refine sub_cons rfl ?_; refine sub_cons rfl ?_; refine sub_cons rfl ?_; refine sub_cons rfl ?_; exact sub_nil))
  ⟨by assumption, by assumption, Nd.sits.wide (by assumption) (fun b h => ⟨by omega, by omega, by omega⟩), by assumption, X, Nat.le_refl _, rfl, by simp only; omega, Nat.le_refl _⟩ ?_
 rintro ⟨j, x, xa, xc, σ'⟩ w1 ⟨hP, h5, hs, h4, X, hz, he, hfj, hjk⟩
 simp only at hP h5 hs he hfj hjk
 rw [he]
 clear he hu hum
 obtain ⟨j, rfl⟩ : ∃ i, j = i + 1 := ⟨j - 1, by omega⟩
 by_cases h0 : σ'.err = 0
 case neg =>
  rw [show loopR c.ts c.n (j + 1) lv x σ' = (x, σ') from by rw [loopR]; simp [h0]]
  focus
   refine cw_seq (cS (cM rfl rfl (lw_pure (pur_nilCheck rfl) rfl (lw_pure (pur_fieldAddr tabOk rfl rfl rfl) rfl (lw_load_b tabOk rfl rfl rfl (RP.blk hP) rfl rfl (lw_pure (pur_eql rfl rfl) rfl (cT ?_)))))))
   refine cw_no rfl (by assumption) ?_
   refine cw_exit (qw_then_exit (qw_then_exit (qw_block_exit (qw_then (cS (lw_loads_b' [_, _, _, _] tabOk rfl rfl rfl h5 rfl rfl rfl ?_))))))
   (refine lw_store' [_, _, _, _] [_, _, _, _] tabOk rfl rfl rfl rfl rfl rfl h4 rfl rfl ?_; intro wb1 nb2)
   have hb5 := Put.blk nb2
   have fb3 := Put.fr nb2
   have zb4 := Put.size nb2
   clear nb2 h4
   replace hP := RP.fr hP fb3 (by omega)
   replace h5 := Blk.fr h5 fb3 (by omega)
   replace hs := Nd.sits.fr hs fb3 (by omega)
   replace X := Fr.fr X fb3 (by omega)
   clear fb3
   refine cT (cw_ret (qw_retc rfl tabOk rfl rfl rfl hb5 rfl ?_))
   rotate_left 1
  exact rtree_ret (Nd.sits.wide hs (fun b h => h.1)) (by assumption) X
 cases hb : binOf (peekP c.ts σ').text with
 | none =>
  rw [show loopR c.ts c.n (j + 1) lv x σ' = (x, σ') from by rw [loopR]; simp [h0, hb]]
  have hop : (opPair (peekP c.ts σ').text).2 = 0 := by simp [opPair, hb]
  focus
   refine cw_seq (cS (cM rfl rfl (lw_pure (pur_nilCheck rfl) rfl (lw_pure (pur_fieldAddr tabOk rfl rfl rfl) rfl (lw_load_b tabOk rfl rfl rfl (RP.blk hP) rfl rfl (lw_pure (pur_eql rfl rfl) rfl (cT ?_)))))))
   refine cw_yes rfl (by assumption) ?_
   refine cw_skip (qw_then (cw_block (cS (cM rfl rfl ?_))))
   refine lw_does (does_call (by kernel_rfl) rfl (rpeek_c _ _ _ (by assumption)) (fun _ _ h => ⟨_, h.1⟩)) rfl ?_ (fun _ h => h)
   rintro _ wc2 ⟨⟨⟩, xc1⟩
   have zc3 := Ext.size xc1
   replace hP := RP.ext hP xc1
   replace h5 := Blk.ext h5 xc1
   replace hs := Nd.sits.ext hs xc1
   replace h4 := Blk.ext h4 xc1
   replace X := Fr.ext X xc1
   clear xc1
   refine lw_does (does_call (by kernel_rfl) rfl (roperator_c _ _) (fun _ _ h => ⟨_, h.1⟩)) rfl ?_ (fun _ h => h)
   rintro _ wc5 ⟨⟨⟩, xc4⟩
   have zc6 := Ext.size xc4
   replace hP := RP.ext hP xc4
   replace h5 := Blk.ext h5 xc4
   replace hs := Nd.sits.ext hs xc4
   replace h4 := Blk.ext h4 xc4
   replace X := Fr.ext X xc4
   clear xc4
   refine cM rfl rfl (lw_pure (pur_extract rfl rfl) rfl (lw_pure (pur_extract rfl rfl) rfl (cA rfl rfl (cA rfl rfl (cT (cw_seq (cS (cM rfl rfl (cM rfl rfl (lw_pure (pur_neq rfl rfl) rfl (cT ?_)))))))))))
   refine cw_yes rfl (by omega) ?_
   refine cw_exit (qw_then_exit (qw_block_pass rfl (qw_then_exit (qw_block_exit (qw_then (cS (lw_loads_b' [_, _, _, _] tabOk rfl rfl rfl h5 rfl rfl rfl ?_)))))))
   (refine lw_store' [_, _, _, _] [_, _, _, _] tabOk rfl rfl rfl rfl rfl rfl h4 rfl rfl ?_; intro wc7 nc8)
   have hc11 := Put.blk nc8
   have fc9 := Put.fr nc8
   have zc10 := Put.size nc8
   clear nc8 h4
   replace hP := RP.fr hP fc9 (by omega)
   replace h5 := Blk.fr h5 fc9 (by omega)
   replace hs := Nd.sits.fr hs fc9 (by omega)
   replace X := Fr.fr X fc9 (by omega)
   clear fc9
   refine cT (cw_ret (qw_retc rfl tabOk rfl rfl rfl hc11 rfl ?_))
   rotate_left 1
  exact rtree_ret (Nd.sits.wide hs (fun b h => h.1)) (by assumption) X
 | some op =>
  obtain ⟨hne, o1, o2, -⟩ := binOf_ne hb
  obtain ⟨hin, hin2⟩ := peek_in hP.at_ (Or.inl hne)
  have hm := mS_next (ts := c.ts) (σ := σ') ⟨hin, hin2⟩
  have hop : (opPair (peekP c.ts σ').text).2 = level op := by simp [opPair, hb]
  have hop1 : (opPair (peekP c.ts σ').text).1 = op := by simp [opPair, hb]
  by_cases hl : level op = lv
  · rw [show loopR c.ts c.n (j + 1) lv x σ' = loopR c.ts c.n j lv (.mk op 0 [] [x, (exprR c.ts c.n j (lv + 1) (nextP σ')).1]) (exprR c.ts c.n j (lv + 1) (nextP σ')).2 from by rw [loopR]; simp [h0, hb, hl]]
    have hle := (exprR_inv (ts := c.ts) (n := c.n) j).1 (lv + 1) (nextP σ') hin2
    have hml := mS_le hle
    rw [← hop1]
    focus
     refine cw_seq (cS (cM rfl rfl (lw_pure (pur_nilCheck rfl) rfl (lw_pure (pur_fieldAddr tabOk rfl rfl rfl) rfl (lw_load_b tabOk rfl rfl rfl (RP.blk hP) rfl rfl (lw_pure (pur_eql rfl rfl) rfl (cT ?_)))))))
     refine cw_yes rfl (by assumption) ?_
     refine cw_skip (qw_then (cw_block (cS (cM rfl rfl ?_))))
     refine lw_does (does_call (by kernel_rfl) rfl (rpeek_c _ _ _ (by assumption)) (fun _ _ h => ⟨_, h.1⟩)) rfl ?_ (fun _ h => h)
     rintro _ wd2 ⟨⟨⟩, xd1⟩
     have zd3 := Ext.size xd1
     replace hP := RP.ext hP xd1
     replace h5 := Blk.ext h5 xd1
     replace hs := Nd.sits.ext hs xd1
     replace h4 := Blk.ext h4 xd1
     replace X := Fr.ext X xd1
     clear xd1
     refine lw_does (does_call (by kernel_rfl) rfl (roperator_c _ _) (fun _ _ h => ⟨_, h.1⟩)) rfl ?_ (fun _ h => h)
     rintro _ wd5 ⟨⟨⟩, xd4⟩
     have zd6 := Ext.size xd4
     replace hP := RP.ext hP xd4
     replace h5 := Blk.ext h5 xd4
     replace hs := Nd.sits.ext hs xd4
     replace h4 := Blk.ext h4 xd4
     replace X := Fr.ext X xd4
     clear xd4
     refine cM rfl rfl (lw_pure (pur_extract rfl rfl) rfl (lw_pure (pur_extract rfl rfl) rfl (cA rfl rfl (cA rfl rfl (cT (cw_seq (cS (cM rfl rfl (cM rfl rfl (lw_pure (pur_neq rfl rfl) rfl (cT ?_)))))))))))
     refine cw_no rfl (by omega) ?_
     refine cw_skip (qw_then (cS (cM rfl rfl (cM rfl rfl (lw_pure (pur_nilCheck rfl) rfl (lw_pure (pur_fieldAddr tabOk rfl rfl rfl) rfl (lw_load_b tabOk rfl rfl rfl (RP.blk hP) rfl rfl ?_)))))))
     refine lw_pure (pur_add rfl rfl (IntWalk.i64_in _ (by omega))) rfl ?_
     refine lw_pure (pur_nilCheck rfl) rfl (lw_pure (pur_fieldAddr tabOk rfl rfl rfl) rfl ?_)
     refine lw_rp_at tabOk rfl rfl rfl rfl (by assumption) hin2 ?_
     rintro wd7 hd8 fd9
     have zd10 := Fr.size fd9
     clear hP
     replace h5 := Blk.fr h5 fd9 (by omega)
     replace hs := Nd.sits.fr hs fd9 (by omega)
     replace h4 := Blk.fr h4 fd9 (by omega)
     replace X := Fr.fr X fd9 (by omega)
     clear fd9
     refine cT ?_
     (refine cw_tdraw (fun wz => Fr (· = c.pb) wd7 wz) 7 (.pure 0 (.pure 1 (.pure 2 (.pure 3 (.pure 4 (.fork 5 (.fork 6 .tail .none) .none)))))) mixed (by kernel_rfl) (panicOk_block (panicOk_then (panicOk_block (panicOk_then panicOk_body)))) ?_; intro wd11 xd12 _)
     have qsd13 : (fun wz => Fr (· = c.pb) wd7 wz) wd11 := Fr.of_ext xd12
     simp only at qsd13
     have d_hd8 := hd8
     have d_h5 := h5
     have d_hs := hs
     have d_h4 := h4
     have zd14 := Ext.size xd12
     replace hd8 := RP.ext hd8 xd12
     replace h5 := Blk.ext h5 xd12
     replace hs := Nd.sits.ext hs xd12
     replace h4 := Blk.ext h4 xd12
     replace X := Fr.ext X xd12
     clear xd12
     refine ⟨qsd13, ?_⟩
     refine tw_pure rfl (pur_move rfl) rfl ?_
     refine tw_pure rfl (pur_loads_blk' [_, _, _, _] tabOk rfl rfl rfl (fun wz hz => (Blk.fr d_h5 hz (by omega))) rfl rfl) rfl ?_
     refine tw_pure rfl (pur_move rfl) rfl (tw_pure rfl (pur_move rfl) rfl ?_)
     refine tw_pure rfl (pur_add rfl rfl (IntWalk.i64_in _ (by omega))) rfl ?_
     refine tw_does rfl (does_call (by kernel_rfl) rfl ((IH j (by omega)).expr _ _ _ (by assumption) (by omega) (by omega) (by omega)) (fun _ _ h => h.ret)) rfl ?_ (fun _ h => h) tw_none
     rintro _ wd20 ⟨ad15, ⟨kd16, ⟨⟨⟩, ⟨hd17, ⟨hd18, fd19⟩⟩⟩⟩⟩
     have zd21 := Fr.size fd19
     replace qsd13 := Fr.fr qsd13 fd19 (by omega)
     clear hd8
     replace h5 := Blk.fr h5 fd19 (by omega)
     replace hs := Nd.sits.fr hs fd19 (by omega)
     replace h4 := Blk.fr h4 fd19 (by omega)
     replace X := Fr.fr X fd19 (by omega)
     clear fd19
     refine ⟨qsd13, ?_⟩
     (refine tw_does rfl (does_slice' [_, _, _, _, _, _, _, _] tabOk zOk rfl rfl rfl rfl rfl rfl rfl rfl rfl) rfl ?_ (fun _ h => h) tw_none; rintro _ wd23 ⟨bd22, rfl, nd24, td25⟩)
     clear td25
     have hd26 := New.blk nd24
     have xd27 := New.ext nd24
     have pd28 := New.pos nd24
     have zd29 := New.size nd24
     clear nd24
     replace hd17 := Nd.sits.ext hd17 xd27
     replace hd18 := RP.ext hd18 xd27
     replace qsd13 := Fr.ext qsd13 xd27
     replace h5 := Blk.ext h5 xd27
     replace hs := Nd.sits.ext hs xd27
     replace h4 := Blk.ext h4 xd27
     replace X := Fr.ext X xd27
     clear xd27
     refine ⟨qsd13, ?_⟩
     clear d_hd8 d_h5 d_hs d_h4 qsd13
     refine tw_tail rfl ?_
     refine lw_does (does_call (by kernel_rfl) rfl (rnode2 _ _ _ _ _ _ _ _ _ _ _ _ _ (by assumption) (by assumption) (by assumption)) (fun _ _ h => h.ret)) rfl ?_ (fun _ h => h)
     rintro _ wd34 ⟨ad30, ⟨kd31, ⟨⟨⟩, ⟨hd32, xd33⟩⟩⟩⟩
     have zd35 := Ext.size xd33
     replace hd26 := Blk.ext hd26 xd33
     replace hd17 := Nd.sits.ext hd17 xd33
     replace hd18 := RP.ext hd18 xd33
     replace h5 := Blk.ext h5 xd33
     replace hs := Nd.sits.ext hs xd33
     replace h4 := Blk.ext h4 xd33
     replace X := Fr.ext X xd33
     clear xd33
     (refine lw_store' [_, _, _, _] [_, _, _, _] tabOk rfl rfl rfl rfl rfl rfl h5 rfl rfl ?_; intro wd36 nd37)
     have hd40 := Put.blk nd37
     have fd38 := Put.fr nd37
     have zd39 := Put.size nd37
     clear nd37 h5
     replace hd32 := Nd.sits.fr hd32 fd38 (by omega)
     replace hd26 := Blk.fr hd26 fd38 (by omega)
     replace hd17 := Nd.sits.fr hd17 fd38 (by omega)
     replace hd18 := RP.fr hd18 fd38 (by omega)
     replace hs := Nd.sits.fr hs fd38 (by omega)
     replace h4 := Blk.fr h4 fd38 (by omega)
     replace X := Fr.fr X fd38 (by omega)
     clear fd38
     refine lw_nil (qw_block_norm ?_)
     rotate_left 1
    refine qw_round (j, .mk (opPair (peekP c.ts σ').text).1 0 [] [x, (exprR c.ts c.n j (lv + 1) (nextP σ')).1], _, _, (exprR c.ts c.n j (lv + 1) (nextP σ')).2) (by (refine sub_cons rfl ?_; refine sub_cons rfl ?_; refine sub_cons rfl ?_; refine sub_cons rfl ?_; exact sub_nil)) ⟨by assumption, by assumption, Nd.sits.wide (by assumption) (fun b h => ⟨by omega, by omega, by omega⟩), by assumption, X, by omega, rfl, by simp only; omega, by simp only; omega⟩ (by simp)
  · rw [show loopR c.ts c.n (j + 1) lv x σ' = (x, σ') from by rw [loopR]; simp [h0, hb, hl]]
    focus
     refine cw_seq (cS (cM rfl rfl (lw_pure (pur_nilCheck rfl) rfl (lw_pure (pur_fieldAddr tabOk rfl rfl rfl) rfl (lw_load_b tabOk rfl rfl rfl (RP.blk hP) rfl rfl (lw_pure (pur_eql rfl rfl) rfl (cT ?_)))))))
     refine cw_yes rfl (by assumption) ?_
     refine cw_skip (qw_then (cw_block (cS (cM rfl rfl ?_))))
     refine lw_does (does_call (by kernel_rfl) rfl (rpeek_c _ _ _ (by assumption)) (fun _ _ h => ⟨_, h.1⟩)) rfl ?_ (fun _ h => h)
     rintro _ we2 ⟨⟨⟩, xe1⟩
     have ze3 := Ext.size xe1
     replace hP := RP.ext hP xe1
     replace h5 := Blk.ext h5 xe1
     replace hs := Nd.sits.ext hs xe1
     replace h4 := Blk.ext h4 xe1
     replace X := Fr.ext X xe1
     clear xe1
     refine lw_does (does_call (by kernel_rfl) rfl (roperator_c _ _) (fun _ _ h => ⟨_, h.1⟩)) rfl ?_ (fun _ h => h)
     rintro _ we5 ⟨⟨⟩, xe4⟩
     have ze6 := Ext.size xe4
     replace hP := RP.ext hP xe4
     replace h5 := Blk.ext h5 xe4
     replace hs := Nd.sits.ext hs xe4
     replace h4 := Blk.ext h4 xe4
     replace X := Fr.ext X xe4
     clear xe4
     refine cM rfl rfl (lw_pure (pur_extract rfl rfl) rfl (lw_pure (pur_extract rfl rfl) rfl (cA rfl rfl (cA rfl rfl (cT (cw_seq (cS (cM rfl rfl (cM rfl rfl (lw_pure (pur_neq rfl rfl) rfl (cT ?_)))))))))))
     refine cw_yes rfl (by omega) ?_
     refine cw_exit (qw_then_exit (qw_block_pass rfl (qw_then_exit (qw_block_exit (qw_then (cS (lw_loads_b' [_, _, _, _] tabOk rfl rfl rfl h5 rfl rfl rfl ?_)))))))
     (refine lw_store' [_, _, _, _] [_, _, _, _] tabOk rfl rfl rfl rfl rfl rfl h4 rfl rfl ?_; intro we7 ne8)
     have he11 := Put.blk ne8
     have fe9 := Put.fr ne8
     have ze10 := Put.size ne8
     clear ne8 h4
     replace hP := RP.fr hP fe9 (by omega)
     replace h5 := Blk.fr h5 fe9 (by omega)
     replace hs := Nd.sits.fr hs fe9 (by omega)
     replace X := Fr.fr X fe9 (by omega)
     clear fe9
     refine cT (cw_ret (qw_retc rfl tabOk rfl rfl rfl he11 rfl ?_))
     rotate_left 1
    exact rtree_ret (Nd.sits.wide hs (fun b h => h.1)) (by assumption) X
theorem rexprs_c (c : RC) (k : Nat) : RExprsC c k := by
 induction k using Nat.strongRecOn with
 | _ k ih =>
  cases k with
  | zero => exact ⟨fun _ _ _ _ _ _ h => by omega, fun _ _ _ h => by omega, fun _ _ _ h => by omega⟩
  | succ k =>
   have IH : ∀ j, j ≤ k → RExprsC c j := fun j hj => ih j (by omega)
   exact ⟨rexpr_w c k IH, runary_w c k IH, rplace_w c k IH⟩
end Bk
namespace Bk
open Go Go.RowKit Go.Proofs
attribute [local irreducible] Go.Calls
end Bk
namespace Bk
open Go Go.RowKit Go.Proofs
attribute [local irreducible] Go.Calls
structure RStmtsC (c : RC) (k : Nat) : Prop where
 stmt : ∀ (σ : PS) (w : World), RP c σ w → 12 * mS c.ts σ + 14 ≤ k → Calls Tryz.prog 94 #[.pointer (some ⟨c.pb, 0, none⟩)] w (RTreeR c w (stmtR c.ts c.n k σ))
 stmts : ∀ (σ : PS) (w : World), RP c σ w → (σ.err = 0 → 12 * mS c.ts σ + 15 ≤ k) → 1 ≤ k → Calls Tryz.prog 46 #[.pointer (some ⟨c.pb, 0, none⟩)] w (RTreeR c w (.mk 57 0 [] (stmtsR c.ts c.n k [] σ).1, (stmtsR c.ts c.n k [] σ).2))
 body : ∀ (σ : PS) (w : World), RP c σ w → 12 * mS c.ts σ + 16 ≤ k → Calls Tryz.prog 78 #[.pointer (some ⟨c.pb, 0, none⟩)] w (RTreeR c w (bodyR c.ts c.n k σ))
end Bk
namespace Bk
open Go Go.RowKit Go.Proofs
attribute [local irreducible] Go.Calls
end Bk
namespace Bk
open Go Go.RowKit Go.Proofs
attribute [local irreducible] Go.Calls
set_option maxRecDepth 100000 in
set_option maxHeartbeats 1000000 in
theorem rDepth_c (N : Nat) : ∀ (t : Nd) (S : Nat → Prop) (a : Option Addr) (c : Nat) (w : World), t.size < N → t.size ≤ 1000000000 → t.sits S w a →
 Calls Tryz.prog 85 #[t.val a c] w fun e w' => e = .returned (.int .i64 t.depth) ∧ Ext w w' := by
 induction N with
 | zero => intro t S a c w h; omega
 | succ N ih =>
  rintro ⟨k, n, s, l⟩ S a c w hN hM hs
  have IH := Lib.hid ih; clear ih
  simp only [Nd.sits] at hs
  simp only [Nd.size] at hN hM
  have X := Ext.refl w
  have hl := length_rowSize l
  rw [show (Nd.mk k n s l).depth = rowDepth l + 1 from by simp only [Nd.depth]]
  refine calls_in Tryz.func85 Tryz.ntmps85 rfl rfl ?_
  focus
   refine cS ?_
   (refine lw_box' [_, _, _, _] rfl rfl rfl ?_; intro b1 w2 n3)
   have h4 := New.blk n3
   have x5 := New.ext n3
   have p6 := New.pos n3
   have z7 := New.size n3
   clear n3
   replace hs := Bk.rowSits.ext hs x5
   replace X := Ext.ext X x5
   clear x5
   refine cA rfl rfl (cN (cA rfl rfl (cT (cw_seq (cS (cA rfl rfl (cT (cw_block ?_))))))))
   rotate_left 1
  have hbx : Blk w2 b1 [.int .u8 k, .int .i64 n, str s, .slice a l.length c] := h4
  clear h4
  refine cw_loop (ι := Nat) (fun j => [(1, .pointer (some ⟨b1, 0, none⟩)), (4, .int .i64 j), (3, .int .i64 (rowDepth (l.take j)))]) (fun j w' => rowSits S w' l a ∧ Ext w w' ∧ Blk w' b1 [.int .u8 k, .int .i64 n, str s, .slice a l.length c] ∧ j ≤ l.length) (fun j => l.length - j) 0 (by (refine sub_cons rfl ?_; refine sub_cons rfl ?_; refine sub_cons rfl ?_; exact sub_nil)) ⟨hs, X, hbx, Nat.zero_le _⟩ ?_
  rintro j w1 ⟨hs, X, hbx, hj⟩
  by_cases hlt : j < l.length
  · obtain ⟨kb, ko, rfl, hkS, hkid⟩ := kidRows hs (by intro e; subst e; simp at hlt)
    obtain ⟨xa, xc, rx, sx⟩ := hkid j l[j] (List.getElem?_eq_getElem hlt)
    have hsz := size_mem (List.getElem_mem hlt)
    have ht : l.take (j + 1) = l.take j ++ [l[j]] := by rw [List.take_add_one, List.getElem?_eq_getElem hlt]; rfl
    have hb0 := rowDepth_le (l.take j)
    have hb1 := rowSize_take l j
    have hb2 := rowSize_take l (j + 1)
    have hb3 := depth_le l[j]
    rw [ht, rowSize_snoc] at hb2
    clear hkid
    generalize l[j] = x at *
    by_cases hg : rowDepth (l.take j) < x.depth
    · focus
       refine cw_seq (cS (cM rfl rfl (lw_pure (pur_fieldAddr tabOk rfl rfl rfl) rfl (lw_load_b tabOk rfl rfl rfl hbx rfl rfl (lw_pure (pur_len_slice tabOk rfl rfl) rfl (lw_pure (pur_lss rfl rfl) rfl (cT ?_)))))))
       refine cw_yes rfl (by omega) ?_
       refine cw_skip (qw_then (cw_seq (cw_block (cS (lw_pure (pur_fieldAddr tabOk rfl rfl rfl) rfl (lw_load_b tabOk rfl rfl rfl hbx rfl rfl (cM rfl rfl ?_)))))))
       refine lw_pure (pur_indexAddr tabOk rfl rfl rfl rfl (by omega) (by omega)) rfl ?_
       refine lw_loads_r0 tabOk rfl rfl rfl rx rfl rfl ?_
       refine lw_does (does_call (by kernel_rfl) rfl (IH.out _ S _ _ _ (by omega) (by omega) (by assumption)) (fun _ _ h => ⟨_, h.1⟩)) rfl ?_ (fun _ h => h)
       rintro _ wa2 ⟨⟨⟩, xa1⟩
       have za3 := Ext.size xa1
       replace X := Ext.ext X xa1
       replace hs := Bk.rowSits.ext hs xa1
       replace hbx := Blk.ext hbx xa1
       replace rx := Row.ext rx xa1
       replace sx := Nd.sits.ext sx xa1
       clear xa1
       refine cA rfl rfl (cN (cM rfl rfl (cM rfl rfl (lw_pure (pur_gtr rfl rfl) rfl (cT ?_)))))
       refine cw_yes rfl (by assumption) ?_
       refine cw_region (cM rfl rfl (cA rfl rfl (lw_nil (qw_block_norm (qw_then (cw_region (cM rfl rfl ?_)))))))
       refine lw_pure (pur_add rfl rfl (IntWalk.i64_in _ (by omega))) rfl ?_
       refine cA rfl rfl (lw_nil ?_)
       rotate_left 1
      refine qw_round (j + 1) ?_ ⟨hs, X, hbx, by omega⟩ (by omega)
      refine sub_cons rfl (sub_cons rfl (sub_cons' rfl ?_ sub_nil))
      rw [ht, rowDepth_snoc]; congr 1; omega
    · focus
       refine cw_seq (cS (cM rfl rfl (lw_pure (pur_fieldAddr tabOk rfl rfl rfl) rfl (lw_load_b tabOk rfl rfl rfl hbx rfl rfl (lw_pure (pur_len_slice tabOk rfl rfl) rfl (lw_pure (pur_lss rfl rfl) rfl (cT ?_)))))))
       refine cw_yes rfl (by omega) ?_
       refine cw_skip (qw_then (cw_seq (cw_block (cS (lw_pure (pur_fieldAddr tabOk rfl rfl rfl) rfl (lw_load_b tabOk rfl rfl rfl hbx rfl rfl (cM rfl rfl ?_)))))))
       refine lw_pure (pur_indexAddr tabOk rfl rfl rfl rfl (by omega) (by omega)) rfl ?_
       refine lw_loads_r0 tabOk rfl rfl rfl rx rfl rfl ?_
       refine lw_does (does_call (by kernel_rfl) rfl (IH.out _ S _ _ _ (by omega) (by omega) (by assumption)) (fun _ _ h => ⟨_, h.1⟩)) rfl ?_ (fun _ h => h)
       rintro _ wb2 ⟨⟨⟩, xb1⟩
       have zb3 := Ext.size xb1
       replace X := Ext.ext X xb1
       replace hs := Bk.rowSits.ext hs xb1
       replace hbx := Blk.ext hbx xb1
       replace rx := Row.ext rx xb1
       replace sx := Nd.sits.ext sx xb1
       clear xb1
       refine cA rfl rfl (cN (cM rfl rfl (cM rfl rfl (lw_pure (pur_gtr rfl rfl) rfl (cT ?_)))))
       refine cw_no rfl (by assumption) ?_
       refine cw_skip (qw_block_norm (qw_then (cw_region (cM rfl rfl ?_))))
       refine lw_pure (pur_add rfl rfl (IntWalk.i64_in _ (by omega))) rfl ?_
       refine cA rfl rfl (lw_nil ?_)
       rotate_left 1
      refine qw_round (j + 1) ?_ ⟨hs, X, hbx, by omega⟩ (by omega)
      refine sub_cons rfl (sub_cons rfl (sub_cons' rfl ?_ sub_nil))
      rw [ht, rowDepth_snoc]; congr 1; omega
  · have : j = l.length := by omega
    subst this
    have hb0 := rowDepth_le l
    rw [List.take_length]
    focus
     refine cw_seq (cS (cM rfl rfl (lw_pure (pur_fieldAddr tabOk rfl rfl rfl) rfl (lw_load_b tabOk rfl rfl rfl hbx rfl rfl (lw_pure (pur_len_slice tabOk rfl rfl) rfl (lw_pure (pur_lss rfl rfl) rfl (cT ?_)))))))
     refine cw_no rfl (by omega) ?_
     refine cw_exit (qw_then_exit (qw_then_exit (qw_block_exit (qw_then (cS (cM rfl rfl ?_))))))
     refine lw_pure (pur_add rfl rfl (IntWalk.i64_in _ (by omega))) rfl ?_
     refine cA rfl rfl (cT (cw_ret (qw_ret1 rfl rfl ?_)))
     rotate_left 1
    exact ⟨rfl, X⟩
set_option maxRecDepth 100000 in
set_option maxHeartbeats 1000000 in
theorem rSize_c (N : Nat) : ∀ (t : Nd) (S : Nat → Prop) (a : Option Addr) (c : Nat) (w : World), t.size < N → t.size ≤ 1000000000 → t.sits S w a →
 Calls Tryz.prog 86 #[t.val a c] w fun e w' => e = .returned (.int .i64 t.size) ∧ Ext w w' := by
 induction N with
 | zero => intro t S a c w h; omega
 | succ N ih =>
  rintro ⟨k, n, s, l⟩ S a c w hN hM hs
  have IH := Lib.hid ih; clear ih
  simp only [Nd.sits] at hs
  simp only [Nd.size] at hN hM
  have X := Ext.refl w
  have hl := length_rowSize l
  rw [show ((Nd.mk k n s l).size : Int) = ((rowSize l : Nat) : Int) + 1 from by simp only [Nd.size]; omega]
  refine calls_in Tryz.func86 Tryz.ntmps86 rfl rfl ?_
  focus
   refine cS ?_
   (refine lw_box' [_, _, _, _] rfl rfl rfl ?_; intro b1 w2 n3)
   have h4 := New.blk n3
   have x5 := New.ext n3
   have p6 := New.pos n3
   have z7 := New.size n3
   clear n3
   replace hs := Bk.rowSits.ext hs x5
   replace X := Ext.ext X x5
   clear x5
   refine cA rfl rfl (cN (cA rfl rfl (cT (cw_seq (cS (cA rfl rfl (cT (cw_block ?_))))))))
   rotate_left 1
  have hbx : Blk w2 b1 [.int .u8 k, .int .i64 n, str s, .slice a l.length c] := h4
  clear h4
  refine cw_loop (ι := Nat) (fun j => [(1, .pointer (some ⟨b1, 0, none⟩)), (4, .int .i64 j), (3, .int .i64 (((rowSize (l.take j) : Nat) : Int) + 1))]) (fun j w' => rowSits S w' l a ∧ Ext w w' ∧ Blk w' b1 [.int .u8 k, .int .i64 n, str s, .slice a l.length c] ∧ j ≤ l.length) (fun j => l.length - j) 0 (by (refine sub_cons rfl ?_; refine sub_cons rfl ?_; refine sub_cons rfl ?_; exact sub_nil)) ⟨hs, X, hbx, Nat.zero_le _⟩ ?_
  rintro j w1 ⟨hs, X, hbx, hj⟩
  by_cases hlt : j < l.length
  · obtain ⟨kb, ko, rfl, hkS, hkid⟩ := kidRows hs (by intro e; subst e; simp at hlt)
    obtain ⟨xa, xc, rx, sx⟩ := hkid j l[j] (List.getElem?_eq_getElem hlt)
    have hsz := size_mem (List.getElem_mem hlt)
    have ht : l.take (j + 1) = l.take j ++ [l[j]] := by rw [List.take_add_one, List.getElem?_eq_getElem hlt]; rfl
    have hb0 := rowDepth_le (l.take j)
    have hb1 := rowSize_take l j
    have hb2 := rowSize_take l (j + 1)
    have hb3 := depth_le l[j]
    rw [ht, rowSize_snoc] at hb2
    clear hkid
    generalize l[j] = x at *
    focus
     refine cw_seq (cS (cM rfl rfl (lw_pure (pur_fieldAddr tabOk rfl rfl rfl) rfl (lw_load_b tabOk rfl rfl rfl hbx rfl rfl (lw_pure (pur_len_slice tabOk rfl rfl) rfl (lw_pure (pur_lss rfl rfl) rfl (cT ?_)))))))
     refine cw_yes rfl (by omega) ?_
     refine cw_skip (qw_then (cw_seq (cw_block (cw_region (cM rfl rfl (lw_pure (pur_fieldAddr tabOk rfl rfl rfl) rfl (lw_load_b tabOk rfl rfl rfl hbx rfl rfl (cM rfl rfl ?_))))))))
     refine lw_pure (pur_indexAddr tabOk rfl rfl rfl rfl (by omega) (by omega)) rfl ?_
     refine lw_loads_r0 tabOk rfl rfl rfl rx rfl rfl ?_
     refine lw_does (does_call (by kernel_rfl) rfl (IH.out _ S _ _ _ (by omega) (by omega) (by assumption)) (fun _ _ h => ⟨_, h.1⟩)) rfl ?_ (fun _ h => h)
     rintro _ wa2 ⟨⟨⟩, xa1⟩
     have za3 := Ext.size xa1
     replace X := Ext.ext X xa1
     replace hs := Bk.rowSits.ext hs xa1
     replace hbx := Blk.ext hbx xa1
     replace rx := Row.ext rx xa1
     replace sx := Nd.sits.ext sx xa1
     clear xa1
     refine lw_pure (pur_add rfl rfl (IntWalk.i64_in _ (by omega))) rfl ?_
     refine cA rfl rfl (lw_nil (qw_block_norm (qw_then (cw_region (cM rfl rfl ?_)))))
     refine lw_pure (pur_add rfl rfl (IntWalk.i64_in _ (by omega))) rfl ?_
     refine cA rfl rfl (lw_nil ?_)
     rotate_left 1
    refine qw_round (j + 1) ?_ ⟨hs, X, hbx, by omega⟩ (by omega)
    refine sub_cons rfl (sub_cons rfl (sub_cons' rfl ?_ sub_nil))
    rw [ht, rowSize_snoc]; congr 1; omega
  · have : j = l.length := by omega
    subst this
    have hb0 := rowDepth_le l
    rw [List.take_length]
    focus
     refine cw_seq (cS (cM rfl rfl (lw_pure (pur_fieldAddr tabOk rfl rfl rfl) rfl (lw_load_b tabOk rfl rfl rfl hbx rfl rfl (lw_pure (pur_len_slice tabOk rfl rfl) rfl (lw_pure (pur_lss rfl rfl) rfl (cT ?_)))))))
     refine cw_no rfl (by omega) ?_
     refine cw_exit (qw_then_exit (qw_then_exit (qw_block_exit (qw_then (cS (cM rfl rfl (cA rfl rfl (cT (cw_ret (qw_ret1 rfl rfl ?_))))))))))
     rotate_left 1
    exact ⟨rfl, X⟩
end Bk
namespace Bk
open Go Go.RowKit Go.Proofs
attribute [local irreducible] Go.Calls
set_option maxRecDepth 100000 in
set_option maxHeartbeats 1000000 in
theorem rlimits_c (c : RC) (σ : PS) (t : Nd) (S : Nat → Prop) (a : Option Addr) (k : Nat) (off : Int) (w : World) (hP : RP c σ w) (hz : σ.err = 0 → t.size ≤ 1000000000) (hs : t.sits S w a) (hS : ∀ b, S b → b ≠ c.pb) :
 Calls Tryz.prog 43 #[.pointer (some ⟨c.pb, 0, none⟩), t.val a k, .int .i64 off] w fun r w' => r = .returned (.tuple #[]) ∧ RP c (limitP t off σ) w' ∧ Fr (· = c.pb) w w' := by
 have X := Fr.refl (· = c.pb) w
 have hpb := hP.pbB
 have hB := hP.B
 by_cases h0 : σ.err = 0
 · have hz' := hz h0
   by_cases hd : 80 < t.depth
   · rw [show limitP t off σ = failP σ off 19 from by simp [limitP, h0, hd]]
     have he := fail_err (σ := σ) (off := off) (e := 19) (by decide)
     refine calls_in Tryz.func43 Tryz.ntmps43 rfl rfl ?_
     focus
      refine cS ?_
      (refine lw_box' [_, _, _, _] rfl rfl rfl ?_; intro b1 w2 n3)
      have h4 := New.blk n3
      have x5 := New.ext n3
      have p6 := New.pos n3
      have z7 := New.size n3
      clear n3
      replace hP := RP.ext hP x5
      replace hs := Nd.sits.ext hs x5
      replace X := Fr.ext X x5
      clear x5
      refine cT (cw_seq (cS (cM rfl rfl (lw_pure (pur_nilCheck rfl) rfl (lw_pure (pur_fieldAddr tabOk rfl rfl rfl) rfl (lw_load_b tabOk rfl rfl rfl (RP.blk hP) rfl rfl (lw_pure (pur_eql rfl rfl) rfl (cM rfl rfl ?_))))))))
      refine lw_on rfl rfl rfl (gd_tt (by assumption)) ?_
      refine lw_loads_b' [_, _, _, _] tabOk rfl rfl rfl h4 rfl rfl rfl ?_
      refine lw_on rfl rfl rfl (gd_tt (by assumption)) ?_
      refine lw_does (does_call (by kernel_rfl) rfl (rDepth_c _ _ _ _ _ _ (Nat.lt_succ_self _) (by omega) (by assumption)) (fun _ _ h => ⟨_, h.1⟩)) rfl ?_ (fun _ h => h)
      rintro _ w9 ⟨⟨⟩, x8⟩
      have z10 := Ext.size x8
      replace h4 := Blk.ext h4 x8
      replace hP := RP.ext hP x8
      replace hs := Nd.sits.ext hs x8
      replace X := Fr.ext X x8
      clear x8
      refine lw_on rfl rfl rfl (gd_tt (by assumption)) ?_
      refine lw_pure (pur_gtr rfl rfl) rfl ?_
      refine lw_pure (pur_pick_yes rfl rfl (by assumption)) rfl ?_
      refine cT ?_
      refine cw_yes rfl (by assumption) ?_
      refine cw_region (cM rfl rfl (cM rfl rfl ?_))
      refine lw_does (does_call (by kernel_rfl) rfl (rfail_c _ _ _ _ _ (by assumption)) (fun _ _ h => ⟨_, h.1⟩)) rfl ?_ (fun _ h => h)
      rintro _ w13 ⟨⟨⟩, ⟨h11, f12⟩⟩
      have z14 := Fr.size f12
      replace h4 := Blk.fr h4 f12 (by omega)
      clear hP
      replace hs := Nd.sits.fr hs f12 (fun k hk e => hS k hk e)
      replace X := Fr.fr X f12 (by omega)
      clear f12
      refine cN (cM rfl rfl (lw_pure (pur_nilCheck rfl) rfl (lw_pure (pur_fieldAddr tabOk rfl rfl rfl) rfl (lw_load_b tabOk rfl rfl rfl (RP.blk h11) rfl rfl (lw_pure (pur_eql rfl rfl) rfl (cM rfl rfl ?_))))))
      refine lw_off rfl rfl rfl (gd_tf (by assumption)) rfl ?_
      refine lw_off rfl rfl rfl (gd_tf (by assumption)) rfl ?_
      refine lw_off rfl rfl rfl (gd_tf (by assumption)) rfl ?_
      refine lw_pure (pur_pick_no rfl rfl (by assumption)) rfl ?_
      refine cT (cw_cond_f rfl (cw_skip (qw_end0 rfl ?_)))
      rotate_left 1
     exact ⟨rfl, by assumption, X⟩
   · by_cases h2 : 2000 < t.size
     · rw [show limitP t off σ = failP σ off 5 from by simp [limitP, h0, hd, h2]]
       refine calls_in Tryz.func43 Tryz.ntmps43 rfl rfl ?_
       focus
        refine cS ?_
        (refine lw_box' [_, _, _, _] rfl rfl rfl ?_; intro ba1 wa2 na3)
        have ha4 := New.blk na3
        have xa5 := New.ext na3
        have pa6 := New.pos na3
        have za7 := New.size na3
        clear na3
        replace hP := RP.ext hP xa5
        replace hs := Nd.sits.ext hs xa5
        replace X := Fr.ext X xa5
        clear xa5
        refine cT (cw_seq (cS (cM rfl rfl (lw_pure (pur_nilCheck rfl) rfl (lw_pure (pur_fieldAddr tabOk rfl rfl rfl) rfl (lw_load_b tabOk rfl rfl rfl (RP.blk hP) rfl rfl (lw_pure (pur_eql rfl rfl) rfl (cM rfl rfl ?_))))))))
        refine lw_on rfl rfl rfl (gd_tt (by assumption)) ?_
        refine lw_loads_b' [_, _, _, _] tabOk rfl rfl rfl ha4 rfl rfl rfl ?_
        refine lw_on rfl rfl rfl (gd_tt (by assumption)) ?_
        refine lw_does (does_call (by kernel_rfl) rfl (rDepth_c _ _ _ _ _ _ (Nat.lt_succ_self _) (by omega) (by assumption)) (fun _ _ h => ⟨_, h.1⟩)) rfl ?_ (fun _ h => h)
        rintro _ wa9 ⟨⟨⟩, xa8⟩
        have za10 := Ext.size xa8
        replace ha4 := Blk.ext ha4 xa8
        replace hP := RP.ext hP xa8
        replace hs := Nd.sits.ext hs xa8
        replace X := Fr.ext X xa8
        clear xa8
        refine lw_on rfl rfl rfl (gd_tt (by assumption)) ?_
        refine lw_pure (pur_gtr rfl rfl) rfl ?_
        refine lw_pure (pur_pick_yes rfl rfl (by assumption)) rfl ?_
        refine cT ?_
        refine cw_no rfl (by assumption) ?_
        refine cw_skip (qw_then (cS (cM rfl rfl (lw_pure (pur_nilCheck rfl) rfl (lw_pure (pur_fieldAddr tabOk rfl rfl rfl) rfl (lw_load_b tabOk rfl rfl rfl (RP.blk hP) rfl rfl (lw_pure (pur_eql rfl rfl) rfl (cM rfl rfl ?_))))))))
        refine lw_on rfl rfl rfl (gd_tt (by assumption)) ?_
        refine lw_loads_b' [_, _, _, _] tabOk rfl rfl rfl ha4 rfl rfl rfl ?_
        refine lw_on rfl rfl rfl (gd_tt (by assumption)) ?_
        refine lw_does (does_call (by kernel_rfl) rfl (rSize_c _ _ _ _ _ _ (Nat.lt_succ_self _) (by omega) (by assumption)) (fun _ _ h => ⟨_, h.1⟩)) rfl ?_ (fun _ h => h)
        rintro _ wa12 ⟨⟨⟩, xa11⟩
        have za13 := Ext.size xa11
        replace ha4 := Blk.ext ha4 xa11
        replace hP := RP.ext hP xa11
        replace hs := Nd.sits.ext hs xa11
        replace X := Fr.ext X xa11
        clear xa11
        refine lw_on rfl rfl rfl (gd_tt (by assumption)) ?_
        refine lw_pure (pur_gtr rfl rfl) rfl ?_
        refine lw_pure (pur_pick_yes rfl rfl (by assumption)) rfl ?_
        refine cT ?_
        refine cw_yes rfl (by omega) ?_
        refine cw_region (cM rfl rfl (cM rfl rfl ?_))
        refine lw_does (does_call (by kernel_rfl) rfl (rfail_c _ _ _ _ _ (by assumption)) (fun _ _ h => ⟨_, h.1⟩)) rfl ?_ (fun _ h => h)
        rintro _ wa16 ⟨⟨⟩, ⟨ha14, fa15⟩⟩
        have za17 := Fr.size fa15
        replace ha4 := Blk.fr ha4 fa15 (by omega)
        clear hP
        replace hs := Nd.sits.fr hs fa15 (fun k hk e => hS k hk e)
        replace X := Fr.fr X fa15 (by omega)
        clear fa15
        refine lw_nil (qw_end0 rfl ?_)
        rotate_left 1
       exact ⟨rfl, by assumption, X⟩
     · rw [show limitP t off σ = σ from by simp [limitP, h0, hd, h2]]
       refine calls_in Tryz.func43 Tryz.ntmps43 rfl rfl ?_
       focus
        refine cS ?_
        (refine lw_box' [_, _, _, _] rfl rfl rfl ?_; intro bb1 wb2 nb3)
        have hb4 := New.blk nb3
        have xb5 := New.ext nb3
        have pb6 := New.pos nb3
        have zb7 := New.size nb3
        clear nb3
        replace hP := RP.ext hP xb5
        replace hs := Nd.sits.ext hs xb5
        replace X := Fr.ext X xb5
        clear xb5
        refine cT (cw_seq (cS (cM rfl rfl (lw_pure (pur_nilCheck rfl) rfl (lw_pure (pur_fieldAddr tabOk rfl rfl rfl) rfl (lw_load_b tabOk rfl rfl rfl (RP.blk hP) rfl rfl (lw_pure (pur_eql rfl rfl) rfl (cM rfl rfl ?_))))))))
        refine lw_on rfl rfl rfl (gd_tt (by assumption)) ?_
        refine lw_loads_b' [_, _, _, _] tabOk rfl rfl rfl hb4 rfl rfl rfl ?_
        refine lw_on rfl rfl rfl (gd_tt (by assumption)) ?_
        refine lw_does (does_call (by kernel_rfl) rfl (rDepth_c _ _ _ _ _ _ (Nat.lt_succ_self _) (by omega) (by assumption)) (fun _ _ h => ⟨_, h.1⟩)) rfl ?_ (fun _ h => h)
        rintro _ wb9 ⟨⟨⟩, xb8⟩
        have zb10 := Ext.size xb8
        replace hb4 := Blk.ext hb4 xb8
        replace hP := RP.ext hP xb8
        replace hs := Nd.sits.ext hs xb8
        replace X := Fr.ext X xb8
        clear xb8
        refine lw_on rfl rfl rfl (gd_tt (by assumption)) ?_
        refine lw_pure (pur_gtr rfl rfl) rfl ?_
        refine lw_pure (pur_pick_yes rfl rfl (by assumption)) rfl ?_
        refine cT ?_
        refine cw_no rfl (by assumption) ?_
        refine cw_skip (qw_then (cS (cM rfl rfl (lw_pure (pur_nilCheck rfl) rfl (lw_pure (pur_fieldAddr tabOk rfl rfl rfl) rfl (lw_load_b tabOk rfl rfl rfl (RP.blk hP) rfl rfl (lw_pure (pur_eql rfl rfl) rfl (cM rfl rfl ?_))))))))
        refine lw_on rfl rfl rfl (gd_tt (by assumption)) ?_
        refine lw_loads_b' [_, _, _, _] tabOk rfl rfl rfl hb4 rfl rfl rfl ?_
        refine lw_on rfl rfl rfl (gd_tt (by assumption)) ?_
        refine lw_does (does_call (by kernel_rfl) rfl (rSize_c _ _ _ _ _ _ (Nat.lt_succ_self _) (by omega) (by assumption)) (fun _ _ h => ⟨_, h.1⟩)) rfl ?_ (fun _ h => h)
        rintro _ wb12 ⟨⟨⟩, xb11⟩
        have zb13 := Ext.size xb11
        replace hb4 := Blk.ext hb4 xb11
        replace hP := RP.ext hP xb11
        replace hs := Nd.sits.ext hs xb11
        replace X := Fr.ext X xb11
        clear xb11
        refine lw_on rfl rfl rfl (gd_tt (by assumption)) ?_
        refine lw_pure (pur_gtr rfl rfl) rfl ?_
        refine lw_pure (pur_pick_yes rfl rfl (by assumption)) rfl ?_
        refine cT ?_
        refine cw_no rfl (by omega) ?_
        refine cw_skip (qw_end0 rfl ?_)
        rotate_left 1
       exact ⟨rfl, by assumption, X⟩
 · rw [show limitP t off σ = σ from by simp [limitP, h0]]
   refine calls_in Tryz.func43 Tryz.ntmps43 rfl rfl ?_
   focus
    refine cS ?_
    (refine lw_box' [_, _, _, _] rfl rfl rfl ?_; intro bc1 wc2 nc3)
    have hc4 := New.blk nc3
    have xc5 := New.ext nc3
    have pc6 := New.pos nc3
    have zc7 := New.size nc3
    clear nc3
    replace hP := RP.ext hP xc5
    replace hs := Nd.sits.ext hs xc5
    replace X := Fr.ext X xc5
    clear xc5
    refine cT (cw_seq (cS (cM rfl rfl (lw_pure (pur_nilCheck rfl) rfl (lw_pure (pur_fieldAddr tabOk rfl rfl rfl) rfl (lw_load_b tabOk rfl rfl rfl (RP.blk hP) rfl rfl (lw_pure (pur_eql rfl rfl) rfl (cM rfl rfl ?_))))))))
    refine lw_off rfl rfl rfl (gd_tf (by assumption)) rfl ?_
    refine lw_off rfl rfl rfl (gd_tf (by assumption)) rfl ?_
    refine lw_off rfl rfl rfl (gd_tf (by assumption)) rfl ?_
    refine lw_pure (pur_pick_no rfl rfl (by assumption)) rfl ?_
    refine cT (cw_cond_f rfl (cw_skip (qw_then (cS (cM rfl rfl (lw_pure (pur_nilCheck rfl) rfl (lw_pure (pur_fieldAddr tabOk rfl rfl rfl) rfl (lw_load_b tabOk rfl rfl rfl (RP.blk hP) rfl rfl (lw_pure (pur_eql rfl rfl) rfl (cM rfl rfl ?_))))))))))
    refine lw_off rfl rfl rfl (gd_tf (by assumption)) rfl ?_
    refine lw_off rfl rfl rfl (gd_tf (by assumption)) rfl ?_
    refine lw_off rfl rfl rfl (gd_tf (by assumption)) rfl ?_
    refine lw_pure (pur_pick_no rfl rfl (by assumption)) rfl ?_
    refine cT (cw_cond_f rfl (cw_skip (qw_end0 rfl ?_)))
    rotate_left 1
   exact ⟨rfl, by assumption, X⟩
end Bk
namespace Bk
open Go Go.RowKit Go.Proofs
attribute [local irreducible] Go.Calls
set_option maxRecDepth 100000 in
set_option maxHeartbeats 1000000 in
theorem rfinish_c (c : RC) (σ : PS) (w : World) (hP : RP c σ w) :
 Calls Tryz.prog 37 #[.pointer (some ⟨c.pb, 0, none⟩)] w fun r w' => r = .returned (.tuple #[.int .i64 (finishP c.ts c.n σ).off, .int .i64 (finishP c.ts c.n σ).err]) ∧ RP c (finishP c.ts c.n σ) w' ∧ Fr (· = c.pb) w w' := by
 have X := Fr.refl (· = c.pb) w
 have hpb := hP.pbB
 have hB := hP.B
 by_cases h0 : σ.err = 0
 · by_cases hlt : σ.at_ < c.ts.length
   · rw [show finishP c.ts c.n σ = failP σ (posR c.ts c.n σ) 3 from by rw [posR_in hlt]; simp [finishP, unexpP, hlt]]
     refine calls_in Tryz.func37 Tryz.ntmps37 rfl rfl ?_
     focus
      refine cS (cA rfl rfl (cA rfl rfl (cT (cw_seq (cw_seq ?_)))))
      (refine cw_tdraw (fun wz => Ext w wz) 15 (.pure 0 (.pure 1 (.pure 2 (.pure 3 (.pure 4 (.pure 5 (.pure 6 (.pure 7 (.pure 8 (.pure 9 (.pure 10 (.pure 11 (.pure 12 (.pure 13 (.pure 14 .tail))))))))))))))) mixed (by kernel_rfl) (panicOk_then (panicOk_then panicOk_body)) ?_; intro w1 x2 _)
      have qs3 : (fun wz => Ext w wz) w1 := x2
      simp only at qs3
      have d_hP := hP
      have z4 := Ext.size x2
      replace hP := RP.ext hP x2
      replace X := Fr.ext X x2
      clear x2
      refine ⟨qs3, ?_⟩
      refine tw_pure rfl (pur_move rfl) rfl (tw_pure rfl (pur_nilCheck rfl) rfl (tw_pure rfl (pur_fieldAddr tabOk rfl rfl rfl) rfl (tw_pure rfl (pur_load tabOk rfl rfl rfl (fun wz hz => Blk.cell (Blk.ext (RP.blk d_hP) hz) rfl)) rfl (tw_pure rfl (pur_eql rfl rfl) rfl (tw_pure rfl (pur_move rfl) rfl ?_)))))
      refine tw_on rfl rfl rfl rfl (gd_tt (by assumption)) (pur_move rfl) rfl ?_
      refine tw_on rfl rfl rfl rfl (gd_tt (by assumption)) (pur_nilCheck rfl) rfl ?_
      refine tw_on rfl rfl rfl rfl (gd_tt (by assumption)) (pur_fieldAddr tabOk rfl rfl rfl) rfl ?_
      refine tw_on rfl rfl rfl rfl (gd_tt (by assumption)) (pur_load tabOk rfl rfl rfl (fun wz hz => Blk.cell (Blk.ext (RP.blk d_hP) hz) rfl)) rfl ?_
      refine tw_on rfl rfl rfl rfl (gd_tt (by assumption)) (pur_move rfl) rfl ?_
      refine tw_on rfl rfl rfl rfl (gd_tt (by assumption)) (pur_nilCheck rfl) rfl ?_
      refine tw_on rfl rfl rfl rfl (gd_tt (by assumption)) (pur_fieldAddr0 tabOk rfl rfl rfl) rfl ?_
      refine tw_on rfl rfl rfl rfl (gd_tt (by assumption)) (pur_load tabOk rfl rfl rfl (fun wz hz => Blk.cell (Blk.ext (RP.blk d_hP) hz) rfl)) rfl ?_
      refine tw_on rfl rfl rfl rfl (gd_tt (by assumption)) (pur_len_slice tabOk rfl rfl) rfl ?_
      clear qs3 d_hP
      refine tw_tail rfl ?_
      refine lw_on rfl rfl rfl (gd_tt (by assumption)) ?_
      refine lw_pure (pur_lss rfl rfl) rfl ?_
      refine lw_pure (pur_pick_yes rfl rfl (by assumption)) rfl ?_
      refine cT ?_
      refine cw_yes rfl (by omega) ?_
      refine cw_region (cM rfl rfl (cM rfl rfl ?_))
      refine lw_does (does_call (by kernel_rfl) rfl (rpos_c _ _ _ (by assumption)) (fun _ _ h => ⟨_, h.1⟩)) rfl ?_ (fun _ h => h)
      rintro _ w6 ⟨⟨⟩, x5⟩
      have z7 := Ext.size x5
      replace hP := RP.ext hP x5
      replace X := Fr.ext X x5
      clear x5
      refine lw_does (does_call (by kernel_rfl) rfl (rfail_c _ _ _ _ _ (by assumption)) (fun _ _ h => ⟨_, h.1⟩)) rfl ?_ (fun _ h => h)
      rintro _ w10 ⟨⟨⟩, ⟨h8, f9⟩⟩
      have z11 := Fr.size f9
      clear hP
      replace X := Fr.fr X f9 (by omega)
      clear f9
      refine cT (cw_seq ?_)
      (refine cw_tdraw (fun wz => Ext w10 wz) 9 (.pure 0 (.pure 1 (.pure 2 (.pure 3 (.pure 4 (.pure 5 (.pure 6 (.pure 7 (.pure 8 .tail))))))))) mixed (by kernel_rfl) (panicOk_then panicOk_body) ?_; intro w12 x13 _)
      have qs14 : (fun wz => Ext w10 wz) w12 := x13
      simp only at qs14
      have d_h8 := h8
      have z15 := Ext.size x13
      replace h8 := RP.ext h8 x13
      replace X := Fr.ext X x13
      clear x13
      refine ⟨qs14, ?_⟩
      refine tw_pure rfl (pur_move rfl) rfl (tw_pure rfl (pur_nilCheck rfl) rfl (tw_pure rfl (pur_fieldAddr tabOk rfl rfl rfl) rfl (tw_pure rfl (pur_load tabOk rfl rfl rfl (fun wz hz => Blk.cell (Blk.ext (RP.blk d_h8) hz) rfl)) rfl (tw_pure rfl (pur_move rfl) rfl (tw_pure rfl (pur_nilCheck rfl) rfl (tw_pure rfl (pur_fieldAddr tabOk rfl rfl rfl) rfl (tw_pure rfl (pur_load tabOk rfl rfl rfl (fun wz hz => Blk.cell (Blk.ext (RP.blk d_h8) hz) rfl)) rfl (tw_pure rfl (pur_assign rfl) rfl ?_))))))))
      clear qs14 d_h8
      refine tw_tail rfl (cA rfl rfl (cT (cw_ret (qw_ret2 rfl rfl rfl ?_))))
      rotate_left 1
     exact ⟨rfl, by assumption, X⟩
   · rw [show finishP c.ts c.n σ = σ from by simp [finishP, hlt]]
     refine calls_in Tryz.func37 Tryz.ntmps37 rfl rfl ?_
     focus
      refine cS (cA rfl rfl (cA rfl rfl (cT (cw_seq (cw_seq ?_)))))
      (refine cw_tdraw (fun wz => Ext w wz) 15 (.pure 0 (.pure 1 (.pure 2 (.pure 3 (.pure 4 (.pure 5 (.pure 6 (.pure 7 (.pure 8 (.pure 9 (.pure 10 (.pure 11 (.pure 12 (.pure 13 (.pure 14 .tail))))))))))))))) mixed (by kernel_rfl) (panicOk_then (panicOk_then panicOk_body)) ?_; intro wa1 xa2 _)
      have qsa3 : (fun wz => Ext w wz) wa1 := xa2
      simp only at qsa3
      have d_hP := hP
      have za4 := Ext.size xa2
      replace hP := RP.ext hP xa2
      replace X := Fr.ext X xa2
      clear xa2
      refine ⟨qsa3, ?_⟩
      refine tw_pure rfl (pur_move rfl) rfl (tw_pure rfl (pur_nilCheck rfl) rfl (tw_pure rfl (pur_fieldAddr tabOk rfl rfl rfl) rfl (tw_pure rfl (pur_load tabOk rfl rfl rfl (fun wz hz => Blk.cell (Blk.ext (RP.blk d_hP) hz) rfl)) rfl (tw_pure rfl (pur_eql rfl rfl) rfl (tw_pure rfl (pur_move rfl) rfl ?_)))))
      refine tw_on rfl rfl rfl rfl (gd_tt (by assumption)) (pur_move rfl) rfl ?_
      refine tw_on rfl rfl rfl rfl (gd_tt (by assumption)) (pur_nilCheck rfl) rfl ?_
      refine tw_on rfl rfl rfl rfl (gd_tt (by assumption)) (pur_fieldAddr tabOk rfl rfl rfl) rfl ?_
      refine tw_on rfl rfl rfl rfl (gd_tt (by assumption)) (pur_load tabOk rfl rfl rfl (fun wz hz => Blk.cell (Blk.ext (RP.blk d_hP) hz) rfl)) rfl ?_
      refine tw_on rfl rfl rfl rfl (gd_tt (by assumption)) (pur_move rfl) rfl ?_
      refine tw_on rfl rfl rfl rfl (gd_tt (by assumption)) (pur_nilCheck rfl) rfl ?_
      refine tw_on rfl rfl rfl rfl (gd_tt (by assumption)) (pur_fieldAddr0 tabOk rfl rfl rfl) rfl ?_
      refine tw_on rfl rfl rfl rfl (gd_tt (by assumption)) (pur_load tabOk rfl rfl rfl (fun wz hz => Blk.cell (Blk.ext (RP.blk d_hP) hz) rfl)) rfl ?_
      refine tw_on rfl rfl rfl rfl (gd_tt (by assumption)) (pur_len_slice tabOk rfl rfl) rfl ?_
      clear qsa3 d_hP
      refine tw_tail rfl ?_
      refine lw_on rfl rfl rfl (gd_tt (by assumption)) ?_
      refine lw_pure (pur_lss rfl rfl) rfl ?_
      refine lw_pure (pur_pick_yes rfl rfl (by assumption)) rfl ?_
      refine cT ?_
      refine cw_no rfl (by omega) ?_
      refine cw_skip (qw_then (cw_seq ?_))
      (refine cw_tdraw (fun wz => Ext wa1 wz) 9 (.pure 0 (.pure 1 (.pure 2 (.pure 3 (.pure 4 (.pure 5 (.pure 6 (.pure 7 (.pure 8 .tail))))))))) mixed (by kernel_rfl) (panicOk_then panicOk_body) ?_; intro wa5 xa6 _)
      have qsa7 : (fun wz => Ext wa1 wz) wa5 := xa6
      simp only at qsa7
      have d_hP := hP
      have za8 := Ext.size xa6
      replace hP := RP.ext hP xa6
      replace X := Fr.ext X xa6
      clear xa6
      refine ⟨qsa7, ?_⟩
      refine tw_pure rfl (pur_move rfl) rfl (tw_pure rfl (pur_nilCheck rfl) rfl (tw_pure rfl (pur_fieldAddr tabOk rfl rfl rfl) rfl (tw_pure rfl (pur_load tabOk rfl rfl rfl (fun wz hz => Blk.cell (Blk.ext (RP.blk d_hP) hz) rfl)) rfl (tw_pure rfl (pur_move rfl) rfl (tw_pure rfl (pur_nilCheck rfl) rfl (tw_pure rfl (pur_fieldAddr tabOk rfl rfl rfl) rfl (tw_pure rfl (pur_load tabOk rfl rfl rfl (fun wz hz => Blk.cell (Blk.ext (RP.blk d_hP) hz) rfl)) rfl (tw_pure rfl (pur_assign rfl) rfl ?_))))))))
      clear qsa7 d_hP
      refine tw_tail rfl (cA rfl rfl (cT (cw_ret (qw_ret2 rfl rfl rfl ?_))))
      rotate_left 1
     exact ⟨rfl, by assumption, X⟩
 · rw [show finishP c.ts c.n σ = σ from by
    unfold finishP unexpP failP
    split
    · simp [h0]
    · rfl]
   refine calls_in Tryz.func37 Tryz.ntmps37 rfl rfl ?_
   focus
    refine cS (cA rfl rfl (cA rfl rfl (cT (cw_seq (cw_seq ?_)))))
    (refine cw_tdraw (fun wz => Ext w wz) 15 (.pure 0 (.pure 1 (.pure 2 (.pure 3 (.pure 4 (.pure 5 (.pure 6 (.pure 7 (.pure 8 (.pure 9 (.pure 10 (.pure 11 (.pure 12 (.pure 13 (.pure 14 .tail))))))))))))))) mixed (by kernel_rfl) (panicOk_then (panicOk_then panicOk_body)) ?_; intro wb1 xb2 _)
    have qsb3 : (fun wz => Ext w wz) wb1 := xb2
    simp only at qsb3
    have d_hP := hP
    have zb4 := Ext.size xb2
    replace hP := RP.ext hP xb2
    replace X := Fr.ext X xb2
    clear xb2
    refine ⟨qsb3, ?_⟩
    refine tw_pure rfl (pur_move rfl) rfl (tw_pure rfl (pur_nilCheck rfl) rfl (tw_pure rfl (pur_fieldAddr tabOk rfl rfl rfl) rfl (tw_pure rfl (pur_load tabOk rfl rfl rfl (fun wz hz => Blk.cell (Blk.ext (RP.blk d_hP) hz) rfl)) rfl (tw_pure rfl (pur_eql rfl rfl) rfl (tw_pure rfl (pur_move rfl) rfl ?_)))))
    refine tw_off rfl rfl rfl rfl (gd_tf (by assumption)) rfl ?_
    refine tw_off rfl rfl rfl rfl (gd_tf (by assumption)) rfl ?_
    refine tw_off rfl rfl rfl rfl (gd_tf (by assumption)) rfl ?_
    refine tw_off rfl rfl rfl rfl (gd_tf (by assumption)) rfl ?_
    refine tw_off rfl rfl rfl rfl (gd_tf (by assumption)) rfl ?_
    refine tw_off rfl rfl rfl rfl (gd_tf (by assumption)) rfl ?_
    refine tw_off rfl rfl rfl rfl (gd_tf (by assumption)) rfl ?_
    refine tw_off rfl rfl rfl rfl (gd_tf (by assumption)) rfl ?_
    refine tw_off rfl rfl rfl rfl (gd_tf (by assumption)) rfl ?_
    clear qsb3 d_hP
    refine tw_tail rfl ?_
    refine lw_off rfl rfl rfl (gd_tf (by assumption)) rfl ?_
    refine lw_pure (pur_pick_no rfl rfl (by assumption)) rfl ?_
    refine cT (cw_cond_f rfl (cw_skip (qw_then (cw_seq ?_))))
    (refine cw_tdraw (fun wz => Ext wb1 wz) 9 (.pure 0 (.pure 1 (.pure 2 (.pure 3 (.pure 4 (.pure 5 (.pure 6 (.pure 7 (.pure 8 .tail))))))))) mixed (by kernel_rfl) (panicOk_then panicOk_body) ?_; intro wb5 xb6 _)
    have qsb7 : (fun wz => Ext wb1 wz) wb5 := xb6
    simp only at qsb7
    have d_hP := hP
    have zb8 := Ext.size xb6
    replace hP := RP.ext hP xb6
    replace X := Fr.ext X xb6
    clear xb6
    refine ⟨qsb7, ?_⟩
    refine tw_pure rfl (pur_move rfl) rfl (tw_pure rfl (pur_nilCheck rfl) rfl (tw_pure rfl (pur_fieldAddr tabOk rfl rfl rfl) rfl (tw_pure rfl (pur_load tabOk rfl rfl rfl (fun wz hz => Blk.cell (Blk.ext (RP.blk d_hP) hz) rfl)) rfl (tw_pure rfl (pur_move rfl) rfl (tw_pure rfl (pur_nilCheck rfl) rfl (tw_pure rfl (pur_fieldAddr tabOk rfl rfl rfl) rfl (tw_pure rfl (pur_load tabOk rfl rfl rfl (fun wz hz => Blk.cell (Blk.ext (RP.blk d_hP) hz) rfl)) rfl (tw_pure rfl (pur_assign rfl) rfl ?_))))))))
    clear qsb7 d_hP
    refine tw_tail rfl (cA rfl rfl (cT (cw_ret (qw_ret2 rfl rfl rfl ?_))))
    rotate_left 1
   exact ⟨rfl, by assumption, X⟩
theorem finish_off {ts : List Tok} {n : Int} {σ : PS} (h0 : σ.err ≠ 0) : finishP ts n σ = σ := by
 unfold finishP unexpP failP
 split
 · simp [h0]
 · rfl
theorem unexp_bad {ts : List Tok} {n : Int} {σ : PS} : (unexpP ts n σ).err ≠ 0 := by
 unfold unexpP
 split <;> exact fail_err (by decide)
theorem limit_off {x : Nd} {off : Int} {σ : PS} (h0 : σ.err ≠ 0) : limitP x off σ = σ := by simp [limitP, h0]
theorem limit_at {x : Nd} {off : Int} {σ : PS} : (limitP x off σ).at_ = σ.at_ := by
 unfold limitP failP
 split
 · rfl
 · split
   · split <;> rfl
   · split
     · split <;> rfl
     · rfl
theorem finish_limit {ts : List Tok} {n : Int} {σ : PS} {x : Nd} {off : Int} : finishP ts n (limitP x off (finishP ts n σ)) = limitP x off (finishP ts n σ) := by
 by_cases h : σ.at_ < ts.length
 · have : (finishP ts n σ).err ≠ 0 := by rw [finishP, if_pos h]; exact unexp_bad
   rw [limit_off this, finish_off this]
 · have e : finishP ts n σ = σ := by rw [finishP, if_neg h]
   rw [e]
   rw [finishP, if_neg (by rw [limit_at]; exact h)]
theorem REq.done {ts : List Tok} {n : Int} {p q : Nd × PS} (h : REq p q) : wholeT p.1 (limitP p.1 0 (finishP ts n p.2)) = wholeT q.1 (limitP q.1 0 (finishP ts n q.2)) := by
 by_cases h0 : p.2.err = 0
 · rw [h.same h0]
 · have h1 : q.2.err ≠ 0 := by rw [← h.err]; exact h0
   rw [finish_off h0, finish_off h1, limit_off h0, limit_off h1]
   unfold wholeT
   rw [if_pos h0, if_pos h1, h.err, h.off]
theorem zero_sits {S : Nat → Prop} {w : World} : zeroNd.sits S w none := sits_nil
theorem rfuel_ok {ts : List Tok} {s : List UInt8} (h : ts = (startP s).1) (σ : PS) : 12 * mS ts σ + 40 ≤ 12 * s.length + 40 := by
 have h1 := start_len s
 have h2 : mS ts σ ≤ ts.length := by unfold mS; split <;> omega
 rw [h] at h2
 rw [h]
 omega
theorem parseExpr_ref (s : List UInt8) (c : RC) (h1 : c.ts = (startP s).1) (h2 : c.n = s.length) (hat : (startP s).2.at_ ≤ c.ts.length) :
 REq (exprP c.ts c.n (fuelP s) 1 (startP s).2) (exprR c.ts c.n (12 * s.length + 40) 1 (startP s).2) ∧
 parseExpr s = wholeT (exprR c.ts c.n (12 * s.length + 40) 1 (startP s).2).1 (limitP (exprR c.ts c.n (12 * s.length + 40) 1 (startP s).2).1 0 (finishP c.ts c.n (exprR c.ts c.n (12 * s.length + 40) 1 (startP s).2).2)) := by
 have hf := rfuel_ok h1 (startP s).2
 have hd : DigitKinds c.ts := by rw [h1]; exact digitKinds_start s
 have hl := start_len s
 have hm : mS c.ts (startP s).2 ≤ s.length := by omega
 have e := (expr_eq (n := c.n) hd _ _ hat (Nat.le_refl _)).2.2 1 (fuelP s) (12 * s.length + 40) (by decide) (by decide) (by unfold fuelP; omega) (by omega)
 refine ⟨e, ?_⟩
 rw [← e.done]
 unfold parseExpr wholeT
 rw [h1, h2]
set_option maxRecDepth 100000 in
set_option maxHeartbeats 4000000 in
theorem RExpr_p (s : List UInt8) (w : World) (hs : s.length ≤ 1000000) : Calls Tryz.prog 13 #[str s] w (ParseR w (parseExpr s)) := by
 have X := Ext.refl w
 refine calls_in Tryz.func13 Tryz.ntmps13 rfl rfl ?_
 focus
  refine cS ?_
  (refine lw_alloc' [_, _, _, _] zOk rfl rfl ?_; intro b1 w2 n3)
  have h5 := New.blk n3
  have x6 := New.ext n3
  have p7 := New.pos n3
  have z8 := New.size n3
  clear n3
  replace X := Ext.ext X x6
  clear x6
  refine cA rfl rfl (cA rfl rfl (cN (cM rfl rfl ?_)))
  refine lw_does (does_call (by kernel_rfl) rfl (rstart_c s _ hs) (fun _ _ h => h.ret)) rfl ?_ (fun _ h => h)
  rintro _ w15 ⟨c9, ⟨⟨⟩, ⟨⟨h10, ⟨h11, h12⟩⟩, ⟨h13, x14⟩⟩⟩⟩
  have z16 := Ext.size x14
  replace h5 := Blk.ext h5 x14
  replace X := Ext.ext X x14
  clear x14
  refine cA rfl rfl (cN (cM rfl rfl ?_))
  rotate_left 1
 have hf := rfuel_ok h10 (startP s).2
 have hat := h13.at_
 have hlen := h13.len
 have hpb := h13.pbB
 have hB := h13.B
 obtain ⟨hq, he⟩ := parseExpr_ref s c9 h10 h11 hat
 rw [he]
 clear he
 have hsz := exprs_size (n := c9.n) (k := fuelP s) (lv := 1) hat
 have hle := expr_le (n := c9.n) (k := fuelP s) (lv := 1) hat
 have hwf := hle.wf
 have hz : (exprR c9.ts c9.n (12 * s.length + 40) 1 (startP s).2).2.err = 0 → (exprR c9.ts c9.n (12 * s.length + 40) 1 (startP s).2).1.size ≤ 1000000000 := fun h => by
  rw [← hq.same (hq.err.trans h)]
  omega
 have hex := (rexprs_c c9 (12 * s.length + 40)).expr 1 (startP s).2
 generalize exprR c9.ts c9.n (12 * s.length + 40) 1 (startP s).2 = r at *
 clear hsz hle hwf hq
 have HX := Lib.hid hex; clear hex
 have hfl := finish_limit (ts := c9.ts) (n := c9.n) (σ := r.2) (x := r.1) (off := 0)
 rw [← hfl]
 clear hfl
 by_cases h0 : r.2.err = 0
 · by_cases hlt : r.2.at_ < c9.ts.length
   · rw [show finishP c9.ts c9.n r.2 = unexpP c9.ts c9.n r.2 from by rw [finishP, if_pos hlt]]
     have hz : (unexpP c9.ts c9.n r.2).err = 0 → r.1.size ≤ 1000000000 := fun h => absurd h unexp_bad
     by_cases he3 : (finishP c9.ts c9.n (limitP r.1 0 (unexpP c9.ts c9.n r.2))).err = 0
     · rw [show wholeT r.1 (finishP c9.ts c9.n (limitP r.1 0 (unexpP c9.ts c9.n r.2))) = (r.1, 0, 0) from if_neg (by simpa using he3)]
       focus
        refine lw_does (does_call (by kernel_rfl) rfl (HX.out _ (by assumption) (by decide) (by decide) (by omega)) (fun _ _ h => h.ret)) rfl ?_ (fun _ h => h)
        rintro _ wa6 ⟨aa1, ⟨ka2, ⟨⟨⟩, ⟨ha3, ⟨ha4, fa5⟩⟩⟩⟩⟩
        have za7 := Fr.size fa5
        clear h13
        replace h5 := Blk.fr h5 fa5 (by omega)
        replace X := Ext.fr X fa5 (by omega)
        clear fa5
        (refine lw_alloc' [_, _, _, _] zOk rfl rfl ?_; intro ba8 wa9 na10)
        (refine lw_init' [_, _, _, _] tabOk rfl rfl rfl rfl rfl rfl na10 rfl ?_; clear na10; clear wa9; intro wa11 na10)
        have ha12 := New.blk na10
        have xa13 := New.ext na10
        have pa14 := New.pos na10
        have za15 := New.size na10
        clear na10
        replace ha3 := Nd.sits.ext ha3 xa13
        replace ha4 := RP.ext ha4 xa13
        replace h5 := Blk.ext h5 xa13
        replace X := Ext.ext X xa13
        clear xa13
        refine cT (cw_seq (cw_seq ?_))
        (refine cw_tdraw (fun wz => Ext wa11 wz) 15 (.pure 0 (.pure 1 (.pure 2 (.pure 3 (.pure 4 (.pure 5 (.pure 6 (.pure 7 (.pure 8 (.pure 9 (.pure 10 (.pure 11 (.pure 12 (.pure 13 (.pure 14 .tail))))))))))))))) mixed (by kernel_rfl) (panicOk_then (panicOk_then panicOk_body)) ?_; intro wa16 xa17 _)
        have qsa18 : (fun wz => Ext wa11 wz) wa16 := xa17
        simp only at qsa18
        have d_ha12 := ha12
        have d_ha3 := ha3
        have d_ha4 := ha4
        have d_h5 := h5
        have za19 := Ext.size xa17
        replace ha12 := Blk.ext ha12 xa17
        replace ha3 := Nd.sits.ext ha3 xa17
        replace ha4 := RP.ext ha4 xa17
        replace h5 := Blk.ext h5 xa17
        replace X := Ext.ext X xa17
        clear xa17
        refine ⟨qsa18, ?_⟩
        refine tw_pure rfl (pur_move rfl) rfl (tw_pure rfl (pur_nilCheck rfl) rfl (tw_pure rfl (pur_fieldAddr tabOk rfl rfl rfl) rfl (tw_pure rfl (pur_load tabOk rfl rfl rfl (fun wz hz => Blk.cell (Blk.ext (RP.blk d_ha4) hz) rfl)) rfl (tw_pure rfl (pur_eql rfl rfl) rfl (tw_pure rfl (pur_move rfl) rfl ?_)))))
        refine tw_on rfl rfl rfl rfl (gd_tt (by assumption)) (pur_move rfl) rfl ?_
        refine tw_on rfl rfl rfl rfl (gd_tt (by assumption)) (pur_nilCheck rfl) rfl ?_
        refine tw_on rfl rfl rfl rfl (gd_tt (by assumption)) (pur_fieldAddr tabOk rfl rfl rfl) rfl ?_
        refine tw_on rfl rfl rfl rfl (gd_tt (by assumption)) (pur_load tabOk rfl rfl rfl (fun wz hz => Blk.cell (Blk.ext (RP.blk d_ha4) hz) rfl)) rfl ?_
        refine tw_on rfl rfl rfl rfl (gd_tt (by assumption)) (pur_move rfl) rfl ?_
        refine tw_on rfl rfl rfl rfl (gd_tt (by assumption)) (pur_nilCheck rfl) rfl ?_
        refine tw_on rfl rfl rfl rfl (gd_tt (by assumption)) (pur_fieldAddr0 tabOk rfl rfl rfl) rfl ?_
        refine tw_on rfl rfl rfl rfl (gd_tt (by assumption)) (pur_load tabOk rfl rfl rfl (fun wz hz => Blk.cell (Blk.ext (RP.blk d_ha4) hz) rfl)) rfl ?_
        refine tw_on rfl rfl rfl rfl (gd_tt (by assumption)) (pur_len_slice tabOk rfl rfl) rfl ?_
        clear qsa18 d_ha12 d_ha3 d_ha4 d_h5
        refine tw_tail rfl ?_
        refine lw_on rfl rfl rfl (gd_tt (by assumption)) ?_
        refine lw_pure (pur_lss rfl rfl) rfl ?_
        refine lw_pure (pur_pick_yes rfl rfl (by assumption)) rfl ?_
        refine cT ?_
        refine cw_yes rfl (by omega) ?_
        refine cw_region (cM rfl rfl ?_)
        refine lw_does (does_call (by kernel_rfl) rfl (rwrong_c _ _ _ (by assumption)) (fun _ _ h => ⟨_, h.1⟩)) rfl ?_ (fun _ h => h)
        rintro _ wa22 ⟨⟨⟩, ⟨ha20, fa21⟩⟩
        have za23 := Fr.size fa21
        replace ha12 := Blk.fr ha12 fa21 (by omega)
        replace ha3 := Nd.sits.fr ha3 fa21 (by omega)
        clear ha4
        replace h5 := Blk.fr h5 fa21 (by omega)
        replace X := Ext.fr X fa21 (by omega)
        clear fa21
        refine cN (cM rfl rfl (lw_loads_b' [_, _, _, _] tabOk rfl rfl rfl ha12 rfl rfl rfl ?_))
        refine lw_does (does_call (by kernel_rfl) rfl (rlimits_c _ _ _ _ _ _ _ _ (by assumption) hz (by assumption) (by intro b h; omega)) (fun _ _ h => ⟨_, h.1⟩)) rfl ?_ (fun _ h => h)
        rintro _ wa26 ⟨⟨⟩, ⟨ha24, fa25⟩⟩
        have za27 := Fr.size fa25
        clear ha20
        replace ha12 := Blk.fr ha12 fa25 (by omega)
        replace ha3 := Nd.sits.fr ha3 fa25 (by omega)
        replace h5 := Blk.fr h5 fa25 (by omega)
        replace X := Ext.fr X fa25 (by omega)
        clear fa25
        refine cN (cM rfl rfl ?_)
        refine lw_does (does_call (by kernel_rfl) rfl (rfinish_c _ _ _ (by assumption)) (fun _ _ h => ⟨_, h.1⟩)) rfl ?_ (fun _ h => h)
        rintro _ wa30 ⟨⟨⟩, ⟨ha28, fa29⟩⟩
        have za31 := Fr.size fa29
        clear ha24
        replace ha12 := Blk.fr ha12 fa29 (by omega)
        replace ha3 := Nd.sits.fr ha3 fa29 (by omega)
        replace h5 := Blk.fr h5 fa29 (by omega)
        replace X := Ext.fr X fa29 (by omega)
        clear fa29
        refine cM rfl rfl (lw_pure (pur_extract rfl rfl) rfl (lw_pure (pur_extract rfl rfl) rfl (cA rfl rfl (cA rfl rfl (cT (cw_seq (cS (cM rfl rfl (lw_pure (pur_neq rfl rfl) rfl (cT ?_))))))))))
        refine cw_no rfl (by omega) ?_
        refine cw_skip (qw_then (cS (lw_loads_b' [_, _, _, _] tabOk rfl rfl rfl ha12 rfl rfl rfl ?_)))
        (refine lw_store' [_, _, _, _] [_, _, _, _] tabOk rfl rfl rfl rfl rfl rfl h5 rfl rfl ?_; intro wa32 na33)
        have ha36 := Put.blk na33
        have fa34 := Put.fr na33
        have za35 := Put.size na33
        clear na33 h5 ha28
        replace ha12 := Blk.fr ha12 fa34 (by omega)
        replace ha3 := Nd.sits.fr ha3 fa34 (by omega)
        replace X := Ext.fr X fa34 (by omega)
        clear fa34
        refine cA rfl rfl (cA rfl rfl (cT (cw_ret (qw_retc3 rfl tabOk rfl rfl rfl ha36 rfl rfl rfl ?_))))
        rotate_left 1
       exact ⟨_, _, rfl, Nd.sits.wide (by assumption) (fun b h => by omega), X⟩
     · rw [show wholeT r.1 (finishP c9.ts c9.n (limitP r.1 0 (unexpP c9.ts c9.n r.2))) = (zeroNd, (finishP c9.ts c9.n (limitP r.1 0 (unexpP c9.ts c9.n r.2))).off, (finishP c9.ts c9.n (limitP r.1 0 (unexpP c9.ts c9.n r.2))).err) from if_pos he3]
       focus
        refine lw_does (does_call (by kernel_rfl) rfl (HX.out _ (by assumption) (by decide) (by decide) (by omega)) (fun _ _ h => h.ret)) rfl ?_ (fun _ h => h)
        rintro _ wb6 ⟨ab1, ⟨kb2, ⟨⟨⟩, ⟨hb3, ⟨hb4, fb5⟩⟩⟩⟩⟩
        have zb7 := Fr.size fb5
        clear h13
        replace h5 := Blk.fr h5 fb5 (by omega)
        replace X := Ext.fr X fb5 (by omega)
        clear fb5
        (refine lw_alloc' [_, _, _, _] zOk rfl rfl ?_; intro bb8 wb9 nb10)
        (refine lw_init' [_, _, _, _] tabOk rfl rfl rfl rfl rfl rfl nb10 rfl ?_; clear nb10; clear wb9; intro wb11 nb10)
        have hb12 := New.blk nb10
        have xb13 := New.ext nb10
        have pb14 := New.pos nb10
        have zb15 := New.size nb10
        clear nb10
        replace hb3 := Nd.sits.ext hb3 xb13
        replace hb4 := RP.ext hb4 xb13
        replace h5 := Blk.ext h5 xb13
        replace X := Ext.ext X xb13
        clear xb13
        refine cT (cw_seq (cw_seq ?_))
        (refine cw_tdraw (fun wz => Ext wb11 wz) 15 (.pure 0 (.pure 1 (.pure 2 (.pure 3 (.pure 4 (.pure 5 (.pure 6 (.pure 7 (.pure 8 (.pure 9 (.pure 10 (.pure 11 (.pure 12 (.pure 13 (.pure 14 .tail))))))))))))))) mixed (by kernel_rfl) (panicOk_then (panicOk_then panicOk_body)) ?_; intro wb16 xb17 _)
        have qsb18 : (fun wz => Ext wb11 wz) wb16 := xb17
        simp only at qsb18
        have d_hb12 := hb12
        have d_hb3 := hb3
        have d_hb4 := hb4
        have d_h5 := h5
        have zb19 := Ext.size xb17
        replace hb12 := Blk.ext hb12 xb17
        replace hb3 := Nd.sits.ext hb3 xb17
        replace hb4 := RP.ext hb4 xb17
        replace h5 := Blk.ext h5 xb17
        replace X := Ext.ext X xb17
        clear xb17
        refine ⟨qsb18, ?_⟩
        refine tw_pure rfl (pur_move rfl) rfl (tw_pure rfl (pur_nilCheck rfl) rfl (tw_pure rfl (pur_fieldAddr tabOk rfl rfl rfl) rfl (tw_pure rfl (pur_load tabOk rfl rfl rfl (fun wz hz => Blk.cell (Blk.ext (RP.blk d_hb4) hz) rfl)) rfl (tw_pure rfl (pur_eql rfl rfl) rfl (tw_pure rfl (pur_move rfl) rfl ?_)))))
        refine tw_on rfl rfl rfl rfl (gd_tt (by assumption)) (pur_move rfl) rfl ?_
        refine tw_on rfl rfl rfl rfl (gd_tt (by assumption)) (pur_nilCheck rfl) rfl ?_
        refine tw_on rfl rfl rfl rfl (gd_tt (by assumption)) (pur_fieldAddr tabOk rfl rfl rfl) rfl ?_
        refine tw_on rfl rfl rfl rfl (gd_tt (by assumption)) (pur_load tabOk rfl rfl rfl (fun wz hz => Blk.cell (Blk.ext (RP.blk d_hb4) hz) rfl)) rfl ?_
        refine tw_on rfl rfl rfl rfl (gd_tt (by assumption)) (pur_move rfl) rfl ?_
        refine tw_on rfl rfl rfl rfl (gd_tt (by assumption)) (pur_nilCheck rfl) rfl ?_
        refine tw_on rfl rfl rfl rfl (gd_tt (by assumption)) (pur_fieldAddr0 tabOk rfl rfl rfl) rfl ?_
        refine tw_on rfl rfl rfl rfl (gd_tt (by assumption)) (pur_load tabOk rfl rfl rfl (fun wz hz => Blk.cell (Blk.ext (RP.blk d_hb4) hz) rfl)) rfl ?_
        refine tw_on rfl rfl rfl rfl (gd_tt (by assumption)) (pur_len_slice tabOk rfl rfl) rfl ?_
        clear qsb18 d_hb12 d_hb3 d_hb4 d_h5
        refine tw_tail rfl ?_
        refine lw_on rfl rfl rfl (gd_tt (by assumption)) ?_
        refine lw_pure (pur_lss rfl rfl) rfl ?_
        refine lw_pure (pur_pick_yes rfl rfl (by assumption)) rfl ?_
        refine cT ?_
        refine cw_yes rfl (by omega) ?_
        refine cw_region (cM rfl rfl ?_)
        refine lw_does (does_call (by kernel_rfl) rfl (rwrong_c _ _ _ (by assumption)) (fun _ _ h => ⟨_, h.1⟩)) rfl ?_ (fun _ h => h)
        rintro _ wb22 ⟨⟨⟩, ⟨hb20, fb21⟩⟩
        have zb23 := Fr.size fb21
        replace hb12 := Blk.fr hb12 fb21 (by omega)
        replace hb3 := Nd.sits.fr hb3 fb21 (by omega)
        clear hb4
        replace h5 := Blk.fr h5 fb21 (by omega)
        replace X := Ext.fr X fb21 (by omega)
        clear fb21
        refine cN (cM rfl rfl (lw_loads_b' [_, _, _, _] tabOk rfl rfl rfl hb12 rfl rfl rfl ?_))
        refine lw_does (does_call (by kernel_rfl) rfl (rlimits_c _ _ _ _ _ _ _ _ (by assumption) hz (by assumption) (by intro b h; omega)) (fun _ _ h => ⟨_, h.1⟩)) rfl ?_ (fun _ h => h)
        rintro _ wb26 ⟨⟨⟩, ⟨hb24, fb25⟩⟩
        have zb27 := Fr.size fb25
        clear hb20
        replace hb12 := Blk.fr hb12 fb25 (by omega)
        replace hb3 := Nd.sits.fr hb3 fb25 (by omega)
        replace h5 := Blk.fr h5 fb25 (by omega)
        replace X := Ext.fr X fb25 (by omega)
        clear fb25
        refine cN (cM rfl rfl ?_)
        refine lw_does (does_call (by kernel_rfl) rfl (rfinish_c _ _ _ (by assumption)) (fun _ _ h => ⟨_, h.1⟩)) rfl ?_ (fun _ h => h)
        rintro _ wb30 ⟨⟨⟩, ⟨hb28, fb29⟩⟩
        have zb31 := Fr.size fb29
        clear hb24
        replace hb12 := Blk.fr hb12 fb29 (by omega)
        replace hb3 := Nd.sits.fr hb3 fb29 (by omega)
        replace h5 := Blk.fr h5 fb29 (by omega)
        replace X := Ext.fr X fb29 (by omega)
        clear fb29
        refine cM rfl rfl (lw_pure (pur_extract rfl rfl) rfl (lw_pure (pur_extract rfl rfl) rfl (cA rfl rfl (cA rfl rfl (cT (cw_seq (cS (cM rfl rfl (lw_pure (pur_neq rfl rfl) rfl (cT ?_))))))))))
        refine cw_yes rfl (by assumption) ?_
        refine cS (lw_pure (pur_build' [_, _, _, _] tabOk zOk rfl rfl rfl rfl) rfl (cM rfl rfl (cM rfl rfl ?_)))
        (refine lw_store' [_, _, _, _] [_, _, _, _] tabOk rfl rfl rfl rfl rfl rfl h5 rfl rfl ?_; intro wb32 nb33)
        have hb36 := Put.blk nb33
        have fb34 := Put.fr nb33
        have zb35 := Put.size nb33
        clear nb33 h5 hb28
        replace hb12 := Blk.fr hb12 fb34 (by omega)
        replace hb3 := Nd.sits.fr hb3 fb34 (by omega)
        replace X := Ext.fr X fb34 (by omega)
        clear fb34
        refine cA rfl rfl (cA rfl rfl (cT (cw_ret (qw_then_ret (qw_retc3 rfl tabOk rfl rfl rfl hb36 rfl rfl rfl ?_)))))
        rotate_left 1
       exact ⟨none, 0, rfl, zero_sits, X⟩
   · rw [show finishP c9.ts c9.n r.2 = r.2 from by rw [finishP, if_neg hlt]]
     by_cases he3 : (finishP c9.ts c9.n (limitP r.1 0 r.2)).err = 0
     · rw [show wholeT r.1 (finishP c9.ts c9.n (limitP r.1 0 r.2)) = (r.1, 0, 0) from if_neg (by simpa using he3)]
       focus
        refine lw_does (does_call (by kernel_rfl) rfl (HX.out _ (by assumption) (by decide) (by decide) (by omega)) (fun _ _ h => h.ret)) rfl ?_ (fun _ h => h)
        rintro _ wc6 ⟨ac1, ⟨kc2, ⟨⟨⟩, ⟨hc3, ⟨hc4, fc5⟩⟩⟩⟩⟩
        have zc7 := Fr.size fc5
        clear h13
        replace h5 := Blk.fr h5 fc5 (by omega)
        replace X := Ext.fr X fc5 (by omega)
        clear fc5
        (refine lw_alloc' [_, _, _, _] zOk rfl rfl ?_; intro bc8 wc9 nc10)
        (refine lw_init' [_, _, _, _] tabOk rfl rfl rfl rfl rfl rfl nc10 rfl ?_; clear nc10; clear wc9; intro wc11 nc10)
        have hc12 := New.blk nc10
        have xc13 := New.ext nc10
        have pc14 := New.pos nc10
        have zc15 := New.size nc10
        clear nc10
        replace hc3 := Nd.sits.ext hc3 xc13
        replace hc4 := RP.ext hc4 xc13
        replace h5 := Blk.ext h5 xc13
        replace X := Ext.ext X xc13
        clear xc13
        refine cT (cw_seq (cw_seq ?_))
        (refine cw_tdraw (fun wz => Ext wc11 wz) 15 (.pure 0 (.pure 1 (.pure 2 (.pure 3 (.pure 4 (.pure 5 (.pure 6 (.pure 7 (.pure 8 (.pure 9 (.pure 10 (.pure 11 (.pure 12 (.pure 13 (.pure 14 .tail))))))))))))))) mixed (by kernel_rfl) (panicOk_then (panicOk_then panicOk_body)) ?_; intro wc16 xc17 _)
        have qsc18 : (fun wz => Ext wc11 wz) wc16 := xc17
        simp only at qsc18
        have d_hc12 := hc12
        have d_hc3 := hc3
        have d_hc4 := hc4
        have d_h5 := h5
        have zc19 := Ext.size xc17
        replace hc12 := Blk.ext hc12 xc17
        replace hc3 := Nd.sits.ext hc3 xc17
        replace hc4 := RP.ext hc4 xc17
        replace h5 := Blk.ext h5 xc17
        replace X := Ext.ext X xc17
        clear xc17
        refine ⟨qsc18, ?_⟩
        refine tw_pure rfl (pur_move rfl) rfl (tw_pure rfl (pur_nilCheck rfl) rfl (tw_pure rfl (pur_fieldAddr tabOk rfl rfl rfl) rfl (tw_pure rfl (pur_load tabOk rfl rfl rfl (fun wz hz => Blk.cell (Blk.ext (RP.blk d_hc4) hz) rfl)) rfl (tw_pure rfl (pur_eql rfl rfl) rfl (tw_pure rfl (pur_move rfl) rfl ?_)))))
        refine tw_on rfl rfl rfl rfl (gd_tt (by assumption)) (pur_move rfl) rfl ?_
        refine tw_on rfl rfl rfl rfl (gd_tt (by assumption)) (pur_nilCheck rfl) rfl ?_
        refine tw_on rfl rfl rfl rfl (gd_tt (by assumption)) (pur_fieldAddr tabOk rfl rfl rfl) rfl ?_
        refine tw_on rfl rfl rfl rfl (gd_tt (by assumption)) (pur_load tabOk rfl rfl rfl (fun wz hz => Blk.cell (Blk.ext (RP.blk d_hc4) hz) rfl)) rfl ?_
        refine tw_on rfl rfl rfl rfl (gd_tt (by assumption)) (pur_move rfl) rfl ?_
        refine tw_on rfl rfl rfl rfl (gd_tt (by assumption)) (pur_nilCheck rfl) rfl ?_
        refine tw_on rfl rfl rfl rfl (gd_tt (by assumption)) (pur_fieldAddr0 tabOk rfl rfl rfl) rfl ?_
        refine tw_on rfl rfl rfl rfl (gd_tt (by assumption)) (pur_load tabOk rfl rfl rfl (fun wz hz => Blk.cell (Blk.ext (RP.blk d_hc4) hz) rfl)) rfl ?_
        refine tw_on rfl rfl rfl rfl (gd_tt (by assumption)) (pur_len_slice tabOk rfl rfl) rfl ?_
        clear qsc18 d_hc12 d_hc3 d_hc4 d_h5
        refine tw_tail rfl ?_
        refine lw_on rfl rfl rfl (gd_tt (by assumption)) ?_
        refine lw_pure (pur_lss rfl rfl) rfl ?_
        refine lw_pure (pur_pick_yes rfl rfl (by assumption)) rfl ?_
        refine cT ?_
        refine cw_no rfl (by omega) ?_
        refine cw_skip (qw_then (cS (cM rfl rfl (lw_loads_b' [_, _, _, _] tabOk rfl rfl rfl hc12 rfl rfl rfl ?_))))
        refine lw_does (does_call (by kernel_rfl) rfl (rlimits_c _ _ _ _ _ _ _ _ (by assumption) hz (by assumption) (by intro b h; omega)) (fun _ _ h => ⟨_, h.1⟩)) rfl ?_ (fun _ h => h)
        rintro _ wc22 ⟨⟨⟩, ⟨hc20, fc21⟩⟩
        have zc23 := Fr.size fc21
        replace hc12 := Blk.fr hc12 fc21 (by omega)
        replace hc3 := Nd.sits.fr hc3 fc21 (by omega)
        clear hc4
        replace h5 := Blk.fr h5 fc21 (by omega)
        replace X := Ext.fr X fc21 (by omega)
        clear fc21
        refine cN (cM rfl rfl ?_)
        refine lw_does (does_call (by kernel_rfl) rfl (rfinish_c _ _ _ (by assumption)) (fun _ _ h => ⟨_, h.1⟩)) rfl ?_ (fun _ h => h)
        rintro _ wc26 ⟨⟨⟩, ⟨hc24, fc25⟩⟩
        have zc27 := Fr.size fc25
        clear hc20
        replace hc12 := Blk.fr hc12 fc25 (by omega)
        replace hc3 := Nd.sits.fr hc3 fc25 (by omega)
        replace h5 := Blk.fr h5 fc25 (by omega)
        replace X := Ext.fr X fc25 (by omega)
        clear fc25
        refine cM rfl rfl (lw_pure (pur_extract rfl rfl) rfl (lw_pure (pur_extract rfl rfl) rfl (cA rfl rfl (cA rfl rfl (cT (cw_seq (cS (cM rfl rfl (lw_pure (pur_neq rfl rfl) rfl (cT ?_))))))))))
        refine cw_no rfl (by omega) ?_
        refine cw_skip (qw_then (cS (lw_loads_b' [_, _, _, _] tabOk rfl rfl rfl hc12 rfl rfl rfl ?_)))
        (refine lw_store' [_, _, _, _] [_, _, _, _] tabOk rfl rfl rfl rfl rfl rfl h5 rfl rfl ?_; intro wc28 nc29)
        have hc32 := Put.blk nc29
        have fc30 := Put.fr nc29
        have zc31 := Put.size nc29
        clear nc29 h5 hc24
        replace hc12 := Blk.fr hc12 fc30 (by omega)
        replace hc3 := Nd.sits.fr hc3 fc30 (by omega)
        replace X := Ext.fr X fc30 (by omega)
        clear fc30
        refine cA rfl rfl (cA rfl rfl (cT (cw_ret (qw_retc3 rfl tabOk rfl rfl rfl hc32 rfl rfl rfl ?_))))
        rotate_left 1
       exact ⟨_, _, rfl, Nd.sits.wide (by assumption) (fun b h => by omega), X⟩
     · rw [show wholeT r.1 (finishP c9.ts c9.n (limitP r.1 0 r.2)) = (zeroNd, (finishP c9.ts c9.n (limitP r.1 0 r.2)).off, (finishP c9.ts c9.n (limitP r.1 0 r.2)).err) from if_pos he3]
       focus
        refine lw_does (does_call (by kernel_rfl) rfl (HX.out _ (by assumption) (by decide) (by decide) (by omega)) (fun _ _ h => h.ret)) rfl ?_ (fun _ h => h)
        rintro _ wd6 ⟨ad1, ⟨kd2, ⟨⟨⟩, ⟨hd3, ⟨hd4, fd5⟩⟩⟩⟩⟩
        have zd7 := Fr.size fd5
        clear h13
        replace h5 := Blk.fr h5 fd5 (by omega)
        replace X := Ext.fr X fd5 (by omega)
        clear fd5
        (refine lw_alloc' [_, _, _, _] zOk rfl rfl ?_; intro bd8 wd9 nd10)
        (refine lw_init' [_, _, _, _] tabOk rfl rfl rfl rfl rfl rfl nd10 rfl ?_; clear nd10; clear wd9; intro wd11 nd10)
        have hd12 := New.blk nd10
        have xd13 := New.ext nd10
        have pd14 := New.pos nd10
        have zd15 := New.size nd10
        clear nd10
        replace hd3 := Nd.sits.ext hd3 xd13
        replace hd4 := RP.ext hd4 xd13
        replace h5 := Blk.ext h5 xd13
        replace X := Ext.ext X xd13
        clear xd13
        refine cT (cw_seq (cw_seq ?_))
        (refine cw_tdraw (fun wz => Ext wd11 wz) 15 (.pure 0 (.pure 1 (.pure 2 (.pure 3 (.pure 4 (.pure 5 (.pure 6 (.pure 7 (.pure 8 (.pure 9 (.pure 10 (.pure 11 (.pure 12 (.pure 13 (.pure 14 .tail))))))))))))))) mixed (by kernel_rfl) (panicOk_then (panicOk_then panicOk_body)) ?_; intro wd16 xd17 _)
        have qsd18 : (fun wz => Ext wd11 wz) wd16 := xd17
        simp only at qsd18
        have d_hd12 := hd12
        have d_hd3 := hd3
        have d_hd4 := hd4
        have d_h5 := h5
        have zd19 := Ext.size xd17
        replace hd12 := Blk.ext hd12 xd17
        replace hd3 := Nd.sits.ext hd3 xd17
        replace hd4 := RP.ext hd4 xd17
        replace h5 := Blk.ext h5 xd17
        replace X := Ext.ext X xd17
        clear xd17
        refine ⟨qsd18, ?_⟩
        refine tw_pure rfl (pur_move rfl) rfl (tw_pure rfl (pur_nilCheck rfl) rfl (tw_pure rfl (pur_fieldAddr tabOk rfl rfl rfl) rfl (tw_pure rfl (pur_load tabOk rfl rfl rfl (fun wz hz => Blk.cell (Blk.ext (RP.blk d_hd4) hz) rfl)) rfl (tw_pure rfl (pur_eql rfl rfl) rfl (tw_pure rfl (pur_move rfl) rfl ?_)))))
        refine tw_on rfl rfl rfl rfl (gd_tt (by assumption)) (pur_move rfl) rfl ?_
        refine tw_on rfl rfl rfl rfl (gd_tt (by assumption)) (pur_nilCheck rfl) rfl ?_
        refine tw_on rfl rfl rfl rfl (gd_tt (by assumption)) (pur_fieldAddr tabOk rfl rfl rfl) rfl ?_
        refine tw_on rfl rfl rfl rfl (gd_tt (by assumption)) (pur_load tabOk rfl rfl rfl (fun wz hz => Blk.cell (Blk.ext (RP.blk d_hd4) hz) rfl)) rfl ?_
        refine tw_on rfl rfl rfl rfl (gd_tt (by assumption)) (pur_move rfl) rfl ?_
        refine tw_on rfl rfl rfl rfl (gd_tt (by assumption)) (pur_nilCheck rfl) rfl ?_
        refine tw_on rfl rfl rfl rfl (gd_tt (by assumption)) (pur_fieldAddr0 tabOk rfl rfl rfl) rfl ?_
        refine tw_on rfl rfl rfl rfl (gd_tt (by assumption)) (pur_load tabOk rfl rfl rfl (fun wz hz => Blk.cell (Blk.ext (RP.blk d_hd4) hz) rfl)) rfl ?_
        refine tw_on rfl rfl rfl rfl (gd_tt (by assumption)) (pur_len_slice tabOk rfl rfl) rfl ?_
        clear qsd18 d_hd12 d_hd3 d_hd4 d_h5
        refine tw_tail rfl ?_
        refine lw_on rfl rfl rfl (gd_tt (by assumption)) ?_
        refine lw_pure (pur_lss rfl rfl) rfl ?_
        refine lw_pure (pur_pick_yes rfl rfl (by assumption)) rfl ?_
        refine cT ?_
        refine cw_no rfl (by omega) ?_
        refine cw_skip (qw_then (cS (cM rfl rfl (lw_loads_b' [_, _, _, _] tabOk rfl rfl rfl hd12 rfl rfl rfl ?_))))
        refine lw_does (does_call (by kernel_rfl) rfl (rlimits_c _ _ _ _ _ _ _ _ (by assumption) hz (by assumption) (by intro b h; omega)) (fun _ _ h => ⟨_, h.1⟩)) rfl ?_ (fun _ h => h)
        rintro _ wd22 ⟨⟨⟩, ⟨hd20, fd21⟩⟩
        have zd23 := Fr.size fd21
        replace hd12 := Blk.fr hd12 fd21 (by omega)
        replace hd3 := Nd.sits.fr hd3 fd21 (by omega)
        clear hd4
        replace h5 := Blk.fr h5 fd21 (by omega)
        replace X := Ext.fr X fd21 (by omega)
        clear fd21
        refine cN (cM rfl rfl ?_)
        refine lw_does (does_call (by kernel_rfl) rfl (rfinish_c _ _ _ (by assumption)) (fun _ _ h => ⟨_, h.1⟩)) rfl ?_ (fun _ h => h)
        rintro _ wd26 ⟨⟨⟩, ⟨hd24, fd25⟩⟩
        have zd27 := Fr.size fd25
        clear hd20
        replace hd12 := Blk.fr hd12 fd25 (by omega)
        replace hd3 := Nd.sits.fr hd3 fd25 (by omega)
        replace h5 := Blk.fr h5 fd25 (by omega)
        replace X := Ext.fr X fd25 (by omega)
        clear fd25
        refine cM rfl rfl (lw_pure (pur_extract rfl rfl) rfl (lw_pure (pur_extract rfl rfl) rfl (cA rfl rfl (cA rfl rfl (cT (cw_seq (cS (cM rfl rfl (lw_pure (pur_neq rfl rfl) rfl (cT ?_))))))))))
        refine cw_yes rfl (by assumption) ?_
        refine cS (lw_pure (pur_build' [_, _, _, _] tabOk zOk rfl rfl rfl rfl) rfl (cM rfl rfl (cM rfl rfl ?_)))
        (refine lw_store' [_, _, _, _] [_, _, _, _] tabOk rfl rfl rfl rfl rfl rfl h5 rfl rfl ?_; intro wd28 nd29)
        have hd32 := Put.blk nd29
        have fd30 := Put.fr nd29
        have zd31 := Put.size nd29
        clear nd29 h5 hd24
        replace hd12 := Blk.fr hd12 fd30 (by omega)
        replace hd3 := Nd.sits.fr hd3 fd30 (by omega)
        replace X := Ext.fr X fd30 (by omega)
        clear fd30
        refine cA rfl rfl (cA rfl rfl (cT (cw_ret (qw_then_ret (qw_retc3 rfl tabOk rfl rfl rfl hd32 rfl rfl rfl ?_)))))
        rotate_left 1
       exact ⟨none, 0, rfl, zero_sits, X⟩
 · rw [finish_off h0]
   by_cases he3 : (finishP c9.ts c9.n (limitP r.1 0 r.2)).err = 0
   · rw [show wholeT r.1 (finishP c9.ts c9.n (limitP r.1 0 r.2)) = (r.1, 0, 0) from if_neg (by simpa using he3)]
     focus
      refine lw_does (does_call (by kernel_rfl) rfl (HX.out _ (by assumption) (by decide) (by decide) (by omega)) (fun _ _ h => h.ret)) rfl ?_ (fun _ h => h)
      rintro _ we6 ⟨ae1, ⟨ke2, ⟨⟨⟩, ⟨he3, ⟨he4, fe5⟩⟩⟩⟩⟩
      have ze7 := Fr.size fe5
      clear h13
      replace h5 := Blk.fr h5 fe5 (by omega)
      replace X := Ext.fr X fe5 (by omega)
      clear fe5
      (refine lw_alloc' [_, _, _, _] zOk rfl rfl ?_; intro be8 we9 ne10)
      (refine lw_init' [_, _, _, _] tabOk rfl rfl rfl rfl rfl rfl ne10 rfl ?_; clear ne10; clear we9; intro we11 ne10)
      have he12 := New.blk ne10
      have xe13 := New.ext ne10
      have pe14 := New.pos ne10
      have ze15 := New.size ne10
      clear ne10
      replace he3 := Nd.sits.ext he3 xe13
      replace he4 := RP.ext he4 xe13
      replace h5 := Blk.ext h5 xe13
      replace X := Ext.ext X xe13
      clear xe13
      refine cT (cw_seq (cw_seq ?_))
      (refine cw_tdraw (fun wz => Ext we11 wz) 15 (.pure 0 (.pure 1 (.pure 2 (.pure 3 (.pure 4 (.pure 5 (.pure 6 (.pure 7 (.pure 8 (.pure 9 (.pure 10 (.pure 11 (.pure 12 (.pure 13 (.pure 14 .tail))))))))))))))) mixed (by kernel_rfl) (panicOk_then (panicOk_then panicOk_body)) ?_; intro we16 xe17 _)
      have qse18 : (fun wz => Ext we11 wz) we16 := xe17
      simp only at qse18
      have d_he12 := he12
      have d_he3 := he3
      have d_he4 := he4
      have d_h5 := h5
      have ze19 := Ext.size xe17
      replace he12 := Blk.ext he12 xe17
      replace he3 := Nd.sits.ext he3 xe17
      replace he4 := RP.ext he4 xe17
      replace h5 := Blk.ext h5 xe17
      replace X := Ext.ext X xe17
      clear xe17
      refine ⟨qse18, ?_⟩
      refine tw_pure rfl (pur_move rfl) rfl (tw_pure rfl (pur_nilCheck rfl) rfl (tw_pure rfl (pur_fieldAddr tabOk rfl rfl rfl) rfl (tw_pure rfl (pur_load tabOk rfl rfl rfl (fun wz hz => Blk.cell (Blk.ext (RP.blk d_he4) hz) rfl)) rfl (tw_pure rfl (pur_eql rfl rfl) rfl (tw_pure rfl (pur_move rfl) rfl ?_)))))
      refine tw_off rfl rfl rfl rfl (gd_tf (by assumption)) rfl ?_
      refine tw_off rfl rfl rfl rfl (gd_tf (by assumption)) rfl ?_
      refine tw_off rfl rfl rfl rfl (gd_tf (by assumption)) rfl ?_
      refine tw_off rfl rfl rfl rfl (gd_tf (by assumption)) rfl ?_
      refine tw_off rfl rfl rfl rfl (gd_tf (by assumption)) rfl ?_
      refine tw_off rfl rfl rfl rfl (gd_tf (by assumption)) rfl ?_
      refine tw_off rfl rfl rfl rfl (gd_tf (by assumption)) rfl ?_
      refine tw_off rfl rfl rfl rfl (gd_tf (by assumption)) rfl ?_
      refine tw_off rfl rfl rfl rfl (gd_tf (by assumption)) rfl ?_
      clear qse18 d_he12 d_he3 d_he4 d_h5
      refine tw_tail rfl ?_
      refine lw_off rfl rfl rfl (gd_tf (by assumption)) rfl ?_
      refine lw_pure (pur_pick_no rfl rfl (by assumption)) rfl ?_
      refine cT (cw_cond_f rfl (cw_skip (qw_then (cS (cM rfl rfl (lw_loads_b' [_, _, _, _] tabOk rfl rfl rfl he12 rfl rfl rfl ?_))))))
      refine lw_does (does_call (by kernel_rfl) rfl (rlimits_c _ _ _ _ _ _ _ _ (by assumption) hz (by assumption) (by intro b h; omega)) (fun _ _ h => ⟨_, h.1⟩)) rfl ?_ (fun _ h => h)
      rintro _ we22 ⟨⟨⟩, ⟨he20, fe21⟩⟩
      have ze23 := Fr.size fe21
      replace he12 := Blk.fr he12 fe21 (by omega)
      replace he3 := Nd.sits.fr he3 fe21 (by omega)
      clear he4
      replace h5 := Blk.fr h5 fe21 (by omega)
      replace X := Ext.fr X fe21 (by omega)
      clear fe21
      refine cN (cM rfl rfl ?_)
      refine lw_does (does_call (by kernel_rfl) rfl (rfinish_c _ _ _ (by assumption)) (fun _ _ h => ⟨_, h.1⟩)) rfl ?_ (fun _ h => h)
      rintro _ we26 ⟨⟨⟩, ⟨he24, fe25⟩⟩
      have ze27 := Fr.size fe25
      clear he20
      replace he12 := Blk.fr he12 fe25 (by omega)
      replace he3 := Nd.sits.fr he3 fe25 (by omega)
      replace h5 := Blk.fr h5 fe25 (by omega)
      replace X := Ext.fr X fe25 (by omega)
      clear fe25
      refine cM rfl rfl (lw_pure (pur_extract rfl rfl) rfl (lw_pure (pur_extract rfl rfl) rfl (cA rfl rfl (cA rfl rfl (cT (cw_seq (cS (cM rfl rfl (lw_pure (pur_neq rfl rfl) rfl (cT ?_))))))))))
      refine cw_no rfl (by omega) ?_
      refine cw_skip (qw_then (cS (lw_loads_b' [_, _, _, _] tabOk rfl rfl rfl he12 rfl rfl rfl ?_)))
      (refine lw_store' [_, _, _, _] [_, _, _, _] tabOk rfl rfl rfl rfl rfl rfl h5 rfl rfl ?_; intro we28 ne29)
      have he32 := Put.blk ne29
      have fe30 := Put.fr ne29
      have ze31 := Put.size ne29
      clear ne29 h5 he24
      replace he12 := Blk.fr he12 fe30 (by omega)
      replace he3 := Nd.sits.fr he3 fe30 (by omega)
      replace X := Ext.fr X fe30 (by omega)
      clear fe30
      refine cA rfl rfl (cA rfl rfl (cT (cw_ret (qw_retc3 rfl tabOk rfl rfl rfl he32 rfl rfl rfl ?_))))
      rotate_left 1
     exact ⟨_, _, rfl, Nd.sits.wide (by assumption) (fun b h => by omega), X⟩
   · rw [show wholeT r.1 (finishP c9.ts c9.n (limitP r.1 0 r.2)) = (zeroNd, (finishP c9.ts c9.n (limitP r.1 0 r.2)).off, (finishP c9.ts c9.n (limitP r.1 0 r.2)).err) from if_pos he3]
     focus
      refine lw_does (does_call (by kernel_rfl) rfl (HX.out _ (by assumption) (by decide) (by decide) (by omega)) (fun _ _ h => h.ret)) rfl ?_ (fun _ h => h)
      rintro _ wf6 ⟨af1, ⟨kf2, ⟨⟨⟩, ⟨hf3, ⟨hf4, ff5⟩⟩⟩⟩⟩
      have zf7 := Fr.size ff5
      clear h13
      replace h5 := Blk.fr h5 ff5 (by omega)
      replace X := Ext.fr X ff5 (by omega)
      clear ff5
      (refine lw_alloc' [_, _, _, _] zOk rfl rfl ?_; intro bf8 wf9 nf10)
      (refine lw_init' [_, _, _, _] tabOk rfl rfl rfl rfl rfl rfl nf10 rfl ?_; clear nf10; clear wf9; intro wf11 nf10)
      have hf12 := New.blk nf10
      have xf13 := New.ext nf10
      have pf14 := New.pos nf10
      have zf15 := New.size nf10
      clear nf10
      replace hf3 := Nd.sits.ext hf3 xf13
      replace hf4 := RP.ext hf4 xf13
      replace h5 := Blk.ext h5 xf13
      replace X := Ext.ext X xf13
      clear xf13
      refine cT (cw_seq (cw_seq ?_))
      (refine cw_tdraw (fun wz => Ext wf11 wz) 15 (.pure 0 (.pure 1 (.pure 2 (.pure 3 (.pure 4 (.pure 5 (.pure 6 (.pure 7 (.pure 8 (.pure 9 (.pure 10 (.pure 11 (.pure 12 (.pure 13 (.pure 14 .tail))))))))))))))) mixed (by kernel_rfl) (panicOk_then (panicOk_then panicOk_body)) ?_; intro wf16 xf17 _)
      have qsf18 : (fun wz => Ext wf11 wz) wf16 := xf17
      simp only at qsf18
      have d_hf12 := hf12
      have d_hf3 := hf3
      have d_hf4 := hf4
      have d_h5 := h5
      have zf19 := Ext.size xf17
      replace hf12 := Blk.ext hf12 xf17
      replace hf3 := Nd.sits.ext hf3 xf17
      replace hf4 := RP.ext hf4 xf17
      replace h5 := Blk.ext h5 xf17
      replace X := Ext.ext X xf17
      clear xf17
      refine ⟨qsf18, ?_⟩
      refine tw_pure rfl (pur_move rfl) rfl (tw_pure rfl (pur_nilCheck rfl) rfl (tw_pure rfl (pur_fieldAddr tabOk rfl rfl rfl) rfl (tw_pure rfl (pur_load tabOk rfl rfl rfl (fun wz hz => Blk.cell (Blk.ext (RP.blk d_hf4) hz) rfl)) rfl (tw_pure rfl (pur_eql rfl rfl) rfl (tw_pure rfl (pur_move rfl) rfl ?_)))))
      refine tw_off rfl rfl rfl rfl (gd_tf (by assumption)) rfl ?_
      refine tw_off rfl rfl rfl rfl (gd_tf (by assumption)) rfl ?_
      refine tw_off rfl rfl rfl rfl (gd_tf (by assumption)) rfl ?_
      refine tw_off rfl rfl rfl rfl (gd_tf (by assumption)) rfl ?_
      refine tw_off rfl rfl rfl rfl (gd_tf (by assumption)) rfl ?_
      refine tw_off rfl rfl rfl rfl (gd_tf (by assumption)) rfl ?_
      refine tw_off rfl rfl rfl rfl (gd_tf (by assumption)) rfl ?_
      refine tw_off rfl rfl rfl rfl (gd_tf (by assumption)) rfl ?_
      refine tw_off rfl rfl rfl rfl (gd_tf (by assumption)) rfl ?_
      clear qsf18 d_hf12 d_hf3 d_hf4 d_h5
      refine tw_tail rfl ?_
      refine lw_off rfl rfl rfl (gd_tf (by assumption)) rfl ?_
      refine lw_pure (pur_pick_no rfl rfl (by assumption)) rfl ?_
      refine cT (cw_cond_f rfl (cw_skip (qw_then (cS (cM rfl rfl (lw_loads_b' [_, _, _, _] tabOk rfl rfl rfl hf12 rfl rfl rfl ?_))))))
      refine lw_does (does_call (by kernel_rfl) rfl (rlimits_c _ _ _ _ _ _ _ _ (by assumption) hz (by assumption) (by intro b h; omega)) (fun _ _ h => ⟨_, h.1⟩)) rfl ?_ (fun _ h => h)
      rintro _ wf22 ⟨⟨⟩, ⟨hf20, ff21⟩⟩
      have zf23 := Fr.size ff21
      replace hf12 := Blk.fr hf12 ff21 (by omega)
      replace hf3 := Nd.sits.fr hf3 ff21 (by omega)
      clear hf4
      replace h5 := Blk.fr h5 ff21 (by omega)
      replace X := Ext.fr X ff21 (by omega)
      clear ff21
      refine cN (cM rfl rfl ?_)
      refine lw_does (does_call (by kernel_rfl) rfl (rfinish_c _ _ _ (by assumption)) (fun _ _ h => ⟨_, h.1⟩)) rfl ?_ (fun _ h => h)
      rintro _ wf26 ⟨⟨⟩, ⟨hf24, ff25⟩⟩
      have zf27 := Fr.size ff25
      clear hf20
      replace hf12 := Blk.fr hf12 ff25 (by omega)
      replace hf3 := Nd.sits.fr hf3 ff25 (by omega)
      replace h5 := Blk.fr h5 ff25 (by omega)
      replace X := Ext.fr X ff25 (by omega)
      clear ff25
      refine cM rfl rfl (lw_pure (pur_extract rfl rfl) rfl (lw_pure (pur_extract rfl rfl) rfl (cA rfl rfl (cA rfl rfl (cT (cw_seq (cS (cM rfl rfl (lw_pure (pur_neq rfl rfl) rfl (cT ?_))))))))))
      refine cw_yes rfl (by assumption) ?_
      refine cS (lw_pure (pur_build' [_, _, _, _] tabOk zOk rfl rfl rfl rfl) rfl (cM rfl rfl (cM rfl rfl ?_)))
      (refine lw_store' [_, _, _, _] [_, _, _, _] tabOk rfl rfl rfl rfl rfl rfl h5 rfl rfl ?_; intro wf28 nf29)
      have hf32 := Put.blk nf29
      have ff30 := Put.fr nf29
      have zf31 := Put.size nf29
      clear nf29 h5 hf24
      replace hf12 := Blk.fr hf12 ff30 (by omega)
      replace hf3 := Nd.sits.fr hf3 ff30 (by omega)
      replace X := Ext.fr X ff30 (by omega)
      clear ff30
      refine cA rfl rfl (cA rfl rfl (cT (cw_ret (qw_then_ret (qw_retc3 rfl tabOk rfl rfl rfl hf32 rfl rfl rfl ?_)))))
      rotate_left 1
     exact ⟨none, 0, rfl, zero_sits, X⟩
end Bk
namespace Bk
open Go
section
variable {ts : List Tok} {n : Int}
end
end Bk
namespace Bk
open Go Go.RowKit Go.Proofs
attribute [local irreducible] Go.Calls
def blkR (c : RC) (s : List UInt8) : Nd × PS := (.mk 57 0 [] (stmtsR c.ts c.n (12 * s.length + 40) [] (startP s).2).1, (stmtsR c.ts c.n (12 * s.length + 40) [] (startP s).2).2)
end Bk
namespace Bk
open Go Go.RowKit Go.Proofs
attribute [local irreducible] Go.Calls
theorem length_rowSize2 (l : List Nd) : l.length ≤ rowSize l := by
 induction l with
 | nil => simp [rowSize]
 | cons x r ih => have := Nd.size_pos x; simp only [rowSize, List.length_cons]; omega
set_option maxRecDepth 100000 in
set_option maxHeartbeats 1000000 in
theorem Equal_t (N : Nat) : ∀ (t : Nd) (S S' : Nat → Prop) (a a' : Option Addr) (c c' : Nat) (w : World), t.size < N → t.kids.length ≤ 1000000000 → rowSize t.kids ≤ 1000000000 → t.sits S w a → t.sits S' w a' →
 Calls Tryz.prog 14 #[t.val a c, t.val a' c'] w fun e w' => e = .returned (.bool true) ∧ Ext w w' := by
 induction N with
 | zero => intro t S S' a a' c c' w h; omega
 | succ N ih =>
  rintro ⟨k, n, s, l⟩ S S' a a' c c' w hN hM hR hs hs'
  have IH := Lib.hid ih; clear ih
  simp only [Nd.sits] at hs hs'
  simp only [Nd.size, Nd.kids] at hN hM hR
  simp only [Nd.val, Nd.kind, Nd.num, Nd.name, Nd.kids]
  have X := Ext.refl w
  refine calls_in Tryz.func14 Tryz.ntmps14 rfl rfl ?_
  focus
   refine cS ?_
   (refine lw_box' [_, _, _, _] rfl rfl rfl ?_; intro b1 w2 n3)
   have h4 := New.blk n3
   have x5 := New.ext n3
   have p6 := New.pos n3
   have z7 := New.size n3
   clear n3
   replace hs := Bk.rowSits.ext hs x5
   replace hs' := Bk.rowSits.ext hs' x5
   replace X := Ext.ext X x5
   clear x5
   (refine lw_box' [_, _, _, _] rfl rfl rfl ?_; intro b8 w9 n10)
   have h11 := New.blk n10
   have x12 := New.ext n10
   have p13 := New.pos n10
   have z14 := New.size n10
   clear n10
   replace h4 := Blk.ext h4 x12
   replace hs := Bk.rowSits.ext hs x12
   replace hs' := Bk.rowSits.ext hs' x12
   replace X := Ext.ext X x12
   clear x12
   refine cA rfl rfl (cT (cw_seq (cS (lw_pure (pur_fieldAddr0 tabOk rfl rfl rfl) rfl (lw_load_b tabOk rfl rfl rfl h4 rfl rfl (lw_pure (pur_fieldAddr0 tabOk rfl rfl rfl) rfl (lw_load_b tabOk rfl rfl rfl h11 rfl rfl (lw_pure (pur_neq rfl rfl) rfl (cM rfl rfl ?_)))))))))
   refine lw_on rfl rfl rfl (gd_ff (by omega)) ?_
   refine lw_pure (pur_fieldAddr tabOk rfl rfl rfl) rfl ?_
   refine lw_on rfl rfl rfl (gd_ff (by omega)) ?_
   refine lw_load_b tabOk rfl rfl rfl h4 rfl rfl ?_
   refine lw_on rfl rfl rfl (gd_ff (by omega)) ?_
   refine lw_pure (pur_fieldAddr tabOk rfl rfl rfl) rfl ?_
   refine lw_on rfl rfl rfl (gd_ff (by omega)) ?_
   refine lw_load_b tabOk rfl rfl rfl h11 rfl rfl ?_
   refine lw_on rfl rfl rfl (gd_ff (by omega)) ?_
   refine lw_pure (pur_neq rfl rfl) rfl ?_
   refine lw_pure (pur_pick_no rfl rfl (by omega)) rfl ?_
   refine cM rfl rfl ?_
   refine lw_on rfl rfl rfl (gd_ff (by omega)) ?_
   refine lw_pure (pur_fieldAddr tabOk rfl rfl rfl) rfl ?_
   refine lw_on rfl rfl rfl (gd_ff (by omega)) ?_
   refine lw_load_b tabOk rfl rfl rfl h4 rfl rfl ?_
   refine lw_on rfl rfl rfl (gd_ff (by omega)) ?_
   refine lw_pure (pur_fieldAddr tabOk rfl rfl rfl) rfl ?_
   refine lw_on rfl rfl rfl (gd_ff (by omega)) ?_
   refine lw_load_b tabOk rfl rfl rfl h11 rfl rfl ?_
   refine lw_on rfl rfl rfl (gd_ff (by omega)) ?_
   refine lw_pure (pur_sneq rfl rfl) rfl ?_
   refine lw_pure (pur_pick_no rfl rfl (by omega)) rfl ?_
   refine cM rfl rfl (lw_on rfl rfl rfl (gd_ff (not_not_intro rfl)) (lw_pure (pur_fieldAddr tabOk rfl rfl rfl) rfl (lw_on rfl rfl rfl (gd_ff (not_not_intro rfl)) (lw_load_b tabOk rfl rfl rfl h4 rfl rfl (lw_on rfl rfl rfl (gd_ff (not_not_intro rfl)) (lw_pure (pur_len_slice tabOk rfl rfl) rfl (lw_on rfl rfl rfl (gd_ff (not_not_intro rfl)) (lw_pure (pur_fieldAddr tabOk rfl rfl rfl) rfl (lw_on rfl rfl rfl (gd_ff (not_not_intro rfl)) (lw_load_b tabOk rfl rfl rfl h11 rfl rfl (lw_on rfl rfl rfl (gd_ff (not_not_intro rfl)) ?_)))))))))))
   refine lw_pure (pur_len_slice tabOk rfl rfl) rfl (lw_on rfl rfl rfl (gd_ff (not_not_intro rfl)) (lw_pure (pur_neq rfl rfl) rfl (lw_pure (pur_pick_no rfl rfl (not_not_intro rfl)) rfl (cT ?_))))
   refine cw_no rfl (by omega) ?_
   refine cw_skip (qw_then (cw_seq (cS (cA rfl rfl (cT (cw_block ?_))))))
   rotate_left 1
  refine cw_loop (ι := Nat) (fun j => [(2, .pointer (some ⟨b1, 0, none⟩)), (3, .pointer (some ⟨b8, 0, none⟩)), (5, .int .i64 j)]) (fun j w' => rowSits S w' l a ∧ rowSits S' w' l a' ∧ Ext w w' ∧ Blk w' b1 [.int .u8 k, .int .i64 n, str s, .slice a l.length c] ∧ Blk w' b8 [.int .u8 k, .int .i64 n, str s, .slice a' l.length c'] ∧ j ≤ l.length) (fun j => l.length - j) 0 (by (refine sub_cons rfl ?_; refine sub_cons rfl ?_; refine sub_cons rfl ?_; exact sub_nil)) ⟨hs, hs', X, h4, h11, Nat.zero_le _⟩ ?_
  rintro j w1 ⟨hs, hs', X, hb, hb', hj⟩
  clear h4 h11
  by_cases hlt : j < l.length
  · obtain ⟨kb, ko, rfl, hkS, hkid⟩ := kidRows hs (by intro e; subst e; simp at hlt)
    obtain ⟨kb', ko', rfl, hkS', hkid'⟩ := kidRows hs' (by intro e; subst e; simp at hlt)
    obtain ⟨xa, xc, rx, sx⟩ := hkid j l[j] (List.getElem?_eq_getElem hlt)
    obtain ⟨ya, yc, ry, sy⟩ := hkid' j l[j] (List.getElem?_eq_getElem hlt)
    have hsz := size_mem (List.getElem_mem hlt)
    have hsz2 : l[j].size = 1 + rowSize l[j].kids := by cases l[j]; simp [Nd.size, Nd.kids]
    have hln := length_rowSize2 l[j].kids
    clear hkid hkid'
    generalize l[j] = x at *
    focus
     refine cw_seq (cS (cM rfl rfl (lw_pure (pur_fieldAddr tabOk rfl rfl rfl) rfl (lw_load_b tabOk rfl rfl rfl hb rfl rfl (lw_pure (pur_len_slice tabOk rfl rfl) rfl (lw_pure (pur_lss rfl rfl) rfl (cT ?_)))))))
     refine cw_yes rfl (by omega) ?_
     refine cw_skip (qw_then (cw_seq (cw_block (cw_seq ?_))))
     (refine cw_tdraw (fun wz => Ext w1 wz) 10 (.pure 0 (.pure 1 (.pure 2 (.pure 3 (.pure 4 (.pure 5 (.pure 6 (.pure 7 (.pure 8 (.pure 9 .tail)))))))))) mixed (by kernel_rfl) (panicOk_then (panicOk_block (panicOk_then (panicOk_then (panicOk_block (panicOk_then panicOk_body)))))) ?_; intro wa1 xa2 _)
     have qsa3 : (fun wz => Ext w1 wz) wa1 := xa2
     simp only at qsa3
     have d_hs := hs
     have d_hb := hb
     have d_hs' := hs'
     have d_hb' := hb'
     have d_rx := rx
     have d_sx := sx
     have d_ry := ry
     have d_sy := sy
     have za4 := Ext.size xa2
     replace X := Ext.ext X xa2
     replace hs := Bk.rowSits.ext hs xa2
     replace hb := Blk.ext hb xa2
     replace hs' := Bk.rowSits.ext hs' xa2
     replace hb' := Blk.ext hb' xa2
     replace rx := Row.ext rx xa2
     replace sx := Nd.sits.ext sx xa2
     replace ry := Row.ext ry xa2
     replace sy := Nd.sits.ext sy xa2
     clear xa2
     refine ⟨qsa3, ?_⟩
     refine tw_pure rfl (pur_fieldAddr tabOk rfl rfl rfl) rfl (tw_pure rfl (pur_load tabOk rfl rfl rfl (fun wz hz => Blk.cell (Blk.ext d_hb hz) rfl)) rfl (tw_pure rfl (pur_move rfl) rfl ?_))
     refine tw_pure rfl (pur_indexAddr tabOk rfl rfl rfl rfl (by omega) (by omega)) rfl ?_
     refine tw_pure rfl (pur_loads' tabOk rfl rfl rfl (fun wz hz => (Row.ext d_rx hz)) rfl) rfl (tw_pure rfl (pur_fieldAddr tabOk rfl rfl rfl) rfl (tw_pure rfl (pur_load tabOk rfl rfl rfl (fun wz hz => Blk.cell (Blk.ext d_hb' hz) rfl)) rfl (tw_pure rfl (pur_move rfl) rfl ?_)))
     refine tw_pure rfl (pur_indexAddr tabOk rfl rfl rfl rfl (by omega) (by omega)) rfl ?_
     refine tw_pure rfl (pur_loads' tabOk rfl rfl rfl (fun wz hz => (Row.ext d_ry hz)) rfl) rfl ?_
     clear qsa3 d_hs d_hb d_hs' d_hb' d_rx d_sx d_ry d_sy
     refine tw_tail rfl ?_
     refine lw_does (does_call (by kernel_rfl) rfl (IH.out x S S' _ _ _ _ _ (by omega) (by omega) (by omega) (by assumption) (by assumption)) (fun _ _ h => ⟨_, h.1⟩)) rfl ?_ (fun _ h => h)
     rintro _ wa6 ⟨⟨⟩, xa5⟩
     have za7 := Ext.size xa5
     replace X := Ext.ext X xa5
     replace hs := Bk.rowSits.ext hs xa5
     replace hb := Blk.ext hb xa5
     replace hs' := Bk.rowSits.ext hs' xa5
     replace hb' := Blk.ext hb' xa5
     replace rx := Row.ext rx xa5
     replace sx := Nd.sits.ext sx xa5
     replace ry := Row.ext ry xa5
     replace sy := Nd.sits.ext sy xa5
     clear xa5
     refine lw_pure (pur_not rfl) rfl (cT (cw_cond_f rfl (cw_skip (qw_block_norm (qw_then (cw_region (cM rfl rfl ?_)))))))
     refine lw_pure (pur_add rfl rfl (IntWalk.i64_in _ (by omega))) rfl ?_
     refine cA rfl rfl (lw_nil ?_)
     rotate_left 1
    exact qw_round (j + 1) (by (refine sub_cons rfl ?_; refine sub_cons rfl ?_; refine sub_cons rfl ?_; exact sub_nil)) ⟨hs, hs', X, hb, hb', by omega⟩ (by omega)
  · focus
     refine cw_seq (cS (cM rfl rfl (lw_pure (pur_fieldAddr tabOk rfl rfl rfl) rfl (lw_load_b tabOk rfl rfl rfl hb rfl rfl (lw_pure (pur_len_slice tabOk rfl rfl) rfl (lw_pure (pur_lss rfl rfl) rfl (cT ?_)))))))
     refine cw_no rfl (by omega) ?_
     refine cw_exit (qw_then_exit (qw_then_exit (qw_block_exit (qw_then (cS (cA rfl rfl (cT (cw_ret (qw_ret1 rfl rfl ?_)))))))))
     rotate_left 1
    exact ⟨rfl, X⟩
end Bk
namespace Bk
open Go Go.RowKit Go.Proofs
attribute [local irreducible] Go.Calls
theorem limit_size {x : Nd} {off : Int} {σ : PS} (h : (limitP x off σ).err = 0) : x.size ≤ 2000 := by
 unfold limitP at h
 split at h
 · exact absurd h (by assumption)
 · split at h
   · exact absurd h (fail_err (by decide))
   · split at h
     · exact absurd h (fail_err (by decide))
     · omega
theorem parseExpr_size (s : List UInt8) : (parseExpr s).1.size ≤ 2000 := by
 unfold parseExpr
 simp only
 split
 · show zeroNd.size ≤ 2000; decide
 · rename_i h; exact limit_size (by simpa using h)
theorem row_small (l : List Nd) : l.length ≤ rowSize l := by
 induction l with
 | nil => simp [rowSize]
 | cons x r ih => have : 1 ≤ x.size := by cases x; simp only [Nd.size]; omega
                  simp only [rowSize, List.length_cons]; omega
theorem kids_small {t : Nd} (h : t.size ≤ 2000) : t.kids.length ≤ 1000000000 ∧ rowSize t.kids ≤ 1000000000 := by
 cases t with
 | mk k n s l =>
  have := row_small l
  simp only [Nd.size, Nd.kids] at *
  omega
set_option maxRecDepth 100000 in
set_option maxHeartbeats 4000000 in
theorem ParserExpr_c (s : List UInt8) (w : World) (hs : s.length ≤ 9223372036854775807) (hS : Syms w) (hE : Errs w) : Calls Tryz.prog 4 #[str s] w fun e w' => e = .returned (.bool true) ∧ Ext w w' := by
 have X := Ext.refl w
 by_cases h : 600 < s.length
 · refine calls_in Tryz.func4 Tryz.ntmps4 rfl rfl ?_
   focus
    refine cS (cA rfl rfl (cT (cw_seq (cS ?_))))
    refine lw_does (does_call (by kernel_rfl) rfl (awake4_c _ (by assumption) (by assumption)) (fun _ _ h => ⟨_, h.1⟩)) rfl ?_ (fun _ h => h)
    rintro _ w2 ⟨⟨⟩, x1⟩
    have z3 := Ext.size x1
    replace hS := Syms.ext hS x1
    replace hE := Errs.ext hE x1
    replace X := Ext.ext X x1
    clear x1
    refine lw_pure (pur_not rfl) rfl (cM rfl rfl (lw_on rfl rfl rfl (rfl) (cM rfl rfl (lw_on rfl rfl rfl (rfl) (lw_pure (pur_len_s tabOk rfl rfl) rfl (lw_on rfl rfl rfl (rfl) (lw_pure (pur_gtr rfl rfl) rfl (lw_pure (pur_pick_f rfl rfl rfl) rfl (cT ?_)))))))))
    refine cw_yes rfl (by omega) ?_
    refine cS ?_
    refine lw_does (does_call (by kernel_rfl) rfl (awake4_c _ (by assumption) (by assumption)) (fun _ _ h => ⟨_, h.1⟩)) rfl ?_ (fun _ h => h)
    rintro _ w5 ⟨⟨⟩, x4⟩
    have z6 := Ext.size x4
    replace hS := Syms.ext hS x4
    replace hE := Errs.ext hE x4
    replace X := Ext.ext X x4
    clear x4
    refine cA rfl rfl (cT (cw_ret (qw_then_ret (qw_ret1 rfl rfl ?_))))
    rotate_left 1
   exact ⟨rfl, X⟩
 · have hz := parseExpr_size s
   have hk := kids_small hz
   have hE1 : ∀ w, Syms w → Errs w → Calls Tryz.prog 12 #[str s] w (ParseR w (parseExpr s)) := fun w => Expr_p s w (by omega)
   have hR1 : ∀ w, Calls Tryz.prog 13 #[str s] w (ParseR w (parseExpr s)) := fun w => RExpr_p s w (by omega)
   generalize parseExpr s = r at *
   have H1 := Lib.hid hE1; clear hE1
   have H2 := Lib.hid hR1; clear hR1
   refine calls_in Tryz.func4 Tryz.ntmps4 rfl rfl ?_
   focus
    refine cS (cA rfl rfl (cT (cw_seq (cS ?_))))
    refine lw_does (does_call (by kernel_rfl) rfl (awake4_c _ (by assumption) (by assumption)) (fun _ _ h => ⟨_, h.1⟩)) rfl ?_ (fun _ h => h)
    rintro _ wa2 ⟨⟨⟩, xa1⟩
    have za3 := Ext.size xa1
    replace hS := Syms.ext hS xa1
    replace hE := Errs.ext hE xa1
    replace X := Ext.ext X xa1
    clear xa1
    refine lw_pure (pur_not rfl) rfl (cM rfl rfl (lw_on rfl rfl rfl (rfl) (cM rfl rfl (lw_on rfl rfl rfl (rfl) (lw_pure (pur_len_s tabOk rfl rfl) rfl (lw_on rfl rfl rfl (rfl) (lw_pure (pur_gtr rfl rfl) rfl (lw_pure (pur_pick_f rfl rfl rfl) rfl (cT ?_)))))))))
    refine cw_no rfl (by omega) ?_
    refine cw_skip (qw_then (cS (cM rfl rfl ?_)))
    refine lw_does (does_call (by kernel_rfl) rfl (H1.out _ (by assumption) (by assumption)) (fun _ _ h => h.ret)) rfl ?_ (fun _ h => h)
    rintro _ wa8 ⟨aa4, ⟨ka5, ⟨⟨⟩, ⟨ha6, xa7⟩⟩⟩⟩
    have za9 := Ext.size xa7
    replace hS := Syms.ext hS xa7
    replace hE := Errs.ext hE xa7
    replace X := Ext.ext X xa7
    clear xa7
    refine cM rfl rfl (lw_pure (pur_extract rfl rfl) rfl (lw_pure (pur_extract rfl rfl) rfl (lw_pure (pur_extract rfl rfl) rfl ?_)))
    (refine lw_alloc' [_, _, _, _] zOk rfl rfl ?_; intro ba10 wa11 na12)
    (refine lw_init' [_, _, _, _] tabOk rfl rfl rfl rfl rfl rfl na12 rfl ?_; clear na12; clear wa11; intro wa13 na12)
    have ha14 := New.blk na12
    have xa15 := New.ext na12
    have pa16 := New.pos na12
    have za17 := New.size na12
    clear na12
    replace ha6 := Nd.sits.ext ha6 xa15
    replace hS := Syms.ext hS xa15
    replace hE := Errs.ext hE xa15
    replace X := Ext.ext X xa15
    clear xa15
    refine cA rfl rfl (cA rfl rfl (cN (cM rfl rfl ?_)))
    refine lw_does (does_call (by kernel_rfl) rfl (H2.out _) (fun _ _ h => h.ret)) rfl ?_ (fun _ h => h)
    rintro _ wa22 ⟨aa18, ⟨ka19, ⟨⟨⟩, ⟨ha20, xa21⟩⟩⟩⟩
    have za23 := Ext.size xa21
    replace ha14 := Blk.ext ha14 xa21
    replace ha6 := Nd.sits.ext ha6 xa21
    replace hS := Syms.ext hS xa21
    replace hE := Errs.ext hE xa21
    replace X := Ext.ext X xa21
    clear xa21
    refine cM rfl rfl (lw_pure (pur_extract rfl rfl) rfl (lw_pure (pur_extract rfl rfl) rfl (lw_pure (pur_extract rfl rfl) rfl ?_)))
    (refine lw_alloc' [_, _, _, _] zOk rfl rfl ?_; intro ba24 wa25 na26)
    (refine lw_init' [_, _, _, _] tabOk rfl rfl rfl rfl rfl rfl na26 rfl ?_; clear na26; clear wa25; intro wa27 na26)
    have ha28 := New.blk na26
    have xa29 := New.ext na26
    have pa30 := New.pos na26
    have za31 := New.size na26
    clear na26
    replace ha20 := Nd.sits.ext ha20 xa29
    replace ha14 := Blk.ext ha14 xa29
    replace ha6 := Nd.sits.ext ha6 xa29
    replace hS := Syms.ext hS xa29
    replace hE := Errs.ext hE xa29
    replace X := Ext.ext X xa29
    clear xa29
    refine cA rfl rfl (cA rfl rfl (cN (cM rfl rfl (cM rfl rfl (lw_pure (pur_eql rfl rfl) rfl (cM rfl rfl ?_))))))
    refine lw_on rfl rfl rfl (gd_tt (by omega)) ?_
    refine cM rfl rfl ?_
    refine lw_on rfl rfl rfl (gd_tt (by omega)) ?_
    refine cM rfl rfl ?_
    refine lw_on rfl rfl rfl (gd_tt (by omega)) ?_
    refine lw_pure (pur_eql rfl rfl) rfl ?_
    refine lw_pure (pur_pick_yes rfl rfl (by omega)) rfl ?_
    refine cM rfl rfl ?_
    refine lw_on rfl rfl rfl (gd_tt (by omega)) ?_
    refine lw_loads_b' [_, _, _, _] tabOk rfl rfl rfl ha14 rfl rfl rfl ?_
    refine lw_on rfl rfl rfl (gd_tt (by omega)) ?_
    refine lw_loads_b' [_, _, _, _] tabOk rfl rfl rfl ha28 rfl rfl rfl ?_
    refine lw_on rfl rfl rfl (gd_tt (by omega)) ?_
    refine lw_does (does_call (by kernel_rfl) rfl (Equal_t 2001 _ _ _ _ _ _ _ _ (by omega) hk.1 hk.2 (by assumption) (by assumption)) (fun _ _ h => ⟨_, h.1⟩)) rfl ?_ (fun _ h => h)
    rintro _ wa33 ⟨⟨⟩, xa32⟩
    have za34 := Ext.size xa32
    replace ha28 := Blk.ext ha28 xa32
    replace ha20 := Nd.sits.ext ha20 xa32
    replace ha14 := Blk.ext ha14 xa32
    replace ha6 := Nd.sits.ext ha6 xa32
    replace hS := Syms.ext hS xa32
    replace hE := Errs.ext hE xa32
    replace X := Ext.ext X xa32
    clear xa32
    refine lw_pure (pur_pick_yes rfl rfl (by omega)) rfl ?_
    refine cA rfl rfl (cT (cw_ret (qw_ret1 rfl rfl ?_)))
    rotate_left 1
   exact ⟨rfl, X⟩
end Bk
namespace Bk
open Go Go.RowKit Go.Proofs Go.Lib
theorem cells_of_strs {H : Type} {enc : TypeId × Value → H} {P : Program} {w : World} {base : Nat} {sp : Nat → Bool} {held : Bool} {fuel : Nat} {t e : TypeId} {n : Nat} {cs : List Value} {zs : List (List UInt8)} {p : List MemPlace}
 (ht : P.underlying t = some (.array n e)) (he : P.underlying e = some .string) (hce : P.cellsOf e = 1) (hct : P.cellsOf t = n)
 (h : DataW.trod enc P w base sp held fuel t cs = some (.agg (zs.map fun z => .lit (.string z)), p)) : cs = zs.map str := by
 cases fuel with
 | zero => simp [DataW.trod] at h
 | succ fuel =>
  simp only [DataW.trod, ht, hce, hct, Nat.mul_one] at h
  split at h
  · rename_i hl
    obtain ⟨xs, hm, hx⟩ := Option.map_eq_some_iff.1 h
    have hxs : xs.map (·.1) = zs.map fun z => (DataW.lit (.string z) : DataW H) := by
     have := congrArg Prod.fst hx
     simpa using this
    have hxl : xs.length = n := by simpa using mapM_length hm
    have hzl : zs.length = n := by
     have := congrArg List.length hxs
     simp at this
     omega
    apply List.ext_getElem?
    intro i
    by_cases hi : i < n
    · obtain ⟨b, hb, hf⟩ := mapM_at hm i i (by simp [hi])
      obtain ⟨z, hc, rfl, _⟩ := DataW.trod_string he hf
      have h1 : cs[i]? = some (.string z) := by
       have := congrArg (·[0]?) hc
       simpa [List.getElem?_take, List.getElem?_drop] using this
      have h2 : (xs.map (·.1))[i]? = some (DataW.lit (.string z.data.toList) : DataW H) := by simp [hb]
      rw [hxs] at h2
      simp only [List.getElem?_map, Option.map_eq_some_iff, DataW.lit.injEq, Lit.string.injEq] at h2
      obtain ⟨z', hz', rfl⟩ := h2
      simp [h1, hz']
    · rw [List.getElem?_eq_none (by omega), List.getElem?_eq_none (by simp; omega)]
  · cases h
end Bk
namespace Bk
open Go Go.RowKit Go.Proofs Go.Lib
theorem gSym4 : Tryz.prog.globalNamed "backstep/arith.symbols" = some 0 := by kernel_rfl
theorem gSymT4 : (Tryz.prog.globals[0]?).map (·.type) = some 120 := by kernel_rfl
theorem uSymT4 : Tryz.prog.underlying 120 = some (.array 43 9) := by kernel_rfl
theorem cSymT4 : Tryz.prog.cellsOf 120 = 43 := by kernel_rfl
theorem uStr4 : Tryz.prog.underlying 9 = some .string := by kernel_rfl
theorem cStr4 : Tryz.prog.cellsOf 9 = 1 := by kernel_rfl
theorem gErr4 : Tryz.prog.globalNamed "strconv.ErrRange" = some 3 := by kernel_rfl
theorem gErrT4 : (Tryz.prog.globals[3]?).map (·.type) = some 129 := by kernel_rfl
theorem uErr4 : ∃ ms, Tryz.prog.underlying 129 = some (.interface ms) := ⟨_, Tryz.underlying129⟩
theorem symData4 : (YtihgojmblldifaaGreatDoor.Rows.laid_backstep_arith_symbols : DataW Unit) = .agg (symbols.map fun z => .lit (.string z)) := rfl
abbrev laid4 : List (String × DataW Unit) := [("backstep/arith.symbols", YtihgojmblldifaaGreatDoor.Rows.laid_backstep_arith_symbols), ("math/bits.deBruijn32tab", YtihgojmblldifaaGreatDoor.Rows.laid_math_bits_deBruijn32tab), ("math/bits.deBruijn64tab", YtihgojmblldifaaGreatDoor.Rows.laid_math_bits_deBruijn64tab), ("internal/strconv.uint64pow10", YtihgojmblldifaaGreatDoor.Rows.laid_internal_strconv_uint64pow10), ("strconv.ErrRange", YtihgojmblldifaaGreatDoor.Rows.laid_strconv_ErrRange), ("strconv.ErrSyntax", YtihgojmblldifaaGreatDoor.Rows.laid_strconv_ErrSyntax)]
theorem syms_of_laid {W : World} (h : laidMetH Tryz.prog laid4 W) : Syms W ∧ Errs W := by
 have h' : laidMet Tryz.prog laid4 W := h
 obtain ⟨ps, ⟨g1, t1, cs1, f1, p1, q1, hg1, ht1, hv1, hd1, ⟨g2, t2, cs2, f2, p2, q2, hg2, ht2, hv2, hd2, ⟨g3, t3, cs3, f3, p3, q3, hg3, ht3, hv3, hd3, ⟨g4, t4, cs4, f4, p4, q4, hg4, ht4, hv4, hd4, ⟨g5, t5, cs5, f5, p5, q5, hg5, ht5, hv5, hd5, -, -⟩, -⟩, -⟩, -⟩, -⟩, -⟩ := h'
 obtain rfl := Option.some.inj (gSym4.symm.trans hg1)
 obtain rfl := Option.some.inj (gSymT4.symm.trans ht1)
 obtain rfl := Option.some.inj (gErr4.symm.trans hg5)
 obtain rfl := Option.some.inj (gErrT4.symm.trans ht5)
 rw [symData4] at hd1
 have e1 := cells_of_strs uSymT4 uStr4 cStr4 cSymT4 hd1
 refine ⟨⟨fun i hi => ?_⟩, ?_⟩
 · rw [World.var?_cell gSym4 hv1 i, ← Array.getElem?_toList, e1, List.getElem?_map]
   have : symbols[i]? = some (symbols.getD i []) := by
    rw [List.getD_eq_getElem?_getD, List.getElem?_eq_getElem (show i < symbols.length from hi)]; rfl
   rw [this]; rfl
 · obtain ⟨ms, hu⟩ := uErr4
   obtain ⟨f, u, v, hc, -, -⟩ := iface_of_trod hu hd5
   refine ⟨⟨u, v, ?_⟩⟩
   rw [World.var?_cell gErr4 hv5 0, ← Array.getElem?_toList, hc]
   rfl
end Bk
