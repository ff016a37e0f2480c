/- The statement ParserBlock holds: texts that its proof needs. No condition beyond the row's own. (Part 6 of 7.) -/
import Derived.Test.YtihgojmblldifaaGreatDoorPParserBlock5
set_option linter.unusedSimpArgs false
set_option linter.unusedVariables false
namespace Bk
open Go Go.RowKit Go.Proofs
attribute [local irreducible] Go.Calls
theorem mS_dropR {ts : List Tok} {σ σ' : PS} (h : Le ts σ σ') (k : Lt σ σ') (e : σ'.err = 0) : mS ts σ' + 1 ≤ mS ts σ := by
 have h1 := h.ok e
 have h2 := k e
 have h3 := h.wf
 unfold mS
 rw [if_pos e, if_pos h1]
 omega
set_option maxRecDepth 100000 in
set_option maxHeartbeats 4000000 in
theorem rstmts_w (c : RC) (k : Nat) (IH : ∀ j, j ≤ k → RStmtsC c j) (σ : PS) (w : World) (hP : RP c σ w) (hk : σ.err = 0 → 12 * mS c.ts σ + 15 ≤ k + 1) : Calls Tryz.prog 46 #[.pointer (some ⟨c.pb, 0, none⟩)] w (RTreeR c w (.mk 57 0 [] (stmtsR c.ts c.n (k + 1) [] σ).1, (stmtsR c.ts c.n (k + 1) [] σ).2)) := by
 have X := Fr.refl (· = c.pb) w
 have hpb := hP.pbB
 have hB := hP.B
 have hlen := hP.len
 have hmt : mS c.ts σ ≤ c.ts.length := by unfold mS; split <;> omega
 refine calls_in Tryz.func46 Tryz.ntmps46 rfl rfl ?_
 focus
  refine cS ?_
  (refine lw_alloc' [_, _, _, _] zOk rfl rfl ?_; intro b1 w2 n3)
  have h5 := New.blk n3
  have x6 := New.ext n3
  have p7 := New.pos n3
  have z8 := New.size n3
  clear n3
  replace hP := RP.ext hP x6
  replace X := Fr.ext X x6
  clear x6
  refine cN (lw_pure (pur_build' [_, _, _, _] tabOk zOk rfl rfl rfl rfl) rfl ?_)
  (refine lw_alloc' [_, _, _, _] zOk rfl rfl ?_; intro b9 w10 n11)
  (refine lw_init' [_, _, _, _] tabOk rfl rfl rfl rfl rfl rfl n11 rfl ?_; clear n11; clear w10; intro w12 n11)
  have h13 := New.blk n11
  have x14 := New.ext n11
  have p15 := New.pos n11
  have z16 := New.size n11
  clear n11
  replace h5 := Blk.ext h5 x14
  replace hP := RP.ext hP x14
  replace X := Fr.ext X x14
  clear x14
  refine cT (cw_seq (cw_block ?_))
  rotate_left 1
 refine cw_loop (ι := Nat × List Nd × Option Addr × Nat × PS) (fun _ => [(0, .pointer (some ⟨c.pb, 0, none⟩)), (2, .pointer (some ⟨b1, 0, none⟩)), (3, .pointer (some ⟨b9, 0, none⟩))])
  (fun x w' => RP c x.2.2.2.2 w' ∧ Blk w' b9 [.int .u8 57, .int .i64 0, str [], .slice x.2.2.1 x.2.1.length x.2.2.2.1] ∧ OwnL ndShape w' (b9 + 1) 27 (.slice x.2.2.1 x.2.1.length x.2.2.2.1) x.2.1 ∧
   Blk w' b1 [.int .u8 0, .int .i64 0, .string ⟨#[]⟩, .slice none 0 0] ∧ Fr (· = c.pb) w w' ∧ w12.heap.size ≤ w'.heap.size ∧
   stmtsR c.ts c.n (k + 1) [] σ = stmtsR c.ts c.n x.1 x.2.1 x.2.2.2.2 ∧ (x.2.2.2.2.err = 0 → 12 * mS c.ts x.2.2.2.2 + 15 ≤ x.1) ∧ 1 ≤ x.1 ∧ x.1 ≤ k + 1 ∧ (x.2.2.2.2.err = 0 → x.2.1.length + mS c.ts x.2.2.2.2 ≤ 1000001)) (fun x => x.1) (k + 1, [], none, 0, σ) (by (refine sub_cons rfl ?_; refine sub_cons rfl ?_; refine sub_cons rfl ?_; exact sub_nil))
  ⟨hP, h13, OwnL.nil, h5, X, Nat.le_refl _, rfl, hk, by simp only; omega, Nat.le_refl _, fun _ => by simp only [List.length_nil]; omega⟩ ?_
 rintro ⟨j, acc, a, cap, σ'⟩ w1 ⟨hP, hbn, hown, hbr, X, hz, he, hfj, hj1, hjk, hacc⟩
 simp only at hP hbn hown he hfj hj1 hjk hacc
 clear h13 h5
 rw [he]
 obtain ⟨j, rfl⟩ : ∃ i, j = i + 1 := ⟨j - 1, by omega⟩
 have hob : ∀ g, (Value.slice a acc.length cap).ownBlock = some g → g < w1.heap.size := fun g h => hown.lt h
 by_cases h0 : σ'.err = 0
 case neg =>
  rw [show stmtsR c.ts c.n (j + 1) acc σ' = (acc, σ') from by rw [stmtsR]; simp [h0]]
  focus
   refine cw_seq (cw_seq ?_)
   (refine cw_tdraw (fun wz => Ext w1 wz) 15 (.pure 0 (.pure 1 (.pure 2 (.pure 3 (.pure 4 (.pure 5 (.pure 6 (.pure 7 (.pure 8 (.pure 9 (.pure 10 (.pure 11 (.pure 12 (.pure 13 (.pure 14 .tail))))))))))))))) mixed (by kernel_rfl) (panicOk_then (panicOk_then (panicOk_then (panicOk_block (panicOk_then panicOk_body))))) ?_; intro wa1 xa2 _)
   have qsa3 : (fun wz => Ext w1 wz) wa1 := xa2
   simp only at qsa3
   have d_hP := hP
   have d_hbn := hbn
   have d_hown := hown
   have d_hbr := hbr
   have za4 := Ext.size xa2
   replace hP := RP.ext hP xa2
   replace hbn := Blk.ext hbn xa2
   replace hown := OwnL.ext hown xa2
   replace hbr := Blk.ext hbr xa2
   replace X := Fr.ext X xa2
   clear xa2
   refine ⟨qsa3, ?_⟩
   refine tw_pure rfl (pur_move rfl) rfl (tw_pure rfl (pur_nilCheck rfl) rfl (tw_pure rfl (pur_fieldAddr tabOk rfl rfl rfl) rfl (tw_pure rfl (pur_load tabOk rfl rfl rfl (fun wz hz => Blk.cell (Blk.ext (RP.blk d_hP) hz) rfl)) rfl (tw_pure rfl (pur_eql rfl rfl) rfl (tw_pure rfl (pur_move rfl) rfl ?_)))))
   refine tw_off rfl rfl rfl rfl (gd_tf (by assumption)) rfl ?_
   refine tw_off rfl rfl rfl rfl (gd_tf (by assumption)) rfl ?_
   refine tw_off rfl rfl rfl rfl (gd_tf (by assumption)) rfl ?_
   refine tw_off rfl rfl rfl rfl (gd_tf (by assumption)) rfl ?_
   refine tw_off rfl rfl rfl rfl (gd_tf (by assumption)) rfl ?_
   refine tw_off rfl rfl rfl rfl (gd_tf (by assumption)) rfl ?_
   refine tw_off rfl rfl rfl rfl (gd_tf (by assumption)) rfl ?_
   refine tw_off rfl rfl rfl rfl (gd_tf (by assumption)) rfl ?_
   refine tw_off rfl rfl rfl rfl (gd_tf (by assumption)) rfl ?_
   clear qsa3 d_hP d_hbn d_hown d_hbr
   refine tw_tail rfl ?_
   refine lw_off rfl rfl rfl (gd_tf (by assumption)) rfl ?_
   refine lw_pure (pur_pick_no rfl rfl (by assumption)) rfl ?_
   refine cM rfl rfl (lw_off rfl rfl rfl (rfl) rfl (lw_off rfl rfl rfl (rfl) rfl (lw_off rfl rfl rfl (rfl) rfl (lw_pure (pur_pick_f rfl rfl rfl) rfl (cT (cw_cond_f rfl (cw_exit (qw_then_exit (qw_then_exit (qw_block_exit (qw_then ?_)))))))))))
   refine cS (lw_loads_b' [_, _, _, _] tabOk rfl rfl rfl hbn rfl rfl rfl ?_)
   (refine lw_store' [_, _, _, _] [_, _, _, _] tabOk rfl rfl rfl rfl rfl rfl hbr rfl rfl ?_; intro wa5 na6)
   have ha9 := Put.blk na6
   have fa7 := Put.fr na6
   have za8 := Put.size na6
   clear na6 hbr
   replace hP := RP.fr hP fa7 (by omega)
   replace hbn := Blk.fr hbn fa7 (by omega)
   replace hown := OwnL.fr hown fa7 (by omega)
   replace X := Fr.fr X fa7 (by omega)
   clear fa7
   refine cT (cw_ret (qw_retc rfl tabOk rfl rfl rfl ha9 rfl ?_))
   rotate_left 1
  exact rtree_ret (sits_mk (OwnL.sits (by assumption) (fun b h => by omega))) (by assumption) X
 by_cases h1 : σ'.at_ < c.ts.length
 case neg =>
  rw [show stmtsR c.ts c.n (j + 1) acc σ' = (acc, σ') from by rw [stmtsR]; simp [h1]]
  focus
   refine cw_seq (cw_seq ?_)
   (refine cw_tdraw (fun wz => Ext w1 wz) 15 (.pure 0 (.pure 1 (.pure 2 (.pure 3 (.pure 4 (.pure 5 (.pure 6 (.pure 7 (.pure 8 (.pure 9 (.pure 10 (.pure 11 (.pure 12 (.pure 13 (.pure 14 .tail))))))))))))))) mixed (by kernel_rfl) (panicOk_then (panicOk_then (panicOk_then (panicOk_block (panicOk_then panicOk_body))))) ?_; intro wb1 xb2 _)
   have qsb3 : (fun wz => Ext w1 wz) wb1 := xb2
   simp only at qsb3
   have d_hP := hP
   have d_hbn := hbn
   have d_hown := hown
   have d_hbr := hbr
   have zb4 := Ext.size xb2
   replace hP := RP.ext hP xb2
   replace hbn := Blk.ext hbn xb2
   replace hown := OwnL.ext hown xb2
   replace hbr := Blk.ext hbr xb2
   replace X := Fr.ext X xb2
   clear xb2
   refine ⟨qsb3, ?_⟩
   refine tw_pure rfl (pur_move rfl) rfl (tw_pure rfl (pur_nilCheck rfl) rfl (tw_pure rfl (pur_fieldAddr tabOk rfl rfl rfl) rfl (tw_pure rfl (pur_load tabOk rfl rfl rfl (fun wz hz => Blk.cell (Blk.ext (RP.blk d_hP) hz) rfl)) rfl (tw_pure rfl (pur_eql rfl rfl) rfl (tw_pure rfl (pur_move rfl) rfl ?_)))))
   refine tw_on rfl rfl rfl rfl (gd_tt (by assumption)) (pur_move rfl) rfl ?_
   refine tw_on rfl rfl rfl rfl (gd_tt (by assumption)) (pur_nilCheck rfl) rfl ?_
   refine tw_on rfl rfl rfl rfl (gd_tt (by assumption)) (pur_fieldAddr tabOk rfl rfl rfl) rfl ?_
   refine tw_on rfl rfl rfl rfl (gd_tt (by assumption)) (pur_load tabOk rfl rfl rfl (fun wz hz => Blk.cell (Blk.ext (RP.blk d_hP) hz) rfl)) rfl ?_
   refine tw_on rfl rfl rfl rfl (gd_tt (by assumption)) (pur_move rfl) rfl ?_
   refine tw_on rfl rfl rfl rfl (gd_tt (by assumption)) (pur_nilCheck rfl) rfl ?_
   refine tw_on rfl rfl rfl rfl (gd_tt (by assumption)) (pur_fieldAddr0 tabOk rfl rfl rfl) rfl ?_
   refine tw_on rfl rfl rfl rfl (gd_tt (by assumption)) (pur_load tabOk rfl rfl rfl (fun wz hz => Blk.cell (Blk.ext (RP.blk d_hP) hz) rfl)) rfl ?_
   refine tw_on rfl rfl rfl rfl (gd_tt (by assumption)) (pur_len_slice tabOk rfl rfl) rfl ?_
   clear qsb3 d_hP d_hbn d_hown d_hbr
   refine tw_tail rfl ?_
   refine lw_on rfl rfl rfl (gd_tt (by assumption)) ?_
   refine lw_pure (pur_lss rfl rfl) rfl ?_
   refine lw_pure (pur_pick_yes rfl rfl (by assumption)) rfl ?_
   refine cM rfl rfl ?_
   refine lw_off rfl rfl rfl (gd_tf (by omega)) rfl ?_
   refine lw_off rfl rfl rfl (gd_tf (by omega)) rfl ?_
   refine lw_off rfl rfl rfl (gd_tf (by omega)) rfl ?_
   refine lw_pure (pur_pick_no rfl rfl (by omega)) rfl ?_
   refine cT (cw_cond_f rfl (cw_exit (qw_then_exit (qw_then_exit (qw_block_exit (qw_then (cS (lw_loads_b' [_, _, _, _] tabOk rfl rfl rfl hbn rfl rfl rfl ?_))))))))
   (refine lw_store' [_, _, _, _] [_, _, _, _] tabOk rfl rfl rfl rfl rfl rfl hbr rfl rfl ?_; intro wb5 nb6)
   have hb9 := Put.blk nb6
   have fb7 := Put.fr nb6
   have zb8 := Put.size nb6
   clear nb6 hbr
   replace hP := RP.fr hP fb7 (by omega)
   replace hbn := Blk.fr hbn fb7 (by omega)
   replace hown := OwnL.fr hown fb7 (by omega)
   replace X := Fr.fr X fb7 (by omega)
   clear fb7
   refine cT (cw_ret (qw_retc rfl tabOk rfl rfl rfl hb9 rfl ?_))
   rotate_left 1
  exact rtree_ret (sits_mk (OwnL.sits (by assumption) (fun b h => by omega))) (by assumption) X
 by_cases hb : (peekP c.ts σ').text = [125]
 · have hc : hasP c.ts σ' [125] = true := by simp [hasP, hb]
   rw [show stmtsR c.ts c.n (j + 1) acc σ' = (acc, σ') from by rw [stmtsR]; simp [hc]]
   focus
    refine cw_seq (cw_seq ?_)
    (refine cw_tdraw (fun wz => Ext w1 wz) 15 (.pure 0 (.pure 1 (.pure 2 (.pure 3 (.pure 4 (.pure 5 (.pure 6 (.pure 7 (.pure 8 (.pure 9 (.pure 10 (.pure 11 (.pure 12 (.pure 13 (.pure 14 .tail))))))))))))))) mixed (by kernel_rfl) (panicOk_then (panicOk_then (panicOk_then (panicOk_block (panicOk_then panicOk_body))))) ?_; intro wc1 xc2 _)
    have qsc3 : (fun wz => Ext w1 wz) wc1 := xc2
    simp only at qsc3
    have d_hP := hP
    have d_hbn := hbn
    have d_hown := hown
    have d_hbr := hbr
    have zc4 := Ext.size xc2
    replace hP := RP.ext hP xc2
    replace hbn := Blk.ext hbn xc2
    replace hown := OwnL.ext hown xc2
    replace hbr := Blk.ext hbr xc2
    replace X := Fr.ext X xc2
    clear xc2
    refine ⟨qsc3, ?_⟩
    refine tw_pure rfl (pur_move rfl) rfl (tw_pure rfl (pur_nilCheck rfl) rfl (tw_pure rfl (pur_fieldAddr tabOk rfl rfl rfl) rfl (tw_pure rfl (pur_load tabOk rfl rfl rfl (fun wz hz => Blk.cell (Blk.ext (RP.blk d_hP) hz) rfl)) rfl (tw_pure rfl (pur_eql rfl rfl) rfl (tw_pure rfl (pur_move rfl) rfl ?_)))))
    refine tw_on rfl rfl rfl rfl (gd_tt (by assumption)) (pur_move rfl) rfl ?_
    refine tw_on rfl rfl rfl rfl (gd_tt (by assumption)) (pur_nilCheck rfl) rfl ?_
    refine tw_on rfl rfl rfl rfl (gd_tt (by assumption)) (pur_fieldAddr tabOk rfl rfl rfl) rfl ?_
    refine tw_on rfl rfl rfl rfl (gd_tt (by assumption)) (pur_load tabOk rfl rfl rfl (fun wz hz => Blk.cell (Blk.ext (RP.blk d_hP) hz) rfl)) rfl ?_
    refine tw_on rfl rfl rfl rfl (gd_tt (by assumption)) (pur_move rfl) rfl ?_
    refine tw_on rfl rfl rfl rfl (gd_tt (by assumption)) (pur_nilCheck rfl) rfl ?_
    refine tw_on rfl rfl rfl rfl (gd_tt (by assumption)) (pur_fieldAddr0 tabOk rfl rfl rfl) rfl ?_
    refine tw_on rfl rfl rfl rfl (gd_tt (by assumption)) (pur_load tabOk rfl rfl rfl (fun wz hz => Blk.cell (Blk.ext (RP.blk d_hP) hz) rfl)) rfl ?_
    refine tw_on rfl rfl rfl rfl (gd_tt (by assumption)) (pur_len_slice tabOk rfl rfl) rfl ?_
    clear qsc3 d_hP d_hbn d_hown d_hbr
    refine tw_tail rfl ?_
    refine lw_on rfl rfl rfl (gd_tt (by assumption)) ?_
    refine lw_pure (pur_lss rfl rfl) rfl ?_
    refine lw_pure (pur_pick_yes rfl rfl (by assumption)) rfl ?_
    refine cM rfl rfl ?_
    refine lw_on rfl rfl rfl (gd_tt (by omega)) ?_
    refine cM rfl rfl ?_
    refine lw_on rfl rfl rfl (gd_tt (by omega)) ?_
    refine lw_does (does_call (by kernel_rfl) rfl (rpeek_c _ _ _ (by assumption)) (fun _ _ h => ⟨_, h.1⟩)) rfl ?_ (fun _ h => h)
    rintro _ wc6 ⟨⟨⟩, xc5⟩
    have zc7 := Ext.size xc5
    replace hP := RP.ext hP xc5
    replace hbn := Blk.ext hbn xc5
    replace hown := OwnL.ext hown xc5
    replace hbr := Blk.ext hbr xc5
    replace X := Fr.ext X xc5
    clear xc5
    refine lw_on rfl rfl rfl (gd_tt (by omega)) ?_
    refine lw_pure (pur_sneq rfl rfl) rfl ?_
    refine lw_pure (pur_pick_yes rfl rfl (by omega)) rfl ?_
    refine cT ?_
    refine cw_no rfl (not_not_intro (by assumption)) ?_
    refine cw_exit (qw_then_exit (qw_then_exit (qw_block_exit (qw_then (cS (lw_loads_b' [_, _, _, _] tabOk rfl rfl rfl hbn rfl rfl rfl ?_))))))
    (refine lw_store' [_, _, _, _] [_, _, _, _] tabOk rfl rfl rfl rfl rfl rfl hbr rfl rfl ?_; intro wc8 nc9)
    have hc12 := Put.blk nc9
    have fc10 := Put.fr nc9
    have zc11 := Put.size nc9
    clear nc9 hbr
    replace hP := RP.fr hP fc10 (by omega)
    replace hbn := Blk.fr hbn fc10 (by omega)
    replace hown := OwnL.fr hown fc10 (by omega)
    replace X := Fr.fr X fc10 (by omega)
    clear fc10
    refine cT (cw_ret (qw_retc rfl tabOk rfl rfl rfl hc12 rfl ?_))
    rotate_left 1
   exact rtree_ret (sits_mk (OwnL.sits (by assumption) (fun b h => by omega))) (by assumption) X
 have hc : hasP c.ts σ' [125] = false := by simp [hasP, hb]
 rw [show stmtsR c.ts c.n (j + 1) acc σ' = stmtsR c.ts c.n j (acc ++ [(stmtR c.ts c.n j σ').1]) (expectP c.ts c.n (stmtR c.ts c.n j σ').2 [59]) from by rw [stmtsR]; simp [h0, h1, hc]]
 have l1 := (stmtR_inv (ts := c.ts) (n := c.n) j).1 σ' hP.at_
 have l2 := expect_le (n := c.n) (t := [59]) l1.wf (by decide)
 have hlt : Lt σ' (expectP c.ts c.n (stmtR c.ts c.n j σ').2 [59]) := Lt.of_le l1 expect_lt
 have hdrop := mS_dropR (l1.trans l2) hlt
 have hacc0 := hacc h0
 have hfj0 := hfj h0
 clear l1 l2
 focus
  refine cw_seq (cw_seq ?_)
  (refine cw_tdraw (fun wz => Ext w1 wz) 15 (.pure 0 (.pure 1 (.pure 2 (.pure 3 (.pure 4 (.pure 5 (.pure 6 (.pure 7 (.pure 8 (.pure 9 (.pure 10 (.pure 11 (.pure 12 (.pure 13 (.pure 14 .tail))))))))))))))) mixed (by kernel_rfl) (panicOk_then (panicOk_then (panicOk_then (panicOk_block (panicOk_then panicOk_body))))) ?_; intro wd1 xd2 _)
  have qsd3 : (fun wz => Ext w1 wz) wd1 := xd2
  simp only at qsd3
  have d_hP := hP
  have d_hbn := hbn
  have d_hown := hown
  have d_hbr := hbr
  have zd4 := Ext.size xd2
  replace hP := RP.ext hP xd2
  replace hbn := Blk.ext hbn xd2
  replace hown := OwnL.ext hown xd2
  replace hbr := Blk.ext hbr xd2
  replace X := Fr.ext X xd2
  clear xd2
  refine ⟨qsd3, ?_⟩
  refine tw_pure rfl (pur_move rfl) rfl (tw_pure rfl (pur_nilCheck rfl) rfl (tw_pure rfl (pur_fieldAddr tabOk rfl rfl rfl) rfl (tw_pure rfl (pur_load tabOk rfl rfl rfl (fun wz hz => Blk.cell (Blk.ext (RP.blk d_hP) hz) rfl)) rfl (tw_pure rfl (pur_eql rfl rfl) rfl (tw_pure rfl (pur_move rfl) rfl ?_)))))
  refine tw_on rfl rfl rfl rfl (gd_tt (by assumption)) (pur_move rfl) rfl ?_
  refine tw_on rfl rfl rfl rfl (gd_tt (by assumption)) (pur_nilCheck rfl) rfl ?_
  refine tw_on rfl rfl rfl rfl (gd_tt (by assumption)) (pur_fieldAddr tabOk rfl rfl rfl) rfl ?_
  refine tw_on rfl rfl rfl rfl (gd_tt (by assumption)) (pur_load tabOk rfl rfl rfl (fun wz hz => Blk.cell (Blk.ext (RP.blk d_hP) hz) rfl)) rfl ?_
  refine tw_on rfl rfl rfl rfl (gd_tt (by assumption)) (pur_move rfl) rfl ?_
  refine tw_on rfl rfl rfl rfl (gd_tt (by assumption)) (pur_nilCheck rfl) rfl ?_
  refine tw_on rfl rfl rfl rfl (gd_tt (by assumption)) (pur_fieldAddr0 tabOk rfl rfl rfl) rfl ?_
  refine tw_on rfl rfl rfl rfl (gd_tt (by assumption)) (pur_load tabOk rfl rfl rfl (fun wz hz => Blk.cell (Blk.ext (RP.blk d_hP) hz) rfl)) rfl ?_
  refine tw_on rfl rfl rfl rfl (gd_tt (by assumption)) (pur_len_slice tabOk rfl rfl) rfl ?_
  clear qsd3 d_hP d_hbn d_hown d_hbr
  refine tw_tail rfl ?_
  refine lw_on rfl rfl rfl (gd_tt (by assumption)) ?_
  refine lw_pure (pur_lss rfl rfl) rfl ?_
  refine lw_pure (pur_pick_yes rfl rfl (by assumption)) rfl ?_
  refine cM rfl rfl ?_
  refine lw_on rfl rfl rfl (gd_tt (by omega)) ?_
  refine cM rfl rfl ?_
  refine lw_on rfl rfl rfl (gd_tt (by omega)) ?_
  refine lw_does (does_call (by kernel_rfl) rfl (rpeek_c _ _ _ (by assumption)) (fun _ _ h => ⟨_, h.1⟩)) rfl ?_ (fun _ h => h)
  rintro _ wd6 ⟨⟨⟩, xd5⟩
  have zd7 := Ext.size xd5
  replace hP := RP.ext hP xd5
  replace hbn := Blk.ext hbn xd5
  replace hown := OwnL.ext hown xd5
  replace hbr := Blk.ext hbr xd5
  replace X := Fr.ext X xd5
  clear xd5
  refine lw_on rfl rfl rfl (gd_tt (by omega)) ?_
  refine lw_pure (pur_sneq rfl rfl) rfl ?_
  refine lw_pure (pur_pick_yes rfl rfl (by omega)) rfl ?_
  refine cT ?_
  refine cw_yes rfl (by assumption) ?_
  refine cw_skip (qw_then (cw_block (cS (cM rfl rfl ?_))))
  refine lw_does (does_call (by kernel_rfl) rfl ((IH j (by omega)).stmt _ _ (by assumption) (by omega)) (fun _ _ h => h.ret)) rfl ?_ (fun _ h => h)
  rintro _ wd13 ⟨ad8, ⟨kd9, ⟨⟨⟩, ⟨hd10, ⟨hd11, fd12⟩⟩⟩⟩⟩
  have zd14 := Fr.size fd12
  clear hP
  replace hbn := Blk.fr hbn fd12 (by omega)
  replace hown := OwnL.fr hown fd12 (by omega)
  replace hbr := Blk.fr hbr fd12 (by omega)
  replace X := Fr.fr X fd12 (by omega)
  clear fd12
  (refine lw_alloc' [_, _, _, _] zOk rfl rfl ?_; intro bd15 wd16 nd17)
  (refine lw_init' [_, _, _, _] tabOk rfl rfl rfl rfl rfl rfl nd17 rfl ?_; clear nd17; clear wd16; intro wd18 nd17)
  have hd19 := New.blk nd17
  have xd20 := New.ext nd17
  have pd21 := New.pos nd17
  have zd22 := New.size nd17
  clear nd17
  replace hd10 := Nd.sits.ext hd10 xd20
  replace hd11 := RP.ext hd11 xd20
  replace hbn := Blk.ext hbn xd20
  replace hown := OwnL.ext hown xd20
  replace hbr := Blk.ext hbr xd20
  replace X := Fr.ext X xd20
  clear xd20
  refine cN (cM rfl rfl ?_)
  refine lw_does (does_call (by kernel_rfl) rfl (rtake_c _ _ _ _ (by assumption) (by decide)) (fun _ _ h => ⟨_, h.1⟩)) rfl ?_ (fun _ h => h)
  rintro _ wd25 ⟨⟨⟩, ⟨hd23, fd24⟩⟩
  have zd26 := Fr.size fd24
  replace hd19 := Blk.fr hd19 fd24 (by omega)
  replace hd10 := Nd.sits.fr hd10 fd24 (by omega)
  clear hd11
  replace hbn := Blk.fr hbn fd24 (by omega)
  replace hown := OwnL.fr hown fd24 (by omega)
  replace hbr := Blk.fr hbr fd24 (by omega)
  replace X := Fr.fr X fd24 (by omega)
  clear fd24
  refine cT (cw_region (lw_pure (pur_fieldAddr tabOk rfl rfl rfl) rfl (lw_load_b tabOk rfl rfl rfl hbn rfl rfl (lw_loads_b' [_, _, _, _] tabOk rfl rfl rfl hd19 rfl rfl rfl ?_))))
  (refine lw_does (does_slice' [_, _, _, _] tabOk zOk rfl rfl rfl rfl rfl rfl rfl rfl rfl) rfl ?_ (fun _ h => h); rintro _ wd28 ⟨bd27, rfl, nd29, td30⟩)
  clear td30
  have hd31 := New.blk nd29
  have xd32 := New.ext nd29
  have pd33 := New.pos nd29
  have zd34 := New.size nd29
  clear nd29
  replace hd23 := RP.ext hd23 xd32
  replace hd19 := Blk.ext hd19 xd32
  replace hd10 := Nd.sits.ext hd10 xd32
  replace hbn := Blk.ext hbn xd32
  replace hown := OwnL.ext hown xd32
  replace hbr := Blk.ext hbr xd32
  replace X := Fr.ext X xd32
  clear xd32
  refine lw_appendL (sh := ndShape) tabOk zOk rfl rfl rfl rfl (by kernel_rfl) rfl rfl rfl hown (Blk.row (by assumption)) ⟨_, _, rfl, Nd.sits.wide (by assumption) (fun b h => ⟨by omega, fun e => by have := hob _ e; omega⟩)⟩ (by omega) (by omega) rfl ?_
  rintro gd35 cap'd36 wd37 hd38 fd39
  have zd40 := Fr.size fd39
  clear hd31
  replace hd23 := RP.fr hd23 fd39 (by omega)
  clear hd19 hd10
  replace hbn := Blk.fr hbn fd39 (by omega)
  clear hown
  replace hbr := Blk.fr hbr fd39 (by omega)
  replace X := Fr.fr X fd39 (by omega)
  clear fd39
  refine lw_pure (pur_fieldAddr tabOk rfl rfl rfl) rfl ?_
  (refine lw_store' [_] [_, _, _, _] tabOk rfl rfl rfl rfl rfl rfl hbn rfl rfl ?_; intro wd41 nd42)
  have hd45 := Put.blk nd42
  have fd43 := Put.fr nd42
  have zd44 := Put.size nd42
  clear nd42 hbn
  replace hd38 := OwnL.fr hd38 fd43 (by omega)
  replace hd23 := RP.fr hd23 fd43 (by omega)
  replace hbr := Blk.fr hbr fd43 (by omega)
  replace X := Fr.fr X fd43 (by omega)
  clear fd43
  refine lw_nil (qw_block_norm ?_)
  rotate_left 1
 refine qw_round (j, acc ++ [(stmtR c.ts c.n j σ').1], some ⟨_, 0, none⟩, _, expectP c.ts c.n (stmtR c.ts c.n j σ').2 [59]) (by (refine sub_cons rfl ?_; refine sub_cons rfl ?_; refine sub_cons rfl ?_; exact sub_nil)) ⟨by assumption, by assumption, by assumption, by assumption, X, by omega, rfl, fun e => by have := hdrop e; simp only; omega, by simp only; omega, by simp only; omega, fun e => ?_⟩ (by simp)
 have := hdrop e
 simp only [List.length_append, List.length_cons, List.length_nil]
 omega
theorem rstmts_c (c : RC) (k : Nat) : RStmtsC c k := by
 induction k using Nat.strongRecOn with
 | _ k ih =>
  cases k with
  | zero => exact ⟨fun _ _ _ h => by omega, fun _ _ _ _ h => by omega, fun _ _ _ h => by omega⟩
  | succ k =>
   have IH : ∀ j, j ≤ k → RStmtsC c j := fun j hj => ih j (by omega)
   exact ⟨rstmt_w c k IH, fun σ w hP hk _ => rstmts_w c k IH σ w hP hk, rbody_w c k IH⟩
end Bk
namespace Bk
open Go Go.RowKit Go.Proofs
attribute [local irreducible] Go.Calls
set_option maxRecDepth 100000 in
set_option maxHeartbeats 1000000 in
theorem rDepth_c (N : Nat) : ∀ (t : Nd) (S : Nat → Prop) (a : Option Addr) (c : Nat) (w : World), t.size < N → t.size ≤ 1000000000 → t.sits S w a →
 Calls Tryz.prog 85 #[t.val a c] w fun e w' => e = .returned (.int .i64 t.depth) ∧ Ext w w' := by
 induction N with
 | zero => intro t S a c w h; omega
 | succ N ih =>
  rintro ⟨k, n, s, l⟩ S a c w hN hM hs
  have IH := Lib.hid ih; clear ih
  simp only [Nd.sits] at hs
  simp only [Nd.size] at hN hM
  have X := Ext.refl w
  have hl := length_rowSize l
  rw [show (Nd.mk k n s l).depth = rowDepth l + 1 from by simp only [Nd.depth]]
  refine calls_in Tryz.func85 Tryz.ntmps85 rfl rfl ?_
  focus
   refine cS ?_
   (refine lw_box' [_, _, _, _] rfl rfl rfl ?_; intro b1 w2 n3)
   have h4 := New.blk n3
   have x5 := New.ext n3
   have p6 := New.pos n3
   have z7 := New.size n3
   clear n3
   replace hs := Bk.rowSits.ext hs x5
   replace X := Ext.ext X x5
   clear x5
   refine cA rfl rfl (cN (cA rfl rfl (cT (cw_seq (cS (cA rfl rfl (cT (cw_block ?_))))))))
   rotate_left 1
  have hbx : Blk w2 b1 [.int .u8 k, .int .i64 n, str s, .slice a l.length c] := h4
  clear h4
  refine cw_loop (ι := Nat) (fun j => [(1, .pointer (some ⟨b1, 0, none⟩)), (4, .int .i64 j), (3, .int .i64 (rowDepth (l.take j)))]) (fun j w' => rowSits S w' l a ∧ Ext w w' ∧ Blk w' b1 [.int .u8 k, .int .i64 n, str s, .slice a l.length c] ∧ j ≤ l.length) (fun j => l.length - j) 0 (by (refine sub_cons rfl ?_; refine sub_cons rfl ?_; refine sub_cons rfl ?_; exact sub_nil)) ⟨hs, X, hbx, Nat.zero_le _⟩ ?_
  rintro j w1 ⟨hs, X, hbx, hj⟩
  by_cases hlt : j < l.length
  · obtain ⟨kb, ko, rfl, hkS, hkid⟩ := kidRows hs (by intro e; subst e; simp at hlt)
    obtain ⟨xa, xc, rx, sx⟩ := hkid j l[j] (List.getElem?_eq_getElem hlt)
    have hsz := size_mem (List.getElem_mem hlt)
    have ht : l.take (j + 1) = l.take j ++ [l[j]] := by rw [List.take_add_one, List.getElem?_eq_getElem hlt]; rfl
    have hb0 := rowDepth_le (l.take j)
    have hb1 := rowSize_take l j
    have hb2 := rowSize_take l (j + 1)
    have hb3 := depth_le l[j]
    rw [ht, rowSize_snoc] at hb2
    clear hkid
    generalize l[j] = x at *
    by_cases hg : rowDepth (l.take j) < x.depth
    · focus
       refine cw_seq (cS (cM rfl rfl (lw_pure (pur_fieldAddr tabOk rfl rfl rfl) rfl (lw_load_b tabOk rfl rfl rfl hbx rfl rfl (lw_pure (pur_len_slice tabOk rfl rfl) rfl (lw_pure (pur_lss rfl rfl) rfl (cT ?_)))))))
       refine cw_yes rfl (by omega) ?_
       refine cw_skip (qw_then (cw_seq (cw_block (cS (lw_pure (pur_fieldAddr tabOk rfl rfl rfl) rfl (lw_load_b tabOk rfl rfl rfl hbx rfl rfl (cM rfl rfl ?_)))))))
       refine lw_pure (pur_indexAddr tabOk rfl rfl rfl rfl (by omega) (by omega)) rfl ?_
       refine lw_loads_r0 tabOk rfl rfl rfl rx rfl rfl ?_
       refine lw_does (does_call (by kernel_rfl) rfl (IH.out _ S _ _ _ (by omega) (by omega) (by assumption)) (fun _ _ h => ⟨_, h.1⟩)) rfl ?_ (fun _ h => h)
       rintro _ wa2 ⟨⟨⟩, xa1⟩
       have za3 := Ext.size xa1
       replace X := Ext.ext X xa1
       replace hs := Bk.rowSits.ext hs xa1
       replace hbx := Blk.ext hbx xa1
       replace rx := Row.ext rx xa1
       replace sx := Nd.sits.ext sx xa1
       clear xa1
       refine cA rfl rfl (cN (cM rfl rfl (cM rfl rfl (lw_pure (pur_gtr rfl rfl) rfl (cT ?_)))))
       refine cw_yes rfl (by assumption) ?_
       refine cw_region (cM rfl rfl (cA rfl rfl (lw_nil (qw_block_norm (qw_then (cw_region (cM rfl rfl ?_)))))))
       refine lw_pure (pur_add rfl rfl (IntWalk.i64_in _ (by omega))) rfl ?_
       refine cA rfl rfl (lw_nil ?_)
       rotate_left 1
      refine qw_round (j + 1) ?_ ⟨hs, X, hbx, by omega⟩ (by omega)
      refine sub_cons rfl (sub_cons rfl (sub_cons' rfl ?_ sub_nil))
      rw [ht, rowDepth_snoc]; congr 1; omega
    · focus
       refine cw_seq (cS (cM rfl rfl (lw_pure (pur_fieldAddr tabOk rfl rfl rfl) rfl (lw_load_b tabOk rfl rfl rfl hbx rfl rfl (lw_pure (pur_len_slice tabOk rfl rfl) rfl (lw_pure (pur_lss rfl rfl) rfl (cT ?_)))))))
       refine cw_yes rfl (by omega) ?_
       refine cw_skip (qw_then (cw_seq (cw_block (cS (lw_pure (pur_fieldAddr tabOk rfl rfl rfl) rfl (lw_load_b tabOk rfl rfl rfl hbx rfl rfl (cM rfl rfl ?_)))))))
       refine lw_pure (pur_indexAddr tabOk rfl rfl rfl rfl (by omega) (by omega)) rfl ?_
       refine lw_loads_r0 tabOk rfl rfl rfl rx rfl rfl ?_
       refine lw_does (does_call (by kernel_rfl) rfl (IH.out _ S _ _ _ (by omega) (by omega) (by assumption)) (fun _ _ h => ⟨_, h.1⟩)) rfl ?_ (fun _ h => h)
       rintro _ wb2 ⟨⟨⟩, xb1⟩
       have zb3 := Ext.size xb1
       replace X := Ext.ext X xb1
       replace hs := Bk.rowSits.ext hs xb1
       replace hbx := Blk.ext hbx xb1
       replace rx := Row.ext rx xb1
       replace sx := Nd.sits.ext sx xb1
       clear xb1
       refine cA rfl rfl (cN (cM rfl rfl (cM rfl rfl (lw_pure (pur_gtr rfl rfl) rfl (cT ?_)))))
       refine cw_no rfl (by assumption) ?_
       refine cw_skip (qw_block_norm (qw_then (cw_region (cM rfl rfl ?_))))
       refine lw_pure (pur_add rfl rfl (IntWalk.i64_in _ (by omega))) rfl ?_
       refine cA rfl rfl (lw_nil ?_)
       rotate_left 1
      refine qw_round (j + 1) ?_ ⟨hs, X, hbx, by omega⟩ (by omega)
      refine sub_cons rfl (sub_cons rfl (sub_cons' rfl ?_ sub_nil))
      rw [ht, rowDepth_snoc]; congr 1; omega
  · have : j = l.length := by omega
    subst this
    have hb0 := rowDepth_le l
    rw [List.take_length]
    focus
     refine cw_seq (cS (cM rfl rfl (lw_pure (pur_fieldAddr tabOk rfl rfl rfl) rfl (lw_load_b tabOk rfl rfl rfl hbx rfl rfl (lw_pure (pur_len_slice tabOk rfl rfl) rfl (lw_pure (pur_lss rfl rfl) rfl (cT ?_)))))))
     refine cw_no rfl (by omega) ?_
     refine cw_exit (qw_then_exit (qw_then_exit (qw_block_exit (qw_then (cS (cM rfl rfl ?_))))))
     refine lw_pure (pur_add rfl rfl (IntWalk.i64_in _ (by omega))) rfl ?_
     refine cA rfl rfl (cT (cw_ret (qw_ret1 rfl rfl ?_)))
     rotate_left 1
    exact ⟨rfl, X⟩
set_option maxRecDepth 100000 in
set_option maxHeartbeats 1000000 in
theorem rSize_c (N : Nat) : ∀ (t : Nd) (S : Nat → Prop) (a : Option Addr) (c : Nat) (w : World), t.size < N → t.size ≤ 1000000000 → t.sits S w a →
 Calls Tryz.prog 86 #[t.val a c] w fun e w' => e = .returned (.int .i64 t.size) ∧ Ext w w' := by
 induction N with
 | zero => intro t S a c w h; omega
 | succ N ih =>
  rintro ⟨k, n, s, l⟩ S a c w hN hM hs
  have IH := Lib.hid ih; clear ih
  simp only [Nd.sits] at hs
  simp only [Nd.size] at hN hM
  have X := Ext.refl w
  have hl := length_rowSize l
  rw [show ((Nd.mk k n s l).size : Int) = ((rowSize l : Nat) : Int) + 1 from by simp only [Nd.size]; omega]
  refine calls_in Tryz.func86 Tryz.ntmps86 rfl rfl ?_
  focus
   refine cS ?_
   (refine lw_box' [_, _, _, _] rfl rfl rfl ?_; intro b1 w2 n3)
   have h4 := New.blk n3
   have x5 := New.ext n3
   have p6 := New.pos n3
   have z7 := New.size n3
   clear n3
   replace hs := Bk.rowSits.ext hs x5
   replace X := Ext.ext X x5
   clear x5
   refine cA rfl rfl (cN (cA rfl rfl (cT (cw_seq (cS (cA rfl rfl (cT (cw_block ?_))))))))
   rotate_left 1
  have hbx : Blk w2 b1 [.int .u8 k, .int .i64 n, str s, .slice a l.length c] := h4
  clear h4
  refine cw_loop (ι := Nat) (fun j => [(1, .pointer (some ⟨b1, 0, none⟩)), (4, .int .i64 j), (3, .int .i64 (((rowSize (l.take j) : Nat) : Int) + 1))]) (fun j w' => rowSits S w' l a ∧ Ext w w' ∧ Blk w' b1 [.int .u8 k, .int .i64 n, str s, .slice a l.length c] ∧ j ≤ l.length) (fun j => l.length - j) 0 (by (refine sub_cons rfl ?_; refine sub_cons rfl ?_; refine sub_cons rfl ?_; exact sub_nil)) ⟨hs, X, hbx, Nat.zero_le _⟩ ?_
  rintro j w1 ⟨hs, X, hbx, hj⟩
  by_cases hlt : j < l.length
  · obtain ⟨kb, ko, rfl, hkS, hkid⟩ := kidRows hs (by intro e; subst e; simp at hlt)
    obtain ⟨xa, xc, rx, sx⟩ := hkid j l[j] (List.getElem?_eq_getElem hlt)
    have hsz := size_mem (List.getElem_mem hlt)
    have ht : l.take (j + 1) = l.take j ++ [l[j]] := by rw [List.take_add_one, List.getElem?_eq_getElem hlt]; rfl
    have hb0 := rowDepth_le (l.take j)
    have hb1 := rowSize_take l j
    have hb2 := rowSize_take l (j + 1)
    have hb3 := depth_le l[j]
    rw [ht, rowSize_snoc] at hb2
    clear hkid
    generalize l[j] = x at *
    focus
     refine cw_seq (cS (cM rfl rfl (lw_pure (pur_fieldAddr tabOk rfl rfl rfl) rfl (lw_load_b tabOk rfl rfl rfl hbx rfl rfl (lw_pure (pur_len_slice tabOk rfl rfl) rfl (lw_pure (pur_lss rfl rfl) rfl (cT ?_)))))))
     refine cw_yes rfl (by omega) ?_
     refine cw_skip (qw_then (cw_seq (cw_block (cw_region (cM rfl rfl (lw_pure (pur_fieldAddr tabOk rfl rfl rfl) rfl (lw_load_b tabOk rfl rfl rfl hbx rfl rfl (cM rfl rfl ?_))))))))
     refine lw_pure (pur_indexAddr tabOk rfl rfl rfl rfl (by omega) (by omega)) rfl ?_
     refine lw_loads_r0 tabOk rfl rfl rfl rx rfl rfl ?_
     refine lw_does (does_call (by kernel_rfl) rfl (IH.out _ S _ _ _ (by omega) (by omega) (by assumption)) (fun _ _ h => ⟨_, h.1⟩)) rfl ?_ (fun _ h => h)
     rintro _ wa2 ⟨⟨⟩, xa1⟩
     have za3 := Ext.size xa1
     replace X := Ext.ext X xa1
     replace hs := Bk.rowSits.ext hs xa1
     replace hbx := Blk.ext hbx xa1
     replace rx := Row.ext rx xa1
     replace sx := Nd.sits.ext sx xa1
     clear xa1
     refine lw_pure (pur_add rfl rfl (IntWalk.i64_in _ (by omega))) rfl ?_
     refine cA rfl rfl (lw_nil (qw_block_norm (qw_then (cw_region (cM rfl rfl ?_)))))
     refine lw_pure (pur_add rfl rfl (IntWalk.i64_in _ (by omega))) rfl ?_
     refine cA rfl rfl (lw_nil ?_)
     rotate_left 1
    refine qw_round (j + 1) ?_ ⟨hs, X, hbx, by omega⟩ (by omega)
    refine sub_cons rfl (sub_cons rfl (sub_cons' rfl ?_ sub_nil))
    rw [ht, rowSize_snoc]; congr 1; omega
  · have : j = l.length := by omega
    subst this
    have hb0 := rowDepth_le l
    rw [List.take_length]
    focus
     refine cw_seq (cS (cM rfl rfl (lw_pure (pur_fieldAddr tabOk rfl rfl rfl) rfl (lw_load_b tabOk rfl rfl rfl hbx rfl rfl (lw_pure (pur_len_slice tabOk rfl rfl) rfl (lw_pure (pur_lss rfl rfl) rfl (cT ?_)))))))
     refine cw_no rfl (by omega) ?_
     refine cw_exit (qw_then_exit (qw_then_exit (qw_block_exit (qw_then (cS (cM rfl rfl (cA rfl rfl (cT (cw_ret (qw_ret1 rfl rfl ?_))))))))))
     rotate_left 1
    exact ⟨rfl, X⟩
end Bk
namespace Bk
open Go Go.RowKit Go.Proofs
attribute [local irreducible] Go.Calls
set_option maxRecDepth 100000 in
set_option maxHeartbeats 1000000 in
theorem rlimits_c (c : RC) (σ : PS) (t : Nd) (S : Nat → Prop) (a : Option Addr) (k : Nat) (off : Int) (w : World) (hP : RP c σ w) (hz : σ.err = 0 → t.size ≤ 1000000000) (hs : t.sits S w a) (hS : ∀ b, S b → b ≠ c.pb) :
 Calls Tryz.prog 43 #[.pointer (some ⟨c.pb, 0, none⟩), t.val a k, .int .i64 off] w fun r w' => r = .returned (.tuple #[]) ∧ RP c (limitP t off σ) w' ∧ Fr (· = c.pb) w w' := by
 have X := Fr.refl (· = c.pb) w
 have hpb := hP.pbB
 have hB := hP.B
 by_cases h0 : σ.err = 0
 · have hz' := hz h0
   by_cases hd : 80 < t.depth
   · rw [show limitP t off σ = failP σ off 19 from by simp [limitP, h0, hd]]
     have he := fail_err (σ := σ) (off := off) (e := 19) (by decide)
     refine calls_in Tryz.func43 Tryz.ntmps43 rfl rfl ?_
     focus
      refine cS ?_
      (refine lw_box' [_, _, _, _] rfl rfl rfl ?_; intro b1 w2 n3)
      have h4 := New.blk n3
      have x5 := New.ext n3
      have p6 := New.pos n3
      have z7 := New.size n3
      clear n3
      replace hP := RP.ext hP x5
      replace hs := Nd.sits.ext hs x5
      replace X := Fr.ext X x5
      clear x5
      refine cT (cw_seq (cS (cM rfl rfl (lw_pure (pur_nilCheck rfl) rfl (lw_pure (pur_fieldAddr tabOk rfl rfl rfl) rfl (lw_load_b tabOk rfl rfl rfl (RP.blk hP) rfl rfl (lw_pure (pur_eql rfl rfl) rfl (cM rfl rfl ?_))))))))
      refine lw_on rfl rfl rfl (gd_tt (by assumption)) ?_
      refine lw_loads_b' [_, _, _, _] tabOk rfl rfl rfl h4 rfl rfl rfl ?_
      refine lw_on rfl rfl rfl (gd_tt (by assumption)) ?_
      refine lw_does (does_call (by kernel_rfl) rfl (rDepth_c _ _ _ _ _ _ (Nat.lt_succ_self _) (by omega) (by assumption)) (fun _ _ h => ⟨_, h.1⟩)) rfl ?_ (fun _ h => h)
      rintro _ w9 ⟨⟨⟩, x8⟩
      have z10 := Ext.size x8
      replace h4 := Blk.ext h4 x8
      replace hP := RP.ext hP x8
      replace hs := Nd.sits.ext hs x8
      replace X := Fr.ext X x8
      clear x8
      refine lw_on rfl rfl rfl (gd_tt (by assumption)) ?_
      refine lw_pure (pur_gtr rfl rfl) rfl ?_
      refine lw_pure (pur_pick_yes rfl rfl (by assumption)) rfl ?_
      refine cT ?_
      refine cw_yes rfl (by assumption) ?_
      refine cw_region (cM rfl rfl (cM rfl rfl ?_))
      refine lw_does (does_call (by kernel_rfl) rfl (rfail_c _ _ _ _ _ (by assumption)) (fun _ _ h => ⟨_, h.1⟩)) rfl ?_ (fun _ h => h)
      rintro _ w13 ⟨⟨⟩, ⟨h11, f12⟩⟩
      have z14 := Fr.size f12
      replace h4 := Blk.fr h4 f12 (by omega)
      clear hP
      replace hs := Nd.sits.fr hs f12 (fun k hk e => hS k hk e)
      replace X := Fr.fr X f12 (by omega)
      clear f12
      refine cN (cM rfl rfl (lw_pure (pur_nilCheck rfl) rfl (lw_pure (pur_fieldAddr tabOk rfl rfl rfl) rfl (lw_load_b tabOk rfl rfl rfl (RP.blk h11) rfl rfl (lw_pure (pur_eql rfl rfl) rfl (cM rfl rfl ?_))))))
      refine lw_off rfl rfl rfl (gd_tf (by assumption)) rfl ?_
      refine lw_off rfl rfl rfl (gd_tf (by assumption)) rfl ?_
      refine lw_off rfl rfl rfl (gd_tf (by assumption)) rfl ?_
      refine lw_pure (pur_pick_no rfl rfl (by assumption)) rfl ?_
      refine cT (cw_cond_f rfl (cw_skip (qw_end0 rfl ?_)))
      rotate_left 1
     exact ⟨rfl, by assumption, X⟩
   · by_cases h2 : 2000 < t.size
     · rw [show limitP t off σ = failP σ off 5 from by simp [limitP, h0, hd, h2]]
       refine calls_in Tryz.func43 Tryz.ntmps43 rfl rfl ?_
       focus
        refine cS ?_
        (refine lw_box' [_, _, _, _] rfl rfl rfl ?_; intro ba1 wa2 na3)
        have ha4 := New.blk na3
        have xa5 := New.ext na3
        have pa6 := New.pos na3
        have za7 := New.size na3
        clear na3
        replace hP := RP.ext hP xa5
        replace hs := Nd.sits.ext hs xa5
        replace X := Fr.ext X xa5
        clear xa5
        refine cT (cw_seq (cS (cM rfl rfl (lw_pure (pur_nilCheck rfl) rfl (lw_pure (pur_fieldAddr tabOk rfl rfl rfl) rfl (lw_load_b tabOk rfl rfl rfl (RP.blk hP) rfl rfl (lw_pure (pur_eql rfl rfl) rfl (cM rfl rfl ?_))))))))
        refine lw_on rfl rfl rfl (gd_tt (by assumption)) ?_
        refine lw_loads_b' [_, _, _, _] tabOk rfl rfl rfl ha4 rfl rfl rfl ?_
        refine lw_on rfl rfl rfl (gd_tt (by assumption)) ?_
        refine lw_does (does_call (by kernel_rfl) rfl (rDepth_c _ _ _ _ _ _ (Nat.lt_succ_self _) (by omega) (by assumption)) (fun _ _ h => ⟨_, h.1⟩)) rfl ?_ (fun _ h => h)
        rintro _ wa9 ⟨⟨⟩, xa8⟩
        have za10 := Ext.size xa8
        replace ha4 := Blk.ext ha4 xa8
        replace hP := RP.ext hP xa8
        replace hs := Nd.sits.ext hs xa8
        replace X := Fr.ext X xa8
        clear xa8
        refine lw_on rfl rfl rfl (gd_tt (by assumption)) ?_
        refine lw_pure (pur_gtr rfl rfl) rfl ?_
        refine lw_pure (pur_pick_yes rfl rfl (by assumption)) rfl ?_
        refine cT ?_
        refine cw_no rfl (by assumption) ?_
        refine cw_skip (qw_then (cS (cM rfl rfl (lw_pure (pur_nilCheck rfl) rfl (lw_pure (pur_fieldAddr tabOk rfl rfl rfl) rfl (lw_load_b tabOk rfl rfl rfl (RP.blk hP) rfl rfl (lw_pure (pur_eql rfl rfl) rfl (cM rfl rfl ?_))))))))
        refine lw_on rfl rfl rfl (gd_tt (by assumption)) ?_
        refine lw_loads_b' [_, _, _, _] tabOk rfl rfl rfl ha4 rfl rfl rfl ?_
        refine lw_on rfl rfl rfl (gd_tt (by assumption)) ?_
        refine lw_does (does_call (by kernel_rfl) rfl (rSize_c _ _ _ _ _ _ (Nat.lt_succ_self _) (by omega) (by assumption)) (fun _ _ h => ⟨_, h.1⟩)) rfl ?_ (fun _ h => h)
        rintro _ wa12 ⟨⟨⟩, xa11⟩
        have za13 := Ext.size xa11
        replace ha4 := Blk.ext ha4 xa11
        replace hP := RP.ext hP xa11
        replace hs := Nd.sits.ext hs xa11
        replace X := Fr.ext X xa11
        clear xa11
        refine lw_on rfl rfl rfl (gd_tt (by assumption)) ?_
        refine lw_pure (pur_gtr rfl rfl) rfl ?_
        refine lw_pure (pur_pick_yes rfl rfl (by assumption)) rfl ?_
        refine cT ?_
        refine cw_yes rfl (by omega) ?_
        refine cw_region (cM rfl rfl (cM rfl rfl ?_))
        refine lw_does (does_call (by kernel_rfl) rfl (rfail_c _ _ _ _ _ (by assumption)) (fun _ _ h => ⟨_, h.1⟩)) rfl ?_ (fun _ h => h)
        rintro _ wa16 ⟨⟨⟩, ⟨ha14, fa15⟩⟩
        have za17 := Fr.size fa15
        replace ha4 := Blk.fr ha4 fa15 (by omega)
        clear hP
        replace hs := Nd.sits.fr hs fa15 (fun k hk e => hS k hk e)
        replace X := Fr.fr X fa15 (by omega)
        clear fa15
        refine lw_nil (qw_end0 rfl ?_)
        rotate_left 1
       exact ⟨rfl, by assumption, X⟩
     · rw [show limitP t off σ = σ from by simp [limitP, h0, hd, h2]]
       refine calls_in Tryz.func43 Tryz.ntmps43 rfl rfl ?_
       focus
        refine cS ?_
        (refine lw_box' [_, _, _, _] rfl rfl rfl ?_; intro bb1 wb2 nb3)
        have hb4 := New.blk nb3
        have xb5 := New.ext nb3
        have pb6 := New.pos nb3
        have zb7 := New.size nb3
        clear nb3
        replace hP := RP.ext hP xb5
        replace hs := Nd.sits.ext hs xb5
        replace X := Fr.ext X xb5
        clear xb5
        refine cT (cw_seq (cS (cM rfl rfl (lw_pure (pur_nilCheck rfl) rfl (lw_pure (pur_fieldAddr tabOk rfl rfl rfl) rfl (lw_load_b tabOk rfl rfl rfl (RP.blk hP) rfl rfl (lw_pure (pur_eql rfl rfl) rfl (cM rfl rfl ?_))))))))
        refine lw_on rfl rfl rfl (gd_tt (by assumption)) ?_
        refine lw_loads_b' [_, _, _, _] tabOk rfl rfl rfl hb4 rfl rfl rfl ?_
        refine lw_on rfl rfl rfl (gd_tt (by assumption)) ?_
        refine lw_does (does_call (by kernel_rfl) rfl (rDepth_c _ _ _ _ _ _ (Nat.lt_succ_self _) (by omega) (by assumption)) (fun _ _ h => ⟨_, h.1⟩)) rfl ?_ (fun _ h => h)
        rintro _ wb9 ⟨⟨⟩, xb8⟩
        have zb10 := Ext.size xb8
        replace hb4 := Blk.ext hb4 xb8
        replace hP := RP.ext hP xb8
        replace hs := Nd.sits.ext hs xb8
        replace X := Fr.ext X xb8
        clear xb8
        refine lw_on rfl rfl rfl (gd_tt (by assumption)) ?_
        refine lw_pure (pur_gtr rfl rfl) rfl ?_
        refine lw_pure (pur_pick_yes rfl rfl (by assumption)) rfl ?_
        refine cT ?_
        refine cw_no rfl (by assumption) ?_
        refine cw_skip (qw_then (cS (cM rfl rfl (lw_pure (pur_nilCheck rfl) rfl (lw_pure (pur_fieldAddr tabOk rfl rfl rfl) rfl (lw_load_b tabOk rfl rfl rfl (RP.blk hP) rfl rfl (lw_pure (pur_eql rfl rfl) rfl (cM rfl rfl ?_))))))))
        refine lw_on rfl rfl rfl (gd_tt (by assumption)) ?_
        refine lw_loads_b' [_, _, _, _] tabOk rfl rfl rfl hb4 rfl rfl rfl ?_
        refine lw_on rfl rfl rfl (gd_tt (by assumption)) ?_
        refine lw_does (does_call (by kernel_rfl) rfl (rSize_c _ _ _ _ _ _ (Nat.lt_succ_self _) (by omega) (by assumption)) (fun _ _ h => ⟨_, h.1⟩)) rfl ?_ (fun _ h => h)
        rintro _ wb12 ⟨⟨⟩, xb11⟩
        have zb13 := Ext.size xb11
        replace hb4 := Blk.ext hb4 xb11
        replace hP := RP.ext hP xb11
        replace hs := Nd.sits.ext hs xb11
        replace X := Fr.ext X xb11
        clear xb11
        refine lw_on rfl rfl rfl (gd_tt (by assumption)) ?_
        refine lw_pure (pur_gtr rfl rfl) rfl ?_
        refine lw_pure (pur_pick_yes rfl rfl (by assumption)) rfl ?_
        refine cT ?_
        refine cw_no rfl (by omega) ?_
        refine cw_skip (qw_end0 rfl ?_)
        rotate_left 1
       exact ⟨rfl, by assumption, X⟩
 · rw [show limitP t off σ = σ from by simp [limitP, h0]]
   refine calls_in Tryz.func43 Tryz.ntmps43 rfl rfl ?_
   focus
    refine cS ?_
    (refine lw_box' [_, _, _, _] rfl rfl rfl ?_; intro bc1 wc2 nc3)
    have hc4 := New.blk nc3
    have xc5 := New.ext nc3
    have pc6 := New.pos nc3
    have zc7 := New.size nc3
    clear nc3
    replace hP := RP.ext hP xc5
    replace hs := Nd.sits.ext hs xc5
    replace X := Fr.ext X xc5
    clear xc5
    refine cT (cw_seq (cS (cM rfl rfl (lw_pure (pur_nilCheck rfl) rfl (lw_pure (pur_fieldAddr tabOk rfl rfl rfl) rfl (lw_load_b tabOk rfl rfl rfl (RP.blk hP) rfl rfl (lw_pure (pur_eql rfl rfl) rfl (cM rfl rfl ?_))))))))
    refine lw_off rfl rfl rfl (gd_tf (by assumption)) rfl ?_
    refine lw_off rfl rfl rfl (gd_tf (by assumption)) rfl ?_
    refine lw_off rfl rfl rfl (gd_tf (by assumption)) rfl ?_
    refine lw_pure (pur_pick_no rfl rfl (by assumption)) rfl ?_
    refine cT (cw_cond_f rfl (cw_skip (qw_then (cS (cM rfl rfl (lw_pure (pur_nilCheck rfl) rfl (lw_pure (pur_fieldAddr tabOk rfl rfl rfl) rfl (lw_load_b tabOk rfl rfl rfl (RP.blk hP) rfl rfl (lw_pure (pur_eql rfl rfl) rfl (cM rfl rfl ?_))))))))))
    refine lw_off rfl rfl rfl (gd_tf (by assumption)) rfl ?_
    refine lw_off rfl rfl rfl (gd_tf (by assumption)) rfl ?_
    refine lw_off rfl rfl rfl (gd_tf (by assumption)) rfl ?_
    refine lw_pure (pur_pick_no rfl rfl (by assumption)) rfl ?_
    refine cT (cw_cond_f rfl (cw_skip (qw_end0 rfl ?_)))
    rotate_left 1
   exact ⟨rfl, by assumption, X⟩
end Bk
namespace Bk
open Go Go.RowKit Go.Proofs
attribute [local irreducible] Go.Calls
set_option maxRecDepth 100000 in
set_option maxHeartbeats 1000000 in
theorem rfinish_c (c : RC) (σ : PS) (w : World) (hP : RP c σ w) :
 Calls Tryz.prog 37 #[.pointer (some ⟨c.pb, 0, none⟩)] w fun r w' => r = .returned (.tuple #[.int .i64 (finishP c.ts c.n σ).off, .int .i64 (finishP c.ts c.n σ).err]) ∧ RP c (finishP c.ts c.n σ) w' ∧ Fr (· = c.pb) w w' := by
 have X := Fr.refl (· = c.pb) w
 have hpb := hP.pbB
 have hB := hP.B
 by_cases h0 : σ.err = 0
 · by_cases hlt : σ.at_ < c.ts.length
   · rw [show finishP c.ts c.n σ = failP σ (posR c.ts c.n σ) 3 from by rw [posR_in hlt]; simp [finishP, unexpP, hlt]]
     refine calls_in Tryz.func37 Tryz.ntmps37 rfl rfl ?_
     focus
      refine cS (cA rfl rfl (cA rfl rfl (cT (cw_seq (cw_seq ?_)))))
      (refine cw_tdraw (fun wz => Ext w wz) 15 (.pure 0 (.pure 1 (.pure 2 (.pure 3 (.pure 4 (.pure 5 (.pure 6 (.pure 7 (.pure 8 (.pure 9 (.pure 10 (.pure 11 (.pure 12 (.pure 13 (.pure 14 .tail))))))))))))))) mixed (by kernel_rfl) (panicOk_then (panicOk_then panicOk_body)) ?_; intro w1 x2 _)
      have qs3 : (fun wz => Ext w wz) w1 := x2
      simp only at qs3
      have d_hP := hP
      have z4 := Ext.size x2
      replace hP := RP.ext hP x2
      replace X := Fr.ext X x2
      clear x2
      refine ⟨qs3, ?_⟩
      refine tw_pure rfl (pur_move rfl) rfl (tw_pure rfl (pur_nilCheck rfl) rfl (tw_pure rfl (pur_fieldAddr tabOk rfl rfl rfl) rfl (tw_pure rfl (pur_load tabOk rfl rfl rfl (fun wz hz => Blk.cell (Blk.ext (RP.blk d_hP) hz) rfl)) rfl (tw_pure rfl (pur_eql rfl rfl) rfl (tw_pure rfl (pur_move rfl) rfl ?_)))))
      refine tw_on rfl rfl rfl rfl (gd_tt (by assumption)) (pur_move rfl) rfl ?_
      refine tw_on rfl rfl rfl rfl (gd_tt (by assumption)) (pur_nilCheck rfl) rfl ?_
      refine tw_on rfl rfl rfl rfl (gd_tt (by assumption)) (pur_fieldAddr tabOk rfl rfl rfl) rfl ?_
      refine tw_on rfl rfl rfl rfl (gd_tt (by assumption)) (pur_load tabOk rfl rfl rfl (fun wz hz => Blk.cell (Blk.ext (RP.blk d_hP) hz) rfl)) rfl ?_
      refine tw_on rfl rfl rfl rfl (gd_tt (by assumption)) (pur_move rfl) rfl ?_
      refine tw_on rfl rfl rfl rfl (gd_tt (by assumption)) (pur_nilCheck rfl) rfl ?_
      refine tw_on rfl rfl rfl rfl (gd_tt (by assumption)) (pur_fieldAddr0 tabOk rfl rfl rfl) rfl ?_
      refine tw_on rfl rfl rfl rfl (gd_tt (by assumption)) (pur_load tabOk rfl rfl rfl (fun wz hz => Blk.cell (Blk.ext (RP.blk d_hP) hz) rfl)) rfl ?_
      refine tw_on rfl rfl rfl rfl (gd_tt (by assumption)) (pur_len_slice tabOk rfl rfl) rfl ?_
      clear qs3 d_hP
      refine tw_tail rfl ?_
      refine lw_on rfl rfl rfl (gd_tt (by assumption)) ?_
      refine lw_pure (pur_lss rfl rfl) rfl ?_
      refine lw_pure (pur_pick_yes rfl rfl (by assumption)) rfl ?_
      refine cT ?_
      refine cw_yes rfl (by omega) ?_
      refine cw_region (cM rfl rfl (cM rfl rfl ?_))
      refine lw_does (does_call (by kernel_rfl) rfl (rpos_c _ _ _ (by assumption)) (fun _ _ h => ⟨_, h.1⟩)) rfl ?_ (fun _ h => h)
      rintro _ w6 ⟨⟨⟩, x5⟩
      have z7 := Ext.size x5
      replace hP := RP.ext hP x5
      replace X := Fr.ext X x5
      clear x5
      refine lw_does (does_call (by kernel_rfl) rfl (rfail_c _ _ _ _ _ (by assumption)) (fun _ _ h => ⟨_, h.1⟩)) rfl ?_ (fun _ h => h)
      rintro _ w10 ⟨⟨⟩, ⟨h8, f9⟩⟩
      have z11 := Fr.size f9
      clear hP
      replace X := Fr.fr X f9 (by omega)
      clear f9
      refine cT (cw_seq ?_)
      (refine cw_tdraw (fun wz => Ext w10 wz) 9 (.pure 0 (.pure 1 (.pure 2 (.pure 3 (.pure 4 (.pure 5 (.pure 6 (.pure 7 (.pure 8 .tail))))))))) mixed (by kernel_rfl) (panicOk_then panicOk_body) ?_; intro w12 x13 _)
      have qs14 : (fun wz => Ext w10 wz) w12 := x13
      simp only at qs14
      have d_h8 := h8
      have z15 := Ext.size x13
      replace h8 := RP.ext h8 x13
      replace X := Fr.ext X x13
      clear x13
      refine ⟨qs14, ?_⟩
      refine tw_pure rfl (pur_move rfl) rfl (tw_pure rfl (pur_nilCheck rfl) rfl (tw_pure rfl (pur_fieldAddr tabOk rfl rfl rfl) rfl (tw_pure rfl (pur_load tabOk rfl rfl rfl (fun wz hz => Blk.cell (Blk.ext (RP.blk d_h8) hz) rfl)) rfl (tw_pure rfl (pur_move rfl) rfl (tw_pure rfl (pur_nilCheck rfl) rfl (tw_pure rfl (pur_fieldAddr tabOk rfl rfl rfl) rfl (tw_pure rfl (pur_load tabOk rfl rfl rfl (fun wz hz => Blk.cell (Blk.ext (RP.blk d_h8) hz) rfl)) rfl (tw_pure rfl (pur_assign rfl) rfl ?_))))))))
      clear qs14 d_h8
      refine tw_tail rfl (cA rfl rfl (cT (cw_ret (qw_ret2 rfl rfl rfl ?_))))
      rotate_left 1
     exact ⟨rfl, by assumption, X⟩
   · rw [show finishP c.ts c.n σ = σ from by simp [finishP, hlt]]
     refine calls_in Tryz.func37 Tryz.ntmps37 rfl rfl ?_
     focus
      refine cS (cA rfl rfl (cA rfl rfl (cT (cw_seq (cw_seq ?_)))))
      (refine cw_tdraw (fun wz => Ext w wz) 15 (.pure 0 (.pure 1 (.pure 2 (.pure 3 (.pure 4 (.pure 5 (.pure 6 (.pure 7 (.pure 8 (.pure 9 (.pure 10 (.pure 11 (.pure 12 (.pure 13 (.pure 14 .tail))))))))))))))) mixed (by kernel_rfl) (panicOk_then (panicOk_then panicOk_body)) ?_; intro wa1 xa2 _)
      have qsa3 : (fun wz => Ext w wz) wa1 := xa2
      simp only at qsa3
      have d_hP := hP
      have za4 := Ext.size xa2
      replace hP := RP.ext hP xa2
      replace X := Fr.ext X xa2
      clear xa2
      refine ⟨qsa3, ?_⟩
      refine tw_pure rfl (pur_move rfl) rfl (tw_pure rfl (pur_nilCheck rfl) rfl (tw_pure rfl (pur_fieldAddr tabOk rfl rfl rfl) rfl (tw_pure rfl (pur_load tabOk rfl rfl rfl (fun wz hz => Blk.cell (Blk.ext (RP.blk d_hP) hz) rfl)) rfl (tw_pure rfl (pur_eql rfl rfl) rfl (tw_pure rfl (pur_move rfl) rfl ?_)))))
      refine tw_on rfl rfl rfl rfl (gd_tt (by assumption)) (pur_move rfl) rfl ?_
      refine tw_on rfl rfl rfl rfl (gd_tt (by assumption)) (pur_nilCheck rfl) rfl ?_
      refine tw_on rfl rfl rfl rfl (gd_tt (by assumption)) (pur_fieldAddr tabOk rfl rfl rfl) rfl ?_
      refine tw_on rfl rfl rfl rfl (gd_tt (by assumption)) (pur_load tabOk rfl rfl rfl (fun wz hz => Blk.cell (Blk.ext (RP.blk d_hP) hz) rfl)) rfl ?_
      refine tw_on rfl rfl rfl rfl (gd_tt (by assumption)) (pur_move rfl) rfl ?_
      refine tw_on rfl rfl rfl rfl (gd_tt (by assumption)) (pur_nilCheck rfl) rfl ?_
      refine tw_on rfl rfl rfl rfl (gd_tt (by assumption)) (pur_fieldAddr0 tabOk rfl rfl rfl) rfl ?_
      refine tw_on rfl rfl rfl rfl (gd_tt (by assumption)) (pur_load tabOk rfl rfl rfl (fun wz hz => Blk.cell (Blk.ext (RP.blk d_hP) hz) rfl)) rfl ?_
      refine tw_on rfl rfl rfl rfl (gd_tt (by assumption)) (pur_len_slice tabOk rfl rfl) rfl ?_
      clear qsa3 d_hP
      refine tw_tail rfl ?_
      refine lw_on rfl rfl rfl (gd_tt (by assumption)) ?_
      refine lw_pure (pur_lss rfl rfl) rfl ?_
      refine lw_pure (pur_pick_yes rfl rfl (by assumption)) rfl ?_
      refine cT ?_
      refine cw_no rfl (by omega) ?_
      refine cw_skip (qw_then (cw_seq ?_))
      (refine cw_tdraw (fun wz => Ext wa1 wz) 9 (.pure 0 (.pure 1 (.pure 2 (.pure 3 (.pure 4 (.pure 5 (.pure 6 (.pure 7 (.pure 8 .tail))))))))) mixed (by kernel_rfl) (panicOk_then panicOk_body) ?_; intro wa5 xa6 _)
      have qsa7 : (fun wz => Ext wa1 wz) wa5 := xa6
      simp only at qsa7
      have d_hP := hP
      have za8 := Ext.size xa6
      replace hP := RP.ext hP xa6
      replace X := Fr.ext X xa6
      clear xa6
      refine ⟨qsa7, ?_⟩
      refine tw_pure rfl (pur_move rfl) rfl (tw_pure rfl (pur_nilCheck rfl) rfl (tw_pure rfl (pur_fieldAddr tabOk rfl rfl rfl) rfl (tw_pure rfl (pur_load tabOk rfl rfl rfl (fun wz hz => Blk.cell (Blk.ext (RP.blk d_hP) hz) rfl)) rfl (tw_pure rfl (pur_move rfl) rfl (tw_pure rfl (pur_nilCheck rfl) rfl (tw_pure rfl (pur_fieldAddr tabOk rfl rfl rfl) rfl (tw_pure rfl (pur_load tabOk rfl rfl rfl (fun wz hz => Blk.cell (Blk.ext (RP.blk d_hP) hz) rfl)) rfl (tw_pure rfl (pur_assign rfl) rfl ?_))))))))
      clear qsa7 d_hP
      refine tw_tail rfl (cA rfl rfl (cT (cw_ret (qw_ret2 rfl rfl rfl ?_))))
      rotate_left 1
     exact ⟨rfl, by assumption, X⟩
 · rw [show finishP c.ts c.n σ = σ from by
    unfold finishP unexpP failP
    split
    · simp [h0]
    · rfl]
   refine calls_in Tryz.func37 Tryz.ntmps37 rfl rfl ?_
   focus
    refine cS (cA rfl rfl (cA rfl rfl (cT (cw_seq (cw_seq ?_)))))
    (refine cw_tdraw (fun wz => Ext w wz) 15 (.pure 0 (.pure 1 (.pure 2 (.pure 3 (.pure 4 (.pure 5 (.pure 6 (.pure 7 (.pure 8 (.pure 9 (.pure 10 (.pure 11 (.pure 12 (.pure 13 (.pure 14 .tail))))))))))))))) mixed (by kernel_rfl) (panicOk_then (panicOk_then panicOk_body)) ?_; intro wb1 xb2 _)
    have qsb3 : (fun wz => Ext w wz) wb1 := xb2
    simp only at qsb3
    have d_hP := hP
    have zb4 := Ext.size xb2
    replace hP := RP.ext hP xb2
    replace X := Fr.ext X xb2
    clear xb2
    refine ⟨qsb3, ?_⟩
    refine tw_pure rfl (pur_move rfl) rfl (tw_pure rfl (pur_nilCheck rfl) rfl (tw_pure rfl (pur_fieldAddr tabOk rfl rfl rfl) rfl (tw_pure rfl (pur_load tabOk rfl rfl rfl (fun wz hz => Blk.cell (Blk.ext (RP.blk d_hP) hz) rfl)) rfl (tw_pure rfl (pur_eql rfl rfl) rfl (tw_pure rfl (pur_move rfl) rfl ?_)))))
    refine tw_off rfl rfl rfl rfl (gd_tf (by assumption)) rfl ?_
    refine tw_off rfl rfl rfl rfl (gd_tf (by assumption)) rfl ?_
    refine tw_off rfl rfl rfl rfl (gd_tf (by assumption)) rfl ?_
    refine tw_off rfl rfl rfl rfl (gd_tf (by assumption)) rfl ?_
    refine tw_off rfl rfl rfl rfl (gd_tf (by assumption)) rfl ?_
    refine tw_off rfl rfl rfl rfl (gd_tf (by assumption)) rfl ?_
    refine tw_off rfl rfl rfl rfl (gd_tf (by assumption)) rfl ?_
    refine tw_off rfl rfl rfl rfl (gd_tf (by assumption)) rfl ?_
    refine tw_off rfl rfl rfl rfl (gd_tf (by assumption)) rfl ?_
    clear qsb3 d_hP
    refine tw_tail rfl ?_
    refine lw_off rfl rfl rfl (gd_tf (by assumption)) rfl ?_
    refine lw_pure (pur_pick_no rfl rfl (by assumption)) rfl ?_
    refine cT (cw_cond_f rfl (cw_skip (qw_then (cw_seq ?_))))
    (refine cw_tdraw (fun wz => Ext wb1 wz) 9 (.pure 0 (.pure 1 (.pure 2 (.pure 3 (.pure 4 (.pure 5 (.pure 6 (.pure 7 (.pure 8 .tail))))))))) mixed (by kernel_rfl) (panicOk_then panicOk_body) ?_; intro wb5 xb6 _)
    have qsb7 : (fun wz => Ext wb1 wz) wb5 := xb6
    simp only at qsb7
    have d_hP := hP
    have zb8 := Ext.size xb6
    replace hP := RP.ext hP xb6
    replace X := Fr.ext X xb6
    clear xb6
    refine ⟨qsb7, ?_⟩
    refine tw_pure rfl (pur_move rfl) rfl (tw_pure rfl (pur_nilCheck rfl) rfl (tw_pure rfl (pur_fieldAddr tabOk rfl rfl rfl) rfl (tw_pure rfl (pur_load tabOk rfl rfl rfl (fun wz hz => Blk.cell (Blk.ext (RP.blk d_hP) hz) rfl)) rfl (tw_pure rfl (pur_move rfl) rfl (tw_pure rfl (pur_nilCheck rfl) rfl (tw_pure rfl (pur_fieldAddr tabOk rfl rfl rfl) rfl (tw_pure rfl (pur_load tabOk rfl rfl rfl (fun wz hz => Blk.cell (Blk.ext (RP.blk d_hP) hz) rfl)) rfl (tw_pure rfl (pur_assign rfl) rfl ?_))))))))
    clear qsb7 d_hP
    refine tw_tail rfl (cA rfl rfl (cT (cw_ret (qw_ret2 rfl rfl rfl ?_))))
    rotate_left 1
   exact ⟨rfl, by assumption, X⟩
theorem finish_off {ts : List Tok} {n : Int} {σ : PS} (h0 : σ.err ≠ 0) : finishP ts n σ = σ := by
 unfold finishP unexpP failP
 split
 · simp [h0]
 · rfl
theorem unexp_bad {ts : List Tok} {n : Int} {σ : PS} : (unexpP ts n σ).err ≠ 0 := by
 unfold unexpP
 split <;> exact fail_err (by decide)
theorem limit_off {x : Nd} {off : Int} {σ : PS} (h0 : σ.err ≠ 0) : limitP x off σ = σ := by simp [limitP, h0]
theorem limit_at {x : Nd} {off : Int} {σ : PS} : (limitP x off σ).at_ = σ.at_ := by
 unfold limitP failP
 split
 · rfl
 · split
   · split <;> rfl
   · split
     · split <;> rfl
     · rfl
theorem finish_limit {ts : List Tok} {n : Int} {σ : PS} {x : Nd} {off : Int} : finishP ts n (limitP x off (finishP ts n σ)) = limitP x off (finishP ts n σ) := by
 by_cases h : σ.at_ < ts.length
 · have : (finishP ts n σ).err ≠ 0 := by rw [finishP, if_pos h]; exact unexp_bad
   rw [limit_off this, finish_off this]
 · have e : finishP ts n σ = σ := by rw [finishP, if_neg h]
   rw [e]
   rw [finishP, if_neg (by rw [limit_at]; exact h)]
theorem REq.done {ts : List Tok} {n : Int} {p q : Nd × PS} (h : REq p q) : wholeT p.1 (limitP p.1 0 (finishP ts n p.2)) = wholeT q.1 (limitP q.1 0 (finishP ts n q.2)) := by
 by_cases h0 : p.2.err = 0
 · rw [h.same h0]
 · have h1 : q.2.err ≠ 0 := by rw [← h.err]; exact h0
   rw [finish_off h0, finish_off h1, limit_off h0, limit_off h1]
   unfold wholeT
   rw [if_pos h0, if_pos h1, h.err, h.off]
theorem zero_sits {S : Nat → Prop} {w : World} : zeroNd.sits S w none := sits_nil
theorem rfuel_ok {ts : List Tok} {s : List UInt8} (h : ts = (startP s).1) (σ : PS) : 12 * mS ts σ + 40 ≤ 12 * s.length + 40 := by
 have h1 := start_len s
 have h2 : mS ts σ ≤ ts.length := by unfold mS; split <;> omega
 rw [h] at h2
 rw [h]
 omega
end Bk
namespace Bk
open Go
section
variable {ts : List Tok} {n : Int}
theorem stmt_brace {k : Nat} {σ : PS} (h : σ.at_ ≤ ts.length) (hp : (peekP ts σ).text = [125]) (hk : 2 ≤ k) : (stmtP ts n k σ).2 = unexpP ts n σ := by
 cases k with
 | zero => omega
 | succ k =>
  cases k with
  | zero => omega
  | succ k =>
   have hue : (unexpP ts n σ).err ≠ 0 := unexp_err
   have huw : (unexpP ts n σ).at_ ≤ ts.length := (unexp_le h).wf
   have hnm : nameP ts n σ = ([], unexpP ts n σ) := by unfold nameP; rw [hp]; rfl
   have hpl : placeP ts n (k + 1) σ = (Nd.mk 2 0 [] [], unexpP ts n σ) := by
    rw [placeP, hnm]
    simp only
    rw [if_neg (by rw [has_err hue (by decide)]; simp)]
   rw [stmtP, hp]
   rw [if_neg (by decide), if_neg (by decide), if_neg (by decide), if_neg (by decide), if_neg (by decide), if_neg (by decide), if_neg (by decide), if_neg (by decide), if_neg (by decide), if_neg (by decide), if_neg (by decide)]
   unfold updateP
   rw [hpl]
   simp only
   rw [if_neg (by rw [has_err hue (by decide)]; simp), peek_err hue, if_pos (by decide)]
   exact (unexp_le huw).err hue
theorem linesP_err {k : Nat} {acc : List Nd} {σ : PS} (h : σ.err ≠ 0) : linesP ts n k acc σ = (acc, σ) := by
 cases k with
 | zero => rw [linesP]
 | succ k => rw [linesP, if_neg (fun c => h c.1)]
theorem stmtsR_err {k : Nat} {acc : List Nd} {σ : PS} (h : σ.err ≠ 0) : stmtsR ts n k acc σ = (acc, σ) := by
 cases k with
 | zero => rw [stmtsR]
 | succ k => rw [stmtsR, if_neg (fun c => h c.1)]
theorem finish_err {σ : PS} (h0 : σ.err ≠ 0) : finishP ts n σ = σ := by
 unfold finishP unexpP failP
 split
 · simp [h0]
 · rfl
theorem lines_eq (hd : DigitKinds ts) (m : Nat) : ∀ σ, σ.at_ ≤ ts.length → mS ts σ ≤ m →
 ∀ acc k k', 4 * mS ts σ + 7 ≤ k → 12 * mS ts σ + 15 ≤ k' → REq (linesP ts n k acc σ) ((stmtsR ts n k' acc σ).1, finishP ts n (stmtsR ts n k' acc σ).2) := by
 induction m using Nat.strongRecOn with
 | _ m ih =>
  intro σ h hm acc k k' hk hk'
  have IB : ∀ σ', σ'.at_ ≤ ts.length → mS ts σ' < mS ts σ → ∀ k k', 4 * mS ts σ' + 8 ≤ k → 12 * mS ts σ' + 16 ≤ k' → REq (blockP ts n k σ') (bodyR ts n k' σ') := fun σ' h' _ => (block_eq (n := n) hd (mS ts σ') σ' h' (Nat.le_refl _)).2
  by_cases e : σ.err = 0
  · cases k with
    | zero => omega
    | succ k =>
     cases k' with
     | zero => omega
     | succ k' =>
      rw [linesP, stmtsR]
      by_cases hat : σ.at_ < ts.length
      · rw [if_pos ⟨e, hat⟩]
        have hs := stmt_le (n := n) (k := k) h
        have hs' := stmtR_le (n := n) (k := k') h
        by_cases hb : hasP ts σ [125] = true
        · rw [if_neg (fun c => by rw [hb] at c; simp at c)]
          have hp : (peekP ts σ).text = [125] := by simpa [hasP] using hb
          have hue : (unexpP ts n σ).err ≠ 0 := unexp_err
          have huw : (unexpP ts n σ).at_ ≤ ts.length := (unexp_le h).wf
          have hse := stmt_brace (n := n) (k := k) h hp (by omega)
          have hx : finishP ts n σ = unexpP ts n σ := by rw [finishP, if_pos hat]
          refine REq.of_err hue ?_ hx
          rw [hse, expect_err huw (by decide) hue, linesP_err hue]
        · have hb' : hasP ts σ [125] = false := by simpa using hb
          rw [if_pos ⟨e, hat, hb'⟩]
          refine REq.bind (stmt1_eq (n := n) (k := k) (k' := k') hd h IB (by omega) (by omega)) (f := fun s => linesP ts n k (acc ++ [s.1]) (expectP ts n s.2 [59])) (g := fun s => ((stmtsR ts n k' (acc ++ [s.1]) (expectP ts n s.2 [59])).1, finishP ts n (stmtsR ts n k' (acc ++ [s.1]) (expectP ts n s.2 [59])).2)) (fun e => ?_) (fun e => ?_) (fun e1 hab => ?_)
          · rw [expect_err hs.wf (by decide) e, linesP_err e]
          · simp only
            rw [expect_err hs'.wf (by decide) e, stmtsR_err e, finish_err e]
          · rw [← hab]
            have g1 := expect_le (n := n) (t := [59]) hs.wf (by decide)
            by_cases z : (expectP ts n (stmtP ts n k σ).2 [59]).err = 0
            · have h1 := expect_lt (ts := ts) (n := n) (t := [59]) (σ := (stmtP ts n k σ).2) z
              have h2 := hs.le
              have h3 := g1.wf
              have hms : mS ts (expectP ts n (stmtP ts n k σ).2 [59]) + 1 ≤ mS ts σ := by unfold mS; rw [if_pos z, if_pos e]; omega
              exact ih _ (by omega) _ g1.wf (Nat.le_refl _) _ k k' (by omega) (by omega)
            · rw [linesP_err z, stmtsR_err z]
              simp only
              rw [finish_err z]
              exact REq.refl _
      · rw [if_neg (fun c => hat c.2), if_neg (fun c => hat c.2.1)]
        simp only
        rw [finishP, if_neg hat]
        exact REq.refl _
  · rw [linesP_err e, stmtsR_err e]
    simp only
    rw [finish_err e]
    exact REq.refl _
end
end Bk
namespace Bk
open Go Go.RowKit Go.Proofs
attribute [local irreducible] Go.Calls
def blkR (c : RC) (s : List UInt8) : Nd × PS := (.mk 57 0 [] (stmtsR c.ts c.n (12 * s.length + 40) [] (startP s).2).1, (stmtsR c.ts c.n (12 * s.length + 40) [] (startP s).2).2)
theorem parseBlock_ref (s : List UInt8) (c : RC) (h1 : c.ts = (startP s).1) (h2 : c.n = s.length) (hat : (startP s).2.at_ ≤ c.ts.length) (hlen : c.ts.length ≤ 1000000) :
 ((finishP c.ts c.n (blkR c s).2).err = 0 → (blkR c s).1.size ≤ 1000000000) ∧
 parseBlock s = wholeT (blkR c s).1 (limitP (blkR c s).1 0 (finishP c.ts c.n (blkR c s).2)) := by
 have hf := rfuel_ok h1 (startP s).2
 have hd : DigitKinds c.ts := by rw [h1]; exact digitKinds_start s
 have hl := start_len s
 have e := lines_eq (n := c.n) hd _ _ hat (Nat.le_refl _) [] (fuelP s) (12 * s.length + 40) (by unfold fuelP; omega) (by omega)
 have hbs := lines_size (n := c.n) (fuelP s) [] _ hat
 have hbw := (lines_le (n := c.n) (fuelP s) [] _ hat).wf
 have hsz : (Nd.mk 57 0 [] (linesP c.ts c.n (fuelP s) [] (startP s).2).1).size ≤ 1000000000 := by
  simp only [Nd.size, rowSize] at hbs ⊢
  split at hbs <;> omega
 have hpb : parseBlock s = wholeT (.mk 57 0 [] (linesP c.ts c.n (fuelP s) [] (startP s).2).1) (limitP (.mk 57 0 [] (linesP c.ts c.n (fuelP s) [] (startP s).2).1) 0 (linesP c.ts c.n (fuelP s) [] (startP s).2).2) := by
  unfold parseBlock wholeT
  rw [h1, h2]
 rw [hpb]
 unfold blkR
 simp only
 by_cases h0 : (linesP c.ts c.n (fuelP s) [] (startP s).2).2.err = 0
 · have := e.same h0
   rw [this] at hsz ⊢
   exact ⟨fun _ => hsz, rfl⟩
 · have h3 : (finishP c.ts c.n (stmtsR c.ts c.n (12 * s.length + 40) [] (startP s).2).2).err ≠ 0 := by have := e.err; simp only at this; rw [← this]; exact h0
   refine ⟨fun h => absurd h h3, ?_⟩
   rw [limit_off h0, limit_off h3]
   unfold wholeT
   rw [if_pos h0, if_pos h3]
   have g1 := e.err
   have g2 := e.off
   simp only at g1 g2
   rw [g1, g2]
set_option maxRecDepth 100000 in
set_option maxHeartbeats 4000000 in
theorem RBlock_p (s : List UInt8) (w : World) (hs : s.length ≤ 1000000) : Calls Tryz.prog 16 #[str s] w (ParseR w (parseBlock s)) := by
 have X := Ext.refl w
 refine calls_in Tryz.func16 Tryz.ntmps16 rfl rfl ?_
 focus
  refine cS ?_
  (refine lw_alloc' [_, _, _, _] zOk rfl rfl ?_; intro b1 w2 n3)
  have h5 := New.blk n3
  have x6 := New.ext n3
  have p7 := New.pos n3
  have z8 := New.size n3
  clear n3
  replace X := Ext.ext X x6
  clear x6
  refine cA rfl rfl (cA rfl rfl (cN (cM rfl rfl ?_)))
  refine lw_does (does_call (by kernel_rfl) rfl (rstart_c s _ hs) (fun _ _ h => h.ret)) rfl ?_ (fun _ h => h)
  rintro _ w15 ⟨c9, ⟨⟨⟩, ⟨⟨h10, ⟨h11, h12⟩⟩, ⟨h13, x14⟩⟩⟩⟩
  have z16 := Ext.size x14
  replace h5 := Blk.ext h5 x14
  replace X := Ext.ext X x14
  clear x14
  refine cA rfl rfl (cN (cM rfl rfl ?_))
  rotate_left 1
 have hf := rfuel_ok h10 (startP s).2
 have hat := h13.at_
 have hlen := h13.len
 have hpb := h13.pbB
 have hB := h13.B
 obtain ⟨hz0, he⟩ := parseBlock_ref s c9 h10 h11 hat hlen
 rw [he]
 clear he
 have hex : ∀ w, _ := (rstmts_c c9 (12 * s.length + 40)).stmts (startP s).2
 rw [show ((Nd.mk 57 0 [] (stmtsR c9.ts c9.n (12 * s.length + 40) [] (startP s).2).1, (stmtsR c9.ts c9.n (12 * s.length + 40) [] (startP s).2).2) : Nd × PS) = blkR c9 s from rfl] at hex
 generalize blkR c9 s = r at *
 have HX := Lib.hid hex; clear hex
 have hfl := finish_limit (ts := c9.ts) (n := c9.n) (σ := r.2) (x := r.1) (off := 0)
 rw [← hfl]
 clear hfl
 by_cases h0 : r.2.err = 0
 · by_cases hlt : r.2.at_ < c9.ts.length
   · rw [show finishP c9.ts c9.n r.2 = unexpP c9.ts c9.n r.2 from by rw [finishP, if_pos hlt]] at *
     have hz : (unexpP c9.ts c9.n r.2).err = 0 → r.1.size ≤ 1000000000 := fun h => absurd h unexp_bad
     clear hz0
     by_cases he3 : (finishP c9.ts c9.n (limitP r.1 0 (unexpP c9.ts c9.n r.2))).err = 0
     · rw [show wholeT r.1 (finishP c9.ts c9.n (limitP r.1 0 (unexpP c9.ts c9.n r.2))) = (r.1, 0, 0) from if_neg (by simpa using he3)]
       focus
        refine lw_does (does_call (by kernel_rfl) rfl (HX.out _ (by assumption) (by intro _; omega) (by omega)) (fun _ _ h => h.ret)) rfl ?_ (fun _ h => h)
        rintro _ wa6 ⟨aa1, ⟨ka2, ⟨⟨⟩, ⟨ha3, ⟨ha4, fa5⟩⟩⟩⟩⟩
        have za7 := Fr.size fa5
        clear h13
        replace h5 := Blk.fr h5 fa5 (by omega)
        replace X := Ext.fr X fa5 (by omega)
        clear fa5
        (refine lw_alloc' [_, _, _, _] zOk rfl rfl ?_; intro ba8 wa9 na10)
        (refine lw_init' [_, _, _, _] tabOk rfl rfl rfl rfl rfl rfl na10 rfl ?_; clear na10; clear wa9; intro wa11 na10)
        have ha12 := New.blk na10
        have xa13 := New.ext na10
        have pa14 := New.pos na10
        have za15 := New.size na10
        clear na10
        replace ha3 := Nd.sits.ext ha3 xa13
        replace ha4 := RP.ext ha4 xa13
        replace h5 := Blk.ext h5 xa13
        replace X := Ext.ext X xa13
        clear xa13
        refine cT (cw_seq (cw_seq ?_))
        (refine cw_tdraw (fun wz => Ext wa11 wz) 15 (.pure 0 (.pure 1 (.pure 2 (.pure 3 (.pure 4 (.pure 5 (.pure 6 (.pure 7 (.pure 8 (.pure 9 (.pure 10 (.pure 11 (.pure 12 (.pure 13 (.pure 14 .tail))))))))))))))) mixed (by kernel_rfl) (panicOk_then (panicOk_then panicOk_body)) ?_; intro wa16 xa17 _)
        have qsa18 : (fun wz => Ext wa11 wz) wa16 := xa17
        simp only at qsa18
        have d_ha12 := ha12
        have d_ha3 := ha3
        have d_ha4 := ha4
        have d_h5 := h5
        have za19 := Ext.size xa17
        replace ha12 := Blk.ext ha12 xa17
        replace ha3 := Nd.sits.ext ha3 xa17
        replace ha4 := RP.ext ha4 xa17
        replace h5 := Blk.ext h5 xa17
        replace X := Ext.ext X xa17
        clear xa17
        refine ⟨qsa18, ?_⟩
        refine tw_pure rfl (pur_move rfl) rfl (tw_pure rfl (pur_nilCheck rfl) rfl (tw_pure rfl (pur_fieldAddr tabOk rfl rfl rfl) rfl (tw_pure rfl (pur_load tabOk rfl rfl rfl (fun wz hz => Blk.cell (Blk.ext (RP.blk d_ha4) hz) rfl)) rfl (tw_pure rfl (pur_eql rfl rfl) rfl (tw_pure rfl (pur_move rfl) rfl ?_)))))
        refine tw_on rfl rfl rfl rfl (gd_tt (by assumption)) (pur_move rfl) rfl ?_
        refine tw_on rfl rfl rfl rfl (gd_tt (by assumption)) (pur_nilCheck rfl) rfl ?_
        refine tw_on rfl rfl rfl rfl (gd_tt (by assumption)) (pur_fieldAddr tabOk rfl rfl rfl) rfl ?_
        refine tw_on rfl rfl rfl rfl (gd_tt (by assumption)) (pur_load tabOk rfl rfl rfl (fun wz hz => Blk.cell (Blk.ext (RP.blk d_ha4) hz) rfl)) rfl ?_
        refine tw_on rfl rfl rfl rfl (gd_tt (by assumption)) (pur_move rfl) rfl ?_
        refine tw_on rfl rfl rfl rfl (gd_tt (by assumption)) (pur_nilCheck rfl) rfl ?_
        refine tw_on rfl rfl rfl rfl (gd_tt (by assumption)) (pur_fieldAddr0 tabOk rfl rfl rfl) rfl ?_
        refine tw_on rfl rfl rfl rfl (gd_tt (by assumption)) (pur_load tabOk rfl rfl rfl (fun wz hz => Blk.cell (Blk.ext (RP.blk d_ha4) hz) rfl)) rfl ?_
        refine tw_on rfl rfl rfl rfl (gd_tt (by assumption)) (pur_len_slice tabOk rfl rfl) rfl ?_
        clear qsa18 d_ha12 d_ha3 d_ha4 d_h5
        refine tw_tail rfl ?_
        refine lw_on rfl rfl rfl (gd_tt (by assumption)) ?_
        refine lw_pure (pur_lss rfl rfl) rfl ?_
        refine lw_pure (pur_pick_yes rfl rfl (by assumption)) rfl ?_
        refine cT ?_
        refine cw_yes rfl (by omega) ?_
        refine cw_region (cM rfl rfl ?_)
        refine lw_does (does_call (by kernel_rfl) rfl (rwrong_c _ _ _ (by assumption)) (fun _ _ h => ⟨_, h.1⟩)) rfl ?_ (fun _ h => h)
        rintro _ wa22 ⟨⟨⟩, ⟨ha20, fa21⟩⟩
        have za23 := Fr.size fa21
        replace ha12 := Blk.fr ha12 fa21 (by omega)
        replace ha3 := Nd.sits.fr ha3 fa21 (by omega)
        clear ha4
        replace h5 := Blk.fr h5 fa21 (by omega)
        replace X := Ext.fr X fa21 (by omega)
        clear fa21
        refine cN (cM rfl rfl (lw_loads_b' [_, _, _, _] tabOk rfl rfl rfl ha12 rfl rfl rfl ?_))
        refine lw_does (does_call (by kernel_rfl) rfl (rlimits_c _ _ _ _ _ _ _ _ (by assumption) hz (by assumption) (by intro b h; omega)) (fun _ _ h => ⟨_, h.1⟩)) rfl ?_ (fun _ h => h)
        rintro _ wa26 ⟨⟨⟩, ⟨ha24, fa25⟩⟩
        have za27 := Fr.size fa25
        clear ha20
        replace ha12 := Blk.fr ha12 fa25 (by omega)
        replace ha3 := Nd.sits.fr ha3 fa25 (by omega)
        replace h5 := Blk.fr h5 fa25 (by omega)
        replace X := Ext.fr X fa25 (by omega)
        clear fa25
        refine cN (cM rfl rfl ?_)
        refine lw_does (does_call (by kernel_rfl) rfl (rfinish_c _ _ _ (by assumption)) (fun _ _ h => ⟨_, h.1⟩)) rfl ?_ (fun _ h => h)
        rintro _ wa30 ⟨⟨⟩, ⟨ha28, fa29⟩⟩
        have za31 := Fr.size fa29
        clear ha24
        replace ha12 := Blk.fr ha12 fa29 (by omega)
        replace ha3 := Nd.sits.fr ha3 fa29 (by omega)
        replace h5 := Blk.fr h5 fa29 (by omega)
        replace X := Ext.fr X fa29 (by omega)
        clear fa29
        refine cM rfl rfl (lw_pure (pur_extract rfl rfl) rfl (lw_pure (pur_extract rfl rfl) rfl (cA rfl rfl (cA rfl rfl (cT (cw_seq (cS (cM rfl rfl (lw_pure (pur_neq rfl rfl) rfl (cT ?_))))))))))
        refine cw_no rfl (by omega) ?_
        refine cw_skip (qw_then (cS (lw_loads_b' [_, _, _, _] tabOk rfl rfl rfl ha12 rfl rfl rfl ?_)))
        (refine lw_store' [_, _, _, _] [_, _, _, _] tabOk rfl rfl rfl rfl rfl rfl h5 rfl rfl ?_; intro wa32 na33)
        have ha36 := Put.blk na33
        have fa34 := Put.fr na33
        have za35 := Put.size na33
        clear na33 h5 ha28
        replace ha12 := Blk.fr ha12 fa34 (by omega)
        replace ha3 := Nd.sits.fr ha3 fa34 (by omega)
        replace X := Ext.fr X fa34 (by omega)
        clear fa34
        refine cA rfl rfl (cA rfl rfl (cT (cw_ret (qw_retc3 rfl tabOk rfl rfl rfl ha36 rfl rfl rfl ?_))))
        rotate_left 1
       exact ⟨_, _, rfl, Nd.sits.wide (by assumption) (fun b h => by omega), X⟩
     · rw [show wholeT r.1 (finishP c9.ts c9.n (limitP r.1 0 (unexpP c9.ts c9.n r.2))) = (zeroNd, (finishP c9.ts c9.n (limitP r.1 0 (unexpP c9.ts c9.n r.2))).off, (finishP c9.ts c9.n (limitP r.1 0 (unexpP c9.ts c9.n r.2))).err) from if_pos he3]
       focus
        refine lw_does (does_call (by kernel_rfl) rfl (HX.out _ (by assumption) (by intro _; omega) (by omega)) (fun _ _ h => h.ret)) rfl ?_ (fun _ h => h)
        rintro _ wb6 ⟨ab1, ⟨kb2, ⟨⟨⟩, ⟨hb3, ⟨hb4, fb5⟩⟩⟩⟩⟩
        have zb7 := Fr.size fb5
        clear h13
        replace h5 := Blk.fr h5 fb5 (by omega)
        replace X := Ext.fr X fb5 (by omega)
        clear fb5
        (refine lw_alloc' [_, _, _, _] zOk rfl rfl ?_; intro bb8 wb9 nb10)
        (refine lw_init' [_, _, _, _] tabOk rfl rfl rfl rfl rfl rfl nb10 rfl ?_; clear nb10; clear wb9; intro wb11 nb10)
        have hb12 := New.blk nb10
        have xb13 := New.ext nb10
        have pb14 := New.pos nb10
        have zb15 := New.size nb10
        clear nb10
        replace hb3 := Nd.sits.ext hb3 xb13
        replace hb4 := RP.ext hb4 xb13
        replace h5 := Blk.ext h5 xb13
        replace X := Ext.ext X xb13
        clear xb13
        refine cT (cw_seq (cw_seq ?_))
        (refine cw_tdraw (fun wz => Ext wb11 wz) 15 (.pure 0 (.pure 1 (.pure 2 (.pure 3 (.pure 4 (.pure 5 (.pure 6 (.pure 7 (.pure 8 (.pure 9 (.pure 10 (.pure 11 (.pure 12 (.pure 13 (.pure 14 .tail))))))))))))))) mixed (by kernel_rfl) (panicOk_then (panicOk_then panicOk_body)) ?_; intro wb16 xb17 _)
        have qsb18 : (fun wz => Ext wb11 wz) wb16 := xb17
        simp only at qsb18
        have d_hb12 := hb12
        have d_hb3 := hb3
        have d_hb4 := hb4
        have d_h5 := h5
        have zb19 := Ext.size xb17
        replace hb12 := Blk.ext hb12 xb17
        replace hb3 := Nd.sits.ext hb3 xb17
        replace hb4 := RP.ext hb4 xb17
        replace h5 := Blk.ext h5 xb17
        replace X := Ext.ext X xb17
        clear xb17
        refine ⟨qsb18, ?_⟩
        refine tw_pure rfl (pur_move rfl) rfl (tw_pure rfl (pur_nilCheck rfl) rfl (tw_pure rfl (pur_fieldAddr tabOk rfl rfl rfl) rfl (tw_pure rfl (pur_load tabOk rfl rfl rfl (fun wz hz => Blk.cell (Blk.ext (RP.blk d_hb4) hz) rfl)) rfl (tw_pure rfl (pur_eql rfl rfl) rfl (tw_pure rfl (pur_move rfl) rfl ?_)))))
        refine tw_on rfl rfl rfl rfl (gd_tt (by assumption)) (pur_move rfl) rfl ?_
        refine tw_on rfl rfl rfl rfl (gd_tt (by assumption)) (pur_nilCheck rfl) rfl ?_
        refine tw_on rfl rfl rfl rfl (gd_tt (by assumption)) (pur_fieldAddr tabOk rfl rfl rfl) rfl ?_
        refine tw_on rfl rfl rfl rfl (gd_tt (by assumption)) (pur_load tabOk rfl rfl rfl (fun wz hz => Blk.cell (Blk.ext (RP.blk d_hb4) hz) rfl)) rfl ?_
        refine tw_on rfl rfl rfl rfl (gd_tt (by assumption)) (pur_move rfl) rfl ?_
        refine tw_on rfl rfl rfl rfl (gd_tt (by assumption)) (pur_nilCheck rfl) rfl ?_
        refine tw_on rfl rfl rfl rfl (gd_tt (by assumption)) (pur_fieldAddr0 tabOk rfl rfl rfl) rfl ?_
        refine tw_on rfl rfl rfl rfl (gd_tt (by assumption)) (pur_load tabOk rfl rfl rfl (fun wz hz => Blk.cell (Blk.ext (RP.blk d_hb4) hz) rfl)) rfl ?_
        refine tw_on rfl rfl rfl rfl (gd_tt (by assumption)) (pur_len_slice tabOk rfl rfl) rfl ?_
        clear qsb18 d_hb12 d_hb3 d_hb4 d_h5
        refine tw_tail rfl ?_
        refine lw_on rfl rfl rfl (gd_tt (by assumption)) ?_
        refine lw_pure (pur_lss rfl rfl) rfl ?_
        refine lw_pure (pur_pick_yes rfl rfl (by assumption)) rfl ?_
        refine cT ?_
        refine cw_yes rfl (by omega) ?_
        refine cw_region (cM rfl rfl ?_)
        refine lw_does (does_call (by kernel_rfl) rfl (rwrong_c _ _ _ (by assumption)) (fun _ _ h => ⟨_, h.1⟩)) rfl ?_ (fun _ h => h)
        rintro _ wb22 ⟨⟨⟩, ⟨hb20, fb21⟩⟩
        have zb23 := Fr.size fb21
        replace hb12 := Blk.fr hb12 fb21 (by omega)
        replace hb3 := Nd.sits.fr hb3 fb21 (by omega)
        clear hb4
        replace h5 := Blk.fr h5 fb21 (by omega)
        replace X := Ext.fr X fb21 (by omega)
        clear fb21
        refine cN (cM rfl rfl (lw_loads_b' [_, _, _, _] tabOk rfl rfl rfl hb12 rfl rfl rfl ?_))
        refine lw_does (does_call (by kernel_rfl) rfl (rlimits_c _ _ _ _ _ _ _ _ (by assumption) hz (by assumption) (by intro b h; omega)) (fun _ _ h => ⟨_, h.1⟩)) rfl ?_ (fun _ h => h)
        rintro _ wb26 ⟨⟨⟩, ⟨hb24, fb25⟩⟩
        have zb27 := Fr.size fb25
        clear hb20
        replace hb12 := Blk.fr hb12 fb25 (by omega)
        replace hb3 := Nd.sits.fr hb3 fb25 (by omega)
        replace h5 := Blk.fr h5 fb25 (by omega)
        replace X := Ext.fr X fb25 (by omega)
        clear fb25
        refine cN (cM rfl rfl ?_)
        refine lw_does (does_call (by kernel_rfl) rfl (rfinish_c _ _ _ (by assumption)) (fun _ _ h => ⟨_, h.1⟩)) rfl ?_ (fun _ h => h)
        rintro _ wb30 ⟨⟨⟩, ⟨hb28, fb29⟩⟩
        have zb31 := Fr.size fb29
        clear hb24
        replace hb12 := Blk.fr hb12 fb29 (by omega)
        replace hb3 := Nd.sits.fr hb3 fb29 (by omega)
        replace h5 := Blk.fr h5 fb29 (by omega)
        replace X := Ext.fr X fb29 (by omega)
        clear fb29
        refine cM rfl rfl (lw_pure (pur_extract rfl rfl) rfl (lw_pure (pur_extract rfl rfl) rfl (cA rfl rfl (cA rfl rfl (cT (cw_seq (cS (cM rfl rfl (lw_pure (pur_neq rfl rfl) rfl (cT ?_))))))))))
        refine cw_yes rfl (by assumption) ?_
        refine cS (lw_pure (pur_build' [_, _, _, _] tabOk zOk rfl rfl rfl rfl) rfl (cM rfl rfl (cM rfl rfl ?_)))
        (refine lw_store' [_, _, _, _] [_, _, _, _] tabOk rfl rfl rfl rfl rfl rfl h5 rfl rfl ?_; intro wb32 nb33)
        have hb36 := Put.blk nb33
        have fb34 := Put.fr nb33
        have zb35 := Put.size nb33
        clear nb33 h5 hb28
        replace hb12 := Blk.fr hb12 fb34 (by omega)
        replace hb3 := Nd.sits.fr hb3 fb34 (by omega)
        replace X := Ext.fr X fb34 (by omega)
        clear fb34
        refine cA rfl rfl (cA rfl rfl (cT (cw_ret (qw_then_ret (qw_retc3 rfl tabOk rfl rfl rfl hb36 rfl rfl rfl ?_)))))
        rotate_left 1
       exact ⟨none, 0, rfl, zero_sits, X⟩
   · have ef : finishP c9.ts c9.n r.2 = r.2 := by rw [finishP, if_neg hlt]
     rw [ef] at hz0 ⊢
     have hz := hz0
     clear hz0 ef
     by_cases he3 : (finishP c9.ts c9.n (limitP r.1 0 r.2)).err = 0
     · rw [show wholeT r.1 (finishP c9.ts c9.n (limitP r.1 0 r.2)) = (r.1, 0, 0) from if_neg (by simpa using he3)]
       focus
        refine lw_does (does_call (by kernel_rfl) rfl (HX.out _ (by assumption) (by intro _; omega) (by omega)) (fun _ _ h => h.ret)) rfl ?_ (fun _ h => h)
        rintro _ wc6 ⟨ac1, ⟨kc2, ⟨⟨⟩, ⟨hc3, ⟨hc4, fc5⟩⟩⟩⟩⟩
        have zc7 := Fr.size fc5
        clear h13
        replace h5 := Blk.fr h5 fc5 (by omega)
        replace X := Ext.fr X fc5 (by omega)
        clear fc5
        (refine lw_alloc' [_, _, _, _] zOk rfl rfl ?_; intro bc8 wc9 nc10)
        (refine lw_init' [_, _, _, _] tabOk rfl rfl rfl rfl rfl rfl nc10 rfl ?_; clear nc10; clear wc9; intro wc11 nc10)
        have hc12 := New.blk nc10
        have xc13 := New.ext nc10
        have pc14 := New.pos nc10
        have zc15 := New.size nc10
        clear nc10
        replace hc3 := Nd.sits.ext hc3 xc13
        replace hc4 := RP.ext hc4 xc13
        replace h5 := Blk.ext h5 xc13
        replace X := Ext.ext X xc13
        clear xc13
        refine cT (cw_seq (cw_seq ?_))
        (refine cw_tdraw (fun wz => Ext wc11 wz) 15 (.pure 0 (.pure 1 (.pure 2 (.pure 3 (.pure 4 (.pure 5 (.pure 6 (.pure 7 (.pure 8 (.pure 9 (.pure 10 (.pure 11 (.pure 12 (.pure 13 (.pure 14 .tail))))))))))))))) mixed (by kernel_rfl) (panicOk_then (panicOk_then panicOk_body)) ?_; intro wc16 xc17 _)
        have qsc18 : (fun wz => Ext wc11 wz) wc16 := xc17
        simp only at qsc18
        have d_hc12 := hc12
        have d_hc3 := hc3
        have d_hc4 := hc4
        have d_h5 := h5
        have zc19 := Ext.size xc17
        replace hc12 := Blk.ext hc12 xc17
        replace hc3 := Nd.sits.ext hc3 xc17
        replace hc4 := RP.ext hc4 xc17
        replace h5 := Blk.ext h5 xc17
        replace X := Ext.ext X xc17
        clear xc17
        refine ⟨qsc18, ?_⟩
        refine tw_pure rfl (pur_move rfl) rfl (tw_pure rfl (pur_nilCheck rfl) rfl (tw_pure rfl (pur_fieldAddr tabOk rfl rfl rfl) rfl (tw_pure rfl (pur_load tabOk rfl rfl rfl (fun wz hz => Blk.cell (Blk.ext (RP.blk d_hc4) hz) rfl)) rfl (tw_pure rfl (pur_eql rfl rfl) rfl (tw_pure rfl (pur_move rfl) rfl ?_)))))
        refine tw_on rfl rfl rfl rfl (gd_tt (by assumption)) (pur_move rfl) rfl ?_
        refine tw_on rfl rfl rfl rfl (gd_tt (by assumption)) (pur_nilCheck rfl) rfl ?_
        refine tw_on rfl rfl rfl rfl (gd_tt (by assumption)) (pur_fieldAddr tabOk rfl rfl rfl) rfl ?_
        refine tw_on rfl rfl rfl rfl (gd_tt (by assumption)) (pur_load tabOk rfl rfl rfl (fun wz hz => Blk.cell (Blk.ext (RP.blk d_hc4) hz) rfl)) rfl ?_
        refine tw_on rfl rfl rfl rfl (gd_tt (by assumption)) (pur_move rfl) rfl ?_
        refine tw_on rfl rfl rfl rfl (gd_tt (by assumption)) (pur_nilCheck rfl) rfl ?_
        refine tw_on rfl rfl rfl rfl (gd_tt (by assumption)) (pur_fieldAddr0 tabOk rfl rfl rfl) rfl ?_
        refine tw_on rfl rfl rfl rfl (gd_tt (by assumption)) (pur_load tabOk rfl rfl rfl (fun wz hz => Blk.cell (Blk.ext (RP.blk d_hc4) hz) rfl)) rfl ?_
        refine tw_on rfl rfl rfl rfl (gd_tt (by assumption)) (pur_len_slice tabOk rfl rfl) rfl ?_
        clear qsc18 d_hc12 d_hc3 d_hc4 d_h5
        refine tw_tail rfl ?_
        refine lw_on rfl rfl rfl (gd_tt (by assumption)) ?_
        refine lw_pure (pur_lss rfl rfl) rfl ?_
        refine lw_pure (pur_pick_yes rfl rfl (by assumption)) rfl ?_
        refine cT ?_
        refine cw_no rfl (by omega) ?_
        refine cw_skip (qw_then (cS (cM rfl rfl (lw_loads_b' [_, _, _, _] tabOk rfl rfl rfl hc12 rfl rfl rfl ?_))))
        refine lw_does (does_call (by kernel_rfl) rfl (rlimits_c _ _ _ _ _ _ _ _ (by assumption) hz (by assumption) (by intro b h; omega)) (fun _ _ h => ⟨_, h.1⟩)) rfl ?_ (fun _ h => h)
        rintro _ wc22 ⟨⟨⟩, ⟨hc20, fc21⟩⟩
        have zc23 := Fr.size fc21
        replace hc12 := Blk.fr hc12 fc21 (by omega)
        replace hc3 := Nd.sits.fr hc3 fc21 (by omega)
        clear hc4
        replace h5 := Blk.fr h5 fc21 (by omega)
        replace X := Ext.fr X fc21 (by omega)
        clear fc21
        refine cN (cM rfl rfl ?_)
        refine lw_does (does_call (by kernel_rfl) rfl (rfinish_c _ _ _ (by assumption)) (fun _ _ h => ⟨_, h.1⟩)) rfl ?_ (fun _ h => h)
        rintro _ wc26 ⟨⟨⟩, ⟨hc24, fc25⟩⟩
        have zc27 := Fr.size fc25
        clear hc20
        replace hc12 := Blk.fr hc12 fc25 (by omega)
        replace hc3 := Nd.sits.fr hc3 fc25 (by omega)
        replace h5 := Blk.fr h5 fc25 (by omega)
        replace X := Ext.fr X fc25 (by omega)
        clear fc25
        refine cM rfl rfl (lw_pure (pur_extract rfl rfl) rfl (lw_pure (pur_extract rfl rfl) rfl (cA rfl rfl (cA rfl rfl (cT (cw_seq (cS (cM rfl rfl (lw_pure (pur_neq rfl rfl) rfl (cT ?_))))))))))
        refine cw_no rfl (by omega) ?_
        refine cw_skip (qw_then (cS (lw_loads_b' [_, _, _, _] tabOk rfl rfl rfl hc12 rfl rfl rfl ?_)))
        (refine lw_store' [_, _, _, _] [_, _, _, _] tabOk rfl rfl rfl rfl rfl rfl h5 rfl rfl ?_; intro wc28 nc29)
        have hc32 := Put.blk nc29
        have fc30 := Put.fr nc29
        have zc31 := Put.size nc29
        clear nc29 h5 hc24
        replace hc12 := Blk.fr hc12 fc30 (by omega)
        replace hc3 := Nd.sits.fr hc3 fc30 (by omega)
        replace X := Ext.fr X fc30 (by omega)
        clear fc30
        refine cA rfl rfl (cA rfl rfl (cT (cw_ret (qw_retc3 rfl tabOk rfl rfl rfl hc32 rfl rfl rfl ?_))))
        rotate_left 1
       exact ⟨_, _, rfl, Nd.sits.wide (by assumption) (fun b h => by omega), X⟩
     · rw [show wholeT r.1 (finishP c9.ts c9.n (limitP r.1 0 r.2)) = (zeroNd, (finishP c9.ts c9.n (limitP r.1 0 r.2)).off, (finishP c9.ts c9.n (limitP r.1 0 r.2)).err) from if_pos he3]
       focus
        refine lw_does (does_call (by kernel_rfl) rfl (HX.out _ (by assumption) (by intro _; omega) (by omega)) (fun _ _ h => h.ret)) rfl ?_ (fun _ h => h)
        rintro _ wd6 ⟨ad1, ⟨kd2, ⟨⟨⟩, ⟨hd3, ⟨hd4, fd5⟩⟩⟩⟩⟩
        have zd7 := Fr.size fd5
        clear h13
        replace h5 := Blk.fr h5 fd5 (by omega)
        replace X := Ext.fr X fd5 (by omega)
        clear fd5
        (refine lw_alloc' [_, _, _, _] zOk rfl rfl ?_; intro bd8 wd9 nd10)
        (refine lw_init' [_, _, _, _] tabOk rfl rfl rfl rfl rfl rfl nd10 rfl ?_; clear nd10; clear wd9; intro wd11 nd10)
        have hd12 := New.blk nd10
        have xd13 := New.ext nd10
        have pd14 := New.pos nd10
        have zd15 := New.size nd10
        clear nd10
        replace hd3 := Nd.sits.ext hd3 xd13
        replace hd4 := RP.ext hd4 xd13
        replace h5 := Blk.ext h5 xd13
        replace X := Ext.ext X xd13
        clear xd13
        refine cT (cw_seq (cw_seq ?_))
        (refine cw_tdraw (fun wz => Ext wd11 wz) 15 (.pure 0 (.pure 1 (.pure 2 (.pure 3 (.pure 4 (.pure 5 (.pure 6 (.pure 7 (.pure 8 (.pure 9 (.pure 10 (.pure 11 (.pure 12 (.pure 13 (.pure 14 .tail))))))))))))))) mixed (by kernel_rfl) (panicOk_then (panicOk_then panicOk_body)) ?_; intro wd16 xd17 _)
        have qsd18 : (fun wz => Ext wd11 wz) wd16 := xd17
        simp only at qsd18
        have d_hd12 := hd12
        have d_hd3 := hd3
        have d_hd4 := hd4
        have d_h5 := h5
        have zd19 := Ext.size xd17
        replace hd12 := Blk.ext hd12 xd17
        replace hd3 := Nd.sits.ext hd3 xd17
        replace hd4 := RP.ext hd4 xd17
        replace h5 := Blk.ext h5 xd17
        replace X := Ext.ext X xd17
        clear xd17
        refine ⟨qsd18, ?_⟩
        refine tw_pure rfl (pur_move rfl) rfl (tw_pure rfl (pur_nilCheck rfl) rfl (tw_pure rfl (pur_fieldAddr tabOk rfl rfl rfl) rfl (tw_pure rfl (pur_load tabOk rfl rfl rfl (fun wz hz => Blk.cell (Blk.ext (RP.blk d_hd4) hz) rfl)) rfl (tw_pure rfl (pur_eql rfl rfl) rfl (tw_pure rfl (pur_move rfl) rfl ?_)))))
        refine tw_on rfl rfl rfl rfl (gd_tt (by assumption)) (pur_move rfl) rfl ?_
        refine tw_on rfl rfl rfl rfl (gd_tt (by assumption)) (pur_nilCheck rfl) rfl ?_
        refine tw_on rfl rfl rfl rfl (gd_tt (by assumption)) (pur_fieldAddr tabOk rfl rfl rfl) rfl ?_
        refine tw_on rfl rfl rfl rfl (gd_tt (by assumption)) (pur_load tabOk rfl rfl rfl (fun wz hz => Blk.cell (Blk.ext (RP.blk d_hd4) hz) rfl)) rfl ?_
        refine tw_on rfl rfl rfl rfl (gd_tt (by assumption)) (pur_move rfl) rfl ?_
        refine tw_on rfl rfl rfl rfl (gd_tt (by assumption)) (pur_nilCheck rfl) rfl ?_
        refine tw_on rfl rfl rfl rfl (gd_tt (by assumption)) (pur_fieldAddr0 tabOk rfl rfl rfl) rfl ?_
        refine tw_on rfl rfl rfl rfl (gd_tt (by assumption)) (pur_load tabOk rfl rfl rfl (fun wz hz => Blk.cell (Blk.ext (RP.blk d_hd4) hz) rfl)) rfl ?_
        refine tw_on rfl rfl rfl rfl (gd_tt (by assumption)) (pur_len_slice tabOk rfl rfl) rfl ?_
        clear qsd18 d_hd12 d_hd3 d_hd4 d_h5
        refine tw_tail rfl ?_
        refine lw_on rfl rfl rfl (gd_tt (by assumption)) ?_
        refine lw_pure (pur_lss rfl rfl) rfl ?_
        refine lw_pure (pur_pick_yes rfl rfl (by assumption)) rfl ?_
        refine cT ?_
        refine cw_no rfl (by omega) ?_
        refine cw_skip (qw_then (cS (cM rfl rfl (lw_loads_b' [_, _, _, _] tabOk rfl rfl rfl hd12 rfl rfl rfl ?_))))
        refine lw_does (does_call (by kernel_rfl) rfl (rlimits_c _ _ _ _ _ _ _ _ (by assumption) hz (by assumption) (by intro b h; omega)) (fun _ _ h => ⟨_, h.1⟩)) rfl ?_ (fun _ h => h)
        rintro _ wd22 ⟨⟨⟩, ⟨hd20, fd21⟩⟩
        have zd23 := Fr.size fd21
        replace hd12 := Blk.fr hd12 fd21 (by omega)
        replace hd3 := Nd.sits.fr hd3 fd21 (by omega)
        clear hd4
        replace h5 := Blk.fr h5 fd21 (by omega)
        replace X := Ext.fr X fd21 (by omega)
        clear fd21
        refine cN (cM rfl rfl ?_)
        refine lw_does (does_call (by kernel_rfl) rfl (rfinish_c _ _ _ (by assumption)) (fun _ _ h => ⟨_, h.1⟩)) rfl ?_ (fun _ h => h)
        rintro _ wd26 ⟨⟨⟩, ⟨hd24, fd25⟩⟩
        have zd27 := Fr.size fd25
        clear hd20
        replace hd12 := Blk.fr hd12 fd25 (by omega)
        replace hd3 := Nd.sits.fr hd3 fd25 (by omega)
        replace h5 := Blk.fr h5 fd25 (by omega)
        replace X := Ext.fr X fd25 (by omega)
        clear fd25
        refine cM rfl rfl (lw_pure (pur_extract rfl rfl) rfl (lw_pure (pur_extract rfl rfl) rfl (cA rfl rfl (cA rfl rfl (cT (cw_seq (cS (cM rfl rfl (lw_pure (pur_neq rfl rfl) rfl (cT ?_))))))))))
        refine cw_yes rfl (by assumption) ?_
        refine cS (lw_pure (pur_build' [_, _, _, _] tabOk zOk rfl rfl rfl rfl) rfl (cM rfl rfl (cM rfl rfl ?_)))
        (refine lw_store' [_, _, _, _] [_, _, _, _] tabOk rfl rfl rfl rfl rfl rfl h5 rfl rfl ?_; intro wd28 nd29)
        have hd32 := Put.blk nd29
        have fd30 := Put.fr nd29
        have zd31 := Put.size nd29
        clear nd29 h5 hd24
        replace hd12 := Blk.fr hd12 fd30 (by omega)
        replace hd3 := Nd.sits.fr hd3 fd30 (by omega)
        replace X := Ext.fr X fd30 (by omega)
        clear fd30
        refine cA rfl rfl (cA rfl rfl (cT (cw_ret (qw_then_ret (qw_retc3 rfl tabOk rfl rfl rfl hd32 rfl rfl rfl ?_)))))
        rotate_left 1
       exact ⟨none, 0, rfl, zero_sits, X⟩
 · rw [finish_off h0]
   have hz : r.2.err = 0 → r.1.size ≤ 1000000000 := fun h => absurd h h0
   clear hz0
   by_cases he3 : (finishP c9.ts c9.n (limitP r.1 0 r.2)).err = 0
   · rw [show wholeT r.1 (finishP c9.ts c9.n (limitP r.1 0 r.2)) = (r.1, 0, 0) from if_neg (by simpa using he3)]
     focus
      refine lw_does (does_call (by kernel_rfl) rfl (HX.out _ (by assumption) (by intro _; omega) (by omega)) (fun _ _ h => h.ret)) rfl ?_ (fun _ h => h)
      rintro _ we6 ⟨ae1, ⟨ke2, ⟨⟨⟩, ⟨he3, ⟨he4, fe5⟩⟩⟩⟩⟩
      have ze7 := Fr.size fe5
      clear h13
      replace h5 := Blk.fr h5 fe5 (by omega)
      replace X := Ext.fr X fe5 (by omega)
      clear fe5
      (refine lw_alloc' [_, _, _, _] zOk rfl rfl ?_; intro be8 we9 ne10)
      (refine lw_init' [_, _, _, _] tabOk rfl rfl rfl rfl rfl rfl ne10 rfl ?_; clear ne10; clear we9; intro we11 ne10)
      have he12 := New.blk ne10
      have xe13 := New.ext ne10
      have pe14 := New.pos ne10
      have ze15 := New.size ne10
      clear ne10
      replace he3 := Nd.sits.ext he3 xe13
      replace he4 := RP.ext he4 xe13
      replace h5 := Blk.ext h5 xe13
      replace X := Ext.ext X xe13
      clear xe13
      refine cT (cw_seq (cw_seq ?_))
      (refine cw_tdraw (fun wz => Ext we11 wz) 15 (.pure 0 (.pure 1 (.pure 2 (.pure 3 (.pure 4 (.pure 5 (.pure 6 (.pure 7 (.pure 8 (.pure 9 (.pure 10 (.pure 11 (.pure 12 (.pure 13 (.pure 14 .tail))))))))))))))) mixed (by kernel_rfl) (panicOk_then (panicOk_then panicOk_body)) ?_; intro we16 xe17 _)
      have qse18 : (fun wz => Ext we11 wz) we16 := xe17
      simp only at qse18
      have d_he12 := he12
      have d_he3 := he3
      have d_he4 := he4
      have d_h5 := h5
      have ze19 := Ext.size xe17
      replace he12 := Blk.ext he12 xe17
      replace he3 := Nd.sits.ext he3 xe17
      replace he4 := RP.ext he4 xe17
      replace h5 := Blk.ext h5 xe17
      replace X := Ext.ext X xe17
      clear xe17
      refine ⟨qse18, ?_⟩
      refine tw_pure rfl (pur_move rfl) rfl (tw_pure rfl (pur_nilCheck rfl) rfl (tw_pure rfl (pur_fieldAddr tabOk rfl rfl rfl) rfl (tw_pure rfl (pur_load tabOk rfl rfl rfl (fun wz hz => Blk.cell (Blk.ext (RP.blk d_he4) hz) rfl)) rfl (tw_pure rfl (pur_eql rfl rfl) rfl (tw_pure rfl (pur_move rfl) rfl ?_)))))
      refine tw_off rfl rfl rfl rfl (gd_tf (by assumption)) rfl ?_
      refine tw_off rfl rfl rfl rfl (gd_tf (by assumption)) rfl ?_
      refine tw_off rfl rfl rfl rfl (gd_tf (by assumption)) rfl ?_
      refine tw_off rfl rfl rfl rfl (gd_tf (by assumption)) rfl ?_
      refine tw_off rfl rfl rfl rfl (gd_tf (by assumption)) rfl ?_
      refine tw_off rfl rfl rfl rfl (gd_tf (by assumption)) rfl ?_
      refine tw_off rfl rfl rfl rfl (gd_tf (by assumption)) rfl ?_
      refine tw_off rfl rfl rfl rfl (gd_tf (by assumption)) rfl ?_
      refine tw_off rfl rfl rfl rfl (gd_tf (by assumption)) rfl ?_
      clear qse18 d_he12 d_he3 d_he4 d_h5
      refine tw_tail rfl ?_
      refine lw_off rfl rfl rfl (gd_tf (by assumption)) rfl ?_
      refine lw_pure (pur_pick_no rfl rfl (by assumption)) rfl ?_
      refine cT (cw_cond_f rfl (cw_skip (qw_then (cS (cM rfl rfl (lw_loads_b' [_, _, _, _] tabOk rfl rfl rfl he12 rfl rfl rfl ?_))))))
      refine lw_does (does_call (by kernel_rfl) rfl (rlimits_c _ _ _ _ _ _ _ _ (by assumption) hz (by assumption) (by intro b h; omega)) (fun _ _ h => ⟨_, h.1⟩)) rfl ?_ (fun _ h => h)
      rintro _ we22 ⟨⟨⟩, ⟨he20, fe21⟩⟩
      have ze23 := Fr.size fe21
      replace he12 := Blk.fr he12 fe21 (by omega)
      replace he3 := Nd.sits.fr he3 fe21 (by omega)
      clear he4
      replace h5 := Blk.fr h5 fe21 (by omega)
      replace X := Ext.fr X fe21 (by omega)
      clear fe21
      refine cN (cM rfl rfl ?_)
      refine lw_does (does_call (by kernel_rfl) rfl (rfinish_c _ _ _ (by assumption)) (fun _ _ h => ⟨_, h.1⟩)) rfl ?_ (fun _ h => h)
      rintro _ we26 ⟨⟨⟩, ⟨he24, fe25⟩⟩
      have ze27 := Fr.size fe25
      clear he20
      replace he12 := Blk.fr he12 fe25 (by omega)
      replace he3 := Nd.sits.fr he3 fe25 (by omega)
      replace h5 := Blk.fr h5 fe25 (by omega)
      replace X := Ext.fr X fe25 (by omega)
      clear fe25
      refine cM rfl rfl (lw_pure (pur_extract rfl rfl) rfl (lw_pure (pur_extract rfl rfl) rfl (cA rfl rfl (cA rfl rfl (cT (cw_seq (cS (cM rfl rfl (lw_pure (pur_neq rfl rfl) rfl (cT ?_))))))))))
      refine cw_no rfl (by omega) ?_
      refine cw_skip (qw_then (cS (lw_loads_b' [_, _, _, _] tabOk rfl rfl rfl he12 rfl rfl rfl ?_)))
      (refine lw_store' [_, _, _, _] [_, _, _, _] tabOk rfl rfl rfl rfl rfl rfl h5 rfl rfl ?_; intro we28 ne29)
      have he32 := Put.blk ne29
      have fe30 := Put.fr ne29
      have ze31 := Put.size ne29
      clear ne29 h5 he24
      replace he12 := Blk.fr he12 fe30 (by omega)
      replace he3 := Nd.sits.fr he3 fe30 (by omega)
      replace X := Ext.fr X fe30 (by omega)
      clear fe30
      refine cA rfl rfl (cA rfl rfl (cT (cw_ret (qw_retc3 rfl tabOk rfl rfl rfl he32 rfl rfl rfl ?_))))
      rotate_left 1
     exact ⟨_, _, rfl, Nd.sits.wide (by assumption) (fun b h => by omega), X⟩
   · rw [show wholeT r.1 (finishP c9.ts c9.n (limitP r.1 0 r.2)) = (zeroNd, (finishP c9.ts c9.n (limitP r.1 0 r.2)).off, (finishP c9.ts c9.n (limitP r.1 0 r.2)).err) from if_pos he3]
     focus
      refine lw_does (does_call (by kernel_rfl) rfl (HX.out _ (by assumption) (by intro _; omega) (by omega)) (fun _ _ h => h.ret)) rfl ?_ (fun _ h => h)
      rintro _ wf6 ⟨af1, ⟨kf2, ⟨⟨⟩, ⟨hf3, ⟨hf4, ff5⟩⟩⟩⟩⟩
      have zf7 := Fr.size ff5
      clear h13
      replace h5 := Blk.fr h5 ff5 (by omega)
      replace X := Ext.fr X ff5 (by omega)
      clear ff5
      (refine lw_alloc' [_, _, _, _] zOk rfl rfl ?_; intro bf8 wf9 nf10)
      (refine lw_init' [_, _, _, _] tabOk rfl rfl rfl rfl rfl rfl nf10 rfl ?_; clear nf10; clear wf9; intro wf11 nf10)
      have hf12 := New.blk nf10
      have xf13 := New.ext nf10
      have pf14 := New.pos nf10
      have zf15 := New.size nf10
      clear nf10
      replace hf3 := Nd.sits.ext hf3 xf13
      replace hf4 := RP.ext hf4 xf13
      replace h5 := Blk.ext h5 xf13
      replace X := Ext.ext X xf13
      clear xf13
      refine cT (cw_seq (cw_seq ?_))
      (refine cw_tdraw (fun wz => Ext wf11 wz) 15 (.pure 0 (.pure 1 (.pure 2 (.pure 3 (.pure 4 (.pure 5 (.pure 6 (.pure 7 (.pure 8 (.pure 9 (.pure 10 (.pure 11 (.pure 12 (.pure 13 (.pure 14 .tail))))))))))))))) mixed (by kernel_rfl) (panicOk_then (panicOk_then panicOk_body)) ?_; intro wf16 xf17 _)
      have qsf18 : (fun wz => Ext wf11 wz) wf16 := xf17
      simp only at qsf18
      have d_hf12 := hf12
      have d_hf3 := hf3
      have d_hf4 := hf4
      have d_h5 := h5
      have zf19 := Ext.size xf17
      replace hf12 := Blk.ext hf12 xf17
      replace hf3 := Nd.sits.ext hf3 xf17
      replace hf4 := RP.ext hf4 xf17
      replace h5 := Blk.ext h5 xf17
      replace X := Ext.ext X xf17
      clear xf17
      refine ⟨qsf18, ?_⟩
      refine tw_pure rfl (pur_move rfl) rfl (tw_pure rfl (pur_nilCheck rfl) rfl (tw_pure rfl (pur_fieldAddr tabOk rfl rfl rfl) rfl (tw_pure rfl (pur_load tabOk rfl rfl rfl (fun wz hz => Blk.cell (Blk.ext (RP.blk d_hf4) hz) rfl)) rfl (tw_pure rfl (pur_eql rfl rfl) rfl (tw_pure rfl (pur_move rfl) rfl ?_)))))
      refine tw_off rfl rfl rfl rfl (gd_tf (by assumption)) rfl ?_
      refine tw_off rfl rfl rfl rfl (gd_tf (by assumption)) rfl ?_
      refine tw_off rfl rfl rfl rfl (gd_tf (by assumption)) rfl ?_
      refine tw_off rfl rfl rfl rfl (gd_tf (by assumption)) rfl ?_
      refine tw_off rfl rfl rfl rfl (gd_tf (by assumption)) rfl ?_
      refine tw_off rfl rfl rfl rfl (gd_tf (by assumption)) rfl ?_
      refine tw_off rfl rfl rfl rfl (gd_tf (by assumption)) rfl ?_
      refine tw_off rfl rfl rfl rfl (gd_tf (by assumption)) rfl ?_
      refine tw_off rfl rfl rfl rfl (gd_tf (by assumption)) rfl ?_
      clear qsf18 d_hf12 d_hf3 d_hf4 d_h5
      refine tw_tail rfl ?_
      refine lw_off rfl rfl rfl (gd_tf (by assumption)) rfl ?_
      refine lw_pure (pur_pick_no rfl rfl (by assumption)) rfl ?_
      refine cT (cw_cond_f rfl (cw_skip (qw_then (cS (cM rfl rfl (lw_loads_b' [_, _, _, _] tabOk rfl rfl rfl hf12 rfl rfl rfl ?_))))))
      refine lw_does (does_call (by kernel_rfl) rfl (rlimits_c _ _ _ _ _ _ _ _ (by assumption) hz (by assumption) (by intro b h; omega)) (fun _ _ h => ⟨_, h.1⟩)) rfl ?_ (fun _ h => h)
      rintro _ wf22 ⟨⟨⟩, ⟨hf20, ff21⟩⟩
      have zf23 := Fr.size ff21
      replace hf12 := Blk.fr hf12 ff21 (by omega)
      replace hf3 := Nd.sits.fr hf3 ff21 (by omega)
      clear hf4
      replace h5 := Blk.fr h5 ff21 (by omega)
      replace X := Ext.fr X ff21 (by omega)
      clear ff21
      refine cN (cM rfl rfl ?_)
      refine lw_does (does_call (by kernel_rfl) rfl (rfinish_c _ _ _ (by assumption)) (fun _ _ h => ⟨_, h.1⟩)) rfl ?_ (fun _ h => h)
      rintro _ wf26 ⟨⟨⟩, ⟨hf24, ff25⟩⟩
      have zf27 := Fr.size ff25
      clear hf20
      replace hf12 := Blk.fr hf12 ff25 (by omega)
      replace hf3 := Nd.sits.fr hf3 ff25 (by omega)
      replace h5 := Blk.fr h5 ff25 (by omega)
      replace X := Ext.fr X ff25 (by omega)
      clear ff25
      refine cM rfl rfl (lw_pure (pur_extract rfl rfl) rfl (lw_pure (pur_extract rfl rfl) rfl (cA rfl rfl (cA rfl rfl (cT (cw_seq (cS (cM rfl rfl (lw_pure (pur_neq rfl rfl) rfl (cT ?_))))))))))
      refine cw_yes rfl (by assumption) ?_
      refine cS (lw_pure (pur_build' [_, _, _, _] tabOk zOk rfl rfl rfl rfl) rfl (cM rfl rfl (cM rfl rfl ?_)))
      (refine lw_store' [_, _, _, _] [_, _, _, _] tabOk rfl rfl rfl rfl rfl rfl h5 rfl rfl ?_; intro wf28 nf29)
      have hf32 := Put.blk nf29
      have ff30 := Put.fr nf29
      have zf31 := Put.size nf29
      clear nf29 h5 hf24
      replace hf12 := Blk.fr hf12 ff30 (by omega)
      replace hf3 := Nd.sits.fr hf3 ff30 (by omega)
      replace X := Ext.fr X ff30 (by omega)
      clear ff30
      refine cA rfl rfl (cA rfl rfl (cT (cw_ret (qw_then_ret (qw_retc3 rfl tabOk rfl rfl rfl hf32 rfl rfl rfl ?_)))))
      rotate_left 1
     exact ⟨none, 0, rfl, zero_sits, X⟩
end Bk
namespace Bk
open Go Go.RowKit Go.Proofs
attribute [local irreducible] Go.Calls
theorem length_rowSize2 (l : List Nd) : l.length ≤ rowSize l := by
 induction l with
 | nil => simp [rowSize]
 | cons x r ih => have := Nd.size_pos x; simp only [rowSize, List.length_cons]; omega
set_option maxRecDepth 100000 in
set_option maxHeartbeats 1000000 in
theorem Equal_t (N : Nat) : ∀ (t : Nd) (S S' : Nat → Prop) (a a' : Option Addr) (c c' : Nat) (w : World), t.size < N → t.kids.length ≤ 1000000000 → rowSize t.kids ≤ 1000000000 → t.sits S w a → t.sits S' w a' →
 Calls Tryz.prog 14 #[t.val a c, t.val a' c'] w fun e w' => e = .returned (.bool true) ∧ Ext w w' := by
 induction N with
 | zero => intro t S S' a a' c c' w h; omega
 | succ N ih =>
  rintro ⟨k, n, s, l⟩ S S' a a' c c' w hN hM hR hs hs'
  have IH := Lib.hid ih; clear ih
  simp only [Nd.sits] at hs hs'
  simp only [Nd.size, Nd.kids] at hN hM hR
  simp only [Nd.val, Nd.kind, Nd.num, Nd.name, Nd.kids]
  have X := Ext.refl w
  refine calls_in Tryz.func14 Tryz.ntmps14 rfl rfl ?_
  focus
   refine cS ?_
   (refine lw_box' [_, _, _, _] rfl rfl rfl ?_; intro b1 w2 n3)
   have h4 := New.blk n3
   have x5 := New.ext n3
   have p6 := New.pos n3
   have z7 := New.size n3
   clear n3
   replace hs := Bk.rowSits.ext hs x5
   replace hs' := Bk.rowSits.ext hs' x5
   replace X := Ext.ext X x5
   clear x5
   (refine lw_box' [_, _, _, _] rfl rfl rfl ?_; intro b8 w9 n10)
   have h11 := New.blk n10
   have x12 := New.ext n10
   have p13 := New.pos n10
   have z14 := New.size n10
   clear n10
   replace h4 := Blk.ext h4 x12
   replace hs := Bk.rowSits.ext hs x12
   replace hs' := Bk.rowSits.ext hs' x12
   replace X := Ext.ext X x12
   clear x12
   refine cA rfl rfl (cT (cw_seq (cS (lw_pure (pur_fieldAddr0 tabOk rfl rfl rfl) rfl (lw_load_b tabOk rfl rfl rfl h4 rfl rfl (lw_pure (pur_fieldAddr0 tabOk rfl rfl rfl) rfl (lw_load_b tabOk rfl rfl rfl h11 rfl rfl (lw_pure (pur_neq rfl rfl) rfl (cM rfl rfl ?_)))))))))
   refine lw_on rfl rfl rfl (gd_ff (by omega)) ?_
   refine lw_pure (pur_fieldAddr tabOk rfl rfl rfl) rfl ?_
   refine lw_on rfl rfl rfl (gd_ff (by omega)) ?_
   refine lw_load_b tabOk rfl rfl rfl h4 rfl rfl ?_
   refine lw_on rfl rfl rfl (gd_ff (by omega)) ?_
   refine lw_pure (pur_fieldAddr tabOk rfl rfl rfl) rfl ?_
   refine lw_on rfl rfl rfl (gd_ff (by omega)) ?_
   refine lw_load_b tabOk rfl rfl rfl h11 rfl rfl ?_
   refine lw_on rfl rfl rfl (gd_ff (by omega)) ?_
   refine lw_pure (pur_neq rfl rfl) rfl ?_
   refine lw_pure (pur_pick_no rfl rfl (by omega)) rfl ?_
   refine cM rfl rfl ?_
   refine lw_on rfl rfl rfl (gd_ff (by omega)) ?_
   refine lw_pure (pur_fieldAddr tabOk rfl rfl rfl) rfl ?_
   refine lw_on rfl rfl rfl (gd_ff (by omega)) ?_
   refine lw_load_b tabOk rfl rfl rfl h4 rfl rfl ?_
   refine lw_on rfl rfl rfl (gd_ff (by omega)) ?_
   refine lw_pure (pur_fieldAddr tabOk rfl rfl rfl) rfl ?_
   refine lw_on rfl rfl rfl (gd_ff (by omega)) ?_
   refine lw_load_b tabOk rfl rfl rfl h11 rfl rfl ?_
   refine lw_on rfl rfl rfl (gd_ff (by omega)) ?_
   refine lw_pure (pur_sneq rfl rfl) rfl ?_
   refine lw_pure (pur_pick_no rfl rfl (by omega)) rfl ?_
   refine cM rfl rfl (lw_on rfl rfl rfl (gd_ff (not_not_intro rfl)) (lw_pure (pur_fieldAddr tabOk rfl rfl rfl) rfl (lw_on rfl rfl rfl (gd_ff (not_not_intro rfl)) (lw_load_b tabOk rfl rfl rfl h4 rfl rfl (lw_on rfl rfl rfl (gd_ff (not_not_intro rfl)) (lw_pure (pur_len_slice tabOk rfl rfl) rfl (lw_on rfl rfl rfl (gd_ff (not_not_intro rfl)) (lw_pure (pur_fieldAddr tabOk rfl rfl rfl) rfl (lw_on rfl rfl rfl (gd_ff (not_not_intro rfl)) (lw_load_b tabOk rfl rfl rfl h11 rfl rfl (lw_on rfl rfl rfl (gd_ff (not_not_intro rfl)) ?_)))))))))))
   refine lw_pure (pur_len_slice tabOk rfl rfl) rfl (lw_on rfl rfl rfl (gd_ff (not_not_intro rfl)) (lw_pure (pur_neq rfl rfl) rfl (lw_pure (pur_pick_no rfl rfl (not_not_intro rfl)) rfl (cT ?_))))
   refine cw_no rfl (by omega) ?_
   refine cw_skip (qw_then (cw_seq (cS (cA rfl rfl (cT (cw_block ?_))))))
   rotate_left 1
  refine cw_loop (ι := Nat) (fun j => [(2, .pointer (some ⟨b1, 0, none⟩)), (3, .pointer (some ⟨b8, 0, none⟩)), (5, .int .i64 j)]) (fun j w' => rowSits S w' l a ∧ rowSits S' w' l a' ∧ Ext w w' ∧ Blk w' b1 [.int .u8 k, .int .i64 n, str s, .slice a l.length c] ∧ Blk w' b8 [.int .u8 k, .int .i64 n, str s, .slice a' l.length c'] ∧ j ≤ l.length) (fun j => l.length - j) 0 (by (refine sub_cons rfl ?_; refine sub_cons rfl ?_; refine sub_cons rfl ?_; exact sub_nil)) ⟨hs, hs', X, h4, h11, Nat.zero_le _⟩ ?_
  rintro j w1 ⟨hs, hs', X, hb, hb', hj⟩
  clear h4 h11
  by_cases hlt : j < l.length
  · obtain ⟨kb, ko, rfl, hkS, hkid⟩ := kidRows hs (by intro e; subst e; simp at hlt)
    obtain ⟨kb', ko', rfl, hkS', hkid'⟩ := kidRows hs' (by intro e; subst e; simp at hlt)
    obtain ⟨xa, xc, rx, sx⟩ := hkid j l[j] (List.getElem?_eq_getElem hlt)
    obtain ⟨ya, yc, ry, sy⟩ := hkid' j l[j] (List.getElem?_eq_getElem hlt)
    have hsz := size_mem (List.getElem_mem hlt)
    have hsz2 : l[j].size = 1 + rowSize l[j].kids := by cases l[j]; simp [Nd.size, Nd.kids]
    have hln := length_rowSize2 l[j].kids
    clear hkid hkid'
    generalize l[j] = x at *
    focus
     refine cw_seq (cS (cM rfl rfl (lw_pure (pur_fieldAddr tabOk rfl rfl rfl) rfl (lw_load_b tabOk rfl rfl rfl hb rfl rfl (lw_pure (pur_len_slice tabOk rfl rfl) rfl (lw_pure (pur_lss rfl rfl) rfl (cT ?_)))))))
     refine cw_yes rfl (by omega) ?_
     refine cw_skip (qw_then (cw_seq (cw_block (cw_seq ?_))))
     (refine cw_tdraw (fun wz => Ext w1 wz) 10 (.pure 0 (.pure 1 (.pure 2 (.pure 3 (.pure 4 (.pure 5 (.pure 6 (.pure 7 (.pure 8 (.pure 9 .tail)))))))))) mixed (by kernel_rfl) (panicOk_then (panicOk_block (panicOk_then (panicOk_then (panicOk_block (panicOk_then panicOk_body)))))) ?_; intro wa1 xa2 _)
     have qsa3 : (fun wz => Ext w1 wz) wa1 := xa2
     simp only at qsa3
     have d_hs := hs
     have d_hb := hb
     have d_hs' := hs'
     have d_hb' := hb'
     have d_rx := rx
     have d_sx := sx
     have d_ry := ry
     have d_sy := sy
     have za4 := Ext.size xa2
     replace X := Ext.ext X xa2
     replace hs := Bk.rowSits.ext hs xa2
     replace hb := Blk.ext hb xa2
     replace hs' := Bk.rowSits.ext hs' xa2
     replace hb' := Blk.ext hb' xa2
     replace rx := Row.ext rx xa2
     replace sx := Nd.sits.ext sx xa2
     replace ry := Row.ext ry xa2
     replace sy := Nd.sits.ext sy xa2
     clear xa2
     refine ⟨qsa3, ?_⟩
     refine tw_pure rfl (pur_fieldAddr tabOk rfl rfl rfl) rfl (tw_pure rfl (pur_load tabOk rfl rfl rfl (fun wz hz => Blk.cell (Blk.ext d_hb hz) rfl)) rfl (tw_pure rfl (pur_move rfl) rfl ?_))
     refine tw_pure rfl (pur_indexAddr tabOk rfl rfl rfl rfl (by omega) (by omega)) rfl ?_
     refine tw_pure rfl (pur_loads' tabOk rfl rfl rfl (fun wz hz => (Row.ext d_rx hz)) rfl) rfl (tw_pure rfl (pur_fieldAddr tabOk rfl rfl rfl) rfl (tw_pure rfl (pur_load tabOk rfl rfl rfl (fun wz hz => Blk.cell (Blk.ext d_hb' hz) rfl)) rfl (tw_pure rfl (pur_move rfl) rfl ?_)))
     refine tw_pure rfl (pur_indexAddr tabOk rfl rfl rfl rfl (by omega) (by omega)) rfl ?_
     refine tw_pure rfl (pur_loads' tabOk rfl rfl rfl (fun wz hz => (Row.ext d_ry hz)) rfl) rfl ?_
     clear qsa3 d_hs d_hb d_hs' d_hb' d_rx d_sx d_ry d_sy
     refine tw_tail rfl ?_
     refine lw_does (does_call (by kernel_rfl) rfl (IH.out x S S' _ _ _ _ _ (by omega) (by omega) (by omega) (by assumption) (by assumption)) (fun _ _ h => ⟨_, h.1⟩)) rfl ?_ (fun _ h => h)
     rintro _ wa6 ⟨⟨⟩, xa5⟩
     have za7 := Ext.size xa5
     replace X := Ext.ext X xa5
     replace hs := Bk.rowSits.ext hs xa5
     replace hb := Blk.ext hb xa5
     replace hs' := Bk.rowSits.ext hs' xa5
     replace hb' := Blk.ext hb' xa5
     replace rx := Row.ext rx xa5
     replace sx := Nd.sits.ext sx xa5
     replace ry := Row.ext ry xa5
     replace sy := Nd.sits.ext sy xa5
     clear xa5
     refine lw_pure (pur_not rfl) rfl (cT (cw_cond_f rfl (cw_skip (qw_block_norm (qw_then (cw_region (cM rfl rfl ?_)))))))
     refine lw_pure (pur_add rfl rfl (IntWalk.i64_in _ (by omega))) rfl ?_
     refine cA rfl rfl (lw_nil ?_)
     rotate_left 1
    exact qw_round (j + 1) (by (refine sub_cons rfl ?_; refine sub_cons rfl ?_; refine sub_cons rfl ?_; exact sub_nil)) ⟨hs, hs', X, hb, hb', by omega⟩ (by omega)
  · focus
     refine cw_seq (cS (cM rfl rfl (lw_pure (pur_fieldAddr tabOk rfl rfl rfl) rfl (lw_load_b tabOk rfl rfl rfl hb rfl rfl (lw_pure (pur_len_slice tabOk rfl rfl) rfl (lw_pure (pur_lss rfl rfl) rfl (cT ?_)))))))
     refine cw_no rfl (by omega) ?_
     refine cw_exit (qw_then_exit (qw_then_exit (qw_block_exit (qw_then (cS (cA rfl rfl (cT (cw_ret (qw_ret1 rfl rfl ?_)))))))))
     rotate_left 1
    exact ⟨rfl, X⟩
end Bk
namespace Bk
open Go Go.RowKit Go.Proofs
attribute [local irreducible] Go.Calls
theorem limit_size {x : Nd} {off : Int} {σ : PS} (h : (limitP x off σ).err = 0) : x.size ≤ 2000 := by
 unfold limitP at h
 split at h
 · exact absurd h (by assumption)
 · split at h
   · exact absurd h (fail_err (by decide))
   · split at h
     · exact absurd h (fail_err (by decide))
     · omega
theorem parseBlock_size (s : List UInt8) : (parseBlock s).1.size ≤ 2000 := by
 unfold parseBlock
 simp only
 split
 · show zeroNd.size ≤ 2000; decide
 · rename_i h; exact limit_size (by simpa using h)
theorem row_small (l : List Nd) : l.length ≤ rowSize l := by
 induction l with
 | nil => simp [rowSize]
 | cons x r ih => have : 1 ≤ x.size := by cases x; simp only [Nd.size]; omega
                  simp only [rowSize, List.length_cons]; omega
theorem kids_small {t : Nd} (h : t.size ≤ 2000) : t.kids.length ≤ 1000000000 ∧ rowSize t.kids ≤ 1000000000 := by
 cases t with
 | mk k n s l =>
  have := row_small l
  simp only [Nd.size, Nd.kids] at *
  omega
set_option maxRecDepth 100000 in
set_option maxHeartbeats 4000000 in
theorem ParserBlock_c (s : List UInt8) (w : World) (hs : s.length ≤ 9223372036854775807) (hS : Syms w) (hE : Errs w) : Calls Tryz.prog 5 #[str s] w fun e w' => e = .returned (.bool true) ∧ Ext w w' := by
 have X := Ext.refl w
 by_cases h : 600 < s.length
 · refine calls_in Tryz.func5 Tryz.ntmps5 rfl rfl ?_
   focus
    refine cS (cA rfl rfl (cT (cw_seq (cS ?_))))
    refine lw_does (does_call (by kernel_rfl) rfl (awake4_c _ (by assumption) (by assumption)) (fun _ _ h => ⟨_, h.1⟩)) rfl ?_ (fun _ h => h)
    rintro _ w2 ⟨⟨⟩, x1⟩
    have z3 := Ext.size x1
    replace hS := Syms.ext hS x1
    replace hE := Errs.ext hE x1
    replace X := Ext.ext X x1
    clear x1
    refine lw_pure (pur_not rfl) rfl (cM rfl rfl (lw_on rfl rfl rfl (rfl) (cM rfl rfl (lw_on rfl rfl rfl (rfl) (lw_pure (pur_len_s tabOk rfl rfl) rfl (lw_on rfl rfl rfl (rfl) (lw_pure (pur_gtr rfl rfl) rfl (lw_pure (pur_pick_f rfl rfl rfl) rfl (cT ?_)))))))))
    refine cw_yes rfl (by omega) ?_
    refine cS ?_
    refine lw_does (does_call (by kernel_rfl) rfl (awake4_c _ (by assumption) (by assumption)) (fun _ _ h => ⟨_, h.1⟩)) rfl ?_ (fun _ h => h)
    rintro _ w5 ⟨⟨⟩, x4⟩
    have z6 := Ext.size x4
    replace hS := Syms.ext hS x4
    replace hE := Errs.ext hE x4
    replace X := Ext.ext X x4
    clear x4
    refine cA rfl rfl (cT (cw_ret (qw_then_ret (qw_ret1 rfl rfl ?_))))
    rotate_left 1
   exact ⟨rfl, X⟩
 · have hz := parseBlock_size s
   have hk := kids_small hz
   have hE1 : ∀ w, Syms w → Errs w → Calls Tryz.prog 15 #[str s] w (ParseR w (parseBlock s)) := fun w => Block_p s w (by omega)
   have hR1 : ∀ w, Calls Tryz.prog 16 #[str s] w (ParseR w (parseBlock s)) := fun w => RBlock_p s w (by omega)
   generalize parseBlock s = r at *
   have H1 := Lib.hid hE1; clear hE1
   have H2 := Lib.hid hR1; clear hR1
   refine calls_in Tryz.func5 Tryz.ntmps5 rfl rfl ?_
   focus
    refine cS (cA rfl rfl (cT (cw_seq (cS ?_))))
    refine lw_does (does_call (by kernel_rfl) rfl (awake4_c _ (by assumption) (by assumption)) (fun _ _ h => ⟨_, h.1⟩)) rfl ?_ (fun _ h => h)
    rintro _ wa2 ⟨⟨⟩, xa1⟩
    have za3 := Ext.size xa1
    replace hS := Syms.ext hS xa1
    replace hE := Errs.ext hE xa1
    replace X := Ext.ext X xa1
    clear xa1
    refine lw_pure (pur_not rfl) rfl (cM rfl rfl (lw_on rfl rfl rfl (rfl) (cM rfl rfl (lw_on rfl rfl rfl (rfl) (lw_pure (pur_len_s tabOk rfl rfl) rfl (lw_on rfl rfl rfl (rfl) (lw_pure (pur_gtr rfl rfl) rfl (lw_pure (pur_pick_f rfl rfl rfl) rfl (cT ?_)))))))))
    refine cw_no rfl (by omega) ?_
    refine cw_skip (qw_then (cS (cM rfl rfl ?_)))
    refine lw_does (does_call (by kernel_rfl) rfl (H1.out _ (by assumption) (by assumption)) (fun _ _ h => h.ret)) rfl ?_ (fun _ h => h)
    rintro _ wa8 ⟨aa4, ⟨ka5, ⟨⟨⟩, ⟨ha6, xa7⟩⟩⟩⟩
    have za9 := Ext.size xa7
    replace hS := Syms.ext hS xa7
    replace hE := Errs.ext hE xa7
    replace X := Ext.ext X xa7
    clear xa7
    refine cM rfl rfl (lw_pure (pur_extract rfl rfl) rfl (lw_pure (pur_extract rfl rfl) rfl (lw_pure (pur_extract rfl rfl) rfl ?_)))
    (refine lw_alloc' [_, _, _, _] zOk rfl rfl ?_; intro ba10 wa11 na12)
    (refine lw_init' [_, _, _, _] tabOk rfl rfl rfl rfl rfl rfl na12 rfl ?_; clear na12; clear wa11; intro wa13 na12)
    have ha14 := New.blk na12
    have xa15 := New.ext na12
    have pa16 := New.pos na12
    have za17 := New.size na12
    clear na12
    replace ha6 := Nd.sits.ext ha6 xa15
    replace hS := Syms.ext hS xa15
    replace hE := Errs.ext hE xa15
    replace X := Ext.ext X xa15
    clear xa15
    refine cA rfl rfl (cA rfl rfl (cN (cM rfl rfl ?_)))
    refine lw_does (does_call (by kernel_rfl) rfl (H2.out _) (fun _ _ h => h.ret)) rfl ?_ (fun _ h => h)
    rintro _ wa22 ⟨aa18, ⟨ka19, ⟨⟨⟩, ⟨ha20, xa21⟩⟩⟩⟩
    have za23 := Ext.size xa21
    replace ha14 := Blk.ext ha14 xa21
    replace ha6 := Nd.sits.ext ha6 xa21
    replace hS := Syms.ext hS xa21
    replace hE := Errs.ext hE xa21
    replace X := Ext.ext X xa21
    clear xa21
    refine cM rfl rfl (lw_pure (pur_extract rfl rfl) rfl (lw_pure (pur_extract rfl rfl) rfl (lw_pure (pur_extract rfl rfl) rfl ?_)))
    (refine lw_alloc' [_, _, _, _] zOk rfl rfl ?_; intro ba24 wa25 na26)
    (refine lw_init' [_, _, _, _] tabOk rfl rfl rfl rfl rfl rfl na26 rfl ?_; clear na26; clear wa25; intro wa27 na26)
    have ha28 := New.blk na26
    have xa29 := New.ext na26
    have pa30 := New.pos na26
    have za31 := New.size na26
    clear na26
    replace ha20 := Nd.sits.ext ha20 xa29
    replace ha14 := Blk.ext ha14 xa29
    replace ha6 := Nd.sits.ext ha6 xa29
    replace hS := Syms.ext hS xa29
    replace hE := Errs.ext hE xa29
    replace X := Ext.ext X xa29
    clear xa29
    refine cA rfl rfl (cA rfl rfl (cN (cM rfl rfl (cM rfl rfl (lw_pure (pur_eql rfl rfl) rfl (cM rfl rfl ?_))))))
    refine lw_on rfl rfl rfl (gd_tt (by omega)) ?_
    refine cM rfl rfl ?_
    refine lw_on rfl rfl rfl (gd_tt (by omega)) ?_
    refine cM rfl rfl ?_
    refine lw_on rfl rfl rfl (gd_tt (by omega)) ?_
    refine lw_pure (pur_eql rfl rfl) rfl ?_
    refine lw_pure (pur_pick_yes rfl rfl (by omega)) rfl ?_
    refine cM rfl rfl ?_
    refine lw_on rfl rfl rfl (gd_tt (by omega)) ?_
    refine lw_loads_b' [_, _, _, _] tabOk rfl rfl rfl ha14 rfl rfl rfl ?_
    refine lw_on rfl rfl rfl (gd_tt (by omega)) ?_
    refine lw_loads_b' [_, _, _, _] tabOk rfl rfl rfl ha28 rfl rfl rfl ?_
    refine lw_on rfl rfl rfl (gd_tt (by omega)) ?_
    refine lw_does (does_call (by kernel_rfl) rfl (Equal_t 2001 _ _ _ _ _ _ _ _ (by omega) hk.1 hk.2 (by assumption) (by assumption)) (fun _ _ h => ⟨_, h.1⟩)) rfl ?_ (fun _ h => h)
    rintro _ wa33 ⟨⟨⟩, xa32⟩
    have za34 := Ext.size xa32
    replace ha28 := Blk.ext ha28 xa32
    replace ha20 := Nd.sits.ext ha20 xa32
    replace ha14 := Blk.ext ha14 xa32
    replace ha6 := Nd.sits.ext ha6 xa32
    replace hS := Syms.ext hS xa32
    replace hE := Errs.ext hE xa32
    replace X := Ext.ext X xa32
    clear xa32
    refine lw_pure (pur_pick_yes rfl rfl (by omega)) rfl ?_
    refine cA rfl rfl (cT (cw_ret (qw_ret1 rfl rfl ?_)))
    rotate_left 1
   exact ⟨rfl, X⟩
end Bk
namespace Bk
open Go Go.RowKit Go.Proofs Go.Lib
theorem cells_of_strs {H : Type} {enc : TypeId × Value → H} {P : Program} {w : World} {base : Nat} {sp : Nat → Bool} {held : Bool} {fuel : Nat} {t e : TypeId} {n : Nat} {cs : List Value} {zs : List (List UInt8)} {p : List MemPlace}
 (ht : P.underlying t = some (.array n e)) (he : P.underlying e = some .string) (hce : P.cellsOf e = 1) (hct : P.cellsOf t = n)
 (h : DataW.trod enc P w base sp held fuel t cs = some (.agg (zs.map fun z => .lit (.string z)), p)) : cs = zs.map str := by
 cases fuel with
 | zero => simp [DataW.trod] at h
 | succ fuel =>
  simp only [DataW.trod, ht, hce, hct, Nat.mul_one] at h
  split at h
  · rename_i hl
    obtain ⟨xs, hm, hx⟩ := Option.map_eq_some_iff.1 h
    have hxs : xs.map (·.1) = zs.map fun z => (DataW.lit (.string z) : DataW H) := by
     have := congrArg Prod.fst hx
     simpa using this
    have hxl : xs.length = n := by simpa using mapM_length hm
    have hzl : zs.length = n := by
     have := congrArg List.length hxs
     simp at this
     omega
    apply List.ext_getElem?
    intro i
    by_cases hi : i < n
    · obtain ⟨b, hb, hf⟩ := mapM_at hm i i (by simp [hi])
      obtain ⟨z, hc, rfl, _⟩ := DataW.trod_string he hf
      have h1 : cs[i]? = some (.string z) := by
       have := congrArg (·[0]?) hc
       simpa [List.getElem?_take, List.getElem?_drop] using this
      have h2 : (xs.map (·.1))[i]? = some (DataW.lit (.string z.data.toList) : DataW H) := by simp [hb]
      rw [hxs] at h2
      simp only [List.getElem?_map, Option.map_eq_some_iff, DataW.lit.injEq, Lit.string.injEq] at h2
      obtain ⟨z', hz', rfl⟩ := h2
      simp [h1, hz']
    · rw [List.getElem?_eq_none (by omega), List.getElem?_eq_none (by simp; omega)]
  · cases h
end Bk
namespace Bk
open Go Go.RowKit Go.Proofs Go.Lib
theorem gSym4 : Tryz.prog.globalNamed "backstep/arith.symbols" = some 0 := by kernel_rfl
theorem gSymT4 : (Tryz.prog.globals[0]?).map (·.type) = some 120 := by kernel_rfl
theorem uSymT4 : Tryz.prog.underlying 120 = some (.array 43 9) := by kernel_rfl
theorem cSymT4 : Tryz.prog.cellsOf 120 = 43 := by kernel_rfl
theorem uStr4 : Tryz.prog.underlying 9 = some .string := by kernel_rfl
theorem cStr4 : Tryz.prog.cellsOf 9 = 1 := by kernel_rfl
theorem gErr4 : Tryz.prog.globalNamed "strconv.ErrRange" = some 3 := by kernel_rfl
theorem gErrT4 : (Tryz.prog.globals[3]?).map (·.type) = some 129 := by kernel_rfl
theorem uErr4 : ∃ ms, Tryz.prog.underlying 129 = some (.interface ms) := ⟨_, Tryz.underlying129⟩
theorem symData4 : (YtihgojmblldifaaGreatDoor.Rows.laid_backstep_arith_symbols : DataW Unit) = .agg (symbols.map fun z => .lit (.string z)) := rfl
abbrev laid4 : List (String × DataW Unit) := [("backstep/arith.symbols", YtihgojmblldifaaGreatDoor.Rows.laid_backstep_arith_symbols), ("math/bits.deBruijn32tab", YtihgojmblldifaaGreatDoor.Rows.laid_math_bits_deBruijn32tab), ("math/bits.deBruijn64tab", YtihgojmblldifaaGreatDoor.Rows.laid_math_bits_deBruijn64tab), ("internal/strconv.uint64pow10", YtihgojmblldifaaGreatDoor.Rows.laid_internal_strconv_uint64pow10), ("strconv.ErrRange", YtihgojmblldifaaGreatDoor.Rows.laid_strconv_ErrRange), ("strconv.ErrSyntax", YtihgojmblldifaaGreatDoor.Rows.laid_strconv_ErrSyntax)]
theorem syms_of_laid {W : World} (h : laidMetH Tryz.prog laid4 W) : Syms W ∧ Errs W := by
 have h' : laidMet Tryz.prog laid4 W := h
 obtain ⟨ps, ⟨g1, t1, cs1, f1, p1, q1, hg1, ht1, hv1, hd1, ⟨g2, t2, cs2, f2, p2, q2, hg2, ht2, hv2, hd2, ⟨g3, t3, cs3, f3, p3, q3, hg3, ht3, hv3, hd3, ⟨g4, t4, cs4, f4, p4, q4, hg4, ht4, hv4, hd4, ⟨g5, t5, cs5, f5, p5, q5, hg5, ht5, hv5, hd5, -, -⟩, -⟩, -⟩, -⟩, -⟩, -⟩ := h'
 obtain rfl := Option.some.inj (gSym4.symm.trans hg1)
 obtain rfl := Option.some.inj (gSymT4.symm.trans ht1)
 obtain rfl := Option.some.inj (gErr4.symm.trans hg5)
 obtain rfl := Option.some.inj (gErrT4.symm.trans ht5)
 rw [symData4] at hd1
 have e1 := cells_of_strs uSymT4 uStr4 cStr4 cSymT4 hd1
 refine ⟨⟨fun i hi => ?_⟩, ?_⟩
 · rw [World.var?_cell gSym4 hv1 i, ← Array.getElem?_toList, e1, List.getElem?_map]
   have : symbols[i]? = some (symbols.getD i []) := by
    rw [List.getD_eq_getElem?_getD, List.getElem?_eq_getElem (show i < symbols.length from hi)]; rfl
   rw [this]; rfl
 · obtain ⟨ms, hu⟩ := uErr4
   obtain ⟨f, u, v, hc, -, -⟩ := iface_of_trod hu hd5
   refine ⟨⟨u, v, ?_⟩⟩
   rw [World.var?_cell gErr4 hv5 0, ← Array.getElem?_toList, hc]
   rfl
end Bk
