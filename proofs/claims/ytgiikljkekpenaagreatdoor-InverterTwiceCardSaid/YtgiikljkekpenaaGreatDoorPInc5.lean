/- Texts that the proofs of InverterPrograms, InverterTwice need. No condition. (Part 5 of 7.) -/
import Derived.Test.YtgiikljkekpenaaGreatDoorPInc4
set_option linter.unusedSimpArgs false
set_option linter.unusedVariables false
namespace Bk
open Go Go.RowKit Go.Proofs
attribute [local irreducible] Go.Calls
theorem mS_drop {ts : List Tok} {σ σ' : PS} (h : Le ts σ σ') (k : Lt σ σ') (e : σ'.err = 0) : mS ts σ' + 1 ≤ mS ts σ := by
 have h1 := h.ok e; have h2 := k e; have h3 := h.wf
 unfold mS
 rw [if_pos e, if_pos h1]
 omega
set_option maxRecDepth 100000 in
set_option maxHeartbeats 2000000 in
theorem block_w (c : PC) (k : Nat) (IH : ∀ j, j ≤ k → StmtsC c j) (σ : PS) (w : World) (hP : PP c σ w) (hk : 4 * mS c.ts σ + 8 ≤ k + 1) :
 Calls Tryz.prog 80 #[.pointer (some ⟨c.pb, 0, none⟩)] w (TreeR c w (blockP c.ts c.n (k + 1) σ)) := by
 have X := Fr.refl (· = c.pb) w; have hpb := hP.pbB; have hB := hP.B; have hlen := hP.len; rw [blockP]; (try dsimp only); have l1 := expect_le (n := c.n) (t := [123]) hP.at_ (by decide); have m1 := mS_le l1
 have hmt : mS c.ts σ ≤ c.ts.length := by unfold mS; split <;> omega
 clear l1; refine calls_in Tryz.func80 Tryz.ntmps80 rfl rfl ?_
 focus
  refine cS ?_; (refine lw_alloc' [_, _, _, _] zOk rfl rfl ?_; intro b1 w2 n3); have h5 := n3.blk; have x6 := n3.ext; have p7 := n3.pos; have z8 := n3.size; clear n3; replace hP := hP.ext x6; replace X := X.ext x6; clear x6; refine cN (lw_pure (pur_build' [_, _, _, _] tabOk zOk rfl rfl rfl rfl) rfl ?_); (refine lw_alloc' [_, _, _, _] zOk rfl rfl ?_; intro b9 w10 n11); (refine lw_init' [_, _, _, _] tabOk rfl rfl rfl rfl rfl rfl n11 rfl ?_; clear n11; clear w10; intro w12 n11); have h13 := n11.blk; have x14 := n11.ext; have p15 := n11.pos; have z16 := n11.size; clear n11; replace h5 := h5.ext x14; replace hP := hP.ext x14; replace X := X.ext x14; clear x14; refine cN (cM rfl rfl ?_); refine cC (by kernel_rfl) rfl (expect_c _ _ _ _ (by assumption) (by decide)) rfl ?_; rintro _ w19 ⟨⟨⟩, ⟨h17, f18⟩⟩; have z20 := f18.size; replace h13 := h13.fr f18 (by omega); replace h5 := h5.fr f18 (by omega); clear hP; replace X := X.fr f18 (by omega); clear f18; refine cT (cw_seq (cw_block ?_)); rotate_left 1
 generalize expectP c.ts c.n σ [123] = ρ at *
 refine cw_loop (ι := Nat × List Nd × Option Addr × Nat × PS) (fun _ => [(0, .pointer (some ⟨c.pb, 0, none⟩)), (2, .pointer (some ⟨b1, 0, none⟩)), (3, .pointer (some ⟨b9, 0, none⟩))])
  (fun x w' => PP c x.2.2.2.2 w' ∧ Blk w' b9 [.int .u8 57, .int .i64 0, str [], .slice x.2.2.1 x.2.1.length x.2.2.2.1] ∧ OwnL ndShape w' (b9 + 1) 24 (.slice x.2.2.1 x.2.1.length x.2.2.2.1) x.2.1 ∧
   Blk w' b1 [.int .u8 0, .int .i64 0, .string ⟨#[]⟩, .slice none 0 0] ∧ Fr (· = c.pb) w w' ∧ w19.heap.size ≤ w'.heap.size ∧
   stmtsP c.ts c.n k [] ρ = stmtsP c.ts c.n x.1 x.2.1 x.2.2.2.2 ∧ (x.2.2.2.2.err = 0 → 4 * mS c.ts x.2.2.2.2 + 7 ≤ x.1) ∧ 1 ≤ x.1 ∧ x.1 ≤ k ∧ (x.2.2.2.2.err = 0 → x.2.1.length + mS c.ts x.2.2.2.2 ≤ 1000001)) (fun x => x.1) (k, [], none, 0, ρ) (by (refine sub_cons rfl ?_; refine sub_cons rfl ?_; refine sub_cons rfl ?_; exact sub_nil))
  ⟨h17, h13, OwnL.nil, h5, X, Nat.le_refl _, rfl, fun _ => by simp only; omega, by simp only; omega, Nat.le_refl _, fun _ => by simp only [List.length_nil]; omega⟩ ?_
 rintro ⟨j, acc, a, cap, σ'⟩ w1 ⟨hP, hbn, hown, hbr, X, hz, he, hfj, hj1, hjk, hacc⟩; simp only at hP hbn hown he hfj hj1 hjk hacc; clear h13 h5 h17; rw [he]; obtain ⟨j, rfl⟩ : ∃ i, j = i + 1 := ⟨j - 1, by omega⟩
 have hob : ∀ g, (Value.slice a acc.length cap).ownBlock = some g → g < w1.heap.size := fun g h => hown.lt h
 by_cases h0 : σ'.err = 0
 case neg =>
  rw [show stmtsP c.ts c.n (j + 1) acc σ' = (acc, σ') from by rw [stmtsP]; simp [h0]]
  focus
   refine cw_seq (cS (cM rfl rfl (lw_pure (pur_nilCheck rfl) rfl (lw_pure (pur_fieldAddr tabOk rfl rfl rfl) rfl (lw_load_b tabOk rfl rfl rfl (PP.blk hP) rfl rfl (lw_pure (pur_eql rfl rfl) rfl (cM rfl rfl ?_))))))); refine lw_off rfl rfl rfl (gd_tf (by assumption)) rfl ?_; refine lw_off rfl rfl rfl (gd_tf (by assumption)) rfl ?_; refine lw_off rfl rfl rfl (gd_tf (by assumption)) rfl ?_; refine lw_pure (pur_pick_no rfl rfl (by assumption)) rfl ?_; refine cT (cw_cond_f rfl (cw_exit (qw_then_exit (qw_then_exit (qw_block_exit (qw_then (cS (lw_loads_b' [_, _, _, _] tabOk rfl rfl rfl hbn rfl rfl rfl ?_)))))))); (refine lw_store' [_, _, _, _] [_, _, _, _] tabOk rfl rfl rfl rfl rfl rfl hbr rfl rfl ?_; intro wa1 na2); have ha5 := na2.blk; have fa3 := na2.fr; have za4 := na2.size; clear na2 hbr; replace hP := hP.fr fa3 (by omega); replace hbn := hbn.fr fa3 (by omega); replace hown := hown.fr fa3 (by omega); replace X := X.fr fa3 (by omega); clear fa3; refine cT (cw_ret (qw_retc rfl tabOk rfl rfl rfl ha5 rfl ?_)); rotate_left 1
  exact tree_ret (sits_mk (hown.sits (fun b h => by omega))) (by assumption) X
 cases hc : hasP c.ts σ' [125]
 case true =>
  rw [show stmtsP c.ts c.n (j + 1) acc σ' = (acc, nextP σ') from by rw [stmtsP]; simp [h0, hc]]
  focus
   refine cw_seq (cS (cM rfl rfl (lw_pure (pur_nilCheck rfl) rfl (lw_pure (pur_fieldAddr tabOk rfl rfl rfl) rfl (lw_load_b tabOk rfl rfl rfl (PP.blk hP) rfl rfl (lw_pure (pur_eql rfl rfl) rfl (cM rfl rfl ?_))))))); refine lw_on rfl rfl rfl (gd_tt (by assumption)) ?_; refine cM rfl rfl ?_; refine lw_on rfl rfl rfl (gd_tt (by assumption)) ?_; refine cC (by kernel_rfl) rfl (accept_t _ _ _ _ (by assumption) (by decide) (by assumption)) rfl ?_; rintro _ wb3 ⟨⟨⟩, ⟨hb1, fb2⟩⟩; have zb4 := fb2.size; clear hP; replace hbn := hbn.fr fb2 (by omega); replace hown := hown.fr fb2 (by omega); replace hbr := hbr.fr fb2 (by omega); replace X := X.fr fb2 (by omega); clear fb2; refine lw_on rfl rfl rfl (gd_tt (by assumption)) ?_; refine lw_pure (pur_not rfl) rfl ?_; refine lw_pure (pur_pick_yes rfl rfl (by assumption)) rfl ?_; refine cT (cw_cond_f rfl (cw_exit (qw_then_exit (qw_then_exit (qw_block_exit (qw_then (cS (lw_loads_b' [_, _, _, _] tabOk rfl rfl rfl hbn rfl rfl rfl ?_)))))))); (refine lw_store' [_, _, _, _] [_, _, _, _] tabOk rfl rfl rfl rfl rfl rfl hbr rfl rfl ?_; intro wb5 nb6); have hb9 := nb6.blk; have fb7 := nb6.fr; have zb8 := nb6.size; clear nb6 hbr; replace hb1 := hb1.fr fb7 (by omega); replace hbn := hbn.fr fb7 (by omega); replace hown := hown.fr fb7 (by omega); replace X := X.fr fb7 (by omega); clear fb7; refine cT (cw_ret (qw_retc rfl tabOk rfl rfl rfl hb9 rfl ?_)); rotate_left 1
  exact tree_ret (sits_mk (hown.sits (fun b h => by omega))) (by assumption) X
 rw [show stmtsP c.ts c.n (j + 1) acc σ' = stmtsP c.ts c.n j (acc ++ [(stmtP c.ts c.n j σ').1]) (expectP c.ts c.n (stmtP c.ts c.n j σ').2 [59]) from by rw [stmtsP]; simp [h0, hc]]; have l1 := (stmt_inv (ts := c.ts) (n := c.n) j).1 σ' hP.at_; have l2 := expect_le (n := c.n) (t := [59]) l1.wf (by decide); have hlt : Lt σ' (expectP c.ts c.n (stmtP c.ts c.n j σ').2 [59]) := Lt.of_le l1 expect_lt; have hdrop := mS_drop (l1.trans l2) hlt; have hmv := mS_lt (l1.trans l2) hlt; have hacc0 := hacc h0; have hfj0 := hfj h0; clear l1 l2
 focus
  refine cw_seq (cS (cM rfl rfl (lw_pure (pur_nilCheck rfl) rfl (lw_pure (pur_fieldAddr tabOk rfl rfl rfl) rfl (lw_load_b tabOk rfl rfl rfl (PP.blk hP) rfl rfl (lw_pure (pur_eql rfl rfl) rfl (cM rfl rfl ?_))))))); refine lw_on rfl rfl rfl (gd_tt (by assumption)) ?_; refine cM rfl rfl ?_; refine lw_on rfl rfl rfl (gd_tt (by assumption)) ?_; refine cC (by kernel_rfl) rfl (accept_f _ _ _ _ (by assumption) (by decide) (by assumption)) rfl ?_; rintro _ wc3 ⟨⟨⟩, ⟨hc1, fc2⟩⟩; have zc4 := fc2.size; clear hP; replace hbn := hbn.fr fc2 (by omega); replace hown := hown.fr fc2 (by omega); replace hbr := hbr.fr fc2 (by omega); replace X := X.fr fc2 (by omega); clear fc2; refine lw_on rfl rfl rfl (gd_tt (by assumption)) ?_; refine lw_pure (pur_not rfl) rfl ?_; refine lw_pure (pur_pick_yes rfl rfl (by assumption)) rfl ?_; refine cT (cw_cond_t rfl (cw_skip (qw_then (cw_block (cw_seq ?_))))); (refine cw_tdraw (fun wz => Fr (· = c.pb) wc3 wz) 5 (.pure 0 (.pure 1 (.pure 2 (.fork 3 (.fork 4 .tail .none) .none)))) mixed (by kernel_rfl) (panicOk_then (panicOk_block (panicOk_then (panicOk_block (panicOk_then panicOk_body))))) ?_; intro wc5 xc6 _); have qsc7 : (fun wz => Fr (· = c.pb) wc3 wz) wc5 := Fr.of_ext xc6; simp only at qsc7; have d_hc1 := hc1; have d_hbn := hbn; have d_hown := hown; have d_hbr := hbr; have zc8 := xc6.size; replace hc1 := hc1.ext xc6; replace hbn := hbn.ext xc6; replace hown := hown.ext xc6; replace hbr := hbr.ext xc6; replace X := X.ext xc6; clear xc6; refine ⟨qsc7, ?_⟩; refine tw_pure rfl (pur_fieldAddr tabOk rfl rfl rfl) rfl ?_
  refine tw_pure rfl (pur_load tabOk rfl rfl rfl (fun wz hz => Blk.cell (Blk.fr d_hbn hz (by omega)) rfl)) rfl ?_; refine tw_pure rfl (pur_move rfl) rfl ?_; refine tw_does rfl (does_call (by kernel_rfl) rfl ((IH j (by omega)).stmt _ _ (by assumption) (by omega)) (fun _ _ h => h.ret)) rfl ?_ (fun _ h => h) tw_none; rintro _ wc14 ⟨ac9, ⟨kc10, ⟨⟨⟩, ⟨hc11, ⟨hc12, fc13⟩⟩⟩⟩⟩; have zc15 := fc13.size; replace qsc7 := qsc7.fr fc13 (by omega); clear hc1; replace hbn := hbn.fr fc13 (by omega); replace hown := hown.fr fc13 (by omega); replace hbr := hbr.fr fc13 (by omega); replace X := X.fr fc13 (by omega); clear fc13; refine ⟨qsc7, ?_⟩; (refine tw_does rfl (does_slice' [_, _, _, _] tabOk zOk rfl rfl rfl rfl rfl rfl rfl rfl rfl) rfl ?_ (fun _ h => h) tw_none; rintro _ wc17 ⟨bc16, rfl, nc18, tc19⟩); clear tc19; have hc20 := nc18.blk; have xc21 := nc18.ext; have pc22 := nc18.pos; have zc23 := nc18.size; clear nc18; replace hc11 := Nd.sits.ext hc11 xc21; replace hc12 := hc12.ext xc21; replace qsc7 := qsc7.ext xc21; replace hbn := hbn.ext xc21; replace hown := hown.ext xc21; replace hbr := hbr.ext xc21; replace X := X.ext xc21; clear xc21; refine ⟨qsc7, ?_⟩; clear d_hc1 d_hbn d_hown d_hbr qsc7; refine tw_tail rfl ?_; refine lw_appendL (sh := ndShape) tabOk zOk rfl rfl rfl rfl (by kernel_rfl) rfl rfl rfl hown (Blk.row (by assumption)) ⟨_, _, rfl, Nd.sits.wide (by assumption) (fun b h => ⟨by omega, fun e => by have := hob _ e; omega⟩)⟩ (by omega) (by omega) rfl ?_; rintro gc24 cap'c25 wc26 hc27 fc28
  have zc29 := fc28.size; clear hc20 hc11; replace hc12 := hc12.fr fc28 (by omega); replace hbn := hbn.fr fc28 (by omega); clear hown; replace hbr := hbr.fr fc28 (by omega); replace X := X.fr fc28 (by omega); clear fc28; refine lw_pure (pur_fieldAddr tabOk rfl rfl rfl) rfl ?_; (refine lw_store' [_] [_, _, _, _] tabOk rfl rfl rfl rfl rfl rfl hbn rfl rfl ?_; intro wc30 nc31); have hc34 := nc31.blk; have fc32 := nc31.fr; have zc33 := nc31.size; clear nc31 hbn; replace hc27 := hc27.fr fc32 (by omega); replace hc12 := hc12.fr fc32 (by omega); replace hbr := hbr.fr fc32 (by omega); replace X := X.fr fc32 (by omega); clear fc32; refine cT (cw_region (cM rfl rfl ?_)); refine cC (by kernel_rfl) rfl (expect_c _ _ _ _ (by assumption) (by decide)) rfl ?_; rintro _ wc37 ⟨⟨⟩, ⟨hc35, fc36⟩⟩; have zc38 := fc36.size; replace hc34 := hc34.fr fc36 (by omega); replace hc27 := hc27.fr fc36 (by omega); clear hc12; replace hbr := hbr.fr fc36 (by omega); replace X := X.fr fc36 (by omega); clear fc36; refine lw_nil (qw_block_norm ?_); rotate_left 1
 refine qw_round (j, acc ++ [(stmtP c.ts c.n j σ').1], some ⟨_, 0, none⟩, _, expectP c.ts c.n (stmtP c.ts c.n j σ').2 [59]) (by (refine sub_cons rfl ?_; refine sub_cons rfl ?_; refine sub_cons rfl ?_; exact sub_nil)) ⟨by assumption, by assumption, by assumption, by assumption, X, by omega, rfl, fun e => by have := hdrop e; simp only; omega, by simp only; omega, by simp only; omega, fun e => ?_⟩ (by simp); have := hdrop e; simp only [List.length_append, List.length_cons, List.length_nil]
 omega
theorem stmts_c (c : PC) (k : Nat) : StmtsC c k := by
 induction k using Nat.strongRecOn with
 | _ k ih =>
  cases k with
  | zero => exact ⟨fun _ _ _ h => by omega, fun _ _ _ _ _ _ _ _ _ h => by omega, fun _ _ _ _ h => by omega, fun _ _ _ h => by omega⟩
  | succ k =>
   have IH : ∀ j, j ≤ k → StmtsC c j := fun j hj => ih j (by omega)
   exact ⟨stmt_w c k IH, branches_w c k IH, local_w c k IH, block_w c k IH⟩
end Bk
namespace Bk
open Go Go.RowKit Go.Proofs
attribute [local irreducible] Go.Calls
theorem rowDepth_snoc (l : List Nd) (x : Nd) : rowDepth (l ++ [x]) = max (rowDepth l) x.depth := by
 induction l with
 | nil => simp only [List.nil_append, rowDepth]; omega
 | cons y r ih => simp only [List.cons_append, rowDepth, ih]; omega
mutual
theorem depth_le : ∀ t : Nd, 1 ≤ t.depth ∧ t.depth ≤ t.size
 | .mk _ _ _ l => by
  have := rowDepth_le l
  simp only [Nd.depth, Nd.size]; omega
theorem rowDepth_le : ∀ l : List Nd, 0 ≤ rowDepth l ∧ rowDepth l ≤ rowSize l
 | [] => by simp [rowDepth, rowSize]
 | t :: r => by
  have h1 := depth_le t; have h2 := rowDepth_le r
  simp only [rowDepth, rowSize]; omega
end
theorem rowSize_snoc (l : List Nd) (x : Nd) : rowSize (l ++ [x]) = rowSize l + x.size := by
 induction l with
 | nil => simp [rowSize]
 | cons y r ih => simp only [List.cons_append, rowSize, ih]; omega
theorem rowSize_take (l : List Nd) (j : Nat) : rowSize (l.take j) ≤ rowSize l := by
 induction l generalizing j with
 | nil => simp
 | cons x r ih =>
  cases j with
  | zero => simp [rowSize]
  | succ j => simp only [List.take_succ_cons, rowSize]; have := ih j; omega
theorem length_rowSize (l : List Nd) : l.length ≤ rowSize l := by
 induction l with
 | nil => simp [rowSize]
 | cons x r ih => have := Nd.size_pos x; simp only [rowSize, List.length_cons]; omega
set_option maxRecDepth 100000 in
set_option maxHeartbeats 1000000 in
theorem Depth_c (N : Nat) : ∀ (t : Nd) (S : Nat → Prop) (a : Option Addr) (c : Nat) (w : World), t.size < N → t.size ≤ 1000000000 → t.sits S w a →
 Calls Tryz.prog 81 #[t.val a c] w fun e w' => e = .returned (.int .i64 t.depth) ∧ Ext w w' := by
 induction N with
 | zero => intro t S a c w h; omega
 | succ N ih =>
  rintro ⟨k, n, s, l⟩ S a c w hN hM hs
  have IH := Lib.hid ih; clear ih
  simp only [Nd.sits] at hs; simp only [Nd.size] at hN hM; have X := Ext.refl w; have hl := length_rowSize l; rw [show (Nd.mk k n s l).depth = rowDepth l + 1 from by simp only [Nd.depth]]; refine calls_in Tryz.func81 Tryz.ntmps81 rfl rfl ?_
  focus
   refine cS ?_; (refine lw_box' [_, _, _, _] rfl rfl rfl ?_; intro b1 w2 n3); have h4 := n3.blk; have x5 := n3.ext; have p6 := n3.pos; have z7 := n3.size; clear n3; replace hs := Bk.rowSits.ext hs x5; replace X := X.ext x5; clear x5; refine cA rfl rfl (cN (cA rfl rfl (cT (cw_seq (cS (lw_pure (pur_fieldAddr tabOk rfl rfl rfl) rfl (lw_load_b tabOk rfl rfl rfl h4 rfl rfl (lw_pure (pur_len_slice tabOk rfl rfl) rfl (cM rfl rfl (cT (cw_block ?_))))))))))); rotate_left 1
  refine cw_loop (ι := Nat) (fun j => [(9, .int .i64 j), (8, .int .i64 l.length), (7, .slice a l.length c), (3, .int .i64 (rowDepth (l.take j)))]) (fun j w' => rowSits S w' l a ∧ Ext w w' ∧ j ≤ l.length) (fun j => l.length - j) 0 (by (refine sub_cons rfl ?_; refine sub_cons rfl ?_; refine sub_cons rfl ?_; refine sub_cons rfl ?_; exact sub_nil)) ⟨hs, X, Nat.zero_le _⟩ ?_; rintro j w1 ⟨hs, X, hj⟩; clear h4
  by_cases hlt : j < l.length
  · obtain ⟨kb, ko, rfl, hkS, hkid⟩ := kidRows hs (by intro e; subst e; simp at hlt)
    obtain ⟨xa, xc, rx, sx⟩ := hkid j l[j] (List.getElem?_eq_getElem hlt); have hsz := size_mem (List.getElem_mem hlt)
    have ht : l.take (j + 1) = l.take j ++ [l[j]] := by rw [List.take_add_one, List.getElem?_eq_getElem hlt]; rfl
    have hb0 := rowDepth_le (l.take j); have hb1 := rowSize_take l j; have hb2 := rowSize_take l (j + 1); have hb3 := depth_le l[j]; rw [ht, rowSize_snoc] at hb2; clear hkid
    generalize l[j] = x at *
    focus
     refine cS (lw_pure (pur_lss rfl rfl) rfl (cT (cw_seq ?_))); refine cw_yes rfl (by omega) ?_; refine cw_skip (qw_then (cw_seq (cw_block (cS ?_)))); refine lw_pure (pur_indexAddr tabOk rfl rfl rfl rfl (by omega) (by omega)) rfl ?_; refine lw_loads_r0 tabOk rfl rfl rfl rx rfl rfl ?_; (refine lw_alloc' [_, _, _, _] zOk rfl rfl ?_; intro ba1 wa2 na3); (refine lw_init' [_, _, _, _] tabOk rfl rfl rfl rfl rfl rfl na3 rfl ?_; clear na3; clear wa2; intro wa4 na3); have ha5 := na3.blk; have xa6 := na3.ext; have pa7 := na3.pos; have za8 := na3.size; clear na3; replace X := X.ext xa6; replace hs := Bk.rowSits.ext hs xa6; replace rx := rx.ext xa6; replace sx := Nd.sits.ext sx xa6; clear xa6; refine cT (cw_region (cM rfl rfl (lw_loads_b' [_, _, _, _] tabOk rfl rfl rfl ha5 rfl rfl rfl ?_))); refine cC (by kernel_rfl) rfl (IH.out _ S _ _ _ (by omega) (by omega) (by assumption)) rfl ?_; rintro _ wa10 ⟨⟨⟩, xa9⟩; have za11 := xa9.size; replace ha5 := ha5.ext xa9; replace X := X.ext xa9; replace hs := Bk.rowSits.ext hs xa9; replace rx := rx.ext xa9; replace sx := Nd.sits.ext sx xa9; clear xa9; refine lw_pure (pur_max rfl rfl rfl) rfl (cA rfl rfl (lw_nil (qw_block_norm (qw_then (cw_region ?_))))); refine lw_pure (pur_add rfl rfl (IntWalk.i64_in _ (by omega))) rfl ?_; refine cM rfl rfl (lw_nil ?_); rotate_left 1
    refine qw_round (j + 1) ?_ ⟨hs, X, by omega⟩ (by omega); refine sub_cons rfl (sub_cons rfl (sub_cons rfl (sub_cons' rfl ?_ sub_nil))); rw [ht, rowDepth_snoc]
  · have : j = l.length := by omega
    subst this; have hb0 := rowDepth_le l; rw [List.take_length]
    focus
     refine cS (lw_pure (pur_lss rfl rfl) rfl (cT (cw_seq ?_))); refine cw_no rfl (by omega) ?_; refine cw_exit (qw_then_exit (qw_then_exit (qw_block_exit (qw_then (cS (cM rfl rfl ?_)))))); refine lw_pure (pur_add rfl rfl (IntWalk.i64_in _ (by omega))) rfl ?_; refine cA rfl rfl (cT (cw_ret (qw_ret1 rfl rfl ?_))); rotate_left 1
    exact ⟨rfl, X⟩
set_option maxRecDepth 100000 in
set_option maxHeartbeats 1000000 in
theorem Size_c (N : Nat) : ∀ (t : Nd) (S : Nat → Prop) (a : Option Addr) (c : Nat) (w : World), t.size < N → t.size ≤ 1000000000 → t.sits S w a →
 Calls Tryz.prog 82 #[t.val a c] w fun e w' => e = .returned (.int .i64 t.size) ∧ Ext w w' := by
 induction N with
 | zero => intro t S a c w h; omega
 | succ N ih =>
  rintro ⟨k, n, s, l⟩ S a c w hN hM hs
  have IH := Lib.hid ih; clear ih
  simp only [Nd.sits] at hs; simp only [Nd.size] at hN hM; have X := Ext.refl w; have hl := length_rowSize l; rw [show ((Nd.mk k n s l).size : Int) = ((rowSize l : Nat) : Int) + 1 from by simp only [Nd.size]; omega]; refine calls_in Tryz.func82 Tryz.ntmps82 rfl rfl ?_
  focus
   refine cS ?_; (refine lw_box' [_, _, _, _] rfl rfl rfl ?_; intro b1 w2 n3); have h4 := n3.blk; have x5 := n3.ext; have p6 := n3.pos; have z7 := n3.size; clear n3; replace hs := Bk.rowSits.ext hs x5; replace X := X.ext x5; clear x5; refine cA rfl rfl (cN (cA rfl rfl (cT (cw_seq (cS (lw_pure (pur_fieldAddr tabOk rfl rfl rfl) rfl (lw_load_b tabOk rfl rfl rfl h4 rfl rfl (lw_pure (pur_len_slice tabOk rfl rfl) rfl (cM rfl rfl (cT (cw_block ?_))))))))))); rotate_left 1
  refine cw_loop (ι := Nat) (fun j => [(9, .int .i64 j), (8, .int .i64 l.length), (7, .slice a l.length c), (3, .int .i64 (((rowSize (l.take j) : Nat) : Int) + 1))]) (fun j w' => rowSits S w' l a ∧ Ext w w' ∧ j ≤ l.length) (fun j => l.length - j) 0 (by (refine sub_cons rfl ?_; refine sub_cons rfl ?_; refine sub_cons rfl ?_; refine sub_cons rfl ?_; exact sub_nil)) ⟨hs, X, Nat.zero_le _⟩ ?_; rintro j w1 ⟨hs, X, hj⟩; clear h4
  by_cases hlt : j < l.length
  · obtain ⟨kb, ko, rfl, hkS, hkid⟩ := kidRows hs (by intro e; subst e; simp at hlt)
    obtain ⟨xa, xc, rx, sx⟩ := hkid j l[j] (List.getElem?_eq_getElem hlt); have hsz := size_mem (List.getElem_mem hlt)
    have ht : l.take (j + 1) = l.take j ++ [l[j]] := by rw [List.take_add_one, List.getElem?_eq_getElem hlt]; rfl
    have hb0 := rowDepth_le (l.take j); have hb1 := rowSize_take l j; have hb2 := rowSize_take l (j + 1); have hb3 := depth_le l[j]; rw [ht, rowSize_snoc] at hb2; clear hkid
    generalize l[j] = x at *
    focus
     refine cS (lw_pure (pur_lss rfl rfl) rfl (cT (cw_seq ?_))); refine cw_yes rfl (by omega) ?_; refine cw_skip (qw_then (cw_seq (cw_block (cS ?_)))); refine lw_pure (pur_indexAddr tabOk rfl rfl rfl rfl (by omega) (by omega)) rfl ?_; refine lw_loads_r0 tabOk rfl rfl rfl rx rfl rfl ?_; (refine lw_alloc' [_, _, _, _] zOk rfl rfl ?_; intro ba1 wa2 na3); (refine lw_init' [_, _, _, _] tabOk rfl rfl rfl rfl rfl rfl na3 rfl ?_; clear na3; clear wa2; intro wa4 na3); have ha5 := na3.blk; have xa6 := na3.ext; have pa7 := na3.pos; have za8 := na3.size; clear na3; replace X := X.ext xa6; replace hs := Bk.rowSits.ext hs xa6; replace rx := rx.ext xa6; replace sx := Nd.sits.ext sx xa6; clear xa6; refine cT (cw_region (cM rfl rfl (lw_loads_b' [_, _, _, _] tabOk rfl rfl rfl ha5 rfl rfl rfl ?_))); refine cC (by kernel_rfl) rfl (IH.out _ S _ _ _ (by omega) (by omega) (by assumption)) rfl ?_; rintro _ wa10 ⟨⟨⟩, xa9⟩; have za11 := xa9.size; replace ha5 := ha5.ext xa9; replace X := X.ext xa9; replace hs := Bk.rowSits.ext hs xa9; replace rx := rx.ext xa9; replace sx := Nd.sits.ext sx xa9; clear xa9; refine lw_pure (pur_add rfl rfl (IntWalk.i64_in _ (by omega))) rfl ?_; refine cA rfl rfl (lw_nil (qw_block_norm (qw_then (cw_region ?_)))); refine lw_pure (pur_add rfl rfl (IntWalk.i64_in _ (by omega))) rfl ?_; refine cM rfl rfl (lw_nil ?_); rotate_left 1
    refine qw_round (j + 1) ?_ ⟨hs, X, by omega⟩ (by omega); refine sub_cons rfl (sub_cons rfl (sub_cons rfl (sub_cons' rfl ?_ sub_nil))); rw [ht, rowSize_snoc]
    congr 1; omega
  · have : j = l.length := by omega
    subst this; have hb0 := rowDepth_le l; rw [List.take_length]
    focus
     refine cS (lw_pure (pur_lss rfl rfl) rfl (cT (cw_seq ?_))); refine cw_no rfl (by omega) ?_; refine cw_exit (qw_then_exit (qw_then_exit (qw_block_exit (qw_then (cS (cM rfl rfl (cA rfl rfl (cT (cw_ret (qw_ret1 rfl rfl ?_)))))))))); rotate_left 1
    exact ⟨rfl, X⟩
end Bk
namespace Bk
section
variable {ts : List Tok} {n : Int}
theorem next_at (σ : PS) : (nextP σ).at_ = σ.at_ + 1 := rfl
theorem expr_size (k : Nat) : (∀ lv σ, σ.at_ ≤ ts.length → (exprP ts n k lv σ).1.size + 8 * σ.at_ ≤ 8 * (exprP ts n k lv σ).2.at_ + 1) ∧ (∀ lv x σ, σ.at_ ≤ ts.length → (climbP ts n k lv x σ).1.size + 8 * σ.at_ ≤ 8 * (climbP ts n k lv x σ).2.at_ + x.size) ∧
 (∀ σ, σ.at_ ≤ ts.length → (unaryP ts n k σ).1.size + 8 * σ.at_ ≤ 8 * (unaryP ts n k σ).2.at_ + 1) ∧ (∀ σ, σ.at_ ≤ ts.length → (primaryP ts n k σ).1.size + 8 * σ.at_ ≤ 8 * (primaryP ts n k σ).2.at_ + 1) ∧
 (∀ σ, σ.at_ ≤ ts.length → (placeP ts n k σ).1.size + 8 * σ.at_ ≤ 8 * (placeP ts n k σ).2.at_ + 1) := by
 induction k with
 | zero =>
  refine ⟨fun lv σ h => ?_, fun lv x σ h => ?_, fun σ h => ?_, fun σ h => ?_, fun σ h => ?_⟩
  · rw [exprP]; simp [Nd.size, rowSize]; omega
  · rw [climbP]; simp; omega
  · rw [unaryP]; simp [Nd.size, rowSize]; omega
  · rw [primaryP]; simp [Nd.size, rowSize]; omega
  · rw [placeP]; simp [Nd.size, rowSize]; omega
 | succ k ih =>
  obtain ⟨iE, iC, iU, iP, iL⟩ := ih; obtain ⟨lE, lC, lU, lP, lL⟩ := expr_inv (ts := ts) (n := n) k; refine ⟨fun lv σ h => ?_, fun lv x σ h => ?_, fun σ h => ?_, fun σ h => ?_, fun σ h => ?_⟩
  · rw [exprP]
    have h1 := iU σ h; have h2 := iC lv (unaryP ts n k σ).1 (unaryP ts n k σ).2 (lU σ h).1.wf
    omega
  · rw [climbP]
    split
    · simp; omega
    · rename_i op hop
      obtain ⟨hne, -⟩ := binOf_ne hop; have hn := next_le (peek_in h (Or.inl hne))
      split
      · simp; omega
      · have h1 := iE (level op + 1) (nextP σ) hn.wf
        have h2 := iC lv (.mk op 0 [] [x, (exprP ts n k (level op + 1) (nextP σ)).1]) (exprP ts n k (level op + 1) (nextP σ)).2 (lE (level op + 1) (nextP σ) hn.wf).1.wf; have h3 := (lE (level op + 1) (nextP σ) hn.wf).1.le; rw [next_at] at h1 h3; simp only [Nd.size, rowSize] at h2
        omega
  · rw [unaryP]
    split
    · rename_i hh
      have hn := next_le (has_in h hh (by decide)); have h1 := iU (nextP σ) hn.wf; rw [next_at] at h1
      simp only [Nd.size, rowSize]; omega
    · split
      · rename_i hh
        have hn := next_le (has_in h hh (by decide)); have h1 := iU (nextP σ) hn.wf; rw [next_at] at h1
        simp only [Nd.size, rowSize]; omega
      · exact iP σ h
  · rw [primaryP]
    split
    · have := (number_le (n := n) (a := 0) (b := 9223372036854775807) h).le
      simp only [Nd.size, rowSize]; omega
    · split
      · rename_i hh
        have h1 := next_le (has_in h hh (by decide)); have h2 := h1.trans (expect_le (n := n) (t := [40]) h1.wf (by decide)); have h3 := h2.trans (name_le (n := n) h2.wf); have h4 := (h3.trans (expect_le (n := n) (t := [41]) h3.wf (by decide))).le
        simp only [Nd.size, rowSize]; omega
      · split
        · rename_i hh
          have h1 := next_le (has_in h hh (by decide)); have h2 := h1.trans (expect_le (n := n) (t := [40]) h1.wf (by decide)); have h3 := h2.trans (name_le (n := n) h2.wf); have h4 := (h3.trans (expect_le (n := n) (t := [41]) h3.wf (by decide))).le
          simp only [Nd.size, rowSize]; omega
        · split
          · rename_i hh
            have hn := next_le (has_in h hh (by decide)); have h1 := iE 1 (nextP σ) hn.wf; have h2 := (expect_le (n := n) (t := [41]) (lE 1 (nextP σ) hn.wf).1.wf (by decide)).le; rw [next_at] at h1
            simp only; omega
          · exact iL σ h
  · rw [placeP]
    have h0 := name_le (n := n) h; have h0' := h0.le
    split
    · rename_i hh
      have hn := next_le (has_in h0.wf hh (by decide)); have h1 := iE 1 (nextP (nameP ts n σ).2) hn.wf; have h2 := (expect_le (n := n) (t := [93]) (lE 1 _ hn.wf).1.wf (by decide)).le; rw [next_at] at h1
      simp only [Nd.size, rowSize]; omega
    · simp only [Nd.size, rowSize]; omega
theorem rowSize_append (l m : List Nd) : rowSize (l ++ m) = rowSize l + rowSize m := by
 induction l with
 | nil => simp [rowSize]
 | cons x r ih => simp only [List.cons_append, rowSize, ih]; omega
theorem arg_size (σ : PS) : (argP ts n σ).1.size = 1 := rfl
theorem args_size : ∀ (k : Nat) (acc : List Nd) (σ : PS), σ.at_ ≤ ts.length → rowSize (argsP ts n k acc σ).1 + 8 * σ.at_ ≤ 8 * (argsP ts n k acc σ).2.at_ + rowSize acc
 | 0, acc, σ, h => by rw [argsP]; simp; omega
 | k + 1, acc, σ, h => by
  rw [argsP]
  split
  · rename_i hh
    have h1 := next_le (has_in h hh (by decide))
    generalize hS : (if acc.length = 8 ∧ isName (peekP ts (nextP σ)).text = true then failP (nextP σ) (peekP ts (nextP σ)).pos 5 else nextP σ) = ρ
    have h2 : Le ts (nextP σ) ρ := by
     rw [← hS]
     split
     · exact fail_le h1.wf _ _
     · exact Le.refl h1.wf
    have h3 := name_le (n := n) h2.wf; have h4 := args_size k (acc ++ [(argP ts n ρ).1]) (argP ts n ρ).2 h3.wf; rw [rowSize_append] at h4
    have h5 : (argP ts n ρ).2.at_ ≥ σ.at_ + 1 := by
     have e1 := h2.le; have e2 := h3.le
     rw [next_at] at e1
     show (nameP ts n ρ).2.at_ ≥ σ.at_ + 1
     omega
    simp only [rowSize, arg_size] at h4
    omega
  · simp; omega
theorem call_size {k : Nat} {kind : Int} {σ : PS} (hn : In ts σ) : (callP ts n k kind σ).1.size + 8 * σ.at_ ≤ 8 * (callP ts n k kind σ).2.at_ + 1 := by
 unfold callP
 dsimp only; have h1 := next_le hn; have h2 := h1.trans (name_le (n := n) h1.wf); have h3 := h2.trans (expect_le (n := n) (t := [40]) h2.wf (by decide)); have e1 := (name_le (n := n) h1.wf).le; have e2 := (expect_le (n := n) (t := [40]) h2.wf (by decide)).le; rw [next_at] at e1
 split
 · have := next_at (expectP ts n (nameP ts n (nextP σ)).2 [40])
   simp only [Nd.size, rowSize]; omega
 · have h4 := name_le (n := n) h3.wf
   have e3 := h4.le; have h5 := args_size (ts := ts) (n := n) k [(argP ts n (expectP ts n (nameP ts n (nextP σ)).2 [40])).1] (argP ts n (expectP ts n (nameP ts n (nextP σ)).2 [40])).2 h4.wf; have h6 := args_le (n := n) k [(argP ts n (expectP ts n (nameP ts n (nextP σ)).2 [40])).1] (argP ts n (expectP ts n (nameP ts n (nextP σ)).2 [40])).2 h4.wf; have e4 := (expect_le (n := n) (t := [41]) h6.wf (by decide)).le; have e5 : (argP ts n (expectP ts n (nameP ts n (nextP σ)).2 [40])).2.at_ ≥ (expectP ts n (nameP ts n (nextP σ)).2 [40]).at_ := e3; simp only [rowSize, arg_size] at h5
   simp only [Nd.size]; omega
theorem place_size {k : Nat} {σ : PS} (h : σ.at_ ≤ ts.length) : (placeP ts n k σ).1.size + 8 * σ.at_ ≤ 8 * (placeP ts n k σ).2.at_ + 1 := (expr_size k).2.2.2.2 σ h
theorem exprs_size {k : Nat} {lv : Int} {σ : PS} (h : σ.at_ ≤ ts.length) : (exprP ts n k lv σ).1.size + 8 * σ.at_ ≤ 8 * (exprP ts n k lv σ).2.at_ + 1 := (expr_size k).1 lv σ h
theorem update_size {k : Nat} {σ : PS} (h : σ.at_ ≤ ts.length) : (updateP ts n k σ).1.size + 8 * σ.at_ ≤ 8 * (updateP ts n k σ).2.at_ + 1 := by
 unfold updateP
 dsimp only; have h1 := place_size (n := n) (k := k) h; have l1 := place_le (n := n) (k := k) h
 split
 · rename_i hh
   have l2 := next_le (has_in l1.wf hh (by decide)); have h2 := place_size (n := n) (k := k) l2.wf; rw [next_at] at h2
   simp only [Nd.size, rowSize]; omega
 · split
   · have := (unexp_le (n := n) l1.wf).le
     have := l1.le
     simp only [Nd.size, rowSize]; omega
   · rename_i hh
     have l2 := next_le (peek_in l1.wf (Or.inl (upd_ne hh))); have h2 := exprs_size (n := n) (k := k) (lv := 1) l2.wf; rw [next_at] at h2
     simp only [Nd.size, rowSize]; omega
theorem stack_size {k : Nat} {kind : Int} {σ : PS} (hn : In ts σ) : (stackP ts n k kind σ).1.size + 8 * σ.at_ ≤ 8 * (stackP ts n k kind σ).2.at_ + 1 := by
 unfold stackP
 dsimp only; have h1 := next_le hn; have h2 := place_size (n := n) (k := k) h1.wf; have l2 := place_le (n := n) (k := k) h1.wf; have l3 := expect_le (n := n) (t := [44]) l2.wf (by decide); have l4 := (name_le (n := n) l3.wf).le; have l3' := l3.le; rw [next_at] at h2
 simp only [Nd.size, rowSize]; omega
theorem tape_size {k : Nat} {kind : Int} {σ : PS} (hn : In ts σ) : (tapeP ts n k kind σ).1.size + 8 * σ.at_ ≤ 8 * (tapeP ts n k kind σ).2.at_ + 1 := by
 unfold tapeP
 have h1 := next_le hn; have h2 := place_size (n := n) (k := k) h1.wf; rw [next_at] at h2
 simp only [Nd.size, rowSize]; omega
theorem stmt_size (k : Nat) : (∀ σ, σ.at_ ≤ ts.length → (stmtP ts n k σ).1.size + 8 * σ.at_ ≤ 8 * (stmtP ts n k σ).2.at_ + 1) ∧ (∀ kind mid last σ, In ts σ → mid ≠ [] → last ≠ [] → (branchesP ts n k kind mid last σ).1.size + 8 * σ.at_ ≤ 8 * (branchesP ts n k kind mid last σ).2.at_ + 1) ∧ (∀ σ, In ts σ → (localP ts n k σ).1.size + 8 * σ.at_ ≤ 8 * (localP ts n k σ).2.at_ + 1) ∧
 (∀ σ, σ.at_ ≤ ts.length → (blockP ts n k σ).1.size + 8 * σ.at_ ≤ 8 * (blockP ts n k σ).2.at_ + 2) ∧ (∀ acc σ, σ.at_ ≤ ts.length → rowSize (stmtsP ts n k acc σ).1 + 8 * σ.at_ ≤ 8 * (stmtsP ts n k acc σ).2.at_ + rowSize acc + (if σ.err = 0 then 1 else 0)) := by
 induction k with
 | zero =>
  refine ⟨fun σ h => ?_, fun kind mid last σ h _ _ => ?_, fun σ h => ?_, fun σ h => ?_, fun acc σ h => ?_⟩
  · rw [stmtP]; simp [Nd.size, rowSize]; omega
  · rw [branchesP]; simp [Nd.size, rowSize]; omega
  · rw [localP]; simp [Nd.size, rowSize]; omega
  · rw [blockP]; simp [Nd.size, rowSize]; omega
  · rw [stmtsP]; simp only; split <;> omega
 | succ k ih =>
  obtain ⟨iS, iB, iL, iK, iT⟩ := ih; obtain ⟨lS, lB, lL, lK, lT⟩ := stmt_inv (ts := ts) (n := n) k; refine ⟨fun σ h => ?_, fun kind mid last σ hn hmid hlast => ?_, fun σ hn => ?_, fun σ h => ?_, fun acc σ h => ?_⟩
  · have hin : ∀ t : List UInt8, (peekP ts σ).text = t → t ≠ [] → In ts σ := fun t e ht => peek_in h (Or.inl (by rw [e]; exact ht))
    rw [stmtP]
    by_cases e : (peekP ts σ).text = [112, 117, 115, 104]
    · rw [if_pos e]; exact stack_size (hin _ e (by decide))
    rw [if_neg e]; clear e
    by_cases e : (peekP ts σ).text = [112, 111, 112]
    · rw [if_pos e]; exact stack_size (hin _ e (by decide))
    rw [if_neg e]; clear e
    by_cases e : (peekP ts σ).text = [114, 101, 97, 100]
    · rw [if_pos e]; exact tape_size (hin _ e (by decide))
    rw [if_neg e]; clear e
    by_cases e : (peekP ts σ).text = [117, 110, 114, 101, 97, 100]
    · rw [if_pos e]; exact tape_size (hin _ e (by decide))
    rw [if_neg e]; clear e
    by_cases e : (peekP ts σ).text = [119, 114, 105, 116, 101]
    · rw [if_pos e]; exact tape_size (hin _ e (by decide))
    rw [if_neg e]; clear e
    by_cases e : (peekP ts σ).text = [117, 110, 119, 114, 105, 116, 101]
    · rw [if_pos e]; exact tape_size (hin _ e (by decide))
    rw [if_neg e]; clear e
    by_cases e : (peekP ts σ).text = [99, 97, 108, 108]
    · rw [if_pos e]; exact call_size (hin _ e (by decide))
    rw [if_neg e]; clear e
    by_cases e : (peekP ts σ).text = [117, 110, 99, 97, 108, 108]
    · rw [if_pos e]; exact call_size (hin _ e (by decide))
    rw [if_neg e]; clear e
    by_cases e : (peekP ts σ).text = [105, 102]
    · rw [if_pos e]; exact iB _ _ _ σ (hin _ e (by decide)) (by decide) (by decide)
    rw [if_neg e]; clear e
    by_cases e : (peekP ts σ).text = [102, 114, 111, 109]
    · rw [if_pos e]; exact iB _ _ _ σ (hin _ e (by decide)) (by decide) (by decide)
    rw [if_neg e]; clear e
    by_cases e : (peekP ts σ).text = [108, 111, 99, 97, 108]
    · rw [if_pos e]; exact iL σ (hin _ e (by decide))
    rw [if_neg e]; clear e
    exact update_size h
  · rw [branchesP]
    (try dsimp only); have l1 := next_le hn; have s2 := exprs_size (n := n) (k := k) (lv := 1) l1.wf; have l2 := expr_le (n := n) (k := k) (lv := 1) l1.wf; have s3 := iK _ l2.wf; have l3 := lK _ l2.wf; have l4 := expect_le (n := n) l3.wf hmid; have s5 := iK _ l4.wf; have l5 := lK _ l4.wf; have l6 := expect_le (n := n) l5.wf hlast; have s7 := exprs_size (n := n) (k := k) (lv := 1) l6.wf; have e4 := l4.le; have e6 := l6.le; rw [next_at] at s2
    simp only [Nd.size, rowSize]; omega
  · rw [localP]
    (try dsimp only); have l1 := next_le hn
    split
    · rename_i hh
      have l2 := next_le (has_in l1.wf hh (by decide)); have l3 := name_le (n := n) l2.wf; have s4 := iK _ l3.wf; have e3 := l3.le; rw [next_at, next_at] at e3
      simp only [Nd.size, rowSize]; omega
    · have l2 := name_le (n := n) l1.wf
      have l3 := expect_le (n := n) (t := [61]) l2.wf (by decide); have s4 := exprs_size (n := n) (k := k) (lv := 1) l3.wf; have l4 := expr_le (n := n) (k := k) (lv := 1) l3.wf; have s5 := iK _ l4.wf; have l5 := lK _ l4.wf; have l6 := expect_le (n := n) (t := [100, 101, 108, 111, 99, 97, 108]) l5.wf (by decide); have s7 := exprs_size (n := n) (k := k) (lv := 1) l6.wf; have e2 := l2.le; have e3 := l3.le; have e6 := l6.le; rw [next_at] at e2
      simp only [Nd.size, rowSize]; omega
  · rw [blockP]
    (try dsimp only); have l1 := expect_le (n := n) (t := [123]) h (by decide); have s2 := iT [] _ l1.wf; have e1 := l1.le; simp only [rowSize] at s2; simp only [Nd.size]
    split at s2 <;> omega
  · rw [stmtsP]
    split
    · simp only; (try split) <;> omega
    · rename_i he
      have h0 : σ.err = 0 := Decidable.byContradiction he
      split
      · rename_i hh
        have := next_at σ
        simp only; (try split) <;> omega
      · have s1 := iS σ h
        have l1 := lS σ h; have l2 := expect_le (n := n) (t := [59]) l1.wf (by decide); have s3 := iT (acc ++ [(stmtP ts n k σ).1]) _ l2.wf; rw [rowSize_append] at s3; simp only [rowSize] at s3; have e2 := l2.le
        have e3 : (expectP ts n (stmtP ts n k σ).2 [59]).err = 0 → (stmtP ts n k σ).2.at_ + 1 ≤ (expectP ts n (stmtP ts n k σ).2 [59]).at_ := fun e => expect_lt (n := n) e
        (try rw [if_pos h0])
        split at s3
        · rename_i e; have := e3 e; omega
        · omega
end
end Bk
namespace Bk
open Go Go.RowKit Go.Proofs
attribute [local irreducible] Go.Calls
set_option maxRecDepth 100000 in
set_option maxHeartbeats 1000000 in
theorem limit_c (c : PC) (σ : PS) (t : Nd) (S : Nat → Prop) (a : Option Addr) (k : Nat) (off : Int) (w : World) (hP : PP c σ w) (hz : t.size ≤ 1000000000) (hs : t.sits S w a) :
 Calls Tryz.prog 67 #[.pointer (some ⟨c.pb, 0, none⟩), t.val a k, .int .i64 off] w fun r w' => r = .returned (.tuple #[]) ∧ PP c (limitP t off σ) w' ∧ Fr (· = c.pb) w w' := by
 have X := Fr.refl (· = c.pb) w; have hpb := hP.pbB; have hB := hP.B
 by_cases h0 : σ.err = 0
 · by_cases hd : 80 < t.depth
   · rw [show limitP t off σ = failP σ off 19 from by simp [limitP, h0, hd]]
     refine calls_in Tryz.func67 Tryz.ntmps67 rfl rfl ?_
     focus
      refine cS ?_; (refine lw_box' [_, _, _, _] rfl rfl rfl ?_; intro b1 w2 n3); have h4 := n3.blk; have x5 := n3.ext; have p6 := n3.pos; have z7 := n3.size; clear n3; replace hP := hP.ext x5; replace hs := Nd.sits.ext hs x5; replace X := X.ext x5; clear x5; refine cT (cw_block (cS (cM rfl rfl (lw_pure (pur_nilCheck rfl) rfl (lw_pure (pur_fieldAddr tabOk rfl rfl rfl) rfl (lw_load_b tabOk rfl rfl rfl (PP.blk hP) rfl rfl (lw_pure (pur_neq rfl rfl) rfl (cA rfl rfl (cT ?_))))))))); refine cw_no rfl (by omega) ?_; refine cS (lw_loads_b' [_, _, _, _] tabOk rfl rfl rfl h4 rfl rfl rfl ?_); refine cC (by kernel_rfl) rfl (Depth_c _ _ _ _ _ _ (Nat.lt_succ_self _) (by omega) (by assumption)) rfl ?_; rintro _ w9 ⟨⟨⟩, x8⟩; have z10 := x8.size; replace h4 := h4.ext x8; replace hP := hP.ext x8; replace hs := Nd.sits.ext hs x8; replace X := X.ext x8; clear x8; refine lw_pure (pur_gtr rfl rfl) rfl (cA rfl rfl (cT ?_)); refine cw_yes rfl (by assumption) ?_; refine cw_region (cM rfl rfl (cM rfl rfl ?_)); refine cC (by kernel_rfl) rfl (fail_c _ _ _ _ _ (by assumption)) rfl ?_; rintro _ w13 ⟨⟨⟩, ⟨h11, f12⟩⟩; have z14 := f12.size; replace h4 := h4.fr f12 (by omega); clear hP hs; replace X := X.fr f12 (by omega); clear f12; refine lw_nil (qw_block_norm (qw_end0 rfl ?_)); rotate_left 1
     exact ⟨rfl, by assumption, X⟩
   · by_cases h2 : 2000 < t.size
     · rw [show limitP t off σ = failP σ off 5 from by simp [limitP, h0, hd, h2]]
       refine calls_in Tryz.func67 Tryz.ntmps67 rfl rfl ?_
       focus
        refine cS ?_; (refine lw_box' [_, _, _, _] rfl rfl rfl ?_; intro ba1 wa2 na3); have ha4 := na3.blk; have xa5 := na3.ext; have pa6 := na3.pos; have za7 := na3.size; clear na3; replace hP := hP.ext xa5; replace hs := Nd.sits.ext hs xa5; replace X := X.ext xa5; clear xa5; refine cT (cw_block (cS (cM rfl rfl (lw_pure (pur_nilCheck rfl) rfl (lw_pure (pur_fieldAddr tabOk rfl rfl rfl) rfl (lw_load_b tabOk rfl rfl rfl (PP.blk hP) rfl rfl (lw_pure (pur_neq rfl rfl) rfl (cA rfl rfl (cT ?_))))))))); refine cw_no rfl (by omega) ?_; refine cS (lw_loads_b' [_, _, _, _] tabOk rfl rfl rfl ha4 rfl rfl rfl ?_); refine cC (by kernel_rfl) rfl (Depth_c _ _ _ _ _ _ (Nat.lt_succ_self _) (by omega) (by assumption)) rfl ?_; rintro _ wa9 ⟨⟨⟩, xa8⟩; have za10 := xa8.size; replace ha4 := ha4.ext xa8; replace hP := hP.ext xa8; replace hs := Nd.sits.ext hs xa8; replace X := X.ext xa8; clear xa8; refine lw_pure (pur_gtr rfl rfl) rfl (cA rfl rfl (cT ?_)); refine cw_no rfl (by assumption) ?_; refine cS (lw_loads_b' [_, _, _, _] tabOk rfl rfl rfl ha4 rfl rfl rfl ?_); refine cC (by kernel_rfl) rfl (Size_c _ _ _ _ _ _ (Nat.lt_succ_self _) (by omega) (by assumption)) rfl ?_; rintro _ wa12 ⟨⟨⟩, xa11⟩; have za13 := xa11.size; replace ha4 := ha4.ext xa11; replace hP := hP.ext xa11; replace hs := Nd.sits.ext hs xa11; replace X := X.ext xa11; clear xa11; refine lw_pure (pur_gtr rfl rfl) rfl (cA rfl rfl (cT ?_)); refine cw_yes rfl (by omega) ?_; refine cw_region (cM rfl rfl (cM rfl rfl ?_)); refine cC (by kernel_rfl) rfl (fail_c _ _ _ _ _ (by assumption)) rfl ?_
        rintro _ wa16 ⟨⟨⟩, ⟨ha14, fa15⟩⟩; have za17 := fa15.size; replace ha4 := ha4.fr fa15 (by omega); clear hP hs; replace X := X.fr fa15 (by omega); clear fa15; refine lw_nil (qw_block_norm (qw_end0 rfl ?_)); rotate_left 1
       exact ⟨rfl, by assumption, X⟩
     · rw [show limitP t off σ = σ from by simp [limitP, h0, hd, h2]]
       refine calls_in Tryz.func67 Tryz.ntmps67 rfl rfl ?_
       focus
        refine cS ?_; (refine lw_box' [_, _, _, _] rfl rfl rfl ?_; intro bb1 wb2 nb3); have hb4 := nb3.blk; have xb5 := nb3.ext; have pb6 := nb3.pos; have zb7 := nb3.size; clear nb3; replace hP := hP.ext xb5; replace hs := Nd.sits.ext hs xb5; replace X := X.ext xb5; clear xb5; refine cT (cw_block (cS (cM rfl rfl (lw_pure (pur_nilCheck rfl) rfl (lw_pure (pur_fieldAddr tabOk rfl rfl rfl) rfl (lw_load_b tabOk rfl rfl rfl (PP.blk hP) rfl rfl (lw_pure (pur_neq rfl rfl) rfl (cA rfl rfl (cT ?_))))))))); refine cw_no rfl (by omega) ?_; refine cS (lw_loads_b' [_, _, _, _] tabOk rfl rfl rfl hb4 rfl rfl rfl ?_); refine cC (by kernel_rfl) rfl (Depth_c _ _ _ _ _ _ (Nat.lt_succ_self _) (by omega) (by assumption)) rfl ?_; rintro _ wb9 ⟨⟨⟩, xb8⟩; have zb10 := xb8.size; replace hb4 := hb4.ext xb8; replace hP := hP.ext xb8; replace hs := Nd.sits.ext hs xb8; replace X := X.ext xb8; clear xb8; refine lw_pure (pur_gtr rfl rfl) rfl (cA rfl rfl (cT ?_)); refine cw_no rfl (by assumption) ?_; refine cS (lw_loads_b' [_, _, _, _] tabOk rfl rfl rfl hb4 rfl rfl rfl ?_); refine cC (by kernel_rfl) rfl (Size_c _ _ _ _ _ _ (Nat.lt_succ_self _) (by omega) (by assumption)) rfl ?_; rintro _ wb12 ⟨⟨⟩, xb11⟩; have zb13 := xb11.size; replace hb4 := hb4.ext xb11; replace hP := hP.ext xb11; replace hs := Nd.sits.ext hs xb11; replace X := X.ext xb11; clear xb11; refine lw_pure (pur_gtr rfl rfl) rfl (cA rfl rfl (cT ?_)); refine cw_no rfl (by omega) ?_; refine cw_skip (qw_block_norm (qw_end0 rfl ?_)); rotate_left 1
       exact ⟨rfl, by assumption, X⟩
 · rw [show limitP t off σ = σ from by simp [limitP, h0]]
   refine calls_in Tryz.func67 Tryz.ntmps67 rfl rfl ?_
   focus
    refine cS ?_; (refine lw_box' [_, _, _, _] rfl rfl rfl ?_; intro bc1 wc2 nc3); have hc4 := nc3.blk; have xc5 := nc3.ext; have pc6 := nc3.pos; have zc7 := nc3.size; clear nc3; replace hP := hP.ext xc5; replace hs := Nd.sits.ext hs xc5; replace X := X.ext xc5; clear xc5; refine cT (cw_block (cS (cM rfl rfl (lw_pure (pur_nilCheck rfl) rfl (lw_pure (pur_fieldAddr tabOk rfl rfl rfl) rfl (lw_load_b tabOk rfl rfl rfl (PP.blk hP) rfl rfl (lw_pure (pur_neq rfl rfl) rfl (cA rfl rfl (cT ?_))))))))); refine cw_yes rfl (by assumption) ?_; refine cw_skip (qw_block_norm (qw_end0 rfl ?_)); rotate_left 1
   exact ⟨rfl, by assumption, X⟩
end Bk
namespace Bk
open Go
section
variable {ts : List Tok} {n : Int}
end
end Bk
namespace Bk
open Go
section
variable {ts : List Tok} {n : Int}
end
end Bk
namespace Bk
open Go
section
variable (ts : List Tok) (n : Int)
def posR (σ : PS) : Int := if ts.length ≤ σ.at_ then n else (ts.getD σ.at_ Tok.zero).pos
def declKind (t : List UInt8) : Int := if t = [105, 110, 116] then 1 else if t = [97, 114, 114, 97, 121] then 2 else 3
def declR (many most : Nat) (σ : PS) : VD × PS :=
 if atDeclP ts σ = false then (⟨[], 0, 0⟩, unexpP ts n σ)
 else if many = most then (⟨[], 0, 0⟩, failP σ (posR ts n σ) 5)
 else
  let m := nameP ts n (nextP σ)
  if declKind (peekP ts σ).text = 2 then
   let σ1 := expectP ts n m.2 [91]
   let r := numberR ts n σ1
   let σ2 := if r.2.err = 0 ∧ (r.1 < 1 ∨ 16 < r.1) then failP r.2 (posR ts n σ1) 2 else r.2
   (⟨m.1, 2, r.1⟩, expectP ts n σ2 [93])
  else (⟨m.1, declKind (peekP ts σ).text, 0⟩, m.2)
end
section
variable {ts : List Tok} {n : Int}
end
section
variable (ts : List Tok) (n : Int)
def paramsR : Nat → List VD → PS → List VD × PS
 | 0, acc, σ => (acc, σ)
 | k + 1, acc, σ =>
  if hasP ts (declR ts n acc.length 8 σ).2 [44] then paramsR k (acc ++ [(declR ts n acc.length 8 σ).1]) (nextP (declR ts n acc.length 8 σ).2)
  else (acc ++ [(declR ts n acc.length 8 σ).1], (declR ts n acc.length 8 σ).2)
end
section
variable {ts : List Tok} {n : Int}
end
section
variable (ts : List Tok) (n : Int)
def wholeR (k : Nat) (σ : PS) : Nd × PS := ((bodyR ts n k σ).1, limitP (bodyR ts n k σ).1 (posR ts n σ) (bodyR ts n k σ).2)
end
section
variable {ts : List Tok} {n : Int}
end
section
variable (ts : List Tok) (n : Int)
def procR (k : Nat) (σ : PS) : PD × PS :=
 let m := nameP ts n (nextP σ)
 let σ1 := expectP ts n m.2 [40]
 let q := if σ1.err = 0 ∧ hasP ts σ1 [41] = false then paramsR ts n k [] σ1 else ([], σ1)
 let b := wholeR ts n k (expectP ts n q.2 [41])
 (⟨m.1, q.1, b.1⟩, b.2)
def varsR : Nat → List VD → PS → List VD × PS
 | 0, acc, σ => (acc, σ)
 | k + 1, acc, σ => if σ.err = 0 ∧ atDeclP ts σ = true then varsR k (acc ++ [(declR ts n acc.length 32 σ).1]) (declR ts n acc.length 32 σ).2 else (acc, σ)
def procsR : Nat → List PD → PS → List PD × PS
 | 0, acc, σ => (acc, σ)
 | k + 1, acc, σ =>
  if σ.err = 0 ∧ hasP ts σ [112, 114, 111, 99] = true then
   if acc.length = 64 then (acc, failP σ (posR ts n σ) 5)
   else procsR k (acc ++ [(procR ts n k σ).1]) (procR ts n k σ).2
  else (acc, σ)
def programR (k : Nat) (σ : PS) : PG × PS :=
 let v := varsR ts n k [] σ
 let p := procsR ts n k [] v.2
 let b := wholeR ts n k (expectP ts n p.2 [109, 97, 105, 110])
 (⟨v.1, p.1, b.1⟩, b.2)
end
section
variable {ts : List Tok} {n : Int}
end
end Bk
namespace Bk
open Go
section
variable {ts : List Tok} {n : Int}
def procQ (ts : List Tok) (n : Int) (k : Nat) (σ : PS) : List VD × PS :=
 if hasP ts σ [41] then ([], nextP σ) else ((paramsP ts n k [(declP ts n σ).1] (declP ts n σ).2).1, expectP ts n (paramsP ts n k [(declP ts n σ).1] (declP ts n σ).2).2 [41])
def procQR (ts : List Tok) (n : Int) (k : Nat) (σ : PS) : List VD × PS :=
 ((if σ.err = 0 ∧ hasP ts σ [41] = false then paramsR ts n k [] σ else ([], σ)).1, expectP ts n (if σ.err = 0 ∧ hasP ts σ [41] = false then paramsR ts n k [] σ else ([], σ)).2 [41])
end
end Bk
namespace Bk
open Go Go.RowKit Go.Proofs
attribute [local irreducible] Go.Calls
def VdsR (c : PC) (w : World) (r : List VD × PS) : Ending → World → Prop := fun e w' => ∃ a k, e = .returned (.slice a r.1.length k) ∧ VDs (fun b => w.heap.size ≤ b ∧ b < w'.heap.size) w' r.1 a ∧ PP c r.2 w' ∧ Fr (· = c.pb) w w'
theorem VdsR.ret {c : PC} {w : World} {r : List VD × PS} {e : Ending} {w' : World} (h : VdsR c w r e w') : ∃ v, e = .returned v := by
 obtain ⟨_, _, h, -⟩ := h
 exact ⟨_, h⟩
def PdR (c : PC) (w : World) (r : PD × PS) : Ending → World → Prop := fun e w' => ∃ pa pc ba bc, e = .returned (.agg (r.1.cells pa pc ba bc).toArray) ∧ VDs (fun b => w.heap.size ≤ b ∧ b < w'.heap.size) w' r.1.params pa ∧ r.1.body.sits (fun b => w.heap.size ≤ b ∧ b < w'.heap.size) w' ba ∧ PP c r.2 w' ∧ Fr (· = c.pb) w w'
theorem PdR.ret {c : PC} {w : World} {r : PD × PS} {e : Ending} {w' : World} (h : PdR c w r e w') : ∃ v, e = .returned v := by
 obtain ⟨_, _, _, _, h, -⟩ := h
 exact ⟨_, h⟩
end Bk
namespace Bk
open Go Go.RowKit Go.Proofs
attribute [local irreducible] Go.Calls
def PgR (c : PC) (w : World) (r : PG × PS) : Ending → World → Prop := fun e w' => ∃ va vc pa pc ma mc, e = .returned (.agg (r.1.cells va vc pa pc ma mc).toArray) ∧ r.1.sits (w.heap.size ≤ ·) w' va pa ma ∧ PP c r.2 w' ∧ Fr (· = c.pb) w w'
theorem PgR.ret {c : PC} {w : World} {r : PG × PS} {e : Ending} {w' : World} (h : PgR c w r e w') : ∃ v, e = .returned v := by
 obtain ⟨_, _, _, _, _, _, h, -⟩ := h
 exact ⟨_, h⟩
theorem PDs.wide {S S' : Nat → Prop} {w : World} {l : List PD} {a : Option Addr} (h : PDs S w l a) (hs : ∀ b, S b → S' b) : PDs S' w l a :=
 h.mono hs (fun _ _ _ _ _ ⟨pa, pc, ba, bc, h1, h2, h3⟩ => ⟨pa, pc, ba, bc, h1, h2.wide hs, h3.wide hs⟩)
end Bk
namespace Bk
open Go
theorem takeWhile_len {α : Type} (p : α → Bool) (l : List α) : (l.takeWhile p).length ≤ l.length := by
 induction l with
 | nil => simp
 | cons x r ih => simp only [List.takeWhile_cons]; split <;> simp; exact ih
theorem signLen_le (s : List UInt8) : signLen s ≤ s.length := by
 unfold signLen
 split
 · rename_i h
   rw [List.isPrefixOf_iff_prefix] at h
   exact h.length_le
 · split
   · rename_i h
     rcases s with _ | ⟨a, _ | ⟨b, r⟩⟩
     · exact absurd h (by decide)
     · exfalso
       simp [pairs] at h
     · simp
   · split
     · rename_i h
       cases s with
       | nil => simp at h
       | cons a r => simp
     · omega
theorem firstTok_le (s : List UInt8) : (firstTok s).2 ≤ s.length := by
 cases s with
 | nil => simp [firstTok]
 | cons c r =>
  simp only [firstTok, span]
  split
  · exact takeWhile_len _ _
  · split
    · exact takeWhile_len _ _
    · split
      · exact takeWhile_len _ _
      · split
        · exact takeWhile_len _ _
        · exact signLen_le _
theorem take_takeWhile {α : Type} (p : α → Bool) (l : List α) : l.take (l.takeWhile p).length = l.takeWhile p := by
 induction l with
 | nil => simp
 | cons x r ih => simp only [List.takeWhile_cons]; split <;> simp [ih]
theorem mem_takeWhile {α : Type} (p : α → Bool) (l : List α) : ∀ x ∈ l.takeWhile p, p x = true := by
 induction l with
 | nil => simp
 | cons y r ih =>
  simp only [List.takeWhile_cons]
  split
  · rename_i h
    intro x hx
    rcases List.mem_cons.1 hx with rfl | hx
    · exact h
    · exact ih x hx
  · simp
theorem letter_digit (c : UInt8) (h : letter c = true) : digit c = false := by
 simp only [letter, digit, Bool.and_eq_true, decide_eq_true_eq, Bool.and_eq_false_iff, decide_eq_false_iff_not] at h ⊢
 omega
theorem firstTok_num (s : List UInt8) (h : (firstTok s).1 = 2) : s.take (firstTok s).2 ≠ [] ∧ ∀ x ∈ s.take (firstTok s).2, digit x = true := by
 cases s with
 | nil => simp [firstTok] at h
 | cons c r =>
  simp only [firstTok] at h ⊢
  by_cases h1 : letter c = true
  · simp [h1] at h
  · by_cases h2 : digit c = true
    · simp only [h1, h2, if_true, Bool.false_eq_true, if_false, span]
      rw [take_takeWhile]; refine ⟨by simp [List.takeWhile_cons, h2], mem_takeWhile _ _⟩
    · exfalso
      simp only [h1, h2, Bool.false_eq_true, if_false] at h
      by_cases h3 : blank c = true
      · simp [h3] at h
      · by_cases h4 : c = 35
        · subst h4; simp [h3] at h
        · simp [h3, h4] at h
theorem firstTok_kind (s : List UInt8) (hs : s ≠ []) (h0 : (firstTok s).2 ≠ 0) : (firstTok s).1 = 2 ↔ startsDigit (s.take (firstTok s).2) = true := by
 cases s with
 | nil => exact absurd rfl hs
 | cons c r =>
  obtain ⟨m, hm⟩ : ∃ m, (firstTok (c :: r)).2 = m + 1 := ⟨(firstTok (c :: r)).2 - 1, by omega⟩; rw [hm]; simp only [List.take_succ_cons, startsDigit, firstTok]
  by_cases h1 : letter c = true
  · simp [h1, letter_digit c h1]
  · by_cases h2 : digit c = true
    · simp [h1, h2]
    · simp only [h1, h2, Bool.false_eq_true, if_false, iff_false]
      by_cases h3 : blank c = true
      · simp [h3]
      · by_cases h4 : c = 35
        · subst h4; simp [h3]
        · simp [h3, h4]
structure TokOk (n : Nat) (t : Tok) : Prop where
 len : t.text.length ≤ n
 num : t.kind = 2 → t.text ≠ [] ∧ ∀ x ∈ t.text, digit x = true
 dig : t.kind = 2 ↔ startsDigit t.text = true
 pos : 0 ≤ t.pos ∧ t.pos ≤ n
theorem lexGo_ok (s : List UInt8) : ∀ (k p : Nat) (acc : List Tok), (∀ t ∈ acc, TokOk s.length t) → ∀ t ∈ (lexGo k s p acc).1, TokOk s.length t
 | 0, p, acc, h => by rw [lexGo]; exact h
 | k + 1, p, acc, h => by
  rw [lexGo]
  split
  · rename_i hp
    split
    · simp
    · rename_i h0
      refine lexGo_ok s k _ _ ?_; intro t ht
      rcases List.mem_append.1 ht with ht | ht
      · exact h t ht
      · simp only [List.mem_singleton] at ht
        subst ht
        have hne : s.drop p ≠ [] := by
         intro e; have := congrArg List.length e
         simp at this; omega
        refine ⟨?_, ?_, ?_, ?_⟩
        · simp only [List.length_take, List.length_drop]; omega
        · intro hk
          have hk' : (firstTok (s.drop p)).1 = 2 := by simp only at hk; omega
          exact firstTok_num _ hk'
        · have := firstTok_kind (s.drop p) hne h0
          simp only; rw [← this]
          omega
        · simp only; omega
  · exact h
theorem lexT_ok (s : List UInt8) : ∀ t ∈ (lexT s).1, TokOk s.length t := by
 unfold lexT
 split
 · simp
 · have := lexGo_ok s (s.length + 1) 0 [] (by simp)
   split
   · rename_i l h; rw [h] at this; exact this
   · simp
theorem solid_ok (s : List UInt8) : ∀ t ∈ (startP s).1, TokOk s.length t := fun t ht => lexT_ok s t (List.mem_filter.1 ht).1
theorem lexGo_len (s : List UInt8) : ∀ (k p : Nat) (acc : List Tok), acc.length ≤ p → p ≤ s.length → (lexGo k s p acc).1.length ≤ s.length
 | 0, p, acc, h, hp => by rw [lexGo]; simp; omega
 | k + 1, p, acc, h, hp => by
  rw [lexGo]
  split
  · split
    · simp
    · rename_i h0
      have := firstTok_le (s.drop p); rw [List.length_drop] at this
      exact lexGo_len s k _ _ (by simp; omega) (by omega)
  · simp only; omega
theorem lexT_len (s : List UInt8) : (lexT s).1.length ≤ s.length := by
 unfold lexT
 split
 · simp
 · have := lexGo_len s (s.length + 1) 0 [] (by simp) (by omega)
   split
   · rename_i l h; rw [h] at this; exact this
   · simp
theorem start_len (s : List UInt8) : (startP s).1.length ≤ s.length := Nat.le_trans (List.length_filter_le _ _) (lexT_len s)
end Bk
namespace Bk
open Go Go.RowKit Go.Proofs
attribute [local irreducible] Go.Calls
def Toks (S : Nat → Prop) (w : World) (l : List Tok) (a : Option Addr) : Prop := Arr S 3 TokAt w l a
theorem Toks.ext {S : Nat → Prop} {w w' : World} {l : List Tok} {a : Option Addr} (h : Toks S w l a) (x : Ext w w') : Toks S w' l a := h.mono (fun _ h => h) (fun _ _ _ _ _ h => Row.ext h x)
theorem Toks.fr {S T : Nat → Prop} {w w' : World} {l : List Tok} {a : Option Addr} (h : Toks S w l a) (x : Fr T w w') (hs : ∀ b, S b → ¬ T b) : Toks S w' l a := h.mono (fun _ h => h) (fun b _ _ _ hb h => Row.fr h x (hs b hb))
theorem Toks.wide {S S' : Nat → Prop} {w : World} {l : List Tok} {a : Option Addr} (h : Toks S w l a) (hs : ∀ b, S b → S' b) : Toks S' w l a := h.mono hs (fun _ _ _ _ _ h => h)
theorem Toks.lt2 {S : Nat → Prop} {w : World} {l : List Tok} {a : Option Addr} (h : Toks S w l a) : Toks (fun b => S b ∧ b < w.heap.size) w l a := by
 rcases h with h | ⟨b, o, h1, h2, h3⟩
 · exact Or.inl h
 · cases l with
   | nil => exact Or.inl rfl
   | cons v r => exact Or.inr ⟨b, o, h1, ⟨h2, cell_lt (Row.at0 (h3 0 v rfl) rfl)⟩, h3⟩
def tokShape : Shape Tok where
 sz := 3
 rep := fun _ _ v cs => cs = v.cells
 len := fun h => by rw [h]; rfl
 one := fun h => by rw [h]; rfl
 mono := fun h _ _ => h
 lt := fun h => h
theorem OwnL.toks {w : World} {B e : Nat} {a : Option Addr} {len cap : Nat} {xs : List Tok} {S : Nat → Prop} (h : OwnL tokShape w B e (.slice a len cap) xs) (hS : ∀ b, B ≤ b → S b) : Toks S w xs a := by
 by_cases hx : xs = []
 · exact Or.inl hx
 · obtain ⟨g, cap', hv, hg, hall⟩ := h.rows hx
   simp only [Value.slice.injEq] at hv; obtain ⟨rfl, -, -⟩ := hv; refine Or.inr ⟨g, 0, rfl, hS g hg, fun i x hi => ?_⟩; obtain ⟨cs, hr, rfl⟩ := hall i x hi
   simpa [tokShape, TokAt] using hr
theorem first_s (t : List UInt8) (w : World) (ht : t ≠ []) (hl : t.length ≤ 9223372036854775807) : Calls Tryz.prog 51 #[str t] w fun e w' => e = .returned (.tuple #[.int .u8 (firstTok t).1, .int .i64 (firstTok t).2]) ∧ w = w' := by
 cases t with
 | nil => exact absurd rfl ht
 | cons c r => exact first_c c r w hl
def LexR (w : World) (r : List Tok × Int × Int) : Ending → World → Prop := fun e w' => ∃ a k, e = .returned (.tuple #[.slice a r.1.length k, .int .i64 r.2.1, .int .i64 r.2.2]) ∧ Toks (fun b => w.heap.size ≤ b ∧ b < w'.heap.size) w' r.1 a ∧ Ext w w'
theorem LexR.ret {w : World} {r : List Tok × Int × Int} {e : Ending} {w' : World} (h : LexR w r e w') : ∃ v, e = .returned v := by
 obtain ⟨_, _, h, -⟩ := h
 exact ⟨_, h⟩
set_option maxRecDepth 100000 in
set_option maxHeartbeats 2000000 in
theorem Lex_c (s : List UInt8) (w : World) (hs : s.length ≤ 1000000) : Calls Tryz.prog 54 #[str s] w (LexR w (lexT s)) := by
 have X := Ext.refl w
 by_cases h0 : 65536 < s.length
 · rw [show lexT s = ([], 0, 5) from by simp [lexT, h0]]
   refine calls_in Tryz.func54 Tryz.ntmps54 rfl rfl ?_
   focus
    refine cS (cA rfl rfl (cA rfl rfl (cA rfl rfl (cT (cw_seq (cS (cM rfl rfl (lw_pure (pur_len_s tabOk rfl rfl) rfl (lw_pure (pur_gtr rfl rfl) rfl (cT ?_)))))))))); refine cw_yes rfl (by omega) ?_; refine cS (cA rfl rfl (cA rfl rfl (cA rfl rfl (cT (cw_ret (qw_then_ret (qw_ret3 rfl rfl rfl rfl ?_))))))); rotate_left 1
   exact ⟨_, _, rfl, Or.inl rfl, X⟩
 have hun : ∀ r, lexGo (s.length + 1) s 0 [] = r → lexT s = match r with | (l, none) => (l, 0, 0) | (_, some p) => ([], (p : Int), 3) := fun r hr => by
  obtain ⟨l, o⟩ := r
  cases o <;> simp [lexT, h0, hr]
 have HU := Lib.hid hun; clear hun
 refine calls_in Tryz.func54 Tryz.ntmps54 rfl rfl ?_
 focus
  refine cS (cA rfl rfl (cA rfl rfl (cA rfl rfl (cT (cw_seq (cS (cM rfl rfl (lw_pure (pur_len_s tabOk rfl rfl) rfl (lw_pure (pur_gtr rfl rfl) rfl (cT ?_)))))))))); refine cw_no rfl (by omega) ?_; refine cw_skip (qw_then (cS (cA rfl rfl (cT (cw_seq (cS (cA rfl rfl (cT (cw_block ?_))))))))); rotate_left 1
 refine cw_loop (ι := Nat × Nat × List Tok × Option Addr × Nat) (fun x => [(0, str s), (5, .slice x.2.2.2.1 x.2.2.1.length x.2.2.2.2), (6, .int .i64 x.2.1)])
  (fun x w' => OwnL tokShape w' w.heap.size 83 (.slice x.2.2.2.1 x.2.2.1.length x.2.2.2.2) x.2.2.1 ∧ Ext w w' ∧ x.2.1 ≤ s.length ∧ x.2.2.1.length ≤ x.2.1 ∧ s.length + 1 ≤ x.1 + x.2.1 ∧
   lexGo (s.length + 1) s 0 [] = lexGo x.1 s x.2.1 x.2.2.1) (fun x => x.1) (s.length + 1, 0, [], none, 0) (by (refine sub_cons rfl ?_; refine sub_cons rfl ?_; refine sub_cons rfl ?_; exact sub_nil)) ⟨OwnL.nil, X, Nat.zero_le _, Nat.le_refl _, Nat.le_refl _, rfl⟩ ?_
 rintro ⟨j, p, acc, a, cap⟩ w1 ⟨hown, X, hp, hacc, hj, he⟩; simp only at hown hp hacc hj he; refine CW.sub (m := [(0, str s), (5, .slice a acc.length cap), (6, .int .i64 p)]) ?_ (by (refine sub_cons rfl ?_; refine sub_cons rfl ?_; refine sub_cons rfl ?_; exact sub_nil)); obtain ⟨j, rfl⟩ : ∃ i, j = i + 1 := ⟨j - 1, by omega⟩
 by_cases hlt : p < s.length
 · have hne : s.drop p ≠ [] := by
    intro e; have := congrArg List.length e
    simp at this; omega
   have hdl : (s.drop p).length = s.length - p := List.length_drop; have hfl := firstTok_le (s.drop p); rw [hdl] at hfl
   by_cases hz : (firstTok (s.drop p)).2 = 0
   · rw [HU.out ([], some p) (by rw [he, lexGo]; simp [hlt, hz])]
     focus
      refine cw_seq (cS (cM rfl rfl (cM rfl rfl (lw_pure (pur_len_s tabOk rfl rfl) rfl (lw_pure (pur_lss rfl rfl) rfl (cT ?_)))))); refine cw_yes rfl (by omega) ?_; refine cw_skip (qw_then (cw_block (cS (cM rfl rfl (cM rfl rfl ?_))))); refine lw_pure (pur_sfromN tabOk rfl rfl rfl (by omega)) rfl ?_; refine cC (by kernel_rfl) rfl (first_s _ _ hne (by omega)) rfl ?_; rintro _ wb1 ⟨⟨⟩, rfl⟩; refine cM rfl rfl (lw_pure (pur_extract rfl rfl) rfl (lw_pure (pur_extract rfl rfl) rfl (cA rfl rfl (cA rfl rfl (cT (cw_seq (cS (cM rfl rfl (lw_pure (pur_eql rfl rfl) rfl (cT ?_)))))))))); refine cw_yes rfl (by omega) ?_; refine cS (cM rfl rfl (cA rfl rfl (cA rfl rfl (cA rfl rfl (cT (cw_ret (qw_then_ret (qw_block_ret (qw_then_ret (qw_block_ret (qw_then_ret ?_))))))))))); refine qw_ret3 rfl rfl rfl rfl ?_; rotate_left 1
     exact ⟨_, _, rfl, Or.inl rfl, X⟩
   · have he2 : lexGo (s.length + 1) s 0 [] = lexGo j s (p + (firstTok (s.drop p)).2) (acc ++ [⟨((firstTok (s.drop p)).1 : Nat), (s.drop p).take (firstTok (s.drop p)).2, (p : Int)⟩]) := by rw [he, lexGo]; simp [hlt, hz]
     focus
      refine cw_seq (cS (cM rfl rfl (cM rfl rfl (lw_pure (pur_len_s tabOk rfl rfl) rfl (lw_pure (pur_lss rfl rfl) rfl (cT ?_)))))); refine cw_yes rfl (by omega) ?_; refine cw_skip (qw_then (cw_block (cS (cM rfl rfl (cM rfl rfl ?_))))); refine lw_pure (pur_sfromN tabOk rfl rfl rfl (by omega)) rfl ?_; refine cC (by kernel_rfl) rfl (first_s _ _ hne (by omega)) rfl ?_; rintro _ wc1 ⟨⟨⟩, rfl⟩; refine cM rfl rfl (lw_pure (pur_extract rfl rfl) rfl (lw_pure (pur_extract rfl rfl) rfl (cA rfl rfl (cA rfl rfl (cT (cw_seq (cS (cM rfl rfl (lw_pure (pur_eql rfl rfl) rfl (cT ?_)))))))))); refine cw_no rfl (by omega) ?_; refine cw_skip (qw_then (cS (cM rfl rfl (cM rfl rfl (cM rfl rfl (cM rfl rfl (cM rfl rfl (cM rfl rfl ?_)))))))); refine lw_pure (pur_add rfl rfl (IntWalk.i64_in _ (by omega))) rfl ?_; refine lw_pure (pur_spartN tabOk rfl rfl rfl rfl (by omega)) rfl ?_; refine cM rfl rfl (lw_pure (pur_build' [_, _, _] tabOk zOk rfl rfl rfl rfl) rfl ?_); (refine lw_does (does_slice' [_, _, _] tabOk zOk rfl rfl rfl rfl rfl rfl rfl rfl rfl) rfl ?_ (fun _ h => h); rintro _ wc3 ⟨bc2, rfl, nc4, tc5⟩); clear tc5; have hc6 := nc4.blk; have xc7 := nc4.ext; have pc8 := nc4.pos; have zc9 := nc4.size; clear nc4; replace hown := hown.ext xc7; replace X := X.ext xc7; clear xc7; refine lw_appendL (sh := tokShape) (z := ⟨((firstTok (s.drop p)).1 : Nat), (s.drop p).take (firstTok (s.drop p)).2, (p : Int)⟩) tabOk zOk rfl rfl rfl rfl (by kernel_rfl) rfl rfl rfl hown (Blk.row (by assumption)) rfl (by omega) (by have := Ext.size X; omega) rfl ?_
      rintro gc10 cap'c11 wc12 hc13 fc14; have zc15 := fc14.size; clear hc6 hown; replace X := X.fr fc14 (by omega); clear fc14; refine cA rfl rfl (cT (cw_region (cM rfl rfl (cM rfl rfl ?_)))); refine lw_pure (pur_add rfl rfl (IntWalk.i64_in _ (by omega))) rfl ?_; refine cA rfl rfl (lw_nil (qw_block_norm ?_)); rotate_left 1
     refine qw_round (j, p + (firstTok (s.drop p)).2, acc ++ [⟨((firstTok (s.drop p)).1 : Nat), (s.drop p).take (firstTok (s.drop p)).2, (p : Int)⟩], some ⟨_, 0, none⟩, _) (by (refine sub_cons rfl ?_; refine sub_cons rfl ?_; refine sub_cons rfl ?_; exact sub_nil)) ⟨by assumption, X, by simp only; omega, by simp only [List.length_append, List.length_cons, List.length_nil]; omega, by simp only; omega, he2⟩ (by simp)
 · rw [HU.out (acc, none) (by rw [he, lexGo]; simp [hlt])]
   focus
    refine cw_seq (cS (cM rfl rfl (cM rfl rfl (lw_pure (pur_len_s tabOk rfl rfl) rfl (lw_pure (pur_lss rfl rfl) rfl (cT ?_)))))); refine cw_no rfl (by omega) ?_; refine cw_exit (qw_then_exit (qw_then_exit (qw_block_exit (qw_then (cS (cM rfl rfl (cA rfl rfl (cA rfl rfl (cA rfl rfl (cT (cw_ret ?_))))))))))); refine qw_ret3 rfl rfl rfl rfl ?_; rotate_left 1
   exact ⟨_, _, rfl, Toks.lt2 (S := (w.heap.size ≤ ·)) (OwnL.toks hown (fun b h => h)), X⟩
theorem solid_snoc (l : List Tok) (t : Tok) : solidT (l ++ [t]) = solidT l ++ (if t.kind ≠ 4 ∧ t.kind ≠ 5 then [t] else []) := by
 unfold solidT
 rw [List.filter_append]
 congr 1
 by_cases h4 : t.kind = 4 <;> by_cases h5 : t.kind = 5 <;> simp [h4, h5]
def SolidR (w : World) (r : List Tok) : Ending → World → Prop := fun e w' => ∃ a k, e = .returned (.slice a r.length k) ∧ Toks (fun b => w.heap.size ≤ b ∧ b < w'.heap.size) w' r a ∧ Ext w w'
theorem SolidR.ret {w : World} {r : List Tok} {e : Ending} {w' : World} (h : SolidR w r e w') : ∃ v, e = .returned v := by
 obtain ⟨_, _, h, -⟩ := h
 exact ⟨_, h⟩
set_option maxRecDepth 100000 in
set_option maxHeartbeats 2000000 in
theorem Solid_c (ts : List Tok) (S : Nat → Prop) (b0 : Option Addr) (k0 : Nat) (w : World) (hl : ts.length ≤ 1000000) (hT : Toks S w ts b0) (hS : ∀ b, S b → b < w.heap.size) : Calls Tryz.prog 55 #[.slice b0 ts.length k0] w (SolidR w (solidT ts)) := by
 have X := Ext.refl w; refine calls_in Tryz.func55 Tryz.ntmps55 rfl rfl ?_
 focus
  refine cS (cA rfl rfl (cN (cA rfl rfl (cT (cw_seq (cS (cM rfl rfl (lw_pure (pur_len_slice tabOk rfl rfl) rfl (cM rfl rfl (cT (cw_block ?_))))))))))); rotate_left 1
 refine cw_loop (ι := Nat × Option Addr × Nat) (fun x => [(3, .slice x.2.1 (solidT (ts.take x.1)).length x.2.2), (6, .slice b0 ts.length k0), (7, .int .i64 ts.length), (8, .int .i64 x.1)])
  (fun x w' => OwnL tokShape w' w.heap.size 83 (.slice x.2.1 (solidT (ts.take x.1)).length x.2.2) (solidT (ts.take x.1)) ∧ Ext w w' ∧ x.1 ≤ ts.length ∧ Toks S w' ts b0) (fun x => ts.length - x.1) (0, none, 0) (by (refine sub_cons rfl ?_; refine sub_cons rfl ?_; refine sub_cons rfl ?_; refine sub_cons rfl ?_; exact sub_nil)) ⟨OwnL.nil, X, Nat.zero_le _, hT⟩ ?_
 rintro ⟨j, a, cap⟩ w1 ⟨hown, X, hj, hT⟩; simp only at hown hj hT; have hsz := X.size; refine CW.sub (m := [(3, .slice a (solidT (ts.take j)).length cap), (6, .slice b0 ts.length k0), (7, .int .i64 ts.length), (8, .int .i64 j)]) ?_ (by (refine sub_cons rfl ?_; refine sub_cons rfl ?_; refine sub_cons rfl ?_; refine sub_cons rfl ?_; exact sub_nil))
 by_cases hlt : j < ts.length
 · have htk : ts.take (j + 1) = ts.take j ++ [ts[j]] := by rw [List.take_add_one, List.getElem?_eq_getElem hlt]; rfl
   have hsn : solidT (ts.take (j + 1)) = solidT (ts.take j) ++ (if ts[j].kind ≠ 4 ∧ ts[j].kind ≠ 5 then [ts[j]] else []) := by rw [htk, solid_snoc]
   have hbd : (solidT (ts.take j)).length ≤ 1000000 := Nat.le_trans (List.length_filter_le _ _) (by rw [List.length_take]; omega); obtain ⟨tb, tof, rfl, hkS, hrow⟩ := hT.get (by omega); have hr : Row w1 ⟨tb, tof + j * 3, none⟩ ts[j].cells := hrow j _ (List.getElem?_eq_getElem hlt); have htb := hS tb hkS; clear hrow htk
   generalize ts[j] = t at *
   by_cases h4 : t.kind = 4
   · rw [show (if t.kind ≠ 4 ∧ t.kind ≠ 5 then [t] else []) = [] from by simp [h4], List.append_nil] at hsn
     focus
      refine cS (lw_pure (pur_lss rfl rfl) rfl (cT (cw_seq ?_))); refine cw_yes rfl (by omega) ?_; refine cw_skip (qw_then (cw_seq (cw_block (cS ?_)))); refine lw_pure (pur_indexAddr tabOk rfl rfl rfl rfl (by omega) (by omega)) rfl ?_; refine lw_loads_r0 tabOk rfl rfl rfl hr rfl rfl ?_; (refine lw_alloc' [_, _, _] zOk rfl rfl ?_; intro ba1 wa2 na3); (refine lw_init' [_, _, _] tabOk rfl rfl rfl rfl rfl rfl na3 rfl ?_; clear na3; clear wa2; intro wa4 na3); have ha5 := na3.blk; have xa6 := na3.ext; have pa7 := na3.pos; have za8 := na3.size; clear na3; replace hown := hown.ext xa6; replace X := X.ext xa6; replace hT := hT.ext xa6; replace hr := hr.ext xa6; clear xa6; refine cN (lw_pure (pur_fieldAddr0 tabOk rfl rfl rfl) rfl (lw_load_b tabOk rfl rfl rfl ha5 rfl rfl (lw_pure (pur_neq rfl rfl) rfl (cM rfl rfl ?_)))); refine lw_off rfl rfl rfl (gd_tf (by omega)) rfl ?_; refine lw_off rfl rfl rfl (gd_tf (by omega)) rfl ?_; refine lw_off rfl rfl rfl (gd_tf (by omega)) rfl ?_; refine lw_pure (pur_pick_no rfl rfl (by omega)) rfl ?_; refine cT (cw_cond_f rfl (cw_skip (qw_block_norm (qw_then (cw_region ?_))))); refine lw_pure (pur_add rfl rfl (IntWalk.i64_in _ (by omega))) rfl ?_; refine cM rfl rfl (lw_nil ?_); rotate_left 1
     refine qw_round (j + 1, a, cap) ?_ ⟨by rw [hsn]; exact hown, X, by simp only; omega, hT⟩ (by simp only; omega); refine sub_cons' rfl (by rw [hsn]) (sub_cons rfl (sub_cons rfl (sub_cons rfl sub_nil)))
   by_cases h5 : t.kind = 5
   · rw [show (if t.kind ≠ 4 ∧ t.kind ≠ 5 then [t] else []) = [] from by simp [h5], List.append_nil] at hsn
     focus
      refine cS (lw_pure (pur_lss rfl rfl) rfl (cT (cw_seq ?_))); refine cw_yes rfl (by omega) ?_; refine cw_skip (qw_then (cw_seq (cw_block (cS ?_)))); refine lw_pure (pur_indexAddr tabOk rfl rfl rfl rfl (by omega) (by omega)) rfl ?_; refine lw_loads_r0 tabOk rfl rfl rfl hr rfl rfl ?_; (refine lw_alloc' [_, _, _] zOk rfl rfl ?_; intro bb1 wb2 nb3); (refine lw_init' [_, _, _] tabOk rfl rfl rfl rfl rfl rfl nb3 rfl ?_; clear nb3; clear wb2; intro wb4 nb3); have hb5 := nb3.blk; have xb6 := nb3.ext; have pb7 := nb3.pos; have zb8 := nb3.size; clear nb3; replace hown := hown.ext xb6; replace X := X.ext xb6; replace hT := hT.ext xb6; replace hr := hr.ext xb6; clear xb6; refine cN (lw_pure (pur_fieldAddr0 tabOk rfl rfl rfl) rfl (lw_load_b tabOk rfl rfl rfl hb5 rfl rfl (lw_pure (pur_neq rfl rfl) rfl (cM rfl rfl ?_)))); refine lw_on rfl rfl rfl (gd_tt (by assumption)) ?_; refine lw_pure (pur_fieldAddr0 tabOk rfl rfl rfl) rfl ?_; refine lw_on rfl rfl rfl (gd_tt (by assumption)) ?_; refine lw_load_b tabOk rfl rfl rfl hb5 rfl rfl ?_; refine lw_on rfl rfl rfl (gd_tt (by assumption)) ?_; refine lw_pure (pur_neq rfl rfl) rfl ?_; refine lw_pure (pur_pick_yes rfl rfl (by assumption)) rfl ?_; refine cT ?_; refine cw_no rfl (by omega) ?_; refine cw_skip (qw_block_norm (qw_then (cw_region ?_))); refine lw_pure (pur_add rfl rfl (IntWalk.i64_in _ (by omega))) rfl ?_; refine cM rfl rfl (lw_nil ?_); rotate_left 1
     refine qw_round (j + 1, a, cap) ?_ ⟨by rw [hsn]; exact hown, X, by simp only; omega, hT⟩ (by simp only; omega); refine sub_cons' rfl (by rw [hsn]) (sub_cons rfl (sub_cons rfl (sub_cons rfl sub_nil)))
   · rw [show (if t.kind ≠ 4 ∧ t.kind ≠ 5 then [t] else []) = [t] from by simp [h4, h5]] at hsn
     focus
      refine cS (lw_pure (pur_lss rfl rfl) rfl (cT (cw_seq ?_))); refine cw_yes rfl (by omega) ?_; refine cw_skip (qw_then (cw_seq (cw_block (cS ?_)))); refine lw_pure (pur_indexAddr tabOk rfl rfl rfl rfl (by omega) (by omega)) rfl ?_; refine lw_loads_r0 tabOk rfl rfl rfl hr rfl rfl ?_; (refine lw_alloc' [_, _, _] zOk rfl rfl ?_; intro bc1 wc2 nc3); (refine lw_init' [_, _, _] tabOk rfl rfl rfl rfl rfl rfl nc3 rfl ?_; clear nc3; clear wc2; intro wc4 nc3); have hc5 := nc3.blk; have xc6 := nc3.ext; have pc7 := nc3.pos; have zc8 := nc3.size; clear nc3; replace hown := hown.ext xc6; replace X := X.ext xc6; replace hT := hT.ext xc6; replace hr := hr.ext xc6; clear xc6; refine cN (lw_pure (pur_fieldAddr0 tabOk rfl rfl rfl) rfl (lw_load_b tabOk rfl rfl rfl hc5 rfl rfl (lw_pure (pur_neq rfl rfl) rfl (cM rfl rfl ?_)))); refine lw_on rfl rfl rfl (gd_tt (by assumption)) ?_; refine lw_pure (pur_fieldAddr0 tabOk rfl rfl rfl) rfl ?_; refine lw_on rfl rfl rfl (gd_tt (by assumption)) ?_; refine lw_load_b tabOk rfl rfl rfl hc5 rfl rfl ?_; refine lw_on rfl rfl rfl (gd_tt (by assumption)) ?_; refine lw_pure (pur_neq rfl rfl) rfl ?_; refine lw_pure (pur_pick_yes rfl rfl (by assumption)) rfl ?_; refine cT ?_; refine cw_yes rfl (by assumption) ?_; refine cw_region (cM rfl rfl (lw_loads_b' [_, _, _] tabOk rfl rfl rfl hc5 rfl rfl rfl ?_)); (refine lw_does (does_slice' [_, _, _] tabOk zOk rfl rfl rfl rfl rfl rfl rfl rfl rfl) rfl ?_ (fun _ h => h); rintro _ wc10 ⟨bc9, rfl, nc11, tc12⟩); clear tc12; have hc13 := nc11.blk
      have xc14 := nc11.ext; have pc15 := nc11.pos; have zc16 := nc11.size; clear nc11; replace hc5 := hc5.ext xc14; replace hown := hown.ext xc14; replace X := X.ext xc14; replace hT := hT.ext xc14; replace hr := hr.ext xc14; clear xc14; refine lw_appendL (sh := tokShape) (z := t) tabOk zOk rfl rfl rfl rfl (by kernel_rfl) rfl rfl rfl hown (Blk.row (by assumption)) rfl (by omega) (by omega) rfl ?_; rintro gc17 cap'c18 wc19 hc20 fc21; have zc22 := fc21.size; clear hc13 hc5 hown; replace X := X.fr fc21 (by omega); replace hT := Toks.fr hT fc21 (fun k hk e => by have := hS k hk; omega); replace hr := Row.fr hr fc21 (by simp only; omega); clear fc21; refine cA rfl rfl (lw_nil (qw_block_norm (qw_then (cw_region ?_)))); refine lw_pure (pur_add rfl rfl (IntWalk.i64_in _ (by omega))) rfl ?_; refine cM rfl rfl (lw_nil ?_); rotate_left 1
     refine qw_round (j + 1, some ⟨_, 0, none⟩, _) ?_ ⟨by rw [hsn]; assumption, X, by simp only; omega, hT⟩ (by simp only; omega); refine sub_cons' rfl (by rw [hsn]) (sub_cons rfl (sub_cons rfl (sub_cons rfl sub_nil)))
 · have : j = ts.length := by omega
   subst this; rw [List.take_length] at hown
   focus
    refine cS (lw_pure (pur_lss rfl rfl) rfl (cT (cw_seq ?_))); refine cw_no rfl (by omega) ?_; refine cw_exit (qw_then_exit (qw_then_exit (qw_block_exit (qw_then (cS (cM rfl rfl (cA rfl rfl (cT (cw_ret (qw_ret1 rfl rfl ?_)))))))))); rotate_left 1
   rw [List.take_length]
   exact ⟨_, _, rfl, Toks.lt2 (S := (w.heap.size ≤ ·)) (OwnL.toks hown (fun b h => h)), X⟩
end Bk
namespace Bk
open Go Go.RowKit Go.Proofs
attribute [local irreducible] Go.Calls
section
variable {P : Program} {n : Nat} {ops : Array Oper} {Q : Exit → Act → World → Prop} {rest : List Oper} {l : Sl} {w : World} {tab : Tab} {ty : TypeId} {pos : String} {after : Array Edge}
theorem lw_mapput {x y z : Operand} {t kt e sz1 sz2 r : Nat} {k : List UInt8} {v : Value} {kvs : List (List UInt8 × Value)} (T : TabOk P tab) (ht : lookT tab t = some (.map kt e, sz1)) (hkt : lookT tab kt = some (.str, sz2)) (hx : ev l x = some (.map (some r))) (hy : ev l y = some (str k)) (hz : ev l z = some v) (hm : MapIs w r kvs)
 (kk : ∀ w1, MapIs w1 r (setS kvs k v) → Fr (· = r) w w1 → LW P n ops Q rest l w1) : LW P n ops Q (⟨none, .mapUpdate t x y z, ty, pos, after, none⟩ :: rest) l w := by
 refine lw_does0 (K := MapPut w r (setS kvs k v)) ?_ (fun v w1 h => by cases v with | none => exact kk w1 h.1 h.2.1 | some _ => exact h.elim)
 unfold Does
 intro a dst pos after g next Q ha _ hn; obtain ⟨w1, h1, h2, h3, h4⟩ := run_mapUpdate (P := P) (k := k) (v := v) T ht hkt hm
 have e1 : (execOp a.eval ⟨dst, .mapUpdate t x y z, ty, pos, after, g⟩).run P w = .ok .skip w1 := by
  simp only [execOp, ha.ev hx, ha.ev hy, ha.ev hz, Sem.run_bind, h1, Result.andThen, Sem.run_pure]
 unfold Oper.wp
 rw [e1]
 exact hn w1 ⟨h2, h3, h4⟩
theorem lw_makeMap {t d : Nat} (hd : Nat.blt d n = true) (k : ∀ r w1, r = w.heap.size → MapIs w1 r [] → Ext w w1 → w1.heap.size = r + 1 → LW P n ops Q rest ((d, .map (some r)) :: l) w1) : LW P n ops Q (⟨some d, .makeMap t none, ty, pos, after, none⟩ :: rest) l w :=
 lw_does does_makeMap hd (fun v w1 ⟨r, h1, h2, h3, h4, h5⟩ => by subst h1; exact k r w1 h2 h3 h4 h5) (fun _ h => h)
end
def u8Shape : Shape Int where
 sz := 1
 rep := fun _ _ v cs => cs = [.int .u8 v]
 len := fun h => by rw [h]; rfl
 one := fun h => by rw [h]; rfl
 mono := fun h _ _ => h
 lt := fun h => h
def ops8 (j : Nat) : List Int := (List.range j).map fun (i : Nat) => (8 : Int) + (i : Int)
theorem ops8_snoc (j : Nat) : ops8 (j + 1) = ops8 j ++ [8 + (j : Int)] := by simp [ops8, List.range_succ]
theorem ops8_len (j : Nat) : (ops8 j).length = j := by simp [ops8]
def OpsR (w : World) : Ending → World → Prop := fun e w' => ∃ b k, e = .returned (.slice (some ⟨b, 0, none⟩) 16 k) ∧ w.heap.size ≤ b ∧ b < w'.heap.size ∧ Row w' ⟨b, 0, none⟩ ((ops8 16).map (.int .u8 ·)) ∧ Ext w w'
theorem OpsR.ret {w : World} {e : Ending} {w' : World} (h : OpsR w e w') : ∃ v, e = .returned v := by
 obtain ⟨_, _, h, -⟩ := h
 exact ⟨_, h⟩
set_option maxRecDepth 100000 in
set_option maxHeartbeats 2000000 in
theorem Operators_c (w : World) : Calls Tryz.prog 56 #[] w (OpsR w) := by
 have X := Ext.refl w; refine calls_in (args := []) Tryz.func56 Tryz.ntmps56 rfl rfl ?_
 focus
  refine cS (cA rfl rfl (cN (cA rfl rfl (cT (cw_seq (cS (cA rfl rfl (cT (cw_block ?_))))))))); rotate_left 1
 refine cw_loop (ι := Nat × Option Addr × Nat) (fun x => [(1, .slice x.2.1 (ops8 x.1).length x.2.2), (2, .int .u8 (8 + (x.1 : Int)))])
  (fun x w' => OwnL u8Shape w' w.heap.size 5 (.slice x.2.1 (ops8 x.1).length x.2.2) (ops8 x.1) ∧ Ext w w' ∧ x.1 ≤ 16) (fun x => 16 - x.1) (0, none, 0) (by (refine sub_cons rfl ?_; refine sub_cons rfl ?_; exact sub_nil)) ⟨OwnL.nil, X, Nat.zero_le _⟩ ?_
 rintro ⟨j, a, cap⟩ w1 ⟨hown, X, hj⟩; simp only at hown hj; have hsz := X.size; have hl := ops8_len j; refine CW.sub (m := [(1, .slice a (ops8 j).length cap), (2, .int .u8 (8 + (j : Int)))]) ?_ (by (refine sub_cons rfl ?_; refine sub_cons rfl ?_; exact sub_nil))
 by_cases hlt : j < 16
 · have hsn := ops8_snoc j
   focus
    refine cw_seq (cS (cM rfl rfl (lw_pure (pur_leq rfl rfl) rfl (cT ?_)))); refine cw_yes rfl (by omega) ?_; refine cw_skip (qw_then (cw_seq (cw_block (cw_region (cM rfl rfl (cM rfl rfl ?_)))))); (refine lw_does (does_slice' [_] tabOk zOk rfl rfl rfl rfl rfl rfl rfl rfl rfl) rfl ?_ (fun _ h => h); rintro _ wa2 ⟨ba1, rfl, na3, ta4⟩); clear ta4; have ha5 := na3.blk; have xa6 := na3.ext; have pa7 := na3.pos; have za8 := na3.size; clear na3; replace hown := hown.ext xa6; replace X := X.ext xa6; clear xa6; refine lw_appendL (sh := u8Shape) (z := 8 + (j : Int)) tabOk zOk rfl rfl rfl rfl (by kernel_rfl) rfl rfl rfl hown (Blk.row (by assumption)) rfl (by omega) (by omega) rfl ?_; rintro ga9 cap'a10 wa11 ha12 fa13; have za14 := fa13.size; clear ha5 hown; replace X := X.fr fa13 (by omega); clear fa13; refine cA rfl rfl (lw_nil (qw_block_norm (qw_then (cw_region (cM rfl rfl ?_))))); refine lw_pure (pur_add rfl rfl (u8_wrap _ (by omega) (by omega))) rfl ?_; refine cA rfl rfl (lw_nil ?_); rotate_left 1
   refine qw_round (j + 1, some ⟨_, 0, none⟩, _) ?_ ⟨by rw [hsn]; assumption, X, by simp only; omega⟩ (by simp only; omega); refine sub_cons' rfl (by rw [hsn]) (sub_cons' rfl ?_ sub_nil)
   simp only [Value.int.injEq, true_and]; omega
 · have : j = 16 := by omega
   subst this
   focus
    refine cw_seq (cS (cM rfl rfl (lw_pure (pur_leq rfl rfl) rfl (cT ?_)))); refine cw_no rfl (by decide) ?_; refine cw_exit (qw_then_exit (qw_then_exit (qw_block_exit (qw_then (cS (cM rfl rfl (cA rfl rfl (cT (cw_ret (qw_ret1 rfl rfl ?_)))))))))); rotate_left 1
   obtain ⟨g, cap', hv, hg, hall⟩ := hown.rows (by decide); simp only [Value.slice.injEq] at hv; obtain ⟨rfl, -, -⟩ := hv
   have hrow : Row w1 ⟨g, 0, none⟩ ((ops8 16).map (.int .u8 ·)) := fun i v hi => by
    rw [List.getElem?_map, Option.map_eq_some_iff] at hi; obtain ⟨x, hx, rfl⟩ := hi; obtain ⟨cs, hr, rfl⟩ := hall i x hx; have := hr.at0 rfl
    have e : (⟨g, 0, none⟩ : Addr).add i = ⟨g, i * u8Shape.sz, none⟩ := by
     have : u8Shape.sz = 1 := rfl
     unfold Addr.add; by_cases h0 : i = 0 <;> simp [h0, this]
    rw [e]; exact this
   exact ⟨g, cap, by rw [ops8_len], hg, hown.lt rfl, hrow, X⟩
def wholeT (t : Nd) (σ : PS) : Nd × Int × Int := if σ.err ≠ 0 then (zeroNd, σ.off, σ.err) else (t, 0, 0)
def WholeR (w : World) (pb : Nat) (S : Nat → Prop) (r : Nd × Int × Int) : Ending → World → Prop := fun e w' => ∃ a k, e = .returned (.tuple #[r.1.val a k, .int .i64 r.2.1, .int .i64 r.2.2]) ∧ r.1.sits S w' a ∧ Fr (· = pb) w w'
theorem WholeR.ret {w : World} {pb : Nat} {S : Nat → Prop} {r : Nd × Int × Int} {e : Ending} {w' : World} (h : WholeR w pb S r e w') : ∃ v, e = .returned v := by
 obtain ⟨_, _, h, -⟩ := h
 exact ⟨_, h⟩
set_option maxRecDepth 100000 in
set_option maxHeartbeats 1000000 in
theorem whole_c (c : PC) (σ : PS) (t : Nd) (S : Nat → Prop) (a : Option Addr) (k : Nat) (w : World) (hP : PP c σ w) (hz : t.size ≤ 1000000000) (hs : t.sits S w a) (hS : ∀ b, S b → b ≠ c.pb ∧ b < w.heap.size) :
 Calls Tryz.prog 46 #[.pointer (some ⟨c.pb, 0, none⟩), t.val a k] w (WholeR w c.pb S (wholeT t (limitP t 0 σ))) := by
 have X := Fr.refl (· = c.pb) w; have hpb := hP.pbB; have hB := hP.B
 by_cases h : (limitP t 0 σ).err = 0
 · rw [show wholeT t (limitP t 0 σ) = (t, 0, 0) from by simp [wholeT, h]]
   refine calls_in Tryz.func46 Tryz.ntmps46 rfl rfl ?_
   focus
    refine cS ?_; (refine lw_box' [_, _, _, _] rfl rfl rfl ?_; intro b1 w2 n3); have h4 := n3.blk; have x5 := n3.ext; have p6 := n3.pos; have z7 := n3.size; clear n3; replace hP := hP.ext x5; replace hs := Nd.sits.ext hs x5; replace X := X.ext x5; clear x5; (refine lw_alloc' [_, _, _, _] zOk rfl rfl ?_; intro b8 w9 n10); have h12 := n10.blk; have x13 := n10.ext; have p14 := n10.pos; have z15 := n10.size; clear n10; replace h4 := h4.ext x13; replace hP := hP.ext x13; replace hs := Nd.sits.ext hs x13; replace X := X.ext x13; clear x13; refine cA rfl rfl (cA rfl rfl (cN (cM rfl rfl (lw_loads_b' [_, _, _, _] tabOk rfl rfl rfl h4 rfl rfl rfl ?_)))); refine cC (by kernel_rfl) rfl (limit_c _ _ _ _ _ _ _ _ (by assumption) (by omega) (by assumption)) rfl ?_; rintro _ w18 ⟨⟨⟩, ⟨h16, f17⟩⟩; have z19 := f17.size; replace h12 := h12.fr f17 (by omega); replace h4 := h4.fr f17 (by omega); clear hP; replace hs := Nd.sits.fr hs f17 (fun k hk e => by have := hS k hk; omega); replace X := X.fr f17 (by omega); clear f17; refine cT (cw_seq (cS (cM rfl rfl (lw_pure (pur_nilCheck rfl) rfl (lw_pure (pur_fieldAddr tabOk rfl rfl rfl) rfl (lw_load_b tabOk rfl rfl rfl (PP.blk h16) rfl rfl (lw_pure (pur_neq rfl rfl) rfl (cT ?_)))))))); refine cw_no rfl (by omega) ?_; refine cw_skip (qw_then (cS (lw_loads_b' [_, _, _, _] tabOk rfl rfl rfl h4 rfl rfl rfl ?_))); (refine lw_store' [_, _, _, _] [_, _, _, _] tabOk rfl rfl rfl rfl rfl rfl h12 rfl rfl ?_; intro w20 n21); have h24 := n21.blk; have f22 := n21.fr; have z23 := n21.size
    clear n21 h12; replace h16 := h16.fr f22 (by omega); replace h4 := h4.fr f22 (by omega); replace hs := Nd.sits.fr hs f22 (fun k hk e => by have := hS k hk; omega); replace X := X.fr f22 (by omega); clear f22; refine cA rfl rfl (cA rfl rfl (cT (cw_ret (qw_retc3 rfl tabOk rfl rfl rfl h24 rfl rfl rfl ?_)))); rotate_left 1
   exact ⟨_, _, rfl, by assumption, X⟩
 · rw [show wholeT t (limitP t 0 σ) = (zeroNd, (limitP t 0 σ).off, (limitP t 0 σ).err) from by simp [wholeT, h]]
   refine calls_in Tryz.func46 Tryz.ntmps46 rfl rfl ?_
   focus
    refine cS ?_; (refine lw_box' [_, _, _, _] rfl rfl rfl ?_; intro ba1 wa2 na3); have ha4 := na3.blk; have xa5 := na3.ext; have pa6 := na3.pos; have za7 := na3.size; clear na3; replace hP := hP.ext xa5; replace hs := Nd.sits.ext hs xa5; replace X := X.ext xa5; clear xa5; (refine lw_alloc' [_, _, _, _] zOk rfl rfl ?_; intro ba8 wa9 na10); have ha12 := na10.blk; have xa13 := na10.ext; have pa14 := na10.pos; have za15 := na10.size; clear na10; replace ha4 := ha4.ext xa13; replace hP := hP.ext xa13; replace hs := Nd.sits.ext hs xa13; replace X := X.ext xa13; clear xa13; refine cA rfl rfl (cA rfl rfl (cN (cM rfl rfl (lw_loads_b' [_, _, _, _] tabOk rfl rfl rfl ha4 rfl rfl rfl ?_)))); refine cC (by kernel_rfl) rfl (limit_c _ _ _ _ _ _ _ _ (by assumption) (by omega) (by assumption)) rfl ?_; rintro _ wa18 ⟨⟨⟩, ⟨ha16, fa17⟩⟩; have za19 := fa17.size; replace ha12 := ha12.fr fa17 (by omega); replace ha4 := ha4.fr fa17 (by omega); clear hP; replace hs := Nd.sits.fr hs fa17 (fun k hk e => by have := hS k hk; omega); replace X := X.fr fa17 (by omega); clear fa17; refine cT (cw_seq (cS (cM rfl rfl (lw_pure (pur_nilCheck rfl) rfl (lw_pure (pur_fieldAddr tabOk rfl rfl rfl) rfl (lw_load_b tabOk rfl rfl rfl (PP.blk ha16) rfl rfl (lw_pure (pur_neq rfl rfl) rfl (cT ?_)))))))); refine cw_yes rfl (by assumption) ?_; refine cw_seq ?_; (refine cw_tdraw (fun wz => Fr (fun x => x = ba8) wa18 wz) 11 (.pure 0 (.pure 1 (.pure 2 (.pure 3 (.pure 4 (.pure 5 (.pure 6 (.pure 7 (.pure 8 (.fork 9 (.pure 10 .tail) .none)))))))))) mixed (by kernel_rfl) (panicOk_then (panicOk_then panicOk_body)) ?_; intro wa20 xa21 _)
    have qsa22 : (fun wz => Fr (fun x => x = ba8) wa18 wz) wa20 := Fr.of_ext xa21; simp only at qsa22; have d_ha16 := ha16; have d_ha12 := ha12; have d_ha4 := ha4; have d_hs := hs; have za23 := xa21.size; replace ha16 := ha16.ext xa21; replace ha12 := ha12.ext xa21; replace ha4 := ha4.ext xa21; replace hs := Nd.sits.ext hs xa21; replace X := X.ext xa21; clear xa21; refine ⟨qsa22, ?_⟩; refine tw_pure rfl (pur_build' [_, _, _, _] tabOk zOk rfl rfl rfl rfl) rfl (tw_pure rfl (pur_move rfl) rfl (tw_pure rfl (pur_nilCheck rfl) rfl (tw_pure rfl (pur_fieldAddr tabOk rfl rfl rfl) rfl ?_))); refine tw_pure rfl (pur_load tabOk rfl rfl rfl (fun wz hz => Blk.cell (Blk.fr (PP.blk d_ha16) hz (by omega)) rfl)) rfl ?_; refine tw_pure rfl (pur_move rfl) rfl (tw_pure rfl (pur_nilCheck rfl) rfl (tw_pure rfl (pur_fieldAddr tabOk rfl rfl rfl) rfl ?_)); refine tw_pure rfl (pur_load tabOk rfl rfl rfl (fun wz hz => Blk.cell (Blk.fr (PP.blk d_ha16) hz (by omega)) rfl)) rfl ?_; (refine tw_store [_, _, _, _] [_, _, _, _] rfl tabOk rfl rfl rfl rfl rfl rfl ha12 rfl rfl ?_ tw_none; intro wa24 na25); have ha28 := na25.blk; have fa26 := na25.fr; have za27 := na25.size; clear na25 ha12; replace qsa22 := qsa22.fr fa26 (by omega); replace ha16 := ha16.fr fa26 (by omega); replace ha4 := ha4.fr fa26 (by omega); replace hs := Nd.sits.fr hs fa26 (fun k hk e => by have := hS k hk; omega); replace X := X.fr fa26 (by omega); clear fa26; refine ⟨qsa22, ?_⟩; refine tw_pure rfl (pur_assign rfl) rfl ?_; clear d_ha16 d_ha12 d_ha4 d_hs qsa22
    refine tw_tail rfl (cA rfl rfl (cT (cw_ret (qw_then_ret (qw_retc3 rfl tabOk rfl rfl rfl ha28 rfl rfl rfl ?_))))); rotate_left 1
   exact ⟨_, _, rfl, sits_nil, X⟩
end Bk
namespace Bk
open Go Go.RowKit Go.Proofs
attribute [local irreducible] Go.Calls
theorem setS_bin (j : Nat) (h : j < 16) : setS (binMap.take j) (symbol (8 + (j : Int))) (.int .u8 (8 + (j : Int))) = binMap.take (j + 1) := by
 have : j = 0 ∨ j = 1 ∨ j = 2 ∨ j = 3 ∨ j = 4 ∨ j = 5 ∨ j = 6 ∨ j = 7 ∨ j = 8 ∨ j = 9 ∨ j = 10 ∨ j = 11 ∨ j = 12 ∨ j = 13 ∨ j = 14 ∨ j = 15 := by omega
 rcases this with rfl | rfl | rfl | rfl | rfl | rfl | rfl | rfl | rfl | rfl | rfl | rfl | rfl | rfl | rfl | rfl <;> rfl
def StartR (s : List UInt8) (w : World) : Ending → World → Prop := fun e w' => ∃ c : PC, e = .returned (.pointer (some ⟨c.pb, 0, none⟩)) ∧ (c.ts = (startP s).1 ∧ c.n = s.length ∧ w.heap.size ≤ c.pb) ∧ PP c (startP s).2 w' ∧ Ext w w' ∧ c.B ≤ w'.heap.size
theorem StartR.ret {s : List UInt8} {w : World} {e : Ending} {w' : World} (h : StartR s w e w') : ∃ v, e = .returned v := by
 obtain ⟨_, h, -⟩ := h
 exact ⟨_, h⟩
theorem Syms.lt {w : World} (h : Syms w) : 0 < w.heap.size := cell_lt (h.sym 0 (by omega))
theorem Errs.lt {w : World} (h : Errs w) : 3 < w.heap.size := by
 obtain ⟨te, pe, h⟩ := h.ex
 exact cell_lt h
set_option maxRecDepth 100000 in
set_option maxHeartbeats 4000000 in
theorem start_c (s : List UInt8) (w : World) (hs : s.length ≤ 1000000) (hS : Syms w) (hE : Errs w) : Calls Tryz.prog 43 #[str s] w (StartR s w) := by
 have X := Ext.refl w; have hg1 := hS.lt; have hg2 := hE.lt; have hl1 := lexT_len s; refine calls_in Tryz.func43 Tryz.ntmps43 rfl rfl ?_
 focus
  refine cS (cA rfl rfl (cN (cM rfl rfl ?_))); refine cR (by kernel_rfl) rfl (Lex_c _ _ (by omega)) (fun _ _ h => h.ret) rfl ?_; rintro _ w5 ⟨a1, ⟨k2, ⟨⟨⟩, ⟨h3, x4⟩⟩⟩⟩; have z6 := x4.size; replace hS := hS.ext x4; replace hE := hE.ext x4; replace X := X.ext x4; clear x4; refine cM rfl rfl (lw_pure (pur_extract rfl rfl) rfl (lw_pure (pur_extract rfl rfl) rfl (lw_pure (pur_extract rfl rfl) rfl (cA rfl rfl (cA rfl rfl (cA rfl rfl (cN (cM rfl rfl ?_)))))))); refine cR (by kernel_rfl) rfl (Solid_c _ _ _ _ _ (by omega) (by assumption) (by intro b h; exact h.2)) (fun _ _ h => h.ret) rfl ?_; rintro _ w11 ⟨a7, ⟨k8, ⟨⟨⟩, ⟨h9, x10⟩⟩⟩⟩; have z12 := x10.size; replace h3 := h3.ext x10; replace hS := hS.ext x10; replace hE := hE.ext x10; replace X := X.ext x10; clear x10; refine cM rfl rfl (lw_pure (pur_len_s tabOk rfl rfl) rfl (lw_makeMap rfl ?_)); rintro r13 w14 rfl h15 x16 h17; have z18 := x16.size; replace h9 := h9.ext x16; replace h3 := h3.ext x16; replace hS := hS.ext x16; replace hE := hE.ext x16; replace X := X.ext x16; clear x16; refine cM rfl rfl (cM rfl rfl (lw_pure (pur_build' [_, _, _, _, _, _] tabOk zOk rfl rfl rfl rfl) rfl ?_)); (refine lw_box' [_, _, _, _, _, _] rfl rfl rfl ?_; intro b19 w20 n21); have h22 := n21.blk; have x23 := n21.ext; have p24 := n21.pos; have z25 := n21.size; clear n21; replace h15 := h15.ext x23; replace h9 := h9.ext x23; replace h3 := h3.ext x23; replace hS := hS.ext x23; replace hE := hE.ext x23; replace X := X.ext x23; clear x23; refine cA rfl rfl (cT (cw_seq (cS ?_)))
  refine cR (by kernel_rfl) rfl (Operators_c _) (fun _ _ h => h.ret) rfl ?_; rintro _ w32 ⟨b26, ⟨k27, ⟨⟨⟩, ⟨h28, ⟨h29, ⟨h30, x31⟩⟩⟩⟩⟩⟩; have z33 := x31.size; replace h22 := h22.ext x31; replace h15 := h15.ext x31; replace h9 := h9.ext x31; replace h3 := h3.ext x31; replace hS := hS.ext x31; replace hE := hE.ext x31; replace X := X.ext x31; clear x31; refine lw_pure (pur_len_slice tabOk rfl rfl) rfl (cM rfl rfl (cT (cw_block ?_))); rotate_left 1
 generalize hr : w11.heap.size = r at *
 refine cw_loop (ι := Nat) (fun j => [(6, .pointer (some ⟨b19, 0, none⟩)), (24, .slice (some ⟨b26, 0, none⟩) 16 k27), (25, .int .i64 16), (26, .int .i64 j)])
  (fun j w' => j ≤ 16 ∧ MapIs w' r (binMap.take j) ∧ Row w' ⟨b26, 0, none⟩ ((ops8 16).map (.int .u8 ·)) ∧ Blk w' b19 [.slice a7 (solidT (lexT s).1).length k8, .int .i64 0, .int .i64 s.length, .map (some r), .int .i64 (lexT s).2.1, .int .i64 (lexT s).2.2] ∧
   Toks (fun b => w5.heap.size ≤ b ∧ b < r) w' (solidT (lexT s).1) a7 ∧ Syms w' ∧ Errs w' ∧ Ext w w' ∧ w32.heap.size ≤ w'.heap.size) (fun j => 16 - j) 0 (by (refine sub_cons rfl ?_; refine sub_cons rfl ?_; refine sub_cons rfl ?_; refine sub_cons rfl ?_; exact sub_nil)) ⟨Nat.zero_le _, h15, h30, h22, h9, hS, hE, X, Nat.le_refl _⟩ ?_
 rintro j w1 ⟨hj, hM, hrow, hb, hT, hS, hE, X, hz⟩; clear h15 h30 h22 h9 h3
 by_cases hlt : j < 16
 · have hr1 : Row w1 ⟨b26, 0 + j * 1, none⟩ [.int .u8 (8 + (j : Int))] := by
    have h1 := hrow.sub j 1
    have e : (((ops8 16).map (.int .u8 ·)).drop j).take 1 = [Value.int .u8 (8 + (j : Int))] := by
     have : j = 0 ∨ j = 1 ∨ j = 2 ∨ j = 3 ∨ j = 4 ∨ j = 5 ∨ j = 6 ∨ j = 7 ∨ j = 8 ∨ j = 9 ∨ j = 10 ∨ j = 11 ∨ j = 12 ∨ j = 13 ∨ j = 14 ∨ j = 15 := by omega
     rcases this with rfl | rfl | rfl | rfl | rfl | rfl | rfl | rfl | rfl | rfl | rfl | rfl | rfl | rfl | rfl | rfl <;> rfl
    rw [e] at h1
    rw [Nat.mul_one]; exact h1
   have hset := setS_bin j hlt
   focus
    refine cS (lw_pure (pur_lss rfl rfl) rfl (cT (cw_seq ?_))); refine cw_yes rfl (by omega) ?_; refine cw_skip (qw_then (cw_seq (cw_block (cS ?_)))); refine lw_pure (pur_indexAddr tabOk rfl rfl rfl rfl (by omega) (by omega)) rfl ?_; refine lw_load_r0 tabOk rfl rfl rfl hr1 rfl rfl (cA rfl rfl (cT ?_)); (refine cw_tdraw (fun wz => Ext w1 wz) 7 (.pure 0 (.pure 1 (.pure 2 (.pure 3 (.pure 4 (.pure 6 (.fork 5 .tail .none))))))) mixed (by kernel_rfl) (panicOk_block (panicOk_then (panicOk_then (panicOk_block (panicOk_then panicOk_body))))) ?_; intro wa1 xa2 _); have qsa3 : (fun wz => Ext w1 wz) wa1 := xa2; simp only at qsa3; have d_hM := hM; have d_hrow := hrow; have d_hb := hb; have d_hT := hT; have d_hS := hS; have d_hE := hE; have d_hr1 := hr1; have za4 := xa2.size; replace hM := hM.ext xa2; replace hrow := hrow.ext xa2; replace hb := hb.ext xa2; replace hT := hT.ext xa2; replace hS := hS.ext xa2; replace hE := hE.ext xa2; replace X := X.ext xa2; replace hr1 := hr1.ext xa2; clear xa2; refine ⟨qsa3, ?_⟩; refine tw_pure rfl (pur_move rfl) rfl (tw_pure rfl (pur_nilCheck rfl) rfl (tw_pure rfl (pur_fieldAddr tabOk rfl rfl rfl) rfl (tw_pure rfl (pur_load tabOk rfl rfl rfl (fun wz hz => Blk.cell (Blk.ext d_hb hz) rfl)) rfl (tw_pure rfl (pur_move rfl) rfl (tw_pure rfl (pur_move rfl) rfl ?_))))); refine tw_does rfl (does_call (by kernel_rfl) rfl (arith_Symbol_s _ _ (by omega) (by omega) (by assumption)) (fun _ _ h => ⟨_, h.1⟩)) rfl ?_ (fun _ h => h) tw_none; rintro _ wa5 ⟨⟨⟩, rfl⟩; refine ⟨qsa3, ?_⟩
    clear qsa3 d_hM d_hrow d_hb d_hT d_hS d_hE d_hr1; refine tw_tail rfl (lw_mapput tabOk rfl rfl rfl rfl rfl hM ?_); rintro wa6 ha7 fa8; have za9 := fa8.size; clear hM; replace hrow := Row.fr hrow fa8 (by simp only; omega); replace hb := hb.fr fa8 (by omega); replace hT := hT.fr fa8 (by omega); replace hS := hS.fr fa8 (by omega); replace hE := hE.fr fa8 (by omega); replace X := X.fr fa8 (by omega); replace hr1 := Row.fr hr1 fa8 (by simp only; omega); clear fa8; refine lw_nil (qw_block_norm (qw_then (cw_region ?_))); refine lw_pure (pur_add rfl rfl (IntWalk.i64_in _ (by omega))) rfl ?_; refine cM rfl rfl (lw_nil ?_); rotate_left 1
   refine qw_round (j + 1) (by (refine sub_cons rfl ?_; refine sub_cons rfl ?_; refine sub_cons rfl ?_; refine sub_cons rfl ?_; exact sub_nil)) ⟨by omega, by rw [← hset]; assumption, hrow, hb, hT, hS, hE, X, by omega⟩ (by omega)
 · have : j = 16 := by omega
   subst this
   focus
    refine cS (lw_pure (pur_lss rfl rfl) rfl (cT (cw_seq ?_))); refine cw_no rfl (by decide) ?_; refine cw_exit (qw_then_exit (qw_then_exit (qw_block_exit (qw_then (cS (cM rfl rfl (cA rfl rfl (cT (cw_ret (qw_ret1 rfl rfl ?_)))))))))); rotate_left 1
   have hsz := X.size; refine ⟨⟨b19, w1.heap.size, solidT (lexT s).1, s.length, a7, k8, r⟩, rfl, ⟨rfl, rfl, by simp only; omega⟩, ?_, X, Nat.le_refl _⟩; refine ⟨hb, hT.wide (fun b h => ⟨by simp only; omega, by simp only; omega⟩), hM, by simp only; omega, by simp only; omega, by simp only; omega, Nat.le_refl _, Nat.zero_le _, ?_, fun t ht => ?_, fun t ht => (solid_ok s t ht).num, hE, by simp only; omega⟩
   · exact Nat.le_trans (start_len s) hs
   · exact Nat.le_trans (solid_ok s t ht).len hs
end Bk
namespace Bk
open Go Go.RowKit Go.Proofs
attribute [local irreducible] Go.Calls
theorem fuel_ok {c : PC} {s : List UInt8} (h : c.ts = (startP s).1) (σ : PS) : 4 * mS c.ts σ + 20 ≤ fuelP s := by
 have h1 := start_len s
 have h2 : mS c.ts σ ≤ c.ts.length := by unfold mS; split <;> omega
 rw [h] at h2
 unfold fuelP
 rw [h]
 omega
def ParseR (w : World) (r : Nd × Int × Int) : Ending → World → Prop := fun e w' => ∃ a k, e = .returned (.tuple #[r.1.val a k, .int .i64 r.2.1, .int .i64 r.2.2]) ∧ r.1.sits (w.heap.size ≤ ·) w' a ∧ Ext w w'
theorem ParseR.ret {w : World} {r : Nd × Int × Int} {e : Ending} {w' : World} (h : ParseR w r e w') : ∃ v, e = .returned v := by
 obtain ⟨_, _, h, -⟩ := h
 exact ⟨_, h⟩
def ParsePR (w : World) (r : PG × Int × Int) : Ending → World → Prop := fun e w' => ∃ va vc pa pc ma mc, e = .returned (.tuple #[.agg (r.1.cells va vc pa pc ma mc).toArray, .int .i64 r.2.1, .int .i64 r.2.2]) ∧ r.1.sits (w.heap.size ≤ ·) w' va pa ma ∧ Ext w w'
theorem ParsePR.ret {w : World} {r : PG × Int × Int} {e : Ending} {w' : World} (h : ParsePR w r e w') : ∃ v, e = .returned v := by
 obtain ⟨_, _, _, _, _, _, h, -⟩ := h
 exact ⟨_, h⟩
theorem PG.sits.wide {S S' : Nat → Prop} {w : World} {g : PG} {va pa ma : Option Addr} (h : g.sits S w va pa ma) (hs : ∀ b, S b → S' b) : g.sits S' w va pa ma := ⟨h.vars.wide hs, h.procs.wide hs, h.main.wide hs⟩
section
variable {ts : List Tok} {n : Int}
theorem lines_le (k : Nat) : ∀ acc σ, σ.at_ ≤ ts.length → Le ts σ (linesP ts n k acc σ).2 := by
 induction k with
 | zero => intro acc σ h; rw [linesP]; exact Le.refl h
 | succ k ih =>
  intro acc σ h; rw [linesP]
  split
  · have l1 := (stmt_inv (ts := ts) (n := n) k).1 σ h
    have l2 := expect_le (n := n) (t := [59]) l1.wf (by decide)
    exact (l1.trans l2).trans (ih _ _ l2.wf)
  · exact Le.refl h
theorem lines_size (k : Nat) : ∀ acc σ, σ.at_ ≤ ts.length → rowSize (linesP ts n k acc σ).1 + 8 * σ.at_ ≤ 8 * (linesP ts n k acc σ).2.at_ + rowSize acc + (if σ.err = 0 then 1 else 0) := by
 induction k with
 | zero => intro acc σ h; rw [linesP]; simp only; split <;> omega
 | succ k ih =>
  intro acc σ h; rw [linesP]
  split
  · rename_i h0
    have s1 := (stmt_size (ts := ts) (n := n) k).1 σ h; have l1 := (stmt_inv (ts := ts) (n := n) k).1 σ h; have l2 := expect_le (n := n) (t := [59]) l1.wf (by decide); have s3 := ih (acc ++ [(stmtP ts n k σ).1]) _ l2.wf; rw [rowSize_append] at s3; simp only [rowSize] at s3; have e2 := l2.le
    have e3 : (expectP ts n (stmtP ts n k σ).2 [59]).err = 0 → (stmtP ts n k σ).2.at_ + 1 ≤ (expectP ts n (stmtP ts n k σ).2 [59]).at_ := fun e => expect_lt (n := n) e
    rw [if_pos h0.1]
    split at s3
    · rename_i e; have := e3 e; omega
    · omega
  · simp only; split <;> omega
end
theorem parseBlock_whole (s : List UInt8) (c : PC) (h1 : c.ts = (startP s).1) (h2 : c.n = s.length) : parseBlock s = wholeT (.mk 57 0 [] (linesP c.ts c.n (fuelP s) [] (startP s).2).1) (limitP (.mk 57 0 [] (linesP c.ts c.n (fuelP s) [] (startP s).2).1) 0 (linesP c.ts c.n (fuelP s) [] (startP s).2).2) := by
 unfold parseBlock wholeT
 rw [h1, h2]
set_option maxRecDepth 100000 in
set_option maxHeartbeats 4000000 in
theorem Block_p (s : List UInt8) (w : World) (hs : s.length ≤ 1000000) (hS : Syms w) (hE : Errs w) : Calls Tryz.prog 21 #[str s] w (ParseR w (parseBlock s)) := by
 have X := Ext.refl w; refine calls_in Tryz.func21 Tryz.ntmps21 rfl rfl ?_
 focus
  refine cS ?_; (refine lw_alloc' [_, _, _, _] zOk rfl rfl ?_; intro b1 w2 n3); have h5 := n3.blk; have x6 := n3.ext; have p7 := n3.pos; have z8 := n3.size; clear n3; replace hS := hS.ext x6; replace hE := hE.ext x6; replace X := X.ext x6; clear x6; refine cA rfl rfl (cA rfl rfl (cN (cM rfl rfl ?_))); refine cR (by kernel_rfl) rfl (start_c s _ hs (by assumption) (by assumption)) (fun _ _ h => h.ret) rfl ?_; rintro _ w16 ⟨c9, ⟨⟨⟩, ⟨⟨h10, ⟨h11, h12⟩⟩, ⟨h13, ⟨x14, h15⟩⟩⟩⟩⟩; have z17 := x14.size; replace h5 := h5.ext x14; replace hS := hS.ext x14; replace hE := hE.ext x14; replace X := X.ext x14; clear x14; refine cA rfl rfl (cN (lw_pure (pur_build' [_, _, _, _] tabOk zOk rfl rfl rfl rfl) rfl ?_)); (refine lw_alloc' [_, _, _, _] zOk rfl rfl ?_; intro b18 w19 n20); (refine lw_init' [_, _, _, _] tabOk rfl rfl rfl rfl rfl rfl n20 rfl ?_; clear n20; clear w19; intro w21 n20); have h22 := n20.blk; have x23 := n20.ext; have p24 := n20.pos; have z25 := n20.size; clear n20; replace h13 := h13.ext x23; replace h5 := h5.ext x23; replace hS := hS.ext x23; replace hE := hE.ext x23; replace X := X.ext x23; clear x23; refine cT (cw_seq (cw_block ?_)); rotate_left 1
 have hf := fuel_ok h10 (startP s).2; have hat := h13.at_; have hlen := h13.len; have hpb := h13.pbB; have hB := h13.B; rw [parseBlock_whole s c9 h10 h11]; have hbs := lines_size (n := c9.n) (fuelP s) [] _ hat; have hbw := (lines_le (n := c9.n) (fuelP s) [] _ hat).wf
 have hsz : (Nd.mk 57 0 [] (linesP c9.ts c9.n (fuelP s) [] (startP s).2).1).size ≤ 1000000000 := by
  simp only [Nd.size, rowSize] at hbs ⊢
  split at hbs <;> omega
 have hmt : mS c9.ts (startP s).2 ≤ c9.ts.length := by unfold mS; split <;> omega
 clear hbs hbw; refine cw_loop (ι := Nat × List Nd × Option Addr × Nat × PS) (fun _ => [(2, .pointer (some ⟨b1, 0, none⟩)), (3, .int .i64 0), (4, .int .i64 0), (5, .pointer (some ⟨c9.pb, 0, none⟩)), (6, .pointer (some ⟨b18, 0, none⟩))])
  (fun x w' => PP c9 x.2.2.2.2 w' ∧ Blk w' b18 [.int .u8 57, .int .i64 0, str [], .slice x.2.2.1 x.2.1.length x.2.2.2.1] ∧ OwnL ndShape w' (b18 + 1) 24 (.slice x.2.2.1 x.2.1.length x.2.2.2.1) x.2.1 ∧
   Blk w' b1 [.int .u8 0, .int .i64 0, .string ⟨#[]⟩, .slice none 0 0] ∧ Ext w w' ∧ w21.heap.size ≤ w'.heap.size ∧
   linesP c9.ts c9.n (fuelP s) [] (startP s).2 = linesP c9.ts c9.n x.1 x.2.1 x.2.2.2.2 ∧ (x.2.2.2.2.err = 0 → 4 * mS c9.ts x.2.2.2.2 + 7 ≤ x.1) ∧ 1 ≤ x.1 ∧ (x.2.2.2.2.err = 0 → x.2.1.length + mS c9.ts x.2.2.2.2 ≤ 1000001)) (fun x => x.1) (fuelP s, [], none, 0, (startP s).2) (by (refine sub_cons rfl ?_; refine sub_cons rfl ?_; refine sub_cons rfl ?_; refine sub_cons rfl ?_; refine sub_cons rfl ?_; exact sub_nil))
  ⟨h13, h22, OwnL.nil, h5, X, Nat.le_refl _, rfl, fun _ => by simp only; omega, by simp only; omega, fun _ => by simp only [List.length_nil]; omega⟩ ?_
 rintro ⟨j, acc, a, cap, σ'⟩ w1 ⟨hP, hbn, hown, hbr, X, hz, he, hfj, hj1, hacc⟩; simp only at hP hbn hown he hfj hj1 hacc; clear h13 h22 h5 hS hE; rw [he] at hsz ⊢; obtain ⟨j, rfl⟩ : ∃ i, j = i + 1 := ⟨j - 1, by omega⟩
 have hob : ∀ g, (Value.slice a acc.length cap).ownBlock = some g → g < w1.heap.size := fun g h => hown.lt h
 by_cases hc : σ'.err = 0 ∧ σ'.at_ < c9.ts.length
 case neg =>
  rw [show linesP c9.ts c9.n (j + 1) acc σ' = (acc, σ') from by rw [linesP]; simp [hc]] at hsz ⊢; have hst : (Nd.mk 57 0 [] acc).sits (fun b => w.heap.size ≤ b ∧ b ≠ c9.pb ∧ b ≠ b1 ∧ b < w1.heap.size) w1 a := Nd.sits.wide (sits_lt2 _ _ (sits_mk (hown.sits (S := (b18 < ·)) (fun b h => h)))) (fun b h => ⟨by omega, by omega, by omega, h.2⟩)
  by_cases h0 : σ'.err = 0
  · have h1 : ¬ σ'.at_ < c9.ts.length := fun h => hc ⟨h0, h⟩
    focus
     refine cw_seq (cw_seq ?_); (refine cw_tdraw (fun wz => Ext w1 wz) 15 (.pure 0 (.pure 1 (.pure 2 (.pure 3 (.pure 4 (.pure 5 (.pure 6 (.pure 7 (.pure 8 (.pure 9 (.pure 10 (.pure 11 (.pure 12 (.pure 13 (.pure 14 .tail))))))))))))))) mixed (by kernel_rfl) (panicOk_then (panicOk_then (panicOk_then (panicOk_block (panicOk_then panicOk_body))))) ?_; intro wa1 xa2 _); have qsa3 : (fun wz => Ext w1 wz) wa1 := xa2; simp only at qsa3; have d_hP := hP; have d_hbn := hbn; have d_hown := hown; have d_hbr := hbr; have d_hst := hst; have za4 := xa2.size; replace hP := hP.ext xa2; replace hbn := hbn.ext xa2; replace hown := hown.ext xa2; replace hbr := hbr.ext xa2; replace X := X.ext xa2; replace hst := Nd.sits.ext hst xa2; clear xa2; refine ⟨qsa3, ?_⟩; refine tw_pure rfl (pur_move rfl) rfl (tw_pure rfl (pur_nilCheck rfl) rfl (tw_pure rfl (pur_fieldAddr tabOk rfl rfl rfl) rfl (tw_pure rfl (pur_load tabOk rfl rfl rfl (fun wz hz => Blk.cell (Blk.ext (PP.blk d_hP) hz) rfl)) rfl (tw_pure rfl (pur_eql rfl rfl) rfl (tw_pure rfl (pur_move rfl) rfl ?_))))); refine tw_on rfl rfl rfl rfl (gd_tt (by assumption)) (pur_move rfl) rfl ?_; refine tw_on rfl rfl rfl rfl (gd_tt (by assumption)) (pur_nilCheck rfl) rfl ?_; refine tw_on rfl rfl rfl rfl (gd_tt (by assumption)) (pur_fieldAddr tabOk rfl rfl rfl) rfl ?_; refine tw_on rfl rfl rfl rfl (gd_tt (by assumption)) (pur_load tabOk rfl rfl rfl (fun wz hz => Blk.cell (Blk.ext (PP.blk d_hP) hz) rfl)) rfl ?_; refine tw_on rfl rfl rfl rfl (gd_tt (by assumption)) (pur_move rfl) rfl ?_
     refine tw_on rfl rfl rfl rfl (gd_tt (by assumption)) (pur_nilCheck rfl) rfl ?_; refine tw_on rfl rfl rfl rfl (gd_tt (by assumption)) (pur_fieldAddr0 tabOk rfl rfl rfl) rfl ?_; refine tw_on rfl rfl rfl rfl (gd_tt (by assumption)) (pur_load tabOk rfl rfl rfl (fun wz hz => Blk.cell (Blk.ext (PP.blk d_hP) hz) rfl)) rfl ?_; refine tw_on rfl rfl rfl rfl (gd_tt (by assumption)) (pur_len_slice tabOk rfl rfl) rfl ?_; clear qsa3 d_hP d_hbn d_hown d_hbr d_hst; refine tw_tail rfl ?_; refine lw_on rfl rfl rfl (gd_tt (by assumption)) ?_; refine lw_pure (pur_lss rfl rfl) rfl ?_; refine lw_pure (pur_pick_yes rfl rfl (by assumption)) rfl ?_; refine cT ?_; refine cw_no rfl (by omega) ?_; refine cw_exit (qw_then_exit (qw_then_exit (qw_block_exit (qw_then (cS (cM rfl rfl (lw_loads_b' [_, _, _, _] tabOk rfl rfl rfl hbn rfl rfl rfl ?_))))))); refine cR (by kernel_rfl) rfl (whole_c _ _ (.mk 57 0 [] acc) _ _ _ _ (by assumption) hsz (by assumption) (by intro b h; exact ⟨by omega, by omega⟩)) (fun _ _ h => h.ret) rfl ?_; rintro _ wa9 ⟨aa5, ⟨ka6, ⟨⟨⟩, ⟨ha7, fa8⟩⟩⟩⟩; have za10 := fa8.size; clear hP; replace hbn := hbn.fr fa8 (by omega); replace hown := hown.fr fa8 (by omega); replace hbr := hbr.fr fa8 (by omega); replace X := X.fr fa8 (by omega); replace hst := Nd.sits.fr hst fa8 (by omega); clear fa8; refine lw_pure (pur_extract rfl rfl) rfl (lw_pure (pur_extract rfl rfl) rfl (lw_pure (pur_extract rfl rfl) rfl ?_)); (refine lw_store' [_, _, _, _] [_, _, _, _] tabOk rfl rfl rfl rfl rfl rfl hbr rfl rfl ?_; intro wa11 na12)
     have ha15 := na12.blk; have fa13 := na12.fr; have za14 := na12.size; clear na12 hbr; replace ha7 := Nd.sits.fr ha7 fa13 (by omega); replace hbn := hbn.fr fa13 (by omega); replace hown := hown.fr fa13 (by omega); replace X := X.fr fa13 (by omega); replace hst := Nd.sits.fr hst fa13 (by omega); clear fa13; refine cA rfl rfl (cA rfl rfl (cT (cw_ret (qw_retc3 rfl tabOk rfl rfl rfl ha15 rfl rfl rfl ?_)))); rotate_left 1
    exact ⟨_, _, rfl, Nd.sits.wide (by assumption) (fun b h => by omega), X⟩
  · focus
     refine cw_seq (cw_seq ?_); (refine cw_tdraw (fun wz => Ext w1 wz) 15 (.pure 0 (.pure 1 (.pure 2 (.pure 3 (.pure 4 (.pure 5 (.pure 6 (.pure 7 (.pure 8 (.pure 9 (.pure 10 (.pure 11 (.pure 12 (.pure 13 (.pure 14 .tail))))))))))))))) mixed (by kernel_rfl) (panicOk_then (panicOk_then (panicOk_then (panicOk_block (panicOk_then panicOk_body))))) ?_; intro wb1 xb2 _); have qsb3 : (fun wz => Ext w1 wz) wb1 := xb2; simp only at qsb3; have d_hP := hP; have d_hbn := hbn; have d_hown := hown; have d_hbr := hbr; have d_hst := hst; have zb4 := xb2.size; replace hP := hP.ext xb2; replace hbn := hbn.ext xb2; replace hown := hown.ext xb2; replace hbr := hbr.ext xb2; replace X := X.ext xb2; replace hst := Nd.sits.ext hst xb2; clear xb2; refine ⟨qsb3, ?_⟩; refine tw_pure rfl (pur_move rfl) rfl (tw_pure rfl (pur_nilCheck rfl) rfl (tw_pure rfl (pur_fieldAddr tabOk rfl rfl rfl) rfl (tw_pure rfl (pur_load tabOk rfl rfl rfl (fun wz hz => Blk.cell (Blk.ext (PP.blk d_hP) hz) rfl)) rfl (tw_pure rfl (pur_eql rfl rfl) rfl (tw_pure rfl (pur_move rfl) rfl ?_))))); refine tw_off rfl rfl rfl rfl (gd_tf (by assumption)) rfl ?_; refine tw_off rfl rfl rfl rfl (gd_tf (by assumption)) rfl ?_; refine tw_off rfl rfl rfl rfl (gd_tf (by assumption)) rfl ?_; refine tw_off rfl rfl rfl rfl (gd_tf (by assumption)) rfl ?_; refine tw_off rfl rfl rfl rfl (gd_tf (by assumption)) rfl ?_; refine tw_off rfl rfl rfl rfl (gd_tf (by assumption)) rfl ?_; refine tw_off rfl rfl rfl rfl (gd_tf (by assumption)) rfl ?_; refine tw_off rfl rfl rfl rfl (gd_tf (by assumption)) rfl ?_
     refine tw_off rfl rfl rfl rfl (gd_tf (by assumption)) rfl ?_; clear qsb3 d_hP d_hbn d_hown d_hbr d_hst; refine tw_tail rfl ?_; refine lw_off rfl rfl rfl (gd_tf (by assumption)) rfl ?_; refine lw_pure (pur_pick_no rfl rfl (by assumption)) rfl ?_; refine cT (cw_cond_f rfl (cw_exit (qw_then_exit (qw_then_exit (qw_block_exit (qw_then (cS (cM rfl rfl (lw_loads_b' [_, _, _, _] tabOk rfl rfl rfl hbn rfl rfl rfl ?_))))))))); refine cR (by kernel_rfl) rfl (whole_c _ _ (.mk 57 0 [] acc) _ _ _ _ (by assumption) hsz (by assumption) (by intro b h; exact ⟨by omega, by omega⟩)) (fun _ _ h => h.ret) rfl ?_; rintro _ wb9 ⟨ab5, ⟨kb6, ⟨⟨⟩, ⟨hb7, fb8⟩⟩⟩⟩; have zb10 := fb8.size; clear hP; replace hbn := hbn.fr fb8 (by omega); replace hown := hown.fr fb8 (by omega); replace hbr := hbr.fr fb8 (by omega); replace X := X.fr fb8 (by omega); replace hst := Nd.sits.fr hst fb8 (by omega); clear fb8; refine lw_pure (pur_extract rfl rfl) rfl (lw_pure (pur_extract rfl rfl) rfl (lw_pure (pur_extract rfl rfl) rfl ?_)); (refine lw_store' [_, _, _, _] [_, _, _, _] tabOk rfl rfl rfl rfl rfl rfl hbr rfl rfl ?_; intro wb11 nb12); have hb15 := nb12.blk; have fb13 := nb12.fr; have zb14 := nb12.size; clear nb12 hbr; replace hb7 := Nd.sits.fr hb7 fb13 (by omega); replace hbn := hbn.fr fb13 (by omega); replace hown := hown.fr fb13 (by omega); replace X := X.fr fb13 (by omega); replace hst := Nd.sits.fr hst fb13 (by omega); clear fb13; refine cA rfl rfl (cA rfl rfl (cT (cw_ret (qw_retc3 rfl tabOk rfl rfl rfl hb15 rfl rfl rfl ?_))))
     rotate_left 1
    exact ⟨_, _, rfl, Nd.sits.wide (by assumption) (fun b h => by omega), X⟩
 rw [show linesP c9.ts c9.n (j + 1) acc σ' = linesP c9.ts c9.n j (acc ++ [(stmtP c9.ts c9.n j σ').1]) (expectP c9.ts c9.n (stmtP c9.ts c9.n j σ').2 [59]) from by rw [linesP]; simp [hc]] at hsz ⊢; obtain ⟨h0, h1⟩ := hc; have l1 := (stmt_inv (ts := c9.ts) (n := c9.n) j).1 σ' hP.at_; have l2 := expect_le (n := c9.n) (t := [59]) l1.wf (by decide); have hlt : Lt σ' (expectP c9.ts c9.n (stmtP c9.ts c9.n j σ').2 [59]) := Lt.of_le l1 expect_lt; have hdrop := mS_drop (l1.trans l2) hlt; have hacc0 := hacc h0; have hfj0 := hfj h0; clear l1 l2
 focus
  refine cw_seq (cw_seq ?_); (refine cw_tdraw (fun wz => Ext w1 wz) 15 (.pure 0 (.pure 1 (.pure 2 (.pure 3 (.pure 4 (.pure 5 (.pure 6 (.pure 7 (.pure 8 (.pure 9 (.pure 10 (.pure 11 (.pure 12 (.pure 13 (.pure 14 .tail))))))))))))))) mixed (by kernel_rfl) (panicOk_then (panicOk_then (panicOk_then (panicOk_block (panicOk_then panicOk_body))))) ?_; intro wc1 xc2 _); have qsc3 : (fun wz => Ext w1 wz) wc1 := xc2; simp only at qsc3; have d_hP := hP; have d_hbn := hbn; have d_hown := hown; have d_hbr := hbr; have zc4 := xc2.size; replace hP := hP.ext xc2; replace hbn := hbn.ext xc2; replace hown := hown.ext xc2; replace hbr := hbr.ext xc2; replace X := X.ext xc2; clear xc2; refine ⟨qsc3, ?_⟩; refine tw_pure rfl (pur_move rfl) rfl (tw_pure rfl (pur_nilCheck rfl) rfl (tw_pure rfl (pur_fieldAddr tabOk rfl rfl rfl) rfl (tw_pure rfl (pur_load tabOk rfl rfl rfl (fun wz hz => Blk.cell (Blk.ext (PP.blk d_hP) hz) rfl)) rfl (tw_pure rfl (pur_eql rfl rfl) rfl (tw_pure rfl (pur_move rfl) rfl ?_))))); refine tw_on rfl rfl rfl rfl (gd_tt (by assumption)) (pur_move rfl) rfl ?_; refine tw_on rfl rfl rfl rfl (gd_tt (by assumption)) (pur_nilCheck rfl) rfl ?_; refine tw_on rfl rfl rfl rfl (gd_tt (by assumption)) (pur_fieldAddr tabOk rfl rfl rfl) rfl ?_; refine tw_on rfl rfl rfl rfl (gd_tt (by assumption)) (pur_load tabOk rfl rfl rfl (fun wz hz => Blk.cell (Blk.ext (PP.blk d_hP) hz) rfl)) rfl ?_; refine tw_on rfl rfl rfl rfl (gd_tt (by assumption)) (pur_move rfl) rfl ?_; refine tw_on rfl rfl rfl rfl (gd_tt (by assumption)) (pur_nilCheck rfl) rfl ?_
  refine tw_on rfl rfl rfl rfl (gd_tt (by assumption)) (pur_fieldAddr0 tabOk rfl rfl rfl) rfl ?_; refine tw_on rfl rfl rfl rfl (gd_tt (by assumption)) (pur_load tabOk rfl rfl rfl (fun wz hz => Blk.cell (Blk.ext (PP.blk d_hP) hz) rfl)) rfl ?_; refine tw_on rfl rfl rfl rfl (gd_tt (by assumption)) (pur_len_slice tabOk rfl rfl) rfl ?_; clear qsc3 d_hP d_hbn d_hown d_hbr; refine tw_tail rfl ?_; refine lw_on rfl rfl rfl (gd_tt (by assumption)) ?_; refine lw_pure (pur_lss rfl rfl) rfl ?_; refine lw_pure (pur_pick_yes rfl rfl (by assumption)) rfl ?_; refine cT ?_; refine cw_yes rfl (by omega) ?_; refine cw_skip (qw_then (cw_block (cw_seq ?_))); (refine cw_tdraw (fun wz => Fr (· = c9.pb) wc1 wz) 5 (.pure 0 (.pure 1 (.pure 2 (.fork 3 (.fork 4 .tail .none) .none)))) mixed (by kernel_rfl) (panicOk_then (panicOk_block (panicOk_then (panicOk_block (panicOk_then panicOk_body))))) ?_; intro wc5 xc6 _); have qsc7 : (fun wz => Fr (· = c9.pb) wc1 wz) wc5 := Fr.of_ext xc6; simp only at qsc7; have d_hP := hP; have d_hbn := hbn; have d_hown := hown; have d_hbr := hbr; have zc8 := xc6.size; replace hP := hP.ext xc6; replace hbn := hbn.ext xc6; replace hown := hown.ext xc6; replace hbr := hbr.ext xc6; replace X := X.ext xc6; clear xc6; refine ⟨qsc7, ?_⟩; refine tw_pure rfl (pur_fieldAddr tabOk rfl rfl rfl) rfl ?_; refine tw_pure rfl (pur_load tabOk rfl rfl rfl (fun wz hz => Blk.cell (Blk.fr d_hbn hz (by omega)) rfl)) rfl ?_; refine tw_pure rfl (pur_move rfl) rfl ?_; refine tw_does rfl (does_call (by kernel_rfl) rfl ((stmts_c c9 j).stmt _ _ (by assumption) (by omega)) (fun _ _ h => h.ret)) rfl ?_ (fun _ h => h) tw_none
  rintro _ wc14 ⟨ac9, ⟨kc10, ⟨⟨⟩, ⟨hc11, ⟨hc12, fc13⟩⟩⟩⟩⟩; have zc15 := fc13.size; replace qsc7 := qsc7.fr fc13 (by omega); clear hP; replace hbn := hbn.fr fc13 (by omega); replace hown := hown.fr fc13 (by omega); replace hbr := hbr.fr fc13 (by omega); replace X := X.fr fc13 (by omega); clear fc13; refine ⟨qsc7, ?_⟩; (refine tw_does rfl (does_slice' [_, _, _, _] tabOk zOk rfl rfl rfl rfl rfl rfl rfl rfl rfl) rfl ?_ (fun _ h => h) tw_none; rintro _ wc17 ⟨bc16, rfl, nc18, tc19⟩); clear tc19; have hc20 := nc18.blk; have xc21 := nc18.ext; have pc22 := nc18.pos; have zc23 := nc18.size; clear nc18; replace hc11 := Nd.sits.ext hc11 xc21; replace hc12 := hc12.ext xc21; replace qsc7 := qsc7.ext xc21; replace hbn := hbn.ext xc21; replace hown := hown.ext xc21; replace hbr := hbr.ext xc21; replace X := X.ext xc21; clear xc21; refine ⟨qsc7, ?_⟩; clear d_hP d_hbn d_hown d_hbr qsc7; refine tw_tail rfl ?_; refine lw_appendL (sh := ndShape) tabOk zOk rfl rfl rfl rfl (by kernel_rfl) rfl rfl rfl hown (Blk.row (by assumption)) ⟨_, _, rfl, Nd.sits.wide (by assumption) (fun b h => ⟨by omega, fun e => by have := hob _ e; omega⟩)⟩ (by omega) (by omega) rfl ?_; rintro gc24 cap'c25 wc26 hc27 fc28; have zc29 := fc28.size; clear hc20 hc11; replace hc12 := hc12.fr fc28 (by omega); replace hbn := hbn.fr fc28 (by omega); clear hown; replace hbr := hbr.fr fc28 (by omega); replace X := X.fr fc28 (by omega); clear fc28; refine lw_pure (pur_fieldAddr tabOk rfl rfl rfl) rfl ?_; (refine lw_store' [_] [_, _, _, _] tabOk rfl rfl rfl rfl rfl rfl hbn rfl rfl ?_; intro wc30 nc31)
  have hc34 := nc31.blk; have fc32 := nc31.fr; have zc33 := nc31.size; clear nc31 hbn; replace hc27 := hc27.fr fc32 (by omega); replace hc12 := hc12.fr fc32 (by omega); replace hbr := hbr.fr fc32 (by omega); replace X := X.fr fc32 (by omega); clear fc32; refine cT (cw_region (cM rfl rfl ?_)); refine cC (by kernel_rfl) rfl (expect_c _ _ _ _ (by assumption) (by decide)) rfl ?_; rintro _ wc37 ⟨⟨⟩, ⟨hc35, fc36⟩⟩; have zc38 := fc36.size; replace hc34 := hc34.fr fc36 (by omega); replace hc27 := hc27.fr fc36 (by omega); clear hc12; replace hbr := hbr.fr fc36 (by omega); replace X := X.fr fc36 (by omega); clear fc36; refine lw_nil (qw_block_norm ?_); rotate_left 1
 refine qw_round (j, acc ++ [(stmtP c9.ts c9.n j σ').1], some ⟨_, 0, none⟩, _, expectP c9.ts c9.n (stmtP c9.ts c9.n j σ').2 [59]) (by (refine sub_cons rfl ?_; refine sub_cons rfl ?_; refine sub_cons rfl ?_; refine sub_cons rfl ?_; refine sub_cons rfl ?_; exact sub_nil)) ⟨by assumption, by assumption, by assumption, by assumption, X, by omega, rfl, fun e => by have := hdrop e; simp only; omega, by simp only; omega, fun e => ?_⟩ (by simp); have := hdrop e; simp only [List.length_append, List.length_cons, List.length_nil]
 omega
end Bk
namespace Bk
open Go Go.RowKit Go.Proofs
def Tests (S : Nat → Prop) (f : FuncId) (p : Nd → Bool) (t : Nd) : Prop :=
 ∀ (a : Option Addr) (c : Nat) (w : World), t.sits S w a → Calls Tryz.prog f #[t.val a c] w fun e w' => e = .returned (.bool (p t)) ∧ Ext w w'
def Enters (f : FuncId) : Prop := ∀ args w, (callFunc f args).run Tryz.prog w = .ok (.enter f args) w
theorem every_c (f : FuncId) (p : Nd → Bool) (he : Enters f) (l : List Nd) (a : Option Addr) (c : Nat) (S : Nat → Prop) (w : World) (hl : l.length ≤ 9223372036854775807) (hs : rowSits S w l a) (ht : ∀ t ∈ l, Tests S f p t) :
 Calls Tryz.prog 29 #[.slice a l.length c, .func (.func f) #[] #[]] w fun e w' => e = .returned (.bool (l.all p)) ∧ Ext w w' := by
 have HT := Lib.hid ht; clear ht
 unfold Enters at he
 go_enter Tryz.func29, Tryz.ntmps29
 go_wp2_with fail
 go_loopw [9] (fun i wr => ∃ j : Nat, j ≤ l.length ∧ i = .int .i64 j ∧ Hid (l.all p = (l.drop j).all p) ∧ Ext w wr) (fun i _ => l.length - (intOf i).toNat)
 case atStart => exact ⟨0, Nat.zero_le _, rfl, Lib.hid rfl, Ext.refl _⟩
 case round =>
  obtain ⟨j, hj, rfl, HJ, hx⟩ := hrel
  by_cases hlt : j < l.length
  · have hg : l[j]? = some l[j] := List.getElem?_eq_getElem hlt
    have hmem : l[j] ∈ l := List.getElem_mem hlt; have hdrop := List.drop_eq_getElem_cons hlt
    generalize l[j] = t at *
    obtain ⟨b, o, a', c', rfl, hSb, g0, g1, g2, g3, hsk⟩ := rowSits_get (hs.ext hx) hg
    have HG := Lib.hid hg; clear hg
    have hall : l.all p = (p t && (l.drop (j + 1)).all p) := by rw [HJ.out, hdrop, List.all_cons]
    have HA := Lib.hid hall; clear hdrop hall
    go_wp2_with fail
    refine (HT.out t hmem a' c' _ (hsk.ext ((Ext.refl _).alloc _))).mono ?_; rintro e w1 ⟨rfl, hx1⟩
    cases hp : p t
    · have HP := Lib.hid hp; clear hp
      simp only
      go_wp2_with fail
      go_ret
      rw [HA.out, HP.out]
      exact ⟨rfl, (by refine Ext.trans ?_ (by assumption); refine Ext.alloc ?_ _; assumption)⟩
    · have HP := Lib.hid hp; clear hp
      simp only
      go_wp2_with fail
      go_roundw
      case rel => exact ⟨j + 1, by omega, by go_num, Lib.hid (by rw [HA.out, HP.out]; simp), (by refine Ext.trans ?_ (by assumption); refine Ext.alloc ?_ _; assumption)⟩
      case measure => simp [intOf]; omega
  · go_wp2_with fail
    go_ret
    rw [HJ.out, List.drop_eq_nil_of_le (by omega)]
    exact ⟨rfl, hx⟩
def kidsOk : List Nd → List (FuncId × (Nd → Bool)) → Bool
 | [], [] => true
 | t :: r, f :: fs => f.2 t && kidsOk r fs
 | _, _ => false
theorem kidsOk_len : ∀ (l : List Nd) (fs : List (FuncId × (Nd → Bool))), l.length ≠ fs.length → kidsOk l fs = false
 | [], [], h => absurd rfl h
 | [], _ :: _, _ => rfl
 | _ :: _, [], _ => rfl
 | t :: r, f :: fs, h => by simp only [kidsOk]; rw [kidsOk_len r fs (by simpa using h)]; simp
theorem kids_c (k n : Int) (s : List UInt8) (l : List Nd) (a : Option Addr) (c : Nat) (fs : List (FuncId × (Nd → Bool))) (tb tc : Nat) (S : Nat → Prop) (w : World)
 (hl : l.length ≤ 9223372036854775807) (hfl : fs.length ≤ 100) (hs : rowSits S w l a)
 (htb : ∀ i f, fs[i]? = some f → w.cell? ⟨tb, i, none⟩ = some (.func (.func f.1) #[] #[])) (he : ∀ f ∈ fs, Enters f.1) (ht : ∀ f ∈ fs, ∀ t ∈ l, Tests S f.1 f.2 t) :
 Calls Tryz.prog 25 #[.agg #[.int .u8 k, .int .i64 n, str s, .slice a l.length c], .slice (some ⟨tb, 0, none⟩) fs.length tc] w fun e w' => e = .returned (.bool (kidsOk l fs)) ∧ Ext w w' := by
 have HT := Lib.hid ht; clear ht
 have HE := Lib.hid he; clear he
 have HB := Lib.hid htb; clear htb
 by_cases hlen : l.length = fs.length
 · have dn : ((l.length : Int) != (fs.length : Int)) = false := by rw [hlen]; simp
   have HL := Lib.hid hlen
   have hlen1 : l.length ≤ fs.length := by omega
   have hlen2 : fs.length ≤ l.length := by omega
   clear hlen
   go_enter Tryz.func25, Tryz.ntmps25
   go_wp2_with fail
   go_loopw [15] (fun i wr => ∃ j : Nat, j ≤ fs.length ∧ i = .int .i64 j ∧ Hid (kidsOk l fs = kidsOk (l.drop j) (fs.drop j)) ∧ Ext (w.alloc (.cells #[.int .u8 k, .int .i64 n, str s, .slice a l.length c] 24)) wr) (fun i _ => fs.length - (intOf i).toNat)
   case atStart => exact ⟨0, Nat.zero_le _, rfl, Lib.hid rfl, Ext.refl _⟩
   case round =>
    obtain ⟨j, hj, rfl, HJ, hx⟩ := hrel; have hcs := hx.cells
    by_cases hlt : j < fs.length
    · have hlt' : j < l.length := by omega
      have hg : l[j]? = some l[j] := List.getElem?_eq_getElem hlt'; have hmem : l[j] ∈ l := List.getElem_mem hlt'; have hdrop := List.drop_eq_getElem_cons hlt'; have hgf : fs[j]? = some fs[j] := List.getElem?_eq_getElem hlt; have hmemf : fs[j] ∈ fs := List.getElem_mem hlt; have hdropf := List.drop_eq_getElem_cons hlt
      generalize l[j] = t at *
      generalize fs[j] = f at *
      have hxx : Ext w wr := Ext.trans ((Ext.refl _).alloc _) hx; obtain ⟨b, o, a', c', rfl, hSb, g0, g1, g2, g3, hsk⟩ := rowSits_get (hs.ext hxx) hg
      have HG := Lib.hid hg; clear hg
      have ht0 := hxx.keep (HB.out j f hgf)
      have HGF := Lib.hid hgf; clear hgf
      have hall : kidsOk l fs = (f.2 t && kidsOk (l.drop (j + 1)) (fs.drop (j + 1))) := by rw [HJ.out, hdrop, hdropf]; rfl
      have HA := Lib.hid hall; clear hdrop hall hdropf
      have hen := HE.out f hmemf
      unfold Enters at hen
      go_wp2_with fail
      refine (HT.out f hmemf t hmem a' c' _ hsk).mono ?_; rintro e w1 ⟨rfl, hx1⟩
      cases hp : f.2 t
      · have HP := Lib.hid hp; clear hp
        simp only
        go_wp2_with fail
        go_ret
        rw [HA.out, HP.out]
        exact ⟨rfl, (by refine Ext.trans ?_ (by assumption); assumption)⟩
      · have HP := Lib.hid hp; clear hp
        simp only
        go_wp2_with fail
        go_roundw
        case rel => exact ⟨j + 1, by omega, by go_num, Lib.hid (by rw [HA.out, HP.out]; simp), (by refine Ext.trans ?_ (by assumption); assumption)⟩
        case measure => simp [intOf]; omega
    · go_wp2_with fail
      go_ret
      rw [HJ.out, List.drop_eq_nil_of_le (by omega), List.drop_eq_nil_of_le (by omega)]
      exact ⟨rfl, (by refine Ext.trans ?_ (by assumption); refine Ext.alloc ?_ _; exact Ext.refl _)⟩
 · have dn : ((l.length : Int) != (fs.length : Int)) = true := by rw [bne_iff_ne]; omega
   have hk := kidsOk_len l fs hlen
   have HK := Lib.hid hk; clear hk hlen
   go_enter Tryz.func25, Tryz.ntmps25
   go_wp2_with fail
   go_ret
   rw [HK.out]
   exact ⟨rfl, (by refine Ext.alloc ?_ _; exact Ext.refl _)⟩
end Bk
namespace Bk
open Go Go.RowKit Go.Proofs
theorem get1 {α : Type} {Q : Nat → α → Prop} {x : α} (h : Q 0 x) : ∀ i f, [x][i]? = some f → Q i f := by
 intro i f hf
 rcases i with _ | i
 · simp at hf; exact hf ▸ h
 · simp at hf
theorem get2 {α : Type} {Q : Nat → α → Prop} {x y : α} (h : Q 0 x) (h1 : Q 1 y) : ∀ i f, [x, y][i]? = some f → Q i f := by
 intro i f hf
 rcases i with _ | _ | i
 · simp at hf; exact hf ▸ h
 · simp at hf; exact hf ▸ h1
 · simp at hf
theorem get3 {α : Type} {Q : Nat → α → Prop} {x y z : α} (h : Q 0 x) (h1 : Q 1 y) (h2 : Q 2 z) : ∀ i f, [x, y, z][i]? = some f → Q i f := by
 intro i f hf
 rcases i with _ | _ | _ | i
 · simp at hf; exact hf ▸ h
 · simp at hf; exact hf ▸ h1
 · simp at hf; exact hf ▸ h2
 · simp at hf
theorem get4 {α : Type} {Q : Nat → α → Prop} {x y z u : α} (h : Q 0 x) (h1 : Q 1 y) (h2 : Q 2 z) (h3 : Q 3 u) : ∀ i f, [x, y, z, u][i]? = some f → Q i f := by
 intro i f hf
 rcases i with _ | _ | _ | _ | i
 · simp at hf; exact hf ▸ h
 · simp at hf; exact hf ▸ h1
 · simp at hf; exact hf ▸ h2
 · simp at hf; exact hf ▸ h3
 · simp at hf
theorem mem1 {α : Type} {Q : α → Prop} {x : α} (h : Q x) : ∀ f ∈ [x], Q f := by intro f hf; simp at hf; exact hf ▸ h
theorem mem2 {α : Type} {Q : α → Prop} {x y : α} (h : Q x) (h1 : Q y) : ∀ f ∈ [x, y], Q f := by
 intro f hf; simp at hf; rcases hf with rfl | rfl <;> assumption
theorem mem3 {α : Type} {Q : α → Prop} {x y z : α} (h : Q x) (h1 : Q y) (h2 : Q z) : ∀ f ∈ [x, y, z], Q f := by
 intro f hf; simp at hf; rcases hf with rfl | rfl | rfl <;> assumption
theorem mem4 {α : Type} {Q : α → Prop} {x y z u : α} (h : Q x) (h1 : Q y) (h2 : Q z) (h3 : Q u) : ∀ f ∈ [x, y, z, u], Q f := by
 intro f hf; simp at hf; rcases hf with rfl | rfl | rfl | rfl <;> assumption
theorem en_IsExpr : Enters 27 := enters_of Tryz.func27 (by kernel_rfl) rfl
theorem isExpr_leaf (n : Int) (s : List UInt8) (l : List Nd) : (Nd.mk 1 n s l).isExpr = (decide (0 ≤ n) && s.isEmpty && l.isEmpty) := by rw [Nd.isExpr.eq_def]; simp
theorem isExpr_name (k n : Int) (s : List UInt8) (l : List Nd) (h : k = 2 ∨ k = 4 ∨ k = 5) : (Nd.mk k n s l).isExpr = (named n s && l.isEmpty) := by
 rcases h with rfl | rfl | rfl <;> rw [Nd.isExpr.eq_def] <;> simp
theorem isExpr_item (f : FuncId) (n : Int) (s : List UInt8) (l : List Nd) : (Nd.mk 3 n s l).isExpr = (named n s && kidsOk l [(f, Nd.isExpr)]) := by
 rcases l with _ | ⟨x, _ | ⟨y, l⟩⟩ <;> rw [Nd.isExpr.eq_def] <;> simp [kidsOk]
theorem isExpr_un (f : FuncId) (k n : Int) (s : List UInt8) (l : List Nd) (h : k = 6 ∨ k = 7) : (Nd.mk k n s l).isExpr = (plain n s && kidsOk l [(f, Nd.isExpr)]) := by
 rcases l with _ | ⟨x, _ | ⟨y, l⟩⟩ <;> rcases h with rfl | rfl <;> rw [Nd.isExpr.eq_def] <;> simp [kidsOk]
theorem isExpr_bin (f : FuncId) (k n : Int) (s : List UInt8) (l : List Nd) (h : 8 ≤ k) (h' : k ≤ 23) : (Nd.mk k n s l).isExpr = (plain n s && kidsOk l [(f, Nd.isExpr), (f, Nd.isExpr)]) := by
 have e1 : ¬ k = 1 := by omega
 have e2 : ¬ (k = 2 ∨ k = 4 ∨ k = 5) := by omega
 have e3 : ¬ k = 3 := by omega
 have e4 : ¬ (k = 6 ∨ k = 7) := by omega
 rcases l with _ | ⟨x, _ | ⟨y, _ | ⟨z, l⟩⟩⟩ <;> rw [Nd.isExpr.eq_def] <;> simp [kidsOk, e1, e2, e3, e4, h, h']
theorem isExpr_else (k n : Int) (s : List UInt8) (l : List Nd) (h : k < 1 ∨ 23 < k) : (Nd.mk k n s l).isExpr = false := by
 have e1 : ¬ k = 1 := by omega
 have e2 : ¬ (k = 2 ∨ k = 4 ∨ k = 5) := by omega
 have e3 : ¬ k = 3 := by omega
 have e4 : ¬ (k = 6 ∨ k = 7) := by omega
 have e5 : ¬ (8 ≤ k ∧ k ≤ 23) := by omega
 rw [Nd.isExpr.eq_def]; simp [e1, e2, e3, e4, e5]
set_option maxHeartbeats 2000000 in
theorem IsExpr_c (S : Nat → Prop) (N : Nat) : ∀ t : Nd, t.size < N → t.wf → Tests S 27 Nd.isExpr t := by
 induction N with
 | zero => intro t h; omega
 | succ N ih =>
  rintro ⟨k, n, s, l⟩ hN hwf a c w hs; simp only [Nd.wf, Nd.size, Nd.sits, Nd.kind, Nd.num, Nd.name, Nd.kids, Nd.val] at *; obtain ⟨hk0, hk1, hn0, hn1, hsl, hll, hrw⟩ := hwf
  have hkid : ∀ t ∈ l, Tests S 27 Nd.isExpr t := fun t ht => ih t (by have := size_mem ht; omega) (rowWf_get hrw t ht)
  have HKID := Lib.hid hkid; clear hkid ih hrw
  have HSL := Lib.hid hsl; clear hsl
  by_cases c1 : k = 1
  · subst c1
    have hr := isExpr_leaf n s l
    have HR := Lib.hid hr; clear hr
    go_enter Tryz.func27, Tryz.ntmps27
    go_wp2_with fail
    all_goals go_ret
    all_goals rw [HR.out]
    all_goals exact ⟨ret_bool (by rw [Bool.eq_iff_iff]; first | (simp [*]; done) | (simp [*]; intros; omega)), (by repeat (first | exact Ext.refl _ | assumption | refine Ext.alloc ?_ _ | refine Ext.drew ?_ | refine Ext.trans ?_ (by assumption)))⟩
  by_cases c2 : k = 2 ∨ k = 4 ∨ k = 5
  · have hr := isExpr_name k n s l c2
    have HR := Lib.hid hr; clear hr
    cases hnm : named n s
    all_goals have HNM := Lib.hid hnm; clear hnm
    all_goals rcases c2 with rfl | rfl | rfl
    all_goals go_enter Tryz.func27, Tryz.ntmps27
    all_goals go_wp2_with (go_at_call 28; refine (named_c _ _ _ _ _ _ _ HSL.out).mono ?_; rintro e w1 ⟨rfl, hx1⟩; have hc1 := hx1.cells; rw [HNM.out])
    all_goals go_ret
    all_goals rw [HR.out, HNM.out]
    all_goals exact ⟨ret_bool (by first | rfl | (rw [Bool.eq_iff_iff]; simp)), (by repeat (first | exact Ext.refl _ | assumption | refine Ext.alloc ?_ _ | refine Ext.drew ?_ | refine Ext.trans ?_ (by assumption)))⟩
  by_cases c3 : k = 3
  · subst c3
    have hr := isExpr_item 27 n s l
    have HR := Lib.hid hr; clear hr
    cases hnm : named n s
    all_goals have HNM := Lib.hid hnm; clear hnm
    all_goals go_enter Tryz.func27, Tryz.ntmps27
    all_goals go_wp2_with (first | (go_at_call 28; refine (named_c _ _ _ _ _ _ _ HSL.out).mono ?_; rintro e w1 ⟨rfl, hx1⟩; have hc1 := hx1.cells; rw [HNM.out]) | (go_at_call 25; refine (kids_c _ _ _ l a c [(27, Nd.isExpr)] _ _ S _ hll (by decide) (hs.ext (by refine Ext.alloc ?_ _; refine Ext.trans ?_ (by assumption); refine Ext.alloc ?_ _; exact Ext.refl _)) (get1 (by go_simp)) (mem1 en_IsExpr) (mem1 HKID.out)).mono ?_; rintro e w2 ⟨rfl, hx2⟩))
    all_goals go_ret
    all_goals rw [HR.out, HNM.out]
    all_goals exact ⟨ret_bool (by simp), (by repeat (first | exact Ext.refl _ | assumption | refine Ext.alloc ?_ _ | refine Ext.drew ?_ | refine Ext.trans ?_ (by assumption)))⟩
  by_cases c4 : k = 6 ∨ k = 7
  · have hr := isExpr_un 27 k n s l c4
    have HR := Lib.hid hr; clear hr
    cases hnm : plain n s
    all_goals have HNM := Lib.hid hnm; clear hnm
    all_goals rcases c4 with rfl | rfl
    all_goals go_enter Tryz.func27, Tryz.ntmps27
    all_goals go_wp2_with (first | (go_at_call 24; refine (plain_c _ _ _ _ _ _ _).mono ?_; rintro e w1 ⟨rfl, hx1⟩; have hc1 := hx1.cells; rw [HNM.out]) | (go_at_call 25; refine (kids_c _ _ _ l a c [(27, Nd.isExpr)] _ _ S _ hll (by decide) (hs.ext (by repeat (first | exact Ext.refl _ | assumption | refine Ext.alloc ?_ _ | refine Ext.drew ?_ | refine Ext.trans ?_ (by assumption)))) (get1 (by go_simp)) (mem1 en_IsExpr) (mem1 HKID.out)).mono ?_; rintro e w2 ⟨rfl, hx2⟩))
    all_goals go_ret
    all_goals rw [HR.out, HNM.out]
    all_goals exact ⟨ret_bool (by simp), (by repeat (first | exact Ext.refl _ | assumption | refine Ext.alloc ?_ _ | refine Ext.drew ?_ | refine Ext.trans ?_ (by assumption)))⟩
  by_cases c5 : 8 ≤ k ∧ k ≤ 23
  · obtain ⟨c5a, c5b⟩ := c5
    have d1 : (k == 1) = false := by rw [beq_eq_false_iff_ne]; omega
    have d2 : (k == 2) = false := by rw [beq_eq_false_iff_ne]; omega
    have d3 : (k == 3) = false := by rw [beq_eq_false_iff_ne]; omega
    have d4 : (k == 4) = false := by rw [beq_eq_false_iff_ne]; omega
    have d5 : (k == 5) = false := by rw [beq_eq_false_iff_ne]; omega
    have d6 : (k == 6) = false := by rw [beq_eq_false_iff_ne]; omega
    have d7 : (k == 7) = false := by rw [beq_eq_false_iff_ne]; omega
    clear c1 c2 c3 c4; have hr := isExpr_bin 27 k n s l c5a c5b
    have HR := Lib.hid hr; clear hr
    cases hnm : plain n s
    all_goals have HNM := Lib.hid hnm; clear hnm
    all_goals go_enter Tryz.func27, Tryz.ntmps27
    all_goals go_wp2_with (first | (go_at_call 24; refine (plain_c _ _ _ _ _ _ _).mono ?_; rintro e w1 ⟨rfl, hx1⟩; have hc1 := hx1.cells; rw [HNM.out]) | (go_at_call 25; refine (kids_c _ _ _ l a c [(27, Nd.isExpr), (27, Nd.isExpr)] _ _ S _ hll (by decide) (hs.ext (by refine Ext.alloc ?_ _; refine Ext.trans ?_ (by assumption); refine Ext.alloc ?_ _; exact Ext.refl _)) (get2 (by go_simp) (by go_simp)) (mem2 en_IsExpr en_IsExpr) (mem2 HKID.out HKID.out)).mono ?_; rintro e w2 ⟨rfl, hx2⟩))
    all_goals go_ret
    all_goals rw [HR.out, HNM.out]
    all_goals exact ⟨ret_bool (by simp), (by repeat (first | exact Ext.refl _ | assumption | refine Ext.alloc ?_ _ | refine Ext.drew ?_ | refine Ext.trans ?_ (by assumption)))⟩
  · have hr := isExpr_else k n s l (by omega)
    have HR := Lib.hid hr; clear hr
    have d1 : (k == 1) = false := by rw [beq_eq_false_iff_ne]; omega
    have d2 : (k == 2) = false := by rw [beq_eq_false_iff_ne]; omega
    have d3 : (k == 3) = false := by rw [beq_eq_false_iff_ne]; omega
    have d4 : (k == 4) = false := by rw [beq_eq_false_iff_ne]; omega
    have d5 : (k == 5) = false := by rw [beq_eq_false_iff_ne]; omega
    have d6 : (k == 6) = false := by rw [beq_eq_false_iff_ne]; omega
    have d7 : (k == 7) = false := by rw [beq_eq_false_iff_ne]; omega
    clear c1 c2 c3 c4
    go_enter Tryz.func27, Tryz.ntmps27
    go_wp2_with fail
    all_goals go_ret
    all_goals rw [HR.out]
    all_goals exact ⟨ret_bool (by first | rfl | (simp; omega)), (by repeat (first | exact Ext.refl _ | assumption | refine Ext.alloc ?_ _ | refine Ext.drew ?_ | refine Ext.trans ?_ (by assumption)))⟩
end Bk
namespace Bk
open Go Go.RowKit Go.Proofs
theorem en_IsPlace : Enters 26 := enters_of Tryz.func26 (by kernel_rfl) rfl
theorem en_isVar : Enters 30 := enters_of Tryz.func30 (by kernel_rfl) rfl
theorem en_IsStmt : Enters 10 := enters_of Tryz.func10 (by kernel_rfl) rfl
theorem en_IsBlock : Enters 11 := enters_of Tryz.func11 (by kernel_rfl) rfl
theorem IsExpr_t (S : Nat → Prop) (t : Nd) (h : t.wf) : Tests S 27 Nd.isExpr t := IsExpr_c S (t.size + 1) t (by omega) h
theorem IsPlace_t (S : Nat → Prop) (t : Nd) (h : t.wf) : Tests S 26 Nd.isPlace t := by
 have HE := Lib.hid (IsExpr_t S t h); intro a c w hs; obtain ⟨k, n, s, l⟩ := t; have hr : (Nd.mk k n s l).isPlace = ((k == 2 || k == 3) && (Nd.mk k n s l).isExpr) := rfl
 have HR := Lib.hid hr; clear hr
 have HSI := Lib.hid hs; clear hs h
 simp only [Nd.kind, Nd.num, Nd.name, Nd.kids, Nd.val]
 by_cases h2 : k = 2 ∨ k = 3
 · rcases h2 with rfl | rfl
   all_goals go_enter Tryz.func26, Tryz.ntmps26
   all_goals go_wp2_with (go_at_call 27; refine (HE.out a c _ (HSI.out.ext (by repeat (first | exact Ext.refl _ | assumption | refine Ext.alloc ?_ _ | refine Ext.drew ?_ | refine Ext.trans ?_ (by assumption))))).mono ?_; rintro e w1 ⟨rfl, hx1⟩)
   all_goals go_ret
   all_goals rw [HR.out]
   all_goals exact ⟨ret_bool (by simp), (by repeat (first | exact Ext.refl _ | assumption | refine Ext.alloc ?_ _ | refine Ext.drew ?_ | refine Ext.trans ?_ (by assumption)))⟩
 · have d2 : (k == 2) = false := by rw [beq_eq_false_iff_ne]; omega
   have d3 : (k == 3) = false := by rw [beq_eq_false_iff_ne]; omega
   clear h2
   go_enter Tryz.func26, Tryz.ntmps26
   go_wp2_with fail
   go_ret
   rw [HR.out]
   exact ⟨ret_bool (by simp [d2, d3]), (by refine Ext.alloc ?_ _; exact Ext.refl _)⟩
theorem isVar_t (S : Nat → Prop) (t : Nd) (h : t.wf) : Tests S 30 Nd.isVar t := by
 have HE := Lib.hid (IsExpr_t S t h); intro a c w hs; obtain ⟨k, n, s, l⟩ := t; have hr : (Nd.mk k n s l).isVar = (k == 2 && (Nd.mk k n s l).isExpr) := rfl
 have HR := Lib.hid hr; clear hr
 have HSI := Lib.hid hs; clear hs h
 simp only [Nd.kind, Nd.num, Nd.name, Nd.kids, Nd.val]
 by_cases h2 : k = 2
 · subst h2
   go_enter Tryz.func30, Tryz.ntmps30
   go_wp2_with (go_at_call 27; refine (HE.out a c _ (HSI.out.ext (by refine Ext.alloc ?_ _; exact Ext.refl _))).mono ?_; rintro e w1 ⟨rfl, hx1⟩)
   go_ret
   rw [HR.out]
   exact ⟨ret_bool (by simp), (by refine Ext.trans ?_ (by assumption); refine Ext.alloc ?_ _; exact Ext.refl _)⟩
 · have d2 : (k == 2) = false := by rw [beq_eq_false_iff_ne]; omega
   clear h2
   go_enter Tryz.func30, Tryz.ntmps30
   go_wp2_with fail
   go_ret
   rw [HR.out]
   exact ⟨ret_bool (by simp [d2]), (by refine Ext.alloc ?_ _; exact Ext.refl _)⟩
theorem isStmt_40 (n : Int) (s : List UInt8) (l : List Nd) : (Nd.mk 40 n s l).isStmt = (plain n s && kidsOk l [(26, Nd.isPlace), (27, Nd.isExpr)]) := by
 rcases l with _ | ⟨x, _ | ⟨y, _ | ⟨z, _ | ⟨u, _ | ⟨v, l⟩⟩⟩⟩⟩ <;> rw [Nd.isStmt.eq_def] <;> simp [kidsOk, Bool.and_assoc]
theorem IsStmt_40 (n : Int) (s : List UInt8) (l : List Nd) (a : Option Addr) (c : Nat) (S : Nat → Prop) (w : World)
 (hs : rowSits S w l a) (hsl : s.length ≤ 9223372036854775807) (hll : l.length ≤ 9223372036854775807) (hrw : rowWf l) (hb : ∀ t ∈ l, Tests S 11 Nd.isBlock t) :
 Calls Tryz.prog 10 #[.agg #[.int .u8 40, .int .i64 n, str s, .slice a l.length c]] w fun e w' => e = .returned (.bool (Nd.mk 40 n s l).isStmt) ∧ Ext w w' := by
 have HEX : Hid (∀ t ∈ l, Tests S 27 Nd.isExpr t) := Lib.hid fun t ht => IsExpr_t S t (rowWf_get hrw t ht)
 have HPL : Hid (∀ t ∈ l, Tests S 26 Nd.isPlace t) := Lib.hid fun t ht => IsPlace_t S t (rowWf_get hrw t ht)
 have HVA : Hid (∀ t ∈ l, Tests S 30 Nd.isVar t) := Lib.hid fun t ht => isVar_t S t (rowWf_get hrw t ht)
 have HBL := Lib.hid hb; clear hb
 have HSL := Lib.hid hsl; clear hsl hrw
 have hr := isStmt_40 n s l
 have HR := Lib.hid hr; clear hr
 cases hnm : plain n s
 all_goals have HNM := Lib.hid hnm; clear hnm
 all_goals go_enter Tryz.func10, Tryz.ntmps10
 all_goals go_wp2_with (first | (go_at_call 24; refine (plain_c _ _ _ _ _ _ _).mono ?_; rintro e w1 ⟨rfl, hx1⟩; have hc1 := hx1.cells; rw [HNM.out]) | (go_at_call 25; refine (kids_c _ _ _ l a c [(26, Nd.isPlace), (27, Nd.isExpr)] _ _ S _ hll (by decide) (hs.ext (by refine Ext.alloc ?_ _; refine Ext.trans ?_ (by assumption); refine Ext.alloc ?_ _; exact Ext.refl _)) (get2 (by go_simp) (by go_simp)) (mem2 en_IsPlace en_IsExpr) (mem2 HPL.out HEX.out)).mono ?_; rintro e w2 ⟨rfl, hx2⟩))
 all_goals go_ret
 all_goals rw [HR.out, HNM.out]
 all_goals exact ⟨ret_bool (by simp), (by repeat (first | exact Ext.refl _ | assumption | refine Ext.alloc ?_ _ | refine Ext.drew ?_ | refine Ext.trans ?_ (by assumption)))⟩
theorem isStmt_41 (n : Int) (s : List UInt8) (l : List Nd) : (Nd.mk 41 n s l).isStmt = (plain n s && kidsOk l [(26, Nd.isPlace), (27, Nd.isExpr)]) := by
 rcases l with _ | ⟨x, _ | ⟨y, _ | ⟨z, _ | ⟨u, _ | ⟨v, l⟩⟩⟩⟩⟩ <;> rw [Nd.isStmt.eq_def] <;> simp [kidsOk, Bool.and_assoc]
theorem IsStmt_41 (n : Int) (s : List UInt8) (l : List Nd) (a : Option Addr) (c : Nat) (S : Nat → Prop) (w : World)
 (hs : rowSits S w l a) (hsl : s.length ≤ 9223372036854775807) (hll : l.length ≤ 9223372036854775807) (hrw : rowWf l) (hb : ∀ t ∈ l, Tests S 11 Nd.isBlock t) :
 Calls Tryz.prog 10 #[.agg #[.int .u8 41, .int .i64 n, str s, .slice a l.length c]] w fun e w' => e = .returned (.bool (Nd.mk 41 n s l).isStmt) ∧ Ext w w' := by
 have HEX : Hid (∀ t ∈ l, Tests S 27 Nd.isExpr t) := Lib.hid fun t ht => IsExpr_t S t (rowWf_get hrw t ht)
 have HPL : Hid (∀ t ∈ l, Tests S 26 Nd.isPlace t) := Lib.hid fun t ht => IsPlace_t S t (rowWf_get hrw t ht)
 have HVA : Hid (∀ t ∈ l, Tests S 30 Nd.isVar t) := Lib.hid fun t ht => isVar_t S t (rowWf_get hrw t ht)
 have HBL := Lib.hid hb; clear hb
 have HSL := Lib.hid hsl; clear hsl hrw
 have hr := isStmt_41 n s l
 have HR := Lib.hid hr; clear hr
 cases hnm : plain n s
 all_goals have HNM := Lib.hid hnm; clear hnm
 all_goals go_enter Tryz.func10, Tryz.ntmps10
 all_goals go_wp2_with (first | (go_at_call 24; refine (plain_c _ _ _ _ _ _ _).mono ?_; rintro e w1 ⟨rfl, hx1⟩; have hc1 := hx1.cells; rw [HNM.out]) | (go_at_call 25; refine (kids_c _ _ _ l a c [(26, Nd.isPlace), (27, Nd.isExpr)] _ _ S _ hll (by decide) (hs.ext (by refine Ext.alloc ?_ _; refine Ext.trans ?_ (by assumption); refine Ext.alloc ?_ _; exact Ext.refl _)) (get2 (by go_simp) (by go_simp)) (mem2 en_IsPlace en_IsExpr) (mem2 HPL.out HEX.out)).mono ?_; rintro e w2 ⟨rfl, hx2⟩))
 all_goals go_ret
 all_goals rw [HR.out, HNM.out]
 all_goals exact ⟨ret_bool (by simp), (by repeat (first | exact Ext.refl _ | assumption | refine Ext.alloc ?_ _ | refine Ext.drew ?_ | refine Ext.trans ?_ (by assumption)))⟩
theorem isStmt_42 (n : Int) (s : List UInt8) (l : List Nd) : (Nd.mk 42 n s l).isStmt = (plain n s && kidsOk l [(26, Nd.isPlace), (27, Nd.isExpr)]) := by
 rcases l with _ | ⟨x, _ | ⟨y, _ | ⟨z, _ | ⟨u, _ | ⟨v, l⟩⟩⟩⟩⟩ <;> rw [Nd.isStmt.eq_def] <;> simp [kidsOk, Bool.and_assoc]
theorem IsStmt_42 (n : Int) (s : List UInt8) (l : List Nd) (a : Option Addr) (c : Nat) (S : Nat → Prop) (w : World)
 (hs : rowSits S w l a) (hsl : s.length ≤ 9223372036854775807) (hll : l.length ≤ 9223372036854775807) (hrw : rowWf l) (hb : ∀ t ∈ l, Tests S 11 Nd.isBlock t) :
 Calls Tryz.prog 10 #[.agg #[.int .u8 42, .int .i64 n, str s, .slice a l.length c]] w fun e w' => e = .returned (.bool (Nd.mk 42 n s l).isStmt) ∧ Ext w w' := by
 have HEX : Hid (∀ t ∈ l, Tests S 27 Nd.isExpr t) := Lib.hid fun t ht => IsExpr_t S t (rowWf_get hrw t ht)
 have HPL : Hid (∀ t ∈ l, Tests S 26 Nd.isPlace t) := Lib.hid fun t ht => IsPlace_t S t (rowWf_get hrw t ht)
 have HVA : Hid (∀ t ∈ l, Tests S 30 Nd.isVar t) := Lib.hid fun t ht => isVar_t S t (rowWf_get hrw t ht)
 have HBL := Lib.hid hb; clear hb
 have HSL := Lib.hid hsl; clear hsl hrw
 have hr := isStmt_42 n s l
 have HR := Lib.hid hr; clear hr
 cases hnm : plain n s
 all_goals have HNM := Lib.hid hnm; clear hnm
 all_goals go_enter Tryz.func10, Tryz.ntmps10
 all_goals go_wp2_with (first | (go_at_call 24; refine (plain_c _ _ _ _ _ _ _).mono ?_; rintro e w1 ⟨rfl, hx1⟩; have hc1 := hx1.cells; rw [HNM.out]) | (go_at_call 25; refine (kids_c _ _ _ l a c [(26, Nd.isPlace), (27, Nd.isExpr)] _ _ S _ hll (by decide) (hs.ext (by refine Ext.alloc ?_ _; refine Ext.trans ?_ (by assumption); refine Ext.alloc ?_ _; exact Ext.refl _)) (get2 (by go_simp) (by go_simp)) (mem2 en_IsPlace en_IsExpr) (mem2 HPL.out HEX.out)).mono ?_; rintro e w2 ⟨rfl, hx2⟩))
 all_goals go_ret
 all_goals rw [HR.out, HNM.out]
 all_goals exact ⟨ret_bool (by simp), (by repeat (first | exact Ext.refl _ | assumption | refine Ext.alloc ?_ _ | refine Ext.drew ?_ | refine Ext.trans ?_ (by assumption)))⟩
theorem isStmt_56 (n : Int) (s : List UInt8) (l : List Nd) : (Nd.mk 56 n s l).isStmt = (plain n s && kidsOk l [(26, Nd.isPlace), (27, Nd.isExpr)]) := by
 rcases l with _ | ⟨x, _ | ⟨y, _ | ⟨z, _ | ⟨u, _ | ⟨v, l⟩⟩⟩⟩⟩ <;> rw [Nd.isStmt.eq_def] <;> simp [kidsOk, Bool.and_assoc]
theorem IsStmt_56 (n : Int) (s : List UInt8) (l : List Nd) (a : Option Addr) (c : Nat) (S : Nat → Prop) (w : World)
 (hs : rowSits S w l a) (hsl : s.length ≤ 9223372036854775807) (hll : l.length ≤ 9223372036854775807) (hrw : rowWf l) (hb : ∀ t ∈ l, Tests S 11 Nd.isBlock t) :
 Calls Tryz.prog 10 #[.agg #[.int .u8 56, .int .i64 n, str s, .slice a l.length c]] w fun e w' => e = .returned (.bool (Nd.mk 56 n s l).isStmt) ∧ Ext w w' := by
 have HEX : Hid (∀ t ∈ l, Tests S 27 Nd.isExpr t) := Lib.hid fun t ht => IsExpr_t S t (rowWf_get hrw t ht)
 have HPL : Hid (∀ t ∈ l, Tests S 26 Nd.isPlace t) := Lib.hid fun t ht => IsPlace_t S t (rowWf_get hrw t ht)
 have HVA : Hid (∀ t ∈ l, Tests S 30 Nd.isVar t) := Lib.hid fun t ht => isVar_t S t (rowWf_get hrw t ht)
 have HBL := Lib.hid hb; clear hb
 have HSL := Lib.hid hsl; clear hsl hrw
 have hr := isStmt_56 n s l
 have HR := Lib.hid hr; clear hr
 cases hnm : plain n s
 all_goals have HNM := Lib.hid hnm; clear hnm
 all_goals go_enter Tryz.func10, Tryz.ntmps10
 all_goals go_wp2_with (first | (go_at_call 24; refine (plain_c _ _ _ _ _ _ _).mono ?_; rintro e w1 ⟨rfl, hx1⟩; have hc1 := hx1.cells; rw [HNM.out]) | (go_at_call 25; refine (kids_c _ _ _ l a c [(26, Nd.isPlace), (27, Nd.isExpr)] _ _ S _ hll (by decide) (hs.ext (by refine Ext.alloc ?_ _; refine Ext.trans ?_ (by assumption); refine Ext.alloc ?_ _; exact Ext.refl _)) (get2 (by go_simp) (by go_simp)) (mem2 en_IsPlace en_IsExpr) (mem2 HPL.out HEX.out)).mono ?_; rintro e w2 ⟨rfl, hx2⟩))
 all_goals go_ret
 all_goals rw [HR.out, HNM.out]
 all_goals exact ⟨ret_bool (by simp), (by repeat (first | exact Ext.refl _ | assumption | refine Ext.alloc ?_ _ | refine Ext.drew ?_ | refine Ext.trans ?_ (by assumption)))⟩
theorem isStmt_43 (n : Int) (s : List UInt8) (l : List Nd) : (Nd.mk 43 n s l).isStmt = (plain n s && kidsOk l [(26, Nd.isPlace), (26, Nd.isPlace)]) := by
 rcases l with _ | ⟨x, _ | ⟨y, _ | ⟨z, _ | ⟨u, _ | ⟨v, l⟩⟩⟩⟩⟩ <;> rw [Nd.isStmt.eq_def] <;> simp [kidsOk, Bool.and_assoc]
theorem IsStmt_43 (n : Int) (s : List UInt8) (l : List Nd) (a : Option Addr) (c : Nat) (S : Nat → Prop) (w : World)
 (hs : rowSits S w l a) (hsl : s.length ≤ 9223372036854775807) (hll : l.length ≤ 9223372036854775807) (hrw : rowWf l) (hb : ∀ t ∈ l, Tests S 11 Nd.isBlock t) :
 Calls Tryz.prog 10 #[.agg #[.int .u8 43, .int .i64 n, str s, .slice a l.length c]] w fun e w' => e = .returned (.bool (Nd.mk 43 n s l).isStmt) ∧ Ext w w' := by
 have HEX : Hid (∀ t ∈ l, Tests S 27 Nd.isExpr t) := Lib.hid fun t ht => IsExpr_t S t (rowWf_get hrw t ht)
 have HPL : Hid (∀ t ∈ l, Tests S 26 Nd.isPlace t) := Lib.hid fun t ht => IsPlace_t S t (rowWf_get hrw t ht)
 have HVA : Hid (∀ t ∈ l, Tests S 30 Nd.isVar t) := Lib.hid fun t ht => isVar_t S t (rowWf_get hrw t ht)
 have HBL := Lib.hid hb; clear hb
 have HSL := Lib.hid hsl; clear hsl hrw
 have hr := isStmt_43 n s l
 have HR := Lib.hid hr; clear hr
 cases hnm : plain n s
 all_goals have HNM := Lib.hid hnm; clear hnm
 all_goals go_enter Tryz.func10, Tryz.ntmps10
 all_goals go_wp2_with (first | (go_at_call 24; refine (plain_c _ _ _ _ _ _ _).mono ?_; rintro e w1 ⟨rfl, hx1⟩; have hc1 := hx1.cells; rw [HNM.out]) | (go_at_call 25; refine (kids_c _ _ _ l a c [(26, Nd.isPlace), (26, Nd.isPlace)] _ _ S _ hll (by decide) (hs.ext (by refine Ext.alloc ?_ _; refine Ext.trans ?_ (by assumption); refine Ext.alloc ?_ _; exact Ext.refl _)) (get2 (by go_simp) (by go_simp)) (mem2 en_IsPlace en_IsPlace) (mem2 HPL.out HPL.out)).mono ?_; rintro e w2 ⟨rfl, hx2⟩))
 all_goals go_ret
 all_goals rw [HR.out, HNM.out]
 all_goals exact ⟨ret_bool (by simp), (by repeat (first | exact Ext.refl _ | assumption | refine Ext.alloc ?_ _ | refine Ext.drew ?_ | refine Ext.trans ?_ (by assumption)))⟩
theorem isStmt_44 (n : Int) (s : List UInt8) (l : List Nd) : (Nd.mk 44 n s l).isStmt = (named n s && kidsOk l [(26, Nd.isPlace)]) := by
 rcases l with _ | ⟨x, _ | ⟨y, _ | ⟨z, _ | ⟨u, _ | ⟨v, l⟩⟩⟩⟩⟩ <;> rw [Nd.isStmt.eq_def] <;> simp [kidsOk, Bool.and_assoc]
theorem IsStmt_44 (n : Int) (s : List UInt8) (l : List Nd) (a : Option Addr) (c : Nat) (S : Nat → Prop) (w : World)
 (hs : rowSits S w l a) (hsl : s.length ≤ 9223372036854775807) (hll : l.length ≤ 9223372036854775807) (hrw : rowWf l) (hb : ∀ t ∈ l, Tests S 11 Nd.isBlock t) :
 Calls Tryz.prog 10 #[.agg #[.int .u8 44, .int .i64 n, str s, .slice a l.length c]] w fun e w' => e = .returned (.bool (Nd.mk 44 n s l).isStmt) ∧ Ext w w' := by
 have HEX : Hid (∀ t ∈ l, Tests S 27 Nd.isExpr t) := Lib.hid fun t ht => IsExpr_t S t (rowWf_get hrw t ht)
 have HPL : Hid (∀ t ∈ l, Tests S 26 Nd.isPlace t) := Lib.hid fun t ht => IsPlace_t S t (rowWf_get hrw t ht)
 have HVA : Hid (∀ t ∈ l, Tests S 30 Nd.isVar t) := Lib.hid fun t ht => isVar_t S t (rowWf_get hrw t ht)
 have HBL := Lib.hid hb; clear hb
 have HSL := Lib.hid hsl; clear hsl hrw
 have hr := isStmt_44 n s l
 have HR := Lib.hid hr; clear hr
 cases hnm : named n s
 all_goals have HNM := Lib.hid hnm; clear hnm
 all_goals go_enter Tryz.func10, Tryz.ntmps10
 all_goals go_wp2_with (first | (go_at_call 28; refine (named_c _ _ _ _ _ _ _ HSL.out).mono ?_; rintro e w1 ⟨rfl, hx1⟩; have hc1 := hx1.cells; rw [HNM.out]) | (go_at_call 25; refine (kids_c _ _ _ l a c [(26, Nd.isPlace)] _ _ S _ hll (by decide) (hs.ext (by refine Ext.alloc ?_ _; refine Ext.trans ?_ (by assumption); refine Ext.alloc ?_ _; exact Ext.refl _)) (get1 (by go_simp)) (mem1 en_IsPlace) (mem1 HPL.out)).mono ?_; rintro e w2 ⟨rfl, hx2⟩))
 all_goals go_ret
 all_goals rw [HR.out, HNM.out]
 all_goals exact ⟨ret_bool (by simp), (by repeat (first | exact Ext.refl _ | assumption | refine Ext.alloc ?_ _ | refine Ext.drew ?_ | refine Ext.trans ?_ (by assumption)))⟩
theorem isStmt_45 (n : Int) (s : List UInt8) (l : List Nd) : (Nd.mk 45 n s l).isStmt = (named n s && kidsOk l [(26, Nd.isPlace)]) := by
 rcases l with _ | ⟨x, _ | ⟨y, _ | ⟨z, _ | ⟨u, _ | ⟨v, l⟩⟩⟩⟩⟩ <;> rw [Nd.isStmt.eq_def] <;> simp [kidsOk, Bool.and_assoc]
theorem IsStmt_45 (n : Int) (s : List UInt8) (l : List Nd) (a : Option Addr) (c : Nat) (S : Nat → Prop) (w : World)
 (hs : rowSits S w l a) (hsl : s.length ≤ 9223372036854775807) (hll : l.length ≤ 9223372036854775807) (hrw : rowWf l) (hb : ∀ t ∈ l, Tests S 11 Nd.isBlock t) :
 Calls Tryz.prog 10 #[.agg #[.int .u8 45, .int .i64 n, str s, .slice a l.length c]] w fun e w' => e = .returned (.bool (Nd.mk 45 n s l).isStmt) ∧ Ext w w' := by
 have HEX : Hid (∀ t ∈ l, Tests S 27 Nd.isExpr t) := Lib.hid fun t ht => IsExpr_t S t (rowWf_get hrw t ht)
 have HPL : Hid (∀ t ∈ l, Tests S 26 Nd.isPlace t) := Lib.hid fun t ht => IsPlace_t S t (rowWf_get hrw t ht)
 have HVA : Hid (∀ t ∈ l, Tests S 30 Nd.isVar t) := Lib.hid fun t ht => isVar_t S t (rowWf_get hrw t ht)
 have HBL := Lib.hid hb; clear hb
 have HSL := Lib.hid hsl; clear hsl hrw
 have hr := isStmt_45 n s l
 have HR := Lib.hid hr; clear hr
 cases hnm : named n s
 all_goals have HNM := Lib.hid hnm; clear hnm
 all_goals go_enter Tryz.func10, Tryz.ntmps10
 all_goals go_wp2_with (first | (go_at_call 28; refine (named_c _ _ _ _ _ _ _ HSL.out).mono ?_; rintro e w1 ⟨rfl, hx1⟩; have hc1 := hx1.cells; rw [HNM.out]) | (go_at_call 25; refine (kids_c _ _ _ l a c [(26, Nd.isPlace)] _ _ S _ hll (by decide) (hs.ext (by refine Ext.alloc ?_ _; refine Ext.trans ?_ (by assumption); refine Ext.alloc ?_ _; exact Ext.refl _)) (get1 (by go_simp)) (mem1 en_IsPlace) (mem1 HPL.out)).mono ?_; rintro e w2 ⟨rfl, hx2⟩))
 all_goals go_ret
 all_goals rw [HR.out, HNM.out]
 all_goals exact ⟨ret_bool (by simp), (by repeat (first | exact Ext.refl _ | assumption | refine Ext.alloc ?_ _ | refine Ext.drew ?_ | refine Ext.trans ?_ (by assumption)))⟩
theorem isStmt_46 (n : Int) (s : List UInt8) (l : List Nd) : (Nd.mk 46 n s l).isStmt = (plain n s && kidsOk l [(26, Nd.isPlace)]) := by
 rcases l with _ | ⟨x, _ | ⟨y, _ | ⟨z, _ | ⟨u, _ | ⟨v, l⟩⟩⟩⟩⟩ <;> rw [Nd.isStmt.eq_def] <;> simp [kidsOk, Bool.and_assoc]
theorem IsStmt_46 (n : Int) (s : List UInt8) (l : List Nd) (a : Option Addr) (c : Nat) (S : Nat → Prop) (w : World)
 (hs : rowSits S w l a) (hsl : s.length ≤ 9223372036854775807) (hll : l.length ≤ 9223372036854775807) (hrw : rowWf l) (hb : ∀ t ∈ l, Tests S 11 Nd.isBlock t) :
 Calls Tryz.prog 10 #[.agg #[.int .u8 46, .int .i64 n, str s, .slice a l.length c]] w fun e w' => e = .returned (.bool (Nd.mk 46 n s l).isStmt) ∧ Ext w w' := by
 have HEX : Hid (∀ t ∈ l, Tests S 27 Nd.isExpr t) := Lib.hid fun t ht => IsExpr_t S t (rowWf_get hrw t ht)
 have HPL : Hid (∀ t ∈ l, Tests S 26 Nd.isPlace t) := Lib.hid fun t ht => IsPlace_t S t (rowWf_get hrw t ht)
 have HVA : Hid (∀ t ∈ l, Tests S 30 Nd.isVar t) := Lib.hid fun t ht => isVar_t S t (rowWf_get hrw t ht)
 have HBL := Lib.hid hb; clear hb
 have HSL := Lib.hid hsl; clear hsl hrw
 have hr := isStmt_46 n s l
 have HR := Lib.hid hr; clear hr
 cases hnm : plain n s
 all_goals have HNM := Lib.hid hnm; clear hnm
 all_goals go_enter Tryz.func10, Tryz.ntmps10
 all_goals go_wp2_with (first | (go_at_call 24; refine (plain_c _ _ _ _ _ _ _).mono ?_; rintro e w1 ⟨rfl, hx1⟩; have hc1 := hx1.cells; rw [HNM.out]) | (go_at_call 25; refine (kids_c _ _ _ l a c [(26, Nd.isPlace)] _ _ S _ hll (by decide) (hs.ext (by refine Ext.alloc ?_ _; refine Ext.trans ?_ (by assumption); refine Ext.alloc ?_ _; exact Ext.refl _)) (get1 (by go_simp)) (mem1 en_IsPlace) (mem1 HPL.out)).mono ?_; rintro e w2 ⟨rfl, hx2⟩))
 all_goals go_ret
 all_goals rw [HR.out, HNM.out]
 all_goals exact ⟨ret_bool (by simp), (by repeat (first | exact Ext.refl _ | assumption | refine Ext.alloc ?_ _ | refine Ext.drew ?_ | refine Ext.trans ?_ (by assumption)))⟩
theorem isStmt_47 (n : Int) (s : List UInt8) (l : List Nd) : (Nd.mk 47 n s l).isStmt = (plain n s && kidsOk l [(26, Nd.isPlace)]) := by
 rcases l with _ | ⟨x, _ | ⟨y, _ | ⟨z, _ | ⟨u, _ | ⟨v, l⟩⟩⟩⟩⟩ <;> rw [Nd.isStmt.eq_def] <;> simp [kidsOk, Bool.and_assoc]
theorem IsStmt_47 (n : Int) (s : List UInt8) (l : List Nd) (a : Option Addr) (c : Nat) (S : Nat → Prop) (w : World)
 (hs : rowSits S w l a) (hsl : s.length ≤ 9223372036854775807) (hll : l.length ≤ 9223372036854775807) (hrw : rowWf l) (hb : ∀ t ∈ l, Tests S 11 Nd.isBlock t) :
 Calls Tryz.prog 10 #[.agg #[.int .u8 47, .int .i64 n, str s, .slice a l.length c]] w fun e w' => e = .returned (.bool (Nd.mk 47 n s l).isStmt) ∧ Ext w w' := by
 have HEX : Hid (∀ t ∈ l, Tests S 27 Nd.isExpr t) := Lib.hid fun t ht => IsExpr_t S t (rowWf_get hrw t ht)
 have HPL : Hid (∀ t ∈ l, Tests S 26 Nd.isPlace t) := Lib.hid fun t ht => IsPlace_t S t (rowWf_get hrw t ht)
 have HVA : Hid (∀ t ∈ l, Tests S 30 Nd.isVar t) := Lib.hid fun t ht => isVar_t S t (rowWf_get hrw t ht)
 have HBL := Lib.hid hb; clear hb
 have HSL := Lib.hid hsl; clear hsl hrw
 have hr := isStmt_47 n s l
 have HR := Lib.hid hr; clear hr
 cases hnm : plain n s
 all_goals have HNM := Lib.hid hnm; clear hnm
 all_goals go_enter Tryz.func10, Tryz.ntmps10
 all_goals go_wp2_with (first | (go_at_call 24; refine (plain_c _ _ _ _ _ _ _).mono ?_; rintro e w1 ⟨rfl, hx1⟩; have hc1 := hx1.cells; rw [HNM.out]) | (go_at_call 25; refine (kids_c _ _ _ l a c [(26, Nd.isPlace)] _ _ S _ hll (by decide) (hs.ext (by refine Ext.alloc ?_ _; refine Ext.trans ?_ (by assumption); refine Ext.alloc ?_ _; exact Ext.refl _)) (get1 (by go_simp)) (mem1 en_IsPlace) (mem1 HPL.out)).mono ?_; rintro e w2 ⟨rfl, hx2⟩))
 all_goals go_ret
 all_goals rw [HR.out, HNM.out]
 all_goals exact ⟨ret_bool (by simp), (by repeat (first | exact Ext.refl _ | assumption | refine Ext.alloc ?_ _ | refine Ext.drew ?_ | refine Ext.trans ?_ (by assumption)))⟩
theorem isStmt_48 (n : Int) (s : List UInt8) (l : List Nd) : (Nd.mk 48 n s l).isStmt = (plain n s && kidsOk l [(26, Nd.isPlace)]) := by
 rcases l with _ | ⟨x, _ | ⟨y, _ | ⟨z, _ | ⟨u, _ | ⟨v, l⟩⟩⟩⟩⟩ <;> rw [Nd.isStmt.eq_def] <;> simp [kidsOk, Bool.and_assoc]
theorem IsStmt_48 (n : Int) (s : List UInt8) (l : List Nd) (a : Option Addr) (c : Nat) (S : Nat → Prop) (w : World)
 (hs : rowSits S w l a) (hsl : s.length ≤ 9223372036854775807) (hll : l.length ≤ 9223372036854775807) (hrw : rowWf l) (hb : ∀ t ∈ l, Tests S 11 Nd.isBlock t) :
 Calls Tryz.prog 10 #[.agg #[.int .u8 48, .int .i64 n, str s, .slice a l.length c]] w fun e w' => e = .returned (.bool (Nd.mk 48 n s l).isStmt) ∧ Ext w w' := by
 have HEX : Hid (∀ t ∈ l, Tests S 27 Nd.isExpr t) := Lib.hid fun t ht => IsExpr_t S t (rowWf_get hrw t ht)
 have HPL : Hid (∀ t ∈ l, Tests S 26 Nd.isPlace t) := Lib.hid fun t ht => IsPlace_t S t (rowWf_get hrw t ht)
 have HVA : Hid (∀ t ∈ l, Tests S 30 Nd.isVar t) := Lib.hid fun t ht => isVar_t S t (rowWf_get hrw t ht)
 have HBL := Lib.hid hb; clear hb
 have HSL := Lib.hid hsl; clear hsl hrw
 have hr := isStmt_48 n s l
 have HR := Lib.hid hr; clear hr
 cases hnm : plain n s
 all_goals have HNM := Lib.hid hnm; clear hnm
 all_goals go_enter Tryz.func10, Tryz.ntmps10
 all_goals go_wp2_with (first | (go_at_call 24; refine (plain_c _ _ _ _ _ _ _).mono ?_; rintro e w1 ⟨rfl, hx1⟩; have hc1 := hx1.cells; rw [HNM.out]) | (go_at_call 25; refine (kids_c _ _ _ l a c [(26, Nd.isPlace)] _ _ S _ hll (by decide) (hs.ext (by refine Ext.alloc ?_ _; refine Ext.trans ?_ (by assumption); refine Ext.alloc ?_ _; exact Ext.refl _)) (get1 (by go_simp)) (mem1 en_IsPlace) (mem1 HPL.out)).mono ?_; rintro e w2 ⟨rfl, hx2⟩))
 all_goals go_ret
 all_goals rw [HR.out, HNM.out]
 all_goals exact ⟨ret_bool (by simp), (by repeat (first | exact Ext.refl _ | assumption | refine Ext.alloc ?_ _ | refine Ext.drew ?_ | refine Ext.trans ?_ (by assumption)))⟩
theorem isStmt_49 (n : Int) (s : List UInt8) (l : List Nd) : (Nd.mk 49 n s l).isStmt = (plain n s && kidsOk l [(26, Nd.isPlace)]) := by
 rcases l with _ | ⟨x, _ | ⟨y, _ | ⟨z, _ | ⟨u, _ | ⟨v, l⟩⟩⟩⟩⟩ <;> rw [Nd.isStmt.eq_def] <;> simp [kidsOk, Bool.and_assoc]
theorem IsStmt_49 (n : Int) (s : List UInt8) (l : List Nd) (a : Option Addr) (c : Nat) (S : Nat → Prop) (w : World)
 (hs : rowSits S w l a) (hsl : s.length ≤ 9223372036854775807) (hll : l.length ≤ 9223372036854775807) (hrw : rowWf l) (hb : ∀ t ∈ l, Tests S 11 Nd.isBlock t) :
 Calls Tryz.prog 10 #[.agg #[.int .u8 49, .int .i64 n, str s, .slice a l.length c]] w fun e w' => e = .returned (.bool (Nd.mk 49 n s l).isStmt) ∧ Ext w w' := by
 have HEX : Hid (∀ t ∈ l, Tests S 27 Nd.isExpr t) := Lib.hid fun t ht => IsExpr_t S t (rowWf_get hrw t ht)
 have HPL : Hid (∀ t ∈ l, Tests S 26 Nd.isPlace t) := Lib.hid fun t ht => IsPlace_t S t (rowWf_get hrw t ht)
 have HVA : Hid (∀ t ∈ l, Tests S 30 Nd.isVar t) := Lib.hid fun t ht => isVar_t S t (rowWf_get hrw t ht)
 have HBL := Lib.hid hb; clear hb
 have HSL := Lib.hid hsl; clear hsl hrw
 have hr := isStmt_49 n s l
 have HR := Lib.hid hr; clear hr
 cases hnm : plain n s
 all_goals have HNM := Lib.hid hnm; clear hnm
 all_goals go_enter Tryz.func10, Tryz.ntmps10
 all_goals go_wp2_with (first | (go_at_call 24; refine (plain_c _ _ _ _ _ _ _).mono ?_; rintro e w1 ⟨rfl, hx1⟩; have hc1 := hx1.cells; rw [HNM.out]) | (go_at_call 25; refine (kids_c _ _ _ l a c [(26, Nd.isPlace)] _ _ S _ hll (by decide) (hs.ext (by refine Ext.alloc ?_ _; refine Ext.trans ?_ (by assumption); refine Ext.alloc ?_ _; exact Ext.refl _)) (get1 (by go_simp)) (mem1 en_IsPlace) (mem1 HPL.out)).mono ?_; rintro e w2 ⟨rfl, hx2⟩))
 all_goals go_ret
 all_goals rw [HR.out, HNM.out]
 all_goals exact ⟨ret_bool (by simp), (by repeat (first | exact Ext.refl _ | assumption | refine Ext.alloc ?_ _ | refine Ext.drew ?_ | refine Ext.trans ?_ (by assumption)))⟩
theorem isStmt_52 (n : Int) (s : List UInt8) (l : List Nd) : (Nd.mk 52 n s l).isStmt = (plain n s && kidsOk l [(27, Nd.isExpr), (11, Nd.isBlock), (11, Nd.isBlock), (27, Nd.isExpr)]) := by
 rcases l with _ | ⟨x, _ | ⟨y, _ | ⟨z, _ | ⟨u, _ | ⟨v, l⟩⟩⟩⟩⟩ <;> rw [Nd.isStmt.eq_def] <;> simp [kidsOk, Bool.and_assoc]
theorem IsStmt_52 (n : Int) (s : List UInt8) (l : List Nd) (a : Option Addr) (c : Nat) (S : Nat → Prop) (w : World)
 (hs : rowSits S w l a) (hsl : s.length ≤ 9223372036854775807) (hll : l.length ≤ 9223372036854775807) (hrw : rowWf l) (hb : ∀ t ∈ l, Tests S 11 Nd.isBlock t) :
 Calls Tryz.prog 10 #[.agg #[.int .u8 52, .int .i64 n, str s, .slice a l.length c]] w fun e w' => e = .returned (.bool (Nd.mk 52 n s l).isStmt) ∧ Ext w w' := by
 have HEX : Hid (∀ t ∈ l, Tests S 27 Nd.isExpr t) := Lib.hid fun t ht => IsExpr_t S t (rowWf_get hrw t ht)
 have HPL : Hid (∀ t ∈ l, Tests S 26 Nd.isPlace t) := Lib.hid fun t ht => IsPlace_t S t (rowWf_get hrw t ht)
 have HVA : Hid (∀ t ∈ l, Tests S 30 Nd.isVar t) := Lib.hid fun t ht => isVar_t S t (rowWf_get hrw t ht)
 have HBL := Lib.hid hb; clear hb
 have HSL := Lib.hid hsl; clear hsl hrw
 have hr := isStmt_52 n s l
 have HR := Lib.hid hr; clear hr
 cases hnm : plain n s
 all_goals have HNM := Lib.hid hnm; clear hnm
 all_goals go_enter Tryz.func10, Tryz.ntmps10
 all_goals go_wp2_with (first | (go_at_call 24; refine (plain_c _ _ _ _ _ _ _).mono ?_; rintro e w1 ⟨rfl, hx1⟩; have hc1 := hx1.cells; rw [HNM.out]) | (go_at_call 25; refine (kids_c _ _ _ l a c [(27, Nd.isExpr), (11, Nd.isBlock), (11, Nd.isBlock), (27, Nd.isExpr)] _ _ S _ hll (by decide) (hs.ext (by refine Ext.alloc ?_ _; refine Ext.trans ?_ (by assumption); refine Ext.alloc ?_ _; exact Ext.refl _)) (get4 (by go_simp) (by go_simp) (by go_simp) (by go_simp)) (mem4 en_IsExpr en_IsBlock en_IsBlock en_IsExpr) (mem4 HEX.out HBL.out HBL.out HEX.out)).mono ?_; rintro e w2 ⟨rfl, hx2⟩))
 all_goals go_ret
 all_goals rw [HR.out, HNM.out]
 all_goals exact ⟨ret_bool (by simp), (by repeat (first | exact Ext.refl _ | assumption | refine Ext.alloc ?_ _ | refine Ext.drew ?_ | refine Ext.trans ?_ (by assumption)))⟩
theorem isStmt_53 (n : Int) (s : List UInt8) (l : List Nd) : (Nd.mk 53 n s l).isStmt = (plain n s && kidsOk l [(27, Nd.isExpr), (11, Nd.isBlock), (11, Nd.isBlock), (27, Nd.isExpr)]) := by
 rcases l with _ | ⟨x, _ | ⟨y, _ | ⟨z, _ | ⟨u, _ | ⟨v, l⟩⟩⟩⟩⟩ <;> rw [Nd.isStmt.eq_def] <;> simp [kidsOk, Bool.and_assoc]
theorem IsStmt_53 (n : Int) (s : List UInt8) (l : List Nd) (a : Option Addr) (c : Nat) (S : Nat → Prop) (w : World)
 (hs : rowSits S w l a) (hsl : s.length ≤ 9223372036854775807) (hll : l.length ≤ 9223372036854775807) (hrw : rowWf l) (hb : ∀ t ∈ l, Tests S 11 Nd.isBlock t) :
 Calls Tryz.prog 10 #[.agg #[.int .u8 53, .int .i64 n, str s, .slice a l.length c]] w fun e w' => e = .returned (.bool (Nd.mk 53 n s l).isStmt) ∧ Ext w w' := by
 have HEX : Hid (∀ t ∈ l, Tests S 27 Nd.isExpr t) := Lib.hid fun t ht => IsExpr_t S t (rowWf_get hrw t ht)
 have HPL : Hid (∀ t ∈ l, Tests S 26 Nd.isPlace t) := Lib.hid fun t ht => IsPlace_t S t (rowWf_get hrw t ht)
 have HVA : Hid (∀ t ∈ l, Tests S 30 Nd.isVar t) := Lib.hid fun t ht => isVar_t S t (rowWf_get hrw t ht)
 have HBL := Lib.hid hb; clear hb
 have HSL := Lib.hid hsl; clear hsl hrw
 have hr := isStmt_53 n s l
 have HR := Lib.hid hr; clear hr
 cases hnm : plain n s
 all_goals have HNM := Lib.hid hnm; clear hnm
 all_goals go_enter Tryz.func10, Tryz.ntmps10
 all_goals go_wp2_with (first | (go_at_call 24; refine (plain_c _ _ _ _ _ _ _).mono ?_; rintro e w1 ⟨rfl, hx1⟩; have hc1 := hx1.cells; rw [HNM.out]) | (go_at_call 25; refine (kids_c _ _ _ l a c [(27, Nd.isExpr), (11, Nd.isBlock), (11, Nd.isBlock), (27, Nd.isExpr)] _ _ S _ hll (by decide) (hs.ext (by refine Ext.alloc ?_ _; refine Ext.trans ?_ (by assumption); refine Ext.alloc ?_ _; exact Ext.refl _)) (get4 (by go_simp) (by go_simp) (by go_simp) (by go_simp)) (mem4 en_IsExpr en_IsBlock en_IsBlock en_IsExpr) (mem4 HEX.out HBL.out HBL.out HEX.out)).mono ?_; rintro e w2 ⟨rfl, hx2⟩))
 all_goals go_ret
 all_goals rw [HR.out, HNM.out]
 all_goals exact ⟨ret_bool (by simp), (by repeat (first | exact Ext.refl _ | assumption | refine Ext.alloc ?_ _ | refine Ext.drew ?_ | refine Ext.trans ?_ (by assumption)))⟩
theorem isStmt_54 (n : Int) (s : List UInt8) (l : List Nd) : (Nd.mk 54 n s l).isStmt = (named n s && kidsOk l [(27, Nd.isExpr), (11, Nd.isBlock), (27, Nd.isExpr)]) := by
 rcases l with _ | ⟨x, _ | ⟨y, _ | ⟨z, _ | ⟨u, _ | ⟨v, l⟩⟩⟩⟩⟩ <;> rw [Nd.isStmt.eq_def] <;> simp [kidsOk, Bool.and_assoc]
theorem IsStmt_54 (n : Int) (s : List UInt8) (l : List Nd) (a : Option Addr) (c : Nat) (S : Nat → Prop) (w : World)
 (hs : rowSits S w l a) (hsl : s.length ≤ 9223372036854775807) (hll : l.length ≤ 9223372036854775807) (hrw : rowWf l) (hb : ∀ t ∈ l, Tests S 11 Nd.isBlock t) :
 Calls Tryz.prog 10 #[.agg #[.int .u8 54, .int .i64 n, str s, .slice a l.length c]] w fun e w' => e = .returned (.bool (Nd.mk 54 n s l).isStmt) ∧ Ext w w' := by
 have HEX : Hid (∀ t ∈ l, Tests S 27 Nd.isExpr t) := Lib.hid fun t ht => IsExpr_t S t (rowWf_get hrw t ht)
 have HPL : Hid (∀ t ∈ l, Tests S 26 Nd.isPlace t) := Lib.hid fun t ht => IsPlace_t S t (rowWf_get hrw t ht)
 have HVA : Hid (∀ t ∈ l, Tests S 30 Nd.isVar t) := Lib.hid fun t ht => isVar_t S t (rowWf_get hrw t ht)
 have HBL := Lib.hid hb; clear hb
 have HSL := Lib.hid hsl; clear hsl hrw
 have hr := isStmt_54 n s l
 have HR := Lib.hid hr; clear hr
 cases hnm : named n s
 all_goals have HNM := Lib.hid hnm; clear hnm
 all_goals go_enter Tryz.func10, Tryz.ntmps10
 all_goals go_wp2_with (first | (go_at_call 28; refine (named_c _ _ _ _ _ _ _ HSL.out).mono ?_; rintro e w1 ⟨rfl, hx1⟩; have hc1 := hx1.cells; rw [HNM.out]) | (go_at_call 25; refine (kids_c _ _ _ l a c [(27, Nd.isExpr), (11, Nd.isBlock), (27, Nd.isExpr)] _ _ S _ hll (by decide) (hs.ext (by refine Ext.alloc ?_ _; refine Ext.trans ?_ (by assumption); refine Ext.alloc ?_ _; exact Ext.refl _)) (get3 (by go_simp) (by go_simp) (by go_simp)) (mem3 en_IsExpr en_IsBlock en_IsExpr) (mem3 HEX.out HBL.out HEX.out)).mono ?_; rintro e w2 ⟨rfl, hx2⟩))
 all_goals go_ret
 all_goals rw [HR.out, HNM.out]
 all_goals exact ⟨ret_bool (by simp), (by repeat (first | exact Ext.refl _ | assumption | refine Ext.alloc ?_ _ | refine Ext.drew ?_ | refine Ext.trans ?_ (by assumption)))⟩
theorem isStmt_55 (n : Int) (s : List UInt8) (l : List Nd) : (Nd.mk 55 n s l).isStmt = (named n s && kidsOk l [(11, Nd.isBlock)]) := by
 rcases l with _ | ⟨x, _ | ⟨y, _ | ⟨z, _ | ⟨u, _ | ⟨v, l⟩⟩⟩⟩⟩ <;> rw [Nd.isStmt.eq_def] <;> simp [kidsOk, Bool.and_assoc]
theorem IsStmt_55 (n : Int) (s : List UInt8) (l : List Nd) (a : Option Addr) (c : Nat) (S : Nat → Prop) (w : World)
 (hs : rowSits S w l a) (hsl : s.length ≤ 9223372036854775807) (hll : l.length ≤ 9223372036854775807) (hrw : rowWf l) (hb : ∀ t ∈ l, Tests S 11 Nd.isBlock t) :
 Calls Tryz.prog 10 #[.agg #[.int .u8 55, .int .i64 n, str s, .slice a l.length c]] w fun e w' => e = .returned (.bool (Nd.mk 55 n s l).isStmt) ∧ Ext w w' := by
 have HEX : Hid (∀ t ∈ l, Tests S 27 Nd.isExpr t) := Lib.hid fun t ht => IsExpr_t S t (rowWf_get hrw t ht)
 have HPL : Hid (∀ t ∈ l, Tests S 26 Nd.isPlace t) := Lib.hid fun t ht => IsPlace_t S t (rowWf_get hrw t ht)
 have HVA : Hid (∀ t ∈ l, Tests S 30 Nd.isVar t) := Lib.hid fun t ht => isVar_t S t (rowWf_get hrw t ht)
 have HBL := Lib.hid hb; clear hb
 have HSL := Lib.hid hsl; clear hsl hrw
 have hr := isStmt_55 n s l
 have HR := Lib.hid hr; clear hr
 cases hnm : named n s
 all_goals have HNM := Lib.hid hnm; clear hnm
 all_goals go_enter Tryz.func10, Tryz.ntmps10
 all_goals go_wp2_with (first | (go_at_call 28; refine (named_c _ _ _ _ _ _ _ HSL.out).mono ?_; rintro e w1 ⟨rfl, hx1⟩; have hc1 := hx1.cells; rw [HNM.out]) | (go_at_call 25; refine (kids_c _ _ _ l a c [(11, Nd.isBlock)] _ _ S _ hll (by decide) (hs.ext (by refine Ext.alloc ?_ _; refine Ext.trans ?_ (by assumption); refine Ext.alloc ?_ _; exact Ext.refl _)) (get1 (by go_simp)) (mem1 en_IsBlock) (mem1 HBL.out)).mono ?_; rintro e w2 ⟨rfl, hx2⟩))
 all_goals go_ret
 all_goals rw [HR.out, HNM.out]
 all_goals exact ⟨ret_bool (by simp), (by repeat (first | exact Ext.refl _ | assumption | refine Ext.alloc ?_ _ | refine Ext.drew ?_ | refine Ext.trans ?_ (by assumption)))⟩
theorem isStmt_50 (n : Int) (s : List UInt8) (l : List Nd) : (Nd.mk 50 n s l).isStmt = (named n s && decide (l.length ≤ 8) && l.all Nd.isVar) := by
 rw [Nd.isStmt.eq_def]; simp
theorem IsStmt_50 (n : Int) (s : List UInt8) (l : List Nd) (a : Option Addr) (c : Nat) (S : Nat → Prop) (w : World)
 (hs : rowSits S w l a) (hsl : s.length ≤ 9223372036854775807) (hll : l.length ≤ 9223372036854775807) (hrw : rowWf l) (hb : ∀ t ∈ l, Tests S 11 Nd.isBlock t) :
 Calls Tryz.prog 10 #[.agg #[.int .u8 50, .int .i64 n, str s, .slice a l.length c]] w fun e w' => e = .returned (.bool (Nd.mk 50 n s l).isStmt) ∧ Ext w w' := by
 have HEX : Hid (∀ t ∈ l, Tests S 27 Nd.isExpr t) := Lib.hid fun t ht => IsExpr_t S t (rowWf_get hrw t ht)
 have HPL : Hid (∀ t ∈ l, Tests S 26 Nd.isPlace t) := Lib.hid fun t ht => IsPlace_t S t (rowWf_get hrw t ht)
 have HVA : Hid (∀ t ∈ l, Tests S 30 Nd.isVar t) := Lib.hid fun t ht => isVar_t S t (rowWf_get hrw t ht)
 have HBL := Lib.hid hb; clear hb
 have HSL := Lib.hid hsl; clear hsl hrw
 have hr := isStmt_50 n s l
 have HR := Lib.hid hr; clear hr
 cases hnm : named n s
 · have HNM := Lib.hid hnm; clear hnm
   go_enter Tryz.func10, Tryz.ntmps10
   go_wp2_with (first | (go_at_call 28; refine (named_c _ _ _ _ _ _ _ HSL.out).mono ?_; rintro e w1 ⟨rfl, hx1⟩; have hc1 := hx1.cells; rw [HNM.out]))
   go_ret
   rw [HR.out, HNM.out]
   exact ⟨ret_bool (by simp), (by refine Ext.trans ?_ (by assumption); refine Ext.alloc ?_ _; exact Ext.refl _)⟩
 · have HNM := Lib.hid hnm; clear hnm
   by_cases h8 : l.length ≤ 8
   · have d8 : decide ((l.length : Int) ≤ 8) = true := by simp; omega
     have H8 := Lib.hid h8; clear h8
     go_enter Tryz.func10, Tryz.ntmps10
     go_wp2_with (first | (go_at_call 28; refine (named_c _ _ _ _ _ _ _ HSL.out).mono ?_; rintro e w1 ⟨rfl, hx1⟩; have hc1 := hx1.cells; rw [HNM.out]) | (go_at_call 29; refine (every_c 30 Nd.isVar en_isVar l a c S _ hll (hs.ext (by refine Ext.trans ?_ (by assumption); refine Ext.alloc ?_ _; exact Ext.refl _)) HVA.out).mono ?_; rintro e w2 ⟨rfl, hx2⟩))
     go_ret
     rw [HR.out, HNM.out]
     exact ⟨ret_bool (by simp [H8.out]), (by refine Ext.trans ?_ (by assumption); refine Ext.trans ?_ (by assumption); refine Ext.alloc ?_ _; exact Ext.refl _)⟩
   · have d8 : decide ((l.length : Int) ≤ 8) = false := by simp; omega
     have H8 := Lib.hid h8; clear h8
     go_enter Tryz.func10, Tryz.ntmps10
     go_wp2_with (first | (go_at_call 28; refine (named_c _ _ _ _ _ _ _ HSL.out).mono ?_; rintro e w1 ⟨rfl, hx1⟩; have hc1 := hx1.cells; rw [HNM.out]))
     go_ret
     rw [HR.out, HNM.out]
     exact ⟨ret_bool (by simp [H8.out]), (by refine Ext.trans ?_ (by assumption); refine Ext.alloc ?_ _; exact Ext.refl _)⟩
theorem isStmt_51 (n : Int) (s : List UInt8) (l : List Nd) : (Nd.mk 51 n s l).isStmt = (named n s && decide (l.length ≤ 8) && l.all Nd.isVar) := by
 rw [Nd.isStmt.eq_def]; simp
theorem IsStmt_51 (n : Int) (s : List UInt8) (l : List Nd) (a : Option Addr) (c : Nat) (S : Nat → Prop) (w : World)
 (hs : rowSits S w l a) (hsl : s.length ≤ 9223372036854775807) (hll : l.length ≤ 9223372036854775807) (hrw : rowWf l) (hb : ∀ t ∈ l, Tests S 11 Nd.isBlock t) :
 Calls Tryz.prog 10 #[.agg #[.int .u8 51, .int .i64 n, str s, .slice a l.length c]] w fun e w' => e = .returned (.bool (Nd.mk 51 n s l).isStmt) ∧ Ext w w' := by
 have HEX : Hid (∀ t ∈ l, Tests S 27 Nd.isExpr t) := Lib.hid fun t ht => IsExpr_t S t (rowWf_get hrw t ht)
 have HPL : Hid (∀ t ∈ l, Tests S 26 Nd.isPlace t) := Lib.hid fun t ht => IsPlace_t S t (rowWf_get hrw t ht)
 have HVA : Hid (∀ t ∈ l, Tests S 30 Nd.isVar t) := Lib.hid fun t ht => isVar_t S t (rowWf_get hrw t ht)
 have HBL := Lib.hid hb; clear hb
 have HSL := Lib.hid hsl; clear hsl hrw
 have hr := isStmt_51 n s l
 have HR := Lib.hid hr; clear hr
 cases hnm : named n s
 · have HNM := Lib.hid hnm; clear hnm
   go_enter Tryz.func10, Tryz.ntmps10
   go_wp2_with (first | (go_at_call 28; refine (named_c _ _ _ _ _ _ _ HSL.out).mono ?_; rintro e w1 ⟨rfl, hx1⟩; have hc1 := hx1.cells; rw [HNM.out]))
   go_ret
   rw [HR.out, HNM.out]
   exact ⟨ret_bool (by simp), (by refine Ext.trans ?_ (by assumption); refine Ext.alloc ?_ _; exact Ext.refl _)⟩
 · have HNM := Lib.hid hnm; clear hnm
   by_cases h8 : l.length ≤ 8
   · have d8 : decide ((l.length : Int) ≤ 8) = true := by simp; omega
     have H8 := Lib.hid h8; clear h8
     go_enter Tryz.func10, Tryz.ntmps10
     go_wp2_with (first | (go_at_call 28; refine (named_c _ _ _ _ _ _ _ HSL.out).mono ?_; rintro e w1 ⟨rfl, hx1⟩; have hc1 := hx1.cells; rw [HNM.out]) | (go_at_call 29; refine (every_c 30 Nd.isVar en_isVar l a c S _ hll (hs.ext (by refine Ext.trans ?_ (by assumption); refine Ext.alloc ?_ _; exact Ext.refl _)) HVA.out).mono ?_; rintro e w2 ⟨rfl, hx2⟩))
     go_ret
     rw [HR.out, HNM.out]
     exact ⟨ret_bool (by simp [H8.out]), (by refine Ext.trans ?_ (by assumption); refine Ext.trans ?_ (by assumption); refine Ext.alloc ?_ _; exact Ext.refl _)⟩
   · have d8 : decide ((l.length : Int) ≤ 8) = false := by simp; omega
     have H8 := Lib.hid h8; clear h8
     go_enter Tryz.func10, Tryz.ntmps10
     go_wp2_with (first | (go_at_call 28; refine (named_c _ _ _ _ _ _ _ HSL.out).mono ?_; rintro e w1 ⟨rfl, hx1⟩; have hc1 := hx1.cells; rw [HNM.out]))
     go_ret
     rw [HR.out, HNM.out]
     exact ⟨ret_bool (by simp [H8.out]), (by refine Ext.trans ?_ (by assumption); refine Ext.alloc ?_ _; exact Ext.refl _)⟩
theorem isStmt_else (k n : Int) (s : List UInt8) (l : List Nd) (h : k < 40 ∨ 56 < k) : (Nd.mk k n s l).isStmt = false := by
 rw [Nd.isStmt.eq_def]; simp only []; rw [if_neg (by omega), if_neg (by omega), if_neg (by omega), if_neg (by omega), if_neg (by omega), if_neg (by omega), if_neg (by omega), if_neg (by omega)]
theorem IsStmt_else (k n : Int) (s : List UInt8) (l : List Nd) (a : Option Addr) (c : Nat) (w : World) (h : k < 40 ∨ 56 < k) :
 Calls Tryz.prog 10 #[.agg #[.int .u8 k, .int .i64 n, str s, .slice a l.length c]] w fun e w' => e = .returned (.bool (Nd.mk k n s l).isStmt) ∧ Ext w w' := by
 have hr := isStmt_else k n s l h
 have HR := Lib.hid hr; clear hr
 have d40 : (k == 40) = false := by rw [beq_eq_false_iff_ne]; omega
 have d41 : (k == 41) = false := by rw [beq_eq_false_iff_ne]; omega
 have d42 : (k == 42) = false := by rw [beq_eq_false_iff_ne]; omega
 have d43 : (k == 43) = false := by rw [beq_eq_false_iff_ne]; omega
 have d44 : (k == 44) = false := by rw [beq_eq_false_iff_ne]; omega
 have d45 : (k == 45) = false := by rw [beq_eq_false_iff_ne]; omega
 have d46 : (k == 46) = false := by rw [beq_eq_false_iff_ne]; omega
 have d47 : (k == 47) = false := by rw [beq_eq_false_iff_ne]; omega
 have d48 : (k == 48) = false := by rw [beq_eq_false_iff_ne]; omega
 have d49 : (k == 49) = false := by rw [beq_eq_false_iff_ne]; omega
 have d50 : (k == 50) = false := by rw [beq_eq_false_iff_ne]; omega
 have d51 : (k == 51) = false := by rw [beq_eq_false_iff_ne]; omega
 have d52 : (k == 52) = false := by rw [beq_eq_false_iff_ne]; omega
 have d53 : (k == 53) = false := by rw [beq_eq_false_iff_ne]; omega
 have d54 : (k == 54) = false := by rw [beq_eq_false_iff_ne]; omega
 have d55 : (k == 55) = false := by rw [beq_eq_false_iff_ne]; omega
 have d56 : (k == 56) = false := by rw [beq_eq_false_iff_ne]; omega
 clear h
 go_enter Tryz.func10, Tryz.ntmps10
 go_wp2_with fail
 go_ret
 rw [HR.out]
 exact ⟨rfl, (by refine Ext.alloc ?_ _; exact Ext.refl _)⟩
theorem IsStmt_any (k n : Int) (s : List UInt8) (l : List Nd) (a : Option Addr) (c : Nat) (S : Nat → Prop) (w : World)
 (hs : rowSits S w l a) (hsl : s.length ≤ 9223372036854775807) (hll : l.length ≤ 9223372036854775807) (hrw : rowWf l) (hb : ∀ t ∈ l, Tests S 11 Nd.isBlock t) :
 Calls Tryz.prog 10 #[.agg #[.int .u8 k, .int .i64 n, str s, .slice a l.length c]] w fun e w' => e = .returned (.bool (Nd.mk k n s l).isStmt) ∧ Ext w w' := by
 by_cases h : k < 40 ∨ 56 < k
 · exact IsStmt_else k n s l a c w h
 by_cases h40 : k = 40
 · subst h40; exact IsStmt_40 n s l a c S w hs hsl hll hrw hb
 by_cases h41 : k = 41
 · subst h41; exact IsStmt_41 n s l a c S w hs hsl hll hrw hb
 by_cases h42 : k = 42
 · subst h42; exact IsStmt_42 n s l a c S w hs hsl hll hrw hb
 by_cases h43 : k = 43
 · subst h43; exact IsStmt_43 n s l a c S w hs hsl hll hrw hb
 by_cases h44 : k = 44
 · subst h44; exact IsStmt_44 n s l a c S w hs hsl hll hrw hb
 by_cases h45 : k = 45
 · subst h45; exact IsStmt_45 n s l a c S w hs hsl hll hrw hb
 by_cases h46 : k = 46
 · subst h46; exact IsStmt_46 n s l a c S w hs hsl hll hrw hb
 by_cases h47 : k = 47
 · subst h47; exact IsStmt_47 n s l a c S w hs hsl hll hrw hb
 by_cases h48 : k = 48
 · subst h48; exact IsStmt_48 n s l a c S w hs hsl hll hrw hb
 by_cases h49 : k = 49
 · subst h49; exact IsStmt_49 n s l a c S w hs hsl hll hrw hb
 by_cases h50 : k = 50
 · subst h50; exact IsStmt_50 n s l a c S w hs hsl hll hrw hb
 by_cases h51 : k = 51
 · subst h51; exact IsStmt_51 n s l a c S w hs hsl hll hrw hb
 by_cases h52 : k = 52
 · subst h52; exact IsStmt_52 n s l a c S w hs hsl hll hrw hb
 by_cases h53 : k = 53
 · subst h53; exact IsStmt_53 n s l a c S w hs hsl hll hrw hb
 by_cases h54 : k = 54
 · subst h54; exact IsStmt_54 n s l a c S w hs hsl hll hrw hb
 by_cases h55 : k = 55
 · subst h55; exact IsStmt_55 n s l a c S w hs hsl hll hrw hb
 by_cases h56 : k = 56
 · subst h56; exact IsStmt_56 n s l a c S w hs hsl hll hrw hb
 omega
theorem IsBlock_any (k n : Int) (s : List UInt8) (l : List Nd) (a : Option Addr) (c : Nat) (S : Nat → Prop) (w : World)
 (hs : rowSits S w l a) (hll : l.length ≤ 9223372036854775807) (ht : ∀ t ∈ l, Tests S 10 Nd.isStmt t) :
 Calls Tryz.prog 11 #[.agg #[.int .u8 k, .int .i64 n, str s, .slice a l.length c]] w fun e w' => e = .returned (.bool (Nd.mk k n s l).isBlock) ∧ Ext w w' := by
 have hall : ∀ r : List Nd, rowStmt r = r.all Nd.isStmt := by
  intro r
  induction r with
  | nil => rfl
  | cons x r ih => simp [rowStmt, ih]
 have hr : (Nd.mk k n s l).isBlock = (k == 57 && plain n s && l.all Nd.isStmt) := by rw [Nd.isBlock, hall]
 have HR := Lib.hid hr; clear hr hall
 have HT := Lib.hid ht; clear ht
 by_cases h57 : k = 57
 · subst h57
   cases hnm : plain n s
   all_goals have HNM := Lib.hid hnm; clear hnm
   all_goals go_enter Tryz.func11, Tryz.ntmps11
   all_goals go_wp2_with (first | (go_at_call 24; refine (plain_c _ _ _ _ _ _ _).mono ?_; rintro e w1 ⟨rfl, hx1⟩; have hc1 := hx1.cells; rw [HNM.out]) | (go_at_call 29; refine (every_c 10 Nd.isStmt en_IsStmt l a c S _ hll (hs.ext (by refine Ext.trans ?_ (by assumption); refine Ext.alloc ?_ _; exact Ext.refl _)) HT.out).mono ?_; rintro e w2 ⟨rfl, hx2⟩))
   all_goals go_ret
   all_goals rw [HR.out, HNM.out]
   all_goals exact ⟨ret_bool (by simp), (by repeat (first | exact Ext.refl _ | assumption | refine Ext.alloc ?_ _ | refine Ext.drew ?_ | refine Ext.trans ?_ (by assumption)))⟩
 · have d57 : (k == 57) = false := by rw [beq_eq_false_iff_ne]; omega
   clear h57
   go_enter Tryz.func11, Tryz.ntmps11
   go_wp2_with fail
   go_ret
   rw [HR.out]
   exact ⟨ret_bool (by simp [d57]), (by refine Ext.alloc ?_ _; exact Ext.refl _)⟩
theorem IsStmtBlock_c (S : Nat → Prop) (N : Nat) : (∀ t : Nd, t.size < N → t.wf → Tests S 10 Nd.isStmt t) ∧ (∀ t : Nd, t.size < N → t.wf → Tests S 11 Nd.isBlock t) := by
 induction N with
 | zero => exact ⟨fun t h => absurd h (Nat.not_lt_zero _), fun t h => absurd h (Nat.not_lt_zero _)⟩
 | succ N ih =>
  refine ⟨?_, ?_⟩
  · rintro ⟨k, n, s, l⟩ hN hwf a c w hs
    simp only [Nd.wf, Nd.size, Nd.sits] at *
    exact IsStmt_any k n s l a c S w hs hwf.2.2.2.2.1 hwf.2.2.2.2.2.1 hwf.2.2.2.2.2.2 (fun t ht => ih.2 t (by have := size_mem ht; omega) (rowWf_get hwf.2.2.2.2.2.2 t ht))
  · rintro ⟨k, n, s, l⟩ hN hwf a c w hs
    simp only [Nd.wf, Nd.size, Nd.sits] at *
    exact IsBlock_any k n s l a c S w hs hwf.2.2.2.2.2.1 (fun t ht => ih.1 t (by have := size_mem ht; omega) (rowWf_get hwf.2.2.2.2.2.2 t ht))
theorem IsStmt_t (S : Nat → Prop) (t : Nd) (h : t.wf) : Tests S 10 Nd.isStmt t := (IsStmtBlock_c S (t.size + 1)).1 t (by omega) h
theorem IsBlock_t (S : Nat → Prop) (t : Nd) (h : t.wf) : Tests S 11 Nd.isBlock t := (IsStmtBlock_c S (t.size + 1)).2 t (by omega) h
end Bk
namespace Bk
open Go Go.RowKit Go.Proofs
attribute [local irreducible] Go.Calls
theorem qw_retc2 {P : Program} {n : Nat} {l : Sl} {tab : Tab} {sz : Nat} {w : World} {fn : Func} {R : Ending → World → Prop} {ct cty b s : Nat} {sk : Sk} {vs : List Value} {v3 : Value} (h : fn.results = #[.cell ct cty, .tmp s]) (T : TabOk P tab) (ht : lookT tab cty = some (sk, sz)) (hs : sk.agg = true) (hv : look l ct = some (.pointer (some ⟨b, 0, none⟩))) (hb : Blk w b vs) (hl : vs.length = sz)
 (hz : look l s = some v3) (hR : R (.returned (.tuple #[.agg vs.toArray, v3])) w) : QW n (bodyPost P fn R) .ret l w := by
 unfold QW
 intro a ha; refine ⟨ha.defers, .tuple #[.agg vs.toArray, v3], ?_, hR⟩
 have e : (loadVar cty ⟨b, 0, none⟩).run P w = .ok (.agg vs.toArray) w := by
  simp only [Sem.run_bind, Sem.run_pure, Result.andThen, loadVar, run_isAgg (T _ _ _ ht), hs, if_true, run_sizeOf (T _ _ _ ht)]; rw [← hl, run_loadCells' hb.row]
 have hv' := ha.has ct _ hv; have hz' := ha.has s _ hz; simp only [Array.getD_eq_getD_getElem?] at hv' hz'
 simp [results, h, hv', hz', e, asAddr]
theorem isStmt_v {t : Nd} (hwf : t.wf) {b : Bool} (h : t.isStmt = b) (S : Nat → Prop) (a : Option Addr) (c : Nat) (w : World) (hs : t.sits S w a) : Calls Tryz.prog 10 #[t.val a c] w fun e w' => e = .returned (.bool b) ∧ Ext w w' := by
 have := IsStmt_t S t hwf a c w hs
 rw [h] at this; exact this
theorem isBlockI_v {t : Nd} (hwf : t.wf) {b : Bool} (h : t.isBlock = b) (S : Nat → Prop) (a : Option Addr) (c : Nat) (w : World) (hs : t.sits S w a) : Calls Tryz.prog 11 #[t.val a c] w fun e w' => e = .returned (.bool b) ∧ Ext w w' := by
 have := IsBlock_t S t hwf a c w hs
 rw [h] at this; exact this
def StmtR (u : Nd) (w : World) : Ending → World → Prop := fun e w' => ∃ a c, e = .returned (.tuple #[u.val a c, .int .i64 0]) ∧ u.sits (fun b => w.heap.size ≤ b ∧ b < w'.heap.size) w' a ∧ Ext w w'
theorem StmtR.ret {u : Nd} {w : World} {e : Ending} {w' : World} (h : StmtR u w e w') : ∃ v, e = .returned v := by
 obtain ⟨_, _, h, -⟩ := h
 exact ⟨_, h⟩
theorem invert_t (q : Bool) (t : Nd) (hz : t.size ≤ 1000000) (hv : t.isStmt = true ∨ t.isBlock = true) (S : Nat → Prop) (a : Option Addr) (c : Nat) (w : World) (hs : t.sits S w a) : Calls Tryz.prog 23 #[t.val a c, .bool q] w (CopyR (t.inv q) w) := Invert_c q (t.size + 1) t S a c w (by omega) hz hv hs
set_option maxRecDepth 100000 in
set_option maxHeartbeats 4000000 in
theorem iStmt_v {t : Nd} (hwf : t.wf) (hz : t.size ≤ 1000000) (hv : t.isStmt = true ∨ t.isBlock = true) (S : Nat → Prop) (a : Option Addr) (c : Nat) (w : World) (hs : t.sits S w a) : Calls Tryz.prog 9 #[t.val a c] w (StmtR (t.inv false) w) := by
 have X := Ext.refl w; replace hs := sits_ltA _ _ hs; have HI := Lib.hid (invert_t false t hz hv)
 by_cases h : t.isStmt = true
 · have HS := Lib.hid (isStmt_v hwf h)
   clear hwf hv h; refine calls_in Tryz.func9 Tryz.ntmps9 rfl rfl ?_
   focus
    refine cS ?_; (refine lw_box' [_, _, _, _] rfl rfl rfl ?_; intro b1 w2 n3); have h4 := n3.blk; have x5 := n3.ext; have p6 := n3.pos; have z7 := n3.size; clear n3; replace X := X.ext x5; replace hs := Nd.sits.ext hs x5; clear x5; (refine lw_alloc' [_, _, _, _] zOk rfl rfl ?_; intro b8 w9 n10); have h12 := n10.blk; have x13 := n10.ext; have p14 := n10.pos; have z15 := n10.size; clear n10; replace h4 := h4.ext x13; replace X := X.ext x13; replace hs := Nd.sits.ext hs x13; clear x13; refine cA rfl rfl (cT (cw_seq (cS (lw_loads_b' [_, _, _, _] tabOk rfl rfl rfl h4 rfl rfl rfl ?_)))); refine cC (by kernel_rfl) rfl (HS.out _ _ _ _ (by assumption)) rfl ?_; rintro _ w17 ⟨⟨⟩, x16⟩; have z18 := x16.size; replace h12 := h12.ext x16; replace h4 := h4.ext x16; replace X := X.ext x16; replace hs := Nd.sits.ext hs x16; clear x16; refine lw_pure (pur_not rfl) rfl (cM rfl rfl (lw_off rfl rfl rfl (rfl) rfl (lw_off rfl rfl rfl (rfl) rfl (lw_off rfl rfl rfl (rfl) rfl (lw_pure (pur_pick_f rfl rfl rfl) rfl (cT (cw_cond_f rfl (cw_skip (qw_then (cS (lw_loads_b' [_, _, _, _] tabOk rfl rfl rfl h4 rfl rfl rfl ?_))))))))))); refine cR (by kernel_rfl) rfl (HI.out _ _ _ _ (by assumption)) (fun _ _ h => h.ret) rfl ?_; rintro _ w23 ⟨a19, ⟨c20, ⟨⟨⟩, ⟨h21, x22⟩⟩⟩⟩; have z24 := x22.size; replace h12 := h12.ext x22; replace h4 := h4.ext x22; replace X := X.ext x22; replace hs := Nd.sits.ext hs x22; clear x22; (refine lw_store' [_, _, _, _] [_, _, _, _] tabOk rfl rfl rfl rfl rfl rfl h12 rfl rfl ?_; intro w25 n26)
    have h29 := n26.blk; have f27 := n26.fr; have z28 := n26.size; clear n26 h12; replace h21 := Nd.sits.fr h21 f27 (by omega); replace h4 := h4.fr f27 (by omega); replace X := X.fr f27 (by omega); replace hs := Nd.sits.fr hs f27 (by omega); clear f27; refine cA rfl rfl (cT (cw_ret ?_)); rotate_left 1
   refine qw_retc2 rfl tabOk rfl rfl rfl h29 rfl rfl ?_
   exact ⟨_, _, rfl, Nd.sits.wide (by assumption) (fun b h => by omega), X⟩
 · have HS := Lib.hid (isStmt_v hwf (show t.isStmt = false by simpa using h))
   have HB := Lib.hid (isBlockI_v hwf (hv.resolve_left h)); clear hwf hv h; refine calls_in Tryz.func9 Tryz.ntmps9 rfl rfl ?_
   focus
    refine cS ?_; (refine lw_box' [_, _, _, _] rfl rfl rfl ?_; intro ba1 wa2 na3); have ha4 := na3.blk; have xa5 := na3.ext; have pa6 := na3.pos; have za7 := na3.size; clear na3; replace X := X.ext xa5; replace hs := Nd.sits.ext hs xa5; clear xa5; (refine lw_alloc' [_, _, _, _] zOk rfl rfl ?_; intro ba8 wa9 na10); have ha12 := na10.blk; have xa13 := na10.ext; have pa14 := na10.pos; have za15 := na10.size; clear na10; replace ha4 := ha4.ext xa13; replace X := X.ext xa13; replace hs := Nd.sits.ext hs xa13; clear xa13; refine cA rfl rfl (cT (cw_seq (cS (lw_loads_b' [_, _, _, _] tabOk rfl rfl rfl ha4 rfl rfl rfl ?_)))); refine cC (by kernel_rfl) rfl (HS.out _ _ _ _ (by assumption)) rfl ?_; rintro _ wa17 ⟨⟨⟩, xa16⟩; have za18 := xa16.size; replace ha12 := ha12.ext xa16; replace ha4 := ha4.ext xa16; replace X := X.ext xa16; replace hs := Nd.sits.ext hs xa16; clear xa16; refine lw_pure (pur_not rfl) rfl (cM rfl rfl (lw_on rfl rfl rfl (rfl) (lw_loads_b' [_, _, _, _] tabOk rfl rfl rfl ha4 rfl rfl rfl (lw_on rfl rfl rfl (rfl) ?_)))); refine cC (by kernel_rfl) rfl (HB.out _ _ _ _ (by assumption)) rfl ?_; rintro _ wa20 ⟨⟨⟩, xa19⟩; have za21 := xa19.size; replace ha12 := ha12.ext xa19; replace ha4 := ha4.ext xa19; replace X := X.ext xa19; replace hs := Nd.sits.ext hs xa19; clear xa19; refine lw_on rfl rfl rfl (rfl) (lw_pure (pur_not rfl) rfl (lw_pure (pur_pick_t rfl rfl rfl) rfl (cT (cw_cond_f rfl (cw_skip (qw_then (cS (lw_loads_b' [_, _, _, _] tabOk rfl rfl rfl ha4 rfl rfl rfl ?_))))))))
    refine cR (by kernel_rfl) rfl (HI.out _ _ _ _ (by assumption)) (fun _ _ h => h.ret) rfl ?_; rintro _ wa26 ⟨aa22, ⟨ca23, ⟨⟨⟩, ⟨ha24, xa25⟩⟩⟩⟩; have za27 := xa25.size; replace ha12 := ha12.ext xa25; replace ha4 := ha4.ext xa25; replace X := X.ext xa25; replace hs := Nd.sits.ext hs xa25; clear xa25; (refine lw_store' [_, _, _, _] [_, _, _, _] tabOk rfl rfl rfl rfl rfl rfl ha12 rfl rfl ?_; intro wa28 na29); have ha32 := na29.blk; have fa30 := na29.fr; have za31 := na29.size; clear na29 ha12; replace ha24 := Nd.sits.fr ha24 fa30 (by omega); replace ha4 := ha4.fr fa30 (by omega); replace X := X.fr fa30 (by omega); replace hs := Nd.sits.fr hs fa30 (by omega); clear fa30; refine cA rfl rfl (cT (cw_ret ?_)); rotate_left 1
   refine qw_retc2 rfl tabOk rfl rfl rfl (by assumption) rfl rfl ?_
   exact ⟨_, _, rfl, Nd.sits.wide (by assumption) (fun b h => by omega), X⟩
theorem equalI_v (t : Nd) (hz : t.size ≤ 1000000) (u : Nd) (S S' : Nat → Prop) (a a' : Option Addr) (c c' : Nat) (w : World) (hs : t.sits S w a) (hs' : u.sits S' w a') : Calls Tryz.prog 12 #[t.val a c, u.val a' c'] w fun e w' => e = .returned (.bool (t.eqb u)) ∧ Ext w w' :=
 Equal_b (t.size + 1) t u S S' a a' c c' w (by omega) (by omega) hs hs'
set_option maxRecDepth 100000 in
set_option maxHeartbeats 4000000 in
theorem palin_v {t : Nd} (hwf : t.wf) (hz : t.size ≤ 1000000) (hb : t.isBlock = true) (S : Nat → Prop) (a : Option Addr) (c : Nat) (w : World) (hs : t.sits S w a) : Calls Tryz.prog 13 #[t.val a c] w fun e w' => e = .returned (.bool (t.eqb (t.inv false))) ∧ Ext w w' := by
 have X := Ext.refl w; replace hs := sits_ltA _ _ hs; have HI := Lib.hid (invert_t false t hz (Or.inr hb)); have HB := Lib.hid (isBlockI_v hwf hb); have HE := Lib.hid (equalI_v t hz); clear hwf hb; refine calls_in Tryz.func13 Tryz.ntmps13 rfl rfl ?_
 focus
  refine cS ?_; (refine lw_box' [_, _, _, _] rfl rfl rfl ?_; intro b1 w2 n3); have h4 := n3.blk; have x5 := n3.ext; have p6 := n3.pos; have z7 := n3.size; clear n3; replace X := X.ext x5; replace hs := Nd.sits.ext hs x5; clear x5; refine cA rfl rfl (cT (cw_seq ?_)); (refine cw_tdraw (fun wz => Ext w2 wz) 6 (.pure 0 (.fork 1 (.pure 2 (.pure 3 (.pure 4 (.fork 5 .tail .none)))) .none)) mixed (by kernel_rfl) (panicOk_then panicOk_body) ?_; intro w8 x9 _); have qs10 : (fun wz => Ext w2 wz) w8 := x9; simp only at qs10; have d_h4 := h4; have d_hs := hs; have z11 := x9.size; replace h4 := h4.ext x9; replace X := X.ext x9; replace hs := Nd.sits.ext hs x9; clear x9; refine ⟨qs10, ?_⟩; refine tw_pure rfl (pur_loads_blk' [_, _, _, _] tabOk rfl rfl rfl (fun wz hz => (Blk.ext d_h4 hz)) rfl rfl) rfl ?_; refine tw_does rfl (does_call (by kernel_rfl) rfl (HB.out _ _ _ _ (by assumption)) (fun _ _ h => ⟨_, h.1⟩)) rfl ?_ (fun _ h => h) tw_none; rintro _ w14 ⟨⟨⟩, x13⟩; have z15 := x13.size; replace qs10 := qs10.ext x13; replace h4 := h4.ext x13; replace X := X.ext x13; replace hs := Nd.sits.ext hs x13; clear x13; refine ⟨qs10, ?_⟩; refine tw_pure rfl (pur_move rfl) rfl (tw_on rfl rfl rfl rfl (rfl) (pur_loads_blk' [_, _, _, _] tabOk rfl rfl rfl (fun wz hz => (Blk.ext d_h4 hz)) rfl rfl) rfl (tw_on rfl rfl rfl rfl (rfl) (pur_loads_blk' [_, _, _, _] tabOk rfl rfl rfl (fun wz hz => (Blk.ext d_h4 hz)) rfl rfl) rfl ?_)); refine tw_does_on rfl rfl rfl rfl (rfl) (does_call (by kernel_rfl) rfl (HI.out _ _ _ _ (by assumption)) (fun _ _ h => h.ret)) rfl ?_ (fun _ h => h) tw_none
  rintro _ w21 ⟨a17, ⟨c18, ⟨⟨⟩, ⟨h19, x20⟩⟩⟩⟩; have z22 := x20.size; replace qs10 := qs10.ext x20; replace h4 := h4.ext x20; replace X := X.ext x20; replace hs := Nd.sits.ext hs x20; clear x20; refine ⟨qs10, ?_⟩; clear d_h4 d_hs qs10; refine tw_tail rfl (lw_on rfl rfl rfl (rfl) ?_); refine cC (by kernel_rfl) rfl (HE.out _ _ _ _ _ _ _ _ (by assumption) (by assumption)) rfl ?_; rintro _ w24 ⟨⟨⟩, x23⟩; have z25 := x23.size; replace h19 := Nd.sits.ext h19 x23; replace h4 := h4.ext x23; replace X := X.ext x23; replace hs := Nd.sits.ext hs x23; clear x23; refine lw_pure (pur_pick_t rfl rfl rfl) rfl (cA rfl rfl (cT (cw_ret (qw_ret1 rfl rfl ?_)))); rotate_left 1
 exact ⟨rfl, X⟩
end Bk
